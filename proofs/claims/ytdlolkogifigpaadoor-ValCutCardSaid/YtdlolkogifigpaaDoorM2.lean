/- Merged texts: S11 S12 S13 S14 S15 S16 S17. No statement of the program is proved here. -/
import Derived.Test.YtdlolkogifigpaaDoorM1
import Derived.BigCall
import Derived.Laws.BytesString
import Derived.Laws.MakeOwn
set_option linter.unusedSimpArgs false
set_option linter.unusedVariables false
section
/- Sh: each operation on plain values is the operation (the last part). No statement of the program is proved here. -/
namespace Go.Sh
open Go Go.RowKit
set_option maxHeartbeats 4000000
section
variable {B : Base} {s : FS} {a : Act} {w w' : World} {E E' : Env} {r : Rows} {P : Program} {C : Oracle} {g : Glob}

theorem eqGuard_const (op : BinOp) (t : TypeId) (x y : Operand) (vx vy : Value) (h : ¬ (vx = .nilIface ∧ vy = .nilIface)) : eqGuard op t x y vx vy = eqGuard op t (.const vx) (.const vy) vx vy := by
  unfold eqGuard
  cases vx <;> cases vy <;> first | rfl | simp at h
theorem get_vals (h : Sim B s a w E) {xs : List Operand} {vs : List Value} (hx : seqO (fun x : Arg => (x.get s).bind TV.val) (xs.map Arg.of) = some vs) : xs.map a.eval = vs := by
  obtain ⟨l1, h1⟩ := seqO_spec hx
  apply List.ext_getElem?
  intro i
  rcases Nat.lt_or_ge i xs.length with hi | hi
  · obtain ⟨y, hy1, hy2⟩ := h1 i (Arg.of xs[i]) (by rw [List.getElem?_map, List.getElem?_eq_getElem hi]; rfl)
    rw [hy1, List.getElem?_map, List.getElem?_eq_getElem hi]
    exact congrArg some (get_val h hy2)
  · rw [List.getElem?_eq_none (by simpa using hi), List.getElem?_eq_none (by simp at l1; omega)]
theorem get_opt (h : Sim B s a w E) {x : Option Operand} {v : Option Value} (hx : optO (fun x : Arg => (x.get s).bind TV.val) (x.map Arg.of) = some v) : x.map a.eval = v := by
  cases x with
  | none => simp [optO] at hx; subst hx; rfl
  | some x =>
    simp only [Option.map_some, optO] at hx
    obtain ⟨y, h1, rfl⟩ := Option.map_eq_some_iff.1 hx
    simp [get_val h h1]

theorem wp_does {o : Oper} {s' : FS} {x : TV} (hd : Does P B s' x a w o) (hdst : ∀ k, o.dst = some k → k < B.N) {next : Act → World → Prop} {Q : Exit → Act → World → Prop}
    (hn : ∀ v w' E', Sim B (s'.put o.dst x) (a.put o.dst v) w' E' → next (a.put o.dst v) w') : o.wp P a w next Q := by
  obtain ⟨nx, v, w', E', h1, h2, h3, h4⟩ := hd
  unfold Oper.wp
  rw [h1]
  rcases h2 with rfl | ⟨rfl, rfl⟩
  · exact hn v w' E' (h3.put hdst h4)
  · exact hn undef w' E' (h3.put hdst h4)
theorem bound_rel (h : Sim B s a w E) {x : Option Operand} {dflt n : Nat} (hx : bound s dflt (x.map Arg.of) = some n) : (x = none ∧ n = dflt) ∨ ∃ y k, x = some y ∧ a.eval y = .int k n := by
  cases x with
  | none => simp [bound] at hx; exact .inl ⟨rfl, hx.symm⟩
  | some x =>
    simp only [Option.map_some, bound] at hx
    obtain ⟨i, h1, h2⟩ := Option.bind_eq_some_iff.1 hx
    obtain ⟨t, h3, h4⟩ := Option.bind_eq_some_iff.1 h1
    split at h2
    · rename_i h0
      cases h2
      obtain ⟨k, hk⟩ := int_rel (arg_rel h h3) h4
      exact .inr ⟨x, k, rfl, by rw [hk]; congr 1; omega⟩
    · cases h2
theorem run_slice_any {t e : TypeId} {i : TypeInfo} (hu : P.underlying t = some (.slice e)) (hi : P.info? e = some i) (p : Option Addr) (len cap : Nat) (lo hi' : Option Value) (l h : Nat) (hl : (lo = none ∧ l = 0) ∨ ∃ k, lo = some (.int k l)) (hh : (hi' = none ∧ h = len) ∨ ∃ k, hi' = some (.int k h)) (h1 : l ≤ h) (h2 : h ≤ len) (h3 : len ≤ cap) :
    (Instr.sliceAt t (.slice p len cap) lo hi' none).run P w = .ok (.slice (if cap = l then p else p.map (·.add (l * i.size))) (h - l) (cap - l)) w := by
  have hb : (Instr.sliceBounds true len cap lo hi' none).run P w = .ok (l, h, cap) w := by
    rcases hl with ⟨rfl, rfl⟩ | ⟨k, rfl⟩ <;> rcases hh with ⟨rfl, rfl⟩ | ⟨k', rfl⟩
    · simp [Instr.sliceBounds, Result.andThen]
    · simp [Instr.sliceBounds, Instr.sliceBound, asIntOf, Result.andThen]
      rw [if_pos (by omega)]
    · simp [Instr.sliceBounds, Instr.sliceBound, asIntOf, Result.andThen]
      rw [if_pos (by omega)]
    · simp [Instr.sliceBounds, Instr.sliceBound, asIntOf, Result.andThen]
      rw [if_pos (by omega)]
      simp
      rw [if_pos (by omega)]
  simp [Instr.sliceAt, Instr.slice, run_underlying hu, hb, run_sizeOf hi, Result.andThen]

theorem ids0_ment {t : TV} {d : Nat} (h : d ∈ t.ids0) : Ment d t := by
  cases t <;> simp only [TV.ids0, List.mem_singleton, List.not_mem_nil] at h
  · subst h; exact .ptr _
  · subst h; exact .own _ _
  · subst h; exact .bs _ _ _
theorem ids1_ment {t : TV} {d : Nat} (h : d ∈ t.ids1) : Ment d t := by
  cases t with
  | fn f x y =>
    simp only [TV.ids1, List.mem_append, List.mem_flatMap] at h
    rcases h with ⟨c, h1, h2⟩ | ⟨c, h1, h2⟩
    · exact .fn1 h1 (ids0_ment h2)
    · exact .fn2 h1 (ids0_ment h2)
  | _ => exact ids0_ment h
theorem ids2_ment {t : TV} {d : Nat} (h : d ∈ t.ids2) : Ment d t := by
  cases t with
  | agg cs =>
    simp only [TV.ids2, List.mem_flatMap] at h
    obtain ⟨c, h1, h2⟩ := h
    exact .agg h1 (ids1_ment h2)
  | _ => exact ids1_ment h
theorem reach_spec {rows : Bool} : ∀ (n : Nat) (l seen : List Nat), seen.Nodup → (∀ d ∈ seen, s.ment d) → (∀ d ∈ l, s.ment d) → (reach s rows n l seen).Nodup ∧ ∀ d ∈ reach s rows n l seen, s.ment d
  | 0, l, seen, h1, h2, _ => by simp only [reach]; exact ⟨h1, h2⟩
  | n + 1, [], seen, h1, h2, _ => by simp only [reach]; exact ⟨h1, h2⟩
  | n + 1, d :: l, seen, h1, h2, h3 => by
    have hl : ∀ d ∈ l, s.ment d := fun x hx => h3 x (List.mem_cons_of_mem _ hx)
    have hd := h3 d (List.mem_cons_self ..)
    simp only [reach]
    cases hp : pos seen d with
    | some j => exact reach_spec n l seen h1 h2 hl
    | none =>
      have hnot := pos_none hp
      have hnd : (seen ++ [d]).Nodup := List.nodup_append.2 ⟨h1, by simp, by
        intro x hx y hy; simp at hy; subst hy; rintro rfl; exact hnot hx⟩
      have hms : ∀ x ∈ seen ++ [d], s.ment x := by
        intro x hx
        rcases List.mem_append.1 hx with hx | hx
        · exact h2 x hx
        · simp at hx; subst hx; exact hd
      cases hb : s.b d with
      | some cs =>
        refine reach_spec n _ _ hnd hms (fun x hx => ?_)
        rcases List.mem_append.1 hx with hx | hx
        · obtain ⟨c, hc, hx⟩ := List.mem_flatMap.1 hx
          exact .inr ⟨d, cs, c, hb, hc, ids1_ment hx⟩
        · exact hl x hx
      | none =>
        cases hr : s.r d with
        | none => exact reach_spec n l seen h1 h2 hl
        | some q =>
          cases rows with
          | true => exact reach_spec n l _ hnd hms hl
          | false => exact reach_spec n l seen h1 h2 hl
/-- The own names of what a call is handed. -/
def handI (s : FS) (mode : Nat) (xs : List TV) : List Nat := if Nat.beq mode 0 then [] else reach s (Nat.beq mode 2) 64 (xs.flatMap TV.ids2) []
theorem handI_spec (mode : Nat) {xs : List TV} (h : ∀ x ∈ xs, ∀ d, Ment d x → s.ment d) : (handI s mode xs).Nodup ∧ ∀ d ∈ handI s mode xs, s.ment d := by
  unfold handI
  split
  · simp
  · refine reach_spec _ _ _ (by simp) (by simp) (fun d hd => ?_)
    obtain ⟨x, hx, hd⟩ := List.mem_flatMap.1 hd
    exact h x hx d (ids2_ment hd)
theorem callEff_inv {k f mode : Nat} {xs : List TV} {x : TV} {u : Upd} (h : callEff C s k f mode xs = some (x, u)) : ∃ xs' os y os' us, seqO (TV.ren2 (rhoIn (handI s mode xs))) xs = some xs' ∧ seqO (fun d => (s.mo d).bind (MO.ren (rhoIn (handI s mode xs)))) (handI s mode xs) = some os ∧
    C f xs' os = some (y, os') ∧ moOk os os' = true ∧ y.ren3 (rhoOut (handI s mode xs) k) = some x ∧ outs (rhoOut (handI s mode xs) k) 0 os' = some us ∧ u = .mem us := by
  unfold callEff at h
  simp only [] at h
  split at h
  · rename_i xs' os h1 h2
    split at h
    · rename_i y os' h3
      split at h
      · rename_i h4
        split at h
        · rename_i y' us h5 h6
          cases h
          exact ⟨xs', os, y, os', us, h1, h2, h3, h4, h5, h6, rfl⟩
        · cases h
      · cases h
    · cases h
  · cases h
theorem wp_callAt (h : Sim B s a w E) (hG : g.G B.w0) (hX : ∀ d b, B.X d b → g.n ≤ b) {o : Oper} {f mode : Nat} {xs : List TV} {vs : List Value} (hmx : ∀ x ∈ xs, ∀ d, Ment d x → s.ment d) (hl : xs.length = vs.length) (hxs : ∀ (j : Nat) x v, xs[j]? = some x → vs[j]? = some v → RelT w E s.r x v)
    (hop : hasBody P f → (execOp a.eval o).run P w = .ok (.enter f vs.toArray) w) (hdst : ∀ k, o.dst = some k → k < B.N) (hC : ∀ f xs os y os', C f xs os = some (y, os') → SCalls P g f xs os y os') (hm0 : B.m ≤ 1000) (hf : ∀ q < 4, Fresh s (newId (dstId o.dst) q))
    {x : TV} {u : Upd} (he : callEff C s (dstId o.dst) f mode xs = some (x, u)) {next : Act → World → Prop} {Q : Exit → Act → World → Prop}
    (hn : ∀ v w' E', Sim B ((s.upd o.dst u).put o.dst x) (a.put o.dst v) w' E' → next (a.put o.dst v) w') : o.wp P a w next Q := by
  obtain ⟨xs', os, y, os', us, h1, h2, h3, h4, h5, h6, rfl⟩ := callEff_inv he
  obtain ⟨hI, hIm⟩ := handI_spec mode hmx
  obtain ⟨hbody, hcall⟩ := hC f xs' os y os' h3
  have hn0 := g.le _ hG
  have hw0 := h.mem.low.size
  have hGw : g.G w := g.st _ _ hG (fun k hk => h.mem.low.block k (by omega) (fun d hd => by have := hX d k hd; omega))
  have hrho : RenOk E s.r (rhoIn (handI s mode xs)) (envIn E (handI s mode xs)) (objR os) := renIn h2
  obtain ⟨l1, q1⟩ := seqR (w := w) (fun _ _ _ => ren2_rel hrho (fun _ _ _ h _ => h)) hl hxs h1
  have hblk : ∀ d b, objX (envIn E (handI s mode xs)) os d b → g.n ≤ b := by
    intro d b hx
    obtain ⟨hlen, hB, hR⟩ := handed h2
    rcases hx with ⟨cs, e1, e2⟩ | ⟨⟨e, W, n⟩, cap, e1, e2⟩
    · obtain ⟨j, rfl, hj⟩ := objB_inv e1
      obtain ⟨i, c, b1, b2, _⟩ := hB j cs hj
      have e3 : E.β i = b := by rw [← e2]; simp only [envIn]; rw [getD_of b1]
      rcases (h.mem.box i c b2).2 with e4 | e4
      · omega
      · have := hX _ _ e4; omega
    · obtain ⟨j, rfl, hj⟩ := objR_inv e1
      obtain ⟨i, b1, b2, b3⟩ := hR j e W n hj
      have e3 : E.γ i = some (b, cap) := by rw [← e2]; simp only [envIn]; rw [getD_of b1]
      rcases h.mem.row i e W n b3 with ⟨e4, _⟩ | ⟨b', c', e4, e5, _⟩
      · rw [e4] at e3; cases e3
      · rw [e4] at e3; cases e3
        rcases e5 with e5 | e5
        · omega
        · exact hX _ _ e5
  have hcalls := hcall w (envIn E (handI s mode xs)) vs hGw (call_pre h hI h2) hblk l1 q1
  unfold Oper.wp
  rw [hop hbody]
  refine hcalls.mono ?_
  rintro e w' ⟨v, E', rfl, hm, hv, hleft⟩
  obtain ⟨hS, hren⟩ := call_post h hI hIm hm0 hf h2 h4 h6 hm hleft o.dst
  exact hn v w' _ (hS.put hdst (ren3_rel hren (fun _ _ _ h _ => h) hv h5))
theorem get_list (h : Sim B s a w E) {xs : List Operand} {ts : List TV} (hx : seqO (fun x : Arg => x.get s) (xs.map Arg.of) = some ts) : ts.length = (xs.map a.eval).length ∧ (∀ (j : Nat) x v, ts[j]? = some x → (xs.map a.eval)[j]? = some v → RelT w E s.r x v) ∧ ∀ x ∈ ts, ∀ d, Ment d x → s.ment d := by
  obtain ⟨l1, h1⟩ := seqO_spec hx
  have key : ∀ (j : Nat) x, ts[j]? = some x → ∃ y, xs[j]? = some y ∧ (Arg.of y).get s = some x := by
    intro j x hj
    have hjl : j < xs.length := by have := (List.getElem?_eq_some_iff.1 hj).1; simp at l1; omega
    obtain ⟨y, hy1, hy2⟩ := h1 j (Arg.of xs[j]) (by rw [List.getElem?_map, List.getElem?_eq_getElem hjl]; rfl)
    rw [hj] at hy1; cases hy1
    exact ⟨xs[j], List.getElem?_eq_getElem hjl, hy2⟩
  refine ⟨by simp at l1; simp [l1], fun j x v hj hv => ?_, fun x hx' d hd => ?_⟩
  · obtain ⟨y, hy1, hy2⟩ := key j x hj
    rw [List.getElem?_map, hy1] at hv; cases hv
    exact arg_rel h hy2
  · obtain ⟨j, hj⟩ := List.getElem?_of_mem hx'
    obtain ⟨y, hy1, hy2⟩ := key j x hj
    exact get_ment hy2 hd

theorem run_ssub {t : TypeId} (hu : P.underlying t = some .string) (z : ByteArray) (lo hi' : Option Value) (l h : Nat) (hl : (lo = none ∧ l = 0) ∨ ∃ k, lo = some (.int k l)) (hh : (hi' = none ∧ h = z.size) ∨ ∃ k, hi' = some (.int k h)) (h1 : l ≤ h) (h2 : h ≤ z.size) :
    (Instr.sliceAt t (.string z) lo hi' none).run P w = .ok (.string (z.extract l h)) w := by
  have hb : (Instr.sliceBounds false z.size z.size lo hi' none).run P w = .ok (l, h, z.size) w := by
    rcases hl with ⟨rfl, rfl⟩ | ⟨k, rfl⟩ <;> rcases hh with ⟨rfl, rfl⟩ | ⟨k', rfl⟩
    · simp [Instr.sliceBounds, Result.andThen]
    · simp [Instr.sliceBounds, Instr.sliceBound, asIntOf, Result.andThen]
      rw [if_pos (by omega)]
    · simp [Instr.sliceBounds, Instr.sliceBound, asIntOf, Result.andThen]
      rw [if_pos (by omega)]
    · simp [Instr.sliceBounds, Instr.sliceBound, asIntOf, Result.andThen]
      rw [if_pos (by omega)]
      simp
      rw [if_pos (by omega)]
  simp [Instr.sliceAt, Instr.slice, run_underlying hu, hb, Result.andThen]
theorem run_b2s {es : List (List PV)} {v : Value} {l : List UInt8} (h : RelV w E.K (.sl 1 es) v) (hl : seqO byteOf es = some l) : (Conv.bytesToString v).run P w = .ok (.string ⟨l.toArray⟩) w := by
  obtain ⟨b, off, cap, p, f, rfl, hp, hcap, hmax, hW, hc⟩ := relV_sl_inv h
  let num : List PV → Int := fun e => match e with | [.v (.int .u8 n)] => n | _ => 0
  have hes : ∀ (e : List PV) u, byteOf e = some u → e = [.v (.int .u8 (num e))] ∧ u = UInt8.ofNat (num e).toNat := by
    intro e u he
    unfold byteOf at he
    split at he
    · cases he; exact ⟨rfl, rfl⟩
    · cases he
  have hfold : ∀ (es : List (List PV)) (l : List UInt8) (acc : ByteArray), seqO byteOf es = some l → (es.map num).foldl (fun r n => r.push (UInt8.ofNat n.toNat)) acc = ⟨acc.data ++ l.toArray⟩ := by
    intro es
    induction es with
    | nil => intro l acc hl; simp [seqO] at hl; subst hl; simp
    | cons e r ih =>
      intro l acc hl
      obtain ⟨y, zs, h1, h2, rfl⟩ := seqO_cons hl
      simp only [List.map_cons, List.foldl_cons]
      rw [ih zs _ h2, ← (hes e y h1).2]
      cases acc
      simp [ByteArray.push]
  cases p with
  | none =>
    have : es = [] := by
      apply Classical.byContradiction
      intro hne
      have := hp hne; cases this
    subst this
    simp [seqO] at hl; subst hl
    simp [Conv.bytesToString]; rfl
  | some ad =>
    have hload : (loadCells ad es.length).run P w = .ok ((es.map num).map (Value.int .u8)).toArray w := by
      have := run_loadCells_list (P := P) (w := w) ad ((es.map num).map (Value.int .u8)) (fun j v hv => by
        simp only [List.getElem?_map, Option.map_map] at hv
        obtain ⟨e, he, rfl⟩ := Option.map_eq_some_iff.1 hv
        obtain ⟨l1, h1⟩ := seqO_spec hl
        obtain ⟨u, _, hu⟩ := h1 j e he
        obtain ⟨e1, _⟩ := hes e u hu
        have hpe := hp (by rintro rfl; simp at he)
        have had : ad = ⟨b, off, none⟩ := Option.some.inj hpe
        subst had
        obtain ⟨⟨_, h2, _⟩, h3⟩ := hc j 0 e (.v (.int .u8 (num e))) he (by rw [e1]; rfl)
        rw [Addr.add_mid]
        have hv : f j 0 = .int .u8 (num e) := by
          generalize f j 0 = q at h3
          cases h3; rfl
        rw [hv] at h2
        simpa using h2)
      simpa using this
    rw [run_bytesToString w ad es.length cap _ hload, hfold es l _ hl]
    simp
theorem relApp {xs ys : List TV} {us vs : List Value} (h1 : xs.length = us.length) (h2 : ys.length = vs.length) (r1 : ∀ (j : Nat) c v, xs[j]? = some c → us[j]? = some v → RelT w E r c v) (r2 : ∀ (j : Nat) c v, ys[j]? = some c → vs[j]? = some v → RelT w E r c v) :
    ∀ (j : Nat) c v, (xs ++ ys)[j]? = some c → (us ++ vs)[j]? = some v → RelT w E r c v := by
  intro j c v hc hv
  rcases Nat.lt_or_ge j xs.length with hj | hj
  · rw [List.getElem?_append_left hj] at hc
    rw [List.getElem?_append_left (by omega)] at hv
    exact r1 j c v hc hv
  · rw [List.getElem?_append_right hj] at hc
    rw [List.getElem?_append_right (by omega), ← h1] at hv
    exact r2 _ c v hc hv
theorem callee_rel {t : TV} {v : Value} {f : Nat} {fa fb : List TV} (h : RelT w E r t v) (ht : t.callee = some (f, fa, fb)) : ∃ us cs : List Value, v = .func (.func f) us.toArray cs.toArray ∧ fa.length = us.length ∧ fb.length = cs.length ∧
    (∀ (j : Nat) c v, fa[j]? = some c → us[j]? = some v → RelT w E r c v) ∧ (∀ (j : Nat) c v, fb[j]? = some c → cs[j]? = some v → RelT w E r c v) ∧ ∀ x, (x ∈ fa ∨ x ∈ fb) → ∀ d, Ment d x → Ment d t := by
  unfold TV.callee at ht
  split at ht
  · cases ht
    cases h with
    | fn g xs ys us vs h1 h2 r1 r2 =>
    exact ⟨us, vs, rfl, h1, h2, r1, r2, fun x hx d hd => hx.elim (fun hx => .fn1 hx hd) (fun hx => .fn2 hx hd)⟩
  · cases ht
    cases h with
    | pv h =>
    cases h with
    | fn g xs ys us vs h1 h2 r1 r2 =>
    refine ⟨us, vs, rfl, by simpa using h1, by simpa using h2, fun j c v hc hv => ?_, fun j c v hc hv => ?_, fun x hx d hd => ?_⟩
    · rw [List.getElem?_map] at hc
      obtain ⟨p, hp, rfl⟩ := Option.map_eq_some_iff.1 hc
      exact .pv (r1 j p v hp hv)
    · rw [List.getElem?_map] at hc
      obtain ⟨p, hp, rfl⟩ := Option.map_eq_some_iff.1 hc
      exact .pv (r2 j p v hp hv)
    · rcases hx with hx | hx
      · obtain ⟨p, _, rfl⟩ := List.mem_map.1 hx; cases hd
      · obtain ⟨p, _, rfl⟩ := List.mem_map.1 hx; cases hd
  · cases ht
    cases h with
    | pv h =>
    cases h
    exact ⟨[], [], rfl, rfl, rfl, by simp, by simp, by simp⟩
  · cases ht
theorem made_list (z : Array Value) (hz : 0 < z.size) : ∀ n, (madeCells z (n * z.size)).toList = (List.replicate n z.toList).flatten
  | 0 => by simp [madeCells]
  | n + 1 => by
    have ih := made_list z hz n
    simp only [madeCells, Array.toList_map, Array.toList_range] at ih ⊢
    rw [Nat.add_mul, Nat.one_mul, List.range_add, List.map_append, ih, List.replicate_succ', List.flatten_append]
    congr 1
    simp only [List.map_map, List.flatten_cons, List.flatten_nil, List.append_nil]
    apply List.ext_getElem?
    intro j
    rcases Nat.lt_or_ge j z.size with hj | hj
    · have e : (n * z.size + j) % z.size = j := by rw [Nat.mul_comm, Nat.mul_add_mod, Nat.mod_eq_of_lt hj]
      simp [hj, e]
    · rw [List.getElem?_eq_none (by simpa using hj), List.getElem?_eq_none (by simpa using hj)]
theorem does_mks (h : Sim B s a w E) {o : Oper} {t e : TypeId} {la : Nat} (hop : o.op = .makeSlice t (.tmp la) (.tmp la)) (hu : P.underlying t = some (.slice e)) {i : TypeInfo} {zv : Value} (hi : P.info? e = some i) (hz : i.zero = some zv) (hzl : zv.cells.size = i.size ∧ 0 < i.size ∧ zv.cells.toList.all (·.oneCell') = true)
    {d : Nat} (hd : o.dst = some d) (hno : ¬ B.old d) (hf : Fresh s d) {k : Int} (hk : (Arg.tmp la).get s = some (.pv (.v (.int .i64 k)))) (hle : 0 ≤ k ∧ (i.bytes : Int) * k ≤ 140737488355328 ∧ k ≤ maxLen) :
    Does P B (s.upd o.dst (.box ((List.replicate k.toNat (zv.cells.toList.map fun v => TV.pv (.v v))).flatten))) (.bs d 0 k.toNat k.toNat) a w o := by
  have hv := val_rel (y := .int .i64 k) (arg_rel h (x := .tmp la) hk) rfl
  have h63 : k ≤ 9223372036854775807 := by have := hle.2.2; simp only [maxLen] at this; omega
  have hrun := run_make (P := P) w t e i zv hu hi hz .i64 .i64 k k hle.1 (Int.le_refl _) (by have := hle.2.1; omega) h63
  have hones : ∀ v ∈ zv.cells.toList, one v := fun v hv => List.all_eq_true.1 hzl.2.2 v hv
  have hmade : (madeCells zv.cells (k.toNat * i.size)).toList = (List.replicate k.toNat zv.cells.toList).flatten := by rw [← hzl.1]; exact made_list zv.cells (by rw [hzl.1]; exact hzl.2.1) k.toNat
  have hmap : (List.replicate k.toNat (zv.cells.toList.map fun v => TV.pv (.v v))).flatten = ((List.replicate k.toNat zv.cells.toList).flatten).map fun v => TV.pv (.v v) := by simp [List.map_flatten]
  have ho : ∀ v ∈ (List.replicate k.toNat zv.cells.toList).flatten, one v := by
    intro v hv
    obtain ⟨l, h1, h2⟩ := List.mem_flatten.1 hv
    rw [List.eq_of_mem_replicate h1] at h2
    exact hones v h2
  have hrel := RelL.ofVals (w := w) (E := E) (r := s.r) ho
  obtain ⟨E', hE, hS⟩ := h.newB hno hf e _ _ hrel.len hrel.at_ ho (by
    intro c hc hmc
    obtain ⟨v, _, rfl⟩ := List.mem_map.1 hc
    cases hmc)
  have harr : (List.replicate k.toNat zv.cells.toList).flatten.toArray = madeCells zv.cells (k.toNat * i.size) := by rw [← hmade]
  rw [harr] at hS
  refine ⟨.value (.slice (some ⟨w.heap.size, 0, none⟩) k.toNat k.toNat), _, w.alloc (.cells (madeCells zv.cells (k.toNat * i.size)) e), E', ?_, .inl rfl, by rw [hd, hmap]; exact hS, ?_⟩
  · simp [execOp, hop, hv, hrun, Result.andThen]
  · rw [← hE]; exact .bs d 0 _ _
theorem sim_op (h : Sim B s a w E) {o : Oper} {sop : SOp} {hint : Nat} (hm0 : B.m ≤ 1000) (hN : B.N ≤ 1000) (hG : g.G B.w0) (hX : ∀ d b, B.X d b → g.n ≤ b) (ht : transOp P o hint = some sop) (hdst : ∀ k, o.dst = some k → k < B.N) (hf : ∀ d ∈ sop.news o.dst, Fresh s d) (hC : ∀ f xs os y os', C f xs os = some (y, os') → SCalls P g f xs os y os')
    {x : TV} {u : Upd} (he : eff P C o.dst sop s = some (x, u)) {next : Act → World → Prop} {Q : Exit → Act → World → Prop}
    (hn : ∀ v w' E', Sim B ((s.upd o.dst u).put o.dst x) (a.put o.dst v) w' E' → next (a.put o.dst v) w') : o.wp P a w next Q := by
  have hno : ∀ d, o.dst = some d → ¬ B.old d := fun d hd ho => Nat.not_lt.2 (Nat.le_trans hN ho.1) (hdst d hd)
  have vD : ∀ {v : Value}, u = .no → (execOp a.eval o).run P w = .ok (.value v) w → RelT w E s.r x v → o.wp P a w next Q := by
    rintro v rfl hr hx
    exact wp_does (does_value h hr hx) hdst hn
  have nD : u = .no ∧ Does P B s x a w o → o.wp P a w next Q := by
    rintro ⟨rfl, hd⟩
    exact wp_does hd hdst hn
  cases hop : o.op with
  | move z =>
    simp only [transOp, hop, Option.some.injEq] at ht; subst ht
    obtain ⟨v, h1, h2⟩ := Option.map_eq_some_iff.1 he
    cases h2
    exact vD rfl (by simp [execOp, hop]) (arg_rel h h1)
  | assign z =>
    simp only [transOp, hop, Option.some.injEq] at ht; subst ht
    obtain ⟨v, h1, h2⟩ := Option.map_eq_some_iff.1 he
    cases h2
    exact vD rfl (by simp [execOp, hop]) (arg_rel h h1)
  | pick c y z =>
    simp only [transOp, hop, Option.some.injEq] at ht; subst ht
    simp only [eff] at he
    split at he
    · rename_i t hc
      have hc' := val_rel (y := .bool t) (arg_rel h hc) rfl
      obtain ⟨v, h1, h2⟩ := Option.map_eq_some_iff.1 he
      cases h2
      cases t
      · exact vD rfl (by simp [execOp, hop, hc', asBool, Result.andThen]) (arg_rel h h1)
      · exact vD rfl (by simp [execOp, hop, hc', asBool, Result.andThen]) (arg_rel h h1)
    · cases he
  | alloc t =>
    simp only [transOp, hop] at ht
    split at ht <;> try (cases ht; done)
    rename_i i hi
    split at ht <;> try (cases ht; done)
    rename_i zv hz
    split at ht <;> try (cases ht; done)
    rename_i h1
    cases ht
    exact wp_does (does_new h hop hno (fun d hd => hf d (by simp [SOp.news, hd])) hi hz h1 he) hdst hn
  | box t z =>
    simp only [transOp, hop, Option.some.injEq] at ht; subst ht
    exact wp_does (does_box h hop hno (fun d hd => hf d (by simp [SOp.news, hd])) he) hdst hn
  | build t parts =>
    simp only [transOp, hop] at ht
    split at ht <;> try (cases ht; done)
    rename_i i fs hi hu
    split at ht <;> try (cases ht; done)
    rename_i zv hz
    split at ht <;> try (cases ht; done)
    rename_i h1
    obtain ⟨ps, h2, rfl⟩ := Option.map_eq_some_iff.1 ht
    rw [Bool.and_eq_true] at h1
    exact nD (does_build h hop hi hu hz h1.1 h2 (fun k f hk => by
      have := Array.all_eq_true.1 h1.2 k (Array.getElem?_eq_some_iff.1 hk).1
      rw [(Array.getElem?_eq_some_iff.1 hk).2] at this
      exact Option.isSome_iff_exists.1 this) he)
  | buildSlice t len parts =>
    simp only [transOp, hop] at ht
    split at ht <;> try (cases ht; done)
    rename_i e hu
    split at ht <;> try (cases ht; done)
    rename_i i hi
    split at ht <;> try (cases ht; done)
    rename_i zv hz
    split at ht <;> try (cases ht; done)
    rename_i h1
    cases ht
    exact nD (does_bsl h hop hu hi hz h1 he)
  | load t z =>
    simp only [transOp, hop] at ht
    split at ht <;> try (cases ht; done)
    rename_i d i hu hi
    cases ht
    exact nD (does_ld h hop hu hi he)
  | store t y z =>
    simp only [transOp, hop] at ht
    split at ht <;> try (cases ht; done)
    rename_i i hi
    cases ht
    exact wp_does (does_st h hop hi he) hdst hn
  | nilCheck z =>
    simp only [transOp, hop, Option.some.injEq] at ht; subst ht
    simp only [eff] at he
    split at he
    · rename_i d off hz
      cases he
      have hx := arg_rel h hz
      generalize hv : a.eval z = v at hx
      cases hx
      exact vD rfl (by simp [execOp, hop, hv]) (.ptr d off)
    · rename_i cs hz
      cases he
      have hx := arg_rel h hz
      generalize hv : a.eval z = v at hx
      cases hx with
      | pv hx =>
      cases hx with
      | el _ b off f h1 h2 => exact vD rfl (by simp [execOp, hop, hv]) (.pv (.el cs b off f h1 h2))
    · cases he
  | binOp op t y z t' =>
    simp only [transOp, hop, Option.some.injEq] at ht; subst ht
    simp only [eff] at he
    split at he
    · cases he
    · rename_i vx vy hne hx hy
      obtain ⟨v, rfl, rfl, hrun⟩ := scal_inv he
      have e1 := get_val h hx
      have e2 := get_val h hy
      have hq := eqGuard_const op t y z vx vy (fun hh => hne hh.1 hh.2)
      have hr := hrun w
      refine vD rfl (v := v) ?_ (.pv (.v v))
      simp only [execOp, hop, e1, e2]
      rw [hq]
      simp only [Sem.run_bind] at hr ⊢
      rw [hr]; rfl
    · cases he
  | unOp op t y =>
    simp only [transOp, hop, Option.some.injEq] at ht; subst ht
    simp only [eff] at he
    split at he
    · rename_i vx hx
      obtain ⟨v, rfl, rfl, hrun⟩ := scal_inv he
      exact vD rfl (by simp [execOp, hop, get_val h hx, hrun w, Result.andThen]) (.pv (.v v))
    · cases he
  | convert src dst y =>
    simp only [transOp, hop] at ht
    split at ht <;> try (cases ht; done)
    · rename_i k1 k2 hs hd
      cases ht
      simp only [eff] at he
      obtain ⟨n, h1, h2⟩ := Option.map_eq_some_iff.1 he
      cases h2
      obtain ⟨ty, hy1, hy2⟩ := Option.bind_eq_some_iff.1 h1
      obtain ⟨k, hk⟩ := int_rel (arg_rel h hy1) hy2
      exact vD rfl (v := .int k2 (k2.wrap n)) (by simp [execOp, hop, hk, convert, run_underlying hs, run_underlying hd, Conv.intToInt, Result.andThen]) (.pv (.v _))
    · rename_i hs hd
      cases ht
      simp only [eff] at he
      obtain ⟨n, h1, h2⟩ := Option.map_eq_some_iff.1 he
      cases h2
      obtain ⟨ty, hy1, hy2⟩ := Option.bind_eq_some_iff.1 h1
      have hk := str_rel (arg_rel h hy1) hy2
      exact vD rfl (v := .string n) (by simp [execOp, hop, hk, convert, run_underlying hs, run_underlying hd, Result.andThen]) (.pv (.v _))
    · rename_i e hs hd
      split at ht <;> try (cases ht; done)
      rename_i he8
      cases ht
      simp only [eff] at he
      obtain ⟨l, h1, h2⟩ := Option.map_eq_some_iff.1 he
      cases h2
      obtain ⟨es, hes, hl⟩ := Option.bind_eq_some_iff.1 h1
      obtain ⟨ty, hy1, hy2⟩ := Option.bind_eq_some_iff.1 hes
      have hrel := elems_rel (arg_rel h hy1) hy2
      have hb := run_b2s (P := P) hrel hl
      obtain ⟨b, off, cap, p, f, hv, _⟩ := relV_sl_inv hrel
      rw [hv] at hb
      exact vD rfl (v := .string ⟨l.toArray⟩) (by simp [execOp, hop, hv, convert, run_underlying hs, run_underlying hd, run_underlying he8, hb, Result.andThen]) (.pv (.v _))
  | slice t y lo hi mx =>
    cases mx with
    | some m => simp [transOp, hop] at ht
    | none =>
      simp only [transOp, hop] at ht
      split at ht
      · rename_i hu
        cases ht
        simp only [eff] at he
        split at he
        · rename_i z hz
          obtain ⟨ty, hy1, hy2⟩ := Option.bind_eq_some_iff.1 hz
          have hv := str_rel (arg_rel h hy1) hy2
          split at he
          · rename_i l hh hl1 hh1
            split at he
            · rename_i hle
              cases he
              have hl2 := bound_rel h hl1
              have hh2 := bound_rel h hh1
              have hrun := run_ssub (P := P) (w := w) hu z (lo.map a.eval) (hi.map a.eval) l hh
                (hl2.imp (fun ⟨h1, h2⟩ => ⟨by rw [h1]; rfl, h2⟩) (fun ⟨q, k, h1, h2⟩ => ⟨k, by rw [h1, Option.map_some, h2]⟩))
                (hh2.imp (fun ⟨h1, h2⟩ => ⟨by rw [h1]; rfl, h2⟩) (fun ⟨q, k, h1, h2⟩ => ⟨k, by rw [h1, Option.map_some, h2]⟩)) hle.1 hle.2
              exact vD rfl (v := .string (z.extract l hh)) (by simp [execOp, hop, hv, hrun, Result.andThen]) (.pv (.v _))
            · cases he
          · cases he
        · cases he
      · rename_i e hu
        split at ht <;> try (cases ht; done)
        rename_i i hi'
        cases ht
        simp only [eff] at he
        split at he
        · rename_i d off n c hbs
          have hx := arg_rel h hbs
          generalize hv : a.eval y = v at hx
          cases hx
          split at he
          · rename_i l hh hl1 hh1
            split at he
            · rename_i hle
              cases he
              have hl2 := bound_rel h hl1
              have hh2 := bound_rel h hh1
              have hrun := run_slice_any (P := P) (w := w) hu hi' (some ⟨E.β d, off, none⟩) n c (lo.map a.eval) (hi.map a.eval) l hh
                (hl2.imp (fun ⟨h1, h2⟩ => ⟨by rw [h1]; rfl, h2⟩) (fun ⟨q, k, h1, h2⟩ => ⟨k, by rw [h1, Option.map_some, h2]⟩))
                (hh2.imp (fun ⟨h1, h2⟩ => ⟨by rw [h1]; rfl, h2⟩) (fun ⟨q, k, h1, h2⟩ => ⟨k, by rw [h1, Option.map_some, h2]⟩)) hle.1 hle.2.1 hle.2.2
              refine vD rfl (v := .slice (if c = l then some ⟨E.β d, off, none⟩ else (some (⟨E.β d, off, none⟩ : Addr)).map (·.add (l * i.size))) (hh - l) (c - l)) (by simp only [execOp, hop, hv, Option.map_none]; rw [Sem.run_bind, hrun]; rfl) ?_
              by_cases hcl : c = l
              · simp only [hcl, if_true]; exact .bs d off _ _
              · simp only [if_neg hcl, Option.map_some, Addr.add_mid]; exact .bs d _ _ _
            · cases he
          · cases he
        · rename_i ty hnb hy1
          split at he <;> try (cases he; done)
          rename_i es hy2
          have hrel := elems_rel (arg_rel h hy1) hy2
          obtain ⟨b, off, cap, p, f, hv, hp, hcap, hmax, hW, hc⟩ := relV_sl_inv hrel
          split at he
          · rename_i l hh hl1 hh1
            split at he
            · rename_i hle
              cases he
              have hl2 := bound_rel h hl1
              have hh2 := bound_rel h hh1
              have hrun := run_slice_any (P := P) (w := w) hu hi' p es.length cap (lo.map a.eval) (hi.map a.eval) l hh
                (hl2.imp (fun ⟨h1, h2⟩ => ⟨by rw [h1]; rfl, h2⟩) (fun ⟨q, k, h1, h2⟩ => ⟨k, by rw [h1, Option.map_some, h2]⟩))
                (hh2.imp (fun ⟨h1, h2⟩ => ⟨by rw [h1]; rfl, h2⟩) (fun ⟨q, k, h1, h2⟩ => ⟨k, by rw [h1, Option.map_some, h2]⟩)) hle.1 hle.2 hcap
              refine vD rfl (v := .slice (if cap = l then p else p.map (·.add (l * i.size))) (hh - l) (cap - l)) ?_ (.pv ?_)
              · simp [execOp, hop, hv, hrun, Result.andThen]
              · have hlen : ((es.take hh).drop l).length = hh - l := by simp; omega
                have hget : ∀ (k : Nat) ps, ((es.take hh).drop l)[k]? = some ps → es[l + k]? = some ps ∧ k < hh - l := by
                  intro k ps hk
                  have hk' : k < hh - l := by rw [← hlen]; exact (List.getElem?_eq_some_iff.1 hk).1
                  rw [List.getElem?_drop, List.getElem?_take_of_lt (by omega)] at hk
                  exact ⟨hk, hk'⟩
                rw [← hlen]
                refine .sl i.size _ b (off + l * i.size) (cap - l) _ (fun k j => f (l + k) j) (fun hne => ?_) (by rw [hlen]; omega) (by omega) (fun cs hcs => hW cs (List.mem_of_mem_take (List.mem_of_mem_drop hcs))) (fun k j ps c h1 h2 => ?_) (fun k j ps c h1 h2 => ?_)
                · have h0 : 0 < hh - l := by rw [← hlen]; exact List.length_pos_iff.2 hne
                  have hpe := hp (by rintro rfl; simp at hle; omega)
                  rw [if_neg (by omega), hpe]
                  simp [Addr.add_mid]
                · obtain ⟨h3, _⟩ := hget k ps h1
                  have := (hc (l + k) j ps c h3 h2).1
                  rw [Nat.add_mul, ← Nat.add_assoc] at this
                  exact this
                · obtain ⟨h3, _⟩ := hget k ps h1
                  exact (hc (l + k) j ps c h3 h2).2
            · cases he
          · cases he
        · cases he
      · cases ht
  | fieldAddr t y k =>
    simp only [transOp, hop] at ht
    split at ht <;> try (cases ht; done)
    rename_i fs hu
    split at ht <;> try (cases ht; done)
    rename_i fd hfd
    split at ht <;> try (cases ht; done)
    rename_i i hi
    split at ht
    · cases ht
    rename_i hsz
    cases ht
    have hrun : ∀ (b off : Nat), (Instr.fieldAt t (.pointer (some ⟨b, off, none⟩)) k).run P w = .ok (.pointer (some ⟨b, off + fd.offset, none⟩)) w := by
      intro b off
      simp [Instr.fieldAt, run_underlying hu, hfd, Instr.sureAddr, fieldPlace, run_sizeOf hi, hsz, Addr.add_mid, Result.andThen]
    simp only [eff] at he
    split at he
    · rename_i d off hz
      cases he
      have hx := arg_rel h hz
      generalize hv : a.eval y = v at hx
      cases hx
      exact vD rfl (by simp [execOp, hop, hv, hrun, Result.andThen]) (.ptr d (off + fd.offset))
    · rename_i cs hz
      cases he
      have hx := arg_rel h hz
      generalize hv : a.eval y = v at hx
      cases hx with
      | pv hx =>
      cases hx with
      | el _ b off f h1 h2 =>
        refine vD rfl (v := .pointer (some ⟨b, off + fd.offset, none⟩)) (by simp [execOp, hop, hv, hrun, Result.andThen]) (.pv ?_)
        refine .el _ b (off + fd.offset) (fun j => f (fd.offset + j)) (fun j c hc => ?_) (fun j c hc => h2 _ c (by simpa using hc))
        have := h1 (fd.offset + j) c (by simpa using hc)
        rw [← Nat.add_assoc] at this
        exact this
    · cases he
  | field t y k =>
    simp only [transOp, hop] at ht
    split at ht <;> try (cases ht; done)
    rename_i fs hu
    split at ht <;> try (cases ht; done)
    rename_i fd hfd
    split at ht <;> try (cases ht; done)
    rename_i i d hi hd
    cases ht
    simp only [eff] at he
    split at he
    · rename_i cs hz
      have hx := arg_rel h hz
      generalize hv : a.eval y = v at hx
      cases hx with
      | agg _ vs hl hat hones =>
      have hL : RelL w E s.r cs vs := ⟨hl, hat, hones⟩
      cases hR : d.isRow with
      | true =>
        simp only [hR, if_true] at he
        split at he
        · cases he
          refine vD rfl (v := .agg ((vs.drop fd.offset).take i.size).toArray) ?_ (((hL.drop _).take _).agg)
          simp [execOp, hop, hv, Instr.field, run_underlying hu, hfd, asAgg, part, run_isAgg hd, hR, run_sizeOf hi, Result.andThen]
        · cases he
      | false =>
        simp only [hR, Bool.false_eq_true, if_false] at he
        obtain ⟨c, hc, h2⟩ := Option.map_eq_some_iff.1 he
        cases h2
        have hlt : fd.offset < vs.length := by rw [← hl]; exact (List.getElem?_eq_some_iff.1 hc).1
        refine vD rfl (v := vs[fd.offset]) ?_ (hat _ _ _ hc (List.getElem?_eq_getElem hlt))
        simp [execOp, hop, hv, Instr.field, run_underlying hu, hfd, asAgg, part, run_isAgg hd, hR, hlt, Result.andThen]
    · cases he
  | indexAddr t y z =>
    simp only [transOp, hop] at ht
    split at ht <;> try (cases ht; done)
    rename_i e hu
    split at ht <;> try (cases ht; done)
    rename_i i hi
    cases ht
    simp only [eff] at he
    split at he
    · rename_i d off n c k hbs hk
      split at he
      · rename_i h0
        cases he
        obtain ⟨tz, hz1, hz2⟩ := Option.bind_eq_some_iff.1 hk
        obtain ⟨kk, hkk⟩ := int_rel (arg_rel h hz1) hz2
        have hx := arg_rel h hbs
        generalize hv : a.eval y = v at hx
        cases hx
        refine vD rfl (v := .pointer (some ⟨E.β d, off + k.toNat * i.size, none⟩)) ?_ (.ptr d _)
        simp [execOp, hop, hv, hkk, Instr.indexAt, asIntOf, run_underlying hu, h0.1, h0.2, run_sizeOf hi, Addr.add_mid, Result.andThen]
      · cases he
    · rename_i ty k hnb hy1 hk
      split at he
      · rename_i h0
        obtain ⟨cs, hcs0, h2⟩ := Option.map_eq_some_iff.1 he
        cases h2
        obtain ⟨es, hy2, hcs⟩ := Option.bind_eq_some_iff.1 hcs0
        obtain ⟨tz, hz1, hz2⟩ := Option.bind_eq_some_iff.1 hk
        obtain ⟨kk, hkk⟩ := int_rel (arg_rel h hz1) hz2
        have hrel := elems_rel (arg_rel h hy1) hy2
        obtain ⟨b, off, cap, p, f, hv, hp, hcap, hmax, hW, hc⟩ := relV_sl_inv hrel
        have hlt : k.toNat < es.length := (List.getElem?_eq_some_iff.1 hcs).1
        have hpe := hp (by rintro rfl; simp at hlt)
        subst hpe
        refine vD rfl (v := .pointer (some ⟨b, off + k.toNat * i.size, none⟩)) ?_ (.pv ?_)
        · have hlt' : k < (es.length : Int) := by omega
          simp [execOp, hop, hv, hkk, Instr.indexAt, asIntOf, run_underlying hu, h0, hlt', run_sizeOf hi, Addr.add_mid, Result.andThen]
        · exact .el cs b (off + k.toNat * i.size) (fun j => f k.toNat j) (fun j c hj => (hc _ j cs c hcs hj).1) (fun j c hj => (hc _ j cs c hcs hj).2)
      · cases he
    · cases he
  | index t y z =>
    simp only [transOp, hop] at ht
    split at ht <;> try (cases ht; done)
    rename_i hu
    cases ht
    simp only [eff] at he
    split at he
    · rename_i zs k hx hy
      split at he
      · rename_i h0
        obtain ⟨bt, h1, h2⟩ := Option.map_eq_some_iff.1 he
        cases h2
        obtain ⟨ty, hy1, hy2⟩ := Option.bind_eq_some_iff.1 hx
        obtain ⟨tz, hz1, hz2⟩ := Option.bind_eq_some_iff.1 hy
        have hv := str_rel (arg_rel h hy1) hy2
        obtain ⟨kk, hkk⟩ := int_rel (arg_rel h hz1) hz2
        have hget : zs[k.toNat]? = some bt := by
          have hlt := (List.getElem?_eq_some_iff.1 h1).1
          have hlt' : k.toNat < zs.size := by simpa using hlt
          rw [getElem?_pos zs k.toNat hlt']
          have := (List.getElem?_eq_some_iff.1 h1).2
          rw [← this]; simp; rfl
        exact vD rfl (v := .int .u8 bt.toNat) (by simp [execOp, hop, hv, hkk, Instr.index, asIntOf, run_underlying hu, h0, hget, Result.andThen]) (.pv (.v _))
      · cases he
    · cases he
  | extract y k =>
    simp only [transOp, hop, Option.some.injEq] at ht; subst ht
    simp only [eff] at he
    split at he
    · rename_i ts hz
      obtain ⟨c, hc, h2⟩ := Option.map_eq_some_iff.1 he
      cases h2
      have hx := arg_rel h hz
      generalize hv : a.eval y = v at hx
      cases hx with
      | tuple _ vs hl hat =>
      have hlt : k < vs.length := by rw [← hl]; exact (List.getElem?_eq_some_iff.1 hc).1
      exact vD rfl (v := vs[k]) (by simp [execOp, hop, hv, Instr.extract, hlt, Result.andThen]) (hat _ _ _ hc (List.getElem?_eq_getElem hlt))
    · cases he
  | makeFunc fn fst cap =>
    simp only [transOp, hop, Option.some.injEq] at ht; subst ht
    simp only [eff] at he
    split at he
    · rename_i xa xb ha hb
      cases he
      obtain ⟨a1, a2, _⟩ := get_list h ha
      obtain ⟨b1, b2, _⟩ := get_list h hb
      refine vD rfl (v := .func fn (fst.map a.eval) (cap.map a.eval)) (by simp [execOp, hop, Instr.makeFunc, Result.andThen]) ?_
      have e1 : fst.map a.eval = (fst.toList.map a.eval).toArray := by rw [← Array.toList_map, Array.toArray_toList]
      have e2 : cap.map a.eval = (cap.toList.map a.eval).toArray := by rw [← Array.toList_map, Array.toArray_toList]
      rw [e1, e2]
      exact .fn fn xa xb _ _ a1 b1 a2 b2
    · cases he
  | range t y =>
    simp only [transOp, hop] at ht
    split at ht <;> try (cases ht; done)
    rename_i hu
    cases ht
    simp only [eff] at he
    split at he
    · rename_i d z hd hz
      cases he
      obtain ⟨ty, hy1, hy2⟩ := Option.bind_eq_some_iff.1 hz
      have hv := str_rel (arg_rel h hy1) hy2
      obtain ⟨E', hE, hS⟩ := h.newI (hf d (by simp [SOp.news, hd])) z
      refine wp_does (s' := s.setI d (z, 0)) ⟨.value (.pointer (some ⟨w.heap.size, 0, none⟩)), _, w.alloc (.stringIter z 0), E', ?_, .inl rfl, hS, ?_⟩ hdst hn
      · simp [execOp, hop, hv, Instr.range, run_underlying hu, Result.andThen]
      · rw [← hE]; exact .it d
    · cases he
  | next y str =>
    cases str with
    | false => simp [transOp, hop] at ht
    | true =>
      simp only [transOp, hop, Option.some.injEq] at ht; subst ht
      simp only [eff] at he
      split at he
      · rename_i d hz
        have hx := arg_rel h hz
        generalize hv : a.eval y = v at hx
        cases hx
        split at he
        · rename_i z p hi
          obtain ⟨h1, h2⟩ := h.itr d z p hi
          have hr3 : ∀ (v1 v2 v3 : Value) (w : World) (E : Env) (r : Rows), RelT w E r (.tuple [.pv (.v v1), .pv (.v v2), .pv (.v v3)]) (.tuple #[v1, v2, v3]) := by
            intro v1 v2 v3 w E r
            refine .tuple _ [v1, v2, v3] rfl (fun j c v hc hv => ?_)
            match j with
            | 0 => simp at hc hv; subst hc; subst hv; exact .pv (.v _)
            | 1 => simp at hc hv; subst hc; subst hv; exact .pv (.v _)
            | 2 => simp at hc hv; subst hc; subst hv; exact .pv (.v _)
            | n + 3 => simp at hc
          split at he
          · rename_i hlt
            cases he
            refine wp_does (s' := s.setI d (z, p + (Utf8.decode z p).2)) ⟨.value (.tuple #[.bool true, .int .i64 p, .int .i32 (Utf8.decode z p).1]), _, _, E, ?_, .inl rfl, h.goI hi, hr3 _ _ _ _ _ _⟩ hdst hn
            simp [execOp, hop, hv, Instr.next, getObj, setObj, Sem.run, h1, hlt, Result.andThen, goInt]
          · rename_i hlt
            cases he
            refine vD rfl (v := .tuple #[.bool false]) ?_ ?_
            · simp [execOp, hop, hv, Instr.next, getObj, Sem.run, h1, hlt, Result.andThen]
            · refine .tuple _ [.bool false] rfl (fun j c v hc hv => ?_)
              match j with
              | 0 => simp at hc hv; subst hc; subst hv; exact .pv (.v _)
              | n + 1 => simp at hc
        · cases he
      · cases he
  | makeSlice t ln cp =>
    simp only [transOp, hop] at ht
    split at ht <;> try (cases ht; done)
    rename_i e la lb hu
    split at ht <;> try (cases ht; done)
    rename_i hab
    obtain rfl := Nat.eq_of_beq_eq_true hab
    split at ht <;> try (cases ht; done)
    rename_i i hi
    split at ht <;> try (cases ht; done)
    rename_i zv hz
    split at ht <;> try (cases ht; done)
    rename_i hzl
    cases ht
    simp only [eff] at he
    split at he
    · rename_i d k hd hk
      split at he
      · rename_i hle
        cases he
        exact wp_does (does_mks h hop hu hi hz hzl hd (hno d hd) (hf d (by simp [SOp.news, hd])) hk hle) hdst hn
      · cases he
    · cases he
  | call c =>
    obtain ⟨callee, args, ats⟩ := c
    cases callee with
    | invoke => simp [transOp, hop] at ht
    | value gf =>
      have harr : (args.toList.map a.eval).toArray = args.map a.eval := by rw [← Array.toList_map, Array.toArray_toList]
      cases gf with
      | func f =>
        simp only [transOp, hop] at ht
        split at ht <;> try (cases ht; done)
        rename_i fn hfn
        split at ht <;> try (cases ht; done)
        rename_i hb
        cases ht
        simp only [eff] at he
        obtain ⟨xs, hxs, he⟩ := Option.bind_eq_some_iff.1 he
        obtain ⟨a1, a2, a3⟩ := get_list h hxs
        refine wp_callAt h hG hX a3 a1 a2 (fun hbody => ?_) hdst hC hm0 (fun q hq => hf _ (by simp only [SOp.news]; match q, hq with | 0, _ => simp | 1, _ => simp | 2, _ => simp | 3, _ => simp)) he hn
        obtain ⟨fn', body, h1, h2, h3⟩ := hbody
        have hex : execOp a.eval o = callFunc f (#[] ++ args.map a.eval ++ #[]) := by
          obtain ⟨dst, op, type, pos, after, guard⟩ := o
          dsimp only at hop
          subst hop
          rfl
        rw [hex, harr]
        simp [callFunc, h1, h2, h3]
      | tmp tt =>
        simp only [transOp, hop, Option.some.injEq] at ht; subst ht
        simp only [eff] at he
        split at he
        · rename_i f fa fb vs hcal hvs
          obtain ⟨tc, hc1, hc2⟩ := Option.bind_eq_some_iff.1 hcal
          obtain ⟨a1, a2, a3⟩ := get_list h hvs
          have hcr := arg_rel h (x := .tmp tt) hc1
          obtain ⟨us, cs, e1, e2, e3, e4, e5, e6⟩ := callee_rel hcr hc2
          refine wp_callAt (vs := us ++ args.toList.map a.eval ++ cs) h hG hX (xs := fa ++ vs ++ fb) ?_ ?_ ?_ (fun hbody => ?_) hdst hC hm0 (fun q hq => hf _ (by simp only [SOp.news]; match q, hq with | 0, _ => simp | 1, _ => simp | 2, _ => simp | 3, _ => simp)) he hn
          · intro x hx d hd
            rcases List.mem_append.1 hx with hx | hx
            · rcases List.mem_append.1 hx with hx | hx
              · exact get_ment hc1 (e6 x (.inl hx) d hd)
              · exact a3 x hx d hd
            · exact get_ment hc1 (e6 x (.inr hx) d hd)
          · simp [e2, e3]; simpa using a1
          · have hq1 := relApp (xs := fa) (ys := vs) e2 (by simpa using a1) e4 a2
            exact relApp (by simp [e2]; simpa using a1) e3 hq1 e5
          · obtain ⟨fn', body, h1, h2, h3⟩ := hbody
            have hex : execOp a.eval o = callFunc f (us.toArray ++ args.map a.eval ++ cs.toArray) := by
              obtain ⟨dst, op, type, pos, after, guard⟩ := o
              dsimp only at hop
              subst hop
              show (do let d ← Deferred.ofValue (a.eval (.tmp tt)) (args.map a.eval); invoke d.target d.args) = _
              rw [e1]
              rfl
            rw [hex]
            have : (us ++ args.toList.map a.eval ++ cs).toArray = us.toArray ++ args.map a.eval ++ cs.toArray := by
              rw [← harr]; simp
            rw [this]
            simp [callFunc, h1, h2, h3]
        · cases he
      | _ => simp [transOp, hop] at ht
    | builtin b =>
      cases b with
      | len =>
        simp only [transOp, hop] at ht
        split at ht <;> try (cases ht; done)
        rename_i t y hat har
        obtain rfl : args = #[y] := by rw [← Array.toArray_toList (xs := args), har]
        obtain rfl : ats = #[t] := by rw [← Array.toArray_toList (xs := ats), hat]
        split at ht <;> try (cases ht; done)
        · rename_i e hu
          cases ht
          simp only [eff] at he
          obtain ⟨n, hn1, h2⟩ := Option.map_eq_some_iff.1 he
          cases h2
          obtain ⟨ty, hy1, hy2⟩ := Option.bind_eq_some_iff.1 hn1
          obtain ⟨p, c, hv⟩ := slen_rel (arg_rel h hy1) hy2
          refine vD rfl (v := .int .i64 n) ?_ (.pv (.v _))
          simp [execOp, hop, resolve, invoke, builtin, hv, Builtin.len_, run_underlying hu, goInt, Result.andThen]
        · rename_i hu
          cases ht
          simp only [eff] at he
          obtain ⟨n, hn1, h2⟩ := Option.map_eq_some_iff.1 he
          cases h2
          obtain ⟨ty, hy1, hy2⟩ := Option.bind_eq_some_iff.1 hn1
          have hv := str_rel (arg_rel h hy1) hy2
          refine vD rfl (v := .int .i64 n.size) ?_ (.pv (.v _))
          simp [execOp, hop, resolve, invoke, builtin, hv, Builtin.len_, run_underlying hu, goInt, Result.andThen]
      | min =>
        simp only [transOp, hop] at ht
        split at ht <;> try (cases ht; done)
        rename_i y z t t2 har hat
        obtain rfl : args = #[y, z] := by rw [← Array.toArray_toList (xs := args), har]
        split at ht <;> try (cases ht; done)
        cases ht
        simp only [eff] at he
        split at he
        · rename_i x1 x2 h1 h2
          cases he
          have e1 := val_rel (y := .int .i64 x1) (arg_rel h h1) rfl
          have e2 := val_rel (y := .int .i64 x2) (arg_rel h h2) rfl
          refine vD rfl (v := .int .i64 (min x1 x2)) ?_ (.pv (.v _))
          have : (if x2 < x1 then x2 else x1) = min x1 x2 := by rw [Int.min_def]; split <;> split <;> omega
          simp [execOp, hop, resolve, invoke, builtin, e1, e2, Builtin.min_, Builtin.min2, Result.andThen, this]
        · cases he
      | max =>
        simp only [transOp, hop] at ht
        split at ht <;> try (cases ht; done)
        rename_i y z t t2 har hat
        obtain rfl : args = #[y, z] := by rw [← Array.toArray_toList (xs := args), har]
        split at ht <;> try (cases ht; done)
        cases ht
        simp only [eff] at he
        split at he
        · rename_i x1 x2 h1 h2
          cases he
          have e1 := val_rel (y := .int .i64 x1) (arg_rel h h1) rfl
          have e2 := val_rel (y := .int .i64 x2) (arg_rel h h2) rfl
          refine vD rfl (v := .int .i64 (max x1 x2)) ?_ (.pv (.v _))
          have : (if x2 > x1 then x2 else x1) = max x1 x2 := by rw [Int.max_def]; split <;> split <;> omega
          simp [execOp, hop, resolve, invoke, builtin, e1, e2, Builtin.max_, Builtin.max2, Result.andThen, this]
        · cases he
      | append =>
        simp only [transOp, hop] at ht
        split at ht <;> try (cases ht; done)
        rename_i y z t tx har hat
        obtain rfl : args = #[y, z] := by rw [← Array.toArray_toList (xs := args), har]
        obtain rfl : ats = #[t, tx] := by rw [← Array.toArray_toList (xs := ats), hat]
        split at ht <;> try (cases ht; done)
        rename_i e hu
        split at ht <;> try (cases ht; done)
        rename_i i hi
        split at ht <;> try (cases ht; done)
        rename_i zv hz
        split at ht <;> try (cases ht; done)
        rename_i hzl
        have hnil : ((Arg.of y).get s).map TV.isNil = some true → a.eval y = .slice none 0 0 := by
          intro hy
          obtain ⟨ty, h1, h2⟩ := Option.map_eq_some_iff.1 hy
          have := arg_rel h h1
          unfold TV.isNil at h2
          split at h2
          · exact val_rel (y := .slice none 0 0) this rfl
          · cases h2
        split at ht <;> try (cases ht; done)
        · rename_i e' htx
          cases hin : Nat.beq hint 1 with
          | true =>
            rw [hin] at ht
            simp only [if_true, Option.some.injEq] at ht; subst ht
            simp only [eff] at he
            split at he
            · rename_i d es2 hd hnl hes
              split at he
              · rename_i hle
                cases he
                obtain ⟨tz, hz1, hz2⟩ := Option.bind_eq_some_iff.1 hes
                have := does_appN (P := P) h hop hu hi hz hzl.1 hzl.2 (hno d hd) (hf d (by simp [SOp.news, hd])) (hnil hnl) (src_of hzl.2 (elems_rel (arg_rel h hz1) hz2) htx) hle.1 hle.2
                rw [hd] at hn hdst
                refine wp_does (s' := s.setR d (e, i.size, es2.length)) this (by rw [hd]; exact hdst) (by rw [hd]; exact hn)
              · cases he
            · cases he
          | false =>
            rw [hin] at ht
            simp only [Bool.false_eq_true, if_false, Option.some.injEq] at ht; subst ht
            simp only [eff] at he
            split at he
            · rename_i d W' es es2 hy hes
              split at he
              · rename_i hle
                obtain ⟨rfl, hr, h1, h2⟩ := hle
                cases he
                obtain ⟨tz, hz1, hz2⟩ := Option.bind_eq_some_iff.1 hes
                have := does_app (P := P) h hop hu hi hz hzl.1 hzl.2 rfl hr (arg_rel h hy) (src_of hzl.2 (elems_rel (arg_rel h hz1) hz2) htx) h1 h2
                exact wp_does this hdst hn
              · cases he
            · cases he
        · rename_i htx
          split at ht <;> try (cases ht; done)
          rename_i h1s
          cases hin : Nat.beq hint 1 with
          | true =>
            rw [hin] at ht
            simp only [if_true, Option.some.injEq] at ht; subst ht
            simp only [eff] at he
            split at he
            · rename_i d b hd hnl hes
              split at he
              · rename_i hle
                cases he
                obtain ⟨tz, hz1, hz2⟩ := Option.bind_eq_some_iff.1 hes
                have hbl : (bytesP b).length = b.size := by unfold bytesP; rw [List.length_map, Array.length_toList]; rfl
                have := does_appN (P := P) (es2 := bytesP b) h hop hu hi hz hzl.1 hzl.2 (hno d hd) (hf d (by simp [SOp.news, hd])) (hnil hnl) (by rw [h1s, str_rel (arg_rel h hz1) hz2]; exact src_str b htx) (by rw [hbl]; exact hle.1) (by rw [hbl]; exact hle.2)
                rw [h1s, hbl] at this
                rw [hd] at hn hdst
                exact wp_does (s' := s.setR d (e, 1, b.size)) this (by rw [hd]; exact hdst) (by rw [hd]; exact hn)
              · cases he
            · cases he
          | false =>
            rw [hin] at ht
            simp only [Bool.false_eq_true, if_false, Option.some.injEq] at ht; subst ht
            simp only [eff] at he
            split at he
            · rename_i d W' es b hy hes
              split at he
              · rename_i hle
                obtain ⟨rfl, hr, h1, h2⟩ := hle
                cases he
                obtain ⟨tz, hz1, hz2⟩ := Option.bind_eq_some_iff.1 hes
                have hbl : (bytesP b).length = b.size := by unfold bytesP; rw [List.length_map, Array.length_toList]; rfl
                have := does_app (P := P) (es2 := bytesP b) h hop hu hi hz hzl.1 hzl.2 rfl (by rw [h1s]; exact hr) (by rw [h1s]; exact arg_rel h hy) (by rw [h1s, str_rel (arg_rel h hz1) hz2]; exact src_str b htx) (by rw [hbl]; exact h1) (by rw [hbl]; exact h2)
                rw [h1s, hbl] at this
                exact wp_does this hdst hn
              · cases he
            · cases he
      | _ => simp [transOp, hop] at ht
  | _ => simp [transOp, hop] at ht
end
end Go.Sh
end

section
/- Sh: regions: what an operation looks at, and turns. No statement of the program is proved here. -/
namespace Go.Sh
open Go Go.RowKit
set_option maxHeartbeats 4000000

structure SOper where
  dst : Option Nat
  guard : Option (Nat × Bool)
  fp : Option Nat
  op : SOp

def readsL (xs : List Arg) : List Nat := xs.flatMap Arg.reads
def readsO (x : Option Arg) : List Nat := match x with | some x => x.reads | none => []
def SOp.reads : SOp → List Nat
  | .mov x | .un _ x | .cvi _ x | .cvs x | .b2s x | .slen x | .box x | .fld _ _ _ x | .fldA _ x | .ld _ _ x | .len x | .ext x _ | .nchk x | .rng x | .nxt x | .mks _ _ x => x.reads
  | .pick c a b => c.reads ++ a.reads ++ b.reads
  | .bin _ _ x y | .imm _ x y | .sidx x y | .st _ x y | .idxA _ x y | .app _ _ _ x y | .appS _ _ x y | .appN _ _ _ x y | .appNS _ _ x y => x.reads ++ y.reads
  | .bsl _ xs | .call _ _ xs => readsL xs
  | .callv x _ xs => x.reads ++ readsL xs
  | .mkf _ a b => readsL a ++ readsL b
  | .ssub x lo hi | .sub _ x lo hi => x.reads ++ readsO lo ++ readsO hi
  | .new _ => []
  | .build _ ps => readsL (ps.map (·.2.2))
def SOper.reads (o : SOper) : List Nat := (match o.guard with | some (g, _) => [g] | none => []) ++ o.op.reads
/-- An operation looks at own variables; turns some; looks at own slices; at what goes through texts. -/
def SOp.rb : SOp → Bool
  | .ld .. | .st .. => true
  | .call _ m _ | .callv _ m _ => !Nat.beq m 0
  | _ => false
def SOp.wb : SOp → Bool
  | .st .. => true
  | .call _ m _ | .callv _ m _ => !Nat.beq m 0
  | _ => false
def SOp.wr : SOp → Bool
  | .app .. | .appS .. => true
  | .call _ m _ | .callv _ m _ => !Nat.beq m 0
  | _ => false
def SOp.wi : SOp → Bool
  | .nxt .. => true
  | _ => false
/-- The one own variable that an operation looks at, or turns. -/
def SOp.foot (s : FS) : SOp → Option Nat
  | .ld _ _ x | .st _ x _ => match x.get s with | some (.ptr d _) => some d | _ => none
  | _ => none
theorem wb_rb {o : SOp} (h : o.wb = true) : o.rb = true := by cases o <;> first | exact h | cases h | rfl

section
variable {P : Program} {C : Oracle} {s s' : FS} {dst : Option Nat} {d : Nat}

theorem get_congr {x : Arg} (h : ∀ k ∈ x.reads, s'.t k = s.t k) : x.get s' = x.get s := by
  cases x with
  | tmp t => exact h t (by simp [Arg.reads])
  | val v => rfl
theorem getL_congr {α : Type} {xs : List Arg} (h : ∀ k ∈ readsL xs, s'.t k = s.t k) (f : TV → Option α) : seqO (fun x : Arg => (x.get s').bind f) xs = seqO (fun x : Arg => (x.get s).bind f) xs :=
  seqO_congr fun x hx => by rw [get_congr fun k hk => h k (List.mem_flatMap.2 ⟨x, hx, hk⟩)]
theorem getl_congr {xs : List Arg} (h : ∀ k ∈ readsL xs, s'.t k = s.t k) : seqO (fun x : Arg => x.get s') xs = seqO (fun x : Arg => x.get s) xs :=
  seqO_congr fun x hx => get_congr fun k hk => h k (List.mem_flatMap.2 ⟨x, hx, hk⟩)
theorem bound_congr {x : Option Arg} (h : ∀ k ∈ readsO x, s'.t k = s.t k) (n : Nat) : bound s' n x = bound s n x := by
  cases x with
  | none => rfl
  | some x => simp only [bound]; rw [get_congr h]
theorem reach_congr {rows : Bool} (hb : ∀ d, s.ment d → s'.b d = s.b d) (hr : ∀ d, s.ment d → s'.r d = s.r d) : ∀ (n : Nat) (l seen : List Nat), (∀ d ∈ l, s.ment d) → reach s' rows n l seen = reach s rows n l seen
  | 0, _, _, _ => by simp only [reach]
  | n + 1, [], _, _ => by simp only [reach]
  | n + 1, d :: l, seen, h => by
    have hd := h d (List.mem_cons_self ..)
    have hl : ∀ x ∈ l, s.ment x := fun x hx => h x (List.mem_cons_of_mem _ hx)
    simp only [reach, hb d hd, hr d hd]
    split
    · exact reach_congr hb hr n l seen hl
    · split
      · rename_i cs hcs
        refine reach_congr hb hr n _ _ (fun x hx => ?_)
        rcases List.mem_append.1 hx with hx | hx
        · obtain ⟨c, hc, hx⟩ := List.mem_flatMap.1 hx
          exact .inr ⟨d, cs, c, hcs, hc, ids1_ment hx⟩
        · exact hl x hx
      · split
        · exact reach_congr hb hr n l _ hl
        · exact reach_congr hb hr n l seen hl
theorem callEff_congr {k f mode : Nat} {xs : List TV} (hm : ∀ x ∈ xs, ∀ d, Ment d x → s.ment d) (hb : (!Nat.beq mode 0) = true → ∀ d, s.ment d → s'.b d = s.b d) (hr : (!Nat.beq mode 0) = true → ∀ d, s.ment d → s'.r d = s.r d) : callEff C s' k f mode xs = callEff C s k f mode xs := by
  unfold callEff
  cases h0 : Nat.beq mode 0 with
  | true => simp [seqO]
  | false =>
    simp only [h0, Bool.not_false, forall_const] at hb hr
    have hids : ∀ d ∈ xs.flatMap TV.ids2, s.ment d := fun d hd => by
      obtain ⟨x, hx, hd⟩ := List.mem_flatMap.1 hd
      exact hm x hx d (ids2_ment hd)
    have e1 := reach_congr (rows := Nat.beq mode 2) hb hr 64 (xs.flatMap TV.ids2) [] hids
    have e2 := (reach_spec (s := s) (rows := Nat.beq mode 2) 64 (xs.flatMap TV.ids2) [] (by simp) (by simp) hids).2
    simp only [Bool.false_eq_true, if_false, e1]
    have e3 : seqO (fun d => (s'.mo d).bind (MO.ren (rhoIn (reach s (Nat.beq mode 2) 64 (xs.flatMap TV.ids2) [])))) (reach s (Nat.beq mode 2) 64 (xs.flatMap TV.ids2) []) = seqO (fun d => (s.mo d).bind (MO.ren (rhoIn (reach s (Nat.beq mode 2) 64 (xs.flatMap TV.ids2) [])))) (reach s (Nat.beq mode 2) 64 (xs.flatMap TV.ids2) []) :=
      seqO_congr fun x hx => by unfold FS.mo; rw [hb x (e2 x hx), hr x (e2 x hx)]
    rw [e3]
theorem seq_ment {xs : List Arg} {ts : List TV} (h : seqO (fun x : Arg => x.get s) xs = some ts) : ∀ x ∈ ts, ∀ d, Ment d x → s.ment d := by
  intro x hx d hd
  obtain ⟨l1, h1⟩ := seqO_spec h
  obtain ⟨j, hj⟩ := List.getElem?_of_mem hx
  have hjl : j < xs.length := by rw [l1]; exact (List.getElem?_eq_some_iff.1 hj).1
  obtain ⟨y, hy1, hy2⟩ := h1 j xs[j] (List.getElem?_eq_getElem hjl)
  rw [hj] at hy1; cases hy1
  exact get_ment hy2 hd
theorem callee_ment {t : TV} {f : Nat} {fa fb : List TV} (ht : t.callee = some (f, fa, fb)) : ∀ x, (x ∈ fa ∨ x ∈ fb) → ∀ d, Ment d x → Ment d t := by
  unfold TV.callee at ht
  split at ht
  · cases ht; exact fun x hx d hd => hx.elim (fun hx => .fn1 hx hd) (fun hx => .fn2 hx hd)
  · cases ht
    intro x hx d hd
    rcases hx with hx | hx
    · obtain ⟨p, _, rfl⟩ := List.mem_map.1 hx; cases hd
    · obtain ⟨p, _, rfl⟩ := List.mem_map.1 hx; cases hd
  · cases ht; simp
  · cases ht
theorem callv_ment {x : Arg} {t : TV} {f : Nat} {fa fb vs : List TV} {xs : List Arg} (h1 : (x.get s).bind TV.callee = some (f, fa, fb)) (h2 : seqO (fun x : Arg => x.get s) xs = some vs) : ∀ y ∈ fa ++ vs ++ fb, ∀ d, Ment d y → s.ment d := by
  obtain ⟨tc, hc1, hc2⟩ := Option.bind_eq_some_iff.1 h1
  intro y hy d hd
  rcases List.mem_append.1 hy with hy | hy
  · rcases List.mem_append.1 hy with hy | hy
    · exact get_ment hc1 (callee_ment hc2 y (.inl hy) d hd)
    · exact seq_ment h2 y hy d hd
  · exact get_ment hc1 (callee_ment hc2 y (.inr hy) d hd)

theorem eff_congr {o : SOp} (h : ∀ k ∈ o.reads, s'.t k = s.t k) (hb : o.rb = true → ∀ d, s.ment d → (∀ k, o.foot s = some k → d = k) → s'.b d = s.b d) (hr : o.wr = true → ∀ d, s.ment d → s'.r d = s.r d) (hi : o.wi = true → ∀ d, s.ment d → s'.i d = s.i d) : eff P C dst o s' = eff P C dst o s := by
  cases o with
  | mov x | un _ x | cvi _ x | cvs x | b2s x | slen x | box x | fld _ _ _ x | fldA _ x | len x | ext x _ | nchk x | rng x | mks _ _ x => simp only [eff, get_congr (x := x) h]
  | pick c a b =>
    simp only [SOp.reads, List.mem_append] at h
    have e1 := get_congr (x := c) fun k hk => h k (.inl (.inl hk))
    have e2 := get_congr (x := a) fun k hk => h k (.inl (.inr hk))
    have e3 := get_congr (x := b) fun k hk => h k (.inr hk)
    simp only [eff, e1]
    split
    · rename_i t _; cases t <;> simp [e2, e3]
    · rfl
  | bin _ _ x y | imm _ x y | sidx x y | idxA _ x y | appN _ _ _ x y | appNS _ _ x y =>
    simp only [SOp.reads, List.mem_append] at h
    have e1 := get_congr (x := x) fun k hk => h k (.inl hk)
    have e2 := get_congr (x := y) fun k hk => h k (.inr hk)
    simp only [eff, e1, e2]
  | bsl _ xs => simp only [eff, getL_congr h]
  | mkf _ a b =>
    simp only [SOp.reads, List.mem_append] at h
    simp only [eff, getl_congr (xs := a) fun k hk => h k (.inl hk), getl_congr (xs := b) fun k hk => h k (.inr hk)]
  | call f m xs =>
    simp only [eff, getl_congr (xs := xs) h]
    cases hx : seqO (fun x : Arg => x.get s) xs with
    | none => rfl
    | some vs => simp only [Option.bind_some]; exact callEff_congr (seq_ment hx) (fun h0 d hd => hb h0 d hd (fun k hk => by cases hk)) hr
  | callv x m xs =>
    simp only [SOp.reads, List.mem_append] at h
    have e1 := get_congr (x := x) fun k hk => h k (.inl hk)
    simp only [eff, e1, getl_congr (xs := xs) fun k hk => h k (.inr hk)]
    split
    · rename_i f fa fb vs h1 h2
      exact callEff_congr (callv_ment (t := .unk) h1 h2) (fun h0 d hd => hb h0 d hd (fun k hk => by cases hk)) hr
    · rfl
  | ssub x lo up | sub _ x lo up =>
    simp only [SOp.reads, List.mem_append] at h
    have e1 := get_congr (x := x) fun k hk => h k (.inl (.inl hk))
    simp only [eff, e1, bound_congr (x := lo) fun k hk => h k (.inl (.inr hk)), bound_congr (x := up) fun k hk => h k (.inr hk)]
  | new _ => rfl
  | build z ps =>
    have : partsT s' ps = partsT s ps := seqO_congr fun p hp => by
      rw [get_congr fun k hk => h k (List.mem_flatMap.2 ⟨p.2.2, List.mem_map.2 ⟨p, hp, rfl⟩, hk⟩)]
    simp only [eff, this]
  | ld a n x =>
    have e1 := get_congr (x := x) h
    simp only [eff, e1]
    split
    · rename_i d off hx
      rw [hb rfl d (get_ment hx (.ptr _)) (fun k hk => by simp only [SOp.foot, hx] at hk; exact Option.some.inj hk)]
    · rfl
    · rfl
  | st n x y =>
    simp only [SOp.reads, List.mem_append] at h
    have e1 := get_congr (x := x) fun k hk => h k (.inl hk)
    have e2 := get_congr (x := y) fun k hk => h k (.inr hk)
    simp only [eff, e1, e2]
    split
    · rename_i d off hx
      rw [hb rfl d (get_ment hx (.ptr _)) (fun k hk => by simp only [SOp.foot, hx] at hk; exact Option.some.inj hk)]
    · rfl
  | nxt x =>
    have e1 := get_congr (x := x) h
    simp only [eff, e1]
    split
    · rename_i d hx
      rw [hi rfl d (get_ment hx .it)]
    · rfl
  | app e W b x y =>
    simp only [SOp.reads, List.mem_append] at h
    have e1 := get_congr (x := x) fun k hk => h k (.inl hk)
    have e2 := get_congr (x := y) fun k hk => h k (.inr hk)
    simp only [eff, e1, e2]
    split
    · rename_i d W' es es2 hx _
      rw [hr rfl d (get_ment hx (.own _ _))]
    · rfl
  | appS e b x y =>
    simp only [SOp.reads, List.mem_append] at h
    have e1 := get_congr (x := x) fun k hk => h k (.inl hk)
    have e2 := get_congr (x := y) fun k hk => h k (.inr hk)
    simp only [eff, e1, e2]
    split
    · rename_i d W' es es2 hx _
      rw [hr rfl d (get_ment hx (.own _ _))]
    · rfl

/-- What is turned of own variables, own slices, what goes through texts. -/
def ovB (dst : Option Nat) : Upd → Nat → Option (List TV)
  | .box cs, d => if dst = some d then some cs else none
  | .wr e cs, d => if d = e then some cs else none
  | .mem us, d => match us.lookup d with | some (.box cs) => some cs | _ => none
  | _, _ => none
def ovR : Upd → Nat → Option (Nat × Nat × Nat)
  | .row e q, d => if d = e then some q else none
  | .mem us, d => match us.lookup d with | some (.row e W n) => some (e, W, n) | _ => none
  | _, _ => none
def ovI : Upd → Nat → Option (ByteArray × Nat)
  | .it e q, d => if d = e then some q else none
  | _, _ => none
theorem upd_b (u : Upd) : (s.upd dst u).b d = match ovB dst u d with | some cs => some cs | none => s.b d := by
  cases u with
  | box cs =>
    cases dst with
    | none => rfl
    | some e => simp only [FS.upd, FS.setB, setF, ovB, Option.some.injEq]; by_cases h : d = e <;> simp [h, Ne.symm, eq_comm]
  | wr e cs => simp only [FS.upd, FS.setB, setF, ovB]; split <;> rfl
  | mem us =>
    simp only [FS.upd, memB, ovB]
    cases us.lookup d with
    | none => rfl
    | some m => cases m <;> rfl
  | _ => rfl
theorem upd_r (u : Upd) : (s.upd dst u).r d = match ovR u d with | some q => some q | none => s.r d := by
  cases u with
  | row e q => simp only [FS.upd, FS.setR, setF, ovR]; split <;> rfl
  | mem us =>
    simp only [FS.upd, memR, ovR]
    cases us.lookup d with
    | none => rfl
    | some m => cases m <;> rfl
  | box cs => cases dst <;> rfl
  | _ => rfl
theorem upd_i (u : Upd) : (s.upd dst u).i d = match ovI u d with | some q => some q | none => s.i d := by
  cases u with
  | it e q => simp only [FS.upd, FS.setI, setF, ovI]; split <;> rfl
  | box cs => cases dst <;> rfl
  | _ => rfl
theorem upd_t (u : Upd) : (s.upd dst u).t = s.t := by cases u <;> first | rfl | (cases dst <;> rfl)
theorem put_t {k : Nat} {x : TV} : (s.put dst x).t k = if dst = some k then some x else s.t k := by
  cases dst with
  | none => simp [FS.put]
  | some d =>
    simp only [FS.put, FS.setT, setF, Option.some.injEq]
    by_cases h : k = d
    · simp [h]
    · simp [h, Ne.symm h]
theorem put_b {x : TV} : (s.put dst x).b = s.b := by cases dst <;> rfl
theorem put_r {x : TV} : (s.put dst x).r = s.r := by cases dst <;> rfl
theorem put_i {x : TV} : (s.put dst x).i = s.i := by cases dst <;> rfl

/-- What an operation's turns are: of what it makes, or of what is spoken of. -/
structure Shape (s : FS) (dst : Option Nat) (o : SOp) (x : TV) (u : Upd) : Prop where
  b : ∀ d cs, ovB dst u d = some cs → d ∈ o.news dst ∨ (o.wb = true ∧ s.ment d ∧ ∀ k, o.foot s = some k → d = k)
  r : ∀ d q, ovR u d = some q → d ∈ o.news dst ∨ (o.wr = true ∧ s.ment d)
  i : ∀ d q, ovI u d = some q → d ∈ o.news dst ∨ (o.wi = true ∧ s.ment d)
  x : ∀ d, Ment d x → s.ment d ∨ d ∈ o.news dst
  m : ∀ d e cs c, ovB dst u e = some cs → c ∈ cs → Ment d c → s.ment d ∨ d ∈ o.news dst
theorem Shape.no {o : SOp} {x : TV} (h : ∀ d, Ment d x → s.ment d ∨ d ∈ o.news dst) : Shape s dst o x .no :=
  ⟨fun _ _ h => (by cases h), fun _ _ h => (by cases h), fun _ _ h => (by cases h), h, fun _ _ _ _ h => (by cases h)⟩
theorem map_shape {α : Type} {o : SOp} {q : Option α} {f : α → TV} {x : TV} {u : Upd} (h : q.map (fun v => (f v, Upd.no)) = some (x, u)) (hx : ∀ v, q = some v → ∀ d, Ment d (f v) → s.ment d ∨ d ∈ o.news dst) : Shape s dst o x u := by
  obtain ⟨v, h1, h⟩ := Option.map_eq_some_iff.1 h
  cases h
  exact .no (hx v h1)
theorem scal_shape {o : SOp} {m : Sem Value} {x : TV} {u : Upd} (h : scal P m = some (x, u)) : Shape s dst o x u := by
  obtain ⟨v, rfl, rfl, _⟩ := scal_inv h
  exact .no (fun d hd => by cases hd)
theorem pv_no {p : PV} {A : Prop} (h : Ment d (.pv p)) : A := by cases h
theorem argCells_ment {x : Arg} {c : TV} {cs : List TV} (h : (x.get s).bind TV.cells = some cs) (hc : c ∈ cs) (hm : Ment d c) : s.ment d := by
  obtain ⟨t, h1, h2⟩ := Option.bind_eq_some_iff.1 h
  exact get_ment h1 (cells_ment h2 hc hm)
theorem fillT_mem {c : TV} : ∀ {ps : List (Nat × Nat × List TV)} {cs cs' : List TV}, fillT cs ps = some cs' → c ∈ cs' → c ∈ cs ∨ ∃ p ∈ ps, c ∈ p.2.2
  | [], cs, cs', h, hc => by simp [fillT] at h; subst h; exact .inl hc
  | (off, size, xs) :: ps, cs, cs', h, hc => by
    simp only [fillT] at h
    split at h
    · rcases fillT_mem h hc with h1 | ⟨p, hp, h1⟩
      · rcases mem_splice h1 with h2 | h2
        · exact .inl h2
        · exact .inr ⟨_, List.mem_cons_self .., h2⟩
      · exact .inr ⟨p, List.mem_cons_of_mem _ hp, h1⟩
    · cases h
theorem ren0_ment {ρ : Nat → Option Nat} {t y : TV} (h : t.ren0 ρ = some y) (hm : Ment d y) : ∃ d', ρ d' = some d := by
  cases t <;> simp only [TV.ren0] at h
  · cases h; cases hm
  · cases h; cases hm
  · obtain ⟨d', h1, rfl⟩ := Option.map_eq_some_iff.1 h; cases hm; exact ⟨_, h1⟩
  · cases h
    split at hm
    · rename_i d' h1; cases hm; exact ⟨_, h1⟩
    · cases hm
  · obtain ⟨d', h1, rfl⟩ := Option.map_eq_some_iff.1 h; cases hm; exact ⟨_, h1⟩
  all_goals cases h
theorem seq_ren_ment {ρ : Nat → Option Nat} {f : TV → Option TV} (hf : ∀ t y, f t = some y → Ment d y → ∃ d', ρ d' = some d) {xs ys : List TV} (h : seqO f xs = some ys) {c : TV} (hc : c ∈ ys) (hm : Ment d c) : ∃ d', ρ d' = some d := by
  obtain ⟨l1, h1⟩ := seqO_spec h
  obtain ⟨j, hj⟩ := List.getElem?_of_mem hc
  have hjl : j < xs.length := by rw [l1]; exact (List.getElem?_eq_some_iff.1 hj).1
  obtain ⟨y, hy1, hy2⟩ := h1 j xs[j] (List.getElem?_eq_getElem hjl)
  rw [hj] at hy1; cases hy1
  exact hf _ _ hy2 hm
theorem ren1_ment {ρ : Nat → Option Nat} {t y : TV} (h : t.ren1 ρ = some y) (hm : Ment d y) : ∃ d', ρ d' = some d := by
  cases t with
  | fn f a b =>
    simp only [TV.ren1] at h
    split at h
    · rename_i a' b' h1 h2
      cases h
      cases hm with
      | fn1 hc hm => exact seq_ren_ment (fun _ _ => ren0_ment) h1 hc hm
      | fn2 hc hm => exact seq_ren_ment (fun _ _ => ren0_ment) h2 hc hm
    · cases h
  | _ => simp only [TV.ren1] at h; exact ren0_ment h hm
theorem ren2_ment {ρ : Nat → Option Nat} {t y : TV} (h : t.ren2 ρ = some y) (hm : Ment d y) : ∃ d', ρ d' = some d := by
  cases t with
  | agg cs =>
    simp only [TV.ren2] at h
    obtain ⟨l, h1, rfl⟩ := Option.map_eq_some_iff.1 h
    cases hm with
    | agg hc hm => exact seq_ren_ment (fun _ _ => ren1_ment) h1 hc hm
  | _ => simp only [TV.ren2] at h; exact ren1_ment h hm
theorem ren3_ment {ρ : Nat → Option Nat} {t y : TV} (h : t.ren3 ρ = some y) (hm : Ment d y) : ∃ d', ρ d' = some d := by
  cases t with
  | tuple cs =>
    simp only [TV.ren3] at h
    obtain ⟨l, h1, rfl⟩ := Option.map_eq_some_iff.1 h
    cases hm with
    | tuple hc hm => exact seq_ren_ment (fun _ _ => ren2_ment) h1 hc hm
  | _ => simp only [TV.ren3] at h; exact ren2_ment h hm
theorem rhoOut_inv {I : List Nat} {k d d' : Nat} (h : rhoOut I k d' = some d) : d ∈ I ∨ ∃ q, q < 4 ∧ d = newId k q := by
  unfold rhoOut at h
  split at h
  · split at h
    · rename_i i hi; cases h; exact .inl (List.mem_of_getElem? hi)
    · split at h
      · rename_i hq; rw [Nat.blt_eq] at hq; cases h; exact .inr ⟨_, hq, rfl⟩
      · cases h
  · cases h
theorem call_shape {k f mode : Nat} {xs : List TV} {x : TV} {u : Upd} {o : SOp} (hm : ∀ x ∈ xs, ∀ d, Ment d x → s.ment d) (hk : k = dstId dst) (hnews : o.news dst = [newId k 0, newId k 1, newId k 2, newId k 3]) (hwb : o.wb = !Nat.beq mode 0) (hwr : o.wr = !Nat.beq mode 0) (hft : o.foot s = none) (h : callEff C s k f mode xs = some (x, u)) : Shape s dst o x u := by
  obtain ⟨xs', os, y, os', us, h1, h2, h3, h4, h5, h6, rfl⟩ := callEff_inv h
  obtain ⟨hI, hIm⟩ := handI_spec (s := s) mode hm
  have key : ∀ d d', rhoOut (handI s mode xs) k d' = some d → d ∈ o.news dst ∨ ((!Nat.beq mode 0) = true ∧ s.ment d) := by
    intro d d' hd
    rcases rhoOut_inv hd with h | ⟨q, hq, rfl⟩
    · right
      refine ⟨?_, hIm d h⟩
      cases h0 : Nat.beq mode 0 with
      | false => rfl
      | true => simp [handI, h0] at h
    · left
      rw [hnews]
      match q, hq with
      | 0, _ => simp
      | 1, _ => simp
      | 2, _ => simp
      | 3, _ => simp
  have key' : ∀ d d', rhoOut (handI s mode xs) k d' = some d → s.ment d ∨ d ∈ o.news dst := fun d d' hd => (key d d' hd).elim .inr (fun h => .inl h.2)
  have hlk : ∀ i m, us.lookup i = some m → ∃ d' m0, rhoOut (handI s mode xs) k d' = some i ∧ MO.ren (rhoOut (handI s mode xs) k) m0 = some m := fun i m hi => by
    obtain ⟨q, m0, _, a2, a3⟩ := (outs_spec h6).1 i m hi
    exact ⟨_, m0, a2, a3⟩
  refine ⟨fun d cs hd => ?_, fun d q hd => ?_, fun d q hd => (by cases hd), fun d hd => ?_, fun d e cs c he hc hd => ?_⟩
  · simp only [ovB] at hd
    split at hd
    · rename_i hl
      obtain ⟨d', m0, a1, _⟩ := hlk _ _ hl
      rw [hwb]; exact (key d d' a1).imp id (fun h => ⟨h.1, h.2, fun k hk => by rw [hft] at hk; cases hk⟩)
    · cases hd
  · simp only [ovR] at hd
    split at hd
    · rename_i hl
      obtain ⟨d', m0, a1, _⟩ := hlk _ _ hl
      rw [hwr]; exact key d d' a1
    · cases hd
  · obtain ⟨d', a1⟩ := ren3_ment h5 hd
    exact key' d d' a1
  · simp only [ovB] at he
    split at he
    · rename_i hl
      cases he
      obtain ⟨d', m0, _, a2⟩ := hlk _ _ hl
      cases m0 with
      | row e W n => simp [MO.ren] at a2
      | box c0 =>
        simp only [MO.ren] at a2
        obtain ⟨l, a3, a4⟩ := Option.map_eq_some_iff.1 a2
        cases a4
        obtain ⟨d', a5⟩ := seq_ren_ment (ρ := rhoOut (handI s mode xs) k) (f := TV.ren1 (rhoOut (handI s mode xs) k)) (fun _ _ h1 h2 => ren1_ment h1 h2) a3 hc hd
        exact key' d d' a5
    · cases he
theorem eff_shape {o : SOp} {x : TV} {u : Upd} (h : eff P C dst o s = some (x, u)) : Shape s dst o x u := by
  cases o with
  | mov y => exact map_shape (f := fun c => c) h (fun v hv d hd => .inl (get_ment hv hd))
  | pick c y z =>
    simp only [eff] at h
    split at h
    · exact map_shape (f := fun c => c) h (fun v hv d hd => .inl (get_ment hv hd))
    · cases h
  | bin op t a b =>
    simp only [eff] at h
    split at h
    · cases h
    · exact scal_shape h
    · cases h
  | un op a =>
    simp only [eff] at h
    split at h
    · exact scal_shape h
    · cases h
  | cvi k a => exact map_shape h (fun v hv d hd => by cases hd)
  | cvs a => exact map_shape h (fun v hv d hd => by cases hd)
  | b2s a => exact map_shape h (fun v hv d hd => by cases hd)
  | slen a => exact map_shape h (fun v hv d hd => by cases hd)
  | len a => exact map_shape h (fun v hv d hd => by cases hd)
  | imm mx a b =>
    simp only [eff] at h
    split at h
    · cases h; exact .no (fun d hd => by cases hd)
    · cases h
  | sidx a b =>
    simp only [eff] at h
    split at h
    · split at h
      · exact map_shape h (fun v hv d hd => by cases hd)
      · cases h
    · cases h
  | ssub a b c =>
    simp only [eff] at h
    split at h
    · split at h
      · split at h
        · cases h; exact .no (fun d hd => by cases hd)
        · cases h
      · cases h
    · cases h
  | new z =>
    simp only [eff] at h
    split at h
    · cases h
      refine ⟨fun d cs hd => ?_, fun _ _ h => (by cases h), fun _ _ h => (by cases h), fun d hd => ?_, fun d e cs c he hc hd => ?_⟩
      · simp only [ovB] at hd
        split at hd
        · rename_i e; cases e; exact .inl (by simp [SOp.news])
        · cases hd
      · cases hd; exact .inr (by simp [SOp.news])
      · simp only [ovB] at he
        split at he
        · cases he
          obtain ⟨v, _, rfl⟩ := List.mem_map.1 hc
          cases hd
        · cases he
    · cases h
  | box y =>
    simp only [eff] at h
    split at h
    · obtain ⟨cs', h1, h2⟩ := Option.map_eq_some_iff.1 h
      cases h2
      refine ⟨fun d cs hd => ?_, fun _ _ h => (by cases h), fun _ _ h => (by cases h), fun d hd => ?_, fun d e cs c he hc hd => ?_⟩
      · simp only [ovB] at hd
        split at hd
        · rename_i e; cases e; exact .inl (by simp [SOp.news])
        · cases hd
      · cases hd; exact .inr (by simp [SOp.news])
      · simp only [ovB] at he
        split at he
        · cases he; exact .inl (argCells_ment h1 hc hd)
        · cases he
    · cases h
  | mks bytes z n =>
    simp only [eff] at h
    split at h
    · split at h
      · cases h
        refine ⟨fun d cs hd => ?_, fun _ _ h => (by cases h), fun _ _ h => (by cases h), fun d hd => ?_, fun d e cs c he hc hd => ?_⟩
        · simp only [ovB] at hd
          split at hd
          · rename_i e; cases e; exact .inl (by simp [SOp.news])
          · cases hd
        · cases hd; exact .inr (by simp [SOp.news])
        · simp only [ovB] at he
          split at he
          · cases he
            obtain ⟨l, h1, h2⟩ := List.mem_flatten.1 hc
            rw [List.eq_of_mem_replicate h1] at h2
            obtain ⟨v, _, rfl⟩ := List.mem_map.1 h2
            cases hd
          · cases he
      · cases h
    · cases h
  | build z ps =>
    simp only [eff] at h
    obtain ⟨qs, h1, h⟩ := Option.bind_eq_some_iff.1 h
    refine map_shape h (fun v hv d hm => ?_)
    cases hm with
    | agg hc hm =>
    rcases fillT_mem hv hc with h3 | ⟨p, hp, h3⟩
    · obtain ⟨w, _, rfl⟩ := List.mem_map.1 h3
      cases hm
    · obtain ⟨k, hk⟩ := List.getElem?_of_mem hp
      obtain ⟨l1, hs1⟩ := seqO_spec h1
      have hkl : k < ps.length := by rw [l1]; exact (List.getElem?_eq_some_iff.1 hk).1
      obtain ⟨y, hy1, hy2⟩ := hs1 k ps[k] (List.getElem?_eq_getElem hkl)
      rw [hk] at hy1; cases hy1
      obtain ⟨xs, hx1, rfl⟩ := Option.map_eq_some_iff.1 hy2
      exact .inl (argCells_ment hx1 h3 hm)
  | bsl W xs =>
    simp only [eff] at h
    obtain ⟨_, _, h⟩ := Option.bind_eq_some_iff.1 h
    split at h
    · cases h; exact .no (fun d hd => by cases hd)
    · cases h
  | fld a off size y =>
    simp only [eff] at h
    split at h
    · rename_i cs hy
      split at h
      · split at h
        · cases h
          refine .no (fun d hm => ?_)
          cases hm with
          | agg hc hm => exact .inl (get_ment hy (.agg (List.mem_of_mem_drop (List.mem_of_mem_take hc)) hm))
        · cases h
      · exact map_shape (f := fun c => c) h (fun v hv d hm => .inl (get_ment hy (.agg (List.mem_of_getElem? hv) hm)))
    · cases h
  | fldA off y =>
    simp only [eff] at h
    split at h
    · rename_i d' o' hy
      cases h
      exact .no (fun d hm => by cases hm; exact .inl (get_ment hy (.ptr _)))
    · cases h
      exact .no (fun d hm => by cases hm)
    · cases h
  | ld a size y =>
    simp only [eff] at h
    split at h
    · rename_i d' o' hy
      obtain ⟨cs, hb, h⟩ := Option.bind_eq_some_iff.1 h
      split at h
      · split at h
        · cases h
          refine .no (fun d hm => ?_)
          cases hm with
          | agg hc hm => exact .inl (.inr ⟨d', cs, _, hb, List.mem_of_mem_drop (List.mem_of_mem_take hc), hm⟩)
        · cases h
      · exact map_shape (f := fun c => c) h (fun v hv d hm => .inl (.inr ⟨d', cs, _, hb, List.mem_of_getElem? hv, hm⟩))
    · split at h
      · split at h
        · cases h
          refine .no (fun d hm => ?_)
          cases hm with
          | agg hc hm =>
            obtain ⟨p, _, rfl⟩ := List.mem_map.1 hc
            cases hm
        · cases h
      · exact map_shape h (fun v hv d hm => by cases hm)
    · cases h
  | st n y z =>
    simp only [eff] at h
    split at h
    · rename_i d' o' hy
      obtain ⟨cs, hb, h⟩ := Option.bind_eq_some_iff.1 h
      obtain ⟨xs, hxs, h⟩ := Option.bind_eq_some_iff.1 h
      split at h
      · cases h
        refine ⟨fun d cs' hd => ?_, fun _ _ h => (by cases h), fun _ _ h => (by cases h), fun d hd => (by cases hd), fun d e cs' c he hc hd => ?_⟩
        · simp only [ovB] at hd
          split at hd
          · rename_i e; subst e; exact .inr ⟨rfl, get_ment hy (.ptr _), fun k hk => by simp only [SOp.foot, hy] at hk; exact Option.some.inj hk⟩
          · cases hd
        · simp only [ovB] at he
          split at he
          · cases he
            rcases mem_splice hc with h1 | h1
            · exact .inl (.inr ⟨_, cs, c, hb, h1, hd⟩)
            · exact .inl (argCells_ment hxs h1 hd)
          · cases he
      · cases h
    · cases h
  | idxA W y i =>
    simp only [eff] at h
    split at h
    · rename_i hy _
      split at h
      · cases h; exact .no (fun d hm => by cases hm; exact .inl (get_ment hy (.bs _ _ _)))
      · cases h
    · split at h
      · exact map_shape h (fun v hv d hm => by cases hm)
      · cases h
    · cases h
  | sub W y lo hi =>
    simp only [eff] at h
    split at h
    · rename_i hy
      split at h
      · split at h
        · cases h
          refine .no (fun d hm => ?_)
          split at hm <;> (cases hm; exact .inl (get_ment hy (.bs _ _ _)))
        · cases h
      · cases h
    · split at h
      · split at h
        · split at h
          · cases h; exact .no (fun d hm => by cases hm)
          · cases h
        · cases h
      · cases h
    · cases h
  | app e W b y z =>
    simp only [eff] at h
    split at h
    · rename_i d' W' es es2 hy _
      split at h
      · cases h
        refine ⟨fun _ _ h => (by cases h), fun d q hd => ?_, fun _ _ h => (by cases h), fun d hm => ?_, fun _ _ _ _ h => (by cases h)⟩
        · simp only [ovR] at hd
          split at hd
          · rename_i e; subst e; exact .inr ⟨rfl, get_ment hy (.own _ _)⟩
          · cases hd
        · cases hm; exact .inl (get_ment hy (.own _ _))
      · cases h
    · cases h
  | appS e b y z =>
    simp only [eff] at h
    split at h
    · rename_i d' W' es es2 hy _
      split at h
      · cases h
        refine ⟨fun _ _ h => (by cases h), fun d q hd => ?_, fun _ _ h => (by cases h), fun d hm => ?_, fun _ _ _ _ h => (by cases h)⟩
        · simp only [ovR] at hd
          split at hd
          · rename_i e; subst e; exact .inr ⟨rfl, get_ment hy (.own _ _)⟩
          · cases hd
        · cases hm; exact .inl (get_ment hy (.own _ _))
      · cases h
    · cases h
  | appN e W b y z =>
    simp only [eff] at h
    split at h
    · split at h
      · cases h
        refine ⟨fun _ _ h => (by cases h), fun d q hd => ?_, fun _ _ h => (by cases h), fun d hm => ?_, fun _ _ _ _ h => (by cases h)⟩
        · simp only [ovR] at hd
          split at hd
          · rename_i e; subst e; exact .inl (by simp [SOp.news])
          · cases hd
        · cases hm; exact .inr (by simp [SOp.news])
      · cases h
    · cases h
  | appNS e b y z =>
    simp only [eff] at h
    split at h
    · split at h
      · cases h
        refine ⟨fun _ _ h => (by cases h), fun d q hd => ?_, fun _ _ h => (by cases h), fun d hm => ?_, fun _ _ _ _ h => (by cases h)⟩
        · simp only [ovR] at hd
          split at hd
          · rename_i e; subst e; exact .inl (by simp [SOp.news])
          · cases hd
        · cases hm; exact .inr (by simp [SOp.news])
      · cases h
    · cases h
  | call f m xs =>
    simp only [eff] at h
    obtain ⟨vs, hv, h⟩ := Option.bind_eq_some_iff.1 h
    exact call_shape (seq_ment hv) rfl rfl rfl rfl rfl h
  | callv y m xs =>
    simp only [eff] at h
    split at h
    · rename_i h1 h2
      exact call_shape (callv_ment (t := .unk) h1 h2) rfl rfl rfl rfl rfl h
    · cases h
  | ext y i =>
    simp only [eff] at h
    split at h
    · rename_i ts hy
      exact map_shape (f := fun c => c) h (fun v hv d hm => .inl (get_ment hy (.tuple (List.mem_of_getElem? hv) hm)))
    · cases h
  | nchk y =>
    simp only [eff] at h
    split at h
    · rename_i hy
      cases h; exact .no (fun d hm => .inl (get_ment hy hm))
    · rename_i hy
      cases h; exact .no (fun d hm => .inl (get_ment hy hm))
    · cases h
  | mkf f a b =>
    simp only [eff] at h
    split at h
    · rename_i h1 h2
      cases h
      refine .no (fun d hm => ?_)
      cases hm with
      | fn1 hc hm => exact .inl (seq_ment h1 _ hc d hm)
      | fn2 hc hm => exact .inl (seq_ment h2 _ hc d hm)
    · cases h
  | rng y =>
    simp only [eff] at h
    split at h
    · cases h
      refine ⟨fun _ _ h => (by cases h), fun _ _ h => (by cases h), fun d q hd => ?_, fun d hm => ?_, fun _ _ _ _ h => (by cases h)⟩
      · simp only [ovI] at hd
        split at hd
        · rename_i e; subst e; exact .inl (by simp [SOp.news])
        · cases hd
      · cases hm; exact .inr (by simp [SOp.news])
    · cases h
  | nxt y =>
    simp only [eff] at h
    split at h
    · rename_i hy
      split at h
      · split at h
        · cases h
          refine ⟨fun _ _ h => (by cases h), fun _ _ h => (by cases h), fun d q hd => ?_, fun d hm => ?_, fun _ _ _ _ h => (by cases h)⟩
          · simp only [ovI] at hd
            split at hd
            · rename_i e; subst e; exact .inr ⟨rfl, get_ment hy .it⟩
            · cases hd
          · cases hm with
            | tuple hc hm => simp at hc; rcases hc with rfl | rfl | rfl <;> cases hm
        · cases h
          refine .no (fun d hm => ?_)
          cases hm with
          | tuple hc hm => simp at hc; subst hc; cases hm
      · cases h
    · cases h
end
end Go.Sh
end

section
/- Sh: regions: operations that are apart may change places; whatever the order. No statement of the program is proved here. -/
namespace Go.Sh
open Go Go.RowKit
set_option maxHeartbeats 4000000
section
variable {P : Program} {C C' : Oracle} {s s' : FS}

/-- What an operation does, if it looks where it is said to look. -/
def footOk (o : SOper) (s : FS) : Bool := match o.fp with
  | none => true
  | some d => match o.op.foot s with | some k => Nat.beq k d | none => false
def effF (P : Program) (C : Oracle) (o : SOper) (s : FS) : Option (TV × Upd) := match footOk o s with | true => eff P C o.dst o.op s | false => none
theorem effF_eff {o : SOper} {e : TV × Upd} (h : effF P C o s = some e) : eff P C o.dst o.op s = some e ∧ ∀ d, o.fp = some d → o.op.foot s = some d := by
  unfold effF at h
  split at h
  · rename_i hf
    refine ⟨h, fun d hd => ?_⟩
    unfold footOk at hf
    rw [hd] at hf
    simp only [] at hf
    split at hf
    · rename_i k hk; rw [hk, Nat.eq_of_beq_eq_true hf]
    · cases hf
  · cases h
/-- What an operation does, if it is done. -/
def effG (P : Program) (C : Oracle) (o : SOper) (s : FS) : Option (TV × Upd) :=
  match o.guard with
  | some (g, want) => match s.t g with
    | some (.pv (.v (.bool b))) => if b == want then effF P C o s else some (.pv (.v undef), .no)
    | some (.pv (.v _)) => some (.pv (.v undef), .no)
    | _ => none
  | none => effF P C o s
def FS.after (s : FS) (o : SOper) (e : TV × Upd) : FS := (s.upd o.dst e.2).put o.dst e.1
def step (P : Program) (C : Oracle) (o : SOper) (s : FS) : Option FS := (effG P C o s).map (s.after o)
def SOper.news (o : SOper) : List Nat := o.op.news o.dst

def unlike : Option Nat → Option Nat → Bool
  | some a, some b => !Nat.beq a b
  | _, _ => false
def noClash (o p : SOper) : Bool := (unlike o.fp p.fp || (!(o.op.wb && p.op.rb) && !(p.op.wb && o.op.rb))) && !(o.op.wr && p.op.wr) && !(o.op.wi && p.op.wi)
def apart (o p : SOper) : Bool :=
  (match o.dst with | some d => !p.reads.contains d && p.dst != some d | none => true) && (match p.dst with | some d => !o.reads.contains d && o.dst != some d | none => true) && noClash o p
theorem apart_symm {o p : SOper} (h : apart o p = true) : apart p o = true := by
  unfold apart noClash at *
  simp only [Bool.and_eq_true, Bool.or_eq_true] at h ⊢
  obtain ⟨⟨h1, h2⟩, ⟨h3, h5⟩, h6⟩ := h
  refine ⟨⟨h2, h1⟩, ⟨?_, ?_⟩, ?_⟩
  · rcases h3 with h3 | ⟨h3, h4⟩
    · left
      cases ho : o.fp with
      | none => rw [ho] at h3; cases h3
      | some a =>
        cases hp : p.fp with
        | none => rw [ho, hp] at h3; cases h3
        | some b =>
          rw [ho, hp] at h3
          simp only [unlike, Bool.not_eq_true'] at h3 ⊢
          cases hb : Nat.beq b a with
          | false => rfl
          | true => rw [Nat.eq_of_beq_eq_true hb, Nat.beq_refl] at h3; cases h3
    · exact .inr ⟨h4, h3⟩
  · rw [Bool.and_comm]; exact h5
  · rw [Bool.and_comm]; exact h6
theorem unlike_spec {a b : Option Nat} (h : unlike a b = true) : ∃ x y, a = some x ∧ b = some y ∧ x ≠ y := by
  cases a with
  | none => cases h
  | some x =>
    cases b with
    | none => cases h
    | some y =>
      simp only [unlike, Bool.not_eq_true'] at h
      exact ⟨x, y, rfl, rfl, by rintro rfl; rw [Nat.beq_refl] at h; cases h⟩
def FreshO (o : SOper) (s : FS) : Prop := ∀ d ∈ o.news, Fresh s d

theorem effG_cases {o : SOper} {e : TV × Upd} (h : effG P C o s = some e) : e = (.pv (.v undef), .no) ∨ effF P C o s = some e := by
  unfold effG at h
  split at h
  · split at h
    · split at h
      · exact .inr h
      · cases h; exact .inl rfl
    · cases h; exact .inl rfl
    · cases h
  · exact .inr h
theorem effG_shape {o : SOper} {e : TV × Upd} (h : effG P C o s = some e) : Shape s o.dst o.op e.1 e.2 := by
  rcases effG_cases h with rfl | h
  · exact .no (fun d hd => by cases hd)
  · exact eff_shape (x := e.1) (u := e.2) (effF_eff h).1
theorem foot_congr {o : SOp} (h : ∀ k ∈ o.reads, s'.t k = s.t k) : o.foot s' = o.foot s := by
  cases o with
  | ld a n x => simp only [SOp.foot, get_congr (x := x) h]
  | st n x y => simp only [SOp.reads, List.mem_append] at h; simp only [SOp.foot, get_congr (x := x) fun k hk => h k (.inl hk)]
  | _ => rfl
theorem effG_congr {o : SOper} (h : ∀ k ∈ o.reads, s'.t k = s.t k) (hb : o.op.rb = true → ∀ d, s.ment d → (∀ k, o.fp = some k → d = k) → s'.b d = s.b d) (hr : o.op.wr = true → ∀ d, s.ment d → s'.r d = s.r d) (hi : o.op.wi = true → ∀ d, s.ment d → s'.i d = s.i d) : effG P C o s' = effG P C o s := by
  have hrd : ∀ k ∈ o.op.reads, s'.t k = s.t k := fun k hk => h k (by simp [SOper.reads, hk])
  have hft : footOk o s' = footOk o s := by unfold footOk; rw [foot_congr hrd]
  have he : effF P C o s' = effF P C o s := by
    unfold effF
    rw [hft]
    cases hf : footOk o s with
    | false => rfl
    | true =>
      refine eff_congr hrd (fun h0 d hd hk => hb h0 d hd (fun k hk' => ?_)) hr hi
      unfold footOk at hf
      rw [hk'] at hf
      simp only [] at hf
      split at hf
      · rename_i q hq; have := hk q hq; rw [this]; exact Nat.eq_of_beq_eq_true hf
      · cases hf
  unfold effG
  cases hg : o.guard with
  | none => simp only [he]
  | some gw =>
    obtain ⟨g, want⟩ := gw
    simp only [he, h g (by simp [SOper.reads, hg])]
/-- An operation does the same behind another one that is apart from it. -/
theorem effG_apart {o p : SOper} (hap : apart o p = true) (hf : FreshO o s) {e : TV × Upd} (he : effG P C o s = some e) : effG P C' p (s.after o e) = effG P C' p s := by
  unfold apart noClash at hap
  simp only [Bool.and_eq_true, Bool.not_eq_true', Bool.or_eq_true] at hap
  obtain ⟨⟨h1, h2⟩, ⟨h34, h5⟩, h6⟩ := hap
  have hS := effG_shape he
  have hfo : ∀ d cs, ovB o.dst e.2 d = some cs → d ∈ o.op.news o.dst ∨ (o.op.wb = true ∧ ∀ k, o.fp = some k → d = k) := by
    intro d cs hd
    rcases effG_cases he with rfl | he'
    · cases hd
    · rcases hS.b d cs hd with h | ⟨h, _, h'⟩
      · exact .inl h
      · exact .inr ⟨h, fun k hk => h' k ((effF_eff he').2 k hk)⟩
  have hne : ∀ d, s.ment d → d ∉ o.op.news o.dst := fun d hd hn => (hf d hn).1 hd
  refine effG_congr (fun k hk => ?_) (fun hb d hd hdk => ?_) (fun hr d hd => ?_) (fun hi d hd => ?_)
  · unfold FS.after
    rw [put_t, upd_t, if_neg]
    intro hd
    rw [hd] at h1
    simp at h1
    exact h1.1 hk
  · unfold FS.after
    rw [put_b, upd_b]
    cases ho : ovB o.dst e.2 d with
    | none => rfl
    | some cs =>
      rcases hfo d cs ho with h | ⟨h, h'⟩
      · exact absurd h (hne d hd)
      · rcases h34 with hu | ⟨h3, _⟩
        · obtain ⟨x, y, e1, e2, e3⟩ := unlike_spec hu
          exact absurd ((h' x e1).symm.trans (hdk y e2)) e3
        · simp [h, hb] at h3
  · unfold FS.after
    rw [put_r, upd_r]
    cases ho : ovR e.2 d with
    | none => rfl
    | some cs =>
      rcases hS.r d cs ho with h | ⟨h, _⟩
      · exact absurd h (hne d hd)
      · simp [h, hr] at h5
  · unfold FS.after
    rw [put_i, upd_i]
    cases ho : ovI e.2 d with
    | none => rfl
    | some cs =>
      rcases hS.i d cs ho with h | ⟨h, _⟩
      · exact absurd h (hne d hd)
      · simp [h, hi] at h6
theorem FS.ext' {a b : FS} (h1 : ∀ k, a.t k = b.t k) (h2 : ∀ k, a.b k = b.b k) (h3 : ∀ k, a.r k = b.r k) (h4 : ∀ k, a.i k = b.i k) : a = b := by
  cases a; cases b
  simp only [FS.mk.injEq]
  exact ⟨funext h1, funext h2, funext h3, funext h4⟩
/-- Who makes memory has names of its own. -/
def mkOk (a b : SOper) : Bool := a.news.all fun d => !b.news.contains d
theorem mkOk_spec {a b : SOper} (h : mkOk a b = true) {d : Nat} (h1 : d ∈ a.news) (h2 : d ∈ b.news) : False := by
  have := List.all_eq_true.1 h d h1
  simp [h2] at this
/-- Two operations that are apart: whatever the order. -/
theorem after_comm {o p : SOper} (hap : apart o p = true) (hmk : mkOk o p = true) (hfo : FreshO o s) (hfp : FreshO p s) {e f : TV × Upd} (he : effG P C o s = some e) (hf : effG P C' p s = some f) : (s.after o e).after p f = (s.after p f).after o e := by
  unfold apart noClash at hap
  simp only [Bool.and_eq_true, Bool.not_eq_true', Bool.or_eq_true] at hap
  obtain ⟨⟨h1, h2⟩, ⟨h34, h5⟩, h6⟩ := hap
  have hdd : ∀ k, o.dst = some k → p.dst ≠ some k := by
    intro k hk hp
    rw [hk] at h1
    simp [hp] at h1
  have hSo := effG_shape he
  have hSp := effG_shape hf
  have clash : ∀ {d : Nat} {A Bo : Bool}, (d ∈ o.op.news o.dst ∨ (A = true ∧ s.ment d)) → (d ∈ p.op.news p.dst ∨ (Bo = true ∧ s.ment d)) → (A && Bo) = false → False := by
    intro d A Bo q1 q2 hq
    rcases q1 with q1 | ⟨q1, q1'⟩ <;> rcases q2 with q2 | ⟨q2, q2'⟩
    · exact mkOk_spec hmk q1 q2
    · exact (hfo d q1).1 q2'
    · exact (hfp d q2).1 q1'
    · simp [q1, q2] at hq
  refine FS.ext' (fun k => ?_) (fun k => ?_) (fun k => ?_) (fun k => ?_)
  · unfold FS.after
    simp only [put_t, upd_t]
    by_cases q1 : o.dst = some k
    · have := hdd k q1; simp [q1, this]
    · simp [q1]
  · unfold FS.after
    simp only [put_b, upd_b]
    cases q1 : ovB o.dst e.2 k with
    | none => rfl
    | some x =>
      cases q2 : ovB p.dst f.2 k with
      | none => rfl
      | some y =>
        exfalso
        rcases h34 with hu | ⟨h3, _⟩
        · obtain ⟨x', y', e1, e2, e3⟩ := unlike_spec hu
          have k1 : ∀ (o : SOper) (C : Oracle) (e : TV × Upd), effG P C o s = some e → ∀ cs, ovB o.dst e.2 k = some cs → ∀ z, o.fp = some z → k ∈ o.op.news o.dst ∨ k = z := by
            intro o C e he cs hd z hz
            rcases effG_cases he with rfl | he'
            · cases hd
            · rcases (effG_shape he).b k cs hd with h | ⟨_, _, h'⟩
              · exact .inl h
              · exact .inr (h' z ((effF_eff he').2 z hz))
          have nn : ∀ (o : SOper) (z : Nat) (e : TV × Upd) (C : Oracle), effG P C o s = some e → o.fp = some z → ∀ cs, ovB o.dst e.2 k = some cs → k ∈ o.op.news o.dst → False := by
            intro o z e C he hz cs hd hn
            rcases effG_cases he with rfl | he'
            · cases hd
            · have := (effF_eff he').2 z hz
              cases hop : o.op <;> rw [hop] at this hn <;> simp [SOp.foot, SOp.news] at this hn
          rcases k1 o C e he _ q1 x' e1 with a1 | a1
          · exact nn o x' e C he e1 _ q1 a1
          · rcases k1 p C' f hf _ q2 y' e2 with a2 | a2
            · exact nn p y' f C' hf e2 _ q2 a2
            · exact e3 (a1.symm.trans a2)
        · refine clash ((hSo.b k _ q1).imp id (fun h => ⟨h.1, h.2.1⟩)) ((hSp.b k _ q2).imp id (fun h => ⟨h.1, h.2.1⟩)) ?_
          cases hw : p.op.wb with
          | false => simp
          | true => have := wb_rb hw; simp [this] at h3; simp [h3]
  · unfold FS.after
    simp only [put_r, upd_r]
    cases q1 : ovR e.2 k with
    | none => rfl
    | some x =>
      cases q2 : ovR f.2 k with
      | none => rfl
      | some y => exact (clash (hSo.r k _ q1) (hSp.r k _ q2) h5).elim
  · unfold FS.after
    simp only [put_i, upd_i]
    cases q1 : ovI e.2 k with
    | none => rfl
    | some x =>
      cases q2 : ovI f.2 k with
      | none => rfl
      | some y => exact (clash (hSo.i k _ q1) (hSp.i k _ q2) h6).elim
theorem step_comm {o p : SOper} (hap : apart o p = true) (hmk : mkOk o p = true) (hfo : FreshO o s) (hfp : FreshO p s) {s1 s2 : FS} (h1 : step P C o s = some s1) (h2 : step P C' p s1 = some s2) : ∃ s1', step P C' p s = some s1' ∧ step P C o s1' = some s2 := by
  obtain ⟨e, he, rfl⟩ := Option.map_eq_some_iff.1 h1
  obtain ⟨f, hf, rfl⟩ := Option.map_eq_some_iff.1 h2
  rw [effG_apart hap hfo he] at hf
  refine ⟨s.after p f, by unfold step; rw [hf]; rfl, ?_⟩
  unfold step
  rw [effG_apart (apart_symm hap) hfp hf, he, after_comm hap hmk hfo hfp he hf]; rfl
theorem fresh_after {o p : SOper} (hf : FreshO p s) (hmk : mkOk o p = true) {s1 : FS} (h : step P C o s = some s1) : FreshO p s1 := by
  obtain ⟨e, he, rfl⟩ := Option.map_eq_some_iff.1 h
  have hS := effG_shape he
  intro d hd
  obtain ⟨f1, f2, f3, f4⟩ := hf d hd
  have hno : d ∉ o.op.news o.dst := fun h => mkOk_spec hmk h hd
  have hm : ∀ {A : Prop}, (s.ment d ∨ d ∈ o.op.news o.dst) → A := fun h => h.elim (fun h => absurd h f1) (fun h => absurd h hno)
  refine ⟨?_, ?_, ?_, ?_⟩
  · rintro (⟨k, y, hk, hy⟩ | ⟨k, cs, c, hk, hc, hy⟩)
    · unfold FS.after at hk
      rw [put_t, upd_t] at hk
      split at hk
      · cases hk; exact hm (hS.x d hy)
      · exact f1 (.inl ⟨k, y, hk, hy⟩)
    · unfold FS.after at hk
      rw [put_b, upd_b] at hk
      cases ho : ovB o.dst e.2 k with
      | none => rw [ho] at hk; exact f1 (.inr ⟨k, cs, c, hk, hc, hy⟩)
      | some x => rw [ho] at hk; cases hk; exact hm (hS.m d k cs c ho hc hy)
  · unfold FS.after
    rw [put_b, upd_b]
    cases ho : ovB o.dst e.2 d with
    | none => exact f2
    | some x => exact hm ((hS.b d x ho).elim .inr (fun h => .inl h.2.1))
  · unfold FS.after
    rw [put_r, upd_r]
    cases ho : ovR e.2 d with
    | none => exact f3
    | some x => exact hm ((hS.r d x ho).elim .inr (fun h => .inl h.2))
  · unfold FS.after
    rw [put_i, upd_i]
    cases ho : ovI e.2 d with
    | none => exact f4
    | some x => exact hm ((hS.i d x ho).elim .inr (fun h => .inl h.2))
end

def dstOk (N : Nat) : Option Nat → Bool
  | some d => Nat.blt d N
  | none => true
def transGuard (ops : Array Oper) : Option (Nat × Bool) → Option (Option (Nat × Bool))
  | none => some none
  | some (j, want) => match (ops[j]?).bind (·.dst) with
    | some d => some (some (d, want))
    | none => none
def transOper (P : Program) (N : Nat) (H : Option Nat → Nat) (fp : Option Nat) (ops : Array Oper) (o : Oper) : Option SOper :=
  match transGuard ops o.guard, transOp P o (H o.dst) with
  | some g, some op => if dstOk N o.dst then some ⟨o.dst, g, fp, op⟩ else none
  | _, _ => none
def direct (ops : Array Oper) (a i : Nat) : Bool := match ops[i]? with
  | some o => o.after.any fun e => Region.binds .any e && Nat.beq e.on a
  | none => false
def ahead (ops : Array Oper) : Nat → Nat → Nat → Bool
  | 0, a, i => direct ops a i
  | f + 1, a, i => direct ops a i || (match ops[i]? with
    | some o => o.after.any fun e => Region.binds .any e && ahead ops f a e.on
    | none => false)
def pairOk (ops : Array Oper) (draw : Bool) (sops : List SOper) (i j : Nat) : Bool :=
  match sops[i]?, sops[j]? with
  | some a, some b => mkOk a b && (!draw || apart a b || ahead ops 4 i j)
  | _, _ => false
def regionOk (ops : Array Oper) (draw : Bool) (sops : List SOper) : Bool :=
  ((List.range sops.length).all fun j => (List.range j).all fun i => pairOk ops draw sops i j) &&
  (!draw || (List.range sops.length).all fun i => match ops[i]? with | some o => o.after.all fun e => !Region.binds .any e || Nat.blt e.on i | none => true)

/-- The operations, one by one. -/
def transOps (P : Program) (N : Nat) (H : Option Nat → Nat) (fps : Nat → Option Nat) (ops : Array Oper) : Nat → List Oper → Option (List SOper)
  | _, [] => some []
  | j, o :: l => match transOper P N H (fps j) ops o, transOps P N H fps ops (j + 1) l with
    | some x, some r => some (x :: r)
    | _, _ => none
theorem transOps_spec {P : Program} {N : Nat} {H : Option Nat → Nat} {fps : Nat → Option Nat} {ops : Array Oper} : ∀ {l : List Oper} {j : Nat} {sops : List SOper}, transOps P N H fps ops j l = some sops → l.length = sops.length ∧ ∀ (i : Nat) o, l[i]? = some o → ∃ so, sops[i]? = some so ∧ transOper P N H (fps (j + i)) ops o = some so
  | [], j, sops, h => by simp [transOps] at h; subst h; simp
  | o :: l, j, sops, h => by
    simp only [transOps] at h
    split at h
    · rename_i x r h1 h2
      cases h
      obtain ⟨a1, a2⟩ := transOps_spec h2
      refine ⟨by simp [a1], fun i p hp => ?_⟩
      cases i with
      | zero => simp at hp; subst hp; exact ⟨x, rfl, h1⟩
      | succ i =>
        obtain ⟨so, b1, b2⟩ := a2 i p (by simpa using hp)
        exact ⟨so, by simpa using b1, by rw [← b2]; congr 2; omega⟩
    · cases h
def transRegion (P : Program) (N : Nat) (H : Option Nat → Nat) (fps : Nat → Option Nat) (ops : Array Oper) (draw : Bool) : Option (List SOper) :=
  match transOps P N H fps ops 0 ops.toList with
  | some sops => if regionOk ops draw sops then some sops else none
  | none => none

section
variable {P : Program} {H : Option Nat → Nat} {ops : Array Oper} {B : Base} {C : Oracle} {sops : List SOper} {g : Glob}

def SoundC (P : Program) (g : Glob) (C : Oracle) : Prop := ∀ f xs os y os', C f xs os = some (y, os') → SCalls P g f xs os y os'
/-- A step, by calls that are known. -/
def Stp (P : Program) (g : Glob) (o : SOper) (s s' : FS) : Prop := ∃ C, SoundC P g C ∧ step P C o s = some s'

theorem sim_step (hm0 : B.m ≤ 1000) (hN : B.N ≤ 1000) (hG : g.G B.w0) (hX : ∀ d b, B.X d b → g.n ≤ b) (hC : SoundC P g C) {s s' : FS} {a : Act} {w : World} {E : Env} (h : Sim B s a w E) {i : Nat} {o : Oper} {so : SOper} {fp : Option Nat} (hi : ops[i]? = some o) (ht : transOper P B.N H fp ops o = some so) (hf : FreshO so s) (hs : step P C so s = some s')
    {K : Act → World → Prop} {Q : Exit → Act → World → Prop} (hK : ∀ a' w' E', Sim B s' a' w' E' → K a' w') : wpOp P ops Q i K a w := by
  unfold transOper at ht
  split at ht <;> try (cases ht; done)
  rename_i gd op hg hop
  split at ht <;> try (cases ht; done)
  rename_i hd
  cases ht
  have hdst : ∀ k, o.dst = some k → k < B.N := by
    intro k hk
    rw [hk] at hd
    simp only [dstOk, Nat.blt_eq] at hd
    exact hd
  obtain ⟨e, he, rfl⟩ := Option.map_eq_some_iff.1 hs
  have hdo : effF P C ⟨o.dst, gd, fp, op⟩ s = some e → o.wp P a w K Q := fun he' =>
    sim_op (C := C) h hm0 hN hG hX hop hdst hf hC (x := e.1) (u := e.2) (effF_eff he').1 (fun v w' E' hS => hK _ _ _ hS)
  unfold wpOp
  simp only [hi]
  unfold effG at he
  cases hgo : o.guard with
  | none =>
    rw [hgo] at hg
    simp only [transGuard, Option.some.injEq] at hg
    subst hg
    simp only at he
    rw [if_pos (by simp [Region.wanted, hgo])]
    exact .inl (hdo he)
  | some jw =>
    obtain ⟨j, want⟩ := jw
    rw [hgo] at hg
    simp only [transGuard] at hg
    split at hg <;> try (cases hg; done)
    rename_i d hjd
    cases hg
    simp only at he
    have hskip : ∀ v, a.tmps[d]? = some v → (∀ b, v = .bool b → (b == want) = false) → e = (.pv (.v undef), .no) → (if Region.wanted o (yielded ops a.tmps) = true then o.wp P a w K Q ∨ (o.asks P a w ∧ LetsOut Q) else K (a.put o.dst undef) w) := by
      intro v hv hb he'
      rw [if_neg]
      · rw [he'] at hK
        exact hK _ _ E (h.put hdst (.pv (.v undef)))
      · simp only [Region.wanted, hgo, yielded, hjd, Option.bind_some, hv]
        cases v <;> simp
        rename_i b
        intro hbw
        have := hb b rfl
        simp [hbw] at this
    have hval : ∀ v, s.t d = some (.pv (.v v)) → a.tmps[d]? = some v := by
      intro v hv
      obtain ⟨h1, h2⟩ := h.tmp d _ hv
      have h3 := val_rel (y := v) h2 rfl
      have hlt : d < a.tmps.size := by rw [h.size]; exact h1
      rw [Array.getD_eq_getD_getElem?, Array.getElem?_eq_getElem hlt] at h3
      rw [Array.getElem?_eq_getElem hlt]
      exact congrArg some h3
    split at he
    · rename_i b hb
      have hv := hval _ hb
      split at he
      · rename_i hbw
        rw [if_pos]
        · exact .inl (hdo he)
        · simp only [Region.wanted, hgo, yielded, hjd, Option.bind_some, hv]
          simpa using hbw
      · rename_i hbw
        cases he
        exact hskip _ hv (fun b' hb' => by cases hb'; simpa using hbw) rfl
    · rename_i v hnb hv
      cases he
      exact hskip _ (hval _ hv) (fun b' hb' => absurd hb' (fun h => hnb b' h)) rfl
    · cases he

def RunI (P : Program) (g : Glob) (sops : List SOper) : List Nat → FS → FS → Prop
  | [], s, sf => s = sf
  | i :: l, s, sf => ∃ o s1, sops[i]? = some o ∧ Stp P g o s s1 ∧ RunI P g sops l s1 sf
def MkAll (sops : List SOper) : Prop := ∀ (i j : Nat) a b, i ≠ j → sops[i]? = some a → sops[j]? = some b → mkOk a b = true
theorem mkOk_symm {a b : SOper} (h : mkOk a b = true) : mkOk b a = true := by
  unfold mkOk
  refine List.all_eq_true.2 fun d hd => ?_
  cases hc : a.news.contains d with
  | false => rfl
  | true => exact (mkOk_spec h (by simpa using hc) hd).elim
theorem mkAll_of {draw : Bool} (h : regionOk ops draw sops = true) : MkAll sops := by
  unfold regionOk at h
  rw [Bool.and_eq_true] at h
  have key : ∀ (i j : Nat) a b, i < j → sops[i]? = some a → sops[j]? = some b → mkOk a b = true := by
    intro i j a b hij ha hb
    have hj : j < sops.length := (List.getElem?_eq_some_iff.1 hb).1
    have := List.all_eq_true.1 (List.all_eq_true.1 h.1 j (by simpa using hj)) i (by simpa using hij)
    unfold pairOk at this
    rw [ha, hb] at this
    simp only [Bool.and_eq_true] at this
    exact this.1
  intro i j a b hne ha hb
  rcases Nat.lt_or_gt_of_ne hne with hlt | hlt
  · exact key i j a b hlt ha hb
  · exact mkOk_symm (key j i b a hlt hb ha)
def FreshI (sops : List SOper) (l : List Nat) (s : FS) : Prop := ∀ i ∈ l, ∀ o, sops[i]? = some o → FreshO o s
theorem freshI_step (hmk : MkAll sops) {l : List Nat} {i : Nat} {o : SOper} {s s1 : FS} (hi : sops[i]? = some o) (hl : i ∉ l) (hf : FreshI sops l s) (hs : Stp P g o s s1) : FreshI sops l s1 := by
  intro j hj p hp
  obtain ⟨C, _, hs⟩ := hs
  exact fresh_after (hf j hj p hp) (hmk i j o p (by rintro rfl; exact hl hj) hi hp) hs
theorem swap_front (hmk : MkAll sops) {i : Nat} {o : SOper} (hi : sops[i]? = some o) {Bl : List Nat} {sf : FS} : ∀ (A : List Nat) (s : FS), (A ++ i :: Bl).Nodup → (∀ a ∈ A, ∀ oa, sops[a]? = some oa → apart oa o = true) → FreshI sops (A ++ i :: Bl) s →
    RunI P g sops (A ++ i :: Bl) s sf → ∃ s1, Stp P g o s s1 ∧ RunI P g sops (A ++ Bl) s1 sf
  | [], s, _, _, _, h => by
    obtain ⟨o', s1, h0, h1, h2⟩ := h
    rw [hi] at h0; cases h0
    exact ⟨s1, h1, h2⟩
  | a :: A, s, hnd, hap, hf, h => by
    obtain ⟨oa, sa, hoa, h1, h2⟩ := h
    simp only [List.cons_append, List.nodup_cons] at hnd
    have hfa : FreshI sops (A ++ i :: Bl) sa := freshI_step hmk hoa hnd.1 (fun j hj => hf j (List.mem_cons_of_mem _ hj)) h1
    obtain ⟨s1', h3, h4⟩ := swap_front hmk hi A sa hnd.2 (fun b hb => hap b (List.mem_cons_of_mem _ hb)) hfa h2
    obtain ⟨C1, c1, h1⟩ := h1
    obtain ⟨C2, c2, h3⟩ := h3
    obtain ⟨s1, h5, h6⟩ := step_comm (hap a (List.mem_cons_self ..) oa hoa) (hmk a i oa o (by rintro rfl; exact hnd.1 (List.mem_append_right _ (List.mem_cons_self ..))) hoa hi) (hf a (List.mem_cons_self ..) oa hoa) (hf i (List.mem_cons_of_mem _ (List.mem_append_right _ (List.mem_cons_self ..))) o hi) h1 h3
    exact ⟨s1, ⟨C2, c2, h5⟩, oa, s1', hoa, ⟨C1, c1, h6⟩, h4⟩
/-- What is listed has all ahead of it listed. -/
def ClosedL (ops : Array Oper) (listed : Array Bool) : Prop := ∀ i o, ops[i]? = some o → listed.getD i true = true → ∀ e ∈ o.after, Region.binds .any e = true → listed.getD e.on false = true
theorem ahead_listed {listed : Array Bool} (hcl : ClosedL ops listed) (hsz : listed.size = ops.size) : ∀ (f a i : Nat), (∀ o, ops[i]? = some o → ∀ e ∈ o.after, Region.binds .any e = true → listed.getD e.on false = true) → ahead ops f a i = true → listed.getD a false = true := by
  have hdir : ∀ a i, (∀ o, ops[i]? = some o → ∀ e ∈ o.after, Region.binds .any e = true → listed.getD e.on false = true) → direct ops a i = true → listed.getD a false = true := by
    intro a i h hd
    unfold direct at hd
    split at hd
    · rename_i o ho
      obtain ⟨e, he1, he2⟩ := Array.any_eq_true'.1 hd
      rw [Bool.and_eq_true] at he2
      have := h o ho e he1 he2.1
      rwa [Nat.eq_of_beq_eq_true he2.2] at this
    · cases hd
  intro f
  induction f with
  | zero => exact hdir
  | succ f ih =>
    intro a i h hr
    simp only [ahead, Bool.or_eq_true] at hr
    rcases hr with hr | hr
    · exact hdir a i h hr
    · split at hr
      · rename_i o ho
        obtain ⟨e, he1, he2⟩ := Array.any_eq_true'.1 hr
        rw [Bool.and_eq_true] at he2
        have hl := h o ho e he1 he2.1
        refine ih a e.on (fun o' ho' e' he' hb' => hcl e.on o' ho' ?_ e' he' hb') he2.2
        have hlt : e.on < listed.size := by
          rcases Nat.lt_or_ge e.on listed.size with h1 | h1
          · exact h1
          · simp [Array.getD, Nat.not_lt.2 h1] at hl
        simpa [Array.getD, hlt] using hl
      · cases hr
def rest (n : Nat) (listed : Array Bool) : List Nat := (List.range n).filter fun i => !listed.getD i true
theorem any_sound (hm0 : B.m ≤ 1000) (hN : B.N ≤ 1000) (hG : g.G B.w0) (hX : ∀ d b, B.X d b → g.n ≤ b) {fps : Nat → Option Nat} (htr : transOps P B.N H fps ops 0 ops.toList = some sops) (hok : regionOk ops true sops = true) {sf : FS} {Q : Exit → Act → World → Prop} (hQ : ∀ a w E, Sim B sf a w E → Q .normal a w) :
    ∀ (fuel : Nat) (listed : Array Bool) (s : FS) (a : Act) (w : World) (E : Env), listed.size = ops.size → ClosedL ops listed → Sim B s a w E → FreshI sops (rest ops.size listed) s → RunI P g sops (rest ops.size listed) s sf → (rest ops.size listed).length ≤ fuel →
      wpAny P .any ops Q fuel listed a w := by
  obtain ⟨hlen, hspec⟩ := transOps_spec htr
  have hlen' : ops.size = sops.length := by simpa using hlen
  have hmk := mkAll_of hok
  have hback : ∀ (i : Nat) o, ops[i]? = some o → ∀ e ∈ o.after, Region.binds .any e = true → e.on < i := by
    intro i o hi e he hb
    unfold regionOk at hok
    rw [Bool.and_eq_true] at hok
    have hil : i < sops.length := by rw [← hlen']; exact (Array.getElem?_eq_some_iff.1 hi).1
    have h2 := hok.2
    simp only [Bool.not_true, Bool.false_or] at h2
    have := List.all_eq_true.1 h2 i (by simpa using hil)
    rw [hi] at this
    have := Array.all_eq_true_iff_forall_mem.1 this e he
    simp only [hb, Bool.not_true, Bool.false_or] at this
    rw [Nat.blt_eq] at this
    exact this
  have hrest : ∀ (listed : Array Bool) i, i ∈ rest ops.size listed ↔ i < ops.size ∧ listed.getD i true = false := by
    intro listed i
    simp [rest]
  have hready : ∀ (listed : Array Bool) i, i ∈ Region.ready .any ops listed ↔ i ∈ rest ops.size listed ∧ ∀ o, ops[i]? = some o → ∀ e ∈ o.after, Region.binds .any e = true → listed.getD e.on false = true := by
    intro listed i
    rw [hrest]
    unfold Region.ready
    simp only [List.mem_filter, List.mem_range, Bool.and_eq_true, Bool.not_eq_true']
    constructor
    · rintro ⟨h1, h2, h3⟩
      refine ⟨⟨h1, h2⟩, fun o ho e he hb => ?_⟩
      rw [ho] at h3
      simp only [Option.map_some, Option.getD_some] at h3
      have := Array.all_eq_true_iff_forall_mem.1 h3 e he
      simpa [hb] using this
    · rintro ⟨⟨h1, h2⟩, h3⟩
      refine ⟨h1, h2, ?_⟩
      obtain ⟨o, ho⟩ : ∃ o, ops[i]? = some o := ⟨_, Array.getElem?_eq_getElem h1⟩
      rw [ho]
      simp only [Option.map_some, Option.getD_some]
      refine Array.all_eq_true_iff_forall_mem.2 fun e he => ?_
      cases hb : Region.binds .any e
      · rfl
      · simp [h3 o ho e he hb]
  have hnil : ∀ (listed : Array Bool), listed.size = ops.size → Region.ready .any ops listed = [] → rest ops.size listed = [] := by
    intro listed hsz hr
    cases hrl : rest ops.size listed with
    | nil => rfl
    | cons i l =>
      exfalso
      have hi : i ∈ rest ops.size listed := by rw [hrl]; exact List.mem_cons_self ..
      have hmin : ∀ j, j < i → j ∉ rest ops.size listed := by
        intro j hj hjm
        have hp : (rest ops.size listed).Pairwise (· < ·) := List.Pairwise.filter _ List.pairwise_lt_range
        rw [hrl] at hp hjm
        rcases List.mem_cons.1 hjm with rfl | hjm
        · omega
        · have := (List.pairwise_cons.1 hp).1 j hjm; omega
      have : i ∈ Region.ready .any ops listed := by
        rw [hready]
        refine ⟨hi, fun o ho e he hb => ?_⟩
        have hlt := hback i o ho e he hb
        have hil := ((hrest listed i).1 hi).1
        have hnm := hmin e.on hlt
        rw [hrest] at hnm
        have hel : e.on < listed.size := by omega
        have : listed.getD e.on true ≠ false := fun h => hnm ⟨by omega, h⟩
        simpa [Array.getD, hel] using this
      rw [hr] at this; cases this
  intro fuel
  induction fuel with
  | zero =>
    intro listed s a w E hsz hcl hS hf hrun hle
    have hr0 : rest ops.size listed = [] := List.eq_nil_of_length_eq_zero (by omega)
    rw [hr0] at hrun
    have hrun : s = sf := hrun
    subst hrun
    refine ⟨?_, hQ a w E hS⟩
    cases hrd : Region.ready .any ops listed with
    | nil => rfl
    | cons i l =>
      have := ((hready listed i).1 (by rw [hrd]; exact List.mem_cons_self ..)).1
      rw [hr0] at this; cases this
  | succ fuel ih =>
    intro listed s a w E hsz hcl hS hf hrun hle
    refine ⟨fun hr => ?_, fun i hi => ?_⟩
    · have hr0 := hnil listed hsz hr
      rw [hr0] at hrun
      have hrun : s = sf := hrun
      subst hrun
      exact hQ a w E hS
    · obtain ⟨hir, hipre⟩ := (hready listed i).1 hi
      obtain ⟨hin, hil⟩ := (hrest listed i).1 hir
      obtain ⟨o, ho⟩ : ∃ o, ops[i]? = some o := ⟨_, Array.getElem?_eq_getElem hin⟩
      obtain ⟨so, hso, hto⟩ := hspec i o (by simpa using ho)
      obtain ⟨A, Bl, hAB⟩ := List.append_of_mem hir
      have hp : (rest ops.size listed).Pairwise (· < ·) := List.Pairwise.filter _ List.pairwise_lt_range
      have hnd : (rest ops.size listed).Nodup := hp.imp (fun h => Nat.ne_of_lt h)
      rw [hAB] at hp hnd hf hrun
      have hA : ∀ j ∈ A, j < i := fun j hj => (List.pairwise_append.1 hp).2.2 j hj i (List.mem_cons_self ..)
      obtain ⟨s1, hs1, hrun1⟩ := swap_front hmk hso A s hnd (fun j hj oa hoa => by
        have hji := hA j hj
        have hjr : j ∈ rest ops.size listed := by rw [hAB]; exact List.mem_append_left _ hj
        have hjl := ((hrest listed j).1 hjr)
        unfold regionOk at hok
        rw [Bool.and_eq_true] at hok
        have := List.all_eq_true.1 (List.all_eq_true.1 hok.1 i (by simp; omega)) j (by simpa using hji)
        unfold pairOk at this
        rw [hoa, hso] at this
        simp only [Bool.and_eq_true, Bool.not_true, Bool.false_or, Bool.or_eq_true] at this
        rcases this.2 with h1 | h1
        · exact h1
        · have := ahead_listed hcl hsz 4 j i hipre h1
          have hlt : j < listed.size := by omega
          have h2 := hjl.2
          simp [Array.getD, hlt] at this h2
          rw [this] at h2; cases h2) hf hrun
      obtain ⟨C1, hC1, hst1⟩ := hs1
      have hs1 : Stp P g so s s1 := ⟨C1, hC1, hst1⟩
      refine sim_step hm0 hN hG hX hC1 hS ho hto (hf i (List.mem_append_right _ (List.mem_cons_self ..)) so hso) hst1 (fun a' w' E' hS' => ?_)
      have hiAB : i ∉ A ++ Bl := by
        have := List.nodup_append.1 hnd
        intro hm
        rcases List.mem_append.1 hm with h1 | h1
        · exact this.2.2 i h1 i (List.mem_cons_self ..) rfl
        · exact (List.nodup_cons.1 this.2.1).1 h1
      have hilt : i < listed.size := by omega
      have hrest' : rest ops.size (listed.setIfInBounds i true) = A ++ Bl := by
        have h1 : rest ops.size (listed.setIfInBounds i true) = (rest ops.size listed).filter (fun j => j != i) := by
          unfold rest
          rw [List.filter_filter]
          apply List.filter_congr
          intro j hj
          have hjn : j < ops.size := by simpa using hj
          have hjl : j < listed.size := by omega
          by_cases hji : j = i
          · subst hji; simp [Array.getD, hjl]
          · simp [Array.getD, hjl, hji, Array.getElem_setIfInBounds, Ne.symm hji]
        rw [h1, hAB, List.filter_append, List.filter_cons]
        simp only [bne_self_eq_false, Bool.false_eq_true, if_false]
        rw [List.filter_eq_self.2, List.filter_eq_self.2]
        · intro j hj; simp; rintro rfl; exact hiAB (List.mem_append_right _ hj)
        · intro j hj; simp; rintro rfl; exact hiAB (List.mem_append_left _ hj)
      refine ih (listed.setIfInBounds i true) s1 a' w' E' (by simpa using hsz) ?_ hS' ?_ (by rw [hrest']; exact hrun1) ?_
      · intro j oj hj hjl e he hb
        have hset : ∀ k, listed.getD k false = true → (listed.setIfInBounds i true).getD k false = true := by
          intro k hk
          have hkl : k < listed.size := by
            rcases Nat.lt_or_ge k listed.size with h1 | h1
            · exact h1
            · simp [Array.getD, Nat.not_lt.2 h1] at hk
          by_cases hki : i = k
          · subst hki; simp [Array.getD, hkl]
          · rw [Array.getD_eq_getD_getElem?, Array.getElem?_setIfInBounds_ne hki, ← Array.getD_eq_getD_getElem?]; exact hk
        by_cases hji : j = i
        · subst hji
          exact hset _ (hipre oj hj e he hb)
        · refine hset _ (hcl j oj hj ?_ e he hb)
          have hjn : j < listed.size := by rw [hsz]; exact (Array.getElem?_eq_some_iff.1 hj).1
          simp [Array.getD, hjn, Array.getElem_setIfInBounds, Ne.symm hji] at hjl
          simp [Array.getD, hjn, hjl]
      · rw [hrest']
        refine freshI_step hmk hso hiAB (fun j hj => hf j ?_) hs1
        rcases List.mem_append.1 hj with h1 | h1
        · exact List.mem_append_left _ h1
        · exact List.mem_append_right _ (List.mem_cons_of_mem _ h1)
      · rw [hrest']
        rw [hAB] at hle
        simp at hle ⊢; omega
end
end Go.Sh
end

section
/- Sh: finite states, and what code does. No statement of the program is proved here. -/
namespace Go.Sh
open Go Go.RowKit
set_option maxHeartbeats 4000000

def lk {α : Type} : List (Nat × α) → Nat → Option α
  | [], _ => none
  | (k, x) :: l, d => match Nat.beq k d with | true => some x | false => lk l d
def sv {α : Type} : List (Nat × α) → Nat → α → List (Nat × α)
  | [], k, x => [(k, x)]
  | (j, y) :: l, k, x => match Nat.beq j k with | true => (k, x) :: l | false => (j, y) :: sv l k x
def has : List Nat → Nat → Bool
  | [], _ => false
  | k :: l, d => match Nat.beq k d with | true => true | false => has l d
def drp {α : Type} (ids : List Nat) : List (Nat × α) → List (Nat × α)
  | [] => []
  | (k, x) :: l => match has ids k with | true => drp ids l | false => (k, x) :: drp ids l
theorem lk_sv {α : Type} (k : Nat) (x : α) : ∀ l : List (Nat × α), lk (sv l k x) = setF (lk l) k x
  | [] => by
    funext d
    simp only [sv, lk, setF]
    by_cases h : d = k
    · subst h; simp [Nat.beq_refl]
    · have : Nat.beq k d = false := by cases hb : Nat.beq k d with | false => rfl | true => exact absurd (Nat.eq_of_beq_eq_true hb).symm h
      simp [this, h]
  | (j, y) :: l => by
    have ih := lk_sv k x l
    funext d
    simp only [sv]
    cases hj : Nat.beq j k with
    | true =>
      obtain rfl := Nat.eq_of_beq_eq_true hj
      simp only [lk, setF]
      by_cases h : d = j
      · subst h; simp [Nat.beq_refl]
      · have : Nat.beq j d = false := by cases hb : Nat.beq j d with | false => rfl | true => exact absurd (Nat.eq_of_beq_eq_true hb).symm h
        simp [this, h]
    | false =>
      have hne : j ≠ k := by rintro rfl; simp [Nat.beq_refl] at hj
      simp only [lk, ih, setF]
      by_cases h : d = k
      · subst h; simp [hj]
      · simp [h]
theorem has_mem : ∀ {l : List Nat} {d : Nat}, has l d = true ↔ d ∈ l
  | [], d => by simp [has]
  | k :: l, d => by
    simp only [has]
    cases hb : Nat.beq k d with
    | true => simp [Nat.eq_of_beq_eq_true hb]
    | false =>
      have : d ≠ k := by rintro rfl; simp [Nat.beq_refl] at hb
      simp [this, has_mem]
theorem lk_drp {α : Type} {ids : List Nat} : ∀ (l : List (Nat × α)) (d : Nat), lk (drp ids l) d = if has ids d then none else lk l d
  | [], d => by simp [drp, lk]
  | (k, x) :: l, d => by
    have ih := lk_drp (ids := ids) l d
    simp only [drp]
    cases hk : has ids k with
    | true =>
      simp only [ih, lk]
      cases hb : Nat.beq k d with
      | true => obtain rfl := Nat.eq_of_beq_eq_true hb; simp [hk]
      | false => rfl
    | false =>
      simp only [lk, ih]
      cases hb : Nat.beq k d with
      | true => obtain rfl := Nat.eq_of_beq_eq_true hb; simp [hk]
      | false => rfl
theorem lk_map {α : Type} (f : α → α) : ∀ (l : List (Nat × α)) (d : Nat), lk (l.map fun e => (e.1, f e.2)) d = (lk l d).map f
  | [], d => rfl
  | (k, x) :: l, d => by
    simp only [List.map_cons, lk]
    cases Nat.beq k d with
    | true => rfl
    | false => exact lk_map f l d

structure ES where
  t : List (Nat × TV)
  b : List (Nat × List TV)
  r : List (Nat × (Nat × Nat × Nat))
  i : List (Nat × (ByteArray × Nat))
def ES.fs (s : ES) : FS := ⟨lk s.t, lk s.b, lk s.r, lk s.i⟩
def putMem (us : List (Nat × MO)) (s : ES) : List Nat → ES
  | [] => s
  | i :: l => match us.lookup i with
    | some (.box cs) => let s' := putMem us s l; { s' with b := sv s'.b i cs }
    | some (.row e W n) => let s' := putMem us s l; { s' with r := sv s'.r i (e, W, n) }
    | none => putMem us s l
def ES.upd (s : ES) (dst : Option Nat) : Upd → ES
  | .no => s
  | .box cs => match dst with | some d => { s with b := sv s.b d cs } | none => s
  | .wr d cs => { s with b := sv s.b d cs }
  | .row d q => { s with r := sv s.r d q }
  | .mem us => putMem us s (us.map (·.1))
  | .it d q => { s with i := sv s.i d q }
def ES.put (s : ES) (dst : Option Nat) (x : TV) : ES := match dst with | some k => { s with t := sv s.t k x } | none => s
def ES.after (s : ES) (o : SOper) (e : TV × Upd) : ES := (s.upd o.dst e.2).put o.dst e.1

theorem putMem_spec (us : List (Nat × MO)) (s : ES) : ∀ l : List Nat, (putMem us s l).t = s.t ∧ (putMem us s l).i = s.i ∧ (∀ d, lk (putMem us s l).b d = if d ∈ l then memB us (lk s.b) d else lk s.b d) ∧ (∀ d, lk (putMem us s l).r d = if d ∈ l then memR us (lk s.r) d else lk s.r d)
  | [] => by simp [putMem]
  | i :: l => by
    obtain ⟨h1, h2, h3, h4⟩ := putMem_spec us s l
    simp only [putMem]
    cases hm : us.lookup i with
    | none =>
      refine ⟨h1, h2, fun d => ?_, fun d => ?_⟩
      · rw [h3]
        by_cases hd : d = i
        · subst hd; simp [memB, hm]
        · simp [hd]
      · rw [h4]
        by_cases hd : d = i
        · subst hd; simp [memR, hm]
        · simp [hd]
    | some m =>
      cases m with
      | box cs =>
        refine ⟨h1, h2, fun d => ?_, fun d => ?_⟩
        · simp only [lk_sv, setF, h3]
          by_cases hd : d = i
          · subst hd; simp [memB, hm]
          · simp [hd]
        · simp only [h4]
          by_cases hd : d = i
          · subst hd; simp [memR, hm]
          · simp [hd]
      | row e W n =>
        refine ⟨h1, h2, fun d => ?_, fun d => ?_⟩
        · simp only [h3]
          by_cases hd : d = i
          · subst hd; simp [memB, hm]
          · simp [hd]
        · simp only [lk_sv, setF, h4]
          by_cases hd : d = i
          · subst hd; simp [memR, hm]
          · simp [hd]
theorem lookup_none {us : List (Nat × MO)} {d : Nat} (h : d ∉ us.map (·.1)) : us.lookup d = none := by
  cases hl : us.lookup d with
  | none => rfl
  | some m =>
    exfalso
    apply h
    induction us with
    | nil => simp at hl
    | cons p l ih =>
      obtain ⟨x, y⟩ := p
      simp only [List.lookup] at hl
      cases he : (d == x) with
      | true => have : d = x := by simpa using he
                simp [this]
      | false =>
        rw [he] at hl
        have := ih (by intro hh; exact h (by simp at hh ⊢; exact .inr hh)) hl
        simp at this ⊢; exact .inr this
theorem ES.upd_fs (s : ES) (dst : Option Nat) (u : Upd) : (s.upd dst u).fs = s.fs.upd dst u := by
  cases u with
  | no => rfl
  | box cs =>
    cases dst with
    | none => rfl
    | some d => simp only [ES.upd, ES.fs, FS.upd, FS.setB, lk_sv]
  | wr d cs => simp only [ES.upd, ES.fs, FS.upd, FS.setB, lk_sv]
  | row d q => simp only [ES.upd, ES.fs, FS.upd, FS.setR, lk_sv]
  | it d q => simp only [ES.upd, ES.fs, FS.upd, FS.setI, lk_sv]
  | mem us =>
    obtain ⟨h1, h2, h3, h4⟩ := putMem_spec us s (us.map (·.1))
    simp only [ES.upd, ES.fs, FS.upd]
    refine FS.ext' (fun k => ?_) (fun k => ?_) (fun k => ?_) (fun k => ?_)
    · simp [h1]
    · simp only [h3]
      split
      · rfl
      · rename_i hk; simp [memB, lookup_none hk]
    · simp only [h4]
      split
      · rfl
      · rename_i hk; simp [memR, lookup_none hk]
    · simp [h2]
theorem ES.put_fs (s : ES) (dst : Option Nat) (x : TV) : (s.put dst x).fs = s.fs.put dst x := by
  cases dst with
  | none => rfl
  | some k => simp only [ES.put, ES.fs, FS.put, FS.setT, lk_sv]
theorem ES.after_fs (s : ES) (o : SOper) (e : TV × Upd) : (s.after o e).fs = s.fs.after o e := by
  unfold ES.after FS.after
  rw [ES.put_fs, ES.upd_fs]

/-- A value speaks of one of the names (or may do so). -/
def TV.m0 (ids : List Nat) : TV → Bool
  | .pv _ | .unk => false
  | .ptr d _ | .own d _ _ | .bs d _ _ _ | .it d => has ids d
  | _ => true
def TV.m1 (ids : List Nat) : TV → Bool
  | .fn _ a b => a.any (TV.m0 ids) || b.any (TV.m0 ids)
  | t => t.m0 ids
def TV.m2 (ids : List Nat) : TV → Bool
  | .agg cs => cs.any (TV.m1 ids)
  | t => t.m1 ids
def TV.m3 (ids : List Nat) : TV → Bool
  | .tuple cs => cs.any (TV.m2 ids)
  | t => t.m2 ids
theorem m0_ment {ids : List Nat} {t : TV} {d : Nat} (h : t.m0 ids = false) (hd : d ∈ ids) : ¬ Ment d t := by
  intro hm
  cases hm <;> simp only [TV.m0] at h
  all_goals first | (rw [has_mem.2 hd] at h; cases h) | cases h
theorem m1_ment {ids : List Nat} {t : TV} {d : Nat} (h : t.m1 ids = false) (hd : d ∈ ids) : ¬ Ment d t := by
  cases t with
  | fn f a b =>
    intro hm
    simp only [TV.m1, Bool.or_eq_false_iff, List.any_eq_false] at h
    cases hm with
    | fn1 hc hm => exact m0_ment (by simpa using h.1 _ hc) hd hm
    | fn2 hc hm => exact m0_ment (by simpa using h.2 _ hc) hd hm
  | _ => exact m0_ment h hd
theorem m2_ment {ids : List Nat} {t : TV} {d : Nat} (h : t.m2 ids = false) (hd : d ∈ ids) : ¬ Ment d t := by
  cases t with
  | agg cs =>
    intro hm
    simp only [TV.m2, List.any_eq_false] at h
    cases hm with
    | agg hc hm => exact m1_ment (by simpa using h _ hc) hd hm
  | _ => exact m1_ment h hd
theorem m3_ment {ids : List Nat} {t : TV} {d : Nat} (h : t.m3 ids = false) (hd : d ∈ ids) : ¬ Ment d t := by
  cases t with
  | tuple cs =>
    intro hm
    simp only [TV.m3, List.any_eq_false] at h
    cases hm with
    | tuple hc hm => exact m2_ment (by simpa using h _ hc) hd hm
  | _ => exact m2_ment h hd
/-- Names are forgotten. -/
def fgt3 (ids : List Nat) (x : TV) : TV := match x.m3 ids with | true => .unk | false => x
def ES.fgt (s : ES) (ids : List Nat) : ES :=
  ⟨s.t.map fun e => (e.1, fgt3 ids e.2), (drp ids s.b).map fun e => (e.1, e.2.map (fgt3 ids)), drp ids s.r, drp ids s.i⟩
theorem fgt3_cases (ids : List Nat) (x : TV) : fgt3 ids x = x ∨ fgt3 ids x = .unk := by
  unfold fgt3; cases x.m3 ids <;> simp
theorem fgt3_ment {ids : List Nat} {x : TV} {d : Nat} (hd : d ∈ ids) : ¬ Ment d (fgt3 ids x) := by
  unfold fgt3
  cases h : x.m3 ids with
  | true => intro hm; cases hm
  | false => exact m3_ment h hd
theorem fgt_b (s : ES) (ids : List Nat) (d : Nat) : (s.fgt ids).fs.b d = if has ids d then none else (lk s.b d).map fun cs => cs.map (fgt3 ids) := by
  show lk ((drp ids s.b).map fun e => (e.1, e.2.map (fgt3 ids))) d = _
  rw [lk_map (fun cs : List TV => cs.map (fgt3 ids)) (drp ids s.b) d, lk_drp]
  split <;> rfl
theorem fgt_sound {B : Base} {s : ES} {a : Act} {w : World} {E : Env} (h : Sim B s.fs a w E) (ids : List Nat) : Sim B (s.fgt ids).fs a w E := by
  refine h.less (fun k x hx => ?_) (fun d cs' hd => ?_) (fun d q hd => ?_) (fun d q hd => ?_)
  · have hx : lk (s.t.map fun e => (e.1, fgt3 ids e.2)) k = some x := hx
    rw [lk_map (fgt3 ids)] at hx
    obtain ⟨y, h1, rfl⟩ := Option.map_eq_some_iff.1 hx
    rcases fgt3_cases ids y with e | e
    · rw [e]; exact .inl h1
    · exact .inr ⟨e, y, h1⟩
  · rw [fgt_b] at hd
    split at hd
    · cases hd
    · obtain ⟨cs, h1, rfl⟩ := Option.map_eq_some_iff.1 hd
      refine ⟨cs, h1, fun j c hc => ?_⟩
      rw [List.getElem?_map] at hc
      obtain ⟨y, h2, rfl⟩ := Option.map_eq_some_iff.1 hc
      rcases fgt3_cases ids y with e | e
      · rw [e]; exact .inl h2
      · exact .inr ⟨e, y, h2⟩
  · have hd : lk (drp ids s.r) d = some q := hd
    rw [lk_drp] at hd
    split at hd
    · cases hd
    · exact hd
  · have hd : lk (drp ids s.i) d = some q := hd
    rw [lk_drp] at hd
    split at hd
    · cases hd
    · exact hd
theorem fgt_fresh (s : ES) {ids : List Nat} {d : Nat} (hd : d ∈ ids) : Fresh (s.fgt ids).fs d := by
  have hh := has_mem.2 hd
  refine ⟨?_, by rw [fgt_b, hh]; rfl, by show lk (drp ids s.r) d = none; rw [lk_drp, hh]; rfl, by show lk (drp ids s.i) d = none; rw [lk_drp, hh]; rfl⟩
  rintro (⟨k, x, hx, hm⟩ | ⟨e, cs, c, he, hc, hm⟩)
  · have hx : lk (s.t.map fun e => (e.1, fgt3 ids e.2)) k = some x := hx
    rw [lk_map (fgt3 ids)] at hx
    obtain ⟨y, h1, rfl⟩ := Option.map_eq_some_iff.1 hx
    exact fgt3_ment hd hm
  · rw [fgt_b] at he
    split at he
    · cases he
    · obtain ⟨cs0, h1, rfl⟩ := Option.map_eq_some_iff.1 he
      obtain ⟨y, _, rfl⟩ := List.mem_map.1 hc
      exact fgt3_ment hd hm
/-- Slots are forgotten. -/
def ES.kill (s : ES) (ks : List Nat) : ES := match ks with | [] => s | _ => { s with t := drp ks s.t }
theorem kill_sound {B : Base} {s : ES} {a : Act} {w : World} {E : Env} (h : Sim B s.fs a w E) (ks : List Nat) : Sim B (s.kill ks).fs a w E := by
  unfold ES.kill
  split
  · exact h
  · refine h.less (fun k x hx => .inl ?_) (fun d cs hd => ⟨cs, hd, fun j c hc => .inl hc⟩) (fun d q hd => hd) (fun d q hd => hd)
    have hx : lk (drp ks s.t) k = some x := hx
    rw [lk_drp] at hx
    split at hx
    · cases hx
    · exact hx

/-- Operations, one by one. -/
def runE (P : Program) (C : Oracle) : List SOper → ES → Option ES
  | [], s => some s
  | o :: l, s => match effG P C o s.fs with
    | some e => runE P C l (s.after o e)
    | none => none
/-- By calls that are known, one by one. -/
def opsW (P : Program) (g : Glob) : List SOper → (ES → Prop) → ES → Prop
  | [], K, s => K s
  | o :: l, K, s => ∃ C, SoundC P g C ∧ ∃ e, effG P C o s.fs = some e ∧ opsW P g l K (s.after o e)
theorem opsW_of_runE {P : Program} {g : Glob} {C : Oracle} (hC : SoundC P g C) {K : ES → Prop} : ∀ {l : List SOper} {s s' : ES}, runE P C l s = some s' → K s' → opsW P g l K s
  | [], s, s', h, hK => by simp [runE] at h; subst h; exact hK
  | o :: l, s, s', h, hK => by
    simp only [runE] at h
    split at h
    · rename_i e he
      exact ⟨C, hC, e, he, opsW_of_runE hC h hK⟩
    · cases h
theorem runI_of_opsW {P : Program} {g : Glob} {sops : List SOper} {K : ES → Prop} : ∀ {l : List SOper} {j : Nat} {s : ES}, sops.drop j = l → opsW P g l K s → ∃ s', RunI P g sops (List.range' j l.length) s.fs s'.fs ∧ K s'
  | [], j, s, _, h => ⟨s, rfl, h⟩
  | o :: l, j, s, hd, h => by
    obtain ⟨C, hC, e, he, h⟩ := h
    have hj : sops[j]? = some o := by
      have := congrArg (·[0]?) hd
      simpa using this
    have hd' : sops.drop (j + 1) = l := by
      have := congrArg (List.drop 1) hd
      simpa [List.drop_drop, Nat.add_comm] using this
    obtain ⟨s', h1, h2⟩ := runI_of_opsW hd' h
    refine ⟨s', ⟨o, s.fs.after o e, hj, ⟨C, hC, by unfold step; rw [he]; rfl⟩, ?_⟩, h2⟩
    rw [← ES.after_fs]; exact h1

section
variable {P : Program} {H : Option Nat → Nat} {ops : Array Oper} {B : Base} {sops : List SOper} {g : Glob} {draw : Bool} {id : Nat}
theorem region_sound (hmix : P.follows .mixedOrders = true) (hm0 : B.m ≤ 1000) (hN : B.N ≤ 1000) (hG : g.G B.w0) (hX : ∀ d b, B.X d b → g.n ≤ b) {fps : Nat → Option Nat} (htr : transRegion P B.N H fps ops draw = some sops) {s : ES} {K : ES → Prop}
    (hf : ∀ d ∈ sops.flatMap SOper.news, Fresh s.fs d) (h : opsW P g sops K s) {a : Act} {w : World} {E : Env} (hS : Sim B s.fs a w E) {Q : Exit → Act → World → Prop} (hQ : ∀ s' a' w' E', K s' → Sim B s'.fs a' w' E' → Q .normal a' w') :
    (Code.region id ops draw).wp P Q a w := by
  unfold transRegion at htr
  split at htr <;> try (cases htr; done)
  rename_i sops' hseq
  split at htr <;> try (cases htr; done)
  rename_i hok
  cases htr
  obtain ⟨s', hrun, hK⟩ := runI_of_opsW (sops := sops) (l := sops) (j := 0) rfl h
  obtain ⟨hlen, hspec⟩ := transOps_spec hseq
  have hlen' : ops.size = sops.length := by simpa using hlen
  have hfi : ∀ l, FreshI sops l s.fs := fun l i _ o ho d hd => hf d (List.mem_flatMap.2 ⟨o, List.mem_of_getElem? ho, hd⟩)
  have hmk := mkAll_of hok
  rw [← List.range_eq_range', ← hlen'] at hrun
  cases draw with
  | false =>
    refine wp_region ?_
    have key : ∀ (l : List Nat) (s : FS) (a : Act) (w : World) (E : Env), l.Nodup → Sim B s a w E → FreshI sops l s → RunI P g sops l s s'.fs → wpOps P ops Q l a w := by
      intro l
      induction l with
      | nil => intro s a w E _ hS _ hr; have hr : s = s'.fs := hr; subst hr; exact hQ s' a w E hK hS
      | cons i l ih =>
        intro s a w E hnd hS hf hr
        obtain ⟨o, s1, ho, ⟨C, hC, hst⟩, hr⟩ := hr
        have hil : i < ops.size := by rw [hlen']; exact (List.getElem?_eq_some_iff.1 ho).1
        have hoi : ops[i]? = some ops[i] := Array.getElem?_eq_getElem hil
        obtain ⟨so, hso, hto⟩ := hspec i ops[i] (by simp [hil])
        rw [ho] at hso; cases hso
        rw [wpOps_cons]
        refine sim_step hm0 hN hG hX hC hS hoi hto (hf i (List.mem_cons_self ..) o ho) hst (fun a' w' E' hS' => ?_)
        exact ih s1 a' w' E' (List.nodup_cons.1 hnd).2 hS' (freshI_step hmk ho (List.nodup_cons.1 hnd).1 (fun j hj => hf j (List.mem_cons_of_mem _ hj)) ⟨C, hC, hst⟩) hr
    exact key _ s.fs a w E List.nodup_range hS (hfi _) hrun
  | true =>
    refine wp_region_any hmix ?_
    have hrest : rest ops.size (Array.replicate ops.size false) = List.range ops.size := by
      unfold rest
      rw [List.filter_eq_self]
      intro i hi
      have : i < ops.size := by simpa using hi
      simp [Array.getD, this]
    refine any_sound hm0 hN hG hX hseq hok (sf := s'.fs) (fun a w E hS => hQ s' a w E hK hS) ops.size _ s.fs a _ E (by simp) (fun i o ho hl => ?_) (hS.same (Below.refl _ _).drew) (hfi _) (by rw [hrest]; exact hrun) (by rw [hrest]; simp)
    have hil := (Array.getElem?_eq_some_iff.1 ho).1
    simp [Array.getD, hil] at hl
end

inductive SCode where
  | skip
  | reg (alts : List (List Nat × List SOper)) (kill : List Nat)
  | seq (a b : SCode)
  | cond (c : Arg) (a b : SCode)
  | block (id : Nat) (a : SCode)
  | loop (a : SCode)
  | exit (id : Nat)
  | ret
inductive SExit where
  | normal
  | exit (id : Nat)
  | ret
def SExit.to : SExit → Exit
  | .normal => .normal
  | .exit id => .exit id
  | .ret => .ret
def hasApp (ops : Array Oper) : Bool := ops.any fun o => match o.op with | .call { callee := .builtin .append, .. } => true | _ => false
def transAlts (P : Program) (N : Nat) (ops : Array Oper) (draw : Bool) : List ((Option Nat → Nat) × (Nat → Option Nat)) → List (List Nat × List SOper)
  | [] => []
  | H :: r => match transRegion P N H.1 H.2 ops draw with
    | some l => (l.flatMap SOper.news, l) :: transAlts P N ops draw r
    | none => transAlts P N ops draw r
/-- Code, by its operations; H: how calls and appends are taken; K: the slots that are done with. -/
def altsOf (H : Nat → Option Nat → Nat) (Fs : List (Nat → Option Nat)) (app : Bool) : List ((Option Nat → Nat) × (Nat → Option Nat)) :=
  Fs.flatMap fun F => if app then [(H 0, F), (H 1, F)] else [(H 0, F)]
def transCode (P : Program) (N : Nat) (H : Nat → Option Nat → Nat) (Fp : Nat → List (Nat → Option Nat)) (K : Nat → List Nat) : Code → Option SCode
  | .skip => some .skip
  | .region id ops draw => some (.reg (transAlts P N ops draw (altsOf H (Fp id) (hasApp ops))) (K id))
  | .seq a b => match transCode P N H Fp K a, transCode P N H Fp K b with
    | some a', some b' => some (.seq a' b')
    | _, _ => none
  | .cond c a b => match transCode P N H Fp K a, transCode P N H Fp K b with
    | some a', some b' => some (.cond (Arg.of c) a' b')
    | _, _ => none
  | .block id a => (transCode P N H Fp K a).map (.block id)
  | .loop a => (transCode P N H Fp K a).map .loop
  | .exit id => some (.exit id)
  | .ret => some .ret
  | _ => none

/-- All that the one knows the other one knows. -/
def leL {α : Type} : List (Nat × α) → List (Nat × α) → Prop
  | [], _ => True
  | (k, x) :: r, l => lk l k = some x ∧ leL r l
structure ES.Le (s0 s : ES) : Prop where
  t : ∀ k x, lk s0.t k = some x → lk s.t k = some x
  b : ∀ k x, lk s0.b k = some x → lk s.b k = some x
  r : ∀ k x, lk s0.r k = some x → lk s.r k = some x
  i : ∀ k x, lk s0.i k = some x → lk s.i k = some x
theorem ES.Le.refl (s : ES) : s.Le s := ⟨fun _ _ h => h, fun _ _ h => h, fun _ _ h => h, fun _ _ h => h⟩
theorem leL_lk {α : Type} {l : List (Nat × α)} : ∀ {l0 : List (Nat × α)}, leL l0 l → ∀ {k : Nat} {x : α}, lk l0 k = some x → lk l k = some x
  | [], _, k, x, h => by simp [lk] at h
  | (j, y) :: r, ⟨h1, h2⟩, k, x, h => by
    simp only [lk] at h
    split at h
    · rename_i hb
      obtain rfl := Nat.eq_of_beq_eq_true hb
      cases h; exact h1
    · exact leL_lk h2 h
theorem le_of {s0 s : ES} (h1 : leL s0.t s.t) (h2 : leL s0.b s.b) (h3 : leL s0.r s.r) (h4 : leL s0.i s.i) : s0.Le s := ⟨fun _ _ h => leL_lk h1 h, fun _ _ h => leL_lk h2 h, fun _ _ h => leL_lk h3 h, fun _ _ h => leL_lk h4 h⟩
theorem le_sound {B : Base} {s0 s : ES} {a : Act} {w : World} {E : Env} (hle : s0.Le s) (h : Sim B s.fs a w E) : Sim B s0.fs a w E :=
  h.less (fun k x hx => .inl (hle.t k x hx)) (fun d cs hd => ⟨cs, hle.b d cs hd, fun j c hc => .inl hc⟩) (fun d q hd => hle.r d q hd) (fun d q hd => hle.i d q hd)
/-- What is known may be told in other words. -/
def ES.Lw (s0 s : ES) : Prop := ∀ (B : Base) (a : Act) (w : World) (E : Env), B.m ≤ 1000 → B.N ≤ 1000 → Sim B s.fs a w E → ∃ E', Sim B s0.fs a w E'
theorem ES.Lw.refl (s : ES) : s.Lw s := fun _ _ _ E _ _ h => ⟨E, h⟩
theorem ES.Lw.trans {a b c : ES} (h1 : a.Lw b) (h2 : b.Lw c) : a.Lw c := fun B x w E hm hn h => by
  obtain ⟨E1, h3⟩ := h2 B x w E hm hn h
  exact h1 B x w E1 hm hn h3
theorem ES.Le.lw {s0 s : ES} (h : s0.Le s) : s0.Lw s := fun _ _ _ E _ _ hS => ⟨E, le_sound h hS⟩
/-- What is needed of code, that what is asked holds behind it. -/
def regW (P : Program) (g : Glob) (alts : List (List Nat × List SOper)) (kill : List Nat) (K : ES → Prop) (s : ES) : Prop :=
  ∃ a ∈ alts, opsW P g a.2 (fun s' => K (s'.kill kill)) (s.fgt a.1)
def condW (c : Arg) (s : ES) (A B : Prop) : Prop := ∃ t, c.get s.fs = some (.pv (.v (.bool t))) ∧ (if t then A else B)
def thenW (K : ES → Prop) (Q : SExit → ES → Prop) : SExit → ES → Prop
  | .normal, s => K s
  | e, s => Q e s
def blockW (id : Nat) (Q : SExit → ES → Prop) : SExit → ES → Prop
  | .exit j, s => if j = id then Q .normal s else Q (.exit j) s
  | e, s => Q e s
def swp (P : Program) (g : Glob) : SCode → (SExit → ES → Prop) → ES → Prop
  | .skip, Q, s => Q .normal s
  | .reg alts kill, Q, s => regW P g alts kill (Q .normal) s
  | .seq a b, Q, s => swp P g a (thenW (swp P g b Q) Q) s
  | .cond c a b, Q, s => condW c s (swp P g a Q s) (swp P g b Q s)
  | .block id a, Q, s => swp P g a (blockW id Q) s
  | .loop a, Q, s => ∃ (I : Nat → ES → Prop) (n : Nat), (∃ s0, s0.Lw s ∧ I n s0) ∧ ∀ n s, I n s → swp P g a (thenW (fun s' => ∃ m, m < n ∧ ∃ s0, s0.Lw s' ∧ I m s0) Q) s
  | .exit id, Q, s => Q (.exit id) s
  | .ret, Q, s => Q .ret s

theorem swp_mono {P : Program} {g : Glob} : ∀ {c : SCode} {Q Q' : SExit → ES → Prop} {s : ES}, swp P g c Q s → (∀ e s, Q e s → Q' e s) → swp P g c Q' s
  | .skip, Q, Q', s, h, hq => hq _ _ h
  | .reg alts kill, Q, Q', s, h, hq => by
    obtain ⟨a, ha, h⟩ := h
    refine ⟨a, ha, ?_⟩
    have key : ∀ (l : List SOper) (s : ES), opsW P g l (fun s' => Q .normal (s'.kill kill)) s → opsW P g l (fun s' => Q' .normal (s'.kill kill)) s := by
      intro l
      induction l with
      | nil => exact fun s h => hq _ _ h
      | cons o l ih => rintro s ⟨C, hC, e, he, h⟩; exact ⟨C, hC, e, he, ih _ h⟩
    exact key _ _ h
  | .seq a b, Q, Q', s, h, hq => swp_mono (c := a) h fun e s he => by
    cases e with
    | normal => exact swp_mono (c := b) he hq
    | exit id => exact hq _ _ he
    | ret => exact hq _ _ he
  | .cond c a b, Q, Q', s, h, hq => by
    obtain ⟨t, h1, h2⟩ := h
    refine ⟨t, h1, ?_⟩
    cases t with
    | true => exact swp_mono (c := a) h2 hq
    | false => exact swp_mono (c := b) h2 hq
  | .block id a, Q, Q', s, h, hq => swp_mono (c := a) h fun e s he => by
    cases e with
    | exit j => simp only [blockW] at he ⊢; split at he <;> rename_i hj <;> simp [hj, hq _ _ he]
    | normal => exact hq _ _ he
    | ret => exact hq _ _ he
  | .loop a, Q, Q', s, h, hq => by
    obtain ⟨I, n, h0, h1⟩ := h
    refine ⟨I, n, h0, fun n s hI => swp_mono (c := a) (h1 n s hI) fun e s he => ?_⟩
    cases e with
    | normal => exact he
    | exit id => exact hq _ _ he
    | ret => exact hq _ _ he
  | .exit id, Q, Q', s, h, hq => hq _ _ h
  | .ret, Q, Q', s, h, hq => hq _ _ h

theorem least {p : Nat → Prop} (h : ∃ n, p n) : ∃ n, p n ∧ ∀ m, p m → n ≤ m := by
  obtain ⟨n, hn⟩ := h
  induction n using Nat.strongRecOn with
  | _ n ih =>
    by_cases hl : ∃ m, m < n ∧ p m
    · obtain ⟨m, hm, hp⟩ := hl; exact ih m hm hp
    · exact ⟨n, hn, fun m hp => Nat.le_of_not_lt fun hlt => hl ⟨m, hlt, hp⟩⟩
open Classical in
noncomputable def leastOf (p : Act → World → Nat → Prop) (a : Act) (w : World) : Nat := if h : ∃ n, p a w n then Classical.choose (least h) else 0
theorem leastOf_spec {p : Act → World → Nat → Prop} {a : Act} {w : World} (h : ∃ n, p a w n) : p a w (leastOf p a w) ∧ ∀ m, p a w m → leastOf p a w ≤ m := by
  unfold leastOf
  rw [dif_pos h]
  exact Classical.choose_spec (least h)
section
variable {P : Program} {H : Nat → Option Nat → Nat} {Fp : Nat → List (Nat → Option Nat)} {K : Nat → List Nat} {B : Base} {g : Glob}
theorem swp_sound (hmix : P.follows .mixedOrders = true) (hm0 : B.m ≤ 1000) (hN : B.N ≤ 1000) (hG : g.G B.w0) (hX : ∀ d b, B.X d b → g.n ≤ b) : ∀ {c : Code} {sc : SCode}, transCode P B.N H Fp K c = some sc → ∀ {Q : SExit → ES → Prop} {s : ES}, swp P g sc Q s → ∀ {a : Act} {w : World} {E : Env}, Sim B s.fs a w E →
    c.wp P (fun x a' w' => ∃ e s' E', x = SExit.to e ∧ Q e s' ∧ Sim B s'.fs a' w' E') a w := by
  intro c
  induction c with
  | skip =>
    intro sc h Q s hs a w E hS
    simp only [transCode] at h; cases h
    exact wp_skip ⟨.normal, s, E, rfl, hs, hS⟩
  | exit id =>
    intro sc h Q s hs a w E hS
    simp only [transCode] at h; cases h
    exact wp_exit ⟨.exit id, s, E, rfl, hs, hS⟩
  | ret =>
    intro sc h Q s hs a w E hS
    simp only [transCode] at h; cases h
    exact wp_ret ⟨.ret, s, E, rfl, hs, hS⟩
  | region id ops draw =>
    intro sc h Q s hs a w E hS
    simp only [transCode] at h; cases h
    obtain ⟨al, hal, hs⟩ := hs
    have key : ∀ (Hs : List ((Option Nat → Nat) × (Nat → Option Nat))), al ∈ transAlts P B.N ops draw Hs → ∃ H, ∃ F : Nat → Option Nat, transRegion P B.N H F ops draw = some al.2 ∧ al.1 = al.2.flatMap SOper.news := by
      intro Hs
      induction Hs with
      | nil => simp [transAlts]
      | cons H r ih =>
        intro hm
        simp only [transAlts] at hm
        split at hm
        · rename_i l hl
          rcases List.mem_cons.1 hm with rfl | hm
          · exact ⟨H.1, H.2, hl, rfl⟩
          · exact ih hm
        · exact ih hm
    obtain ⟨H', F', htr, hn⟩ := key _ hal
    refine region_sound hmix hm0 hN hG hX htr (s := s.fgt al.1) (fun d hd => fgt_fresh s (by rw [hn]; exact hd)) hs (fgt_sound hS al.1) (fun s' a' w' E' hK hS' => ⟨.normal, s'.kill _, E', rfl, hK, kill_sound hS' _⟩)
  | seq a b iha ihb =>
    intro sc h Q s hs ac w E hS
    simp only [transCode] at h
    split at h <;> try (cases h; done)
    rename_i a' b' ha hb
    cases h
    refine wp_seq (wp_mono (iha ha hs hS) ?_)
    rintro x a2 w2 ⟨e, s2, E2, rfl, hq, hS2⟩
    cases e with
    | normal => exact ihb hb hq hS2
    | exit id => exact ⟨.exit id, s2, E2, rfl, hq, hS2⟩
    | ret => exact ⟨.ret, s2, E2, rfl, hq, hS2⟩
  | cond cnd a b iha ihb =>
    intro sc h Q s hs ac w E hS
    simp only [transCode] at h
    split at h <;> try (cases h; done)
    rename_i a' b' ha hb
    cases h
    obtain ⟨t, h1, h2⟩ := hs
    have hv := val_rel (y := .bool t) (arg_rel hS h1) rfl
    refine wp_cond hv ?_
    cases t with
    | true => exact iha ha h2 hS
    | false => exact ihb hb h2 hS
  | block id a ih =>
    intro sc h Q s hs ac w E hS
    simp only [transCode] at h
    obtain ⟨a', ha, rfl⟩ := Option.map_eq_some_iff.1 h
    refine wp_block (wp_mono (ih ha hs hS) ?_)
    rintro x a2 w2 ⟨e, s2, E2, rfl, hq, hS2⟩
    cases e with
    | normal => exact ⟨.normal, s2, E2, rfl, hq, hS2⟩
    | ret => exact ⟨.ret, s2, E2, rfl, hq, hS2⟩
    | exit j =>
      simp only [SExit.to, Exit.inBlock]
      simp only [blockW] at hq
      split
      · rename_i hj; simp only [hj, if_true] at hq; exact ⟨.normal, s2, E2, rfl, hq, hS2⟩
      · rename_i hj; simp only [hj, if_false] at hq; exact ⟨.exit j, s2, E2, rfl, hq, hS2⟩
  | loop a ih =>
    intro sc h Q s hs ac w E hS
    simp only [transCode] at h
    obtain ⟨a', ha, rfl⟩ := Option.map_eq_some_iff.1 h
    obtain ⟨I, n, ⟨s0, hle, h0⟩, hround⟩ := hs
    obtain ⟨E0, hS0⟩ := hle B ac w E hm0 hN hS
    have hex : ∃ n, ∃ s E, I n s ∧ Sim B s.fs ac w E := ⟨n, s0, E0, h0, hS0⟩
    let J : Act → World → Prop := fun a w => ∃ n s E, I n s ∧ Sim B s.fs a w E
    refine wp_loop J (leastOf fun a w n => ∃ s E, I n s ∧ Sim B s.fs a w E) hex (fun a1 w1 hJ => ?_)
    obtain ⟨⟨s1, E1, hI1, hS1⟩, _⟩ := leastOf_spec (p := fun a w n => ∃ s E, I n s ∧ Sim B s.fs a w E) hJ
    refine wp_mono (ih ha (hround _ s1 hI1) hS1) ?_
    rintro x a2 w2 ⟨e, s2, E2, rfl, hq, hS2⟩
    cases e with
    | normal =>
      obtain ⟨m, hm, s3, hle, hI2⟩ := hq
      obtain ⟨E3, hS3⟩ := hle B a2 w2 E2 hm0 hN hS2
      have hJ2 : ∃ n, ∃ s E, I n s ∧ Sim B s.fs a2 w2 E := ⟨m, s3, E3, hI2, hS3⟩
      exact ⟨hJ2, Nat.lt_of_le_of_lt ((leastOf_spec (p := fun a w n => ∃ s E, I n s ∧ Sim B s.fs a w E) hJ2).2 m ⟨s3, E3, hI2, hS3⟩) hm⟩
    | exit id => exact ⟨.exit id, s2, E2, rfl, hq, hS2⟩
    | ret => exact ⟨.ret, s2, E2, rfl, hq, hS2⟩
  | _ => intro sc h; simp [transCode] at h
end
end Go.Sh
end

section
/- Sh: functions: what a call begins with, and answers; running code on known data. No statement of the program is proved here. -/
namespace Go.Sh
open Go Go.RowKit
set_option maxHeartbeats 4000000

inductive SRes where
  | tmp (t : Nat)
  | cell (agg : Bool) (size : Nat) (t : Nat)
structure SFunc where
  N : Nat
  code : SCode
  res : List SRes
  keep : Bool
def SRes.get (s : FS) : SRes → Option TV
  | .tmp t => s.t t
  | .cell agg size t => match s.t t with
    | some (.ptr d o) => (s.b d).bind fun cs => if agg then (if o + size ≤ cs.length then some (.agg ((cs.drop o).take size)) else none) else cs[o]?
    | _ => none
def resT (s : FS) : List SRes → Option TV
  | [r] => r.get s
  | rs => (seqO (SRes.get s) rs).map .tuple
def transRes (P : Program) : ResultVar → Option SRes
  | .tmp t => some (.tmp t)
  | .cell a t => match P.underlying t, P.info? t with
    | some d, some i => some (if d.isRow then .cell true i.size a else .cell false 1 a)
    | _, _ => none
def transFunc (P : Program) (f : Nat) (H : Nat → Option Nat → Nat) (Fp : Nat → List (Nat → Option Nat)) (K : Nat → List Nat) (keep : Bool) : Option SFunc :=
  match P.funcs[f]? with
  | some fn => match fn.body with
    | some c => if fn.name != "runtime.NumGoroutine" && Nat.ble fn.ntmps 1000 then match transCode P fn.ntmps H Fp K c, seqO (transRes P) fn.results.toList with
        | some sc, some rs => some ⟨fn.ntmps, sc, rs, keep⟩
        | _, _ => none
      else none
    | none => none
  | none => none
def TV.ids3 : TV → List Nat
  | .tuple cs => cs.flatMap TV.ids2
  | t => t.ids2
def idsFrom : Nat → Nat → List Nat
  | _, 0 => []
  | k, n + 1 => k :: idsFrom (k + 1) n
/-- What a call answers. -/
def exitF (F : SFunc) (n : Nat) (s : ES) : Option (TV × List MO) :=
  match resT s.fs F.res with
  | some y0 =>
    let I0 := idsFrom 1000 n
    let al := reach s.fs F.keep 64 (y0.ids3 ++ I0.flatMap fun d => match s.fs.b d with | some cs => cs.flatMap TV.ids1 | none => []) I0
    match y0.ren3 (rhoIn al), seqO (fun d => (s.fs.mo d).bind (MO.ren (rhoIn al))) al with
    | some y, some os' => some (y, os')
    | _, _ => none
  | none => none
def numT : Nat → List TV → List (Nat × TV)
  | _, [] => []
  | k, x :: l => (k, x) :: numT (k + 1) l
def numB : Nat → List MO → List (Nat × List TV)
  | _, [] => []
  | k, .box cs :: l => (k, cs) :: numB (k + 1) l
  | k, .row _ _ _ :: l => numB (k + 1) l
def numR : Nat → List MO → List (Nat × (Nat × Nat × Nat))
  | _, [] => []
  | k, .box _ :: l => numR (k + 1) l
  | k, .row e W n :: l => (k, (e, W, n)) :: numR (k + 1) l
def startE (xs : List TV) (os : List MO) : ES := ⟨numT 0 xs, numB 1000 os, numR 1000 os, []⟩

theorem beq_false {a b : Nat} (h : a ≠ b) : Nat.beq a b = false := by cases hb : Nat.beq a b with | false => rfl | true => exact absurd (Nat.eq_of_beq_eq_true hb) h
theorem lk_numT : ∀ (xs : List TV) (k d : Nat), lk (numT k xs) d = if k ≤ d then xs[d - k]? else none
  | [], k, d => by simp [numT, lk]
  | x :: l, k, d => by
    simp only [numT, lk]
    by_cases h : k = d
    · subst h; simp [Nat.beq_refl]
    · rw [beq_false h]
      simp only [lk_numT l]
      by_cases h1 : k ≤ d
      · have h2 : k + 1 ≤ d := by omega
        rw [if_pos h1, if_pos h2, show d - k = (d - (k + 1)) + 1 by omega]
        simp
      · rw [if_neg h1, if_neg (by omega)]
theorem lk_numB : ∀ (os : List MO) (k d : Nat), lk (numB k os) d = if k ≤ d then (match os[d - k]? with | some (.box cs) => some cs | _ => none) else none
  | [], k, d => by simp [numB, lk]
  | m :: l, k, d => by
    have ih := lk_numB l (k + 1) d
    by_cases h : k = d
    · subst h
      cases m with
      | box cs => simp [numB, lk, Nat.beq_refl]
      | row e W n => simp only [numB]; rw [ih, if_neg (by omega)]; simp
    · have : lk (numB k (m :: l)) d = lk (numB (k + 1) l) d := by cases m with | box cs => simp only [numB, lk, beq_false h] | row e W n => simp only [numB]
      rw [this, ih]
      by_cases h1 : k ≤ d
      · rw [if_pos h1, if_pos (by omega), show d - k = (d - (k + 1)) + 1 by omega]; simp
      · rw [if_neg h1, if_neg (by omega)]
theorem lk_numR : ∀ (os : List MO) (k d : Nat), lk (numR k os) d = if k ≤ d then (match os[d - k]? with | some (.row e W n) => some (e, W, n) | _ => none) else none
  | [], k, d => by simp [numR, lk]
  | m :: l, k, d => by
    have ih := lk_numR l (k + 1) d
    by_cases h : k = d
    · subst h
      cases m with
      | box cs => simp only [numR]; rw [ih, if_neg (by omega)]; simp
      | row e W n => simp [numR, lk, Nat.beq_refl]
    · have : lk (numR k (m :: l)) d = lk (numR (k + 1) l) d := by cases m with | box cs => simp only [numR] | row e W n => simp only [numR, lk, beq_false h]
      rw [this, ih]
      by_cases h1 : k ≤ d
      · rw [if_pos h1, if_pos (by omega), show d - k = (d - (k + 1)) + 1 by omega]; simp
      · rw [if_neg h1, if_neg (by omega)]
theorem idsFrom_get : ∀ (n k j : Nat), (idsFrom k n)[j]? = if j < n then some (k + j) else none
  | 0, k, j => by simp [idsFrom]
  | n + 1, k, j => by
    simp only [idsFrom]
    cases j with
    | zero => simp
    | succ j =>
      simp only [List.getElem?_cons_succ, idsFrom_get n (k + 1) j]
      by_cases h : j < n
      · rw [if_pos h, if_pos (by omega)]; congr 1; omega
      · rw [if_neg h, if_neg (by omega)]
theorem idsFrom_nodup (n k : Nat) : (idsFrom k n).Nodup ∧ (idsFrom k n).length = n ∧ ∀ d ∈ idsFrom k n, k ≤ d := by
  induction n generalizing k with
  | zero => simp [idsFrom]
  | succ n ih =>
    obtain ⟨h1, h2, h3⟩ := ih (k + 1)
    simp only [idsFrom]
    refine ⟨List.nodup_cons.2 ⟨fun h => by have := h3 k h; omega, h1⟩, by simp [h2], fun d hd => ?_⟩
    rcases List.mem_cons.1 hd with rfl | hd
    · exact Nat.le_refl _
    · have := h3 d hd; omega
theorem reach_prefix {s : FS} {rows : Bool} : ∀ (n : Nat) (l seen : List Nat), seen.Nodup → (reach s rows n l seen).Nodup ∧ ∃ t, reach s rows n l seen = seen ++ t
  | 0, l, seen, h => by simp only [reach]; exact ⟨h, [], by simp⟩
  | n + 1, [], seen, h => by simp only [reach]; exact ⟨h, [], by simp⟩
  | n + 1, d :: l, seen, h => by
    simp only [reach]
    cases hp : pos seen d with
    | some j => exact reach_prefix n l seen h
    | none =>
      have hnd : (seen ++ [d]).Nodup := List.nodup_append.2 ⟨h, by simp, by
        intro x hx y hy; simp at hy; subst hy; rintro rfl; exact pos_none hp hx⟩
      have key : ∀ l', (reach s rows n l' (seen ++ [d])).Nodup ∧ ∃ t, reach s rows n l' (seen ++ [d]) = seen ++ t := fun l' => by
        obtain ⟨h1, t, h2⟩ := reach_prefix (s := s) (rows := rows) n l' (seen ++ [d]) hnd
        exact ⟨h1, [d] ++ t, by rw [h2]; simp⟩
      cases s.b d with
      | some cs => exact key _
      | none =>
        cases s.r d with
        | none => exact reach_prefix n l seen h
        | some q =>
          cases rows with
          | true => exact key _
          | false => exact reach_prefix n l seen h

section
variable {P : Program} {g : Glob} {s : FS} {a : Act} {w : World} {E : Env} {B : Base}
theorem res_run {rv : ResultVar} {sr : SRes} (htr : transRes P rv = some sr) (h : Sim B s a w E) {y : TV} (hy : sr.get s = some y) :
    ∃ v, (match rv with | .tmp t => (pure (a.tmps.getD t undef) : Sem Value) | .cell q t => do loadVar t (← asAddr (a.tmps.getD q undef))).run P w = .ok v w ∧ RelT w E s.r y v := by
  cases rv with
  | tmp t =>
    simp only [transRes] at htr; cases htr
    exact ⟨_, rfl, (h.tmp t y hy).2⟩
  | cell q t =>
    simp only [transRes] at htr
    split at htr <;> try (cases htr; done)
    rename_i d i hu hi
    cases htr
    have fin : ∀ (dd off : Nat) (cs : List TV), s.t q = some (.ptr dd off) → s.b dd = some cs → (if d.isRow then (off + i.size ≤ cs.length ∧ y = .agg ((cs.drop off).take i.size)) else cs[off]? = some y) →
        ∃ v, (do loadVar t (← asAddr (a.tmps.getD q undef)) : Sem Value).run P w = .ok v w ∧ RelT w E s.r y v := by
      intro dd off cs hq hb hy
      have hx := (h.tmp q _ hq).2
      generalize hv : a.tmps.getD q undef = v at hx
      cases hx
      obtain ⟨hbox, _⟩ := h.mem.box dd cs hb
      cases hd : d.isRow with
      | true =>
        simp only [hd, if_true] at hy
        obtain ⟨vs, hrel, hcell⟩ := box_rel hbox
        have hl : ((vs.drop off).take i.size).length = i.size := by have := hrel.len; simp; omega
        have hrun := run_loadVar_any (P := P) (w := w) (E.β dd) off t d i ((vs.drop off).take i.size) hu hi (fun j v hv' => by
          have hj : j < i.size := by have := (List.getElem?_eq_some_iff.1 hv').1; omega
          simp [hj] at hv'
          exact hcell _ _ hv') (by simp only [hd, if_true]; exact hl)
        simp only [hd, if_true] at hrun
        exact ⟨.agg ((vs.drop off).take i.size).toArray, by simp [asAddr, hrun, Result.andThen], by rw [hy.2]; exact ((hrel.drop off).take _).agg⟩
      | false =>
        simp only [hd, Bool.false_eq_true, if_false] at hy
        obtain ⟨v, c1, c2, c3⟩ := hbox.cell off y hy
        have hrun := run_loadVar_any (P := P) (w := w) (E.β dd) off t d i [v] hu hi (fun j u hu' => by
          cases j with
          | zero => simp at hu'; subst hu'; exact c1
          | succ j => simp at hu') (by simp [hd])
        simp only [hd, Bool.false_eq_true, if_false] at hrun
        exact ⟨v, by simp [asAddr, hrun, Result.andThen], c3⟩
    cases hd : d.isRow with
    | true =>
      simp only [hd, if_true, SRes.get] at hy
      split at hy
      · rename_i dd off hq
        obtain ⟨cs, hb, hy⟩ := Option.bind_eq_some_iff.1 hy
        split at hy
        · rename_i hle; cases hy
          exact fin dd off cs hq hb (by rw [if_pos hd]; exact ⟨hle, rfl⟩)
        · cases hy
      · cases hy
    | false =>
      simp only [hd, Bool.false_eq_true, if_false, SRes.get] at hy
      split at hy
      · rename_i dd off hq
        obtain ⟨cs, hb, hy⟩ := Option.bind_eq_some_iff.1 hy
        exact fin dd off cs hq hb (by simp only [hd, Bool.false_eq_true, if_false]; exact hy)
      · cases hy
def resSem (a : Act) : ResultVar → Sem Value
  | .tmp t => pure (a.tmps.getD t undef)
  | .cell q t => do loadVar t (← asAddr (a.tmps.getD q undef))
theorem mapM_run {α : Type} (F : α → Sem Value) : ∀ (l : List α) (vs : List Value), l.length = vs.length → (∀ (j : Nat) x v, l[j]? = some x → vs[j]? = some v → (F x).run P w = .ok v w) → (l.mapM F).run P w = .ok vs w
  | [], [], _, _ => rfl
  | x :: l, v :: vs, hl, h => by
    have h1 := h 0 x v rfl rfl
    have h2 := mapM_run F l vs (by simpa using hl) (fun j x v hx hv => h (j + 1) x v (by simpa using hx) (by simpa using hv))
    simp [List.mapM_cons, h1, h2, Result.andThen]
  | [], _ :: _, hl, _ => by simp at hl
  | _ :: _, [], hl, _ => by simp at hl
theorem results_run {fn : Func} {rs : List SRes} (htr : seqO (transRes P) fn.results.toList = some rs) (h : Sim B s a w E) {y : TV} (hy : resT s rs = some y) : ∃ v, (results fn a.tmps).run P w = .ok v w ∧ RelT w E s.r y v := by
  have key : ∀ (l : List ResultVar) (rs : List SRes), seqO (transRes P) l = some rs → ∀ (ys : List TV), seqO (SRes.get s) rs = some ys → ∃ vs : List Value, l.length = vs.length ∧ (∀ (j : Nat) x v, l[j]? = some x → vs[j]? = some v → (resSem a x).run P w = .ok v w) ∧ ys.length = vs.length ∧ ∀ (j : Nat) c v, ys[j]? = some c → vs[j]? = some v → RelT w E s.r c v := by
    intro l
    induction l with
    | nil => intro rs h1 ys h2; simp [seqO] at h1; subst h1; simp [seqO] at h2; subst h2; exact ⟨[], rfl, by simp, rfl, by simp⟩
    | cons rv l ih =>
      intro rs h1 ys h2
      obtain ⟨sr, rs', h3, h4, rfl⟩ := seqO_cons h1
      obtain ⟨y, ys', h5, h6, rfl⟩ := seqO_cons h2
      obtain ⟨vs, a0, a1, a2, a3⟩ := ih rs' h4 ys' h6
      obtain ⟨v, b1, b2⟩ := res_run h3 h h5
      have b1' : (resSem a rv).run P w = .ok v w := by cases rv <;> exact b1
      refine ⟨v :: vs, by simp [a0], fun j x u hx hu => ?_, by simp [a2], fun j c u hc hu => ?_⟩
      · cases j with
        | zero => simp at hx hu; subst hx; subst hu; exact b1'
        | succ j => exact a1 j x u (by simpa using hx) (by simpa using hu)
      · cases j with
        | zero => simp at hc hu; subst hc; subst hu; exact b2
        | succ j => exact a3 j c u (by simpa using hc) (by simpa using hu)
  have hres : ∀ vs : List Value, (fn.results.toList.mapM (resSem a)).run P w = .ok vs w → (results fn a.tmps).run P w = .ok (if h : vs.length = 1 then vs[0] else .tuple vs.toArray) w := by
    intro vs hvs
    have harr : (fn.results.mapM (resSem a)).run P w = .ok vs.toArray w := by
      rw [← Array.toArray_toList (xs := fn.results), List.mapM_toArray]
      simp [hvs, Result.andThen]
    have e : results fn a.tmps = (fn.results.mapM (resSem a)) >>= fun vs => pure (if h : vs.size = 1 then vs[0] else .tuple vs) := by
      unfold results
      congr 1
    rw [e, Sem.run_bind, harr]
    rfl
  have hmany : ∀ ys, seqO (SRes.get s) rs = some ys → (rs.length = 1 → ys = [y]) → (rs.length ≠ 1 → y = .tuple ys) → ∃ v, (results fn a.tmps).run P w = .ok v w ∧ RelT w E s.r y v := by
    intro ys hys h1 h2
    obtain ⟨vs, a0, a1, a2, a3⟩ := key _ rs htr ys hys
    have hl1 := (seqO_spec htr).1
    refine ⟨_, hres vs (mapM_run _ _ _ a0 a1), ?_⟩
    by_cases hone : vs.length = 1
    · rw [dif_pos hone]
      have hr1 : rs.length = 1 := by omega
      rw [h1 hr1] at a3
      exact a3 0 y _ rfl (List.getElem?_eq_getElem (by omega))
    · rw [dif_neg hone]
      have hr1 : rs.length ≠ 1 := by omega
      rw [h2 hr1]
      exact .tuple ys vs a2 a3
  match rs, hy, hmany with
  | [], hy, hmany => simp [resT, seqO] at hy; exact hmany [] rfl (by simp) (fun _ => hy.symm)
  | [r], hy, hmany => exact hmany [y] (by simp only [resT] at hy; simp [seqO, hy]) (fun _ => rfl) (by simp)
  | r :: r2 :: rr, hy, hmany =>
    simp only [resT] at hy
    obtain ⟨ys, h1, h2⟩ := Option.map_eq_some_iff.1 hy
    exact hmany ys h1 (by simp) (fun _ => h2.symm)

/-- A function, by what its code needs. -/
theorem call_of_swp {f : Nat} {H : Nat → Option Nat → Nat} {Fp : Nat → List (Nat → Option Nat)} {K : Nat → List Nat} {keep : Bool} {F : SFunc} (hmix : P.follows .mixedOrders = true) (hF : transFunc P f H Fp K keep = some F) {xs : List TV} {os os' : List MO} {y : TV} (hn : xs.length ≤ F.N) (hos : os.length ≤ 1000) (hmo : moOk os os' = true)
    (h : swp P g F.code (fun e s => (e = .ret ∨ e = .normal) ∧ exitF F os.length s = some (y, os')) (startE xs os)) : SCalls P g f xs os y os' := by
  unfold transFunc at hF
  split at hF <;> try (cases hF; done)
  rename_i fn hfn
  split at hF <;> try (cases hF; done)
  rename_i c hc
  split at hF <;> try (cases hF; done)
  rename_i hname
  split at hF <;> try (cases hF; done)
  rename_i sc rs hsc hrs
  cases hF
  rw [Bool.and_eq_true] at hname
  have hnm : ¬ fn.name = "runtime.NumGoroutine" := by simpa using hname.1
  have hN : fn.ntmps ≤ 1000 := Nat.le_of_ble_eq_true hname.2
  refine ⟨⟨fn, c, hfn, hc, hnm⟩, fun w E vs hG hm hX hl hxs => ?_⟩
  let B : Base := start w E os fn.ntmps
  have hmB : MSim B (objB os) (objR os) w E := ⟨hm.box, hm.row, hm.bb, hm.br, hm.rr, hm.lt, hm.low, hm.keep, hm.knew, ⟨hm.pas.β, hm.pas.γ, hm.pas.row⟩⟩
  have hfs : (startE xs os).fs = ⟨fun k => xs[k]?, objB os, objR os, fun _ => none⟩ := by
    refine FS.ext' (fun k => ?_) (fun k => ?_) (fun k => ?_) (fun k => rfl)
    · show lk (numT 0 xs) k = _; rw [lk_numT]; simp
    · show lk (numB 1000 os) k = _; rw [lk_numB]; rfl
    · show lk (numR 1000 os) k = _; rw [lk_numR]; rfl
  have hsize : (vs.toArray ++ Array.replicate (fn.ntmps - vs.toArray.size) undef).size = fn.ntmps := by
    have : xs.length ≤ fn.ntmps := hn
    simp; omega
  have hS : Sim B (startE xs os).fs { tmps := vs.toArray ++ Array.replicate (fn.ntmps - vs.toArray.size) undef, defers := [] } w E := by
    rw [hfs]
    refine ⟨rfl, hsize, fun k x hx => ?_, hmB, fun d z p hd => (by cases hd), fun d d' q q' hd => (by cases hd)⟩
    have hk : k < xs.length := (List.getElem?_eq_some_iff.1 hx).1
    refine ⟨Nat.lt_of_lt_of_le hk hn, ?_⟩
    have hkv : k < vs.length := by omega
    have hv : (vs.toArray ++ Array.replicate (fn.ntmps - vs.toArray.size) undef).getD k undef = vs[k] := by
      rw [Array.getD_eq_getD_getElem?, Array.getElem?_append_left (by simpa using hkv)]
      simp [hkv]
    show RelT w E (objR os) x ((vs.toArray ++ Array.replicate (fn.ntmps - vs.toArray.size) undef).getD k undef)
    rw [hv]
    exact hxs k x _ hx (List.getElem?_eq_getElem hkv)
  refine calls_of_wp hfn hc (wp_mono (swp_sound (B := B) hmix hos hN hG hX hsc h hS) ?_)
  rintro x a' w' ⟨e, s', E', rfl, ⟨he, hex⟩, hS'⟩
  have fin : a'.defers = [] ∧ ∃ v, (results fn a'.tmps).run P w' = .ok v w' ∧ (∃ v_1 E'_1, Ending.returned v = Ending.returned v_1 ∧ MSim (start w E os 0) (objB os') (objR os') w' E'_1 ∧ RelT w' E'_1 (objR os') y v_1 ∧ Left E os E'_1 os') := by
    refine ⟨hS'.defers, ?_⟩
    unfold exitF at hex
    split at hex <;> try (cases hex; done)
    rename_i y0 hy0
    obtain ⟨v, hrun, hrel⟩ := results_run (fn := fn) hrs hS' hy0
    refine ⟨v, hrun, v, ?_⟩
    simp only [] at hex
    obtain ⟨i1, i2, i3⟩ := idsFrom_nodup os.length 1000
    generalize hal : reach s'.fs keep 64 (y0.ids3 ++ (idsFrom 1000 os.length).flatMap fun d => match s'.fs.b d with | some cs => cs.flatMap TV.ids1 | none => []) (idsFrom 1000 os.length) = al at hex
    obtain ⟨hnd, t, hpre⟩ := reach_prefix (s := s'.fs) (rows := keep) 64 (y0.ids3 ++ (idsFrom 1000 os.length).flatMap fun d => match s'.fs.b d with | some cs => cs.flatMap TV.ids1 | none => []) _ i1
    rw [hal] at hnd hpre
    split at hex <;> try (cases hex; done)
    rename_i y1 os1 hren hmos
    cases hex
    have hpas : ∀ j, j < os.length → al[j]? = some (1000 + j) := fun j hj => by
      rw [hpre, List.getElem?_append_left (by omega), idsFrom_get, if_pos hj]
    have hM := call_pre hS' hnd hmos
    obtain ⟨hlen, hBx, hRx⟩ := handed hmos
    have hβ : ∀ {i j}, al[j]? = some i → (envIn E' al).β (1000 + j) = E'.β i := fun hj => by simp only [envIn]; rw [getD_of hj]
    have hγ : ∀ {i j}, al[j]? = some i → (envIn E' al).γ (1000 + j) = E'.γ i := fun hj => by simp only [envIn]; rw [getD_of hj]
    have hXs : ∀ {i j b}, al[j]? = some i → objX E os i b → objX E os (1000 + j) b := by
      intro i j b hj hx
      have hi : ∃ q, i = 1000 + q ∧ q < os.length := by
        rcases hx with ⟨cs, h1, _⟩ | ⟨⟨e, W, n⟩, cap, h1, _⟩
        · obtain ⟨q, rfl, hq⟩ := objB_inv h1; exact ⟨q, rfl, (List.getElem?_eq_some_iff.1 hq).1⟩
        · obtain ⟨q, rfl, hq⟩ := objR_inv h1; exact ⟨q, rfl, (List.getElem?_eq_some_iff.1 hq).1⟩
      obtain ⟨q, rfl, hq⟩ := hi
      have a1 := pos_get hnd hj
      have a2 := pos_get hnd (hpas q hq)
      rw [a1] at a2
      obtain rfl : j = q := Option.some.inj a2
      exact hx
    have hM' : MSim (start w E os 0) (objB os') (objR os') w' (envIn E' al) := by
      refine ⟨fun d cs' hd => ?_, fun d e W n hd => ?_, hM.bb, hM.br, hM.rr, hM.lt, hS'.mem.low, hS'.mem.keep, hS'.mem.knew, ⟨fun d ho => ?_, fun d ho h0 => ?_, fun d e W n ho hd => ?_⟩⟩
      · refine ⟨(hM.box d cs' hd).1, ?_⟩
        obtain ⟨j, rfl, hj⟩ := objB_inv hd
        obtain ⟨i, cs, q1, q2, _⟩ := hBx j cs' hj
        rw [hβ q1]
        rcases (hS'.mem.box i cs q2).2 with h1 | h1
        · exact .inl h1
        · exact .inr (hXs q1 h1)
      · obtain ⟨j, rfl, hj⟩ := objR_inv hd
        obtain ⟨i, q1, q2, q3⟩ := hRx j e W n hj
        rw [hγ q1]
        rcases hS'.mem.row i e W n q3 with h1 | ⟨k, cap, h1, h2, h3⟩
        · exact .inl h1
        · exact .inr ⟨k, cap, h1, h2.imp id (hXs q1), h3.cells, h3.le, h3.max, h3.out⟩
      · obtain ⟨q, rfl⟩ : ∃ q, d = 1000 + q := ⟨d - 1000, by have := ho.1; omega⟩
        have hq : q < os.length := by have := ho.2; have h2 : 1000 + q < 1000 + os.length := this; omega
        rw [hβ (hpas q hq)]; exact hS'.mem.pas.β _ ho
      · obtain ⟨q, rfl⟩ : ∃ q, d = 1000 + q := ⟨d - 1000, by have := ho.1; omega⟩
        have hq : q < os.length := by have := ho.2; have h2 : 1000 + q < 1000 + os.length := this; omega
        rw [hγ (hpas q hq)]; exact hS'.mem.pas.γ _ ho h0
      · obtain ⟨q, rfl⟩ : ∃ q, d = 1000 + q := ⟨d - 1000, by have := ho.1; omega⟩
        have hq : q < os.length := by have := ho.2; have h2 : 1000 + q < 1000 + os.length := this; omega
        obtain ⟨j, hj0, hj⟩ := objR_inv hd
        obtain rfl : q = j := by omega
        obtain ⟨i, q1, q2, q3⟩ := hRx q e W n hj
        rw [hpas q hq] at q1; cases q1
        rw [hγ (hpas q hq)]
        exact hS'.mem.pas.row _ e W n ho q3
    refine ⟨envIn E' al, rfl, hM', ren3_rel (renIn hmos) (fun _ _ _ h _ => h) hrel hren, ⟨fun d h1 h2 => hM'.pas.β d ⟨h1, h2⟩, fun d h1 h2 h0 => hM'.pas.γ d ⟨h1, h2⟩ h0, fun d e W n hd => ?_⟩⟩
    obtain ⟨q, rfl, hq⟩ := objR_inv hd
    have hql : q < os.length := (List.getElem?_eq_some_iff.1 hq).1
    obtain ⟨n', h1, h2⟩ := (moOk_spec hmo).2.2.2 q e W n hq
    obtain ⟨n0, h3, h4, h5⟩ := hM'.pas.row (1000 + q) e W n' ⟨by omega, by show 1000 + q < 1000 + os.length; omega⟩ (objR_eq h1)
    have h3 : objR os (1000 + q) = some (e, W, n0) := h3
    rw [hd] at h3; cases h3
    exact ⟨n', objR_eq h1, h4, h5⟩
  rcases he with rfl | rfl
  · exact fin
  · exact fin
end
end Go.Sh
end

section
/- Sh: running code on known data. No statement of the program is proved here. -/
namespace Go.Sh
open Go Go.RowKit
set_option maxHeartbeats 4000000

def hintT (T : List (Nat × Nat)) (j : Nat) (d : Option Nat) : Nat := match lk T (dstId d) with | some m => m | none => j
def killT (T : List (Nat × List Nat)) (id : Nat) : List Nat := match lk T id with | some l => l | none => []
def fpT (T : List (Nat × List (List (Nat × Nat)))) (id : Nat) : List (Nat → Option Nat) := match lk T id with | some ls => ls.map lk | none => [fun _ => none]
def altsE (P : Program) (C : Oracle) (kill : List Nat) : List (List Nat × List SOper) → ES → Option ES
  | [], _ => none
  | (n, l) :: r, s => match runE P C l (s.fgt n) with
    | some s' => some (s'.kill kill)
    | none => altsE P C kill r s
def iter (f : ES → Option (SExit × ES)) : Nat → ES → Option (SExit × ES)
  | 0, _ => none
  | n + 1, s => match f s with
    | some (.normal, s') => iter f n s'
    | r => r
def exec (P : Program) (C : Oracle) (L : Nat) : SCode → ES → Option (SExit × ES)
  | .skip, s => some (.normal, s)
  | .reg alts kill, s => match altsE P C kill alts s with
    | some s' => some (.normal, s')
    | none => none
  | .seq a b, s => match exec P C L a s with
    | some (.normal, s') => exec P C L b s'
    | r => r
  | .cond c a b, s => match c.get s.fs with
    | some (.pv (.v (.bool true))) => exec P C L a s
    | some (.pv (.v (.bool false))) => exec P C L b s
    | _ => none
  | .block id a, s => match exec P C L a s with
    | some (.exit j, s') => match Nat.beq j id with
      | true => some (.normal, s')
      | false => some (.exit j, s')
    | r => r
  | .loop a, s => iter (fun s => exec P C L a s) L s
  | .exit id, s => some (.exit id, s)
  | .ret, s => some (.ret, s)
/-- A call, run: by what is known of it, or by its code. -/
def callF (P : Program) (F : Nat → Option SFunc) (prim : Oracle) (L : Nat) : Nat → Oracle
  | 0 => fun _ _ _ => none
  | n + 1 => fun f xs os => match prim f xs os with
    | some r => some r
    | none => match F f with
      | some G => match Nat.ble xs.length G.N, Nat.ble os.length 1000 with
        | true, true => match exec P (callF P F prim L n) L G.code (startE xs os) with
          | some (.ret, s) => match exitF G os.length s with
            | some (y, os') => match moOk os os' with | true => some (y, os') | false => none
            | none => none
          | some (.normal, s) => match exitF G os.length s with
            | some (y, os') => match moOk os os' with | true => some (y, os') | false => none
            | none => none
          | _ => none
        | _, _ => none
      | none => none

section
variable {P : Program} {g : Glob} {C : Oracle} {L : Nat}
theorem exec_swp (hC : SoundC P g C) : ∀ {c : SCode} {s s' : ES} {e : SExit} {Q : SExit → ES → Prop}, exec P C L c s = some (e, s') → Q e s' → swp P g c Q s
  | .skip, s, s', e, Q, h, hQ => by simp only [exec] at h; cases h; exact hQ
  | .exit id, s, s', e, Q, h, hQ => by simp only [exec] at h; cases h; exact hQ
  | .ret, s, s', e, Q, h, hQ => by simp only [exec] at h; cases h; exact hQ
  | .reg alts kill, s, s', e, Q, h, hQ => by
    simp only [exec] at h
    split at h <;> try (cases h; done)
    rename_i s1 hs1
    cases h
    have key : ∀ (al : List (List Nat × List SOper)), altsE P C kill al s = some s' → ∃ a ∈ al, opsW P g a.2 (fun s' => Q .normal (s'.kill kill)) (s.fgt a.1) := by
      intro al
      induction al with
      | nil => intro h; simp [altsE] at h
      | cons x r ih =>
        intro h
        obtain ⟨n, l⟩ := x
        simp only [altsE] at h
        split at h
        · rename_i s2 h2
          cases h
          exact ⟨(n, l), List.mem_cons_self .., opsW_of_runE hC h2 hQ⟩
        · obtain ⟨a, ha, h3⟩ := ih h
          exact ⟨a, List.mem_cons_of_mem _ ha, h3⟩
    exact key alts hs1
  | .seq a b, s, s', e, Q, h, hQ => by
    simp only [exec] at h
    split at h
    · rename_i s1 h1
      exact exec_swp hC (c := a) h1 (show swp P g b Q s1 from exec_swp hC (c := b) h hQ)
    · rename_i hne
      refine exec_swp hC (c := a) h ?_
      cases e with
      | normal => exact absurd h (hne s')
      | exit id => exact hQ
      | ret => exact hQ
  | .cond c a b, s, s', e, Q, h, hQ => by
    simp only [exec] at h
    split at h
    · rename_i hc; exact ⟨true, hc, exec_swp hC (c := a) h hQ⟩
    · rename_i hc; exact ⟨false, hc, exec_swp hC (c := b) h hQ⟩
    · cases h
  | .block id a, s, s', e, Q, h, hQ => by
    simp only [exec] at h
    split at h
    · rename_i j s1 h1
      split at h
      · rename_i hj
        cases h
        exact exec_swp hC (c := a) h1 (by simp only [blockW]; rw [if_pos (Nat.eq_of_beq_eq_true hj)]; exact hQ)
      · rename_i hj
        cases h
        exact exec_swp hC (c := a) h1 (by simp only [blockW]; rw [if_neg (fun e => by rw [e, Nat.beq_refl] at hj; cases hj)]; exact hQ)
    · rename_i hne
      refine exec_swp hC (c := a) h ?_
      cases e with
      | normal => exact hQ
      | exit id => exact absurd h (hne _ s')
      | ret => exact hQ
  | .loop a, s, s', e, Q, h, hQ => by
    simp only [exec] at h
    refine ⟨fun n s => iter (fun s => exec P C L a s) n s = some (e, s'), L, ⟨s, .refl s, h⟩, fun n s1 h1 => ?_⟩
    cases n with
    | zero => simp [iter] at h1
    | succ n =>
      simp only [iter] at h1
      split at h1
      · rename_i s2 h2
        exact exec_swp hC (c := a) h2 (show ∃ m, _ from ⟨n, Nat.lt_succ_self n, s2, .refl s2, h1⟩)
      · rename_i hne
        refine exec_swp hC (c := a) h1 ?_
        cases e with
        | normal => exact absurd h1 (hne s')
        | exit id => exact hQ
        | ret => exact hQ
def FuncsOk (P : Program) (F : Nat → Option SFunc) : Prop := ∀ f G, F f = some G → ∃ H Fp K keep, transFunc P f H Fp K keep = some G
theorem callF_sound {F : Nat → Option SFunc} {prim : Oracle} (hmix : P.follows .mixedOrders = true) (hF : FuncsOk P F) (hprim : SoundC P g prim) : ∀ n, SoundC P g (callF P F prim L n)
  | 0 => fun f xs os y os' h => by simp [callF] at h
  | n + 1 => fun f xs os y os' h => by
    have ih := callF_sound hmix hF hprim n
    simp only [callF] at h
    split at h
    · rename_i r hr
      cases h
      exact hprim f xs os y os' hr
    · split at h
      · rename_i G hG
        obtain ⟨H, Fp, K, keep, htr⟩ := hF f G hG
        split at h <;> try (cases h; done)
        rename_i hn ho
        have hn := Nat.le_of_ble_eq_true hn
        have ho := Nat.le_of_ble_eq_true ho
        split at h
        · rename_i s1 hs1
          split at h <;> try (cases h; done)
          rename_i y1 os1 hex
          split at h <;> try (cases h; done)
          rename_i hmo
          cases h
          exact call_of_swp hmix htr hn ho hmo (exec_swp ih hs1 ⟨.inl rfl, hex⟩)
        · rename_i s1 hs1
          split at h <;> try (cases h; done)
          rename_i y1 os1 hex
          split at h <;> try (cases h; done)
          rename_i hmo
          cases h
          exact call_of_swp hmix htr hn ho hmo (exec_swp ih hs1 ⟨.inr rfl, hex⟩)
        · cases h
      · cases h
end
end Go.Sh
end

section
/- Sh: walking code over data that is not known. No statement of the program is proved here. -/
namespace Go.Sh
open Go Go.RowKit
set_option maxHeartbeats 4000000

def noC : Oracle := fun _ _ _ => none
theorem noC_sound (P : Program) (g : Glob) : SoundC P g noC := fun f xs os y os' h => by cases h
def SOp.isCall : SOp → Bool | .call .. | .callv .. => true | _ => false
theorem eff_noC {P : Program} {C : Oracle} {dst : Option Nat} {o : SOp} (h : o.isCall = false) (s : FS) : eff P C dst o s = eff P noC dst o s := by
  cases o <;> first | rfl | cases h
theorem effG_noC {P : Program} {C : Oracle} {o : SOper} (h : o.op.isCall = false) (s : FS) : effG P C o s = effG P noC o s := by
  unfold effG effF
  rw [eff_noC h]
/-- One operation that is no call. -/
def stepW (P : Program) (o : SOper) (K : ES → Prop) (s : ES) : Option (TV × Upd) → Prop
  | some e => K (s.after o e)
  | none => False
section
variable {P : Program} {g : Glob} {o : SOper} {l : List SOper} {K : ES → Prop} {s : ES}
theorem opsW_nc (h : o.op.isCall = false) : opsW P g (o :: l) K s ↔ stepW P o (opsW P g l K) s (effG P noC o s.fs) := by
  constructor
  · rintro ⟨C, hC, e, he, hk⟩
    rw [effG_noC h] at he
    rw [he]; exact hk
  · intro hk
    cases he : effG P noC o s.fs with
    | none => rw [he] at hk; exact hk.elim
    | some e => rw [he] at hk; exact ⟨noC, noC_sound P g, e, he, hk⟩
theorem opsW_nil : opsW P g [] K s ↔ K s := Iff.rfl
theorem regW_one {n : List Nat} {kill : List Nat} : regW P g [(n, l)] kill K s ↔ opsW P g l (fun s' => K (s'.kill kill)) (s.fgt n) := by simp [regW]
/-- The first way, the second way of a region with an append. -/
theorem regW_1 {n : List Nat} {kill : List Nat} {r : List (List Nat × List SOper)} (h : opsW P g l (fun s' => K (s'.kill kill)) (s.fgt n)) : regW P g ((n, l) :: r) kill K s := ⟨(n, l), List.mem_cons_self .., h⟩
theorem regW_2 {n n0 : List Nat} {l0 : List SOper} {kill : List Nat} {r : List (List Nat × List SOper)} (h : opsW P g l (fun s' => K (s'.kill kill)) (s.fgt n)) : regW P g ((n0, l0) :: (n, l) :: r) kill K s := ⟨(n, l), List.mem_cons_of_mem _ (List.mem_cons_self ..), h⟩
/-- A call, by what it is handed. -/
def callK (P : Program) (g : Glob) (k f m : Nat) (s : FS) (K : TV → Upd → Prop) : Option (List TV) → Prop
  | none => False
  | some args => ∃ I, I = handI s m args ∧ ∃ xs' os, seqO (TV.ren2 (rhoIn I)) args = some xs' ∧ seqO (fun d => (s.mo d).bind (MO.ren (rhoIn I))) I = some os ∧
      ∃ y os', SCalls P g f xs' os y os' ∧ moOk os os' = true ∧ ∃ y' us, y.ren3 (rhoOut I k) = some y' ∧ outs (rhoOut I k) 0 os' = some us ∧ K y' (.mem us)
open Classical in
noncomputable def theC (f : Nat) (xs : List TV) (os : List MO) (r : TV × List MO) : Oracle := fun f' xs' os' => if f' = f ∧ xs' = xs ∧ os' = os then some r else none
theorem theC_sound {f : Nat} {xs : List TV} {os os' : List MO} {y : TV} (h : SCalls P g f xs os y os') : SoundC P g (theC f xs os (y, os')) := by
  intro f' xs' os2 y' os3 h'
  unfold theC at h'
  split at h'
  · rename_i hc
    obtain ⟨rfl, rfl, rfl⟩ := hc
    cases h'; exact h
  · cases h'
theorem callEff_of {k f m : Nat} {s : FS} {K : TV → Upd → Prop} {args : List TV} (h : callK P g k f m s K (some args)) : ∃ C, SoundC P g C ∧ ∃ y' u, callEff C s k f m args = some (y', u) ∧ K y' u := by
  obtain ⟨I, rfl, xs', os, h1, h2, y, os', hc, hmo, y', us, h3, h4, hk⟩ := h
  refine ⟨theC f xs' os (y, os'), theC_sound hc, y', .mem us, ?_, hk⟩
  unfold callEff
  unfold handI at h1 h2 h3 h4
  simp only []
  rw [h1, h2]
  simp only [theC, and_self, if_true, hmo, h3, h4]
theorem opsW_call {dst : Option Nat} {f m : Nat} {xs : List Arg} (h : callK P g (dstId dst) f m s.fs (fun y u => opsW P g l K (s.after ⟨dst, none, none, .call f m xs⟩ (y, u))) (seqO (fun x : Arg => x.get s.fs) xs)) : opsW P g (⟨dst, none, none, .call f m xs⟩ :: l) K s := by
  cases hx : seqO (fun x : Arg => x.get s.fs) xs with
  | none => rw [hx] at h; exact h.elim
  | some args =>
    rw [hx] at h
    obtain ⟨C, hC, y', u, he, hk⟩ := callEff_of h
    exact ⟨C, hC, (y', u), by simp only [effG, effF, footOk, eff, hx, Option.bind_some, he], hk⟩
theorem opsW_callg {dst : Option Nat} {f m gs : Nat} {b : Bool} {xs : List Arg} (hg : s.fs.t gs = some (.pv (.v (.bool b)))) (h : callK P g (dstId dst) f m s.fs (fun y u => opsW P g l K (s.after ⟨dst, some (gs, b), none, .call f m xs⟩ (y, u))) (seqO (fun x : Arg => x.get s.fs) xs)) : opsW P g (⟨dst, some (gs, b), none, .call f m xs⟩ :: l) K s := by
  cases hx : seqO (fun x : Arg => x.get s.fs) xs with
  | none => rw [hx] at h; exact h.elim
  | some args =>
    rw [hx] at h
    obtain ⟨C, hC, y', u, he, hk⟩ := callEff_of h
    exact ⟨C, hC, (y', u), by simp only [effG, hg, beq_self_eq_true, if_true, effF, footOk, eff, hx, Option.bind_some, he], hk⟩
/-- A call that is not made. -/
theorem opsW_skip {dst : Option Nat} {gs : Nat} {b : Bool} {op : SOp} {fp : Option Nat} (hg : s.fs.t gs = some (.pv (.v (.bool (!b))))) (h : opsW P g l K (s.after ⟨dst, some (gs, b), fp, op⟩ (.pv (.v undef), .no))) : opsW P g (⟨dst, some (gs, b), fp, op⟩ :: l) K s :=
  ⟨noC, noC_sound P g, _, by simp only [effG, hg]; cases b <;> simp, h⟩
def callvK (P : Program) (g : Glob) (k m : Nat) (s : FS) (K : TV → Upd → Prop) : Option (Nat × List TV × List TV) → Option (List TV) → Prop
  | some (f, fa, fb), some vs => callK P g k f m s K (some (fa ++ vs ++ fb))
  | _, _ => False
theorem opsW_callv {dst : Option Nat} {m : Nat} {x : Arg} {xs : List Arg} (h : callvK P g (dstId dst) m s.fs (fun y u => opsW P g l K (s.after ⟨dst, none, none, .callv x m xs⟩ (y, u))) ((x.get s.fs).bind TV.callee) (seqO (fun x : Arg => x.get s.fs) xs)) : opsW P g (⟨dst, none, none, .callv x m xs⟩ :: l) K s := by
  cases hc : (x.get s.fs).bind TV.callee with
  | none => rw [hc] at h; exact h.elim
  | some c =>
    obtain ⟨f, fa, fb⟩ := c
    cases hx : seqO (fun x : Arg => x.get s.fs) xs with
    | none => rw [hc, hx] at h; exact h.elim
    | some vs =>
      rw [hc, hx] at h
      have h' : callK P g (dstId dst) f m s.fs (fun y u => opsW P g l K (s.after ⟨dst, none, none, .callv x m xs⟩ (y, u))) (some (fa ++ vs ++ fb)) := h
      obtain ⟨C, hC, y', u, he, hk⟩ := callEff_of h'
      exact ⟨C, hC, (y', u), by simp only [effG, effF, footOk, eff, hc, hx, he], hk⟩
end
/-- What a function answers, by its results. -/
def exitR (res : List SRes) (keep : Bool) (n : Nat) (s : ES) : Option (TV × List MO) := exitF ⟨0, .skip, res, keep⟩ n s
theorem exitF_R (F : SFunc) (n : Nat) (s : ES) : exitF F n s = exitR F.res F.keep n s := rfl
def PostR (res : List SRes) (keep : Bool) (n : Nat) (y : TV) (os' : List MO) : SExit → ES → Prop
  | .ret, s | .normal, s => exitR res keep n s = some (y, os')
  | .exit _, _ => False
theorem call_of {P : Program} {g : Glob} {f : Nat} {H : Nat → Option Nat → Nat} {Fp : Nat → List (Nat → Option Nat)} {K : Nat → List Nat} {keep : Bool} {F : SFunc} (hmix : P.follows .mixedOrders = true) (hF : transFunc P f H Fp K keep = some F) {xs : List TV} {os os' : List MO} {y : TV} (hn : Nat.ble xs.length F.N = true) (hos : Nat.ble os.length 1000 = true) (hmo : moOk os os' = true)
    (h : swp P g F.code (PostR F.res F.keep os.length y os') (startE xs os)) : SCalls P g f xs os y os' :=
  call_of_swp hmix hF (Nat.le_of_ble_eq_true hn) (Nat.le_of_ble_eq_true hos) hmo (swp_mono h fun e s he => by
    cases e with
    | normal => exact ⟨.inr rfl, by rw [exitF_R]; exact he⟩
    | ret => exact ⟨.inl rfl, by rw [exitF_R]; exact he⟩
    | exit id => exact he.elim)

/-- What a function answers that hands out no memory of its own. -/
def ansW (y : TV) : Option TV → Prop
  | some y0 => y0.ids3 = [] ∧ y0.ren3 (rhoIn []) = some y
  | none => False
def Post0 (res : List SRes) (y : TV) : SExit → ES → Prop
  | .ret, s | .normal, s => ansW y (resT s.fs res)
  | .exit _, _ => False
theorem call_of0 {P : Program} {g : Glob} {f : Nat} {H : Nat → Option Nat → Nat} {Fp : Nat → List (Nat → Option Nat)} {K : Nat → List Nat} {keep : Bool} {F : SFunc} (hmix : P.follows .mixedOrders = true) (hF : transFunc P f H Fp K keep = some F) {xs : List TV} {y : TV} (hn : Nat.ble xs.length F.N = true)
    (h : swp P g F.code (Post0 F.res y) (startE xs [])) : SCalls P g f xs [] y [] := by
  have key : ∀ s, ansW y (resT s.fs F.res) → exitR F.res F.keep 0 s = some (y, []) := by
    intro s he
    cases hr : resT s.fs F.res with
    | none => rw [hr] at he; exact he.elim
    | some y0 =>
      rw [hr] at he
      obtain ⟨h1, h2⟩ := he
      simp [exitR, exitF, hr, idsFrom, h1, reach, h2, seqO]
  refine call_of hmix hF hn rfl rfl (swp_mono h fun e s he => ?_)
  cases e with
  | normal => exact key s he
  | ret => exact key s he
  | exit id => exact he.elim

section
variable (P : Program) (t : TypeId) (k : IntKind) (a b : Int) (x y : ByteArray)
def binS (op : BinOp) (t : TypeId) (vx vy : Value) : Sem Value := do eqGuard op t (.const vx) (.const vy) vx vy; binOp op t vx vy
theorem bin_lss : scal P (do eqGuard .lss t (.const (.int k a)) (.const (.int k b)) (.int k a) (.int k b); binOp .lss t (.int k a) (.int k b)) = some (.pv (.v (.bool (decide (a < b)))), .no) := by simp [scal, eqGuard, binOp, Op.intCmp]; rfl
theorem bin_gtr : scal P (do eqGuard .gtr t (.const (.int k a)) (.const (.int k b)) (.int k a) (.int k b); binOp .gtr t (.int k a) (.int k b)) = some (.pv (.v (.bool (decide (b < a)))), .no) := by simp [scal, eqGuard, binOp, Op.intCmp]; rfl
theorem bin_leq : scal P (do eqGuard .leq t (.const (.int k a)) (.const (.int k b)) (.int k a) (.int k b); binOp .leq t (.int k a) (.int k b)) = some (.pv (.v (.bool (decide (a ≤ b)))), .no) := by simp [scal, eqGuard, binOp, Op.intCmp]; rfl
theorem bin_geq : scal P (do eqGuard .geq t (.const (.int k a)) (.const (.int k b)) (.int k a) (.int k b); binOp .geq t (.int k a) (.int k b)) = some (.pv (.v (.bool (decide (b ≤ a)))), .no) := by simp [scal, eqGuard, binOp, Op.intCmp]; rfl
theorem bin_eql : scal P (do eqGuard .eql t (.const (.int k a)) (.const (.int k b)) (.int k a) (.int k b); binOp .eql t (.int k a) (.int k b)) = some (.pv (.v (.bool (decide (a = b)))), .no) := by
  have : (a == b) = decide (a = b) := by rfl
  simp [scal, eqGuard, binOp, Op.intCmp]; rfl
theorem bin_neq : scal P (do eqGuard .neq t (.const (.int k a)) (.const (.int k b)) (.int k a) (.int k b); binOp .neq t (.int k a) (.int k b)) = some (.pv (.v (.bool (!decide (a = b)))), .no) := by simp [scal, eqGuard, binOp, Op.intCmp]; rfl
theorem bin_add : scal P (do eqGuard .add t (.const (.int k a)) (.const (.int k b)) (.int k a) (.int k b); binOp .add t (.int k a) (.int k b)) = some (.pv (.v (.int k (k.wrap (a + b)))), .no) := by simp [scal, eqGuard, binOp, Op.intArith]; rfl
theorem bin_sub : scal P (do eqGuard .sub t (.const (.int k a)) (.const (.int k b)) (.int k a) (.int k b); binOp .sub t (.int k a) (.int k b)) = some (.pv (.v (.int k (k.wrap (a - b)))), .no) := by simp [scal, eqGuard, binOp, Op.intArith]; rfl
theorem bin_mul : scal P (do eqGuard .mul t (.const (.int k a)) (.const (.int k b)) (.int k a) (.int k b); binOp .mul t (.int k a) (.int k b)) = some (.pv (.v (.int k (k.wrap (a * b)))), .no) := by simp [scal, eqGuard, binOp, Op.intArith]; rfl
theorem bin_quo (hb : b ≠ 0) : scal P (do eqGuard .quo t (.const (.int k a)) (.const (.int k b)) (.int k a) (.int k b); binOp .quo t (.int k a) (.int k b)) = some (.pv (.v (.int k (k.wrap (a.tdiv b)))), .no) := by simp [scal, eqGuard, binOp, Op.intDiv, hb]; rfl
theorem bin_rem (hb : b ≠ 0) : scal P (do eqGuard .rem t (.const (.int k a)) (.const (.int k b)) (.int k a) (.int k b); binOp .rem t (.int k a) (.int k b)) = some (.pv (.v (.int k (a.tmod b))), .no) := by simp [scal, eqGuard, binOp, Op.intDiv, hb]; rfl
theorem sbin_eql : scal P (do eqGuard .eql t (.const (.string x)) (.const (.string y)) (.string x) (.string y); binOp .eql t (.string x) (.string y)) = some (.pv (.v (.bool (x.toList == y.toList))), .no) := by simp [scal, eqGuard, binOp, Op.stringOp]; rfl
theorem sbin_neq : scal P (do eqGuard .neq t (.const (.string x)) (.const (.string y)) (.string x) (.string y); binOp .neq t (.string x) (.string y)) = some (.pv (.v (.bool (!(x.toList == y.toList)))), .no) := by simp [scal, eqGuard, binOp, Op.stringOp]; rfl
theorem sbin_lss : scal P (do eqGuard .lss t (.const (.string x)) (.const (.string y)) (.string x) (.string y); binOp .lss t (.string x) (.string y)) = some (.pv (.v (.bool (Op.bytesLess x.toList y.toList))), .no) := by simp [scal, eqGuard, binOp, Op.stringOp]; rfl
theorem sbin_gtr : scal P (do eqGuard .gtr t (.const (.string x)) (.const (.string y)) (.string x) (.string y); binOp .gtr t (.string x) (.string y)) = some (.pv (.v (.bool (!(Op.bytesLess x.toList y.toList || x.toList == y.toList)))), .no) := by simp [scal, eqGuard, binOp, Op.stringOp]; rfl
theorem sbin_add (h : x.size + y.size ≤ 9223372036854775807) : scal P (do eqGuard .add t (.const (.string x)) (.const (.string y)) (.string x) (.string y); binOp .add t (.string x) (.string y)) = some (.pv (.v (.string (x ++ y))), .no) := by
  have hm : IntKind.i64.max = 9223372036854775807 := by rfl
  have h' : ¬ (((x.size + y.size : Nat) : Int) > IntKind.i64.max) := by rw [hm]; omega
  simp only [scal, eqGuard, binOp, Op.stringOp, h', if_false]; rfl
theorem un_neg : scal P (Op.unary .neg (.int k a)) = some (.pv (.v (.int k (k.wrap (0 - a)))), .no) := rfl
theorem un_not (q : Bool) : scal P (Op.unary .not (.bool q)) = some (.pv (.v (.bool (!q))), .no) := rfl
end
theorem nbeq (a b : Nat) : Nat.beq a b = (a == b) := by
  cases h : Nat.beq a b with
  | true => simp [Nat.eq_of_beq_eq_true h]
  | false => have : a ≠ b := by rintro rfl; rw [Nat.beq_refl] at h; cases h
             simp [this]
theorem nble (a b : Nat) : Nat.ble a b = decide (a ≤ b) := by
  cases h : Nat.ble a b with
  | true => have := Nat.le_of_ble_eq_true h; simp [this]
  | false => have : ¬ a ≤ b := fun hl => by rw [Nat.ble_eq_true_of_le hl] at h; cases h
             simp [this]
theorem nblt (a b : Nat) : Nat.blt a b = decide (a < b) := by unfold Nat.blt; rw [nble]; rfl
theorem bFT : (false == true) = false := rfl
theorem bTF : (true == false) = false := rfl
theorem decide_T {p : Prop} [Decidable p] (h : p) : decide p = true := decide_eq_true h
theorem decide_F {p : Prop} [Decidable p] (h : ¬ p) : decide p = false := decide_eq_false h
theorem condW_iff {c : Arg} {s : ES} {A B : Prop} {t : Bool} (h : c.get s.fs = some (.pv (.v (.bool t)))) : condW c s A B ↔ (if t then A else B) := by
  constructor
  · rintro ⟨t', h1, h2⟩
    rw [h] at h1; cases h1; exact h2
  · exact fun h2 => ⟨t, h, h2⟩
theorem wrapL (n : Nat) (h : n ≤ 9223372036854775807 := by decide) : IntKind.i64.wrap (OfNat.ofNat n) = (OfNat.ofNat n : Int) := by
  have : (OfNat.ofNat n : Int) = (n : Int) := rfl
  rw [this, IntKind.wrap_i64]; omega
theorem wrap64 {x : Int} (h0 : -9223372036854775808 ≤ x) (h1 : x ≤ 9223372036854775807) : IntKind.i64.wrap x = x := by rw [IntKind.wrap_i64]; omega

/-- A region without calls. -/
def regE1 (P : Program) (n : List Nat) (l : List SOper) (kill : List Nat) (s : ES) : Option ES := (runE P noC l (s.fgt n)).map fun s' => s'.kill kill
section
variable {P : Program} {g : Glob} {a b c : SCode} {Q : SExit → ES → Prop} {s s' : ES} {n kill : List Nat} {l : List SOper} {r : List (List Nat × List SOper)}
theorem reg_K {K : ES → Prop} (h : regE1 P n l kill s = some s') (hk : K s') : opsW P g l (fun s' => K (s'.kill kill)) (s.fgt n) := by
  obtain ⟨s1, h1, rfl⟩ := Option.map_eq_some_iff.1 h
  exact opsW_of_runE (noC_sound P g) h1 hk
theorem w_seq (h : swp P g a (thenW (swp P g b Q) Q) s) : swp P g (.seq a b) Q s := h
theorem w_assoc (h : swp P g (.seq a (.seq b c)) Q s) : swp P g (.seq (.seq a b) c) Q s := by
  refine swp_mono (c := a) h (fun e s he => ?_)
  cases e with
  | normal =>
    refine swp_mono (c := b) he (fun e s he => ?_)
    cases e with
    | normal => exact he
    | exit id => exact he
    | ret => exact he
  | exit id => exact he
  | ret => exact he
theorem w_reg (h : regE1 P n l kill s = some s') (hk : swp P g b Q s') : swp P g (.seq (.reg ((n, l) :: r) kill) b) Q s := regW_1 (reg_K h hk)
theorem w_reg2 {n0 : List Nat} {l0 : List SOper} (h : regE1 P n l kill s = some s') (hk : swp P g b Q s') : swp P g (.seq (.reg ((n0, l0) :: (n, l) :: r) kill) b) Q s := regW_2 (reg_K h hk)
theorem w_ops (hk : opsW P g l (fun s' => swp P g b Q (s'.kill kill)) (s.fgt n)) : swp P g (.seq (.reg ((n, l) :: r) kill) b) Q s := regW_1 hk
theorem w_regE (h : regE1 P n l kill s = some s') (hk : Q .normal s') : swp P g (.reg ((n, l) :: r) kill) Q s := regW_1 (reg_K h hk)
theorem w_opsE (hk : opsW P g l (fun s' => Q .normal (s'.kill kill)) (s.fgt n)) : swp P g (.reg ((n, l) :: r) kill) Q s := regW_1 hk
theorem w_skip (h : swp P g b Q s) : swp P g (.seq .skip b) Q s := h
theorem w_cond {x : Arg} {t : Bool} (hx : x.get s.fs = some (.pv (.v (.bool t)))) (h1 : t = true → swp P g (.seq a c) Q s) (h2 : t = false → swp P g (.seq b c) Q s) : swp P g (.seq (.cond x a b) c) Q s := by
  refine ⟨t, hx, ?_⟩
  cases t with
  | true => exact h1 rfl
  | false => exact h2 rfl
theorem w_condE {x : Arg} {t : Bool} (hx : x.get s.fs = some (.pv (.v (.bool t)))) (h1 : t = true → swp P g a Q s) (h2 : t = false → swp P g b Q s) : swp P g (.cond x a b) Q s := by
  refine ⟨t, hx, ?_⟩
  cases t with
  | true => exact h1 rfl
  | false => exact h2 rfl
theorem w_condT {x : Arg} (hx : x.get s.fs = some (.pv (.v (.bool true)))) (h1 : swp P g (.seq a c) Q s) : swp P g (.seq (.cond x a b) c) Q s := w_cond hx (fun _ => h1) (fun h => by cases h)
theorem w_condF {x : Arg} (hx : x.get s.fs = some (.pv (.v (.bool false)))) (h1 : swp P g (.seq b c) Q s) : swp P g (.seq (.cond x a b) c) Q s := w_cond hx (fun h => by cases h) (fun _ => h1)
theorem w_condTE {x : Arg} (hx : x.get s.fs = some (.pv (.v (.bool true)))) (h1 : swp P g a Q s) : swp P g (.cond x a b) Q s := w_condE hx (fun _ => h1) (fun h => by cases h)
theorem w_condFE {x : Arg} (hx : x.get s.fs = some (.pv (.v (.bool false)))) (h1 : swp P g b Q s) : swp P g (.cond x a b) Q s := w_condE hx (fun h => by cases h) (fun _ => h1)
theorem w_retE (h : Q .ret s) : swp P g .ret Q s := h
theorem w_skipE (h : Q .normal s) : swp P g .skip Q s := h
theorem w_exitE {id : Nat} (h : Q (.exit id) s) : swp P g (.exit id) Q s := h
theorem q_then {K : ES → Prop} (h : K s) : thenW K Q .normal s := h
theorem q_blockN {id : Nat} (h : Q .normal s) : blockW id Q .normal s := h
theorem q_blockR {id : Nat} (h : Q .ret s) : blockW id Q .ret s := h
theorem q_thenR {K : ES → Prop} (h : Q .ret s) : thenW K Q .ret s := h
theorem q_thenX {K : ES → Prop} {id : Nat} (h : Q (.exit id) s) : thenW K Q (.exit id) s := h
theorem q_blockX {id : Nat} (h : Q .normal s) : blockW id Q (.exit id) s := by simp only [blockW, if_true]; exact h
theorem q_blockY {id j : Nat} (hj : Nat.beq j id = false) (h : Q (.exit j) s) : blockW id Q (.exit j) s := by
  simp only [blockW]; rw [if_neg (fun e => by rw [e, Nat.beq_refl] at hj; cases hj)]; exact h
theorem w_ret (h : Q .ret s) : swp P g (.seq .ret c) Q s := h
theorem w_exit {id : Nat} (h : Q (.exit id) s) : swp P g (.seq (.exit id) c) Q s := h
theorem w_block {id : Nat} (h : swp P g a (blockW id (thenW (swp P g c Q) Q)) s) : swp P g (.seq (.block id a) c) Q s := h
theorem w_blockE {id : Nat} (h : swp P g a (blockW id Q) s) : swp P g (.block id a) Q s := h
/-- A loop, by the states at its head. -/
theorem w_loop {σ : Type} (st : σ → ES) (μ : σ → Nat) (x0 : σ) (h0 : (st x0).Le s) (hr : ∀ x, swp P g a (thenW (fun s' => ∃ y, μ y < μ x ∧ (st y).Le s') (thenW (swp P g c Q) Q)) (st x)) : swp P g (.seq (.loop a) c) Q s := by
  refine ⟨fun n s => ∃ x, μ x = n ∧ s = st x, μ x0, ⟨st x0, h0.lw, x0, rfl, rfl⟩, ?_⟩
  rintro n s ⟨x, rfl, rfl⟩
  refine swp_mono (hr x) (fun e s he => ?_)
  cases e with
  | normal => obtain ⟨y, h1, h2⟩ := he; exact ⟨μ y, h1, st y, h2.lw, y, rfl, rfl⟩
  | exit id => exact he
  | ret => exact he
theorem w_loopE {σ : Type} (st : σ → ES) (μ : σ → Nat) (x0 : σ) (h0 : (st x0).Le s) (hr : ∀ x, swp P g a (thenW (fun s' => ∃ y, μ y < μ x ∧ (st y).Le s') Q) (st x)) : swp P g (.loop a) Q s := by
  refine ⟨fun n s => ∃ x, μ x = n ∧ s = st x, μ x0, ⟨st x0, h0.lw, x0, rfl, rfl⟩, ?_⟩
  rintro n s ⟨x, rfl, rfl⟩
  refine swp_mono (hr x) (fun e s he => ?_)
  cases e with
  | normal => obtain ⟨y, h1, h2⟩ := he; exact ⟨μ y, h1, st y, h2.lw, y, rfl, rfl⟩
  | exit id => exact he
  | ret => exact he
/-- A loop of few rounds. -/
def unrollW (P : Program) (g : Glob) (a : SCode) (Q : SExit → ES → Prop) : Nat → ES → Prop
  | 0, _ => False
  | k + 1, s => swp P g a (thenW (unrollW P g a Q k) Q) s
theorem w_unr {k : Nat} (h : swp P g a (thenW (unrollW P g a Q k) Q) s) : unrollW P g a Q (k + 1) s := h
theorem w_unrollE (k : Nat) (h : unrollW P g a Q k s) : swp P g (.loop a) Q s := by
  refine ⟨fun n s => unrollW P g a Q n s, k, ⟨s, .refl s, h⟩, fun n s h => ?_⟩
  cases n with
  | zero => exact h.elim
  | succ n =>
    refine swp_mono (c := a) h (fun e s he => ?_)
    cases e with
    | normal => exact ⟨n, Nat.lt_succ_self n, s, .refl s, he⟩
    | exit id => exact he
    | ret => exact he
theorem w_unroll (k : Nat) (h : unrollW P g a (thenW (swp P g c Q) Q) k s) : swp P g (.seq (.loop a) c) Q s := w_unrollE k h
/-- A call ahead of others. -/
theorem w_call {K : ES → Prop} {dst : Option Nat} {f m : Nat} {xs : List Arg} {args xs' : List TV} {I : List Nat} {os os' : List MO} {y y' : TV} {us : List (Nat × MO)} (hx : seqO (fun x : Arg => x.get s.fs) xs = some args) (hI : handI s.fs m args = I) (h1 : seqO (TV.ren2 (rhoIn I)) args = some xs')
    (h2 : seqO (fun d => (s.fs.mo d).bind (MO.ren (rhoIn I))) I = some os) (hc : SCalls P g f xs' os y os') (hmo : moOk os os' = true) (h3 : y.ren3 (rhoOut I (dstId dst)) = some y') (h4 : outs (rhoOut I (dstId dst)) 0 os' = some us) (hs : s.after ⟨dst, none, none, .call f m xs⟩ (y', .mem us) = s') (hk : opsW P g l K s') :
    opsW P g (⟨dst, none, none, .call f m xs⟩ :: l) K s := by
  refine opsW_call ?_
  rw [hx]
  exact ⟨I, hI.symm, xs', os, h1, h2, y, os', hc, hmo, y', us, h3, h4, by rw [← hs] at hk; exact hk⟩
/-- An operation ahead of others. -/
theorem w_op {o : SOper} {K : ES → Prop} {e : TV × Upd} (hc : o.op.isCall = false) (he : effG P noC o s.fs = some e) (hs : s.after o e = s') (hk : opsW P g l K s') : opsW P g (o :: l) K s := by
  rw [opsW_nc hc, he]; rw [← hs] at hk; exact hk
theorem w_done {K : ES → Prop} (h : K s) : opsW P g [] K s := h
end
end Go.Sh
end
