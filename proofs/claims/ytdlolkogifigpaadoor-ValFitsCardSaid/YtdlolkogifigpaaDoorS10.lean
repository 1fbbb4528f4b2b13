/- Sh: each operation on plain values is the operation (the fourth part). No statement of the program is proved here. -/
import Derived.Test.YtdlolkogifigpaaDoorS9
set_option linter.unusedSimpArgs false
set_option linter.unusedVariables false
namespace Go.Sh
open Go Go.RowKit
set_option maxHeartbeats 2000000
section
variable {B : Base} {s : FS} {a : Act} {w w' : World} {E E' : Env} {r : Rows} {P : Program} {C : Oracle}

theorem fillSeq {W : Nat} : ∀ (vs : List Value) (k : Nat) (arr : Array Value), (∀ v ∈ vs, v.cells.size = W) → arr.size = (k + vs.length) * W →
    ∃ res : Array Value, Instr.fill (fun i => some (i * W, W)) arr ((vs.zipIdx k).map fun p => (p.2, p.1)) = some res ∧ res.toList = arr.toList.take (k * W) ++ vs.flatMap (·.cells.toList)
  | [], k, arr, _, h => ⟨arr, rfl, by simp at h ⊢; rw [List.take_of_length_le (by simp [h])]⟩
  | v :: vs, k, arr, hv, h => by
    have hvl := hv v (List.mem_cons_self ..)
    have hsz : k * W + W ≤ arr.size := by rw [h]; simp only [List.length_cons]; rw [← Nat.succ_mul]; exact Nat.mul_le_mul_right W (by omega)
    have hfold := foldSet v.cells.toList (k * W) 0 arr (by simp [hvl]; omega)
    have hl : (splice arr.toList (k * W) v.cells.toList).length = arr.toList.length := splice_length (by simp [hvl]; omega)
    simp only [Nat.add_zero] at hfold
    obtain ⟨res, h1, h2⟩ := fillSeq vs (k + 1) (splice arr.toList (k * W) v.cells.toList).toArray (fun u hu => hv u (List.mem_cons_of_mem _ hu)) (by
      simp only [List.size_toArray, hl]; simp only [Array.length_toList, h, List.length_cons]; congr 1; omega)
    refine ⟨res, ?_, ?_⟩
    · simp only [List.zipIdx_cons, List.map_cons, Instr.fill, hvl]
      have hcond : (W ≠ W || k * W + W > arr.size) = false := by simp; omega
      rw [hcond]
      simp only [Bool.false_eq_true, if_false]
      have : v.cells.zipIdx.foldl (fun (cs : Array Value) (cj : Value × Nat) => cs.setIfInBounds (k * W + cj.2) cj.1) arr = (splice arr.toList (k * W) v.cells.toList).toArray := by
        have hus : ∀ us : List Value, us.toArray.zipIdx.foldl (fun (cs : Array Value) (cj : Value × Nat) => cs.setIfInBounds (k * W + cj.2) cj.1) arr = us.zipIdx.foldl (fun (cs : Array Value) (cj : Value × Nat) => cs.setIfInBounds (k * W + cj.2) cj.1) arr := fun us => by simp
        have := hus v.cells.toList
        rw [Array.toArray_toList] at this
        rw [this, ← hfold]
      rw [← h1, ← this]
    · rw [h2, List.flatMap_cons, ← List.append_assoc]
      congr 1
      simp only [splice]
      have e : (k + 1) * W = k * W + W := by rw [Nat.add_mul]; omega
      rw [e, List.take_append_of_le_length (by simp [hvl]; omega), List.take_of_length_le (by simp [hvl]; omega)]
theorem range_pairs {α : Type} {l : List (Nat × α)} (h : l.map (·.1) = List.range l.length) : l = ((l.map (·.2)).zipIdx 0).map fun p => (p.2, p.1) := by
  apply List.ext_getElem?
  intro i
  rcases Nat.lt_or_ge i l.length with hi | hi
  · have := congrArg (·[i]?) h
    simp [hi] at this
    simp [hi]
    exact Prod.ext this rfl
  · rw [List.getElem?_eq_none hi, List.getElem?_eq_none (by simpa using hi)]

theorem does_bsl (h : Sim B s a w E) {o : Oper} {t e : TypeId} {len : Nat} {parts : Array (Nat × Operand)} (ho : o.op = .buildSlice t len parts) {i : TypeInfo} {zv : Value} (hu : P.underlying t = some (.slice e)) (hi : P.info? e = some i) (hz : i.zero = some zv)
    (h1 : parts.toList.map (·.1) = List.range len ∧ len * i.size ≤ 16777216 ∧ zv.cells.size = i.size ∧ 0 < len * i.size) {z : TV} {u : Upd} (he : eff P C o.dst (.bsl i.size (parts.toList.map fun p => Arg.of p.2)) s = some (z, u)) : u = .no ∧ Does P B s z a w o := by
  obtain ⟨hr, hsmall, hzl, hpos⟩ := h1
  have hlen : parts.toList.length = len := by have := congrArg List.length hr; simpa using this
  simp only [eff] at he
  obtain ⟨es, hes, he⟩ := Option.bind_eq_some_iff.1 he
  split at he
  · rename_i hall
    cases he
    refine ⟨rfl, ?_⟩
    obtain ⟨l1, hs1⟩ := seqO_spec hes
    have l1' : parts.toList.length = es.length := by simpa using l1
    let vals : List Value := parts.toList.map fun p => a.eval p.2
    have hel : ∀ e' ∈ es, e'.length = i.size := fun e' he' => by simpa using List.all_eq_true.1 hall e' he'
    have hrel : ∀ (k : Nat) ps, es[k]? = some ps → ∃ (v : Value) (us : List Value), vals[k]? = some v ∧ v.cells = us.toArray ∧ ps.length = us.length ∧ (∀ (j : Nat) c u, ps[j]? = some c → us[j]? = some u → RelV w E.K c u ∧ one u) := by
      intro k ps hk
      have hkl : k < parts.toList.length := by rw [l1']; exact (List.getElem?_eq_some_iff.1 hk).1
      obtain ⟨y, hy1, hy2⟩ := hs1 k (Arg.of (parts.toList[k]).2) (by rw [List.getElem?_map, List.getElem?_eq_getElem hkl]; rfl)
      rw [hk] at hy1; cases hy1
      obtain ⟨t', ht1, ht2⟩ := Option.bind_eq_some_iff.1 hy2
      obtain ⟨us, hu1, hu2, hu3⟩ := pvs_rel (arg_rel h ht1) ht2
      exact ⟨a.eval (parts.toList[k]).2, us, by simp only [vals]; rw [List.getElem?_map, List.getElem?_eq_getElem hkl]; rfl, hu1, hu2, hu3⟩
    have hvl : ∀ v ∈ vals, v.cells.size = i.size := by
      intro v hv
      obtain ⟨k, hk⟩ := List.getElem?_of_mem hv
      have hkl : k < es.length := by rw [← l1']; have := (List.getElem?_eq_some_iff.1 hk).1; simpa [vals] using this
      obtain ⟨v', us, hv1, hv2, hv3, _⟩ := hrel k es[k] (List.getElem?_eq_getElem hkl)
      rw [hk] at hv1; cases hv1
      rw [hv2]; simp [← hv3, hel _ (List.getElem_mem hkl)]
    have hvlen : vals.length = len := by simp [vals]; simpa using hlen
    obtain ⟨res, hf1, hf2⟩ := fillSeq (W := i.size) vals 0 ((Array.range (len * i.size)).map (zv.cells[· % zv.cells.size]!)) hvl (by simp [hvlen])
    simp only [Nat.zero_mul, List.take_zero, List.nil_append] at hf2
    have hparts : (parts.map fun p => (p.1, a.eval p.2)).toList = (vals.zipIdx 0).map fun p => (p.2, p.1) := by
      have := range_pairs (l := (parts.map fun p => (p.1, a.eval p.2)).toList) (by simp [← hr]; rw [← Array.length_toList, hlen]; simpa [Function.comp_def] using hr)
      rw [this]
      congr 2
      simp [vals, Function.comp_def]
    have hrun := run_buildSlice (P := P) w t e len (parts.map fun p => (p.1, a.eval p.2)) res i zv hu hi hz (by omega) (by omega) (by rw [hparts]; exact hf1)
    have hb : Below w.heap.size w (w.alloc (.cells res e)) := (Below.refl _ _).alloc (Nat.le_refl _) _
    let E' : Env := { E with K := fun b o => E.K b o ∨ b = w.heap.size }
    have hk : ∀ b o u, E.K b o → w.cell? ⟨b, o, none⟩ = some u → E'.K b o ∧ (w.alloc (.cells res e)).cell? ⟨b, o, none⟩ = some u := fun b o u h1 h2 => ⟨.inl h1, (hb.cell (p := ⟨b, o, none⟩) (cell_block h2)).trans h2⟩
    refine ⟨.value (.slice (some ⟨w.heap.size, 0, none⟩) len len), _, w.alloc (.cells res e), E', ?_, .inl rfl, h.ext hb E' (fun _ _ h => .inl h) (fun b o hbo => ?_) (fun _ _ => ⟨rfl, rfl⟩) (fun _ _ _ => rfl) (fun _ _ => ⟨rfl, rfl⟩), ?_⟩
    · simp [execOp, ho, hrun, Result.andThen]
    · rcases hbo with h1 | rfl
      · exact .inl h1
      · exact .inr ⟨Nat.le_refl _, by simp⟩
    · have hesl : es.length = len := by omega
      rw [← hesl]
      have hflat : ∀ (k j : Nat) ps c, es[k]? = some ps → ps[j]? = some c → ∃ u, res[k * i.size + j]? = some u ∧ RelV w E.K c u ∧ one u := by
        intro k j ps c hk1 hk2
        obtain ⟨v, us, hv1, hv2, hv3, hv4⟩ := hrel k ps hk1
        have hj : j < us.length := by rw [← hv3]; exact (List.getElem?_eq_some_iff.1 hk2).1
        obtain ⟨a1, a2⟩ := hv4 j c us[j] hk2 (List.getElem?_eq_getElem hj)
        refine ⟨us[j], ?_, a1, a2⟩
        have hus : us.length = i.size := by rw [← hv3]; exact hel ps (List.mem_of_getElem? hk1)
        rw [← Array.getElem?_toList, hf2]
        clear hf1 hf2 hrun hparts hb hk
        have : ∀ (vals : List Value) (k : Nat) (v : Value), (∀ v ∈ vals, v.cells.size = i.size) → vals[k]? = some v → ∀ j, j < i.size → (vals.flatMap (·.cells.toList))[k * i.size + j]? = v.cells.toList[j]? := by
          intro vals
          induction vals with
          | nil => intro k v _ hk; simp at hk
          | cons x r ih =>
            intro k v hv hk j hj
            have hx := hv x (List.mem_cons_self ..)
            rw [List.flatMap_cons]
            cases k with
            | zero => simp at hk; subst hk; rw [List.getElem?_append_left (by simp [hx]; omega)]; simp
            | succ k =>
              have e : (k + 1) * i.size + j = i.size + (k * i.size + j) := by rw [Nat.add_mul]; omega
              rw [List.getElem?_append_right (by simp [hx]; omega)]
              rw [show (k + 1) * i.size + j - x.cells.toList.length = k * i.size + j by simp [hx]; omega]
              exact ih k v (fun u hu => hv u (List.mem_cons_of_mem _ hu)) (by simpa using hk) j hj
        rw [this vals k v hvl hv1 j (by omega), hv2]
        simp [hj]
      refine .pv (.sl i.size es w.heap.size 0 es.length _ (fun k j => (res[k * i.size + j]?).getD undef) (fun _ => rfl) (Nat.le_refl _) ?_ hel (fun k j ps c hk1 hk2 => ?_) (fun k j ps c hk1 hk2 => ?_))
      · have : es.length ≤ es.length * i.size := Nat.le_mul_of_pos_right _ (Nat.pos_of_ne_zero (fun h0 => by rw [h0] at hpos; simp at hpos))
        unfold maxLen; rw [hesl] at this ⊢; omega
      · obtain ⟨u, hu1, hu2, hu3⟩ := hflat k j ps c hk1 hk2
        refine ⟨.inr rfl, ?_, by simpa [hu1] using hu3⟩
        rw [Nat.zero_add, World.cell?_alloc_new, hu1]; rfl
      · obtain ⟨u, hu1, hu2, hu3⟩ := hflat k j ps c hk1 hk2
        rw [hu1]
        exact hu2.mono hk
  · cases he

theorem does_app (h : Sim B s a w E) {o : Oper} {x y : Operand} {t tx e : TypeId} (ho : o.op = .call { callee := .builtin .append, args := #[x, y], argTypes := #[t, tx] }) {i : TypeInfo} {zv : Value} (hu : P.underlying t = some (.slice e)) (hi : P.info? e = some i) (hz : i.zero = some zv)
    (hzl : zv.cells.size = i.size) (hpos : 0 < i.size) {d : Nat} {es es2 : List (List PV)} {v : Value} (hv : a.eval x = v) (hr : s.r d = some (e, i.size, es.length)) (hrel : RelT w E s.r (.own d i.size es) v)
    (hsrc : ∃ (news : List Value) (f : Nat → Nat → Value), News w E.K i.size es2 news f ∧ Src P i.size tx (a.eval y) es2.length news w) (hfit : (es.length + es2.length) * i.bytes ≤ 140737488355328) (h63 : es.length + es2.length ≤ maxLen) :
    Does P B (s.setR d (e, i.size, es.length + es2.length)) (.own d i.size (es ++ es2)) a w o := by
  obtain ⟨news, f, hn, hsrc⟩ := hsrc
  obtain ⟨v', w', E', h1, _, _, h2, h3⟩ := h.app (P := P) (ty := o.type) hr hrel hpos hu hi hz hzl rfl hn hsrc hfit h63
  refine ⟨.value v', v', w', E', ?_, .inl rfl, h2, h3⟩
  simp [execOp, ho, resolve, invoke, builtin, hv, h1, Result.andThen]
/-- An append onto nothing: as onto an own slice without elements. -/
theorem does_appN (h : Sim B s a w E) {o : Oper} {x y : Operand} {t tx e : TypeId} (ho : o.op = .call { callee := .builtin .append, args := #[x, y], argTypes := #[t, tx] }) {i : TypeInfo} {zv : Value} (hu : P.underlying t = some (.slice e)) (hi : P.info? e = some i) (hz : i.zero = some zv)
    (hzl : zv.cells.size = i.size) (hpos : 0 < i.size) {d : Nat} (hno : ¬ B.old d) (hf : Fresh s d) {es2 : List (List PV)} (hv : a.eval x = .slice none 0 0)
    (hsrc : ∃ (news : List Value) (f : Nat → Nat → Value), News w E.K i.size es2 news f ∧ Src P i.size tx (a.eval y) es2.length news w) (hfit : es2.length * i.bytes ≤ 140737488355328) (h63 : es2.length ≤ maxLen) :
    Does P B (s.setR d (e, i.size, es2.length)) (.own d i.size es2) a w o := by
  obtain ⟨E', hβ, hK, hg, hS, hm⟩ := h.adopt hno hf e i.size
  have hr : (s.setR d (e, i.size, 0)).r d = some (e, i.size, ([] : List (List PV)).length) := by simp [FS.setR, setF]
  have hrel : RelT w E' (s.setR d (e, i.size, 0)).r (.own d i.size []) (.slice none 0 0) := by
    refine .own d i.size [] _ (.sl i.size [] 0 0 0 none (fun _ _ => undef) (by simp) (by simp) (Nat.zero_le _) (by simp) (by simp) (by simp)) (fun e' W' n hn => ?_)
    rw [hr] at hn; cases hn
    exact ⟨Nat.le_refl _, fun _ => ⟨rfl, by rw [hg]; rfl⟩⟩
  have := does_app (P := P) hS ho hu hi hz hzl hpos hv hr hrel (es2 := es2) (by rw [hK]; exact hsrc) (by simpa using hfit) (by simpa using h63)
  have hset : (s.setR d (e, i.size, 0)).setR d (e, i.size, ([] : List (List PV)).length + es2.length) = s.setR d (e, i.size, es2.length) := by
    unfold FS.setR
    simp only [List.length_nil, Nat.zero_add, FS.mk.injEq, true_and, and_true]
    funext j
    by_cases hj : j = d <;> simp [setF, hj]
  rw [hset, List.nil_append] at this
  exact this
end
end Go.Sh
