/- Classes as bytes in plain words: what is laid is read back; what is cut off is none. -/
import Derived.Test.YtdlolkogifigpaaDoorClass9
import Derived.Test.YtdlolkogifigpaaDoorPRead
import Derived.Test.YtdlolkogifigpaaDoorPCls
namespace Go.Proofs.YtdlolkogifigpaaDoor
open Go Go.RowKit Go.Mor
set_option maxHeartbeats 1000000

def fieldO : Rd Fld := Rd.bind readText fun nm => Rd.bind readNum fun k => Rd.bind readNum fun o => Rd.bind readNum fun i => if (i == 0 || i == 1) = true then Rd.ret ⟨nm, ⟨k, o⟩, i == 1⟩ else Rd.fail
def fieldsO : Nat → Rd (List Fld)
  | 0 => Rd.ret []
  | m + 1 => Rd.bind fieldO fun f => Rd.bind (fieldsO m) fun fs => Rd.ret (f :: fs)
def classO : Rd Cls := Rd.bind readText fun nm => Rd.bind readNum fun n => if (decide (0 ≤ n ∧ n ≤ 8)) = true then Rd.bind (fieldsO n.toNat) fun fs => if rightClass ⟨nm, fs⟩ = true then Rd.ret ⟨nm, fs⟩ else Rd.fail else Rd.fail

theorem fstep_bad (s : List UInt8) (a : Int) : (fstep s a true).bad = true := rfl
theorem fieldsGo_bad (s : List UInt8) : ∀ (m : Nat) (a : Int) (acc : List Fld), fieldsGo s m a true acc = none ∨ ∃ fs b, fieldsGo s m a true acc = some (fs, b, true) := by
  intro m
  induction m with
  | zero => intro a acc; exact .inr ⟨acc, a, rfl⟩
  | succ m ih =>
    intro a acc
    rw [fieldsGo]
    split
    · rw [fstep_bad]; exact ih _ _
    · exact .inl rfl
theorem decFin_bad (nm : List UInt8) (s : List UInt8) (m : Nat) (a : Int) (acc : List Fld) : decFin nm (fieldsGo s m a true acc) = none := by
  rcases fieldsGo_bad s m a acc with h | ⟨fs, b, h⟩ <;> rw [h] <;> simp [decFin]
/-- What the program's field reader tells, and the plain one. -/
theorem fstep_eq (s : List UInt8) (a : Int) : (fieldO s a = none ∧ ((fstep s a false).ok = false ∨ (fstep s a false).bad = true)) ∨ (∃ f b, fieldO s a = some (f, b) ∧ fstep s a false = ⟨f, true, b, false⟩) := by
  unfold fieldO fstep
  simp only [rtext, Rd.bind]
  cases h1 : readText s a with
  | none => left; refine ⟨rfl, .inr rfl⟩
  | some p =>
    obtain ⟨nm, b1⟩ := p
    simp only [rnum]
    cases h2 : readNum s b1 with
    | none => left; exact ⟨rfl, .inr rfl⟩
    | some p =>
      obtain ⟨k, b2⟩ := p
      simp only
      cases h3 : readNum s b2 with
      | none => left; exact ⟨rfl, .inr rfl⟩
      | some p =>
        obtain ⟨o, b3⟩ := p
        simp only
        cases h4 : readNum s b3 with
        | none => left; exact ⟨rfl, .inr rfl⟩
        | some p =>
          obtain ⟨i, b4⟩ := p
          simp only
          cases hi : (i == 0 || i == 1)
          · left; exact ⟨by simp [Rd.fail], .inl rfl⟩
          · right; exact ⟨_, _, by simp only [if_true, Rd.ret], rfl⟩
theorem fieldsGo_eq (s : List UInt8) (nm : List UInt8) : ∀ (m : Nat) (a : Int) (acc : List Fld),
    decFin nm (fieldsGo s m a false acc) = match fieldsO m s a with | none => none | some (fs, b) => if rightClass ⟨nm, acc ++ fs⟩ = true then some (⟨nm, acc ++ fs⟩, b) else none := by
  intro m
  induction m with
  | zero => intro a acc; simp only [fieldsGo, fieldsO, Rd.ret, decFin, List.append_nil, Bool.false_or]; cases rightClass ⟨nm, acc⟩ <;> rfl
  | succ m ih =>
    intro a acc
    rw [fieldsGo, fieldsO]
    rcases fstep_eq s a with ⟨h1, h2⟩ | ⟨f, b, h1, h2⟩
    · simp only [Rd.bind, h1]
      split
      · rename_i hok
        rcases h2 with h2 | h2
        · rw [h2] at hok; cases hok
        · rw [h2]; exact decFin_bad _ _ _ _ _
      · rfl
    · simp only [Rd.bind, h1, h2, if_true]
      rw [ih]
      cases hf : fieldsO m s b with
      | none => rfl
      | some p => obtain ⟨fs, c⟩ := p; simp [Rd.ret]
theorem rtext_none {s : List UInt8} {a : Int} (h : readText s a = none) : rtext s a false = ([], a, true) := by simp only [rtext, h]
theorem rtext_some {s t : List UInt8} {a b : Int} (h : readText s a = some (t, b)) : rtext s a false = (t, b, false) := by simp only [rtext, h]
theorem rnum_none {s : List UInt8} {a : Int} (h : readNum s a = none) : rnum s a false = (0, a, true) := by simp only [rnum, h]
theorem rnum_some {s : List UInt8} {a b n : Int} (h : readNum s a = some (n, b)) : rnum s a false = (n, b, false) := by simp only [rnum, h]
theorem rnum_bad (s : List UInt8) (a : Int) : rnum s a true = (0, a, true) := rfl
theorem decode_eq (s : List UInt8) (a : Int) : decode s a = classO s a := by
  cases h1 : readText s a with
  | none =>
    have e : classO s a = none := by simp only [classO, Rd.bind, h1]
    rw [e]
    simp only [decode, rtext_none h1, rnum_bad]
    rw [if_neg (by omega)]; exact decFin_bad _ _ _ _ _
  | some p =>
    obtain ⟨nm, b1⟩ := p
    cases h2 : readNum s b1 with
    | none =>
      have e : classO s a = none := by simp only [classO, Rd.bind, h1, h2]
      rw [e]
      simp only [decode, rtext_some h1, rnum_none h2]
      rw [if_neg (by omega)]; exact decFin_bad _ _ _ _ _
    | some p =>
      obtain ⟨n, b2⟩ := p
      simp only [decode, rtext_some h1, rnum_some h2, classO, Rd.bind, h1, h2]
      by_cases hn : n < 0 ∨ 8 < n
      · rw [if_pos hn, if_neg (by simp; omega)]; rfl
      · rw [if_neg hn, if_pos (by simp; omega), fieldsGo_eq]
        simp only [List.nil_append, Rd.bind]
        cases fieldsO n.toNat s b2 with
        | none => rfl
        | some p => obtain ⟨fs, c⟩ := p; simp only; split <;> rfl
theorem encF_enc (f : Fld) (h : f.n.length ≤ 10000) (h1 : -9223372036854775808 ≤ f.t.k ∧ f.t.k ≤ 9223372036854775807) (h2 : -9223372036854775808 ≤ f.t.o ∧ f.t.o ≤ 9223372036854775807) : Enc fieldO (encF f) f := by
  obtain ⟨n, ⟨k, o⟩, ix⟩ := f
  have e : encF ⟨n, ⟨k, o⟩, ix⟩ = text n ++ (num k ++ (num o ++ (num (if ix then 1 else 0) ++ []))) := by simp [encF]
  rw [e]
  refine (enc_text n h).bind ((enc_num k h1.1 h1.2).bind ((enc_num o h2.1 h2.2).bind (Enc.bind (v1 := if ix then 1 else 0) (enc_num _ (by split <;> omega) (by split <;> omega)) ?_)))
  cases ix
  · exact Enc.ret _
  · exact Enc.ret _
theorem encFs_enc : ∀ (l : List Fld), (∀ f ∈ l, f.n.length ≤ 10000 ∧ (-9223372036854775808 ≤ f.t.k ∧ f.t.k ≤ 9223372036854775807) ∧ (-9223372036854775808 ≤ f.t.o ∧ f.t.o ≤ 9223372036854775807)) → Enc (fieldsO l.length) (encFs l) l := by
  intro l
  induction l with
  | nil => intro _; exact Enc.ret _
  | cons f r ih =>
    intro h
    have hf := h f (by simp)
    have e : encFs (f :: r) = encF f ++ (encFs r ++ []) := by simp [encFs]
    rw [e]
    exact (encF_enc f hf.1 hf.2.1 hf.2.2).bind ((ih fun g hg => h g (by simp [hg])).bind (Enc.ret _))
theorem rightField_small {f : Fld} (h : rightField f = true) : f.n.length ≤ 20 ∧ (1 ≤ f.t.k ∧ f.t.k ≤ 5) ∧ (0 ≤ f.t.o ∧ f.t.o ≤ 4) := by
  simp only [rightField, rightName, rightType, Bool.and_eq_true, decide_eq_true_iff] at h
  obtain ⟨⟨⟨⟨h1, _⟩, _⟩, h2⟩, _⟩ := h
  split at h2 <;> simp at h2 <;> omega
theorem encode_enc (c : Cls) (h : rightClass c = true) : Enc classO (encode c) c := by
  obtain ⟨h1, h2, h3, h4⟩ := (right_iff c).1 h
  obtain ⟨n, fs⟩ := c
  have hn : n.length ≤ 20 := by
    simp only [rightName, Bool.and_eq_true, decide_eq_true_iff] at h1; omega
  have e : encode ⟨n, fs⟩ = text n ++ (num fs.length ++ (encFs fs ++ [])) := by simp [encode]
  rw [e]
  refine (enc_text n (by omega)).bind ((enc_num fs.length (by omega) (by simp at h2; omega)).bind ?_)
  rw [if_pos (by simp at h2 ⊢; omega)]
  rw [show ((fs.length : Int)).toNat = fs.length by omega]
  refine (encFs_enc fs fun f hf => ?_).bind ?_
  · have := rightField_small (h3 f hf); omega
  · rw [if_pos h]; exact Enc.ret _
theorem cuts_fieldO : Cuts fieldO := cuts_text.bind fun _ => cuts_num.bind fun _ => cuts_num.bind fun _ => cuts_num.bind fun _ => Cuts.ite (Cuts.ret _) Cuts.fail
theorem cuts_fieldsO : ∀ m, Cuts (fieldsO m)
  | 0 => Cuts.ret _
  | m + 1 => cuts_fieldO.bind fun _ => (cuts_fieldsO m).bind fun _ => Cuts.ret _
theorem cuts_classO : Cuts classO := cuts_text.bind fun _ => cuts_num.bind fun _ => Cuts.ite ((cuts_fieldsO _).bind fun _ => Cuts.ite (Cuts.ret _) Cuts.fail) Cuts.fail
/-- The three laws of ClassBack. -/
theorem back_read (c : Cls) (h : rightClass c = true) (pre post : List UInt8) : decode (pre ++ encode c ++ post) pre.length = some (c, ((pre.length + (encode c).length : Nat) : Int)) := by
  rw [decode_eq]; exact encode_enc c h pre post
theorem back_cut (c : Cls) (h : rightClass c = true) (k : Nat) (hk : k < (encode c).length) : decode ((encode c).take k) 0 = none := by
  rw [decode_eq]; exact (encode_enc c h).cut cuts_classO k hk
theorem eqFld_iff (f g : Fld) : eqFld f g = true ↔ f = g := by
  obtain ⟨n, ⟨k, o⟩, ix⟩ := f
  obtain ⟨n', ⟨k', o'⟩, ix'⟩ := g
  simp [eqFld]; grind
theorem eqFlds_iff : ∀ (l m : List Fld), eqFlds l m = true ↔ l = m := by
  intro l
  induction l with
  | nil => intro m; cases m <;> simp [eqFlds]
  | cons f r ih =>
    intro m
    cases m with
    | nil => simp [eqFlds]
    | cons g q => simp [eqFlds, eqFld_iff, ih]
theorem same_iff (a b : Cls) : sameClass a b = true ↔ a = b := by
  obtain ⟨n, fs⟩ := a
  obtain ⟨n', fs'⟩ := b
  simp [sameClass, eqFlds_iff]
theorem back_same (a b : Cls) (ha : rightClass a = true) (hb : rightClass b = true) : (encode a == encode b) = sameClass a b := by
  rw [Bool.eq_iff_iff, same_iff, beq_iff_eq]
  constructor
  · intro h
    exact (encode_enc a ha).begins (encode_enc b hb) (by rw [h]; exact List.prefix_refl _)
  · rintro rfl; rfl
theorem encode_pos (c : Cls) : 0 < (encode c).length := by
  have := num_pos c.n.length
  simp [encode, text]; omega
theorem encode_le (c : Cls) (h : rightClass c = true) : (encode c).length ≤ 1000 := by
  obtain ⟨h1, h2, h3, h4⟩ := (right_iff c).1 h
  obtain ⟨n, fs⟩ := c
  have hn : n.length ≤ 20 := by
    simp only [rightName, Bool.and_eq_true, decide_eq_true_iff] at h1; omega
  have key : ∀ l : List Fld, (∀ f ∈ l, rightField f = true) → (encFs l).length ≤ l.length * 60 := by
    intro l
    induction l with
    | nil => intro _; simp [encFs]
    | cons f r ih =>
      intro hl
      have := ih fun g hg => hl g (by simp [hg])
      have hf := rightField_small (hl f (by simp))
      have a1 := num_length f.n.length; have a2 := num_length f.t.k; have a3 := num_length f.t.o; have a4 := num_length (if f.ix then 1 else 0)
      have e : encFs (f :: r) = encF f ++ encFs r := by simp [encFs]
      rw [e]
      simp only [List.length_append, List.length_cons, encF, text]
      omega
  have := key fs h3
  have a1 := num_length n.length; have a2 := num_length fs.length
  simp only [encode, text, List.length_append]
  dsimp only at *
  omega
end Go.Proofs.YtdlolkogifigpaaDoor
