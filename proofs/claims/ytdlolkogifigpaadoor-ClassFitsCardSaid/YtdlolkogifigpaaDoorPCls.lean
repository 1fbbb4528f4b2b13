/- Chapter 4's made classes in plain words: they are right; what makes them wrong. -/
import Derived.Test.YtdlolkogifigpaaDoorPClass
namespace Go.Mor
open Go Go.RowKit
set_option maxHeartbeats 1000000

def pick (c n : Int) : Int := (if c < 0 then -(c + 1) else c) % n
theorem pick_bound (c n : Int) (hn : 0 < n) : 0 ≤ pick c n ∧ pick c n < n := ⟨Int.emod_nonneg _ (by omega), Int.emod_lt_of_pos _ hn⟩
/-- Raw numbers of a field, of a class. -/
structure RawF where
  n : Int
  k : Int
  o : Int
  ix : Bool
structure Raw where
  n : Int
  fs : List RawF
def nmF (i : Int) : List UInt8 := ([[97], [98, 50], [110, 97, 109, 101], [110, 101, 120, 116, 95, 111, 110, 101], [107, 105, 100, 115], [120]] : List (List UInt8)).getD i.toNat []
def nmC (i : Int) : List UInt8 := ([[110, 111, 100, 101], [105, 116, 101, 109], [117, 115, 101, 114], [112, 97, 103, 101, 95, 49], [108, 101, 97, 102], [113]] : List (List UInt8)).getD i.toNat []
def fieldOf (r : RawF) : Fld := ⟨nmF (pick r.n 6), ⟨1 + pick r.k 5, if pick r.k 5 = 4 then 1 + pick r.o 4 else 0⟩, r.ix && decide (1 + pick r.k 5 ≤ 3)⟩
def addF (acc : List Fld) (r : RawF) : List Fld := if fieldAt acc (fieldOf r).n < 0 then acc ++ [fieldOf r] else acc
def classOf (x : Raw) : Cls := ⟨nmC (pick x.n 6), (x.fs.take 6).foldl addF []⟩



theorem firstAt_eq {α : Type} (p : α → Bool) (l : List α) (k : Nat) (x : α) (hx : l[k]? = some x) (hp : p x = true) (h : ∀ (i : Nat) y, i < k → l[i]? = some y → p y = false) : firstAt p l = k := by
  have : l.findIdx? p = some k := by
    rw [List.findIdx?_eq_some_iff_getElem]
    obtain ⟨hk, rfl⟩ := List.getElem?_eq_some_iff.1 hx
    refine ⟨hk, hp, fun j hj => ?_⟩
    have := h j _ hj (List.getElem?_eq_getElem (by omega))
    simp [this]
  simp [firstAt, this]
theorem firstAt_at {α : Type} (p : α → Bool) (l : List α) (k : Nat) (h : firstAt p l = k) : ∃ x, l[k]? = some x ∧ p x = true := by
  unfold firstAt at h
  cases hf : l.findIdx? p with
  | none => rw [hf] at h; simp at h
  | some i =>
    rw [hf] at h
    obtain rfl : i = k := by simp at h; omega
    rw [List.findIdx?_eq_some_iff_getElem] at hf
    obtain ⟨hi, hp, _⟩ := hf
    exact ⟨_, List.getElem?_eq_getElem hi, hp⟩
theorem firstAt_neg {α : Type} (p : α → Bool) (l : List α) : firstAt p l < 0 ↔ ∀ x ∈ l, p x = false := by
  unfold firstAt
  cases hf : l.findIdx? p with
  | none => rw [List.findIdx?_eq_none_iff] at hf; simp; exact hf
  | some i =>
    rw [List.findIdx?_eq_some_iff_getElem] at hf
    obtain ⟨hi, hp, _⟩ := hf
    constructor
    · intro h; exfalso; simp at h; omega
    · intro h; have := h _ (List.getElem_mem hi); rw [hp] at this; cases this

/-- No name stands twice. -/
def Dist (l : List Fld) : Prop := ∀ (i j : Nat) (f g : Fld), l[i]? = some f → l[j]? = some g → f.n = g.n → i = j
theorem onceGo_iff (all : List Fld) : ∀ (r : List Fld) (k : Nat), onceGo all k r = true ↔ ∀ (i : Nat) f, r[i]? = some f → rightField f = true ∧ fieldAt all f.n = ((k + i : Nat) : Int) := by
  intro r
  induction r with
  | nil => intro k; simp [onceGo]
  | cons g r ih =>
    intro k
    rw [onceGo, Bool.and_eq_true, Bool.and_eq_true, ih (k + 1)]
    constructor
    · rintro ⟨⟨h1, h2⟩, h3⟩ i f hf
      cases i with
      | zero => simp at hf; subst hf; exact ⟨h1, by simpa using h2⟩
      | succ i => have := h3 i f (by simpa using hf); refine ⟨this.1, this.2.trans ?_⟩; congr 1; omega
    · intro h
      have h0 := h 0 g (by simp)
      refine ⟨⟨h0.1, by simpa using h0.2⟩, fun i f hf => ?_⟩
      have := h (i + 1) f (by simpa using hf)
      refine ⟨this.1, this.2.trans ?_⟩; congr 1; omega
theorem dist_at {l : List Fld} (h : Dist l) {i : Nat} {f : Fld} (hf : l[i]? = some f) : fieldAt l f.n = i := by
  refine firstAt_eq _ l i f hf (by simp) fun j y hj hy => ?_
  rw [beq_eq_false_iff_ne]
  intro he
  have := h j i y f hy hf he
  omega
theorem right_iff (c : Cls) : rightClass c = true ↔ rightName c.n = true ∧ c.fs.length ≤ 8 ∧ (∀ f ∈ c.fs, rightField f = true) ∧ Dist c.fs := by
  rw [rightClass, Bool.and_eq_true, Bool.and_eq_true, onceGo_iff, decide_eq_true_iff]
  constructor
  · rintro ⟨⟨h1, h2⟩, h3⟩
    refine ⟨h1, h2, fun f hf => ?_, fun i j f g hi hj he => ?_⟩
    · obtain ⟨i, hi⟩ := List.getElem?_of_mem hf
      exact (h3 i f hi).1
    · have a := (h3 i f hi).2
      have b := (h3 j g hj).2
      rw [he] at a
      have := a.symm.trans b
      simp at this; omega
  · rintro ⟨h1, h2, h3, h4⟩
    exact ⟨⟨h1, h2⟩, fun i f hf => ⟨h3 f (List.mem_of_getElem? hf), by rw [dist_at h4 hf]; simp⟩⟩

theorem nmF_right (j : Int) (h0 : 0 ≤ j) (h1 : j < 6) : rightName (nmF j) = true ∧ (nmF j).length ≤ 8 := by
  have : j = 0 ∨ j = 1 ∨ j = 2 ∨ j = 3 ∨ j = 4 ∨ j = 5 := by omega
  rcases this with rfl | rfl | rfl | rfl | rfl | rfl <;> decide
theorem nmC_right (j : Int) (h0 : 0 ≤ j) (h1 : j < 6) : rightName (nmC j) = true ∧ (nmC j).length ≤ 8 := by
  have : j = 0 ∨ j = 1 ∨ j = 2 ∨ j = 3 ∨ j = 4 ∨ j = 5 := by omega
  rcases this with rfl | rfl | rfl | rfl | rfl | rfl <;> decide
theorem fieldOf_right (r : RawF) : rightField (fieldOf r) = true ∧ (fieldOf r).n.length ≤ 8 := by
  have h1 := pick_bound r.n 6 (by omega)
  have h2 := pick_bound r.k 5 (by omega)
  have h3 := pick_bound r.o 4 (by omega)
  have h4 := nmF_right _ h1.1 h1.2
  refine ⟨?_, h4.2⟩
  simp only [rightField, fieldOf, h4.1, Bool.true_and, Bool.and_eq_true]
  obtain ⟨q, hq⟩ : ∃ q, pick r.k 5 = q := ⟨_, rfl⟩
  obtain ⟨p, hp⟩ : ∃ p, pick r.o 4 = p := ⟨_, rfl⟩
  simp only [hq, hp] at *
  refine ⟨?_, ?_⟩
  · unfold rightType
    by_cases hq : q = 4
    · subst hq; simp; omega
    · rw [if_neg (by simp; omega)]; simp [hq]; omega
  · cases r.ix <;> simp
theorem dist_snoc {l : List Fld} {f : Fld} (h : Dist l) (hn : fieldAt l f.n < 0) : Dist (l ++ [f]) := by
  have hno := (firstAt_neg _ _).1 hn
  have key : ∀ (i : Nat) (g : Fld), l[i]? = some g → g.n ≠ f.n := fun i g hg he => by
    have := hno g (List.mem_of_getElem? hg); simp [he] at this
  intro i j a b ha hb he
  rw [List.getElem?_append] at ha hb
  split at ha <;> split at hb
  · exact h i j a b ha hb he
  · have hb' : b = f := by
      rw [List.getElem?_singleton] at hb; split at hb <;> simp_all
    subst hb'; exact absurd he (key i a ha)
  · have ha' : a = f := by
      rw [List.getElem?_singleton] at ha; split at ha <;> simp_all
    subst ha'; exact absurd he.symm (key j b hb)
  · rw [List.getElem?_singleton] at ha hb
    split at ha <;> split at hb <;> simp_all
    omega
theorem fold_good : ∀ (rs : List RawF) (acc : List Fld), (∀ f ∈ acc, rightField f = true ∧ f.n.length ≤ 8) → Dist acc →
    (∀ f ∈ rs.foldl addF acc, rightField f = true ∧ f.n.length ≤ 8) ∧ Dist (rs.foldl addF acc) ∧ (rs.foldl addF acc).length ≤ acc.length + rs.length := by
  intro rs
  induction rs with
  | nil => intro acc h1 h2; exact ⟨h1, h2, by simp⟩
  | cons r rs ih =>
    intro acc h1 h2
    rw [List.foldl_cons]
    by_cases hn : fieldAt acc (fieldOf r).n < 0
    · have : addF acc r = acc ++ [fieldOf r] := by rw [addF, if_pos hn]
      rw [this]
      have := ih (acc ++ [fieldOf r]) (fun f hf => by
        rcases List.mem_append.1 hf with hf | hf
        · exact h1 f hf
        · obtain rfl := List.mem_singleton.1 hf; exact fieldOf_right r) (dist_snoc h2 hn)
      refine ⟨this.1, this.2.1, ?_⟩
      have := this.2.2
      simp at this ⊢; omega
    · have : addF acc r = acc := by rw [addF, if_neg hn]
      rw [this]
      have := ih acc h1 h2
      refine ⟨this.1, this.2.1, ?_⟩
      have := this.2.2
      simp at this ⊢; omega
structure GoodC (c : Cls) : Prop where
  nm : rightName c.n = true ∧ c.n.length ≤ 8
  fs : ∀ f ∈ c.fs, rightField f = true ∧ f.n.length ≤ 8
  di : Dist c.fs
  len : c.fs.length ≤ 6
theorem classOf_good (x : Raw) : GoodC (classOf x) := by
  have h := fold_good (x.fs.take 6) [] (by simp) (by intro i j f g h; simp at h)
  have hb := pick_bound x.n 6 (by omega)
  exact ⟨nmC_right _ hb.1 hb.2, h.1, h.2.1, by have := h.2.2; simp only [classOf]; simp at this ⊢; omega⟩
theorem GoodC.right {c : Cls} (h : GoodC c) : rightClass c = true := (right_iff c).2 ⟨h.nm.1, by have := h.len; omega, fun f hf => (h.fs f hf).1, h.di⟩

theorem rightName_snoc (n : List UInt8) (b : UInt8) (h : rightName n = true) (hl : n.length ≤ 8) : rightName (n ++ [b]) = nameB b := by
  unfold rightName at *
  simp only [Bool.and_eq_true, decide_eq_true_iff] at h
  obtain ⟨⟨⟨h1, h2⟩, h3⟩, h4⟩ := h
  cases n with
  | nil => simp at h1
  | cons a r =>
    simp only [List.cons_append, List.headD_cons] at *
    simp only [List.all_cons, Bool.and_eq_true] at h4
    have : (decide (1 ≤ (a :: (r ++ [b])).length ∧ (a :: (r ++ [b])).length ≤ 20)) = true := by simp at *; omega
    rw [this, h3]
    simp [h4.1, h4.2]
theorem set_get {l : List Fld} {k : Nat} {f g : Fld} (hk : l[k]? = some f) (i : Nat) : (l.set k g)[i]? = if i = k then some g else l[i]? := by
  have := (List.getElem?_eq_some_iff.1 hk).1
  rw [List.getElem?_set]
  by_cases h : k = i
  · subst h; simp [this]
  · simp [h, Ne.symm h]
theorem dist_set {l : List Fld} {k : Nat} {f g : Fld} (h : Dist l) (hk : l[k]? = some f) (hg : ∀ (i : Nat) y, i ≠ k → l[i]? = some y → y.n ≠ g.n) : Dist (l.set k g) := by
  intro i j a b ha hb he
  rw [set_get hk] at ha hb
  split at ha <;> split at hb
  · omega
  · injection ha with ha; subst ha; exact absurd he.symm (hg j b ‹_› hb)
  · injection hb with hb; subst hb; exact absurd he (hg i a ‹_› ha)
  · exact h i j a b ha hb he
theorem once_twice (c : Cls) (h : GoodC c) {k : Nat} {f : Fld} (hk : c.fs[k]? = some f) (t : Ty) (ix : Bool) : rightClass ⟨c.n, c.fs ++ [⟨f.n, t, ix⟩]⟩ = false := by
  rw [Bool.eq_false_iff]
  intro hr
  have := ((right_iff _).1 hr).2.2.2
  have hlt := (List.getElem?_eq_some_iff.1 hk).1
  have := this k c.fs.length f ⟨f.n, t, ix⟩ (by rw [List.getElem?_append_left hlt]; exact hk) (by simp) rfl
  omega
theorem mem_set' {l : List Fld} {k : Nat} {g y : Fld} (h : y ∈ l.set k g) : y = g ∨ y ∈ l := by
  rcases List.mem_or_eq_of_mem_set h with h | h
  · exact .inr h
  · exact .inl h
theorem set_mem {l : List Fld} {k : Nat} {f : Fld} (hk : l[k]? = some f) (g : Fld) : g ∈ l.set k g := by
  apply List.mem_of_getElem? (i := k)
  rw [set_get hk]; simp
theorem once_odd (c : Cls) (h : GoodC c) {k : Nat} {f : Fld} (hk : c.fs[k]? = some f) (b : UInt8) :
    rightClass ⟨c.n, c.fs.set k ⟨f.n ++ [b], f.t, f.ix⟩⟩ = (nameB b && !decide (0 ≤ fieldAt c.fs (f.n ++ [b]))) := by
  have hf := h.fs f (List.mem_of_getElem? hk)
  have hrn : rightField ⟨f.n ++ [b], f.t, f.ix⟩ = nameB b := by
    have h1 := hf.1
    simp only [rightField, Bool.and_eq_true] at h1 ⊢
    rw [rightName_snoc f.n b h1.1.1 hf.2, h1.1.2, h1.2]; simp
  rw [Bool.eq_iff_iff, right_iff, Bool.and_eq_true, Bool.not_eq_true', decide_eq_false_iff_not]
  constructor
  · rintro ⟨_, _, h3, h4⟩
    have hm := h3 _ (set_mem hk _)
    rw [hrn] at hm
    refine ⟨hm, ?_⟩
    intro hge
    obtain ⟨j, hj⟩ : ∃ j : Nat, fieldAt c.fs (f.n ++ [b]) = j := ⟨(fieldAt c.fs (f.n ++ [b])).toNat, by omega⟩
    obtain ⟨y, hy, hyn⟩ := firstAt_at _ _ _ hj
    have hyn : y.n = f.n ++ [b] := by simpa using hyn
    by_cases hjk : j = k
    · subst hjk
      have : y = f := by rw [hk] at hy; injection hy with hy; exact hy.symm
      subst this
      have := congrArg List.length hyn
      simp at this
    · have := h4 j k y ⟨f.n ++ [b], f.t, f.ix⟩ (by rw [set_get hk, if_neg hjk]; exact hy) (by rw [set_get hk]; simp) hyn
      exact hjk this
  · rintro ⟨h1, h2⟩
    have hno := (firstAt_neg _ _).1 (show fieldAt c.fs (f.n ++ [b]) < 0 by omega)
    refine ⟨h.nm.1, by have := h.len; simp; omega, fun y hy => ?_, dist_set h.di hk fun i y hi hy he => ?_⟩
    · rcases mem_set' hy with rfl | hy
      · rw [hrn]; exact h1
      · exact (h.fs y hy).1
    · have := hno y (List.mem_of_getElem? hy)
      simp [he] at this
theorem once_wide (c : Cls) {k : Nat} {f : Fld} (hk : c.fs[k]? = some f) : rightClass ⟨c.n, c.fs.set k ⟨f.n, ⟨5, 1⟩, true⟩⟩ = false := by
  rw [Bool.eq_false_iff]
  intro hr
  have := ((right_iff _).1 hr).2.2.1 _ (set_mem hk _)
  simp [rightField] at this
theorem once_flat (c : Cls) (h : GoodC c) {k : Nat} {f : Fld} (hk : c.fs[k]? = some f) : rightClass ⟨c.n, c.fs.set k ⟨f.n, ⟨5, 1⟩, false⟩⟩ = true := by
  have hf := h.fs f (List.mem_of_getElem? hk)
  refine (right_iff _).2 ⟨h.nm.1, by have := h.len; simp; omega, fun y hy => ?_, dist_set h.di hk fun i y hi hy he => ?_⟩
  · rcases mem_set' hy with rfl | hy
    · have h1 := hf.1
      simp only [rightField, Bool.and_eq_true] at h1
      simp [rightField, h1.1.1, rightType]
    · exact (h.fs y hy).1
  · exact hi (h.di i k y f hy hk he)
theorem once_field (c : Cls) (h : GoodC c) {k : Nat} {f : Fld} (hk : c.fs[k]? = some f) : fieldRes c.fs f.n = .tuple #[.int .i64 k, .bool true] := by
  have := dist_at h.di hk
  rw [fieldRes, if_neg (by omega), this]
end Go.Mor
