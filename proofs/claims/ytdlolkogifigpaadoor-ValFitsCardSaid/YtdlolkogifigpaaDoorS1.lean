/- Sh: plain values for the values of a walk, and how they lie in memory. No statement of the program is proved here. -/
import Derived.Deep.MidRow
import Derived.Deep.AppendSrc
import Derived.Laws.AppendOwn
import Derived.Below
import Derived.Orders
import Derived.WalkKit
import Derived.Handy
set_option linter.unusedSimpArgs false
set_option linter.unusedVariables false
namespace Go.Sh
open Go Go.RowKit

/-- A plain value of one cell: a value without memory of its own; a slice that is read alone, its elements each as their cells; the address of cells that stay; a function. -/
inductive PV where
  | v (x : Value)
  | sl (W : Nat) (es : List (List PV))
  | el (cs : List PV)
  | fn (f : Fn) (first captured : List PV)
/-- A value of a walk: plain; nothing known; the address of a cell of an own variable; an own slice that may be appended to; a slice of an own variable's cells; what goes through a text; a function; a struct; what a call answers. -/
inductive TV where
  | pv (p : PV)
  | unk
  | ptr (d off : Nat)
  | own (d W : Nat) (es : List (List PV))
  | bs (d off n c : Nat)
  | it (d : Nat)
  | fn (f : Fn) (first captured : List TV)
  | agg (cs : List TV)
  | tuple (ts : List TV)

/-- What a walk knows: slots, own variables' cells, own slices (their elements' type, size, and how many there are), what goes through texts. -/
structure FS where
  t : Nat → Option TV
  b : Nat → Option (List TV)
  r : Nat → Option (Nat × Nat × Nat)
  i : Nat → Option (ByteArray × Nat)
/-- Where all that lies: the cells that stay, the own variables' blocks, the own slices' blocks and room, the texts' goers. -/
structure Env where
  K : Nat → Nat → Prop
  β : Nat → Nat
  γ : Nat → Option (Nat × Nat)
  ι : Nat → Nat

abbrev Rows := Nat → Option (Nat × Nat × Nat)
def hdr (g : Option (Nat × Nat)) (n : Nat) : Value := match g with | none => .slice none n 0 | some (b, c) => .slice (some ⟨b, 0, none⟩) n c
abbrev one (v : Value) : Prop := v.oneCell' = true

inductive RelV (w : World) (K : Nat → Nat → Prop) : PV → Value → Prop where
  | v (x : Value) : RelV w K (.v x) x
  | sl (W : Nat) (es : List (List PV)) (b off cap : Nat) (p : Option Addr) (f : Nat → Nat → Value) (hp : es ≠ [] → p = some ⟨b, off, none⟩) (hcap : es.length ≤ cap) (hmax : cap ≤ maxLen) (hW : ∀ cs ∈ es, cs.length = W)
      (hc : ∀ (i j : Nat) cs c, es[i]? = some cs → cs[j]? = some c → K b (off + i * W + j) ∧ w.cell? ⟨b, off + i * W + j, none⟩ = some (f i j) ∧ one (f i j))
      (hs : ∀ (i j : Nat) cs c, es[i]? = some cs → cs[j]? = some c → RelV w K c (f i j)) : RelV w K (.sl W es) (.slice p es.length cap)
  | el (cs : List PV) (b off : Nat) (f : Nat → Value) (hc : ∀ (j : Nat) c, cs[j]? = some c → K b (off + j) ∧ w.cell? ⟨b, off + j, none⟩ = some (f j) ∧ one (f j)) (hs : ∀ (j : Nat) c, cs[j]? = some c → RelV w K c (f j)) :
      RelV w K (.el cs) (.pointer (some ⟨b, off, none⟩))
  | fn (g : Fn) (xs ys : List PV) (us vs : List Value) (h1 : xs.length = us.length) (h2 : ys.length = vs.length) (r1 : ∀ (j : Nat) c v, xs[j]? = some c → us[j]? = some v → RelV w K c v) (r2 : ∀ (j : Nat) c v, ys[j]? = some c → vs[j]? = some v → RelV w K c v) :
      RelV w K (.fn g xs ys) (.func g us.toArray vs.toArray)

inductive RelT (w : World) (E : Env) (r : Rows) : TV → Value → Prop where
  | pv {p : PV} {v : Value} (h : RelV w E.K p v) : RelT w E r (.pv p) v
  | unk (v : Value) : RelT w E r .unk v
  | ptr (d off : Nat) : RelT w E r (.ptr d off) (.pointer (some ⟨E.β d, off, none⟩))
  | own (d W : Nat) (es : List (List PV)) (v : Value) (h : RelV w E.K (.sl W es) v) (hr : ∀ e W' n, r d = some (e, W', n) → es.length ≤ n ∧ (es.length = n → W' = W ∧ v = hdr (E.γ d) n)) : RelT w E r (.own d W es) v
  | bs (d off n c : Nat) : RelT w E r (.bs d off n c) (.slice (some ⟨E.β d, off, none⟩) n c)
  | it (d : Nat) : RelT w E r (.it d) (.pointer (some ⟨E.ι d, 0, none⟩))
  | fn (g : Fn) (xs ys : List TV) (us vs : List Value) (h1 : xs.length = us.length) (h2 : ys.length = vs.length) (r1 : ∀ (j : Nat) c v, xs[j]? = some c → us[j]? = some v → RelT w E r c v) (r2 : ∀ (j : Nat) c v, ys[j]? = some c → vs[j]? = some v → RelT w E r c v) :
      RelT w E r (.fn g xs ys) (.func g us.toArray vs.toArray)
  | agg (cs : List TV) (vs : List Value) (hl : cs.length = vs.length) (h : ∀ (j : Nat) c v, cs[j]? = some c → vs[j]? = some v → RelT w E r c v) (ho : ∀ v ∈ vs, one v) : RelT w E r (.agg cs) (.agg vs.toArray)
  | tuple (cs : List TV) (vs : List Value) (hl : cs.length = vs.length) (h : ∀ (j : Nat) c v, cs[j]? = some c → vs[j]? = some v → RelT w E r c v) : RelT w E r (.tuple cs) (.tuple vs.toArray)

/-- A walk's value speaks of the own variable or slice d. -/
inductive Ment (d : Nat) : TV → Prop where
  | ptr (off : Nat) : Ment d (.ptr d off)
  | own (W : Nat) (es : List (List PV)) : Ment d (.own d W es)
  | bs (off n c : Nat) : Ment d (.bs d off n c)
  | it : Ment d (.it d)
  | fn1 {g : Fn} {xs ys : List TV} {c : TV} (h : c ∈ xs) (hc : Ment d c) : Ment d (.fn g xs ys)
  | fn2 {g : Fn} {xs ys : List TV} {c : TV} (h : c ∈ ys) (hc : Ment d c) : Ment d (.fn g xs ys)
  | agg {cs : List TV} {c : TV} (h : c ∈ cs) (hc : Ment d c) : Ment d (.agg cs)
  | tuple {cs : List TV} {c : TV} (h : c ∈ cs) (hc : Ment d c) : Ment d (.tuple cs)
def FS.ment (s : FS) (d : Nat) : Prop := (∃ k x, s.t k = some x ∧ Ment d x) ∨ (∃ e cs c, s.b e = some cs ∧ c ∈ cs ∧ Ment d c)
def Fresh (s : FS) (d : Nat) : Prop := ¬ s.ment d ∧ s.b d = none ∧ s.r d = none ∧ s.i d = none

theorem RelV.mono {w w' : World} {K K' : Nat → Nat → Prop} {p : PV} {v : Value} (h : RelV w K p v) (hk : ∀ b o u, K b o → w.cell? ⟨b, o, none⟩ = some u → K' b o ∧ w'.cell? ⟨b, o, none⟩ = some u) : RelV w' K' p v := by
  induction h with
  | v x => exact .v x
  | sl W es b off cap p f hp hcap hmax hW hc hs ih =>
    refine .sl W es b off cap p f hp hcap hmax hW (fun i j cs c h1 h2 => ?_) ih
    obtain ⟨a1, a2, a3⟩ := hc i j cs c h1 h2
    obtain ⟨b1, b2⟩ := hk _ _ _ a1 a2
    exact ⟨b1, b2, a3⟩
  | el cs b off f hc hs ih =>
    refine .el cs b off f (fun j c h1 => ?_) ih
    obtain ⟨a1, a2, a3⟩ := hc j c h1
    obtain ⟨b1, b2⟩ := hk _ _ _ a1 a2
    exact ⟨b1, b2, a3⟩
  | fn g xs ys us vs h1 h2 r1 r2 i1 i2 => exact .fn g xs ys us vs h1 h2 i1 i2
theorem RelT.mono {w w' : World} {E E' : Env} {r r' : Rows} {x : TV} {v : Value} (h : RelT w E r x v)
    (hk : ∀ b o u, E.K b o → w.cell? ⟨b, o, none⟩ = some u → E'.K b o ∧ w'.cell? ⟨b, o, none⟩ = some u)
    (hb : ∀ d, Ment d x → E'.β d = E.β d ∧ E'.ι d = E.ι d)
    (hr : ∀ d e W n, Ment d x → r' d = some (e, W, n) → (r d = some (e, W, n) ∧ E'.γ d = E.γ d) ∨ (∃ m, r d = some (e, W, m) ∧ m < n)) : RelT w' E' r' x v := by
  induction h with
  | pv h => exact .pv (h.mono hk)
  | unk v => exact .unk v
  | ptr d off => rw [← (hb d (.ptr off)).1]; exact .ptr d off
  | own d W es v h h2 =>
    refine .own d W es v (h.mono hk) (fun e W' n hn => ?_)
    rcases hr d e W' n (.own W es) hn with ⟨h3, h4⟩ | ⟨m, h3, h4⟩
    · rw [h4]; exact h2 e W' n h3
    · have := (h2 e W' m h3).1
      exact ⟨by omega, fun he => by omega⟩
  | bs d off n c => rw [← (hb d (.bs off n c)).1]; exact .bs d off n c
  | it d => rw [← (hb d .it).2]; exact .it d
  | fn g xs ys us vs h1 h2 r1 r2 i1 i2 =>
    exact .fn g xs ys us vs h1 h2 (fun j c v h1 h2 => i1 j c v h1 h2 (fun d hd => hb d (.fn1 (List.mem_of_getElem? h1) hd)) (fun d e W n hd => hr d e W n (.fn1 (List.mem_of_getElem? h1) hd)))
      (fun j c v h1 h2 => i2 j c v h1 h2 (fun d hd => hb d (.fn2 (List.mem_of_getElem? h1) hd)) (fun d e W n hd => hr d e W n (.fn2 (List.mem_of_getElem? h1) hd)))
  | agg cs vs hl h ho ih =>
    exact .agg cs vs hl (fun j c v h1 h2 => ih j c v h1 h2 (fun d hd => hb d (.agg (List.mem_of_getElem? h1) hd)) (fun d e W n hd => hr d e W n (.agg (List.mem_of_getElem? h1) hd))) ho
  | tuple cs vs hl h ih =>
    exact .tuple cs vs hl (fun j c v h1 h2 => ih j c v h1 h2 (fun d hd => hb d (.tuple (List.mem_of_getElem? h1) hd)) (fun d e W n hd => hr d e W n (.tuple (List.mem_of_getElem? h1) hd)))

/-- What a call leaves of what was there when it began: all but the blocks X. -/
structure Low (X : Nat → Nat → Prop) (w0 w : World) : Prop where
  os : w.os = w0.os
  tape : w.tape = w0.tape
  output : w.output = w0.output
  size : w0.heap.size ≤ w.heap.size
  block : ∀ k, k < w0.heap.size → (∀ d, ¬ X d k) → w.heap[k]? = w0.heap[k]?

/-- An own variable's cells. -/
structure BoxAt (w : World) (E : Env) (r : Rows) (b : Nat) (cs : List TV) : Prop where
  lt : b < w.heap.size
  obj : ∃ c e z, w.heap[b]? = some (.cells c e z)
  fz : ∀ o, w.frozen? ⟨b, o, none⟩ = false
  cell : ∀ (j : Nat) c, cs[j]? = some c → ∃ v, w.cell? ⟨b, j, none⟩ = some v ∧ one v ∧ RelT w E r c v
  out : ∀ o, ¬ E.K b o
/-- An own slice's row. -/
structure RowAt (w : World) (E : Env) (b cap e W n : Nat) : Prop where
  cells : ∃ cur, w.heap[b]? = some (.cells cur e (0, 0)) ∧ cur.size = cap * W
  le : n ≤ cap
  max : cap ≤ maxLen
  out : ∀ o, E.K b o → o < n * W

/-- Where a walk began: the world, the cells that stay, what it may write to, how many slots there are. -/
structure Base where
  w0 : World
  K0 : Nat → Nat → Prop
  X : Nat → Nat → Prop
  N : Nat
  E0 : Env
  r0 : Rows
  m : Nat
/-- The names that were handed in. -/
def Base.old (B : Base) (d : Nat) : Prop := 1000 ≤ d ∧ d < 1000 + B.m
/-- What was handed in lies where it lay; own slices may have grown. -/
structure Pas (B : Base) (r : Rows) (E : Env) : Prop where
  β : ∀ d, B.old d → E.β d = B.E0.β d
  γ : ∀ d, B.old d → B.r0 d = none → E.γ d = B.E0.γ d
  row : ∀ d e W n, B.old d → r d = some (e, W, n) → ∃ n0, B.r0 d = some (e, W, n0) ∧ n0 ≤ n ∧ (n0 = n → E.γ d = B.E0.γ d)

/-- Own variables and slices lie in memory, apart. -/
structure MSim (B : Base) (b : Nat → Option (List TV)) (r : Rows) (w : World) (E : Env) : Prop where
  box : ∀ d cs, b d = some cs → BoxAt w E r (E.β d) cs ∧ (B.w0.heap.size ≤ E.β d ∨ B.X d (E.β d))
  row : ∀ d e W n, r d = some (e, W, n) → (E.γ d = none ∧ n = 0) ∨ ∃ k cap, E.γ d = some (k, cap) ∧ (B.w0.heap.size ≤ k ∨ B.X d k) ∧ RowAt w E k cap e W n
  bb : ∀ d d' cs cs', b d = some cs → b d' = some cs' → E.β d = E.β d' → d = d'
  br : ∀ d d' cs q k cap, b d = some cs → r d' = some q → E.γ d' = some (k, cap) → E.β d ≠ k
  rr : ∀ d d' q q' k cap cap', r d = some q → r d' = some q' → E.γ d = some (k, cap) → E.γ d' = some (k, cap') → d = d'
  lt : ∀ k o, E.K k o → k < w.heap.size
  low : Low B.X B.w0 w
  keep : ∀ k o u, B.K0 k o → B.w0.cell? ⟨k, o, none⟩ = some u → E.K k o ∧ w.cell? ⟨k, o, none⟩ = some u
  knew : ∀ k o, E.K k o → B.K0 k o ∨ B.w0.heap.size ≤ k ∨ ∃ d, B.X d k
  pas : Pas B r E
structure Sim (B : Base) (s : FS) (a : Act) (w : World) (E : Env) : Prop where
  defers : a.defers = []
  size : a.tmps.size = B.N
  tmp : ∀ k x, s.t k = some x → k < B.N ∧ RelT w E s.r x (a.tmps.getD k undef)
  mem : MSim B s.b s.r w E
  itr : ∀ d z p, s.i d = some (z, p) → w.heap[E.ι d]? = some (.stringIter z p) ∧ B.w0.heap.size ≤ E.ι d
  ii : ∀ d d' q q', s.i d = some q → s.i d' = some q' → E.ι d = E.ι d' → d = d'

theorem cell_block {w : World} {a : Addr} {v : Value} (h : w.cell? a = some v) : a.block < w.heap.size := by
  rcases Nat.lt_or_ge a.block w.heap.size with hlt | hge
  · exact hlt
  · simp [World.cell?, Array.getElem?_eq_none hge] at h

def setF {α : Type} (f : Nat → Option α) (k : Nat) (x : α) : Nat → Option α := fun j => if j = k then some x else f j
theorem setF_self {α : Type} (f : Nat → Option α) (k : Nat) (x : α) : setF f k x k = some x := by simp [setF]
theorem setF_ne {α : Type} (f : Nat → Option α) {k j : Nat} (x : α) (h : j ≠ k) : setF f k x j = f j := by simp [setF, h]
theorem setF_inv {α : Type} {f : Nat → Option α} {k j : Nat} {x y : α} (h : setF f k x j = some y) : (j = k ∧ y = x) ∨ (j ≠ k ∧ f j = some y) := by
  by_cases hj : j = k
  · subst hj; rw [setF_self] at h; exact .inl ⟨rfl, (Option.some.inj h).symm⟩
  · rw [setF_ne _ _ hj] at h; exact .inr ⟨hj, h⟩
/-- A slot is set. -/
def FS.setT (s : FS) (k : Nat) (x : TV) : FS := { s with t := setF s.t k x }
def FS.setB (s : FS) (k : Nat) (x : List TV) : FS := { s with b := setF s.b k x }
def FS.setR (s : FS) (k : Nat) (x : Nat × Nat × Nat) : FS := { s with r := setF s.r k x }
def FS.setI (s : FS) (k : Nat) (x : ByteArray × Nat) : FS := { s with i := setF s.i k x }
def FS.put (s : FS) (dst : Option Nat) (x : TV) : FS := match dst with | some k => s.setT k x | none => s

theorem Sim.setT {B : Base} {s : FS} {a : Act} {w : World} {E : Env} (h : Sim B s a w E) {k : Nat} (hk : k < B.N) {x : TV} {v : Value} (hx : RelT w E s.r x v) : Sim B (s.setT k x) (a.put (some k) v) w E := by
  refine ⟨h.defers, by simp [Act.put, h.size], fun j y hy => ?_, h.mem, h.itr, h.ii⟩
  rcases setF_inv hy with ⟨rfl, rfl⟩ | ⟨hj, hy⟩
  · refine ⟨hk, ?_⟩
    have : (a.put (some j) v).tmps.getD j undef = v := by simp [Act.put, Array.getD, h.size, hk]
    rw [this]; exact hx
  · obtain ⟨h1, h2⟩ := h.tmp j y hy
    refine ⟨h1, ?_⟩
    have : (a.put (some k) v).tmps.getD j undef = a.tmps.getD j undef := by
      simp only [Act.put, Array.getD_eq_getD_getElem?]
      rw [Array.getElem?_setIfInBounds_ne (by omega)]
    rw [this]; exact h2
theorem Sim.put {B : Base} {s : FS} {a : Act} {w : World} {E : Env} (h : Sim B s a w E) {dst : Option Nat} (hk : ∀ k, dst = some k → k < B.N) {x : TV} {v : Value} (hx : RelT w E s.r x v) : Sim B (s.put dst x) (a.put dst v) w E := by
  cases dst with
  | none => exact h
  | some k => exact h.setT (hk k rfl) hx
/-- What is known less is true still. -/
theorem Sim.less {B : Base} {s s' : FS} {a : Act} {w : World} {E : Env} (h : Sim B s a w E) (ht : ∀ k x, s'.t k = some x → s.t k = some x ∨ x = .unk ∧ ∃ y, s.t k = some y)
    (hb : ∀ d cs', s'.b d = some cs' → ∃ cs, s.b d = some cs ∧ ∀ (j : Nat) c, cs'[j]? = some c → (cs[j]? = some c ∨ c = .unk ∧ ∃ y, cs[j]? = some y)) (hr : ∀ d q, s'.r d = some q → s.r d = some q) (hi : ∀ d q, s'.i d = some q → s.i d = some q) : Sim B s' a w E := by
  have hm : ∀ {x : TV} {v : Value}, RelT w E s.r x v → RelT w E s'.r x v := fun hx => hx.mono (fun _ _ _ h1 h2 => ⟨h1, h2⟩) (fun _ _ => ⟨rfl, rfl⟩) (fun d e W n _ h1 => .inl ⟨hr d _ h1, rfl⟩)
  refine ⟨h.defers, h.size, fun k x hx => ?_, ⟨fun d cs' hd => ?_, fun d e W n hd => h.mem.row d e W n (hr d _ hd), fun d d' cs cs' h1 h2 => ?_, fun d d' cs q k cap h1 h2 => ?_, fun d d' q q' k cap cap' h1 h2 => h.mem.rr d d' q q' k cap cap' (hr d _ h1) (hr d' _ h2), h.mem.lt, h.mem.low, h.mem.keep, h.mem.knew, ⟨h.mem.pas.β, h.mem.pas.γ, fun d e W n ho hd => h.mem.pas.row d e W n ho (hr d _ hd)⟩⟩,
    fun d z p hd => h.itr d z p (hi d _ hd), fun d d' q q' h1 h2 => h.ii d d' q q' (hi d _ h1) (hi d' _ h2)⟩
  · rcases ht k x hx with h1 | ⟨rfl, y, h1⟩
    · exact ⟨(h.tmp k x h1).1, hm (h.tmp k x h1).2⟩
    · exact ⟨(h.tmp k y h1).1, .unk _⟩
  · obtain ⟨cs, h1, h2⟩ := hb d cs' hd
    obtain ⟨h3, h4⟩ := h.mem.box d cs h1
    refine ⟨⟨h3.lt, h3.obj, h3.fz, fun j c hc => ?_, h3.out⟩, h4⟩
    rcases h2 j c hc with h5 | ⟨rfl, y, h5⟩
    · obtain ⟨v, c1, c2, c3⟩ := h3.cell j c h5
      exact ⟨v, c1, c2, hm c3⟩
    · obtain ⟨v, c1, c2, c3⟩ := h3.cell j y h5
      exact ⟨v, c1, c2, .unk v⟩
  · obtain ⟨c1, e1, _⟩ := hb d cs h1
    obtain ⟨c2, e2, _⟩ := hb d' cs' h2
    exact h.mem.bb d d' c1 c2 e1 e2
  · obtain ⟨c1, e1, _⟩ := hb d cs h1
    exact h.mem.br d d' c1 q k cap e1 (hr d' _ h2)
end Go.Sh
