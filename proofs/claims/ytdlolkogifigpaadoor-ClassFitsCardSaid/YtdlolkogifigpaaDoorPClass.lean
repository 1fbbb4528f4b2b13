/- Layer 4 in plain words: fields and classes. -/
import Derived.Test.YtdlolkogifigpaaDoorPlain
import Derived.Test.YtdlolkogifigpaaDoorPWire3
namespace Go.Mor
open Go Go.RowKit

/-- A field: its name, its type, whether it is indexed. -/
structure Fld where
  n : List UInt8
  t : Ty
  ix : Bool
/-- A class: its name, its fields. -/
structure Cls where
  n : List UInt8
  fs : List Fld

def small (b : UInt8) : Bool := decide (97 ≤ b.toNat ∧ b.toNat ≤ 122)
def nameB (b : UInt8) : Bool := small b || decide (48 ≤ b.toNat ∧ b.toNat ≤ 57) || b.toNat == 95
def rightName (s : List UInt8) : Bool := decide (1 ≤ s.length ∧ s.length ≤ 20) && small (s.headD 0) && s.all nameB
def rightField (f : Fld) : Bool := rightName f.n && rightType f.t && (!f.ix || decide (f.t.k ≤ 3))
def fieldAt (c : List Fld) (name : List UInt8) : Int := firstAt (fun f => f.n == name) c
/-- class.Field's two answers. -/
def fieldRes (c : List Fld) (name : List UInt8) : Value :=
  if fieldAt c name < 0 then .tuple #[.int .i64 0, .bool false] else .tuple #[.int .i64 (fieldAt c name), .bool true]
/-- Every name's first place is its own. -/
def onceGo (all : List Fld) : Nat → List Fld → Bool
  | _, [] => true
  | k, f :: r => rightField f && fieldAt all f.n == k && onceGo all (k + 1) r
def rightClass (c : Cls) : Bool := rightName c.n && decide (c.fs.length ≤ 8) && onceGo c.fs 0 c.fs
def eqFld (f g : Fld) : Bool := f.n == g.n && f.t.k == g.t.k && f.t.o == g.t.o && f.ix == g.ix
def eqFlds : List Fld → List Fld → Bool
  | [], [] => true
  | f :: r, g :: q => eqFld f g && eqFlds r q
  | _, _ => false
def sameClass (a b : Cls) : Bool := a.n == b.n && eqFlds a.fs b.fs
/-- The first value that does not fit. -/
def checkGo : Nat → List Fld → List V → Int × Int
  | _, [], _ => (0, 0)
  | _, _, [] => (0, 0)
  | k, f :: fs, v :: vs => if fitsV v f.t then checkGo (k + 1) fs vs else (k, 42)
def check (c : Cls) (vs : List V) : Int × Int :=
  if !rightClass c then (0, 40) else if vs.length ≠ c.fs.length then ((min vs.length c.fs.length : Nat), 42) else checkGo 0 c.fs vs

/-- The slice value c reads as the fields l; its memory lies in a block that is ok. -/
def IsF (ok : Nat → Prop) (w : World) (l : List Fld) (c : Value) : Prop :=
  ∃ (b off cap : Nat) (p : Option Addr), c = .slice p l.length cap ∧ l.length ≤ cap ∧ cap ≤ maxLen ∧ (l ≠ [] → p = some ⟨b, off, none⟩ ∧ ok b) ∧
    ∀ (i : Nat) (f : Fld), l[i]? = some f → w.cell? ⟨b, off + i * 4, none⟩ = some (.string (str f.n)) ∧ w.cell? ⟨b, off + i * 4 + 1, none⟩ = some (.int .i64 f.t.k)
      ∧ w.cell? ⟨b, off + i * 4 + 2, none⟩ = some (.int .i64 f.t.o) ∧ w.cell? ⟨b, off + i * 4 + 3, none⟩ = some (.bool f.ix)
theorem IsF.keepBy {ok : Nat → Prop} {w w' : World} {l : List Fld} {c : Value} (h : IsF ok w l c) (hk : ∀ a v, ok a.block → w.cell? a = some v → w'.cell? a = some v) : IsF ok w' l c := by
  obtain ⟨b, off, cap, p, h1, h2, h3, h4, h5⟩ := h
  refine ⟨b, off, cap, p, h1, h2, h3, h4, fun i f hf => ?_⟩
  have hb : ok b := (h4 (by rintro rfl; simp at hf)).2
  obtain ⟨q0, q1, q2, q3⟩ := h5 i f hf
  exact ⟨hk _ _ hb q0, hk _ _ hb q1, hk _ _ hb q2, hk _ _ hb q3⟩
theorem IsF.ext {ok : Nat → Prop} {w w' : World} {l : List Fld} {c : Value} (h : IsF ok w l c) (hb : Below w.heap.size w w') : IsF ok w' l c :=
  h.keepBy fun _ _ _ hv => (hb.cell (cell_lt hv)).trans hv
theorem IsF.keep {ok : Nat → Prop} {w w' : World} {l : List Fld} {c : Value} (h : IsF ok w l c) (hk : ∀ b, ok b → w'.heap[b]? = w.heap[b]?) : IsF ok w' l c :=
  h.keepBy fun a _ ho hv => (World.cell?_of_block (w := w) (hk a.block ho)).trans hv
theorem IsF.weaken {ok ok' : Nat → Prop} {w : World} {l : List Fld} {c : Value} (h : IsF ok w l c) (hk : ∀ b, ok b → ok' b) : IsF ok' w l c := by
  obtain ⟨b, off, cap, p, h1, h2, h3, h4, h5⟩ := h
  exact ⟨b, off, cap, p, h1, h2, h3, fun hl => ⟨(h4 hl).1, hk _ (h4 hl).2⟩, h5⟩
theorem IsF.form {ok : Nat → Prop} {w : World} {l : List Fld} {c : Value} (h : IsF ok w l c) : ∃ p cap, c = .slice p l.length cap ∧ l.length ≤ cap ∧ cap ≤ maxLen := by
  obtain ⟨b, off, cap, p, h1, h2, h3, h4, h5⟩ := h
  exact ⟨p, cap, h1, h2, h3⟩
theorem IsF.none_ {ok : Nat → Prop} {w : World} : IsF ok w [] (.slice none 0 0) := ⟨0, 0, 0, none, rfl, by simp, Nat.zero_le _, by simp, by simp⟩
end Go.Mor
