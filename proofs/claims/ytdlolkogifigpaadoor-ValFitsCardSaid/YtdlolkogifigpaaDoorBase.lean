/- The plain data of the given program (values, types, fields, classes) and how they lie in memory. No statement of the program is proved here. -/
import Derived.WalkKit
import Derived.WalkSpells
import Derived.WalkLawsBesides
import Derived.Handy
import Derived.Lib.Hide
import Derived.Deep.Draws
set_option linter.unusedSimpArgs false
set_option linter.unusedVariables false
namespace Go.Mor
open Go Go.RowKit

/-- A list of bytes as Go's string. -/
def str (l : List UInt8) : ByteArray := ⟨l.toArray⟩
theorem str_toList (l : List UInt8) : (str l).data.toList = l := by simp [str]
theorem str_size (l : List UInt8) : (str l).size = l.length := by simp [str, ByteArray.size]
@[go_sem, simp] theorem str_list (l : List UInt8) : (str l).toList = l := ByteArray.toList_mk l
@[go_sem, simp] theorem str_size' (l : List UInt8) : (str l).size = l.length := str_size l
@[go_sem, simp] theorem str_extract (l : List UInt8) (a b : Nat) : (str l).extract a b = str ((l.drop a).take (b - a)) := ByteArray.extract_mk l a b
@[go_sem, simp] theorem str_append (a b : List UInt8) : str a ++ str b = str (a ++ b) := ByteArray.mk_append_mk a b
@[go_sem, simp] theorem str_get (l : List UInt8) (i : Nat) (h : i < (str l).size) : (str l)[i] = l[i]'(by simpa using h) := by
  simp [str, ByteArray.getElem_eq_getElem_data]
theorem str_of (s : ByteArray) : str s.data.toList = s := by cases s; simp [str]

/-- A value: its kind, a number, a text, a list. -/
inductive V where
  | mk (k n : Int) (s : List UInt8) (l : List V)
def V.k : V → Int | .mk k _ _ _ => k
def V.n : V → Int | .mk _ n _ _ => n
def V.s : V → List UInt8 | .mk _ _ s _ => s
def V.l : V → List V | .mk _ _ _ l => l
theorem V.eta (x : V) : V.mk x.k x.n x.s x.l = x := by cases x; rfl
def V.nil : V := .mk 0 0 [] []

theorem V.size_lt {x : V} {l : List V} (h : x ∈ l) (k n : Int) (s : List UInt8) : SizeOf.sizeOf x < SizeOf.sizeOf (V.mk k n s l) := by
  have := List.sizeOf_lt_of_mem h
  simp; omega

/-- A value by value: its four cells, the fourth (a slice) given. -/
def V.val (x : V) (c : Value) : Value := .agg #[.int .i64 x.k, .int .i64 x.n, .string (str x.s), c]

/-- The slice value c reads as the list l; its memory lies in blocks that are ok. -/
inductive IsL (ok : Nat → Prop) (w : World) : List V → Value → Prop where
  | mk (l : List V) (b off cap : Nat) (p : Option Addr) (sub : Nat → Value) (hcap : l.length ≤ cap) (hmax : cap ≤ maxLen)
      (hp : l ≠ [] → p = some ⟨b, off, none⟩ ∧ ok b)
      (hc : ∀ (i : Nat) (x : V), l[i]? = some x → w.cell? ⟨b, off + i * 4, none⟩ = some (.int .i64 x.k) ∧ w.cell? ⟨b, off + i * 4 + 1, none⟩ = some (.int .i64 x.n)
        ∧ w.cell? ⟨b, off + i * 4 + 2, none⟩ = some (.string (str x.s)) ∧ w.cell? ⟨b, off + i * 4 + 3, none⟩ = some (sub i))
      (hs : ∀ (i : Nat) (x : V), l[i]? = some x → IsL ok w x.l (sub i)) : IsL ok w l (.slice p l.length cap)

theorem cell_lt {w : World} {a : Addr} {v : Value} (h : w.cell? a = some v) : a.block < w.heap.size := by
  rcases Nat.lt_or_ge a.block w.heap.size with hlt | hge
  · exact hlt
  · simp [World.cell?, Array.getElem?_eq_none hge] at h

theorem IsL.keepBy {ok : Nat → Prop} {w w' : World} {l : List V} {c : Value} (h : IsL ok w l c)
    (hk : ∀ a v, ok a.block → w.cell? a = some v → w'.cell? a = some v) : IsL ok w' l c := by
  induction h with
  | mk l b off cap p sub hcap hmax hp hc hs ih =>
    refine .mk l b off cap p sub hcap hmax hp (fun i x hx => ?_) ih
    have hb : ok b := (hp (by rintro rfl; simp at hx)).2
    obtain ⟨h0, h1, h2, h3⟩ := hc i x hx
    exact ⟨hk _ _ hb h0, hk _ _ hb h1, hk _ _ hb h2, hk _ _ hb h3⟩
theorem IsL.keep {ok : Nat → Prop} {w w' : World} {l : List V} {c : Value} (h : IsL ok w l c) (hk : ∀ b, ok b → w'.heap[b]? = w.heap[b]?) : IsL ok w' l c :=
  h.keepBy fun a _ ho hv => (World.cell?_of_block (w := w) (hk a.block ho)).trans hv
theorem IsL.ext {ok : Nat → Prop} {w w' : World} {l : List V} {c : Value} (h : IsL ok w l c) (hb : Below w.heap.size w w') : IsL ok w' l c :=
  h.keepBy fun _ _ _ hv => (hb.cell (cell_lt hv)).trans hv
theorem IsL.weaken {ok ok' : Nat → Prop} {w : World} {l : List V} {c : Value} (h : IsL ok w l c) (hk : ∀ b, ok b → ok' b) : IsL ok' w l c := by
  induction h with
  | mk l b off cap p sub hcap hmax hp hc hs ih => exact .mk l b off cap p sub hcap hmax (fun hl => ⟨(hp hl).1, hk _ (hp hl).2⟩) hc ih
theorem IsL.nil {ok : Nat → Prop} {w : World} (p : Option Addr) (cap : Nat) (h : cap ≤ maxLen) : IsL ok w [] (.slice p 0 cap) :=
  .mk [] 0 0 cap p (fun _ => .slice none 0 0) (by simp) h (by simp) (by simp) (by simp)
theorem IsL.none_ {ok : Nat → Prop} {w : World} : IsL ok w [] (.slice none 0 0) := .nil none 0 (Nat.zero_le _)
theorem IsL.drew {ok : Nat → Prop} {w : World} {l : List V} {c : Value} (h : IsL ok w l c) : IsL ok w.drew l c := h.keepBy fun _ _ _ hv => hv
theorem IsL.form {ok : Nat → Prop} {w : World} {l : List V} {c : Value} (h : IsL ok w l c) : ∃ p cap, c = .slice p l.length cap ∧ l.length ≤ cap ∧ cap ≤ maxLen := by
  cases h with
  | mk l b off cap p sub hcap hmax hp hc hs => exact ⟨p, cap, rfl, hcap, hmax⟩

/-- What a call that makes memory of its own leaves of the rest: every old cell reads as it did. -/
theorem bcell {W w1 : World} (hb : Below W.heap.size W w1) :
    (∀ b o, b < W.heap.size → w1.cell? ⟨b, o, none⟩ = W.cell? ⟨b, o, none⟩) ∧ (∀ b o, b < W.heap.size → w1.frozen? ⟨b, o, none⟩ = W.frozen? ⟨b, o, none⟩) :=
  ⟨fun b o h => hb.cell (p := ⟨b, o, none⟩) h, fun b o h => hb.frozen (p := ⟨b, o, none⟩) h⟩

/-- A function with a body is entered. -/
def Enters (P : Program) (f : FuncId) : Prop := ∀ (args : Array Value) (w : World), (callFunc f args).run P w = .ok (.enter f args) w
theorem enters_mk {P : Program} {f : FuncId} {fn : Func} {c : Code} (hf : P.funcs[f]? = some fn) (hname : (fn.name == "runtime.NumGoroutine") = false) (hb : fn.body = some c) : Enters P f := by
  intro args w
  have hn : ¬ fn.name = "runtime.NumGoroutine" := by simpa using hname
  simp [callFunc, hf, hn, hb]

/-- The first place at which p holds; -1: none. -/
def firstAt {α : Type} (p : α → Bool) (l : List α) : Int := match l.findIdx? p with | some i => i | none => -1
end Go.Mor
