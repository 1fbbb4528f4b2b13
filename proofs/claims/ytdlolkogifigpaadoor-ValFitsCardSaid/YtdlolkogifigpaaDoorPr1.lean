/- Calls of layer 1 and of the library that are known, as Sh has them. No statement of the program is proved here. -/
import Derived.Test.YtdlolkogifigpaaDoorS16
import Derived.Test.YtdlolkogifigpaaDoorWire6
import Derived.Test.YtdlolkogifigpaaDoorShelf
set_option linter.unusedSimpArgs false
set_option linter.unusedVariables false
namespace Go.Proofs.YtdlolkogifigpaaDoor
open Go Go.RowKit Go.Mor Go.Sh

/-- What is known of the package's variables, at n blocks. -/
structure GlobN (a0 a1 : Addr) (n : Nat) (w : World) : Prop where
  g : Glob w a0 a1
  sz : n ≤ w.heap.size
  h0 : a0.block < n
  h1 : a1.block < n
  hv : 4 ≤ n
theorem tabs_st {w w' : World} {n : Nat} (hn : 4 ≤ n) (h : Lib.Utf8Tabs 2 3 w) (hk : ∀ k, k < n → w'.heap[k]? = w.heap[k]?) : Lib.Utf8Tabs 2 3 w' := by
  have hc : ∀ b o, b < n → w'.cell? ⟨b, o, none⟩ = w.cell? ⟨b, o, none⟩ := fun b o hb => World.cell?_of_block (w := w) (a := ⟨b, o, none⟩) (hk b hb)
  refine ⟨fun c hcc => ?_, fun i hi => ?_⟩
  · rw [hc _ _ (by omega)]; exact h.1 c hcc
  · obtain ⟨h1, h2⟩ := h.2 i hi
    exact ⟨by rw [hc _ _ (by omega)]; exact h1, by rw [hc _ _ (by omega)]; exact h2⟩
def gl (a0 a1 : Addr) (n : Nat) : Sh.Glob where
  G := GlobN a0 a1 n
  n := n
  st := fun w w' h hk => by
    have hle : n ≤ w'.heap.size := by
      rcases Nat.eq_zero_or_pos n with h0 | h0
      · omega
      · have := hk (n - 1) (by omega)
        rw [Array.getElem?_eq_getElem (show n - 1 < w.heap.size by have h9 := h.sz; omega)] at this
        have := (Array.getElem?_eq_some_iff.1 this).1
        omega
    have hv := h.hv
    refine ⟨⟨?_, ?_, h.g.ne, ?_, ?_, tabs_st h.hv h.g.tabs hk⟩, hle, h.h0, h.h1, h.hv⟩
    · rw [World.cell?_of_block (w := w) (hk _ (show 0 < n by omega))]; exact h.g.e0
    · rw [World.cell?_of_block (w := w) (hk _ (show 1 < n by omega))]; exact h.g.e1
    · rw [hk _ h.h0]; exact h.g.b0
    · rw [hk _ h.h1]; exact h.g.b1
  le := fun w h => h.sz

theorem relT_vals {w : World} {E : Env} {r : Sh.Rows} (vs : List Value) : RelT w E r (.tuple (vs.map fun v => .pv (.v v))) (.tuple vs.toArray) :=
  .tuple _ vs (by simp) (fun j c v hc hv => by simp [hv] at hc; subst hc; exact .pv (.v v))
/-- A call that answers a plain value, and leaves what was there. -/
theorem scalls_of {P : Program} {g : Sh.Glob} {f : Nat} {vs : List Value} {y : TV} {v : Value} (hb : hasBody P f) (hy : ∀ w E r, RelT w E r y v) (h : ∀ w, g.G w → Calls P f vs.toArray w fun e w' => e = .returned v ∧ Below w.heap.size w w') : SCalls P g f (vs.map fun v => .pv (.v v)) [] y [] := by
  refine ⟨hb, fun w E us hG hm hX hl hr => ?_⟩
  have hus : us = vs := by
    apply List.ext_getElem?
    intro j
    rcases Nat.lt_or_ge j us.length with hj | hj
    · have hj' : j < vs.length := by simpa [← hl] using hj
      have := hr j (.pv (.v vs[j])) us[j] (by simp [hj']) (List.getElem?_eq_getElem hj)
      rw [List.getElem?_eq_getElem hj, List.getElem?_eq_getElem hj']
      exact congrArg some (val_rel (y := vs[j]) this rfl)
    · rw [List.getElem?_eq_none hj, List.getElem?_eq_none (by simpa [← hl] using hj)]
  subst hus
  refine (h w hG).mono ?_
  rintro e w' ⟨rfl, hb⟩
  refine ⟨v, E, rfl, ?_, hy _ _ _, ⟨fun _ _ _ => rfl, fun _ _ _ _ => rfl, fun d e W n hd => by obtain ⟨j, _, hj⟩ := objR_inv hd; simp at hj⟩⟩
  exact MSim.ext (s := ⟨fun _ => none, objB [], objR [], fun _ => none⟩) hm hb E (fun _ _ h => h) (fun _ _ h => .inl h) (fun _ _ => ⟨rfl, rfl⟩) (fun _ _ _ => rfl) (fun _ _ => ⟨rfl, rfl⟩)

def in64 (x : Int) : Bool := decide (-9223372036854775808 ≤ x) && decide (x ≤ 9223372036854775807)
def I (x : Int) : TV := .pv (.v (.int .i64 x))
def S (s : ByteArray) : TV := .pv (.v (.string s))
def bl (s : ByteArray) : List UInt8 := s.data.toList
theorem str_bl (s : ByteArray) : str (bl s) = s := by cases s; simp [str, bl]
def numTV (r : Option (Int × Int)) : TV := match r with | some (n, b) => .tuple [I n, I b, I 0] | none => .tuple [I 0, I 0, I 10]
def readTV (r : Option (List UInt8 × Int)) : TV := match r with | some (t, b) => .tuple [S (str t), I b, I 0] | none => .tuple [S (str []), I 0, I 10]
def textTV (s : List UInt8) : TV := if s.length ≤ 10000 then .tuple [S (str (text s)), I 0] else .tuple [S (str []), I 10]
/-- What is known of calls of layer 1, and of unicode/utf8. -/
def prim1 : Oracle := fun f xs os =>
  if Nat.beq f 46 then match xs, os with
    | [.pv (.v (.int .i64 x))], [] => if in64 x then some (S (str (num x)), []) else none
    | _, _ => none
  else if Nat.beq f 35 then match xs, os with
    | [.pv (.v (.string s)), .pv (.v (.int .i64 a))], [] => if in64 a && decide ((bl s).length < 1125899906842624) then some (numTV (readNum (bl s) a), []) else none
    | _, _ => none
  else if Nat.beq f 76 then match xs, os with
    | [.pv (.v (.string s))], [] => if decide ((bl s).length ≤ 9223372036854775807) then some (textTV (bl s), []) else none
    | _, _ => none
  else if Nat.beq f 78 then match xs, os with
    | [.pv (.v (.string s)), .pv (.v (.int .i64 a))], [] => if in64 a && decide ((bl s).length < 1125899906842624) then some (readTV (readText (bl s) a), []) else none
    | _, _ => none
  else if Nat.beq f 109 then match xs, os with
    | [.pv (.v (.string s))], [] => if decide (s.size ≤ 9223372036854775807) then some (.pv (.v (.bool (Lib.validD s.data.toList))), []) else none
    | _, _ => none
  else if Nat.beq f 114 then match xs, os with
    | [.pv (.v (.string s))], [] => some (.tuple [.pv (.v (.int .i32 (Lib.decodeGo s).1)), I (Lib.decodeGo s).2], [])
    | _, _ => none
  else none
theorem body_of {f : Nat} (h : (match Tryd.prog.funcs[f]? with | some fn => fn.body.isSome && fn.name != "runtime.NumGoroutine" | none => false) = true) : hasBody Tryd.prog f := by
  split at h
  · rename_i fn hfn
    rw [Bool.and_eq_true] at h
    obtain ⟨b, hb⟩ := Option.isSome_iff_exists.1 h.1
    exact ⟨fn, b, hfn, hb, by simpa using h.2⟩
  · cases h
theorem in64_spec {x : Int} (h : in64 x = true) : -9223372036854775808 ≤ x ∧ x ≤ 9223372036854775807 := by
  unfold in64 at h
  simpa using h
theorem prim1_sound (a0 a1 : Addr) (n : Nat) : SoundC Tryd.prog (gl a0 a1 n) prim1 := by
  intro f xs os y os' h
  unfold prim1 at h
  split at h
  · rename_i hf
    obtain rfl := Nat.eq_of_beq_eq_true hf
    split at h <;> try (cases h; done)
    rename_i x
    split at h <;> try (cases h; done)
    rename_i hx
    cases h
    obtain ⟨h1, h2⟩ := in64_spec hx
    exact scalls_of (vs := [.int .i64 x]) (body_of (by kernel_rfl)) (fun w E r => .pv (.v _)) (fun w _ => Num_any x h1 h2 w)
  split at h
  · rename_i hf
    obtain rfl := Nat.eq_of_beq_eq_true hf
    split at h <;> try (cases h; done)
    rename_i s a
    split at h <;> try (cases h; done)
    rename_i hx
    cases h
    rw [Bool.and_eq_true] at hx
    obtain ⟨h1, h2⟩ := in64_spec hx.1
    refine scalls_of (vs := [.string s, .int .i64 a]) (v := numRes (readNum (bl s) a)) (body_of (by kernel_rfl)) (fun w E r => ?_) (fun w hG => ?_)
    · generalize readNum (bl s) a = q
      cases q with
      | none => exact relT_vals [_, _, _]
      | some p => exact relT_vals [_, _, _]
    · have := ReadNum_any (bl s) a a0 a1 w (by simpa using hx.2) h1 h2 hG.g
      rw [str_bl] at this; exact this
  split at h
  · rename_i hf
    obtain rfl := Nat.eq_of_beq_eq_true hf
    split at h <;> try (cases h; done)
    rename_i s
    split at h <;> try (cases h; done)
    rename_i hx
    cases h
    refine scalls_of (vs := [.string s]) (v := textRes (bl s)) (body_of (by kernel_rfl)) (fun w E r => ?_) (fun w hG => ?_)
    · unfold textRes textTV
      split <;> exact relT_vals [_, _]
    · have := Text_any (bl s) w (by simpa using hx)
      rw [str_bl] at this; exact this
  split at h
  · rename_i hf
    obtain rfl := Nat.eq_of_beq_eq_true hf
    split at h <;> try (cases h; done)
    rename_i s a
    split at h <;> try (cases h; done)
    rename_i hx
    cases h
    rw [Bool.and_eq_true] at hx
    obtain ⟨h1, h2⟩ := in64_spec hx.1
    refine scalls_of (vs := [.string s, .int .i64 a]) (v := readRes (readText (bl s) a)) (body_of (by kernel_rfl)) (fun w E r => ?_) (fun w hG => ?_)
    · generalize readText (bl s) a = q
      cases q with
      | none => exact relT_vals [_, _, _]
      | some p => exact relT_vals [_, _, _]
    · have := ReadText_any (bl s) a a0 a1 w (by simpa using hx.2) h1 h2 hG.g
      rw [str_bl] at this; exact this
  split at h
  · rename_i hf
    obtain rfl := Nat.eq_of_beq_eq_true hf
    split at h <;> try (cases h; done)
    rename_i s
    split at h <;> try (cases h; done)
    rename_i hx
    cases h
    exact scalls_of (vs := [.string s]) (body_of (by kernel_rfl)) (fun w E r => .pv (.v _)) (fun w hG => Tryd.utf8_ValidString s w (by simpa using hx) hG.g.tabs)
  split at h
  · rename_i hf
    obtain rfl := Nat.eq_of_beq_eq_true hf
    split at h <;> try (cases h; done)
    rename_i s
    cases h
    exact scalls_of (vs := [.string s]) (v := .tuple #[.int .i32 (Lib.decodeGo s).1, .int .i64 (Lib.decodeGo s).2]) (body_of (by kernel_rfl)) (fun w E r => relT_vals [_, _]) (fun w hG => Tryd.utf8_DecodeRuneInString s w hG.g.tabs)
  · cases h
end Go.Proofs.YtdlolkogifigpaaDoor
