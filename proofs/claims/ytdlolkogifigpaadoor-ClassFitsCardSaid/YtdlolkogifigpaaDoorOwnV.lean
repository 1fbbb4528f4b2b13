/- Slices of values that a call owns. -/
import Derived.Test.YtdlolkogifigpaaDoorOwn
import Derived.Test.YtdlolkogifigpaaDoorPlain
namespace Go.Proofs.YtdlolkogifigpaaDoor
open Go Go.RowKit Go.Mor
set_option maxHeartbeats 1000000

/-- A value with the slice that holds its list. -/
structure VC where
  v : V
  p : Option Addr
  cap : Nat
def VC.c (y : VC) : Value := .slice y.p y.v.l.length y.cap
def cellsV (y : VC) : List Value := [.int .i64 y.v.k, .int .i64 y.v.n, .string (str y.v.s), .slice y.p y.v.l.length y.cap]
theorem infoVal : (Tryd.prog.info? 31).map (fun i => (i.zero, i.size, i.bytes)) = some (some (.agg #[.int .i64 0, .int .i64 0, .string ⟨#[]⟩, .slice none 0 0]), 4, 56) := by kernel_rfl
def VR : RowT VC where
  e := 31
  t := 29
  size := 4
  bytes := 56
  zero := .agg #[.int .i64 0, .int .i64 0, .string ⟨#[]⟩, .slice none 0 0]
  cells := cellsV
  len := fun _ => rfl
  one := by
    intro x u hu
    simp [cellsV] at hu
    rcases hu with rfl | rfl | rfl | rfl <;> rfl
  pos := by decide
  few := by decide
  und := Tryd.underlying29
  info := infoVal
  zlen := rfl
/-- Rows of values and what their own slices hold are lists of values. -/
theorem IsR.toL {ok : Nat → Prop} {w : World} {L : List VC} {c : Value} (h : IsR VR ok w L c) (hs : ∀ y ∈ L, IsL ok w y.v.l y.c) : IsL ok w (L.map VC.v) c := by
  obtain ⟨b, off, cap, p, rfl, h2, h3, h4, h6, h5⟩ := h
  have e : L.length = (L.map VC.v).length := by simp
  rw [e]
  refine .mk (L.map VC.v) b off cap p (fun i => ((L[i]?).map VC.c).getD .nilIface) (by simpa using h2) h3 (fun hl => h4 (by rintro rfl; exact hl rfl)) (fun i x hx => ?_) (fun i x hx => ?_)
  · rw [List.getElem?_map, Option.map_eq_some_iff] at hx
    obtain ⟨y, hy, rfl⟩ := hx
    refine ⟨h5 i y hy 0 _ rfl, h5 i y hy 1 _ rfl, h5 i y hy 2 _ rfl, ?_⟩
    rw [hy]; exact h5 i y hy 3 _ rfl
  · rw [List.getElem?_map, Option.map_eq_some_iff] at hx
    obtain ⟨y, hy, rfl⟩ := hx
    rw [hy]
    exact hs y (List.mem_of_getElem? hy)
/-- The list, and the slices that its values hold. -/
theorem _root_.Go.Mor.IsL.toR {ok : Nat → Prop} {w : World} {l : List V} {c : Value} (h : IsL ok w l c) (hn : c.ownBlock = none → c = .slice none 0 0) : ∃ L : List VC, L.map VC.v = l ∧ IsR VR ok w L c ∧ ∀ y ∈ L, IsL ok w y.v.l y.c := by
  cases h with
  | mk l b off cap p sub hcap hmax hp hc hs =>
    have key : ∀ (i : Nat) x, l[i]? = some x → ∃ q k, sub i = .slice q x.l.length k := fun i x hx => by
      obtain ⟨q, k, h, _⟩ := (hs i x hx).form
      exact ⟨q, k, h⟩
    let mkY : Nat → V → VC := fun i x => ⟨x, match sub i with | .slice q _ _ => q | _ => none, match sub i with | .slice _ _ k => k | _ => 0⟩
    have hmk : ∀ (i : Nat) x, l[i]? = some x → (mkY i x).c = sub i := fun i x hx => by
      obtain ⟨q, k, h⟩ := key i x hx
      simp only [mkY, VC.c, h]
    refine ⟨l.mapIdx mkY, ?_, ⟨b, off, cap, p, by simp, by simpa using hcap, hmax, fun hl => hp (by rintro rfl; exact hl rfl), fun hpn => ?_, fun i y hy j u hu => ?_⟩, fun y hy => ?_⟩
    · apply List.ext_getElem?
      intro i
      simp only [List.getElem?_map, List.getElem?_mapIdx]
      cases l[i]? <;> rfl
    · have := hn (by rw [hpn]; rfl)
      simpa using this
    · rw [List.getElem?_mapIdx, Option.map_eq_some_iff] at hy
      obtain ⟨x, hx, rfl⟩ := hy
      obtain ⟨q0, q1, q2, q3⟩ := hc i x hx
      have hj : j < 4 := by have := (List.getElem?_eq_some_iff.1 hu).1; simpa [VR, cellsV] using this
      have hm := hmk i x hx
      have : j = 0 ∨ j = 1 ∨ j = 2 ∨ j = 3 := by omega
      rcases this with rfl | rfl | rfl | rfl
      · obtain rfl := Option.some.inj hu; exact q0
      · obtain rfl := Option.some.inj hu; exact q1
      · obtain rfl := Option.some.inj hu; exact q2
      · obtain rfl := Option.some.inj hu
        show w.cell? ⟨b, off + i * 4 + 3, none⟩ = some (mkY i x).c
        rw [hm]; exact q3
    · obtain ⟨i, hi⟩ := List.getElem?_of_mem hy
      rw [List.getElem?_mapIdx, Option.map_eq_some_iff] at hi
      obtain ⟨x, hx, rfl⟩ := hi
      rw [hmk i x hx]
      exact hs i x hx
theorem _root_.Go.Mor.IsL.under {ok : Nat → Prop} {w : World} {l : List V} {c : Value} (h : IsL ok w l c) : IsL (fun b => ok b ∧ b < w.heap.size) w l c := by
  induction h with
  | mk l b off cap p sub hcap hmax hp hc hs ih =>
    refine .mk l b off cap p sub hcap hmax (fun hl => ⟨(hp hl).1, (hp hl).2, ?_⟩) hc ih
    obtain ⟨x, hx⟩ : ∃ x, l[0]? = some x := by
      cases l with
      | nil => exact absurd rfl hl
      | cons x r => exact ⟨x, rfl⟩
    exact cell_lt (hc 0 x hx).1
/-- A value whose list is empty. -/
def VC.of (x : V) : VC := ⟨x, none, 0⟩
theorem isL_empty {ok : Nat → Prop} {w : World} {y : VC} (h : y.v.l = []) (hc : y.cap ≤ maxLen) : IsL ok w y.v.l y.c := by
  unfold VC.c
  rw [h]
  exact IsL.nil _ _ hc
end Go.Proofs.YtdlolkogifigpaaDoor
