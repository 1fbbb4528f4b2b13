/- Merged texts: OpenN PrT WrapT S19 S20 Cd1 Vc1 Zv1 Zv2 PWire PWire2 PWire3 PClass Px1 Ze1. No statement of the program is proved here. -/
import Derived.Test.YtmiokadmddjccaaGreatDoorM2
import Derived.Lib.SmallJoins
import Derived.Lib.ItoaNum
import Derived.Test.YtmiokadmddjccaaGreatDoorProg
import Derived.KernelRfl
import Derived.Lib.TrimUEq
import Derived.Lib.Join
set_option linter.unusedSimpArgs false
set_option linter.unusedVariables false
section
/- Arguments opened: slices of numbers, of bytes. No statement of the program is proved here. -/
namespace Go.Proofs.YtmiokadmddjccaaGreatDoor
open Go.ChangeShapes Go.WideShapes Go.ChangeAt Go.RowKit Go.Lib Go.Mor Go.Deep Go.Joins
open Go.Sh (RelT RelV TV PV SCalls Env MSim objB objR objX Low)
open Go.ChangeMaps (open_string shut_string)
set_option maxRecDepth 100000
section
variable {H : Type} {enc : TypeId × Value → H}
theorem open_nums {t e : TypeId} {k : IntKind} (ht : Tryz.prog.underlying t = some (.slice e)) (he : Tryz.prog.underlying e = some (.int k)) (hc : Tryz.prog.cellsOf e = 1)
    {W : World} {b0 base : Nat} {spare : Nat → Bool} {held : Bool} {v : Value} {d : DataW H} {p : List MemPlace} (hok : Value.okWide Tryz.prog W .any b0 t v) (h : DataW.Trod enc Tryz.prog W base spare held t v d p) :
    ∃ l : List Int, (∀ x ∈ l, (Lit.int k x).wf = true) ∧ l.length ≤ 9223372036854775807 ∧ ∀ r, RelT W (envAll W) r (.pv (.sl 1 (l.map fun z => [PV.v (.int k z)]))) v := by
  obtain ⟨a0, len, cap, rfl⟩ := okWide_slice ht hok
  obtain ⟨fuel, hf⟩ := h
  rcases open_ints ht he hc hf with ⟨hcs, hx⟩ | ⟨a, len', cap', zs, hcs, _, hl, hm, hz, hx, hcell, hwz⟩
  · obtain ⟨rfl, rfl, rfl⟩ : a0 = none ∧ len = 0 ∧ cap = 0 := by simpa [Value.cells] using hcs
    exact ⟨[], by simp, by simp, fun r => .pv (.sl 1 [] 0 0 0 none (fun _ _ => undef) (by simp) (by simp) (by simp) (by simp) (by simp) (by simp))⟩
  · obtain ⟨rfl, rfl, rfl⟩ : a0 = some a ∧ len = len' ∧ cap = cap' := by simpa [Value.cells] using hcs
    have hlz : len ≤ zs.length := by rw [hz]; split <;> omega
    have hlen : (zs.take len).length = len := by rw [List.length_take]; omega
    refine ⟨zs.take len, fun x hx => hwz x (List.mem_of_mem_take hx), by unfold maxLen at hm; omega, fun r => ?_⟩
    have hL : ((zs.take len).map fun z => [PV.v (.int k z)]).length = len := by rw [List.length_map, hlen]
    rcases Nat.eq_zero_or_pos zs.length with h0 | h0
    · obtain rfl : len = 0 := by omega
      have e0 : (zs.take 0).map (fun z => [PV.v (.int k z)]) = [] := by simp
      rw [e0]
      exact .pv (.sl 1 [] 0 0 cap (some a) (fun _ _ => undef) (by simp) (by simp) hm (by simp) (by simp) (by simp))
    · obtain ⟨b, off, rfl, hcl⟩ := ints_at hcell h0
      have cell : ∀ (i j : Nat) cs q, ((zs.take len).map fun z => [PV.v (.int k z)])[i]? = some cs → cs[j]? = some q → ∃ u, q = .v u ∧ W.cell? ⟨b, off + i * 1 + j, none⟩ = some u ∧ Go.Sh.one u := by
        intro i j cs q h1 h2
        rw [List.getElem?_map, Option.map_eq_some_iff] at h1
        obtain ⟨z, hz1, rfl⟩ := h1
        obtain ⟨hi, he⟩ := List.getElem?_eq_some_iff.1 hz1
        have hi' : i < zs.length := by rw [hlen] at hi; omega
        match j with
        | 0 =>
          simp at h2; subst h2
          refine ⟨_, rfl, ?_, rfl⟩
          have := hcl i hi'
          rw [List.getElem_take] at he
          rw [List.getD_eq_getElem?_getD, List.getElem?_eq_getElem hi', Option.getD_some, he] at this
          simpa using this
        | j + 1 => simp at h2
      have key : RelV W (envAll W).K (.sl 1 ((zs.take len).map fun z => [PV.v (.int k z)])) (.slice (some ⟨b, off, none⟩) ((zs.take len).map fun z => [PV.v (.int k z)]).length cap) := by
        refine .sl 1 _ b off cap (some ⟨b, off, none⟩) (fun i j => (W.cell? ⟨b, off + i * 1 + j, none⟩).getD undef) (fun _ => rfl) (by omega) hm (fun cs hcs => ?_) (fun i j cs q h1 h2 => ?_) (fun i j cs q h1 h2 => ?_)
        · obtain ⟨r, _, rfl⟩ := List.mem_map.1 hcs; rfl
        · obtain ⟨u, _, hu, ho⟩ := cell i j cs q h1 h2
          rw [hu]; exact ⟨cell_lt (a := ⟨b, off + i * 1 + j, none⟩) hu, rfl, ho⟩
        · obtain ⟨u, rfl, hu, ho⟩ := cell i j cs q h1 h2
          rw [hu]; exact .v u
      rw [hL] at key
      exact .pv key
theorem open_bytes {W : World} {b0 base : Nat} {spare : Nat → Bool} {held : Bool} {v : Value} {d : DataW H} {p : List MemPlace} (hok : Value.okWide Tryz.prog W .any b0 22 v) (h : DataW.Trod enc Tryz.prog W base spare held 22 v d p) :
    ∃ l : List UInt8, l.length ≤ 9223372036854775807 ∧ ∀ r, RelT W (envAll W) r (.pv (.sl 1 (byR l))) v := by
  obtain ⟨l, h1, h2, h3⟩ := open_nums Tryz.underlying22 Tryz.underlying5 (by kernel_rfl) hok h
  refine ⟨l.map fun z => UInt8.ofNat z.toNat, by simpa using h2, ?_⟩
  have : byR (l.map fun z => UInt8.ofNat z.toNat) = l.map fun z => [PV.v (.int .u8 z)] := by
    unfold byR
    rw [List.map_map]
    refine List.map_congr_left fun z hz => ?_
    have hb := bounds_u8 (h1 z hz)
    have : ((UInt8.ofNat z.toNat).toNat : Int) = z := by rw [UInt8.toNat_ofNat']; omega
    simp only [Function.comp_def, this]
  rw [this]; exact h3
end
end Go.Proofs.YtmiokadmddjccaaGreatDoor
end

section
/- What strconv's tables and internal/bytealg.MaxLen hold, beside those of unicode/utf8. No statement of the program is proved here. -/
namespace Go.Proofs.YtmiokadmddjccaaGreatDoor
open Go Go.RowKit Go.Mor Go.Sh
structure GlobT (w : World) : Prop where
  tab : Lib.TabIs Tryz.prog w "internal/strconv.uint64pow10" .u64 Lib.pow10Tab
  mx : ∃ k, w.cell? ⟨4, 0, none⟩ = some (.int .i64 k)
theorem pow10_named : Tryz.prog.globalNamed "internal/strconv.uint64pow10" = some 5 := by kernel_rfl
theorem tab_st {P : Program} {w w' : World} {n g : Nat} {nm : String} {k : IntKind} {zs : List Int} (hg : P.globalNamed nm = some g) (hn : g < n) (h : Lib.TabIs P w nm k zs) (hk : ∀ k, k < n → w'.heap[k]? = w.heap[k]?) : Lib.TabIs P w' nm k zs := by
  unfold Lib.TabIs World.var? at *
  rw [hg] at *
  simp only [Option.bind_some] at *
  rw [hk g hn]; exact h
theorem globT_st {w w' : World} {n : Nat} (hv : 10 ≤ n) (h : GlobT w) (hk : ∀ k, k < n → w'.heap[k]? = w.heap[k]?) : GlobT w' := by
  refine ⟨tab_st pow10_named (by omega) h.tab hk, ?_⟩
  obtain ⟨k, h0⟩ := h.mx
  exact ⟨k, by rw [World.cell?_of_block (w := w) (hk _ (show 4 < n by omega))]; exact h0⟩
structure GlobNT (n : Nat) (w : World) : Prop extends GlobN0 n w where
  t : GlobT w
def glT (n : Nat) : Sh.Glob where
  G := GlobNT n
  n := n
  st := fun w w' h hk => ⟨⟨globU_st h.hv h.u hk, size_st h.sz hk, h.hv⟩, globT_st h.hv h.t hk⟩
  le := fun w h => h.sz
theorem sc_0T {m f : Nat} {xs : List TV} {os : List MO} {y : TV} {os' : List MO} (h : SCalls Tryz.prog (gl0 m) f xs os y os') : SCalls Tryz.prog (glT m) f xs os y os' :=
  sc_of (g := gl0 m) (g' := glT m) rfl (fun w (hG : GlobNT m w) => hG.toGlobN0) h
end Go.Proofs.YtmiokadmddjccaaGreatDoor
end

section
/- The listed variables of some cards: what they give, and a world in which they lie so. No statement of the program is proved here. -/
namespace Go.Proofs.YtmiokadmddjccaaGreatDoor
open Go.ChangeShapes Go.WideShapes Go.ChangeAt Go.RowKit Go.Lib Go.Mor Go.Deep
open Go.ChangeMaps (open_string shut_string)
abbrev laidLUT : List (String × DataW Unit) := [("math/bits.deBruijn32tab", Rows.laid_math_bits_deBruijn32tab), ("math/bits.deBruijn64tab", Rows.laid_math_bits_deBruijn64tab), ("internal/strconv.uint64pow10", Rows.laid_internal_strconv_uint64pow10), ("unicode/utf8.acceptRanges", Rows.laid_unicode_utf8_acceptRanges), ("unicode/utf8.first", Rows.laid_unicode_utf8_first)]
theorem pow_eq : (Rows.laid_internal_strconv_uint64pow10 : DataW Unit) = Lib.tabData .u64 Lib.pow10Tab := by kernel_rfl
theorem mx_of {W : World} (h : W.ShapedOpen Tryz.prog) : ∃ k, W.cell? ⟨4, 0, none⟩ = some (.int .i64 k) :=
  cell_of_shapedOpen_int (zero := #[.int .i64 0]) (t := 3) h (of_decide_eq_true (by kernel_rfl)) (by kernel_rfl) rfl (by kernel_rfl) (by kernel_rfl) Tryz.underlying3
theorem glob_of_laidUT {W : World} (hL : laidMetH Tryz.prog laidLUT W) (hsh : W.ShapedOpen Tryz.prog) : (glT W.heap.size).G W := by
  have hL' : laidMet Tryz.prog laidLUT W := hL
  have hU := globU_of hL' (.tail _ (.tail _ (.tail _ (.tail _ (.head _))))) (.tail _ (.tail _ (.tail _ (.head _))))
  have hv := hv_of hsh
  have hT : GlobT W := ⟨Lib.tabIs_of_head pow10_named (t := 281) (by kernel_rfl) Tryz.underlying281 Tryz.underlying250 (by kernel_rfl) (by kernel_rfl) (by have h := hL'.tail.tail; rw [pow_eq] at h; exact h), mx_of hsh⟩
  have hN : GlobN0 W.heap.size W := ⟨hU, Nat.le_refl _, hv⟩
  exact (⟨hN, hT⟩ : GlobNT W.heap.size W)
theorem laid_metUT (os : Os) (args : Array Value) : laidMet Tryz.prog laidLUT ((laidWorld os).forCall (fun _ _ => 0) ⟨#[], args, []⟩).memory :=
  (LaidIn.of_run [8, 9, 5, 1, 0] 8 (by kernel_rfl) (by kernel_rfl) (by kernel_rfl) (by kernel_rfl)).met
end Go.Proofs.YtmiokadmddjccaaGreatDoor
end

section
/- Sh: what is to be shown of code, reckoned by rewriting. No statement of the program is proved here. -/
namespace Go.Sh
open Go Go.RowKit
def boolW (t : Bool) (A B : Prop) : Prop := (t = true → A) ∧ (t = false → B)
def boolK (x : Option TV) (A B : Prop) : Prop := match x with
  | some (.pv (.v (.bool t))) => boolW t A B
  | _ => False
def guardW (x : Option TV) (want : Bool) (gs : Nat) (A B : ES → Prop) (s : ES) : Prop := match x with
  | some (.pv (.v (.bool t))) => boolW t ((if want then A else B) (s.put (some gs) (.pv (.v (.bool true))))) ((if want then B else A) (s.put (some gs) (.pv (.v (.bool false)))))
  | some (.pv (.v _)) => B s
  | _ => False
def guardK (t : Bool) (want : Bool) (gs : Nat) (A B : ES → Prop) (s : ES) : Prop := boolW t ((if want then A else B) (s.put (some gs) (.pv (.v (.bool true))))) ((if want then B else A) (s.put (some gs) (.pv (.v (.bool false)))))
section
variable {P : Program} {g : Glob} {a b c : SCode} {Q : SExit → ES → Prop} {K : ES → Prop} {s s' : ES} {l : List SOper} {A B : Prop} {o : SOper}
@[congr] theorem boolW_congr {t t' : Bool} (h : t = t') : boolW t A B = boolW t' A B := by rw [h]
@[congr] theorem boolK_congr {t t' : Option TV} (h : t = t') : boolK t A B = boolK t' A B := by rw [h]
@[congr] theorem guardW_congr {t t' : Option TV} {w : Bool} {gs : Nat} {A B : ES → Prop} (h : t = t') : guardW t w gs A B s = guardW t' w gs A B s := by rw [h]
@[congr] theorem guardK_congr {t t' : Bool} {w : Bool} {gs : Nat} {A B : ES → Prop} (h : t = t') : guardK t w gs A B s = guardK t' w gs A B s := by rw [h]
@[congr] theorem swp_congr (h : s = s') : swp P g a Q s = swp P g a Q s' := by rw [h]
@[congr] theorem opsW_congr (h : s = s') : opsW P g l K s = opsW P g l K s' := by rw [h]
@[congr] theorem stepW_congr {e e' : Option (TV × Upd)} (h : e = e') : stepW P o K s e = stepW P o K s e' := by rw [h]
@[congr] theorem thenW_congr {e : SExit} (h : s = s') : thenW K Q e s = thenW K Q e s' := by rw [h]
@[congr] theorem blockW_congr {e : SExit} {id : Nat} (h : s = s') : blockW id Q e s = blockW id Q e s' := by rw [h]
theorem bW_T : boolW true A B = A := by simp [boolW]
theorem bW_F : boolW false A B = B := by simp [boolW]
theorem bW_d {p : Prop} [Decidable p] : boolW (decide p) A B = ((p → A) ∧ (¬ p → B)) := by simp [boolW]
theorem bW_n {t : Bool} : boolW (!t) A B = boolW t B A := by cases t <;> simp [boolW]
theorem bW_a {t u : Bool} : boolW (t && u) A B = boolW t (boolW u A B) B := by cases t <;> simp [boolW]
theorem bW_o {t u : Bool} : boolW (t || u) A B = boolW t A (boolW u A B) := by cases t <;> simp [boolW]
theorem bK {t : Bool} : boolK (some (.pv (.v (.bool t)))) A B = boolW t A B := rfl
theorem gW {t w : Bool} {gs : Nat} {A B : ES → Prop} : guardW (some (.pv (.v (.bool t)))) w gs A B s = guardK t w gs A B s := rfl
theorem gW_u {w : Bool} {gs : Nat} {A B : ES → Prop} : guardW (some (.pv (.v (.nilIface)))) w gs A B s = B s := rfl
theorem gW_i {w : Bool} {k : IntKind} {n : Int} {gs : Nat} {A B : ES → Prop} : guardW (some (.pv (.v (.int k n)))) w gs A B s = B s := rfl
def regK (Q : SExit → ES → Prop) (kill : List Nat) (s : ES) : Prop := Q .normal (s.kill kill)
def skipK (P : Program) (g : Glob) (l : List SOper) (K : ES → Prop) (dst : Option Nat) (s : ES) : Prop := opsW P g l K (s.put dst (.pv (.v undef)))
@[congr] theorem regK_congr {kill : List Nat} (h : s = s') : regK Q kill s = regK Q kill s' := by rw [h]
theorem v_regK {kill : List Nat} : regK Q kill s = Q .normal (s.kill kill) := rfl
theorem v_skipK {dst : Option Nat} : skipK P g l K dst s = opsW P g l K (s.put dst (.pv (.v undef))) := rfl
theorem sv_same {α : Type} {k : Nat} {x : α} : ∀ {l : List (Nat × α)}, lk l k = some x → sv l k x = l
  | [], h => by simp [lk] at h
  | (j, y) :: l, h => by
    simp only [lk] at h
    simp only [sv]
    cases hj : Nat.beq j k with
    | true =>
      rw [hj] at h; simp only [Option.some.injEq] at h
      rw [Nat.eq_of_beq_eq_true hj, h]
    | false => rw [hj] at h; simp only [sv_same h]
theorem put_same {gs : Nat} {x : TV} (h : lk s.t gs = some x) : s.put (some gs) x = s := by
  show ES.mk _ _ _ _ = _
  rw [sv_same h]
theorem boolW_iff {t : Bool} : boolW t A B ↔ (if t then A else B) := by cases t <;> simp [boolW]
theorem v_skip : swp P g .skip Q s = Q .normal s := rfl
theorem v_seq : swp P g (.seq a b) Q s = swp P g a (thenW (swp P g b Q) Q) s := rfl
theorem v_exit {id : Nat} : swp P g (.exit id) Q s = Q (.exit id) s := rfl
theorem v_ret : swp P g .ret Q s = Q .ret s := rfl
theorem v_block {id : Nat} : swp P g (.block id a) Q s = swp P g a (blockW id Q) s := rfl
theorem v_cond {x : Arg} : swp P g (.cond x a b) Q s = boolK (x.get s.fs) (swp P g a Q s) (swp P g b Q s) := by
  show condW x s _ _ = _
  apply propext
  constructor
  · rintro ⟨t, h1, h2⟩
    rw [h1, bK]; exact boolW_iff.2 h2
  · intro h
    unfold boolK at h
    split at h
    · rename_i t ht; exact ⟨t, ht, boolW_iff.1 h⟩
    · exact h.elim
theorem v_reg {n kill : List Nat} : swp P g (.reg [(n, l)] kill) Q s = opsW P g l (regK Q kill) (s.fgt n) := by
  show regW P g _ _ _ _ = _
  simp [regW]; rfl
theorem v_reg2 {n kill : List Nat} {x : List Nat × List SOper} {r : List (List Nat × List SOper)} : swp P g (.reg ((n, l) :: x :: r) kill) Q s = (opsW P g l (regK Q kill) (s.fgt n) ∨ swp P g (.reg (x :: r) kill) Q s) := by
  show regW P g _ _ _ _ = (_ ∨ regW P g _ _ _ _)
  simp [regW]; rfl
theorem v_nil : opsW P g [] K s = K s := rfl
theorem v_op {dst fp : Option Nat} {op : SOp} (h : op.isCall = false) : opsW P g (⟨dst, none, fp, op⟩ :: l) K s = stepW P ⟨dst, none, fp, op⟩ (opsW P g l K) s (effG P noC ⟨dst, none, fp, op⟩ s.fs) := propext (opsW_nc h)
theorem v_guard {dst fp : Option Nat} {op : SOp} {gs : Nat} {want : Bool} : opsW P g (⟨dst, some (gs, want), fp, op⟩ :: l) K s =
    guardW (lk s.t gs) want gs (opsW P g (⟨dst, none, fp, op⟩ :: l) K) (skipK P g l K dst) s := by
  have key : ∀ C, effG P C ⟨dst, some (gs, want), fp, op⟩ s.fs = match lk s.t gs with
    | some (.pv (.v (.bool b))) => if b == want then effG P C ⟨dst, none, fp, op⟩ s.fs else some (.pv (.v undef), .no)
    | some (.pv (.v _)) => some (.pv (.v undef), .no)
    | _ => none := fun C => rfl
  have hA : (∃ C, SoundC P g C ∧ ∃ e, some (TV.pv (.v undef), Upd.no) = some e ∧ opsW P g l K (s.after ⟨dst, some (gs, want), fp, op⟩ e)) = opsW P g l K (s.put dst (.pv (.v undef))) := by
    apply propext
    constructor
    · rintro ⟨C, hC, e, he, hk⟩; cases he; exact hk
    · intro hk; exact ⟨noC, noC_sound P g, _, rfl, hk⟩
  conv => lhs; unfold opsW
  simp only [key]
  unfold guardW
  cases hx : lk s.t gs with
  | none => simp
  | some x =>
    cases x with
    | pv p =>
      cases p with
      | v v =>
        cases v with
        | bool t =>
          simp only []
          cases t
          · cases want
            · simp only [bW_F, if_false, beq_self_eq_true, if_true, put_same hx, Bool.false_eq_true]; rfl
            · simp only [bW_F, if_true, put_same hx, bFT, if_false, Bool.false_eq_true]; exact hA
          · cases want
            · simp only [bW_T, if_false, put_same hx, bTF, Bool.false_eq_true]; exact hA
            · simp only [bW_T, if_true, beq_self_eq_true, put_same hx]; rfl
        | _ => exact hA
      | _ => simp
    | _ => simp
theorem gK_T1 {gs : Nat} {A B : ES → Prop} : guardK true true gs A B s = A (s.put (some gs) (.pv (.v (.bool true)))) := by simp [guardK, bW_T]
theorem gK_T0 {gs : Nat} {A B : ES → Prop} : guardK true false gs A B s = B (s.put (some gs) (.pv (.v (.bool true)))) := by simp [guardK, bW_T]
theorem gK_F1 {gs : Nat} {A B : ES → Prop} : guardK false true gs A B s = B (s.put (some gs) (.pv (.v (.bool false)))) := by simp [guardK, bW_F]
theorem gK_F0 {gs : Nat} {A B : ES → Prop} : guardK false false gs A B s = A (s.put (some gs) (.pv (.v (.bool false)))) := by simp [guardK, bW_F]
theorem gK_d1 {p : Prop} [Decidable p] {gs : Nat} {A B : ES → Prop} : guardK (decide p) true gs A B s = ((p → A (s.put (some gs) (.pv (.v (.bool true))))) ∧ (¬ p → B (s.put (some gs) (.pv (.v (.bool false)))))) := by simp [guardK, bW_d]
theorem gK_d0 {p : Prop} [Decidable p] {gs : Nat} {A B : ES → Prop} : guardK (decide p) false gs A B s = ((p → B (s.put (some gs) (.pv (.v (.bool true))))) ∧ (¬ p → A (s.put (some gs) (.pv (.v (.bool false)))))) := by simp [guardK, bW_d]
theorem gK_n1 {t : Bool} {gs : Nat} {A B : ES → Prop} : guardK (!t) true gs A B s = boolW t (B (s.put (some gs) (.pv (.v (.bool false))))) (A (s.put (some gs) (.pv (.v (.bool true))))) := by simp [guardK, bW_n]
theorem gK_n0 {t : Bool} {gs : Nat} {A B : ES → Prop} : guardK (!t) false gs A B s = boolW t (A (s.put (some gs) (.pv (.v (.bool false))))) (B (s.put (some gs) (.pv (.v (.bool true))))) := by simp [guardK, bW_n]
theorem v_then_n {K : ES → Prop} : thenW K Q .normal s = K s := rfl
theorem v_then_r {K : ES → Prop} : thenW K Q .ret s = Q .ret s := rfl
theorem v_then_x {K : ES → Prop} {id : Nat} : thenW K Q (.exit id) s = Q (.exit id) s := rfl
theorem v_blk_n {id : Nat} : blockW id Q .normal s = Q .normal s := rfl
theorem v_blk_r {id : Nat} : blockW id Q .ret s = Q .ret s := rfl
theorem v_blk_x {id j : Nat} : blockW id Q (.exit j) s = boolW (Nat.beq j id) (Q .normal s) (Q (.exit j) s) := by
  simp only [blockW]
  by_cases h : j = id
  · subst h; simp [Nat.beq_refl, bW_T]
  · rw [if_neg h, beq_false h, bW_F]
theorem s_some {e : TV × Upd} : stepW P o K s (some e) = K (s.after o e) := rfl
theorem s_none : stepW P o K s none = False := rfl
theorem s_ite {c : Prop} [Decidable c] {x : Option (TV × Upd)} : stepW P o K s (if c then x else none) = (c ∧ stepW P o K s x) := by
  by_cases h : c <;> simp [h, stepW]
theorem s_get {α : Type} {l : List α} {k : Nat} {f : α → TV × Upd} : stepW P o K s (Option.map f l[k]?) = (k < l.length ∧ ∀ b, l[k]? = some b → K (s.after o (f b))) := by
  apply propext
  rcases Nat.lt_or_ge k l.length with h | h
  · rw [List.getElem?_eq_getElem h]; simp [stepW, h]
  · rw [List.getElem?_eq_none h]; simp [stepW, Nat.not_lt.2 h]
def loopK {σ : Type} (st : σ → ES) (μ : σ → Nat) (x : σ) (s : ES) : Prop := ∃ y, μ y < μ x ∧ (st y).Lw s
@[congr] theorem loopK_congr {σ : Type} {st : σ → ES} {μ : σ → Nat} {x : σ} (h : s = s') : loopK st μ x s = loopK st μ x s' := by rw [h]
theorem v_loop {σ : Type} (st : σ → ES) (μ : σ → Nat) (x0 : σ) (h0 : (st x0).Lw s) (hr : ∀ x, swp P g a (thenW (loopK st μ x) Q) (st x)) : swp P g (.loop a) Q s := by
  refine ⟨fun n s => ∃ x, μ x = n ∧ s = st x, μ x0, ⟨st x0, h0, x0, rfl, rfl⟩, ?_⟩
  rintro n s ⟨x, rfl, rfl⟩
  refine swp_mono (hr x) (fun e s he => ?_)
  cases e with
  | normal => obtain ⟨y, h1, h2⟩ := he; exact ⟨μ y, h1, st y, h2, y, rfl, rfl⟩
  | exit id => exact he
  | ret => exact he
  | pan z => exact he
theorem loopK_of {σ : Type} {st : σ → ES} {μ : σ → Nat} {x : σ} (y : σ) (h1 : μ y < μ x) (h2 : (st y).Lw s) : loopK st μ x s := ⟨y, h1, h2⟩
theorem lw_of {s0 s : ES} (h1 : leL s0.t s.t) (h2 : leL s0.b s.b) (h3 : leL s0.r s.r) (h4 : leL s0.i s.i) : s0.Lw s := (le_of h1 h2 h3 h4).lw
theorem lw_eq {s0 s : ES} (h : s0 = s) : s0.Lw s := h ▸ .refl _
def callIn (s : ES) (m : Nat) (xs : List Arg) : Option (List TV × List MO × List Nat) := match seqO (fun x : Arg => x.get s.fs) xs with
  | some args => match seqO (TV.ren2 (rhoIn (handI s.fs m args))) args, seqO (fun d => (s.fs.mo d).bind (MO.ren (rhoIn (handI s.fs m args)))) (handI s.fs m args) with
    | some xs', some os => some (xs', os, handI s.fs m args)
    | _, _ => none
  | none => none
def callOut (s : ES) (dst : Option Nat) (I : List Nat) (y : TV) (os' : List MO) : Option ES := match y.ren3 (rhoOut I (dstId dst)), outs (rhoOut I (dstId dst)) 0 os' with
  | some y', some us => some ((s.upd dst (.mem us)).put dst y')
  | _, _ => none
def fpOk : Option Nat → List Nat → Bool
  | none, _ => true
  | some d, I => isK (only I) d
theorem opsW_callF {dst fp : Option Nat} {f m : Nat} {xs : List Arg} {args : List TV} (ha : seqO (fun x : Arg => x.get s.fs) xs = some args) (hfp : fpOk fp (handI s.fs m args) = true) (h : opsW P g (⟨dst, none, none, .call f m xs⟩ :: l) K s) : opsW P g (⟨dst, none, fp, .call f m xs⟩ :: l) K s := by
  obtain ⟨C, hC, e, he, hk⟩ := h
  refine ⟨C, hC, e, ?_, hk⟩
  have h1 : footOk ⟨dst, none, fp, .call f m xs⟩ s.fs = true := by
    unfold footOk
    cases fp with
    | none => rfl
    | some d =>
      simp only [SOp.foot, ha]
      exact hfp
  simp only [effG, effF, h1]
  simpa only [effG, effF, footOk] using he
theorem v_call {dst fp : Option Nat} {f m : Nat} {xs : List Arg} {xs' : List TV} {I : List Nat} {os os' : List MO} {y : TV} (hx : callIn s m xs = some (xs', os, I)) (hfp : fpOk fp I = true) (hc : SCalls P g f xs' os y os') (hmo : moOk os os' = true) (hs : callOut s dst I y os' = some s') (hk : opsW P g l K s') :
    opsW P g (⟨dst, none, fp, .call f m xs⟩ :: l) K s := by
  unfold callIn at hx
  split at hx
  · rename_i args ha
    split at hx
    · rename_i a1 a2 h1 h2
      cases hx
      unfold callOut at hs
      split at hs
      · rename_i y' us h3 h4
        cases hs
        exact opsW_callF ha hfp (w_call ha rfl h1 h2 hc hmo h3 h4 rfl hk)
      · cases hs
    · cases hx
  · cases hx
def callvIn (s : ES) (m : Nat) (x : Arg) (xs : List Arg) : Option (Nat × List TV × List MO × List Nat) := match (x.get s.fs).bind TV.callee, seqO (fun x : Arg => x.get s.fs) xs with
  | some (f, fa, fb), some vs => match seqO (TV.ren2 (rhoIn (handI s.fs m (fa ++ vs ++ fb)))) (fa ++ vs ++ fb), seqO (fun d => (s.fs.mo d).bind (MO.ren (rhoIn (handI s.fs m (fa ++ vs ++ fb))))) (handI s.fs m (fa ++ vs ++ fb)) with
    | some xs', some os => some (f, xs', os, handI s.fs m (fa ++ vs ++ fb))
    | _, _ => none
  | _, _ => none
theorem v_callv {dst : Option Nat} {f m : Nat} {x : Arg} {xs : List Arg} {xs' : List TV} {I : List Nat} {os os' : List MO} {y : TV} (hx : callvIn s m x xs = some (f, xs', os, I)) (hc : SCalls P g f xs' os y os') (hmo : moOk os os' = true) (hs : callOut s dst I y os' = some s') (hk : opsW P g l K s') :
    opsW P g (⟨dst, none, none, .callv x m xs⟩ :: l) K s := by
  unfold callvIn at hx
  split at hx
  · rename_i f' fa fb vs h0 h1
    split at hx
    · rename_i a1 a2 h3 h4
      cases hx
      unfold callOut at hs
      split at hs
      · rename_i y' us h5 h6
        cases hs
        refine opsW_callv ?_
        rw [h0, h1]
        exact ⟨_, rfl, xs', os, h3, h4, y, os', hc, hmo, y', us, h5, h6, hk⟩
      · cases hs
    · cases hx
  · cases hx
end
end Go.Sh
namespace Go.Sh
open Go Go.RowKit
theorem nc_mov (x : Arg) : (SOp.mov x).isCall = false := rfl
theorem nc_pick (c a b : Arg) : (SOp.pick c a b).isCall = false := rfl
theorem nc_bin (op : BinOp) (t : TypeId) (x y : Arg) : (SOp.bin op t x y).isCall = false := rfl
theorem nc_un (op : UnOp) (x : Arg) : (SOp.un op x).isCall = false := rfl
theorem nc_cvi (k : IntKind) (x : Arg) : (SOp.cvi k x).isCall = false := rfl
theorem nc_cvs (x : Arg) : (SOp.cvs x).isCall = false := rfl
theorem nc_b2s (x : Arg) : (SOp.b2s x).isCall = false := rfl
theorem nc_imm (mx : Bool) (x y : Arg) : (SOp.imm mx x y).isCall = false := rfl
theorem nc_sidx (x i : Arg) : (SOp.sidx x i).isCall = false := rfl
theorem nc_ssub (x : Arg) (lo hi : Option Arg) : (SOp.ssub x lo hi).isCall = false := rfl
theorem nc_slen (x : Arg) : (SOp.slen x).isCall = false := rfl
theorem nc_new (z : List Value) : (SOp.new z).isCall = false := rfl
theorem nc_box (x : Arg) : (SOp.box x).isCall = false := rfl
theorem nc_build (z : List Value) (ps : List (Nat × Nat × Arg)) : (SOp.build z ps).isCall = false := rfl
theorem nc_bsl (W : Nat) (xs : List Arg) : (SOp.bsl W xs).isCall = false := rfl
theorem nc_bslO (e W : Nat) (xs : List Arg) : (SOp.bslO e W xs).isCall = false := rfl
theorem nc_fld (a : Bool) (o n : Nat) (x : Arg) : (SOp.fld a o n x).isCall = false := rfl
theorem nc_fldA (o : Nat) (x : Arg) : (SOp.fldA o x).isCall = false := rfl
theorem nc_ld (a : Bool) (n : Nat) (x : Arg) : (SOp.ld a n x).isCall = false := rfl
theorem nc_st (n : Nat) (x y : Arg) : (SOp.st n x y).isCall = false := rfl
theorem nc_len (x : Arg) : (SOp.len x).isCall = false := rfl
theorem nc_idxA (W : Nat) (x i : Arg) : (SOp.idxA W x i).isCall = false := rfl
theorem nc_sub (W : Nat) (x : Arg) (lo hi : Option Arg) : (SOp.sub W x lo hi).isCall = false := rfl
theorem nc_app (e W n : Nat) (x y : Arg) : (SOp.app e W n x y).isCall = false := rfl
theorem nc_appS (e n : Nat) (x y : Arg) : (SOp.appS e n x y).isCall = false := rfl
theorem nc_appN (e W n : Nat) (x y : Arg) : (SOp.appN e W n x y).isCall = false := rfl
theorem nc_appNS (e n : Nat) (x y : Arg) : (SOp.appNS e n x y).isCall = false := rfl
theorem nc_ext (x : Arg) (i : Nat) : (SOp.ext x i).isCall = false := rfl
theorem nc_nchk (x : Arg) : (SOp.nchk x).isCall = false := rfl
theorem nc_mkf (f : Fn) (a b : List Arg) : (SOp.mkf f a b).isCall = false := rfl
theorem nc_rng (x : Arg) : (SOp.rng x).isCall = false := rfl
theorem nc_nxt (x : Arg) : (SOp.nxt x).isCall = false := rfl
theorem nc_mks (n : Nat) (z : List Value) (x : Arg) : (SOp.mks n z x).isCall = false := rfl
section
variable (P : Program) (t : TypeId) (k : IntKind) (a b : Int) (x y : ByteArray)
theorem bin_quoI : scal P (do eqGuard .quo t (.const (.int k a)) (.const (.int k b)) (.int k a) (.int k b); binOp .quo t (.int k a) (.int k b)) = if b ≠ 0 then some (.pv (.v (.int k (k.wrap (a.tdiv b)))), .no) else none := by
  by_cases hb : b ≠ 0
  · rw [if_pos hb]; exact bin_quo P t k a b hb
  · have : b = 0 := by omega
    subst this; rw [if_neg (by simp)]; simp [scal, eqGuard, binOp, Op.intDiv]; rfl
theorem bin_remI : scal P (do eqGuard .rem t (.const (.int k a)) (.const (.int k b)) (.int k a) (.int k b); binOp .rem t (.int k a) (.int k b)) = if b ≠ 0 then some (.pv (.v (.int k (a.tmod b))), .no) else none := by
  by_cases hb : b ≠ 0
  · rw [if_pos hb]; exact bin_rem P t k a b hb
  · have : b = 0 := by omega
    subst this; rw [if_neg (by simp)]; simp [scal, eqGuard, binOp, Op.intDiv]; rfl
theorem sbin_addI : scal P (do eqGuard .add t (.const (.string x)) (.const (.string y)) (.string x) (.string y); binOp .add t (.string x) (.string y)) = if x.size + y.size ≤ 9223372036854775807 then some (.pv (.v (.string (x ++ y))), .no) else none := by
  by_cases hb : x.size + y.size ≤ 9223372036854775807
  · rw [if_pos hb]; exact sbin_add P t x y hb
  · rw [if_neg hb]
    have hm : IntKind.i64.max = 9223372036854775807 := by rfl
    have h' : (((x.size + y.size : Nat) : Int) > IntKind.i64.max) := by rw [hm]; omega
    simp only [scal, eqGuard, binOp, Op.stringOp, h', if_true]; rfl
end
end Go.Sh
namespace Go.Sh
open Go Go.RowKit
def nilT : TV := .pv (.v (.slice none 0 0))
def ES.adT (s : ES) (k d e W : Nat) : ES := ⟨sv (s.fgt [d]).t k (.own d W []), (s.fgt [d]).b, sv (s.fgt [d]).r d (e, W, 0), (s.fgt [d]).i⟩
def ES.adB (s : ES) (x : Nat) (cs : List TV) (j d e W : Nat) : ES := ⟨(s.fgt [d]).t, sv (s.fgt [d]).b x (cs.set j (.own d W [])), sv (s.fgt [d]).r d (e, W, 0), (s.fgt [d]).i⟩
theorem own_nil {w : World} {E : Env} {r : Rows} {d e W : Nat} {v : Value} (hr : r d = some (e, W, 0)) (hg : E.γ d = none) (h : RelT w E r nilT v) : RelT w E r (.own d W []) v := by
  have hv : v = .slice none 0 0 := val_rel h rfl
  subst hv
  refine .own d W [] _ ?_ (fun e' W' n hn => ?_)
  · exact .sl W [] 0 0 0 none (fun _ _ => undef) (by simp) (by simp) (by simp) (by simp) (by simp) (by simp)
  · rw [hr] at hn; cases hn
    exact ⟨Nat.le_refl _, fun _ => ⟨rfl, by rw [hg]; rfl⟩⟩
section
variable {B : Base} {s : FS} {a : Act} {w : World} {E : Env}
theorem Sim.reT (h : Sim B s a w E) {k : Nat} {x y : TV} (hk : s.t k = some x) (hy : ∀ v, RelT w E s.r x v → RelT w E s.r y v) : Sim B (s.setT k y) a w E := by
  refine ⟨h.defers, h.size, fun j z hz => ?_, h.mem, h.itr, h.ii⟩
  rcases setF_inv hz with ⟨rfl, rfl⟩ | ⟨hj, hz⟩
  · exact ⟨(h.tmp j x hk).1, hy _ (h.tmp j x hk).2⟩
  · exact h.tmp j z hz
theorem Sim.reB (h : Sim B s a w E) {k : Nat} {cs ds : List TV} (hk : s.b k = some cs) (hy : ∀ (j : Nat) d, ds[j]? = some d → ∃ c, cs[j]? = some c ∧ ∀ v, RelT w E s.r c v → RelT w E s.r d v) : Sim B (s.setB k ds) a w E := by
  refine ⟨h.defers, h.size, h.tmp, ⟨fun d ds' hd => ?_, h.mem.row, fun d d' c c' h1 h2 h3 => ?_, fun d d' c q b cap h1 h2 h3 => ?_, h.mem.rr, h.mem.lt, h.mem.low, h.mem.keep, h.mem.knew, h.mem.pas⟩, h.itr, h.ii⟩
  · rcases setF_inv hd with ⟨rfl, rfl⟩ | ⟨_, hd⟩
    · obtain ⟨h1, h2⟩ := h.mem.box d cs hk
      refine ⟨⟨h1.lt, h1.obj, h1.fz, fun j c hc => ?_, h1.out⟩, h2⟩
      obtain ⟨c0, hc0, hw⟩ := hy j c hc
      obtain ⟨v, q1, q2, q3⟩ := h1.cell j c0 hc0
      exact ⟨v, q1, q2, hw v q3⟩
    · exact h.mem.box d ds' hd
  · have e1 : ∃ c, s.b d = some c := (setF_inv h1).elim (fun h => ⟨cs, h.1 ▸ hk⟩) (fun h => ⟨_, h.2⟩)
    have e2 : ∃ c, s.b d' = some c := (setF_inv h2).elim (fun h => ⟨cs, h.1 ▸ hk⟩) (fun h => ⟨_, h.2⟩)
    obtain ⟨c1, e1⟩ := e1; obtain ⟨c2, e2⟩ := e2
    exact h.mem.bb d d' c1 c2 e1 e2 h3
  · have e1 : ∃ c, s.b d = some c := (setF_inv h1).elim (fun h => ⟨cs, h.1 ▸ hk⟩) (fun h => ⟨_, h.2⟩)
    obtain ⟨c1, e1⟩ := e1
    exact h.mem.br d d' c1 q b cap e1 h2 h3
end
theorem adT_lw {s : ES} {k d e W : Nat} (hd : d < 1000 ∨ 2000 ≤ d) (hk : lk s.t k = some nilT) : (s.adT k d e W).Lw s := by
  intro B a w E hm hN hS
  have h1 := fgt_sound hS [d]
  have hf : Fresh (s.fgt [d]).fs d := fgt_fresh s (by simp)
  obtain ⟨E', e1, e2, e3, h2, h3⟩ := h1.adopt (d := d) (fun ho => by have := ho.1; have := ho.2; omega) hf e W
  refine ⟨E', ?_⟩
  have hk' : (s.fgt [d]).fs.t k = some nilT := by
    show lk ((s.fgt [d]).t) k = _
    simp only [ES.fgt, lk_map, hk]; rfl
  have := h2.reT (k := k) (x := nilT) (y := .own d W []) hk' (fun v hv => own_nil (e := e) (by simp [FS.setR, setF]) e3 hv)
  have he : (s.adT k d e W).fs = ((s.fgt [d]).fs.setR d (e, W, 0)).setT k (.own d W []) := by
    simp only [ES.adT, ES.fs, FS.setR, FS.setT, lk_sv]
  rw [he]; exact this
theorem adB_lw {s : ES} {x j d e W : Nat} {cs : List TV} (hd : d < 1000 ∨ 2000 ≤ d) (hne : x ≠ d) (hk : lk s.b x = some cs) (hc : cs.map (fgt3 [d]) = cs) (hj : cs[j]? = some nilT) : (s.adB x cs j d e W).Lw s := by
  intro B a w E hm hN hS
  have h1 := fgt_sound hS [d]
  have hf : Fresh (s.fgt [d]).fs d := fgt_fresh s (by simp)
  obtain ⟨E', e1, e2, e3, h2, h3⟩ := h1.adopt (d := d) (fun ho => by have := ho.1; have := ho.2; omega) hf e W
  refine ⟨E', ?_⟩
  have hk' : (s.fgt [d]).fs.b x = some cs := by
    rw [fgt_b]
    have : has [d] x = false := by simp only [has]; rw [beq_false (fun h => hne h.symm)]
    rw [this, hk]; simp [hc]
  have := h2.reB (k := x) (cs := cs) (ds := cs.set j (.own d W [])) hk' (fun i c hi => by
    by_cases hij : j = i
    · subst hij
      have hl : j < cs.length := (List.getElem?_eq_some_iff.1 hj).1
      rw [List.getElem?_set_self hl] at hi; cases hi
      exact ⟨nilT, hj, fun v hv => own_nil (e := e) (by simp [FS.setR, setF]) e3 hv⟩
    · rw [List.getElem?_set_ne hij] at hi
      exact ⟨c, hi, fun v hv => hv⟩)
  have he : (s.adB x cs j d e W).fs = ((s.fgt [d]).fs.setR d (e, W, 0)).setB x (cs.set j (.own d W [])) := by
    simp only [ES.adB, ES.fs, FS.setR, FS.setB, lk_sv]
  rw [he]; exact this
end Go.Sh
namespace Go.Sh
open Go
theorem reach_nil {s : FS} {rows : Bool} {n : Nat} {seen : List Nat} : reach s rows n [] seen = seen := by cases n <;> simp [reach]
def reachM (s : FS) (rows : Bool) (n d : Nat) (l seen : List Nat) : Option Nat → Option (List TV) → Option (Nat × Nat × Nat) → List Nat
  | some _, _, _ => reach s rows n l seen
  | none, some cs, _ => reach s rows n (cs.flatMap TV.ids1 ++ l) (seen ++ [d])
  | none, none, some _ => if rows then reach s rows n l (seen ++ [d]) else reach s rows n l seen
  | none, none, none => reach s rows n l seen
theorem reach_cons {s : FS} {rows : Bool} {n d : Nat} {l seen : List Nat} : reach s rows (n + 1) (d :: l) seen = reachM s rows n d l seen (pos seen d) (s.b d) (s.r d) := by
  simp only [reach]
  cases hp : pos seen d with
  | some j => rfl
  | none =>
    cases hb : s.b d with
    | some cs => rfl
    | none =>
      cases hr : s.r d with
      | none => rfl
      | some q => cases rows <;> rfl
theorem reach_m1 {s : FS} {rows : Bool} {n d j : Nat} {l seen : List Nat} {b : Option (List TV)} {r : Option (Nat × Nat × Nat)} : reachM s rows n d l seen (some j) b r = reach s rows n l seen := rfl
theorem reach_m2 {s : FS} {rows : Bool} {n d : Nat} {l seen : List Nat} {cs : List TV} {r : Option (Nat × Nat × Nat)} : reachM s rows n d l seen none (some cs) r = reach s rows n (cs.flatMap TV.ids1 ++ l) (seen ++ [d]) := rfl
theorem reach_m3 {s : FS} {rows : Bool} {n d : Nat} {l seen : List Nat} {q : Nat × Nat × Nat} : reachM s rows n d l seen none none (some q) = if rows then reach s rows n l (seen ++ [d]) else reach s rows n l seen := rfl
theorem reach_m4 {s : FS} {rows : Bool} {n d : Nat} {l seen : List Nat} : reachM s rows n d l seen none none none = reach s rows n l seen := rfl
end Go.Sh
namespace Go.Sh
open Go
section
variable {P : Program} {C : Oracle} {d e W n : Nat} {x y : Arg} {s : FS} {z : List Value}
def appNK (d e W n : Nat) : Option Bool → Option (List (List PV)) → Option (TV × Upd)
  | some true, some es2 => if es2.length * n ≤ 140737488355328 ∧ es2.length ≤ maxLen then some (.own d W es2, .row d (e, W, es2.length)) else none
  | _, _ => none
def appNSK (d e n : Nat) : Option Bool → Option ByteArray → Option (TV × Upd)
  | some true, some b => if b.size * n ≤ 140737488355328 ∧ b.size ≤ maxLen then some (.own d 1 (bytesP b), .row d (e, 1, b.size)) else none
  | _, _ => none
theorem e_appN : eff P C (some d) (.appN e W n x y) s = appNK d e W n ((x.get s).map TV.isNil) ((y.get s).bind (TV.elems W)) := by
  simp only [eff]
  generalize (x.get s).map TV.isNil = a
  generalize (y.get s).bind (TV.elems W) = b
  cases a with
  | none => rfl
  | some a => cases a <;> cases b <;> rfl
theorem e_appN1 {es : List (List PV)} : appNK d e W n (some true) (some es) = if es.length * n ≤ 140737488355328 ∧ es.length ≤ maxLen then some (.own d W es, .row d (e, W, es.length)) else none := rfl
theorem e_appN2 {o : Option (List (List PV))} : appNK d e W n (some false) o = none := by cases o <;> rfl
theorem e_appNS : eff P C (some d) (.appNS e n x y) s = appNSK d e n ((x.get s).map TV.isNil) ((y.get s).bind TV.str) := by
  simp only [eff]
  generalize (x.get s).map TV.isNil = a
  generalize (y.get s).bind TV.str = b
  cases a with
  | none => rfl
  | some a => cases a <;> cases b <;> rfl
theorem e_appNS1 {b : ByteArray} : appNSK d e n (some true) (some b) = if b.size * n ≤ 140737488355328 ∧ b.size ≤ maxLen then some (.own d 1 (bytesP b), .row d (e, 1, b.size)) else none := rfl
theorem e_appNS2 {o : Option ByteArray} : appNSK d e n (some false) o = none := by cases o <;> rfl
def bslK (d e W : Nat) : Option (List (List PV)) → Option (TV × Upd)
  | some es => if es.all (fun e => e.length == W) then some (.own d W es, .row d (e, W, es.length)) else none
  | none => none
theorem e_bslO {xs : List Arg} : eff P C (some d) (.bslO e W xs) s = bslK d e W (seqO (fun x : Arg => (x.get s).bind TV.pvs) xs) := by
  simp only [eff]
  generalize seqO (fun x : Arg => (x.get s).bind TV.pvs) xs = b
  cases b <;> rfl
theorem e_bslO1 {es : List (List PV)} : bslK d e W (some es) = if es.all (fun e => e.length == W) then some (.own d W es, .row d (e, W, es.length)) else none := rfl
def rngK (d : Nat) : Option ByteArray → Option (TV × Upd)
  | some z => some (.it d, .it d (z, 0))
  | none => none
theorem e_rng : eff P C (some d) (.rng x) s = rngK d ((x.get s).bind TV.str) := by
  simp only [eff]
  generalize (x.get s).bind TV.str = b
  cases b <;> rfl
theorem e_rng1 {b : ByteArray} : rngK d (some b) = some (.it d, .it d (b, 0)) := rfl
def mksK (d n : Nat) (z : List Value) : Option TV → Option (TV × Upd)
  | some (.pv (.v (.int .i64 k))) => if 0 ≤ k ∧ n * k ≤ 140737488355328 ∧ k ≤ maxLen then some (.bs d 0 k.toNat k.toNat, .box ((List.replicate k.toNat (z.map fun v => TV.pv (.v v))).flatten)) else none
  | _ => none
theorem e_mks : eff P C (some d) (.mks n z x) s = mksK d n z (x.get s) := by
  simp only [eff]
  generalize x.get s = b
  unfold mksK
  split <;> split <;> simp_all
theorem e_mks1 {k : Int} : mksK d n z (some (.pv (.v (.int .i64 k)))) = if 0 ≤ k ∧ n * k ≤ 140737488355328 ∧ k ≤ maxLen then some (.bs d 0 k.toNat k.toNat, .box ((List.replicate k.toNat (z.map fun v => TV.pv (.v v))).flatten)) else none := rfl
end
end Go.Sh
namespace Go.Sh
open Go Go.RowKit
def PWk (c d : PV) : Prop := ∀ w K v, RelV w K c v → RelV w K d v
theorem PWk.refl (c : PV) : PWk c c := fun _ _ _ h => h
theorem pwk_nil (W : Nat) : PWk (.v (.slice none 0 0)) (.sl W []) := by
  intro w K v h
  cases h
  exact .sl W [] 0 0 0 none (fun _ _ => undef) (by simp) (by simp) (by simp) (by simp) (by simp) (by simp)
theorem pwk_sl {W : Nat} {es es' : List (List PV)} (hl : es.length = es'.length) (h : ∀ (i : Nat) cs ds, es[i]? = some cs → es'[i]? = some ds → cs.length = ds.length ∧ ∀ (j : Nat) c d, cs[j]? = some c → ds[j]? = some d → PWk c d) : PWk (.sl W es) (.sl W es') := by
  intro w K v hv
  have key : ∀ (i j : Nat) (ds : List PV) (d : PV), es'[i]? = some ds → ds[j]? = some d → ∃ cs c, es[i]? = some cs ∧ cs[j]? = some c ∧ PWk c d := by
    intro i j ds d h1 h2
    have hi : i < es.length := by rw [hl]; exact (List.getElem?_eq_some_iff.1 h1).1
    obtain ⟨h3, h4⟩ := h i _ ds (List.getElem?_eq_getElem hi) h1
    have hj : j < es[i].length := by rw [h3]; exact (List.getElem?_eq_some_iff.1 h2).1
    exact ⟨_, _, List.getElem?_eq_getElem hi, List.getElem?_eq_getElem hj, h4 j _ d (List.getElem?_eq_getElem hj) h2⟩
  cases hv with
  | sl W es b off cap p f hp hcap hmax hW hc hs =>
    rw [hl]
    refine .sl W es' b off cap p f (fun hne => hp (fun h0 => hne (List.eq_nil_of_length_eq_zero (by rw [← hl, h0]; rfl)))) (by omega) hmax (fun ds hds => ?_) (fun i j ds d h1 h2 => ?_) (fun i j ds d h1 h2 => ?_)
    · obtain ⟨i, hi⟩ := List.getElem?_of_mem hds
      have hi' : i < es.length := by rw [hl]; exact (List.getElem?_eq_some_iff.1 hi).1
      rw [← (h i _ ds (List.getElem?_eq_getElem hi') hi).1]
      exact hW _ (List.getElem_mem hi')
    · obtain ⟨cs, c, h3, h4, _⟩ := key i j ds d h1 h2
      exact hc i j cs c h3 h4
    · obtain ⟨cs, c, h3, h4, h5⟩ := key i j ds d h1 h2
      exact h5 _ _ _ (hs i j cs c h3 h4)
theorem wk_pv {c d : PV} (h : PWk c d) : Wk (.pv c) (.pv d) := by
  intro w E r v hv
  cases hv with
  | pv hv => exact .pv (h _ _ _ hv)
theorem wk_own {d W : Nat} {es es' : List (List PV)} (hl : es.length = es'.length) (h : PWk (.sl W es) (.sl W es')) : Wk (.own d W es) (.own d W es') := by
  intro w E r v hv
  cases hv with
  | own d W es v h1 h2 => exact .own d W es' v (h _ _ _ h1) (fun e W' n hn => by rw [← hl]; exact h2 e W' n hn)
theorem reT_lw {s : ES} {k : Nat} {x y : TV} (hk : lk s.t k = some x) (hw : Wk x y) : (⟨sv s.t k y, s.b, s.r, s.i⟩ : ES).Lw s := by
  intro B a w E _ _ hS
  refine ⟨E, ?_⟩
  have := hS.reT (k := k) (x := x) (y := y) hk (fun v hv => hw _ _ _ _ hv)
  have he : (⟨sv s.t k y, s.b, s.r, s.i⟩ : ES).fs = s.fs.setT k y := by simp only [ES.fs, FS.setT, lk_sv]
  rw [he]; exact this
theorem reB_lw {s : ES} {k : Nat} {cs ds : List TV} (hk : lk s.b k = some cs) (hl : cs.length = ds.length) (hw : ∀ (j : Nat) c d, cs[j]? = some c → ds[j]? = some d → Wk c d) : (⟨s.t, sv s.b k ds, s.r, s.i⟩ : ES).Lw s := by
  intro B a w E _ _ hS
  refine ⟨E, ?_⟩
  have := hS.reB (k := k) (cs := cs) (ds := ds) hk (fun j d hd => by
    have hj : j < cs.length := by rw [hl]; exact (List.getElem?_eq_some_iff.1 hd).1
    exact ⟨_, List.getElem?_eq_getElem hj, fun v hv => hw j _ d (List.getElem?_eq_getElem hj) hd _ _ _ _ hv⟩)
  have he : (⟨s.t, sv s.b k ds, s.r, s.i⟩ : ES).fs = s.fs.setB k ds := by simp only [ES.fs, FS.setB, lk_sv]
  rw [he]; exact this
end Go.Sh
namespace Go.Sh
open Go Go.RowKit
theorem wk_own_pv {d W : Nat} {es es' : List (List PV)} (h : PWk (.sl W es) (.sl W es')) : Wk (.own d W es) (.pv (.sl W es')) := by
  intro w E r v hv
  cases hv with
  | own d W es v h1 h2 => exact .pv (h _ _ _ h1)
theorem pwk_last {W : Nat} {es : List (List PV)} {cs ds : List PV} (hl : cs.length = ds.length) (h : ∀ (j : Nat) c d, cs[j]? = some c → ds[j]? = some d → PWk c d) : PWk (.sl W (es ++ [cs])) (.sl W (es ++ [ds])) := by
  refine pwk_sl (by simp) (fun i a b h1 h2 => ?_)
  by_cases hi : i < es.length
  · rw [List.getElem?_append_left hi] at h1 h2
    rw [h1] at h2; cases h2
    exact ⟨rfl, fun j c d h3 h4 => by rw [h3] at h4; cases h4; exact .refl c⟩
  · rw [List.getElem?_append_right (by omega)] at h1 h2
    have h0 : i - es.length = 0 := by
      have := (List.getElem?_eq_some_iff.1 h1).1; simp at this; omega
    rw [h0] at h1 h2; simp at h1 h2; subst h1; subst h2
    exact ⟨hl, h⟩
end Go.Sh
namespace Go.Sh
open Go
section
variable {P : Program} {C : Oracle} {dst : Option Nat} {W l h : Nat} {x : Arg} {lo hi : Option Arg} {s : FS} {z : ByteArray} {es : List (List PV)} {c : Prop} [Decidable c] {o : Option Nat}
def ssubK (z : ByteArray) : Option Nat → Option Nat → Option (TV × Upd)
  | some l, some h => if l ≤ h ∧ h ≤ z.size then some (.pv (.v (.string (z.extract l h))), .no) else none
  | _, _ => none
def ssubM (s : FS) (lo hi : Option Arg) : Option ByteArray → Option (TV × Upd)
  | some z => ssubK z (bound s 0 lo) (bound s z.size hi)
  | none => none
theorem e_ssub : eff P C dst (.ssub x lo hi) s = ssubM s lo hi ((x.get s).bind TV.str) := by
  simp only [eff]; generalize (x.get s).bind TV.str = a
  cases a with
  | none => rfl
  | some z =>
    unfold ssubM ssubK
    simp only []
    generalize bound s 0 lo = u
    generalize bound s z.size hi = v
    cases u <;> cases v <;> rfl
theorem e_ssub1 : ssubM s lo hi (some z) = ssubK z (bound s 0 lo) (bound s z.size hi) := rfl
theorem e_ssub2 : ssubK z (some l) (some h) = if l ≤ h ∧ h ≤ z.size then some (.pv (.v (.string (z.extract l h))), .no) else none := rfl
theorem e_ssub3 : ssubK z (some l) (if c then some h else none) = if c then ssubK z (some l) (some h) else none := by split <;> rfl
theorem e_ssub4 : ssubK z (if c then some l else none) o = if c then ssubK z (some l) o else none := by
  split
  · rfl
  · cases o <;> rfl
def subK (W : Nat) (es : List (List PV)) : Option Nat → Option Nat → Option (TV × Upd)
  | some l, some h => if l ≤ h ∧ h ≤ es.length then some (.pv (.sl W ((es.take h).drop l)), .no) else none
  | _, _ => none
def subM (s : FS) (W : Nat) (lo hi : Option Arg) : Option (List (List PV)) → Option (TV × Upd)
  | some es => subK W es (bound s 0 lo) (bound s es.length hi)
  | none => none
theorem e_sub1 : subM s W lo hi (some es) = subK W es (bound s 0 lo) (bound s es.length hi) := rfl
theorem e_sub2 : subK W es (some l) (some h) = if l ≤ h ∧ h ≤ es.length then some (.pv (.sl W ((es.take h).drop l)), .no) else none := rfl
theorem e_sub3 : subK W es (some l) (if c then some h else none) = if c then subK W es (some l) (some h) else none := by split <;> rfl
theorem e_sub4 : subK W es (if c then some l else none) o = if c then subK W es (some l) o else none := by
  split
  · rfl
  · cases o <;> rfl
theorem e_sub5 {W' : Nat} : subM s W lo hi (TV.elems W (.pv (.sl W' es))) = subM s W lo hi (if Nat.beq W' W then some es else none) := rfl
def subT (s : FS) (W : Nat) (lo hi : Option Arg) : Option TV → Option (TV × Upd)
  | some (.bs d off n c) => match bound s 0 lo, bound s n hi with
      | some l, some h => if l ≤ h ∧ h ≤ n ∧ n ≤ c then some (if c = l then .bs d off (h - l) (c - l) else .bs d (off + l * W) (h - l) (c - l), .no) else none
      | _, _ => none
  | some t => subM s W lo hi (t.elems W)
  | none => none
theorem e_sub : eff P C dst (.sub W x lo hi) s = subT s W lo hi (x.get s) := by
  simp only [eff]; generalize x.get s = a
  cases a with
  | none => rfl
  | some t =>
    have key : ∀ q : Option (List (List PV)), (match q with
        | some es => match bound s 0 lo, bound s es.length hi with
          | some l, some h => if l ≤ h ∧ h ≤ es.length then some (TV.pv (.sl W ((es.take h).drop l)), Upd.no) else none
          | _, _ => none
        | none => none) = subM s W lo hi q := by
      intro q
      cases q with
      | none => rfl
      | some es =>
        unfold subM subK
        generalize bound s 0 lo = u
        generalize bound s es.length hi = v
        cases u <;> cases v <;> rfl
    cases t with
    | bs d off n c => rfl
    | pv p => exact key ((TV.pv p).elems W)
    | own d W' es => exact key ((TV.own d W' es).elems W)
    | _ => rfl
theorem e_subT1 {p : PV} : subT s W lo hi (some (.pv p)) = subM s W lo hi ((TV.pv p).elems W) := rfl
theorem e_subT2 {d : Nat} {W' : Nat} : subT s W lo hi (some (.own d W' es)) = subM s W lo hi ((TV.own d W' es).elems W) := rfl
theorem e_subT3 {d off n c : Nat} : subT s W lo hi (some (.bs d off n c)) = (match bound s 0 lo, bound s n hi with
      | some l, some h => if l ≤ h ∧ h ≤ n ∧ n ≤ c then some (if c = l then .bs d off (h - l) (c - l) else .bs d (off + l * W) (h - l) (c - l), .no) else none
      | _, _ => none) := rfl
end
end Go.Sh
namespace Go.Sh
open Go
theorem gW_undef {w : Bool} {gs : Nat} {A B : ES → Prop} {s : ES} : guardW (some (.pv (.v undef))) w gs A B s = B s := rfl
end Go.Sh
namespace Go.Sh
open Go
section
variable {P : Program} {C : Oracle} {dst : Option Nat} {x : Arg} {s : FS} {d p : Nat} {z : ByteArray}
def nxtM (d : Nat) : Option (ByteArray × Nat) → Option (TV × Upd)
  | some (z, p) => if p < z.size then some (.tuple [.pv (.v (.bool true)), .pv (.v (.int .i64 (p : Int))), .pv (.v (.int .i32 (Utf8.decode z p).1))], .it d (z, p + (Utf8.decode z p).2)) else some (.tuple [.pv (.v (.bool false))], .no)
  | none => none
def nxtK (s : FS) : Option TV → Option (TV × Upd)
  | some (.it d) => nxtM d (s.i d)
  | _ => none
theorem e_nxt : eff P C dst (.nxt x) s = nxtK s (x.get s) := by
  simp only [eff]
  generalize x.get s = a
  cases a with
  | none => rfl
  | some t =>
    cases t <;> rfl
theorem e_nxt1 : nxtK s (some (.it d)) = nxtM d (s.i d) := rfl
theorem e_nxt2 : nxtM d (some (z, p)) = if p < z.size then some (.tuple [.pv (.v (.bool true)), .pv (.v (.int .i64 (p : Int))), .pv (.v (.int .i32 (Utf8.decode z p).1))], .it d (z, p + (Utf8.decode z p).2)) else some (.tuple [.pv (.v (.bool false))], .no) := rfl
end
theorem s_ite2 {P : Program} {o : SOper} {K : ES → Prop} {s : ES} {c : Prop} [Decidable c] {a b : TV × Upd} : stepW P o K s (if c then some a else some b) = ((c → K (s.after o a)) ∧ (¬ c → K (s.after o b))) := by
  by_cases h : c <;> simp [h, stepW]
end Go.Sh
namespace Go.Sh
open Go Go.RowKit
theorem nc_lkp (b : Bool) (z : Value) (x i : Arg) : (SOp.lkp b z x i).isCall = false := rfl
theorem nc_mkI (t : TypeId) (x : Arg) : (SOp.mkI t x).isCall = false := rfl
theorem nc_pan (x : Arg) : (SOp.pan x).isCall = false := rfl
section
variable {P : Program} {C : Oracle} {dst : Option Nat} {x i : Arg} {s : FS} {b : Bool} {z : Value}
def lkpJ (z : Value) (xs : List TV) : Option (Option Nat) → Option (TV × Upd)
  | some (some j) => (xs[j]?).map fun t => (t, .no)
  | some none => some (zeroT z, .no)
  | none => none
def lkpK (b : Bool) (z : Value) : Option TV → Option Value → Option (TV × Upd)
  | some (.mp ks xs), some k => lkpJ z xs (findKs (kdOf b) k ks 0)
  | _, _ => none
theorem e_lkp : eff P C dst (.lkp b z x i) s = lkpK b z (x.get s) ((i.get s).bind TV.val1) := by
  simp only [eff]
  generalize x.get s = a
  generalize (i.get s).bind TV.val1 = c
  cases a with
  | none => rfl
  | some t =>
    cases t with
    | mp ks xs =>
      cases c with
      | none => rfl
      | some k =>
        unfold lkpK lkpJ
        simp only []
        generalize findKs (kdOf b) k ks 0 = q
        cases q with
        | none => rfl
        | some q => cases q <;> rfl
    | _ => rfl
theorem e_lkp1 {ks : List Value} {xs : List TV} {k : Value} : lkpK b z (some (.mp ks xs)) (some k) = lkpJ z xs (findKs (kdOf b) k ks 0) := rfl
theorem e_lkp2 {xs : List TV} {j : Nat} : lkpJ z xs (some (some j)) = (xs[j]?).map fun t => (t, .no) := rfl
theorem e_lkp3 {xs : List TV} : lkpJ z xs (some none) = some (zeroT z, .no) := rfl
end
section
variable {P : Program} {g : Glob} {Q : SExit → ES → Prop} {K : ES → Prop} {s s' : ES} {l : List SOper} {D : List Nat} {R : Value → ES → Prop}
theorem v_then_p {z : Value} : thenW K Q (.pan z) s = Q (.pan z) s := rfl
theorem v_blk_p {id : Nat} {z : Value} : blockW id Q (.pan z) s = Q (.pan z) s := rfl
def panK (Q : SExit → ES → Prop) (z : Value) (s : ES) : Prop := Q (.pan z) s
@[congr] theorem panK_congr {z : Value} (h : s = s') : panK Q z s = panK Q z s' := by rw [h]
theorem v_panK {z : Value} : panK Q z s = Q (.pan z) s := rfl
@[congr] theorem opsP_congr (h : s = s') : opsP P g D l R s = opsP P g D l R s' := by rw [h]
def stepP (P : Program) (g : Glob) (D : List Nat) (l : List SOper) (R : Value → ES → Prop) (o : SOper) (s : ES) : Option (TV × Upd) → Prop
  | some e => opsP P g D l R (s.after o e)
  | none => False
@[congr] theorem stepP_congr {o : SOper} {e e' : Option (TV × Upd)} (h : e = e') : stepP P g D l R o s e = stepP P g D l R o s e' := by rw [h]
theorem sp_some {o : SOper} {e : TV × Upd} : stepP P g D l R o s (some e) = opsP P g D l R (s.after o e) := rfl
theorem sp_get {α : Type} {o : SOper} {xs : List α} {k : Nat} {f : α → TV × Upd} : stepP P g D l R o s (Option.map f xs[k]?) = (k < xs.length ∧ ∀ b, xs[k]? = some b → opsP P g D l R (s.after o (f b))) := by
  apply propext
  rcases Nat.lt_or_ge k xs.length with h | h
  · rw [List.getElem?_eq_getElem h]; simp [stepP, h]
  · rw [List.getElem?_eq_none h]; simp [stepP, Nat.not_lt.2 h]
theorem sp_ite {o : SOper} {c : Prop} [Decidable c] {x : Option (TV × Upd)} : stepP P g D l R o s (if c then x else none) = (c ∧ stepP P g D l R o s x) := by
  by_cases h : c <;> simp [h, stepP]
theorem vq_n {n kill : List Nat} {r : List (List Nat × List SOper)} (h : opsW P g l (regK Q kill) (s.fgt n)) : swp P g (.regq ((n, l) :: r) kill) Q s := .inl ⟨_, List.mem_cons_self .., h⟩
theorem vq_p {n kill : List Nat} {r : List (List Nat × List SOper)} (h : opsP P g (dstOps l) l (panK Q) (s.fgt n)) : swp P g (.regq ((n, l) :: r) kill) Q s := .inr ⟨_, List.mem_cons_self .., h⟩
theorem vp_op {dst fp : Option Nat} {op : SOp} (h : op.isCall = false) (hk : stepP P g D l R ⟨dst, none, fp, op⟩ s (effG P noC ⟨dst, none, fp, op⟩ s.fs)) : opsP P g D (⟨dst, none, fp, op⟩ :: l) R s := by
  cases he : effG P noC ⟨dst, none, fp, op⟩ s.fs with
  | none => rw [he] at hk; exact hk.elim
  | some e => rw [he] at hk; exact .inr ⟨noC, noC_sound P g, e, he, hk⟩
theorem vp_pan {dst fp : Option Nat} {x : Arg} {t : TypeId} {v : Value} (hx : x.get s.fs = some (.pv (.v (.iface t v)))) (hk : R (.iface t v) (s.kill D)) : opsP P g D (⟨dst, none, fp, .pan x⟩ :: l) R s :=
  .inl ⟨rfl, .iface t v, .no, ⟨rfl, hx, ⟨t, v, rfl⟩, rfl⟩, hk⟩
theorem vp_call {dst fp : Option Nat} {f m : Nat} {xs : List Arg} {xs' : List TV} {I : List Nat} {os os' : List MO} {z : Value} {us : List (Nat × MO)} (hm : Nat.beq m 3 = true) (hx : callIn s m xs = some (xs', os, I)) (hc : SPan P g f xs' os z os') (hmo : moOk os os' = true) (hs : outs (rhoOut I (dstId dst)) 0 os' = some us) (hk : R z ((s.upd dst (.mem us)).kill D)) :
    opsP P g D (⟨dst, none, fp, .call f m xs⟩ :: l) R s := by
  unfold callIn at hx
  split at hx
  · rename_i args ha
    split at hx
    · rename_i a1 a2 h1 h2
      cases hx
      exact .inl ⟨hm, z, .mem us, ⟨rfl, args, ha, _, _, os', us, h1, h2, hc, hmo, hs, rfl⟩, hk⟩
    · cases hx
  · cases hx
theorem vp_ret {dst fp : Option Nat} {f m : Nat} {xs : List Arg} {xs' : List TV} {I : List Nat} {os os' : List MO} {y : TV} (hx : callIn s m xs = some (xs', os, I)) (hfp : fpOk fp I = true) (hc : SCalls P g f xs' os y os') (hmo : moOk os os' = true) (hs : callOut s dst I y os' = some s') (hk : opsP P g D l R s') :
    opsP P g D (⟨dst, none, fp, .call f m xs⟩ :: l) R s := by
  have h : opsW P g [⟨dst, none, fp, .call f m xs⟩] (opsP P g D l R) s := v_call hx hfp hc hmo hs hk
  obtain ⟨C, hC, e, he, hk⟩ := h
  exact .inr ⟨C, hC, e, he, hk⟩
end
def PostP (keep : Bool) (n : Nat) (z : Value) (os' : List MO) : SExit → ES → Prop
  | .pan z', s => z' = z ∧ exitR [] keep n s = some (.tuple [], os')
  | _, _ => False
theorem pan_of {P : Program} {g : Glob} {f : Nat} {H : Nat → Option Nat → Nat} {Fp : Nat → List (Nat → Option Nat)} {K : Nat → List Nat} {keep : Bool} {F : SFunc} (hmix : P.follows .mixedOrders = true) (hF : transFunc P f H Fp K keep = some F) {xs : List TV} {os os' : List MO} {z : Value} (hn : Nat.ble xs.length F.N = true) (hos : Nat.ble os.length 1000 = true) (hmo : moOk os os' = true)
    (h : swp P g F.code (PostP keep os.length z os') (startE xs os)) : SPan P g f xs os z os' :=
  pan_of_swp hmix hF (Nat.le_of_ble_eq_true hn) (Nat.le_of_ble_eq_true hos) hmo (swp_mono h fun e s he => by
    cases e with
    | pan z' => exact ⟨by rw [he.1], he.2⟩
    | _ => exact he.elim)
end Go.Sh
namespace Go.Sh
open Go Go.RowKit
theorem np_mov (x : Arg) : mayPan (SOp.mov x) = false := rfl
theorem np_pick (c a b : Arg) : mayPan (SOp.pick c a b) = false := rfl
theorem np_bin (op : BinOp) (t : TypeId) (x y : Arg) : mayPan (SOp.bin op t x y) = false := rfl
theorem np_un (op : UnOp) (x : Arg) : mayPan (SOp.un op x) = false := rfl
theorem np_cvi (k : IntKind) (x : Arg) : mayPan (SOp.cvi k x) = false := rfl
theorem np_cvs (x : Arg) : mayPan (SOp.cvs x) = false := rfl
theorem np_b2s (x : Arg) : mayPan (SOp.b2s x) = false := rfl
theorem np_imm (mx : Bool) (x y : Arg) : mayPan (SOp.imm mx x y) = false := rfl
theorem np_sidx (x i : Arg) : mayPan (SOp.sidx x i) = false := rfl
theorem np_ssub (x : Arg) (lo hi : Option Arg) : mayPan (SOp.ssub x lo hi) = false := rfl
theorem np_slen (x : Arg) : mayPan (SOp.slen x) = false := rfl
theorem np_new (z : List Value) : mayPan (SOp.new z) = false := rfl
theorem np_box (x : Arg) : mayPan (SOp.box x) = false := rfl
theorem np_build (z : List Value) (ps : List (Nat × Nat × Arg)) : mayPan (SOp.build z ps) = false := rfl
theorem np_bsl (W : Nat) (xs : List Arg) : mayPan (SOp.bsl W xs) = false := rfl
theorem np_bslO (e W : Nat) (xs : List Arg) : mayPan (SOp.bslO e W xs) = false := rfl
theorem np_fld (a : Bool) (o n : Nat) (x : Arg) : mayPan (SOp.fld a o n x) = false := rfl
theorem np_fldA (o : Nat) (x : Arg) : mayPan (SOp.fldA o x) = false := rfl
theorem np_ld (a : Bool) (n : Nat) (x : Arg) : mayPan (SOp.ld a n x) = false := rfl
theorem np_st (n : Nat) (x y : Arg) : mayPan (SOp.st n x y) = false := rfl
theorem np_len (x : Arg) : mayPan (SOp.len x) = false := rfl
theorem np_idxA (W : Nat) (x i : Arg) : mayPan (SOp.idxA W x i) = false := rfl
theorem np_sub (W : Nat) (x : Arg) (lo hi : Option Arg) : mayPan (SOp.sub W x lo hi) = false := rfl
theorem np_app (e W n : Nat) (x y : Arg) : mayPan (SOp.app e W n x y) = false := rfl
theorem np_appS (e n : Nat) (x y : Arg) : mayPan (SOp.appS e n x y) = false := rfl
theorem np_appN (e W n : Nat) (x y : Arg) : mayPan (SOp.appN e W n x y) = false := rfl
theorem np_appNS (e n : Nat) (x y : Arg) : mayPan (SOp.appNS e n x y) = false := rfl
theorem np_ext (x : Arg) (i : Nat) : mayPan (SOp.ext x i) = false := rfl
theorem np_nchk (x : Arg) : mayPan (SOp.nchk x) = false := rfl
theorem np_mkf (f : Fn) (a b : List Arg) : mayPan (SOp.mkf f a b) = false := rfl
theorem np_rng (x : Arg) : mayPan (SOp.rng x) = false := rfl
theorem np_nxt (x : Arg) : mayPan (SOp.nxt x) = false := rfl
theorem np_mks (n : Nat) (z : List Value) (x : Arg) : mayPan (SOp.mks n z x) = false := rfl
theorem np_lkp (b : Bool) (z : Value) (x i : Arg) : mayPan (SOp.lkp b z x i) = false := rfl
theorem np_mkI (t : TypeId) (x : Arg) : mayPan (SOp.mkI t x) = false := rfl
section
variable {P : Program} {g : Glob} {l : List SOper} {D : List Nat} {R : Value → ES → Prop} {s : ES}
theorem vp_opE {dst fp : Option Nat} {op : SOp} (h : op.isCall = false) (hm : mayPan op = false) : opsP P g D (⟨dst, none, fp, op⟩ :: l) R s = stepP P g D l R ⟨dst, none, fp, op⟩ s (effG P noC ⟨dst, none, fp, op⟩ s.fs) := by
  apply propext
  constructor
  · rintro (⟨h1, _⟩ | ⟨C, hC, e, he, hk⟩)
    · rw [hm] at h1; cases h1
    · rw [effG_noC h] at he
      rw [he]; exact hk
  · intro hk
    cases he : effG P noC ⟨dst, none, fp, op⟩ s.fs with
    | none => rw [he] at hk; exact hk.elim
    | some e => rw [he] at hk; exact .inr ⟨noC, noC_sound P g, e, he, hk⟩
def panW (x : Option TV) (D : List Nat) (R : Value → ES → Prop) (s : ES) : Prop := match x with
  | some (.pv (.v (.iface t v))) => R (.iface t v) (s.kill D)
  | _ => False
@[congr] theorem panW_congr {x x' : Option TV} (h : x = x') : panW x D R s = panW x' D R s := by rw [h]
theorem panW1 {t : TypeId} {v : Value} : panW (some (.pv (.v (.iface t v)))) D R s = R (.iface t v) (s.kill D) := rfl
theorem vp_panE {dst fp : Option Nat} {x : Arg} : opsP P g D (⟨dst, none, fp, .pan x⟩ :: l) R s = panW (x.get s.fs) D R s := by
  apply propext
  constructor
  · rintro (⟨_, z, u, ⟨_, h2, ⟨t, v, rfl⟩, rfl⟩, hk⟩ | ⟨C, hC, e, he, _⟩)
    · rw [h2]; exact hk
    · simp only [effG, effF] at he
      split at he
      · cases he
      · cases he
  · intro h
    unfold panW at h
    split at h
    · rename_i t v hx; exact vp_pan hx h
    · exact h.elim
end
end Go.Sh
end

section
/- Sh: a map that is laid by a literal. No statement of the program is proved here. -/
namespace Go.Sh
open Go Go.RowKit
set_option maxHeartbeats 2000000
def insAt (ops : Array Oper) (t m i : Nat) : Option (Operand × Operand) := match ops[i]? with
  | some o => match o.op, o.dst, o.guard with
    | .insert t' (.tmp m') k x, none, none => if Nat.beq t t' && Nat.beq m m' then some (k, x) else none
    | _, _, _ => none
  | none => none
def insAll (ops : Array Oper) (t m : Nat) : List Nat → Option (List (Operand × Operand))
  | [] => some []
  | i :: l => match insAt ops t m i, insAll ops t m l with
    | some p, some r => some (p :: r)
    | _, _ => none
def freshK (kd : TypeDesc) : List Value → List Value → Bool
  | _, [] => true
  | ks, k :: l => (match findKs kd k ks 0 with | some none => true | _ => false) && freshK kd (ks ++ [k]) l
structure MapTurn (b : Nat) (w w' : World) : Prop where
  os : w'.os = w.os
  tape : w'.tape = w.tape
  output : w'.output = w.output
  size : w'.heap.size = w.heap.size
  block : ∀ k, k ≠ b → w'.heap[k]? = w.heap[k]?
theorem MapTurn.refl (b : Nat) (w : World) : MapTurn b w w := ⟨rfl, rfl, rfl, rfl, fun _ _ => rfl⟩
theorem MapTurn.trans {b : Nat} {w w' w'' : World} (h : MapTurn b w w') (h' : MapTurn b w' w'') : MapTurn b w w'' :=
  ⟨h'.os.trans h.os, h'.tape.trans h.tape, h'.output.trans h.output, h'.size.trans h.size, fun k hk => (h'.block k hk).trans (h.block k hk)⟩
section
variable {P : Program} {ops : Array Oper} {Q : Exit → Act → World → Prop} {a : Act} {w : World} {t kt et : TypeId} {text : Bool} {m b : Nat}
theorem run_ins {es : Array MapEntry} {clock : Nat} {k v : Value} (ht : P.underlying t = some (.map kt et)) (hk : P.underlying kt = some (kdOf text)) (hb : w.heap[b]? = some (.map es clock)) (hf : findKs (kdOf text) k (es.toList.map MapEntry.key) 0 = some none) :
    ∃ w', (Instr.mapUpdate t (.map (some b)) k v).run P w = .ok () w' ∧ MapTurn b w w' ∧ w'.heap[b]? = some (.map (es.push { key := k, val := v, born := clock }) (clock + 1)) := by
  have hget := Go.MapKept.run_getObj_map (P := P) hb
  have h1 := findKs_none _ _ hf
  have hset := fun o => Go.MapKept.run_setObj_map (P := P) o hb
  refine ⟨{ w with heap := w.heap.setIfInBounds b (.map (es.push { key := k, val := v, born := clock }) (clock + 1)) }, by simp [Instr.mapUpdate, run_underlying ht, hget, checkKey_kd text _ _ hk, Instr.findKey, run_underlying hk, h1, hset, Result.andThen], ⟨rfl, rfl, rfl, by simp, fun j hj => ?_⟩, ?_⟩
  · simp [Array.getElem?_setIfInBounds, Ne.symm hj]
  · have hlt := (Array.getElem?_eq_some_iff.1 hb).1
    simp [hlt]
theorem wp_insAll (ht : P.underlying t = some (.map kt et)) (hk : P.underlying kt = some (kdOf text)) (hm : a.eval (.tmp m) = .map (some b)) : ∀ (l : List Nat) (kvs : List (Operand × Operand)) (rest : List Nat) (w : World) (es : Array MapEntry) (clock : Nat), insAll ops t m l = some kvs → w.heap[b]? = some (.map es clock) → freshK (kdOf text) (es.toList.map MapEntry.key) (kvs.map fun p => a.eval p.1) = true →
    (∀ (es' : Array MapEntry) (clock' : Nat) (w' : World), MapTurn b w w' → w'.heap[b]? = some (.map es' clock') → es'.toList.map MapEntry.key = es.toList.map MapEntry.key ++ (kvs.map fun p => a.eval p.1) → es'.toList.map MapEntry.val = es.toList.map MapEntry.val ++ (kvs.map fun p => a.eval p.2) → wpOps P ops Q rest a w') →
    wpOps P ops Q (l ++ rest) a w
  | [], kvs, rest, w, es, clock, h, hb, hf, hK => by
    simp only [insAll, Option.some.injEq] at h; subst h
    exact hK es clock w (.refl b w) hb (by simp) (by simp)
  | i :: l, kvs, rest, w, es, clock, h, hb, hf, hK => by
    simp only [insAll] at h
    split at h <;> try (cases h; done)
    rename_i p r hp hr
    cases h
    simp only [List.map_cons, freshK, Bool.and_eq_true] at hf
    obtain ⟨hf1, hf2⟩ := hf
    have hf1 : findKs (kdOf text) (a.eval p.1) (es.toList.map MapEntry.key) 0 = some none := by
      split at hf1
      · rename_i h1; exact h1
      · cases hf1
    unfold insAt at hp
    split at hp <;> try (cases hp; done)
    rename_i o ho
    split at hp <;> try (cases hp; done)
    rename_i t' m' k x hop hdst hg
    split at hp <;> try (cases hp; done)
    rename_i htm
    rw [Bool.and_eq_true] at htm
    obtain rfl := Nat.eq_of_beq_eq_true htm.1
    obtain rfl := Nat.eq_of_beq_eq_true htm.2
    cases hp
    obtain ⟨w1, hrun, hturn, hb1⟩ := run_ins (P := P) (v := a.eval x) ht hk hb hf1
    rw [List.cons_append, wpOps_cons]
    unfold wpOp
    simp only [ho]
    rw [if_pos (by simp [Region.wanted, hg])]
    refine .inl ?_
    unfold Oper.wp
    have hex : (execOp a.eval o).run P w = .ok .skip w1 := by simp [execOp, hop, hm, hrun, Result.andThen]
    rw [hex]
    show wpOps P ops Q (l ++ rest) (a.put o.dst undef) w1
    rw [hdst]
    refine wp_insAll ht hk hm l r rest w1 _ _ hr hb1 (by simpa using hf2) (fun es' clock' w' h1 h2 h3 h4 => hK es' clock' w' (hturn.trans h1) h2 (by rw [h3]; simp) (by rw [h4]; simp))
theorem wp_simple {i : Nat} {o : Oper} {v : Value} {w' : World} {K : Act → World → Prop} (ho : ops[i]? = some o) (hg : o.guard = none) (hr : (execOp a.eval o).run P w = .ok (.value v) w') (hk : K (a.put o.dst v) w') : wpOp P ops Q i K a w := by
  unfold wpOp
  simp only [ho]
  rw [if_pos (by simp [Region.wanted, hg])]
  refine .inl ?_
  unfold Oper.wp
  rw [hr]; exact hk
end
end Go.Sh
end

section
/- The code of some functions, as Sh has it (printed by a program). No statement of the program is proved here. -/
namespace Go.Sh.Cd1
open Go Go.Sh
set_option maxRecDepth 100000
abbrev c_moraineref03_Sign_0 : SCode := .reg [([], [⟨(some 2), none, none, .mov (.val (.int .i64 0))⟩])] [2]
abbrev c_moraineref03_Sign_1 : SCode := .reg [([], [⟨(some 8), none, none, .mov (.tmp 0)⟩, ⟨(some 9), none, none, .slen (.tmp 8)⟩, ⟨(some 10), none, none, .bin .eql 3 (.tmp 9) (.val (.int .i64 0))⟩])] [8, 9]
abbrev c_moraineref03_Sign_2 : SCode := .reg [([], [⟨(some 2), none, none, .mov (.val (.int .i64 0))⟩])] [0, 10]
abbrev c_moraineref03_Sign_3 : SCode := .reg [([], [⟨(some 11), none, none, .mov (.tmp 0)⟩, ⟨(some 12), none, none, .sidx (.tmp 11) (.val (.int .i64 0))⟩, ⟨(some 13), none, none, .cvi .i64 (.tmp 12)⟩, ⟨(some 3), none, none, .mov (.tmp 13)⟩])] [2, 10, 11, 12, 13]
abbrev c_moraineref03_Sign_4 : SCode := .reg [([], [⟨(some 14), none, none, .mov (.tmp 3)⟩, ⟨(some 15), none, none, .bin .lss 3 (.tmp 14) (.val (.int .i64 128))⟩])] [14]
abbrev c_moraineref03_Sign_5 : SCode := .reg [([], [⟨(some 2), none, none, .mov (.val (.int .i64 1))⟩])] [0, 3, 15]
abbrev c_moraineref03_Sign_6 : SCode := .reg [([], [⟨(some 4), none, none, .mov (.val (.int .i64 0))⟩])] [2, 15]
abbrev c_moraineref03_Sign_7 : SCode := .reg [([], [⟨(some 5), none, none, .mov (.val (.int .i64 128))⟩])] []
abbrev c_moraineref03_Sign_8 : SCode := .reg [([], [⟨(some 6), none, none, .mov (.val (.int .i64 191))⟩])] []
abbrev c_moraineref03_Sign_9 : SCode := .reg [([], [⟨(some 16), none, none, .mov (.tmp 3)⟩, ⟨(some 17), none, none, .bin .geq 3 (.tmp 16) (.val (.int .i64 194))⟩, ⟨(some 18), none, none, .mov (.tmp 17)⟩, ⟨(some 19), (some (18, true)), none, .mov (.tmp 3)⟩, ⟨(some 20), (some (18, true)), none, .bin .leq 3 (.tmp 19) (.val (.int .i64 223))⟩, ⟨(some 21), none, none, .pick (.tmp 18) (.tmp 20) (.val (.bool false))⟩])] [16, 17, 18, 19, 20]
abbrev c_moraineref03_Sign_10 : SCode := .reg [([], [⟨(some 4), none, none, .mov (.val (.int .i64 2))⟩])] [21]
abbrev c_moraineref03_Sign_11 : SCode := .reg [([], [⟨(some 22), none, none, .mov (.tmp 3)⟩, ⟨(some 23), none, none, .bin .geq 3 (.tmp 22) (.val (.int .i64 224))⟩, ⟨(some 24), none, none, .mov (.tmp 23)⟩, ⟨(some 25), (some (24, true)), none, .mov (.tmp 3)⟩, ⟨(some 26), (some (24, true)), none, .bin .leq 3 (.tmp 25) (.val (.int .i64 239))⟩, ⟨(some 27), none, none, .pick (.tmp 24) (.tmp 26) (.val (.bool false))⟩])] [21, 22, 23, 24, 25, 26]
abbrev c_moraineref03_Sign_12 : SCode := .reg [([], [⟨(some 4), none, none, .mov (.val (.int .i64 3))⟩])] [27]
abbrev c_moraineref03_Sign_13 : SCode := .reg [([], [⟨(some 28), none, none, .mov (.tmp 3)⟩, ⟨(some 29), none, none, .bin .geq 3 (.tmp 28) (.val (.int .i64 240))⟩, ⟨(some 30), none, none, .mov (.tmp 29)⟩, ⟨(some 31), (some (30, true)), none, .mov (.tmp 3)⟩, ⟨(some 32), (some (30, true)), none, .bin .leq 3 (.tmp 31) (.val (.int .i64 244))⟩, ⟨(some 33), none, none, .pick (.tmp 30) (.tmp 32) (.val (.bool false))⟩])] [27, 28, 29, 30, 31, 32]
abbrev c_moraineref03_Sign_14 : SCode := .reg [([], [⟨(some 4), none, none, .mov (.val (.int .i64 4))⟩])] [33]
abbrev c_moraineref03_Sign_15 : SCode := .reg [([], [⟨(some 34), none, none, .mov (.tmp 4)⟩, ⟨(some 35), none, none, .bin .eql 3 (.tmp 34) (.val (.int .i64 0))⟩, ⟨(some 36), none, none, .mov (.tmp 35)⟩, ⟨(some 37), (some (36, false)), none, .mov (.tmp 0)⟩, ⟨(some 38), (some (36, false)), none, .slen (.tmp 37)⟩, ⟨(some 39), (some (36, false)), none, .mov (.tmp 4)⟩, ⟨(some 40), (some (36, false)), none, .bin .lss 3 (.tmp 38) (.tmp 39)⟩, ⟨(some 41), none, none, .pick (.tmp 36) (.val (.bool true)) (.tmp 40)⟩])] [33, 34, 35, 36, 37, 38, 39, 40]
abbrev c_moraineref03_Sign_16 : SCode := .reg [([], [⟨(some 2), none, none, .mov (.val (.int .i64 0))⟩])] [0, 3, 4, 5, 6, 41]
abbrev c_moraineref03_Sign_17 : SCode := .reg [([], [⟨(some 42), none, none, .mov (.tmp 3)⟩])] [2, 3, 41]
abbrev c_moraineref03_Sign_18 : SCode := .reg [([], [⟨(some 44), none, none, .bin .eql 3 (.tmp 42) (.val (.int .i64 224))⟩, ⟨(some 43), none, none, .mov (.tmp 44)⟩])] [44]
abbrev c_moraineref03_Sign_19 : SCode := .reg [([], [⟨(some 5), none, none, .mov (.val (.int .i64 160))⟩])] [42, 43]
abbrev c_moraineref03_Sign_20 : SCode := .reg [([], [⟨(some 46), none, none, .bin .eql 3 (.tmp 42) (.val (.int .i64 237))⟩, ⟨(some 45), none, none, .mov (.tmp 46)⟩])] [43, 46]
abbrev c_moraineref03_Sign_21 : SCode := .reg [([], [⟨(some 6), none, none, .mov (.val (.int .i64 159))⟩])] [42, 45]
abbrev c_moraineref03_Sign_22 : SCode := .reg [([], [⟨(some 48), none, none, .bin .eql 3 (.tmp 42) (.val (.int .i64 240))⟩, ⟨(some 47), none, none, .mov (.tmp 48)⟩])] [45, 48]
abbrev c_moraineref03_Sign_23 : SCode := .reg [([], [⟨(some 5), none, none, .mov (.val (.int .i64 144))⟩])] [42, 47]
abbrev c_moraineref03_Sign_24 : SCode := .reg [([], [⟨(some 50), none, none, .bin .eql 3 (.tmp 42) (.val (.int .i64 244))⟩, ⟨(some 49), none, none, .mov (.tmp 50)⟩])] [42, 47, 50]
abbrev c_moraineref03_Sign_25 : SCode := .reg [([], [⟨(some 6), none, none, .mov (.val (.int .i64 143))⟩])] [49]
abbrev c_moraineref03_Sign_26 : SCode := .reg [([], [⟨(some 51), none, none, .mov (.tmp 0)⟩, ⟨(some 52), none, none, .sidx (.tmp 51) (.val (.int .i64 1))⟩, ⟨(some 53), none, none, .cvi .i64 (.tmp 52)⟩, ⟨(some 54), none, none, .mov (.tmp 5)⟩, ⟨(some 55), none, none, .bin .lss 3 (.tmp 53) (.tmp 54)⟩, ⟨(some 56), none, none, .mov (.tmp 55)⟩, ⟨(some 57), (some (56, false)), none, .mov (.tmp 0)⟩, ⟨(some 58), (some (56, false)), none, .sidx (.tmp 57) (.val (.int .i64 1))⟩, ⟨(some 59), (some (56, false)), none, .cvi .i64 (.tmp 58)⟩, ⟨(some 60), (some (56, false)), none, .mov (.tmp 6)⟩, ⟨(some 61), (some (56, false)), none, .bin .gtr 3 (.tmp 59) (.tmp 60)⟩, ⟨(some 62), none, none, .pick (.tmp 56) (.val (.bool true)) (.tmp 61)⟩])] [5, 6, 49, 51, 52, 53, 54, 55, 56, 57, 58, 59, 60, 61]
abbrev c_moraineref03_Sign_27 : SCode := .reg [([], [⟨(some 2), none, none, .mov (.val (.int .i64 0))⟩])] [0, 4, 62]
abbrev c_moraineref03_Sign_28 : SCode := .reg [([], [⟨(some 7), none, none, .mov (.val (.int .i64 2))⟩])] [2, 62]
abbrev c_moraineref03_Sign_29 : SCode := .reg [([], [⟨(some 63), none, none, .mov (.tmp 7)⟩, ⟨(some 64), none, none, .mov (.tmp 4)⟩, ⟨(some 65), none, none, .bin .lss 3 (.tmp 63) (.tmp 64)⟩])] [63, 64]
abbrev c_moraineref03_Sign_30 : SCode := .reg [([], [⟨(some 68), none, none, .mov (.tmp 0)⟩, ⟨(some 69), none, none, .mov (.tmp 7)⟩, ⟨(some 70), none, none, .sidx (.tmp 68) (.tmp 69)⟩, ⟨(some 71), none, none, .bin .lss 5 (.tmp 70) (.val (.int .u8 128))⟩, ⟨(some 72), none, none, .mov (.tmp 71)⟩, ⟨(some 73), (some (72, false)), none, .mov (.tmp 0)⟩, ⟨(some 74), (some (72, false)), none, .mov (.tmp 7)⟩, ⟨(some 75), (some (72, false)), none, .sidx (.tmp 73) (.tmp 74)⟩, ⟨(some 76), (some (72, false)), none, .bin .gtr 5 (.tmp 75) (.val (.int .u8 191))⟩, ⟨(some 77), none, none, .pick (.tmp 72) (.val (.bool true)) (.tmp 76)⟩])] [65, 68, 69, 70, 71, 72, 73, 74, 75, 76]
abbrev c_moraineref03_Sign_31 : SCode := .reg [([], [⟨(some 2), none, none, .mov (.val (.int .i64 0))⟩])] [0, 4, 7, 77]
abbrev c_moraineref03_Sign_32 : SCode := .reg [([], [⟨(some 66), none, none, .mov (.tmp 7)⟩, ⟨(some 67), none, none, .bin .add 3 (.tmp 66) (.val (.int .i64 1))⟩, ⟨(some 7), none, none, .mov (.tmp 67)⟩])] [2, 66, 67, 77]
abbrev c_moraineref03_Sign_33 : SCode := (.seq (.seq c_moraineref03_Sign_29 (.cond (.tmp 65) .skip (.exit 1))) (.seq (.block 2 (.seq c_moraineref03_Sign_30 (.cond (.tmp 77) (.seq c_moraineref03_Sign_31 .ret) .skip))) c_moraineref03_Sign_32))
abbrev c_moraineref03_Sign_34 : SCode := .reg [([], [⟨(some 78), none, none, .mov (.tmp 4)⟩, ⟨(some 2), none, none, .mov (.tmp 78)⟩])] [0, 4, 7, 78]
abbrev F_moraineref03_Sign : SFunc := ⟨79, (.seq c_moraineref03_Sign_0 (.seq (.seq c_moraineref03_Sign_1 (.cond (.tmp 10) (.seq c_moraineref03_Sign_2 .ret) .skip)) (.seq c_moraineref03_Sign_3 (.seq (.seq c_moraineref03_Sign_4 (.cond (.tmp 15) (.seq c_moraineref03_Sign_5 .ret) .skip)) (.seq c_moraineref03_Sign_6 (.seq c_moraineref03_Sign_7 (.seq c_moraineref03_Sign_8 (.seq (.seq c_moraineref03_Sign_9 (.cond (.tmp 21) c_moraineref03_Sign_10 .skip)) (.seq (.seq c_moraineref03_Sign_11 (.cond (.tmp 27) c_moraineref03_Sign_12 .skip)) (.seq (.seq c_moraineref03_Sign_13 (.cond (.tmp 33) c_moraineref03_Sign_14 .skip)) (.seq (.seq c_moraineref03_Sign_15 (.cond (.tmp 41) (.seq c_moraineref03_Sign_16 .ret) .skip)) (.seq (.seq c_moraineref03_Sign_17 (.block 0 (.seq c_moraineref03_Sign_18 (.cond (.tmp 43) c_moraineref03_Sign_19 (.seq c_moraineref03_Sign_20 (.cond (.tmp 45) c_moraineref03_Sign_21 (.seq c_moraineref03_Sign_22 (.cond (.tmp 47) c_moraineref03_Sign_23 (.seq c_moraineref03_Sign_24 (.cond (.tmp 49) c_moraineref03_Sign_25 .skip)))))))))) (.seq (.seq c_moraineref03_Sign_26 (.cond (.tmp 62) (.seq c_moraineref03_Sign_27 .ret) .skip)) (.seq (.seq c_moraineref03_Sign_28 (.block 1 (.loop c_moraineref03_Sign_33))) (.seq c_moraineref03_Sign_34 .ret))))))))))))))), [.tmp 2], false⟩
theorem tf_moraineref03_Sign : transFunc Go.Proofs.Tryz.prog 51 (hintT []) (fpT []) (killT [(0, [2]), (1, [8, 9]), (2, [0, 10]), (3, [2, 10, 11, 12, 13]), (4, [14]), (5, [0, 3, 15]), (6, [2, 15]), (9, [16, 17, 18, 19, 20]), (10, [21]), (11, [21, 22, 23, 24, 25, 26]), (12, [27]), (13, [27, 28, 29, 30, 31, 32]), (14, [33]), (15, [33, 34, 35, 36, 37, 38, 39, 40]), (16, [0, 3, 4, 5, 6, 41]), (17, [2, 3, 41]), (18, [44]), (19, [42, 43]), (20, [43, 46]), (21, [42, 45]), (22, [45, 48]), (23, [42, 47]), (24, [42, 47, 50]), (25, [49]), (26, [5, 6, 49, 51, 52, 53, 54, 55, 56, 57, 58, 59, 60, 61]), (27, [0, 4, 62]), (28, [2, 62]), (29, [63, 64]), (31, [65, 68, 69, 70, 71, 72, 73, 74, 75, 76]), (32, [0, 4, 7, 77]), (30, [2, 66, 67, 77]), (33, [0, 4, 7, 78])]) false = some F_moraineref03_Sign := by kernel_rfl
abbrev c_val_Right_0 : SCode := .reg [([1], [⟨(some 1), none, none, .box (.tmp 0)⟩, ⟨(some 2), none, none, .mov (.val (.bool false))⟩])] [0, 2]
abbrev c_val_Right_1 : SCode := .reg [([], [⟨(some 3), none, none, .fldA 0 (.tmp 1)⟩, ⟨(some 4), none, none, .ld false 1 (.tmp 3)⟩])] [3]
abbrev c_val_Right_2 : SCode := .reg [([], [⟨(some 6), none, none, .bin .eql 3 (.tmp 4) (.val (.int .i64 0))⟩, ⟨(some 5), none, none, .mov (.tmp 6)⟩])] [6]
abbrev c_val_Right_3 : SCode := .reg [([2032, 2033, 2034, 2035], [⟨(some 7), none, none, .ld true 4 (.tmp 1)⟩, ⟨(some 8), none, none, .call 90 0 [(.tmp 7)]⟩, ⟨(some 9), none, none, .mov (.tmp 8)⟩, ⟨(some 10), (some (9, true)), none, .fldA 1 (.tmp 1)⟩, ⟨(some 11), (some (9, true)), none, .ld false 1 (.tmp 10)⟩, ⟨(some 12), (some (9, true)), none, .bin .eql 3 (.tmp 11) (.val (.int .i64 0))⟩, ⟨(some 13), none, none, .pick (.tmp 9) (.tmp 12) (.val (.bool false))⟩, ⟨(some 2), none, none, .mov (.tmp 13)⟩])] [1, 4, 5, 7, 8, 9, 10, 11, 12, 13]
abbrev c_val_Right_4 : SCode := .reg [([], [⟨(some 15), none, none, .bin .eql 3 (.tmp 4) (.val (.int .i64 1))⟩, ⟨(some 14), none, none, .mov (.tmp 15)⟩])] [5, 15]
abbrev c_val_Right_5 : SCode := .reg [([2068, 2069, 2070, 2071], [⟨(some 16), none, none, .ld true 4 (.tmp 1)⟩, ⟨(some 17), none, none, .call 90 0 [(.tmp 16)]⟩, ⟨(some 18), none, none, .mov (.tmp 17)⟩, ⟨(some 19), (some (18, true)), none, .fldA 1 (.tmp 1)⟩, ⟨(some 20), (some (18, true)), none, .ld false 1 (.tmp 19)⟩, ⟨(some 21), (some (18, true)), none, .bin .geq 3 (.tmp 20) (.val (.int .i64 (-1000000000000000)))⟩, ⟨(some 22), none, none, .pick (.tmp 18) (.tmp 21) (.val (.bool false))⟩, ⟨(some 23), none, none, .mov (.tmp 22)⟩, ⟨(some 24), (some (23, true)), none, .fldA 1 (.tmp 1)⟩, ⟨(some 25), (some (23, true)), none, .ld false 1 (.tmp 24)⟩, ⟨(some 26), (some (23, true)), none, .bin .leq 3 (.tmp 25) (.val (.int .i64 1000000000000000))⟩, ⟨(some 27), none, none, .pick (.tmp 23) (.tmp 26) (.val (.bool false))⟩, ⟨(some 2), none, none, .mov (.tmp 27)⟩])] [1, 4, 14, 16, 17, 18, 19, 20, 21, 22, 23, 24, 25, 26, 27]
abbrev c_val_Right_6 : SCode := .reg [([], [⟨(some 29), none, none, .bin .eql 3 (.tmp 4) (.val (.int .i64 2))⟩, ⟨(some 28), none, none, .mov (.tmp 29)⟩])] [14, 29]
abbrev c_val_Right_7 : SCode := .reg [([2168, 2169, 2170, 2171], [⟨(some 30), none, none, .fldA 1 (.tmp 1)⟩, ⟨(some 31), none, none, .ld false 1 (.tmp 30)⟩, ⟨(some 32), none, none, .bin .eql 3 (.tmp 31) (.val (.int .i64 0))⟩, ⟨(some 33), none, none, .mov (.tmp 32)⟩, ⟨(some 34), (some (33, true)), none, .fldA 3 (.tmp 1)⟩, ⟨(some 35), (some (33, true)), none, .ld false 1 (.tmp 34)⟩, ⟨(some 36), (some (33, true)), none, .len (.tmp 35)⟩, ⟨(some 37), (some (33, true)), none, .bin .eql 3 (.tmp 36) (.val (.int .i64 0))⟩, ⟨(some 38), none, none, .pick (.tmp 33) (.tmp 37) (.val (.bool false))⟩, ⟨(some 39), none, none, .mov (.tmp 38)⟩, ⟨(some 40), (some (39, true)), none, .fldA 2 (.tmp 1)⟩, ⟨(some 41), (some (39, true)), none, .ld false 1 (.tmp 40)⟩, ⟨(some 42), (some (39, true)), none, .call 91 0 [(.tmp 41)]⟩, ⟨(some 43), none, none, .pick (.tmp 39) (.tmp 42) (.val (.bool false))⟩, ⟨(some 2), none, none, .mov (.tmp 43)⟩])] [1, 4, 28, 30, 31, 32, 33, 34, 35, 36, 37, 38, 39, 40, 41, 42, 43]
abbrev c_val_Right_8 : SCode := .reg [([], [⟨(some 45), none, none, .bin .eql 3 (.tmp 4) (.val (.int .i64 3))⟩, ⟨(some 44), none, none, .mov (.tmp 45)⟩])] [28, 45]
abbrev c_val_Right_9 : SCode := .reg [([], [⟨(some 46), none, none, .bin .eql 3 (.tmp 4) (.val (.int .i64 4))⟩, ⟨(some 44), none, none, .mov (.tmp 46)⟩])] [46]
abbrev c_val_Right_10 : SCode := .reg [([2192, 2193, 2194, 2195, 2208, 2209, 2210, 2211], [⟨(some 47), none, none, .ld true 4 (.tmp 1)⟩, ⟨(some 48), none, none, .call 90 0 [(.tmp 47)]⟩, ⟨(some 49), none, none, .mov (.tmp 48)⟩, ⟨(some 50), (some (49, true)), none, .fldA 1 (.tmp 1)⟩, ⟨(some 51), (some (49, true)), none, .ld false 1 (.tmp 50)⟩, ⟨(some 52), (some (49, true)), none, .call 92 0 [(.tmp 51)]⟩, ⟨(some 53), none, none, .pick (.tmp 49) (.tmp 52) (.val (.bool false))⟩, ⟨(some 2), none, none, .mov (.tmp 53)⟩])] [1, 4, 44, 47, 48, 49, 50, 51, 52, 53]
abbrev c_val_Right_11 : SCode := .reg [([], [⟨(some 55), none, none, .bin .eql 3 (.tmp 4) (.val (.int .i64 5))⟩, ⟨(some 54), none, none, .mov (.tmp 55)⟩])] [4, 44, 55]
abbrev c_val_Right_12 : SCode := .reg [([2292, 2293, 2294, 2295], [⟨(some 56), none, none, .fldA 1 (.tmp 1)⟩, ⟨(some 57), none, none, .ld false 1 (.tmp 56)⟩, ⟨(some 58), none, none, .bin .eql 3 (.tmp 57) (.val (.int .i64 0))⟩, ⟨(some 59), none, none, .mov (.tmp 58)⟩, ⟨(some 60), (some (59, true)), none, .fldA 2 (.tmp 1)⟩, ⟨(some 61), (some (59, true)), none, .ld false 1 (.tmp 60)⟩, ⟨(some 62), (some (59, true)), none, .bin .eql 9 (.tmp 61) (.val (.string ⟨#[]⟩))⟩, ⟨(some 63), none, none, .pick (.tmp 59) (.tmp 62) (.val (.bool false))⟩, ⟨(some 64), none, none, .mov (.tmp 63)⟩, ⟨(some 65), (some (64, true)), none, .fldA 3 (.tmp 1)⟩, ⟨(some 66), (some (64, true)), none, .ld false 1 (.tmp 65)⟩, ⟨(some 67), (some (64, true)), none, .len (.tmp 66)⟩, ⟨(some 68), (some (64, true)), none, .bin .leq 3 (.tmp 67) (.val (.int .i64 12))⟩, ⟨(some 69), none, none, .pick (.tmp 64) (.tmp 68) (.val (.bool false))⟩, ⟨(some 70), none, none, .mov (.tmp 69)⟩, ⟨(some 71), (some (70, true)), none, .fldA 3 (.tmp 1)⟩, ⟨(some 72), (some (70, true)), none, .ld false 1 (.tmp 71)⟩, ⟨(some 73), (some (70, true)), none, .call 93 1 [(.tmp 72), (.val (.func (.func 94) #[] #[]))]⟩, ⟨(some 74), (some (70, true)), none, .un .not (.tmp 73)⟩, ⟨(some 75), none, none, .pick (.tmp 70) (.tmp 74) (.val (.bool false))⟩, ⟨(some 2), none, none, .mov (.tmp 75)⟩])] [1, 54, 56, 57, 58, 59, 60, 61, 62, 63, 64, 65, 66, 67, 68, 69, 70, 71, 72, 73, 74, 75]
abbrev c_val_Right_13 : SCode := .reg [([], [⟨(some 2), none, none, .mov (.val (.bool false))⟩])] [1, 54]
abbrev F_val_Right : SFunc := ⟨76, (.seq c_val_Right_0 (.seq (.seq c_val_Right_1 (.block 0 (.seq c_val_Right_2 (.cond (.tmp 5) (.seq c_val_Right_3 .ret) (.seq c_val_Right_4 (.cond (.tmp 14) (.seq c_val_Right_5 .ret) (.seq c_val_Right_6 (.cond (.tmp 28) (.seq c_val_Right_7 .ret) (.seq (.seq c_val_Right_8 (.cond (.tmp 44) .skip c_val_Right_9)) (.cond (.tmp 44) (.seq c_val_Right_10 .ret) (.seq c_val_Right_11 (.cond (.tmp 54) (.seq c_val_Right_12 .ret) .skip)))))))))))) (.seq c_val_Right_13 .ret))), [.tmp 2], false⟩
theorem tf_val_Right : transFunc Go.Proofs.Tryz.prog 52 (hintT [(8, 0), (17, 0), (42, 0), (48, 0), (52, 0), (73, 1)]) (fpT []) (killT [(0, [0, 2]), (1, [3]), (2, [6]), (3, [1, 4, 5, 7, 8, 9, 10, 11, 12, 13]), (4, [5, 15]), (5, [1, 4, 14, 16, 17, 18, 19, 20, 21, 22, 23, 24, 25, 26, 27]), (6, [14, 29]), (7, [1, 4, 28, 30, 31, 32, 33, 34, 35, 36, 37, 38, 39, 40, 41, 42, 43]), (8, [28, 45]), (9, [46]), (10, [1, 4, 44, 47, 48, 49, 50, 51, 52, 53]), (11, [4, 44, 55]), (12, [1, 54, 56, 57, 58, 59, 60, 61, 62, 63, 64, 65, 66, 67, 68, 69, 70, 71, 72, 73, 74, 75]), (13, [1, 54])]) false = some F_val_Right := by kernel_rfl
abbrev c_val_Fits_0 : SCode := .reg [([2, 3], [⟨(some 2), none, none, .box (.tmp 0)⟩, ⟨(some 3), none, none, .box (.tmp 1)⟩, ⟨(some 4), none, none, .mov (.val (.bool false))⟩])] [0, 1, 4]
abbrev c_val_Fits_1 : SCode := .reg [([2024, 2025, 2026, 2027, 2040, 2041, 2042, 2043, 2068, 2069, 2070, 2071], [⟨(some 5), none, none, .ld true 4 (.tmp 2)⟩, ⟨(some 6), none, none, .call 52 0 [(.tmp 5)]⟩, ⟨(some 7), none, none, .un .not (.tmp 6)⟩, ⟨(some 8), none, none, .mov (.tmp 7)⟩, ⟨(some 9), (some (8, false)), none, .ld true 2 (.tmp 3)⟩, ⟨(some 10), (some (8, false)), none, .call 96 0 [(.tmp 9)]⟩, ⟨(some 11), (some (8, false)), none, .un .not (.tmp 10)⟩, ⟨(some 12), none, none, .pick (.tmp 8) (.val (.bool true)) (.tmp 11)⟩, ⟨(some 13), none, none, .mov (.tmp 12)⟩, ⟨(some 14), (some (13, false)), none, .ld true 4 (.tmp 2)⟩, ⟨(some 15), (some (13, false)), none, .fldA 0 (.tmp 3)⟩, ⟨(some 16), (some (13, false)), none, .ld false 1 (.tmp 15)⟩, ⟨(some 17), (some (13, false)), none, .call 97 0 [(.tmp 14), (.tmp 16)]⟩, ⟨(some 18), (some (13, false)), none, .un .not (.tmp 17)⟩, ⟨(some 19), none, none, .pick (.tmp 13) (.val (.bool true)) (.tmp 18)⟩])] [5, 6, 7, 8, 9, 10, 11, 12, 13, 14, 15, 16, 17, 18]
abbrev c_val_Fits_2 : SCode := .reg [([], [⟨(some 4), none, none, .mov (.val (.bool false))⟩])] [2, 3, 19]
abbrev c_val_Fits_3 : SCode := .reg [([2092, 2093, 2094, 2095], [⟨(some 20), none, none, .fldA 3 (.tmp 2)⟩, ⟨(some 21), none, none, .ld false 1 (.tmp 20)⟩, ⟨(some 22), none, none, .mkf (.func 98) [] [(.tmp 3)]⟩, ⟨(some 23), none, none, .call 93 1 [(.tmp 21), (.tmp 22)]⟩, ⟨(some 24), none, none, .un .not (.tmp 23)⟩, ⟨(some 4), none, none, .mov (.tmp 24)⟩])] [2, 3, 19, 20, 21, 22, 23, 24]
abbrev F_val_Fits : SFunc := ⟨25, (.seq c_val_Fits_0 (.seq (.seq c_val_Fits_1 (.cond (.tmp 19) (.seq c_val_Fits_2 .ret) .skip)) (.seq c_val_Fits_3 .ret))), [.tmp 4], false⟩
theorem tf_val_Fits : transFunc Go.Proofs.Tryz.prog 56 (hintT [(6, 0), (10, 0), (17, 0), (23, 1)]) (fpT []) (killT [(0, [0, 1, 4]), (1, [5, 6, 7, 8, 9, 10, 11, 12, 13, 14, 15, 16, 17, 18]), (2, [2, 3, 19]), (3, [2, 3, 19, 20, 21, 22, 23, 24])]) false = some F_val_Fits := by kernel_rfl
abbrev c_moraineref03_IsText_0 : SCode := .reg [([], [⟨(some 2), none, none, .mov (.val (.bool false))⟩])] [2]
abbrev c_moraineref03_IsText_1 : SCode := .reg [([], [⟨(some 3), none, none, .mov (.val (.int .i64 0))⟩])] []
abbrev c_moraineref03_IsText_2 : SCode := .reg [([], [⟨(some 5), none, none, .mov (.tmp 3)⟩, ⟨(some 6), none, none, .mov (.tmp 0)⟩, ⟨(some 7), none, none, .slen (.tmp 6)⟩, ⟨(some 8), none, none, .bin .lss 3 (.tmp 5) (.tmp 7)⟩])] [5, 6, 7]
abbrev c_moraineref03_IsText_3 : SCode := .reg [([2048, 2049, 2050, 2051], [⟨(some 9), none, none, .mov (.tmp 0)⟩, ⟨(some 10), none, none, .mov (.tmp 3)⟩, ⟨(some 11), none, none, .ssub (.tmp 9) (some (.tmp 10)) none⟩, ⟨(some 12), none, none, .call 51 0 [(.tmp 11)]⟩, ⟨(some 4), none, none, .mov (.tmp 12)⟩])] [8, 9, 10, 11, 12]
abbrev c_moraineref03_IsText_4 : SCode := .reg [([], [⟨(some 13), none, none, .mov (.tmp 4)⟩, ⟨(some 14), none, none, .bin .eql 3 (.tmp 13) (.val (.int .i64 0))⟩, ⟨(some 15), none, none, .mov (.tmp 14)⟩, ⟨(some 16), (some (15, false)), none, .mov (.tmp 0)⟩, ⟨(some 17), (some (15, false)), none, .mov (.tmp 3)⟩, ⟨(some 18), (some (15, false)), none, .sidx (.tmp 16) (.tmp 17)⟩, ⟨(some 19), (some (15, false)), none, .bin .lss 5 (.tmp 18) (.val (.int .u8 32))⟩, ⟨(some 20), none, none, .pick (.tmp 15) (.val (.bool true)) (.tmp 19)⟩, ⟨(some 21), none, none, .mov (.tmp 20)⟩, ⟨(some 22), (some (21, false)), none, .mov (.tmp 0)⟩, ⟨(some 23), (some (21, false)), none, .mov (.tmp 3)⟩, ⟨(some 24), (some (21, false)), none, .sidx (.tmp 22) (.tmp 23)⟩, ⟨(some 25), (some (21, false)), none, .bin .eql 5 (.tmp 24) (.val (.int .u8 127))⟩, ⟨(some 26), none, none, .pick (.tmp 21) (.val (.bool true)) (.tmp 25)⟩])] [13, 14, 15, 16, 17, 18, 19, 20, 21, 22, 23, 24, 25]
abbrev c_moraineref03_IsText_5 : SCode := .reg [([], [⟨(some 2), none, none, .mov (.val (.bool false))⟩])] [0, 3, 4, 26]
abbrev c_moraineref03_IsText_6 : SCode := .reg [([], [⟨(some 27), none, none, .mov (.tmp 3)⟩, ⟨(some 28), none, none, .mov (.tmp 4)⟩, ⟨(some 29), none, none, .bin .add 3 (.tmp 27) (.tmp 28)⟩, ⟨(some 3), none, none, .mov (.tmp 29)⟩])] [2, 4, 26, 27, 28, 29]
abbrev c_moraineref03_IsText_7 : SCode := (.seq (.seq c_moraineref03_IsText_2 (.cond (.tmp 8) .skip (.exit 0))) (.block 1 (.seq c_moraineref03_IsText_3 (.seq (.seq c_moraineref03_IsText_4 (.cond (.tmp 26) (.seq c_moraineref03_IsText_5 .ret) .skip)) c_moraineref03_IsText_6))))
abbrev c_moraineref03_IsText_8 : SCode := .reg [([], [⟨(some 2), none, none, .mov (.val (.bool true))⟩])] [0, 3]
abbrev F_moraineref03_IsText : SFunc := ⟨30, (.seq c_moraineref03_IsText_0 (.seq (.seq c_moraineref03_IsText_1 (.block 0 (.loop c_moraineref03_IsText_7))) (.seq c_moraineref03_IsText_8 .ret))), [.tmp 2], false⟩
theorem tf_moraineref03_IsText : transFunc Go.Proofs.Tryz.prog 87 (hintT [(12, 0)]) (fpT []) (killT [(0, [2]), (2, [5, 6, 7]), (3, [8, 9, 10, 11, 12]), (4, [13, 14, 15, 16, 17, 18, 19, 20, 21, 22, 23, 24, 25]), (5, [0, 3, 4, 26]), (6, [2, 4, 26, 27, 28, 29]), (7, [0, 3])]) false = some F_moraineref03_IsText := by kernel_rfl
abbrev c_morainelaw03_pick_0 : SCode := .reg [([], [⟨(some 4), none, none, .mov (.val (.int .i64 0))⟩])] [4]
abbrev c_morainelaw03_pick_1 : SCode := .reg [([], [⟨(some 5), none, none, .mov (.tmp 0)⟩, ⟨(some 6), none, none, .bin .lss 3 (.tmp 5) (.val (.int .i64 0))⟩])] [5]
abbrev c_morainelaw03_pick_2 : SCode := .reg [([], [⟨(some 7), none, none, .mov (.tmp 0)⟩, ⟨(some 8), none, none, .bin .add 3 (.tmp 7) (.val (.int .i64 1))⟩, ⟨(some 9), none, none, .un .neg (.tmp 8)⟩, ⟨(some 0), none, none, .mov (.tmp 9)⟩])] [6, 7, 8, 9]
abbrev c_morainelaw03_pick_3 : SCode := .reg [([], [⟨(some 10), none, none, .mov (.tmp 0)⟩, ⟨(some 11), none, none, .mov (.tmp 1)⟩, ⟨(some 12), none, none, .bin .rem 3 (.tmp 10) (.tmp 11)⟩, ⟨(some 4), none, none, .mov (.tmp 12)⟩])] [0, 1, 6, 10, 11, 12]
abbrev F_morainelaw03_pick : SFunc := ⟨13, (.seq c_morainelaw03_pick_0 (.seq (.seq c_morainelaw03_pick_1 (.cond (.tmp 6) c_morainelaw03_pick_2 .skip)) (.seq c_morainelaw03_pick_3 .ret))), [.tmp 4], false⟩
theorem tf_morainelaw03_pick : transFunc Go.Proofs.Tryz.prog 88 (hintT []) (fpT []) (killT [(0, [4]), (1, [5]), (2, [6, 7, 8, 9]), (3, [0, 1, 6, 10, 11, 12])]) false = some F_morainelaw03_pick := by kernel_rfl
abbrev c_val_bare_0 : SCode := .reg [([1], [⟨(some 1), none, none, .box (.tmp 0)⟩, ⟨(some 2), none, none, .mov (.val (.bool false))⟩])] [0, 2]
abbrev c_val_bare_1 : SCode := .reg [([], [⟨(some 3), none, none, .fldA 2 (.tmp 1)⟩, ⟨(some 4), none, none, .ld false 1 (.tmp 3)⟩, ⟨(some 5), none, none, .bin .eql 9 (.tmp 4) (.val (.string ⟨#[]⟩))⟩, ⟨(some 6), none, none, .mov (.tmp 5)⟩, ⟨(some 7), (some (6, true)), none, .fldA 3 (.tmp 1)⟩, ⟨(some 8), (some (6, true)), none, .ld false 1 (.tmp 7)⟩, ⟨(some 9), (some (6, true)), none, .len (.tmp 8)⟩, ⟨(some 10), (some (6, true)), none, .bin .eql 3 (.tmp 9) (.val (.int .i64 0))⟩, ⟨(some 11), none, none, .pick (.tmp 6) (.tmp 10) (.val (.bool false))⟩, ⟨(some 2), none, none, .mov (.tmp 11)⟩])] [1, 3, 4, 5, 6, 7, 8, 9, 10, 11]
abbrev F_val_bare : SFunc := ⟨12, (.seq c_val_bare_0 (.seq c_val_bare_1 .ret)), [.tmp 2], false⟩
theorem tf_val_bare : transFunc Go.Proofs.Tryz.prog 90 (hintT []) (fpT []) (killT [(0, [0, 2]), (1, [1, 3, 4, 5, 6, 7, 8, 9, 10, 11])]) false = some F_val_bare := by kernel_rfl
abbrev c_val_rightText_0 : SCode := .reg [([], [⟨(some 2), none, none, .mov (.val (.bool false))⟩])] [2]
abbrev c_val_rightText_1 : SCode := .reg [([2040, 2041, 2042, 2043], [⟨(some 5), none, none, .mov (.tmp 0)⟩, ⟨(some 6), none, none, .slen (.tmp 5)⟩, ⟨(some 7), none, none, .bin .gtr 3 (.tmp 6) (.val (.int .i64 60))⟩, ⟨(some 8), none, none, .mov (.tmp 7)⟩, ⟨(some 9), (some (8, false)), none, .mov (.tmp 0)⟩, ⟨(some 10), (some (8, false)), none, .call 160 0 [(.tmp 9)]⟩, ⟨(some 11), (some (8, false)), none, .un .not (.tmp 10)⟩, ⟨(some 12), none, none, .pick (.tmp 8) (.val (.bool true)) (.tmp 11)⟩])] [5, 6, 7, 8, 9, 10, 11]
abbrev c_val_rightText_2 : SCode := .reg [([], [⟨(some 2), none, none, .mov (.val (.bool false))⟩])] [0, 12]
abbrev c_val_rightText_3 : SCode := .reg [([14], [⟨(some 13), none, none, .mov (.tmp 0)⟩, ⟨(some 14), none, none, .rng (.tmp 13)⟩])] [0, 2, 12, 13]
abbrev c_val_rightText_4 : SCode := .reg [([], [⟨(some 15), none, none, .nxt (.tmp 14)⟩, ⟨(some 16), none, none, .ext (.tmp 15) 0⟩])] []
abbrev c_val_rightText_5 : SCode := .reg [([], [⟨(some 17), none, none, .ext (.tmp 15) 2⟩, ⟨(some 4), none, none, .mov (.tmp 17)⟩])] [15, 16, 17]
abbrev c_val_rightText_6 : SCode := .reg [([2076, 2077, 2078, 2079], [⟨(some 18), none, none, .mov (.tmp 4)⟩, ⟨(some 19), none, none, .call 161 0 [(.tmp 18)]⟩, ⟨(some 20), none, none, .un .not (.tmp 19)⟩])] [4, 18, 19]
abbrev c_val_rightText_7 : SCode := .reg [([], [⟨(some 2), none, none, .mov (.val (.bool false))⟩])] [14, 20]
abbrev c_val_rightText_8 : SCode := (.seq c_val_rightText_4 (.seq (.cond (.tmp 16) .skip (.exit 0)) (.block 1 (.seq c_val_rightText_5 (.seq c_val_rightText_6 (.cond (.tmp 20) (.seq c_val_rightText_7 .ret) .skip))))))
abbrev c_val_rightText_9 : SCode := .reg [([], [⟨(some 2), none, none, .mov (.val (.bool true))⟩])] [14]
abbrev F_val_rightText : SFunc := ⟨21, (.seq c_val_rightText_0 (.seq (.seq c_val_rightText_1 (.cond (.tmp 12) (.seq c_val_rightText_2 .ret) .skip)) (.seq (.seq c_val_rightText_3 (.block 0 (.loop c_val_rightText_8))) (.seq c_val_rightText_9 .ret)))), [.tmp 2], false⟩
theorem tf_val_rightText : transFunc Go.Proofs.Tryz.prog 91 (hintT [(10, 0), (19, 0)]) (fpT []) (killT [(0, [2]), (1, [5, 6, 7, 8, 9, 10, 11]), (2, [0, 12]), (3, [0, 2, 12, 13]), (5, [15, 16, 17]), (6, [4, 18, 19]), (7, [14, 20]), (8, [14])]) false = some F_val_rightText := by kernel_rfl
abbrev c_val_rightID_0 : SCode := .reg [([], [⟨(some 2), none, none, .mov (.val (.bool false))⟩])] [2]
abbrev c_val_rightID_1 : SCode := .reg [([], [⟨(some 3), none, none, .mov (.tmp 0)⟩, ⟨(some 4), none, none, .bin .geq 3 (.tmp 3) (.val (.int .i64 1))⟩, ⟨(some 5), none, none, .mov (.tmp 4)⟩, ⟨(some 6), (some (5, true)), none, .mov (.tmp 0)⟩, ⟨(some 7), (some (5, true)), none, .bin .leq 3 (.tmp 6) (.val (.int .i64 100000))⟩, ⟨(some 8), none, none, .pick (.tmp 5) (.tmp 7) (.val (.bool false))⟩, ⟨(some 9), none, none, .mov (.tmp 8)⟩, ⟨(some 10), (some (9, false)), none, .mov (.tmp 0)⟩, ⟨(some 11), (some (9, false)), none, .bin .geq 3 (.tmp 10) (.val (.int .i64 (-20)))⟩, ⟨(some 12), (some (9, false)), none, .mov (.tmp 11)⟩, ⟨(some 13), (some (12, true)), none, .mov (.tmp 0)⟩, ⟨(some 14), (some (12, true)), none, .bin .leq 3 (.tmp 13) (.val (.int .i64 (-1)))⟩, ⟨(some 15), (some (9, false)), none, .pick (.tmp 12) (.tmp 14) (.val (.bool false))⟩, ⟨(some 16), none, none, .pick (.tmp 9) (.val (.bool true)) (.tmp 15)⟩, ⟨(some 2), none, none, .mov (.tmp 16)⟩])] [0, 3, 4, 5, 6, 7, 8, 9, 10, 11, 12, 13, 14, 15, 16]
abbrev F_val_rightID : SFunc := ⟨17, (.seq c_val_rightID_0 (.seq c_val_rightID_1 .ret)), [.tmp 2], false⟩
theorem tf_val_rightID : transFunc Go.Proofs.Tryz.prog 92 (hintT []) (fpT []) (killT [(0, [2]), (1, [0, 3, 4, 5, 6, 7, 8, 9, 10, 11, 12, 13, 14, 15, 16])]) false = some F_val_rightID := by kernel_rfl
abbrev c_slices_ContainsFunc___api_Val_api_Val__0 : SCode := .reg [([], [⟨(some 4), none, none, .mov (.val (.bool false))⟩])] [4]
abbrev c_slices_ContainsFunc___api_Val_api_Val__1 : SCode := .reg [([2028, 2029, 2030, 2031], [⟨(some 5), none, none, .mov (.tmp 0)⟩, ⟨(some 6), none, none, .mov (.tmp 1)⟩, ⟨(some 7), none, none, .call 162 1 [(.tmp 5), (.tmp 6)]⟩, ⟨(some 8), none, none, .bin .geq 3 (.tmp 7) (.val (.int .i64 0))⟩, ⟨(some 4), none, none, .mov (.tmp 8)⟩])] [0, 1, 5, 6, 7, 8]
abbrev F_slices_ContainsFunc___api_Val_api_Val_ : SFunc := ⟨9, (.seq c_slices_ContainsFunc___api_Val_api_Val__0 (.seq c_slices_ContainsFunc___api_Val_api_Val__1 .ret)), [.tmp 4], false⟩
theorem tf_slices_ContainsFunc___api_Val_api_Val_ : transFunc Go.Proofs.Tryz.prog 93 (hintT [(7, 1)]) (fpT []) (killT [(0, [4]), (1, [0, 1, 5, 6, 7, 8])]) false = some F_slices_ContainsFunc___api_Val_api_Val_ := by kernel_rfl
abbrev c_val_noItem_0 : SCode := .reg [([1], [⟨(some 1), none, none, .box (.tmp 0)⟩, ⟨(some 2), none, none, .mov (.val (.bool false))⟩])] [0, 2]
abbrev c_val_noItem_1 : SCode := .reg [([2032, 2033, 2034, 2035], [⟨(some 3), none, none, .fldA 0 (.tmp 1)⟩, ⟨(some 4), none, none, .ld false 1 (.tmp 3)⟩, ⟨(some 5), none, none, .bin .eql 3 (.tmp 4) (.val (.int .i64 5))⟩, ⟨(some 6), none, none, .mov (.tmp 5)⟩, ⟨(some 7), (some (6, false)), none, .ld true 4 (.tmp 1)⟩, ⟨(some 8), (some (6, false)), none, .call 52 0 [(.tmp 7)]⟩, ⟨(some 9), (some (6, false)), none, .un .not (.tmp 8)⟩, ⟨(some 10), none, none, .pick (.tmp 6) (.val (.bool true)) (.tmp 9)⟩, ⟨(some 2), none, none, .mov (.tmp 10)⟩])] [1, 3, 4, 5, 6, 7, 8, 9, 10]
abbrev F_val_noItem : SFunc := ⟨11, (.seq c_val_noItem_0 (.seq c_val_noItem_1 .ret)), [.tmp 2], false⟩
theorem tf_val_noItem : transFunc Go.Proofs.Tryz.prog 94 (hintT [(8, 0)]) (fpT []) (killT [(0, [0, 2]), (1, [1, 3, 4, 5, 6, 7, 8, 9, 10])]) false = some F_val_noItem := by kernel_rfl
abbrev c_val_rightType_0 : SCode := .reg [([1], [⟨(some 1), none, none, .box (.tmp 0)⟩, ⟨(some 2), none, none, .mov (.val (.bool false))⟩])] [0, 2]
abbrev c_val_rightType_1 : SCode := .reg [([], [⟨(some 3), none, none, .fldA 0 (.tmp 1)⟩, ⟨(some 4), none, none, .ld false 1 (.tmp 3)⟩, ⟨(some 5), none, none, .bin .eql 3 (.tmp 4) (.val (.int .i64 5))⟩])] [3, 4]
abbrev c_val_rightType_2 : SCode := .reg [([], [⟨(some 6), none, none, .fldA 1 (.tmp 1)⟩, ⟨(some 7), none, none, .ld false 1 (.tmp 6)⟩, ⟨(some 8), none, none, .bin .geq 3 (.tmp 7) (.val (.int .i64 1))⟩, ⟨(some 9), none, none, .mov (.tmp 8)⟩, ⟨(some 10), (some (9, true)), none, .fldA 1 (.tmp 1)⟩, ⟨(some 11), (some (9, true)), none, .ld false 1 (.tmp 10)⟩, ⟨(some 12), (some (9, true)), none, .bin .leq 3 (.tmp 11) (.val (.int .i64 4))⟩, ⟨(some 13), none, none, .pick (.tmp 9) (.tmp 12) (.val (.bool false))⟩, ⟨(some 2), none, none, .mov (.tmp 13)⟩])] [1, 5, 6, 7, 8, 9, 10, 11, 12, 13]
abbrev c_val_rightType_3 : SCode := .reg [([], [⟨(some 14), none, none, .fldA 0 (.tmp 1)⟩, ⟨(some 15), none, none, .ld false 1 (.tmp 14)⟩, ⟨(some 16), none, none, .bin .geq 3 (.tmp 15) (.val (.int .i64 1))⟩, ⟨(some 17), none, none, .mov (.tmp 16)⟩, ⟨(some 18), (some (17, true)), none, .fldA 0 (.tmp 1)⟩, ⟨(some 19), (some (17, true)), none, .ld false 1 (.tmp 18)⟩, ⟨(some 20), (some (17, true)), none, .bin .leq 3 (.tmp 19) (.val (.int .i64 4))⟩, ⟨(some 21), none, none, .pick (.tmp 17) (.tmp 20) (.val (.bool false))⟩, ⟨(some 22), none, none, .mov (.tmp 21)⟩, ⟨(some 23), (some (22, true)), none, .fldA 1 (.tmp 1)⟩, ⟨(some 24), (some (22, true)), none, .ld false 1 (.tmp 23)⟩, ⟨(some 25), (some (22, true)), none, .bin .eql 3 (.tmp 24) (.val (.int .i64 0))⟩, ⟨(some 26), none, none, .pick (.tmp 22) (.tmp 25) (.val (.bool false))⟩, ⟨(some 2), none, none, .mov (.tmp 26)⟩])] [1, 5, 14, 15, 16, 17, 18, 19, 20, 21, 22, 23, 24, 25, 26]
abbrev F_val_rightType : SFunc := ⟨27, (.seq c_val_rightType_0 (.seq (.seq c_val_rightType_1 (.cond (.tmp 5) (.seq c_val_rightType_2 .ret) .skip)) (.seq c_val_rightType_3 .ret))), [.tmp 2], false⟩
theorem tf_val_rightType : transFunc Go.Proofs.Tryz.prog 96 (hintT []) (fpT []) (killT [(0, [0, 2]), (1, [3, 4]), (2, [1, 5, 6, 7, 8, 9, 10, 11, 12, 13]), (3, [1, 5, 14, 15, 16, 17, 18, 19, 20, 21, 22, 23, 24, 25, 26])]) false = some F_val_rightType := by kernel_rfl
abbrev c_val_ofKind_0 : SCode := .reg [([2], [⟨(some 2), none, none, .box (.tmp 0)⟩, ⟨(some 4), none, none, .mov (.val (.bool false))⟩])] [0, 4]
abbrev c_val_ofKind_1 : SCode := .reg [([], [⟨(some 5), none, none, .fldA 0 (.tmp 2)⟩, ⟨(some 6), none, none, .ld false 1 (.tmp 5)⟩, ⟨(some 7), none, none, .mov (.tmp 1)⟩, ⟨(some 8), none, none, .bin .eql 3 (.tmp 6) (.tmp 7)⟩, ⟨(some 9), none, none, .mov (.tmp 8)⟩, ⟨(some 10), (some (9, false)), none, .fldA 0 (.tmp 2)⟩, ⟨(some 11), (some (9, false)), none, .ld false 1 (.tmp 10)⟩, ⟨(some 12), (some (9, false)), none, .bin .eql 3 (.tmp 11) (.val (.int .i64 0))⟩, ⟨(some 13), (some (9, false)), none, .mov (.tmp 12)⟩, ⟨(some 14), (some (13, true)), none, .mov (.tmp 1)⟩, ⟨(some 15), (some (13, true)), none, .bin .eql 3 (.tmp 14) (.val (.int .i64 3))⟩, ⟨(some 16), (some (13, true)), none, .mov (.tmp 15)⟩, ⟨(some 17), (some (16, false)), none, .mov (.tmp 1)⟩, ⟨(some 18), (some (16, false)), none, .bin .eql 3 (.tmp 17) (.val (.int .i64 4))⟩, ⟨(some 19), (some (13, true)), none, .pick (.tmp 16) (.val (.bool true)) (.tmp 18)⟩, ⟨(some 20), (some (9, false)), none, .pick (.tmp 13) (.tmp 19) (.val (.bool false))⟩, ⟨(some 21), none, none, .pick (.tmp 9) (.val (.bool true)) (.tmp 20)⟩, ⟨(some 4), none, none, .mov (.tmp 21)⟩])] [1, 2, 5, 6, 7, 8, 9, 10, 11, 12, 13, 14, 15, 16, 17, 18, 19, 20, 21]
abbrev F_val_ofKind : SFunc := ⟨22, (.seq c_val_ofKind_0 (.seq c_val_ofKind_1 .ret)), [.tmp 4], false⟩
theorem tf_val_ofKind : transFunc Go.Proofs.Tryz.prog 97 (hintT []) (fpT []) (killT [(0, [0, 4]), (1, [1, 2, 5, 6, 7, 8, 9, 10, 11, 12, 13, 14, 15, 16, 17, 18, 19, 20, 21])]) false = some F_val_ofKind := by kernel_rfl
abbrev c_val_Fits_1_0 : SCode := .reg [([2], [⟨(some 2), none, none, .box (.tmp 0)⟩, ⟨(some 3), none, none, .mov (.val (.bool false))⟩])] [0, 3]
abbrev c_val_Fits_1_1 : SCode := .reg [([2028, 2029, 2030, 2031], [⟨(some 4), none, none, .ld true 4 (.tmp 2)⟩, ⟨(some 5), none, none, .fldA 1 (.tmp 1)⟩, ⟨(some 6), none, none, .ld false 1 (.tmp 5)⟩, ⟨(some 7), none, none, .call 97 0 [(.tmp 4), (.tmp 6)]⟩, ⟨(some 8), none, none, .un .not (.tmp 7)⟩, ⟨(some 3), none, none, .mov (.tmp 8)⟩])] [1, 2, 4, 5, 6, 7, 8]
abbrev F_val_Fits_1 : SFunc := ⟨9, (.seq c_val_Fits_1_0 (.seq c_val_Fits_1_1 .ret)), [.tmp 3], false⟩
theorem tf_val_Fits_1 : transFunc Go.Proofs.Tryz.prog 98 (hintT [(7, 0)]) (fpT []) (killT [(0, [0, 3]), (1, [1, 2, 4, 5, 6, 7, 8])]) false = some F_val_Fits_1 := by kernel_rfl
abbrev c_moraineref03_Order_0 : SCode := .reg [([], [⟨(some 4), none, none, .mov (.val (.int .i64 0))⟩])] [4]
abbrev c_moraineref03_Order_1 : SCode := .reg [([], [⟨(some 5), none, none, .mov (.tmp 0)⟩, ⟨(some 6), none, none, .mov (.tmp 1)⟩, ⟨(some 7), none, none, .bin .lss 3 (.tmp 5) (.tmp 6)⟩])] [5, 6]
abbrev c_moraineref03_Order_2 : SCode := .reg [([], [⟨(some 4), none, none, .mov (.val (.int .i64 (-1)))⟩])] [0, 1, 7]
abbrev c_moraineref03_Order_3 : SCode := .reg [([], [⟨(some 8), none, none, .mov (.tmp 0)⟩, ⟨(some 9), none, none, .mov (.tmp 1)⟩, ⟨(some 10), none, none, .bin .gtr 3 (.tmp 8) (.tmp 9)⟩])] [0, 1, 4, 7, 8, 9]
abbrev c_moraineref03_Order_4 : SCode := .reg [([], [⟨(some 4), none, none, .mov (.val (.int .i64 1))⟩])] [10]
abbrev c_moraineref03_Order_5 : SCode := .reg [([], [⟨(some 4), none, none, .mov (.val (.int .i64 0))⟩])] [10]
abbrev F_moraineref03_Order : SFunc := ⟨11, (.seq c_moraineref03_Order_0 (.seq (.seq c_moraineref03_Order_1 (.cond (.tmp 7) (.seq c_moraineref03_Order_2 .ret) .skip)) (.seq (.seq c_moraineref03_Order_3 (.cond (.tmp 10) (.seq c_moraineref03_Order_4 .ret) .skip)) (.seq c_moraineref03_Order_5 .ret)))), [.tmp 4], false⟩
theorem tf_moraineref03_Order : transFunc Go.Proofs.Tryz.prog 159 (hintT []) (fpT []) (killT [(0, [4]), (1, [5, 6]), (2, [0, 1, 7]), (3, [0, 1, 4, 7, 8, 9]), (4, [10]), (5, [10])]) false = some F_moraineref03_Order := by kernel_rfl
abbrev c_val_plain_0 : SCode := .reg [([], [⟨(some 2), none, none, .mov (.val (.bool false))⟩])] [2]
abbrev c_val_plain_1 : SCode := .reg [([], [⟨(some 3), none, none, .mov (.tmp 0)⟩, ⟨(some 4), none, none, .bin .geq 21 (.tmp 3) (.val (.int .i32 32))⟩, ⟨(some 5), none, none, .mov (.tmp 4)⟩, ⟨(some 6), (some (5, true)), none, .mov (.tmp 0)⟩, ⟨(some 7), (some (5, true)), none, .bin .neq 21 (.tmp 6) (.val (.int .i32 127))⟩, ⟨(some 8), none, none, .pick (.tmp 5) (.tmp 7) (.val (.bool false))⟩, ⟨(some 2), none, none, .mov (.tmp 8)⟩])] [0, 3, 4, 5, 6, 7, 8]
abbrev F_val_plain : SFunc := ⟨9, (.seq c_val_plain_0 (.seq c_val_plain_1 .ret)), [.tmp 2], false⟩
theorem tf_val_plain : transFunc Go.Proofs.Tryz.prog 161 (hintT []) (fpT []) (killT [(0, [2]), (1, [0, 3, 4, 5, 6, 7, 8])]) false = some F_val_plain := by kernel_rfl
abbrev c_slices_IndexFunc___api_Val_api_Val__0 : SCode := .reg [([], [⟨(some 4), none, none, .mov (.val (.int .i64 0))⟩])] [4]
abbrev c_slices_IndexFunc___api_Val_api_Val__1 : SCode := .reg [([], [⟨(some 6), none, none, .mov (.tmp 0)⟩, ⟨(some 7), none, none, .len (.tmp 6)⟩, ⟨(some 8), none, none, .mov (.val (.int .i64 0))⟩])] [6]
abbrev c_slices_IndexFunc___api_Val_api_Val__2 : SCode := .reg [([], [⟨(some 9), none, none, .bin .lss 3 (.tmp 8) (.tmp 7)⟩])] []
abbrev c_slices_IndexFunc___api_Val_api_Val__3 : SCode := .reg [([], [⟨(some 10), none, none, .mov (.tmp 8)⟩, ⟨(some 5), none, none, .mov (.tmp 10)⟩])] [9, 10]
abbrev c_slices_IndexFunc___api_Val_api_Val__4 : SCode := .reg [([2064, 2065, 2066, 2067], [⟨(some 11), none, none, .mov (.tmp 1)⟩, ⟨(some 12), none, none, .mov (.tmp 0)⟩, ⟨(some 13), none, none, .mov (.tmp 5)⟩, ⟨(some 14), none, none, .idxA 4 (.tmp 12) (.tmp 13)⟩, ⟨(some 15), none, none, .ld true 4 (.tmp 14)⟩, ⟨(some 16), none, none, .callv (.tmp 11) 1 [(.tmp 15)]⟩])] [11, 12, 13, 14, 15]
abbrev c_slices_IndexFunc___api_Val_api_Val__5 : SCode := .reg [([], [⟨(some 17), none, none, .mov (.tmp 5)⟩, ⟨(some 4), none, none, .mov (.tmp 17)⟩])] [0, 1, 5, 7, 8, 16, 17]
abbrev c_slices_IndexFunc___api_Val_api_Val__6 : SCode := .reg [([], [⟨(some 18), none, none, .bin .add 3 (.tmp 8) (.val (.int .i64 1))⟩, ⟨(some 8), none, none, .mov (.tmp 18)⟩])] [4, 5, 16, 18]
abbrev c_slices_IndexFunc___api_Val_api_Val__7 : SCode := (.seq c_slices_IndexFunc___api_Val_api_Val__2 (.seq (.cond (.tmp 9) .skip (.exit 0)) (.seq (.block 1 (.seq c_slices_IndexFunc___api_Val_api_Val__3 (.seq c_slices_IndexFunc___api_Val_api_Val__4 (.cond (.tmp 16) (.seq c_slices_IndexFunc___api_Val_api_Val__5 .ret) .skip)))) c_slices_IndexFunc___api_Val_api_Val__6)))
abbrev c_slices_IndexFunc___api_Val_api_Val__8 : SCode := .reg [([], [⟨(some 4), none, none, .mov (.val (.int .i64 (-1)))⟩])] [0, 1, 7, 8]
abbrev F_slices_IndexFunc___api_Val_api_Val_ : SFunc := ⟨19, (.seq c_slices_IndexFunc___api_Val_api_Val__0 (.seq (.seq c_slices_IndexFunc___api_Val_api_Val__1 (.block 0 (.loop c_slices_IndexFunc___api_Val_api_Val__7))) (.seq c_slices_IndexFunc___api_Val_api_Val__8 .ret))), [.tmp 4], false⟩
theorem tf_slices_IndexFunc___api_Val_api_Val_ : transFunc Go.Proofs.Tryz.prog 162 (hintT [(16, 1)]) (fpT []) (killT [(0, [4]), (1, [6]), (3, [9, 10]), (4, [11, 12, 13, 14, 15]), (5, [0, 1, 5, 7, 8, 16, 17]), (6, [4, 5, 16, 18]), (7, [0, 1, 7, 8])]) false = some F_slices_IndexFunc___api_Val_api_Val_ := by kernel_rfl
def funcs : Nat → Option SFunc
  | _ => none
end Go.Sh.Cd1
end

section
/- Sh: the rules of walks in one. No statement of the program is proved here. -/
namespace Go.Sh
open Go Go.RowKit Go.Mor
set_option maxRecDepth 100000
theorem vcA : (type_of% @Go.Sh.bFT) ∧ (type_of% @Go.Sh.bTF) ∧ (type_of% @Go.Sh.ES.fgt.eq_1) ∧ (type_of% @List.map_cons.{0, 0}) ∧ (type_of% @List.map_nil.{0, 0}) ∧ (type_of% @Go.Sh.fgt3.eq_1) ∧ (type_of% @Go.Sh.TV.m3.eq_1) ∧ (type_of% @Go.Sh.TV.m3.eq_2) ∧ (type_of% @Go.Sh.TV.m2.eq_1) ∧ (type_of% @Go.Sh.TV.m2.eq_2) ∧ (type_of% @Go.Sh.TV.m1.eq_1) ∧ (type_of% @Go.Sh.TV.m1.eq_2) ∧ (type_of% @Go.Sh.TV.m0.eq_1) ∧ (type_of% @Go.Sh.TV.m0.eq_2) ∧ (type_of% @Go.Sh.TV.m0.eq_3) ∧ (type_of% @Go.Sh.TV.m0.eq_4) ∧ (type_of% @Go.Sh.TV.m0.eq_5) ∧ (type_of% @Go.Sh.TV.m0.eq_6) ∧ (type_of% @Go.Sh.TV.m0.eq_7) ∧ (type_of% @Go.Sh.TV.mF.eq_1) ∧ (type_of% @Go.Sh.TV.mF.eq_2) ∧ (type_of% @Go.Sh.TV.mE.eq_1) ∧ (type_of% @Go.Sh.TV.mE.eq_2) ∧ (type_of% @Go.Sh.TV.idsF.eq_1) ∧ (type_of% @Go.Sh.TV.idsF.eq_2) ∧ (type_of% @Go.Sh.TV.idsE.eq_1) ∧ (type_of% @Go.Sh.TV.idsE.eq_2) ∧ (type_of% @Go.Sh.TV.renF.eq_1) ∧ (type_of% @Go.Sh.TV.renF.eq_2) ∧ (type_of% @Go.Sh.TV.renE.eq_1) ∧ (type_of% @Go.Sh.TV.renE.eq_2) ∧ (type_of% @List.any_cons.{0}) ∧ (type_of% @List.any_nil.{0}) ∧ (type_of% @Bool.or_false) ∧ (type_of% @Bool.false_or) ∧ (type_of% @Go.Sh.drp.eq_1) ∧ (type_of% @Go.Sh.drp.eq_2) ∧ (type_of% @Go.Sh.effG.eq_1) ∧ (type_of% @Go.Sh.effF.eq_1) ∧ (type_of% @Go.Sh.footOk.eq_1) ∧ (type_of% @Go.Sh.SOp.foot.eq_1) ∧ (type_of% @Go.Sh.SOp.foot.eq_2) ∧ (type_of% @Go.Sh.SOp.foot.eq_3) ∧ (type_of% @Go.Sh.SOp.foot.eq_4) ∧ (type_of% @Go.Sh.only.eq_1) ∧ (type_of% @Go.Sh.only.eq_2) ∧ (type_of% @Go.Sh.isK.eq_1) ∧ (type_of% @Go.Sh.isK.eq_2) ∧ (type_of% @Go.Sh.eff.eq_1) ∧ (type_of% @Go.Sh.eff.eq_2) ∧ (type_of% @Go.Sh.eff.eq_3) ∧ (type_of% @Go.Sh.eff.eq_4) ∧ (type_of% @Go.Sh.eff.eq_5) ∧ (type_of% @Go.Sh.eff.eq_6) ∧ (type_of% @Go.Sh.eff.eq_7) ∧ (type_of% @Go.Sh.eff.eq_8) ∧ (type_of% @Go.Sh.eff.eq_9) ∧ (type_of% @Go.Sh.eff.eq_11) ∧ (type_of% @Go.Sh.eff.eq_12) ∧ (type_of% @Go.Sh.eff.eq_13) ∧ (type_of% @Go.Sh.eff.eq_14) ∧ (type_of% @Go.Sh.eff.eq_15) ∧ (type_of% @Go.Sh.eff.eq_16) ∧ (type_of% @Go.Sh.eff.eq_17) ∧ (type_of% @Go.Sh.eff.eq_18) ∧ (type_of% @Go.Sh.eff.eq_19) ∧ (type_of% @Go.Sh.eff.eq_20) ∧ (type_of% @Go.Sh.eff.eq_21) ∧ (type_of% @Go.Sh.eff.eq_22) ∧ (type_of% @Go.Sh.eff.eq_23) ∧ (type_of% @Go.Sh.eff.eq_25) ∧ (type_of% @Go.Sh.eff.eq_28) ∧ (type_of% @Go.Sh.eff.eq_31) ∧ (type_of% @Go.Sh.eff.eq_32) ∧ (type_of% @Go.Sh.eff.eq_33) ∧ (type_of% @Go.Sh.eff.eq_34) ∧ (type_of% @Go.Sh.eff.eq_35) ∧ (type_of% @Go.Sh.eff.eq_44) ∧ (type_of% @Go.Sh.eff.eq_45) ∧ (type_of% @Go.Sh.Arg.get.eq_1) ∧ (type_of% @Go.Sh.Arg.get.eq_2) ∧ (type_of% @Go.Sh.ES.fs.eq_1) ∧ (type_of% @Go.Sh.lk.eq_1) ∧ (type_of% @Go.Sh.lk.eq_2) ∧ (type_of% @Option.map_some.{0, 0}) ∧ (type_of% @Option.bind_some.{0, 0}) ∧ (type_of% @Go.Sh.ES.after.eq_1) ∧ (type_of% @Go.Sh.ES.upd.eq_1) ∧ (type_of% @Go.Sh.ES.upd.eq_2) ∧ (type_of% @Go.Sh.ES.upd.eq_3) ∧ (type_of% @Go.Sh.ES.upd.eq_4) ∧ (type_of% @Go.Sh.ES.upd.eq_5) ∧ (type_of% @Go.Sh.ES.upd.eq_6) ∧ (type_of% @Go.Sh.ES.upd.eq_7) ∧ (type_of% @Go.Sh.ES.put.eq_1) ∧ (type_of% @Go.Sh.ES.put.eq_2) ∧ (type_of% @Go.Sh.sv.eq_1) ∧ (type_of% @Go.Sh.sv.eq_2) ∧ (type_of% @Go.Sh.ES.kill.eq_1) ∧ (type_of% @Go.Sh.ES.kill.eq_2) ∧ (type_of% @Go.Sh.has.eq_1) ∧ (type_of% @Go.Sh.has.eq_2) ∧ (type_of% @Go.Sh.nbeq) ∧ (type_of% @Go.Sh.nble) ∧ (type_of% @Go.Sh.nblt) ∧ (type_of% @Go.Sh.TV.val.eq_1) ∧ (type_of% @Go.Sh.TV.val.eq_2) ∧ (type_of% @Go.Sh.TV.val1.eq_1) ∧ (type_of% @Go.Sh.TV.val1.eq_2) ∧ (type_of% @Go.Sh.TV.int.eq_1) ∧ (type_of% @Go.Sh.TV.int.eq_2) ∧ (type_of% @Go.Sh.TV.str.eq_1) ∧ (type_of% @Go.Sh.TV.str.eq_2) ∧ (type_of% @Go.Sh.TV.cells.eq_1) ∧ (type_of% @Go.Sh.TV.cells.eq_2) ∧ (type_of% @Go.Sh.TV.cells.eq_3) ∧ (type_of% @Go.Sh.TV.cells.eq_4) ∧ (type_of% @Go.Sh.TV.cells.eq_5) ∧ (type_of% @Go.Sh.TV.slen.eq_1) ∧ (type_of% @Go.Sh.TV.slen.eq_2) ∧ (type_of% @Go.Sh.TV.slen.eq_3) ∧ (type_of% @Go.Sh.TV.slen.eq_4) ∧ (type_of% @Go.Sh.TV.slen.eq_5) ∧ (type_of% @Go.Sh.TV.toPV.eq_1) ∧ (type_of% @Go.Sh.TV.toPV.eq_2) ∧ (type_of% @Go.Sh.TV.toPV.eq_3) ∧ (type_of% @Go.Sh.TV.pvs.eq_1) ∧ (type_of% @Go.Sh.seqO.eq_1) ∧ (type_of% @Go.Sh.seqO.eq_2) ∧ (type_of% @Go.Sh.bin_lss) ∧ (type_of% @Go.Sh.bin_gtr) ∧ (type_of% @Go.Sh.bin_leq) ∧ (type_of% @Go.Sh.bin_geq) ∧ (type_of% @Go.Sh.bin_eql) ∧ (type_of% @Go.Sh.bin_neq) ∧ (type_of% @Go.Sh.bin_add) ∧ (type_of% @Go.Sh.bin_sub) ∧ (type_of% @Go.Sh.bin_mul) ∧ (type_of% @Go.Sh.sbin_eql) ∧ (type_of% @Go.Sh.sbin_neq) ∧ (type_of% @Go.Sh.sbin_lss) ∧ (type_of% @Go.Sh.sbin_gtr) ∧ (type_of% @Go.Sh.un_neg) ∧ (type_of% @Go.Sh.un_not) ∧ (type_of% @Go.Sh.startE.eq_1) ∧ (type_of% @Go.Sh.numT.eq_1) ∧ (type_of% @Go.Sh.numT.eq_2) ∧ (type_of% @Go.Sh.numB.eq_1) ∧ (type_of% @Go.Sh.numB.eq_2) ∧ (type_of% @Go.Sh.numB.eq_3) ∧ (type_of% @Go.Sh.numR.eq_1) ∧ (type_of% @Go.Sh.numR.eq_2) ∧ (type_of% @Go.Sh.numR.eq_3) ∧ (type_of% @Go.Sh.ansW.eq_1) ∧ (type_of% @Go.Sh.ansW.eq_2) ∧ (type_of% @Go.Sh.resT.eq_1) ∧ (type_of% @Go.Sh.resT.eq_2) ∧ (type_of% @Go.Sh.SRes.get.eq_1) ∧ (type_of% @Go.Sh.SRes.get.eq_2) ∧ (type_of% @List.flatMap_nil.{0, 0}) ∧ (type_of% @List.flatMap_cons.{0, 0}) ∧ (type_of% @List.append_nil.{0}) ∧ (type_of% @List.nil_append.{0}) ∧ (type_of% @Go.Sh.TV.ids3.eq_1) ∧ (type_of% @Go.Sh.TV.ids3.eq_2) ∧ (type_of% @Go.Sh.TV.ids2.eq_1) ∧ (type_of% @Go.Sh.TV.ids2.eq_2) ∧ (type_of% @Go.Sh.TV.ids1.eq_1) ∧ (type_of% @Go.Sh.TV.ids1.eq_2) ∧ (type_of% @Go.Sh.TV.ids0.eq_1) ∧ (type_of% @Go.Sh.TV.ids0.eq_2) ∧ (type_of% @Go.Sh.TV.ids0.eq_3) ∧ (type_of% @Go.Sh.TV.ids0.eq_4) ∧ (type_of% @Go.Sh.TV.ren3.eq_1) ∧ (type_of% @Go.Sh.TV.ren3.eq_2) ∧ (type_of% @Go.Sh.TV.ren2.eq_1) ∧ (type_of% @Go.Sh.TV.ren2.eq_2) ∧ (type_of% @Go.Sh.TV.ren1.eq_1) ∧ (type_of% @Go.Sh.TV.ren1.eq_2) ∧ (type_of% @Go.Sh.TV.ren0.eq_1) ∧ (type_of% @Go.Sh.TV.ren0.eq_2) ∧ (type_of% @Go.Sh.TV.ren0.eq_3) ∧ (type_of% @Go.Sh.TV.ren0.eq_4) ∧ (type_of% @Go.Sh.TV.ren0.eq_5) ∧ (type_of% @Go.Sh.TV.ren0.eq_6) ∧ (type_of% @Go.Sh.bound.eq_1) ∧ (type_of% @Go.Sh.bound.eq_2) ∧ (type_of% @if_true.{1}) ∧ (type_of% @if_false.{1}) ∧ (type_of% @Bool.false_eq_true) ∧ (type_of% @Go.Sh.partsT.eq_1) ∧ (type_of% @Go.Sh.fillT.eq_1) ∧ (type_of% @Go.Sh.fillT.eq_2) ∧ (type_of% @Go.Sh.splice.eq_1) ∧ (type_of% @List.take_zero.{0}) ∧ (type_of% @List.take_succ_cons.{0}) ∧ (type_of% @List.drop_zero.{0}) ∧ (type_of% @List.drop_succ_cons.{0}) ∧ (type_of% @List.length_cons.{0}) ∧ (type_of% @List.length_nil.{0}) ∧ (type_of% @and_self) ∧ (type_of% @and_true) ∧ (type_of% @true_and) ∧ (type_of% @List.cons_append.{0}) ∧ (type_of% @List.getElem?_cons_zero.{0}) ∧ (type_of% @List.getElem?_cons_succ.{0}) ∧ (type_of% @Nat.zero_add) ∧ (type_of% @Bool.not_true) ∧ (type_of% @Bool.not_false) ∧ (type_of% @Go.Value.oneCell'.eq_1) ∧ (type_of% @Go.Value.oneCell'.eq_2) ∧ (type_of% @Go.Value.oneCell'.eq_3) ∧ (type_of% @Go.Mor.str_toList) ∧ (type_of% @Go.Mor.str_size') ∧ (type_of% @Int.toNat_natCast) ∧ (type_of% @decide_true) ∧ (type_of% @decide_false) ∧ (type_of% @beq_self_eq_true.{0}) ∧ (type_of% @Go.Sh.handI.eq_1) ∧ (type_of% @Go.Sh.FS.mo.eq_1) ∧ (type_of% @Go.Sh.MO.ren.eq_1) ∧ (type_of% @Go.Sh.MO.ren.eq_2) ∧ (type_of% @Go.Sh.rhoIn.eq_1) ∧ (type_of% @Go.Sh.pos.eq_1) ∧ (type_of% @Go.Sh.pos.eq_2) ∧ (type_of% @Go.Sh.rhoOut.eq_1) ∧ (type_of% @Go.Sh.outs.eq_1) ∧ (type_of% @Go.Sh.outs.eq_2) ∧ (type_of% @Go.Sh.newId.eq_1) ∧ (type_of% @Go.Sh.dstId.eq_1) ∧ (type_of% @Go.Sh.dstId.eq_2) ∧ (type_of% @Go.Sh.putMem.eq_1) ∧ (type_of% @Go.Sh.putMem.eq_2) ∧ (type_of% @List.lookup.eq_1.{0, 0}) ∧ (type_of% @List.lookup.eq_2.{0, 0}) ∧ (type_of% @Go.Sh.moOk.eq_1) ∧ (type_of% @Go.Sh.moOk.eq_2) ∧ (type_of% @Go.Sh.moOk.eq_3) ∧ (type_of% @Go.Sh.moOk.eq_4) ∧ (type_of% @Nat.le_refl) ∧ (type_of% @Int.natCast_nonneg) ∧ (type_of% @Go.Sh.v_skip) ∧ (type_of% @Go.Sh.v_seq) ∧ (type_of% @Go.Sh.v_exit) ∧ (type_of% @Go.Sh.v_ret) ∧ (type_of% @Go.Sh.v_block) ∧ (type_of% @Go.Sh.v_cond) ∧ (type_of% @Go.Sh.v_reg) ∧ (type_of% @Go.Sh.v_reg2) ∧ (type_of% @Go.Sh.v_nil) ∧ (type_of% @Go.Sh.v_regK) ∧ (type_of% @Go.Sh.v_skipK) ∧ (type_of% @Go.Sh.v_op) ∧ (type_of% @Go.Sh.v_guard) ∧ (type_of% @Go.Sh.gW) ∧ (type_of% @Go.Sh.gW_u) ∧ (type_of% @Go.Sh.PostR.eq_1) ∧ (type_of% @Go.Sh.PostR.eq_2) ∧ (type_of% @Go.Sh.PostR.eq_3) ∧ (type_of% @Go.Sh.PostR.eq_4) ∧ (type_of% @Go.Sh.exitR.eq_1) ∧ (type_of% @Go.Sh.exitF.eq_1) ∧ (type_of% @Go.Sh.idsFrom.eq_1) ∧ (type_of% @Go.Sh.idsFrom.eq_2) ∧ (type_of% @Go.Sh.gW_undef) ∧ (type_of% @Nat.sub_zero) ∧ (type_of% @Go.Sh.gW_i) ∧ (type_of% @Go.Sh.gK_T1) ∧ (type_of% @Go.Sh.gK_T0) ∧ (type_of% @Go.Sh.gK_F1) ∧ (type_of% @Go.Sh.gK_F0) ∧ (type_of% @Go.Sh.gK_d1) ∧ (type_of% @Go.Sh.gK_d0) ∧ (type_of% @Go.Sh.gK_n1) ∧ (type_of% @Go.Sh.gK_n0) ∧ (type_of% @Go.Sh.v_then_n) ∧ (type_of% @Go.Sh.v_then_r) ∧ (type_of% @Go.Sh.v_then_x) ∧ (type_of% @Go.Sh.v_blk_n) ∧ (type_of% @Go.Sh.v_blk_r) ∧ (type_of% @Go.Sh.v_blk_x) ∧ (type_of% @Go.Sh.s_some) ∧ (type_of% @Go.Sh.s_none) ∧ (type_of% @Go.Sh.s_ite) ∧ (type_of% @Go.Sh.s_get) ∧ (type_of% @Go.Sh.bW_T) ∧ (type_of% @Go.Sh.bW_F) ∧ (type_of% @Go.Sh.bW_d) ∧ (type_of% @Go.Sh.bW_n) ∧ (type_of% @Go.Sh.bW_a) ∧ (type_of% @Go.Sh.bW_o) ∧ (type_of% @Go.Sh.bK) ∧ (type_of% @Go.Sh.callIn.eq_1) ∧ (type_of% @Go.Sh.callOut.eq_1) ∧ (type_of% @Go.Sh.callvIn.eq_1) ∧ (type_of% @Go.Sh.TV.callee.eq_1) ∧ (type_of% @Go.Sh.TV.callee.eq_2) ∧ (type_of% @Go.Sh.TV.callee.eq_3) ∧ (type_of% @Go.Sh.TV.callee.eq_4) ∧ (type_of% @Go.Sh.Post0.eq_1) ∧ (type_of% @Go.Sh.Post0.eq_2) ∧ (type_of% @Go.Sh.Post0.eq_3) ∧ (type_of% @Go.Sh.Post0.eq_4) ∧ (type_of% @Go.Sh.Post1.eq_1) ∧ (type_of% @Go.Sh.Post1.eq_2) ∧ (type_of% @Go.Sh.Post1.eq_3) ∧ (type_of% @Go.Sh.Post1.eq_4) ∧ (type_of% @Go.Sh.ansW1.eq_1) ∧ (type_of% @Go.Sh.ansW1.eq_2) ∧ (type_of% @Go.Sh.bin_quoI) ∧ (type_of% @Go.Sh.bin_remI) ∧ (type_of% @Go.Sh.sbin_addI) ∧ (type_of% @Go.Sh.TV.elems.eq_1) ∧ (type_of% @Go.Sh.TV.elems.eq_2) ∧ (type_of% @Go.Sh.TV.elems.eq_3) ∧ (type_of% @Go.Sh.TV.elems.eq_4) ∧ (type_of% @Go.Sh.TV.isNil.eq_1) ∧ (type_of% @Go.Sh.TV.isNil.eq_2) ∧ (type_of% @List.all_cons.{0}) ∧ (type_of% @List.all_nil.{0}) ∧ (type_of% @Bool.and_true) ∧ (type_of% @Bool.true_and) ∧ (type_of% @Bool.and_false) ∧ (type_of% @Bool.false_and) ∧ (type_of% @Bool.and_self) ∧ (type_of% @ne_eq.{1}) ∧ (type_of% @not_false_eq_true) ∧ (type_of% @not_true_eq_false) ∧ (type_of% @false_and) ∧ (type_of% @and_false) ∧ (type_of% @or_false) ∧ (type_of% @or_self) ∧ (type_of% @false_or) ∧ (type_of% @imp_self) ∧ (type_of% @forall_const.{0}) ∧ (type_of% @Option.isNone_none.{0}) ∧ (type_of% @List.getElem?_nil.{0}) ∧ (type_of% @decide_eq_true_eq) ∧ (type_of% @eq_self.{1}) ∧ (type_of% @Go.Mor.str_list) ∧ (type_of% @Go.Mor.str_append) ∧ (type_of% @Go.Mor.str_extract) ∧ (type_of% @List.getElem?_map.{0, 0}) ∧ (type_of% @Option.map_map.{0, 0, 0}) ∧ (type_of% @List.length_map.{0, 0}) ∧ (type_of% @Function.comp_apply.{1, 1, 1}) ∧ (type_of% @List.length_append.{0}) ∧ (type_of% @List.length_set.{0}) ∧ (type_of% @List.set_cons_zero.{0}) ∧ (type_of% @List.set_cons_succ.{0}) ∧ (type_of% @imp_false) ∧ (type_of% @Decidable.not_not) ∧ (type_of% @Go.Sh.e_ssub) ∧ (type_of% @Go.Sh.e_ssub1) ∧ (type_of% @Go.Sh.e_ssub2) ∧ (type_of% @Go.Sh.e_ssub3) ∧ (type_of% @Go.Sh.e_ssub4) ∧ (type_of% @Go.Sh.e_sub) ∧ (type_of% @Go.Sh.e_sub1) ∧ (type_of% @Go.Sh.e_sub2) ∧ (type_of% @Go.Sh.e_sub3) ∧ (type_of% @Go.Sh.e_sub4) ∧ (type_of% @Go.Sh.e_subT1) ∧ (type_of% @Go.Sh.e_subT2) ∧ (type_of% @Go.Sh.e_subT3) ∧ (type_of% @Go.Sh.e_appN) ∧ (type_of% @Go.Sh.e_appN1) ∧ (type_of% @Go.Sh.e_appN2) ∧ (type_of% @Go.Sh.e_appNS) ∧ (type_of% @Go.Sh.e_appNS1) ∧ (type_of% @Go.Sh.e_appNS2) ∧ (type_of% @Go.Sh.e_rng) ∧ (type_of% @Go.Sh.e_rng1) ∧ (type_of% @Go.Sh.e_mks) ∧ (type_of% @Go.Sh.e_mks1) ∧ (type_of% @Go.Sh.e_bslO) ∧ (type_of% @Go.Sh.e_bslO1) ∧ (type_of% @Go.Sh.e_nxt) ∧ (type_of% @Go.Sh.e_nxt1) ∧ (type_of% @Go.Sh.e_nxt2) ∧ (type_of% @Go.Sh.s_ite2) ∧ (type_of% @Go.Sh.reach_nil) ∧ (type_of% @Go.Sh.reach_cons) ∧ (type_of% @Go.Sh.reach_m1) ∧ (type_of% @Go.Sh.reach_m2) ∧ (type_of% @Go.Sh.reach_m3) ∧ (type_of% @Go.Sh.reach_m4) ∧ (type_of% @Option.map_none.{0, 0}) ∧ (type_of% @Option.bind_none.{0, 0}) ∧ (type_of% @Go.Sh.nc_mov) ∧ (type_of% @Go.Sh.nc_pick) ∧ (type_of% @Go.Sh.nc_bin) ∧ (type_of% @Go.Sh.nc_un) ∧ (type_of% @Go.Sh.nc_cvi) ∧ (type_of% @Go.Sh.nc_cvs) ∧ (type_of% @Go.Sh.nc_b2s) ∧ (type_of% @Go.Sh.nc_imm) ∧ (type_of% @Go.Sh.nc_sidx) ∧ (type_of% @Go.Sh.nc_ssub) ∧ (type_of% @Go.Sh.nc_slen) ∧ (type_of% @Go.Sh.nc_new) ∧ (type_of% @Go.Sh.nc_box) ∧ (type_of% @Go.Sh.nc_build) ∧ (type_of% @Go.Sh.nc_bsl) ∧ (type_of% @Go.Sh.nc_bslO) ∧ (type_of% @Go.Sh.nc_fld) ∧ (type_of% @Go.Sh.nc_fldA) ∧ (type_of% @Go.Sh.nc_ld) ∧ (type_of% @Go.Sh.nc_st) ∧ (type_of% @Go.Sh.nc_len) ∧ (type_of% @Go.Sh.nc_idxA) ∧ (type_of% @Go.Sh.nc_sub) ∧ (type_of% @Go.Sh.nc_app) ∧ (type_of% @Go.Sh.nc_appS) ∧ (type_of% @Go.Sh.nc_appN) ∧ (type_of% @Go.Sh.nc_appNS) ∧ (type_of% @Go.Sh.nc_ext) ∧ (type_of% @Go.Sh.nc_nchk) ∧ (type_of% @Go.Sh.nc_mkf) ∧ (type_of% @Go.Sh.nc_rng) ∧ (type_of% @Go.Sh.nc_nxt) ∧ (type_of% @Go.Sh.nc_mks) ∧ (type_of% @Go.Sh.nc_lkp) ∧ (type_of% @Go.Sh.nc_mkI) ∧ (type_of% @Go.Sh.nc_pan) ∧ (type_of% @Go.Sh.e_lkp) ∧ (type_of% @Go.Sh.e_lkp1) ∧ (type_of% @Go.Sh.e_lkp2) ∧ (type_of% @Go.Sh.e_lkp3) ∧ (type_of% @Go.Sh.findKs.eq_1) ∧ (type_of% @Go.Sh.findKs.eq_2) ∧ (type_of% @Go.Sh.kdOf.eq_1) ∧ (type_of% @Go.Sh.zeroT.eq_1) ∧ (type_of% @Go.Sh.zeroT.eq_2) ∧ (type_of% @Go.Sh.v_then_p) ∧ (type_of% @Go.Sh.v_blk_p) ∧ (type_of% @Go.Sh.v_panK) ∧ (type_of% @Go.Sh.sp_some) ∧ (type_of% @Go.Sh.sp_get) ∧ (type_of% @Go.Sh.sp_ite) ∧ (type_of% @Go.Sh.dstOps.eq_1) ∧ (type_of% @List.filterMap_cons.{0, 0}) ∧ (type_of% @List.filterMap_nil.{0, 0}) ∧ (type_of% @Go.Sh.PostP.eq_1) ∧ (type_of% @Go.Sh.PostP.eq_2) ∧ (type_of% @Go.Sh.vp_opE) ∧ (type_of% @Go.Sh.vp_panE) ∧ (type_of% @Go.Sh.panW1) ∧ (type_of% @Go.Sh.np_mov) ∧ (type_of% @Go.Sh.np_pick) ∧ (type_of% @Go.Sh.np_bin) ∧ (type_of% @Go.Sh.np_un) ∧ (type_of% @Go.Sh.np_cvi) ∧ (type_of% @Go.Sh.np_cvs) ∧ (type_of% @Go.Sh.np_b2s) ∧ (type_of% @Go.Sh.np_imm) ∧ (type_of% @Go.Sh.np_sidx) ∧ (type_of% @Go.Sh.np_ssub) ∧ (type_of% @Go.Sh.np_slen) ∧ (type_of% @Go.Sh.np_new) ∧ (type_of% @Go.Sh.np_box) ∧ (type_of% @Go.Sh.np_build) ∧ (type_of% @Go.Sh.np_bsl) ∧ (type_of% @Go.Sh.np_bslO) ∧ (type_of% @Go.Sh.np_fld) ∧ (type_of% @Go.Sh.np_fldA) ∧ (type_of% @Go.Sh.np_ld) ∧ (type_of% @Go.Sh.np_st) ∧ (type_of% @Go.Sh.np_len) ∧ (type_of% @Go.Sh.np_idxA) ∧ (type_of% @Go.Sh.np_sub) ∧ (type_of% @Go.Sh.np_app) ∧ (type_of% @Go.Sh.np_appS) ∧ (type_of% @Go.Sh.np_appN) ∧ (type_of% @Go.Sh.np_appNS) ∧ (type_of% @Go.Sh.np_ext) ∧ (type_of% @Go.Sh.np_nchk) ∧ (type_of% @Go.Sh.np_mkf) ∧ (type_of% @Go.Sh.np_rng) ∧ (type_of% @Go.Sh.np_nxt) ∧ (type_of% @Go.Sh.np_mks) ∧ (type_of% @Go.Sh.np_lkp) ∧ (type_of% @Go.Sh.np_mkI) :=
  ⟨@Go.Sh.bFT, @Go.Sh.bTF, @Go.Sh.ES.fgt.eq_1, @List.map_cons.{0, 0}, @List.map_nil.{0, 0}, @Go.Sh.fgt3.eq_1, @Go.Sh.TV.m3.eq_1, @Go.Sh.TV.m3.eq_2, @Go.Sh.TV.m2.eq_1, @Go.Sh.TV.m2.eq_2, @Go.Sh.TV.m1.eq_1, @Go.Sh.TV.m1.eq_2, @Go.Sh.TV.m0.eq_1, @Go.Sh.TV.m0.eq_2, @Go.Sh.TV.m0.eq_3, @Go.Sh.TV.m0.eq_4, @Go.Sh.TV.m0.eq_5, @Go.Sh.TV.m0.eq_6, @Go.Sh.TV.m0.eq_7, @Go.Sh.TV.mF.eq_1, @Go.Sh.TV.mF.eq_2, @Go.Sh.TV.mE.eq_1, @Go.Sh.TV.mE.eq_2, @Go.Sh.TV.idsF.eq_1, @Go.Sh.TV.idsF.eq_2, @Go.Sh.TV.idsE.eq_1, @Go.Sh.TV.idsE.eq_2, @Go.Sh.TV.renF.eq_1, @Go.Sh.TV.renF.eq_2, @Go.Sh.TV.renE.eq_1, @Go.Sh.TV.renE.eq_2, @List.any_cons.{0}, @List.any_nil.{0}, @Bool.or_false, @Bool.false_or, @Go.Sh.drp.eq_1, @Go.Sh.drp.eq_2, @Go.Sh.effG.eq_1, @Go.Sh.effF.eq_1, @Go.Sh.footOk.eq_1, @Go.Sh.SOp.foot.eq_1, @Go.Sh.SOp.foot.eq_2, @Go.Sh.SOp.foot.eq_3, @Go.Sh.SOp.foot.eq_4, @Go.Sh.only.eq_1, @Go.Sh.only.eq_2, @Go.Sh.isK.eq_1, @Go.Sh.isK.eq_2, @Go.Sh.eff.eq_1, @Go.Sh.eff.eq_2, @Go.Sh.eff.eq_3, @Go.Sh.eff.eq_4, @Go.Sh.eff.eq_5, @Go.Sh.eff.eq_6, @Go.Sh.eff.eq_7, @Go.Sh.eff.eq_8, @Go.Sh.eff.eq_9, @Go.Sh.eff.eq_11, @Go.Sh.eff.eq_12, @Go.Sh.eff.eq_13, @Go.Sh.eff.eq_14, @Go.Sh.eff.eq_15, @Go.Sh.eff.eq_16, @Go.Sh.eff.eq_17, @Go.Sh.eff.eq_18, @Go.Sh.eff.eq_19, @Go.Sh.eff.eq_20, @Go.Sh.eff.eq_21, @Go.Sh.eff.eq_22, @Go.Sh.eff.eq_23, @Go.Sh.eff.eq_25, @Go.Sh.eff.eq_28, @Go.Sh.eff.eq_31, @Go.Sh.eff.eq_32, @Go.Sh.eff.eq_33, @Go.Sh.eff.eq_34, @Go.Sh.eff.eq_35, @Go.Sh.eff.eq_44, @Go.Sh.eff.eq_45, @Go.Sh.Arg.get.eq_1, @Go.Sh.Arg.get.eq_2, @Go.Sh.ES.fs.eq_1, @Go.Sh.lk.eq_1, @Go.Sh.lk.eq_2, @Option.map_some.{0, 0}, @Option.bind_some.{0, 0}, @Go.Sh.ES.after.eq_1, @Go.Sh.ES.upd.eq_1, @Go.Sh.ES.upd.eq_2, @Go.Sh.ES.upd.eq_3, @Go.Sh.ES.upd.eq_4, @Go.Sh.ES.upd.eq_5, @Go.Sh.ES.upd.eq_6, @Go.Sh.ES.upd.eq_7, @Go.Sh.ES.put.eq_1, @Go.Sh.ES.put.eq_2, @Go.Sh.sv.eq_1, @Go.Sh.sv.eq_2, @Go.Sh.ES.kill.eq_1, @Go.Sh.ES.kill.eq_2, @Go.Sh.has.eq_1, @Go.Sh.has.eq_2, @Go.Sh.nbeq, @Go.Sh.nble, @Go.Sh.nblt, @Go.Sh.TV.val.eq_1, @Go.Sh.TV.val.eq_2, @Go.Sh.TV.val1.eq_1, @Go.Sh.TV.val1.eq_2, @Go.Sh.TV.int.eq_1, @Go.Sh.TV.int.eq_2, @Go.Sh.TV.str.eq_1, @Go.Sh.TV.str.eq_2, @Go.Sh.TV.cells.eq_1, @Go.Sh.TV.cells.eq_2, @Go.Sh.TV.cells.eq_3, @Go.Sh.TV.cells.eq_4, @Go.Sh.TV.cells.eq_5, @Go.Sh.TV.slen.eq_1, @Go.Sh.TV.slen.eq_2, @Go.Sh.TV.slen.eq_3, @Go.Sh.TV.slen.eq_4, @Go.Sh.TV.slen.eq_5, @Go.Sh.TV.toPV.eq_1, @Go.Sh.TV.toPV.eq_2, @Go.Sh.TV.toPV.eq_3, @Go.Sh.TV.pvs.eq_1, @Go.Sh.seqO.eq_1, @Go.Sh.seqO.eq_2, @Go.Sh.bin_lss, @Go.Sh.bin_gtr, @Go.Sh.bin_leq, @Go.Sh.bin_geq, @Go.Sh.bin_eql, @Go.Sh.bin_neq, @Go.Sh.bin_add, @Go.Sh.bin_sub, @Go.Sh.bin_mul, @Go.Sh.sbin_eql, @Go.Sh.sbin_neq, @Go.Sh.sbin_lss, @Go.Sh.sbin_gtr, @Go.Sh.un_neg, @Go.Sh.un_not, @Go.Sh.startE.eq_1, @Go.Sh.numT.eq_1, @Go.Sh.numT.eq_2, @Go.Sh.numB.eq_1, @Go.Sh.numB.eq_2, @Go.Sh.numB.eq_3, @Go.Sh.numR.eq_1, @Go.Sh.numR.eq_2, @Go.Sh.numR.eq_3, @Go.Sh.ansW.eq_1, @Go.Sh.ansW.eq_2, @Go.Sh.resT.eq_1, @Go.Sh.resT.eq_2, @Go.Sh.SRes.get.eq_1, @Go.Sh.SRes.get.eq_2, @List.flatMap_nil.{0, 0}, @List.flatMap_cons.{0, 0}, @List.append_nil.{0}, @List.nil_append.{0}, @Go.Sh.TV.ids3.eq_1, @Go.Sh.TV.ids3.eq_2, @Go.Sh.TV.ids2.eq_1, @Go.Sh.TV.ids2.eq_2, @Go.Sh.TV.ids1.eq_1, @Go.Sh.TV.ids1.eq_2, @Go.Sh.TV.ids0.eq_1, @Go.Sh.TV.ids0.eq_2, @Go.Sh.TV.ids0.eq_3, @Go.Sh.TV.ids0.eq_4, @Go.Sh.TV.ren3.eq_1, @Go.Sh.TV.ren3.eq_2, @Go.Sh.TV.ren2.eq_1, @Go.Sh.TV.ren2.eq_2, @Go.Sh.TV.ren1.eq_1, @Go.Sh.TV.ren1.eq_2, @Go.Sh.TV.ren0.eq_1, @Go.Sh.TV.ren0.eq_2, @Go.Sh.TV.ren0.eq_3, @Go.Sh.TV.ren0.eq_4, @Go.Sh.TV.ren0.eq_5, @Go.Sh.TV.ren0.eq_6, @Go.Sh.bound.eq_1, @Go.Sh.bound.eq_2, @if_true.{1}, @if_false.{1}, @Bool.false_eq_true, @Go.Sh.partsT.eq_1, @Go.Sh.fillT.eq_1, @Go.Sh.fillT.eq_2, @Go.Sh.splice.eq_1, @List.take_zero.{0}, @List.take_succ_cons.{0}, @List.drop_zero.{0}, @List.drop_succ_cons.{0}, @List.length_cons.{0}, @List.length_nil.{0}, @and_self, @and_true, @true_and, @List.cons_append.{0}, @List.getElem?_cons_zero.{0}, @List.getElem?_cons_succ.{0}, @Nat.zero_add, @Bool.not_true, @Bool.not_false, @Go.Value.oneCell'.eq_1, @Go.Value.oneCell'.eq_2, @Go.Value.oneCell'.eq_3, @Go.Mor.str_toList, @Go.Mor.str_size', @Int.toNat_natCast, @decide_true, @decide_false, @beq_self_eq_true.{0}, @Go.Sh.handI.eq_1, @Go.Sh.FS.mo.eq_1, @Go.Sh.MO.ren.eq_1, @Go.Sh.MO.ren.eq_2, @Go.Sh.rhoIn.eq_1, @Go.Sh.pos.eq_1, @Go.Sh.pos.eq_2, @Go.Sh.rhoOut.eq_1, @Go.Sh.outs.eq_1, @Go.Sh.outs.eq_2, @Go.Sh.newId.eq_1, @Go.Sh.dstId.eq_1, @Go.Sh.dstId.eq_2, @Go.Sh.putMem.eq_1, @Go.Sh.putMem.eq_2, @List.lookup.eq_1.{0, 0}, @List.lookup.eq_2.{0, 0}, @Go.Sh.moOk.eq_1, @Go.Sh.moOk.eq_2, @Go.Sh.moOk.eq_3, @Go.Sh.moOk.eq_4, @Nat.le_refl, @Int.natCast_nonneg, @Go.Sh.v_skip, @Go.Sh.v_seq, @Go.Sh.v_exit, @Go.Sh.v_ret, @Go.Sh.v_block, @Go.Sh.v_cond, @Go.Sh.v_reg, @Go.Sh.v_reg2, @Go.Sh.v_nil, @Go.Sh.v_regK, @Go.Sh.v_skipK, @Go.Sh.v_op, @Go.Sh.v_guard, @Go.Sh.gW, @Go.Sh.gW_u, @Go.Sh.PostR.eq_1, @Go.Sh.PostR.eq_2, @Go.Sh.PostR.eq_3, @Go.Sh.PostR.eq_4, @Go.Sh.exitR.eq_1, @Go.Sh.exitF.eq_1, @Go.Sh.idsFrom.eq_1, @Go.Sh.idsFrom.eq_2, @Go.Sh.gW_undef, @Nat.sub_zero, @Go.Sh.gW_i, @Go.Sh.gK_T1, @Go.Sh.gK_T0, @Go.Sh.gK_F1, @Go.Sh.gK_F0, @Go.Sh.gK_d1, @Go.Sh.gK_d0, @Go.Sh.gK_n1, @Go.Sh.gK_n0, @Go.Sh.v_then_n, @Go.Sh.v_then_r, @Go.Sh.v_then_x, @Go.Sh.v_blk_n, @Go.Sh.v_blk_r, @Go.Sh.v_blk_x, @Go.Sh.s_some, @Go.Sh.s_none, @Go.Sh.s_ite, @Go.Sh.s_get, @Go.Sh.bW_T, @Go.Sh.bW_F, @Go.Sh.bW_d, @Go.Sh.bW_n, @Go.Sh.bW_a, @Go.Sh.bW_o, @Go.Sh.bK, @Go.Sh.callIn.eq_1, @Go.Sh.callOut.eq_1, @Go.Sh.callvIn.eq_1, @Go.Sh.TV.callee.eq_1, @Go.Sh.TV.callee.eq_2, @Go.Sh.TV.callee.eq_3, @Go.Sh.TV.callee.eq_4, @Go.Sh.Post0.eq_1, @Go.Sh.Post0.eq_2, @Go.Sh.Post0.eq_3, @Go.Sh.Post0.eq_4, @Go.Sh.Post1.eq_1, @Go.Sh.Post1.eq_2, @Go.Sh.Post1.eq_3, @Go.Sh.Post1.eq_4, @Go.Sh.ansW1.eq_1, @Go.Sh.ansW1.eq_2, @Go.Sh.bin_quoI, @Go.Sh.bin_remI, @Go.Sh.sbin_addI, @Go.Sh.TV.elems.eq_1, @Go.Sh.TV.elems.eq_2, @Go.Sh.TV.elems.eq_3, @Go.Sh.TV.elems.eq_4, @Go.Sh.TV.isNil.eq_1, @Go.Sh.TV.isNil.eq_2, @List.all_cons.{0}, @List.all_nil.{0}, @Bool.and_true, @Bool.true_and, @Bool.and_false, @Bool.false_and, @Bool.and_self, @ne_eq.{1}, @not_false_eq_true, @not_true_eq_false, @false_and, @and_false, @or_false, @or_self, @false_or, @imp_self, @forall_const.{0}, @Option.isNone_none.{0}, @List.getElem?_nil.{0}, @decide_eq_true_eq, @eq_self.{1}, @Go.Mor.str_list, @Go.Mor.str_append, @Go.Mor.str_extract, @List.getElem?_map.{0, 0}, @Option.map_map.{0, 0, 0}, @List.length_map.{0, 0}, @Function.comp_apply.{1, 1, 1}, @List.length_append.{0}, @List.length_set.{0}, @List.set_cons_zero.{0}, @List.set_cons_succ.{0}, @imp_false, @Decidable.not_not, @Go.Sh.e_ssub, @Go.Sh.e_ssub1, @Go.Sh.e_ssub2, @Go.Sh.e_ssub3, @Go.Sh.e_ssub4, @Go.Sh.e_sub, @Go.Sh.e_sub1, @Go.Sh.e_sub2, @Go.Sh.e_sub3, @Go.Sh.e_sub4, @Go.Sh.e_subT1, @Go.Sh.e_subT2, @Go.Sh.e_subT3, @Go.Sh.e_appN, @Go.Sh.e_appN1, @Go.Sh.e_appN2, @Go.Sh.e_appNS, @Go.Sh.e_appNS1, @Go.Sh.e_appNS2, @Go.Sh.e_rng, @Go.Sh.e_rng1, @Go.Sh.e_mks, @Go.Sh.e_mks1, @Go.Sh.e_bslO, @Go.Sh.e_bslO1, @Go.Sh.e_nxt, @Go.Sh.e_nxt1, @Go.Sh.e_nxt2, @Go.Sh.s_ite2, @Go.Sh.reach_nil, @Go.Sh.reach_cons, @Go.Sh.reach_m1, @Go.Sh.reach_m2, @Go.Sh.reach_m3, @Go.Sh.reach_m4, @Option.map_none.{0, 0}, @Option.bind_none.{0, 0}, @Go.Sh.nc_mov, @Go.Sh.nc_pick, @Go.Sh.nc_bin, @Go.Sh.nc_un, @Go.Sh.nc_cvi, @Go.Sh.nc_cvs, @Go.Sh.nc_b2s, @Go.Sh.nc_imm, @Go.Sh.nc_sidx, @Go.Sh.nc_ssub, @Go.Sh.nc_slen, @Go.Sh.nc_new, @Go.Sh.nc_box, @Go.Sh.nc_build, @Go.Sh.nc_bsl, @Go.Sh.nc_bslO, @Go.Sh.nc_fld, @Go.Sh.nc_fldA, @Go.Sh.nc_ld, @Go.Sh.nc_st, @Go.Sh.nc_len, @Go.Sh.nc_idxA, @Go.Sh.nc_sub, @Go.Sh.nc_app, @Go.Sh.nc_appS, @Go.Sh.nc_appN, @Go.Sh.nc_appNS, @Go.Sh.nc_ext, @Go.Sh.nc_nchk, @Go.Sh.nc_mkf, @Go.Sh.nc_rng, @Go.Sh.nc_nxt, @Go.Sh.nc_mks, @Go.Sh.nc_lkp, @Go.Sh.nc_mkI, @Go.Sh.nc_pan, @Go.Sh.e_lkp, @Go.Sh.e_lkp1, @Go.Sh.e_lkp2, @Go.Sh.e_lkp3, @Go.Sh.findKs.eq_1, @Go.Sh.findKs.eq_2, @Go.Sh.kdOf.eq_1, @Go.Sh.zeroT.eq_1, @Go.Sh.zeroT.eq_2, @Go.Sh.v_then_p, @Go.Sh.v_blk_p, @Go.Sh.v_panK, @Go.Sh.sp_some, @Go.Sh.sp_get, @Go.Sh.sp_ite, @Go.Sh.dstOps.eq_1, @List.filterMap_cons.{0, 0}, @List.filterMap_nil.{0, 0}, @Go.Sh.PostP.eq_1, @Go.Sh.PostP.eq_2, @Go.Sh.vp_opE, @Go.Sh.vp_panE, @Go.Sh.panW1, @Go.Sh.np_mov, @Go.Sh.np_pick, @Go.Sh.np_bin, @Go.Sh.np_un, @Go.Sh.np_cvi, @Go.Sh.np_cvs, @Go.Sh.np_b2s, @Go.Sh.np_imm, @Go.Sh.np_sidx, @Go.Sh.np_ssub, @Go.Sh.np_slen, @Go.Sh.np_new, @Go.Sh.np_box, @Go.Sh.np_build, @Go.Sh.np_bsl, @Go.Sh.np_bslO, @Go.Sh.np_fld, @Go.Sh.np_fldA, @Go.Sh.np_ld, @Go.Sh.np_st, @Go.Sh.np_len, @Go.Sh.np_idxA, @Go.Sh.np_sub, @Go.Sh.np_app, @Go.Sh.np_appS, @Go.Sh.np_appN, @Go.Sh.np_appNS, @Go.Sh.np_ext, @Go.Sh.np_nchk, @Go.Sh.np_mkf, @Go.Sh.np_rng, @Go.Sh.np_nxt, @Go.Sh.np_mks, @Go.Sh.np_lkp, @Go.Sh.np_mkI⟩
end Go.Sh
end

section
/- Package val's small functions, walked: which values may be, which type they fit. No statement of the program is proved here. -/
namespace Go.Proofs.YtmiokadmddjccaaGreatDoor
open Go Go.RowKit Go.Mor Go.Sh Go.Sh.Cd1
set_option maxRecDepth 100000
set_option maxHeartbeats 4000000
theorem e0 : (⟨#[]⟩ : ByteArray) = str [] := rfl
theorem decode_str (l : List UInt8) (p : Nat) : Utf8.decode (str l) p = Lib.decodeL (l.drop p) := by rw [← Lib.decodeL_drop, str_toList]
def B (b : Bool) : TV := .pv (.v (.bool b))
theorem beqI (a b : Int) : (a == b) = decide (a = b) := by rw [Bool.eq_iff_iff]; simp
theorem plain_ok (g : Sh.Glob) (r : Nat) : SCalls Tryz.prog g 161 [.pv (.v (.int .i32 (r : Int)))] [] (B (plainR r)) [] := by
  refine call_of0 hmix tf_val_plain rfl ?_
  have h1 : decide ((32 : Int) ≤ (r : Int)) = decide (32 ≤ r) := by rw [Bool.eq_iff_iff]; simp; omega
  have h2 : decide ((r : Int) = 127) = (r == 127) := by rw [Bool.eq_iff_iff]; simp; omega
  unfold plainR B
  by_cases h : 32 ≤ r
  · have d1 : (32 : Int) ≤ (r : Int) := by omega
    simp only [vcA, seval, vV, d1, h2, h]
    rfl
  · have d1 : ¬ (32 : Int) ≤ (r : Int) := by omega
    simp only [vcA, seval, vV, d1, h]
theorem validString_ok (m : Nat) (l : List UInt8) (hl : l.length ≤ 9223372036854775807) : SCalls Tryz.prog (gl0 m) 160 [S (str l)] [] (B (Lib.validD l)) [] := by
  have := prim0_sound m 160 [S (str l)] [] (B (Lib.validD l)) [] (by simp [prim0, S, B, Nat.beq, str_size', hl, str_toList])
  exact this
theorem rightText_ok0 (m : Nat) (l : List UInt8) (hl : l.length ≤ 9223372036854775807) : SCalls Tryz.prog (gl0 m) 91 [S (str l)] [] (B (rightText l)) [] := by
  refine call_of0 hmix tf_val_rightText rfl ?_
  have HV := validString_ok m l hl
  unfold rightText B at *
  by_cases h60 : (l.length : Int) ≤ 60
  · have d1 : ¬ (60 : Int) < (l.length : Int) := by omega
    have h60' : l.length ≤ 60 := by omega
    simp only [vcA, seval, vV, d1]
    (with_reducible apply v_call); (· simp only [vcA, seval, vV]; with_reducible rfl); (· rfl); (· exact HV); (· first | rfl | (simp only [vcA, seval]; omega)); (· simp only [vcA, seval, vV]; with_reducible rfl)
    cases hv : Lib.validD l
    · simp only [vcA, seval, vV]
    simp only [vcA, seval, vV]
    refine v_loop (σ := {p : Nat // p ≤ l.length ∧ plainD l = plainD (l.drop p)}) (fun p => ⟨[(14, .it 14)], [], [], [(14, (str l, p.1))]⟩) (fun p => l.length - p.1) ⟨0, Nat.zero_le _, rfl⟩ (lw_eq rfl) ?_
    rintro ⟨p, hp, hd⟩
    by_cases hlt : p < l.length
    · have hne : l.drop p ≠ [] := by rw [Ne, List.drop_eq_nil_iff]; omega
      rw [plainD_step _ hne] at hd
      have hle := Lib.decodeL_le (l.drop p) hne
      have hw := Lib.decodeL_width (l.drop p)
      rw [List.length_drop] at hle
      have HP := plain_ok (gl0 m) (Lib.decodeL (l.drop p)).1
      unfold B at HP
      simp only [vcA, seval, vV, hlt, decode_str]
      (with_reducible apply v_call); (· simp only [vcA, seval, vV]; with_reducible rfl); (· rfl); (· exact HP); (· first | rfl | (simp only [vcA, seval]; omega)); (· simp only [vcA, seval, vV]; with_reducible rfl)
      cases hr : plainR (Lib.decodeL (l.drop p)).1
      · rw [hr] at hd
        simp only [vcA, seval, vV]
        simp [hd]
      · simp only [vcA, seval, vV]
        rw [hr, Bool.true_and, List.drop_drop] at hd
        refine loopK_of ⟨p + (Lib.decodeL (l.drop p)).2, by omega, hd⟩ (by show l.length - (p + _) < l.length - p; omega) ?_
        apply lw_of <;> simp [leL, lk, sv, Nat.beq, I, S, ES.kill, has, drp, nilT]
    · simp only [vcA, seval, vV, hlt, h60']
      have hnil : l.drop p = [] := List.drop_eq_nil_of_le (by omega)
      rw [hnil] at hd
      rw [hd]; rfl
  · have d1 : (60 : Int) < (l.length : Int) := by omega
    have h60' : ¬ l.length ≤ 60 := by omega
    simp only [vcA, seval, vV, d1]
    simp [h60']
theorem bare_ok (g : Sh.Glob) (x : V) : SCalls Tryz.prog g 90 [tv x] [] (B (bare x)) [] := by
  refine call_of0 hmix tf_val_bare rfl ?_
  have h1 : decide ((x.l.length : Int) = 0) = (x.l.length == 0) := by rw [Bool.eq_iff_iff]; simp
  unfold bare B
  cases h : x.s == []
  · simp only [vcA, seval, vV, e0, h]
  · simp only [vcA, seval, vV, e0, h, h1]
theorem rightID_ok (g : Sh.Glob) (n : Int) : SCalls Tryz.prog g 92 [I n] [] (B (rightID n)) [] := by
  refine call_of0 hmix tf_val_rightID rfl ?_
  unfold B
  simp only [vcA, seval, vV]
  unfold rightID
  repeat' (first | (apply And.intro) | (intro _))
  all_goals (first | rfl | (simp; omega) | (simp_all; done) | (simp_all; omega))
theorem right1_mk (k n : Int) (s : List UInt8) (l : List V) : right1 (.mk k n s l) = if k = 0 then bare (.mk k n s l) && n == 0
  else if k = 1 then bare (.mk k n s l) && decide (-1000000000000000 ≤ n) && decide (n ≤ 1000000000000000)
  else if k = 2 then n == 0 && l.length == 0 && rightText s
  else if k = 3 ∨ k = 4 then bare (.mk k n s l) && rightID n
  else false := rfl
theorem right1_ok0 (m : Nat) (x : V) (hs : TextsOk x) (h5 : x.k ≠ 5) : SCalls Tryz.prog (gl0 m) 52 [tv x] [] (B (right1 x)) [] := by
  obtain ⟨k, n, s, l⟩ := x
  have HB := bare_ok (gl0 m) (.mk k n s l)
  have HI := rightID_ok (gl0 m) n
  have HT := rightText_ok0 m s hs
  have hln : decide ((l.length : Int) = 0) = (l.length == 0) := by rw [Bool.eq_iff_iff]; simp
  have k5 : ¬ k = 5 := h5
  clear h5 hs
  rw [right1_mk]
  generalize bare (.mk k n s l) = b at HB ⊢
  refine call_of0 hmix tf_val_Right rfl ?_
  unfold B at *
  by_cases k0 : k = 0
  · subst k0
    have hn0 : decide (n = 0) = (n == 0) := by rw [Bool.eq_iff_iff]; simp
    simp only [vcA, seval, vV]
    (with_reducible apply v_call); (· simp only [vcA, seval, vV]; with_reducible rfl); (· rfl); (· exact HB); (· first | rfl | (simp only [vcA, seval]; omega)); (· simp only [vcA, seval, vV]; with_reducible rfl)
    cases b <;> simp only [vcA, seval, vV, hn0]
  rw [if_neg k0]
  by_cases k1 : k = 1
  · subst k1
    simp only [vcA, seval, vV]
    (with_reducible apply v_call); (· simp only [vcA, seval, vV]; with_reducible rfl); (· rfl); (· exact HB); (· first | rfl | (simp only [vcA, seval]; omega)); (· simp only [vcA, seval, vV]; with_reducible rfl)
    cases b
    · simp only [vcA, seval, vV]
    · by_cases q1 : -1000000000000000 ≤ n <;> by_cases q2 : n ≤ 1000000000000000 <;> simp only [vcA, seval, vV, q1, q2]
  rw [if_neg k1]
  by_cases k2 : k = 2
  · subst k2
    by_cases n0 : n = 0
    · subst n0
      cases hl : l.length == 0
      · simp only [vcA, seval, vV, hln, hl]
      · simp only [vcA, seval, vV, hln, hl]
        (with_reducible apply v_call); (· simp only [vcA, seval, vV]; with_reducible rfl); (· rfl); (· exact HT); (· first | rfl | (simp only [vcA, seval]; omega)); (· simp only [vcA, seval, vV]; with_reducible rfl)
        simp only [vcA, seval, vV]
    · have hn0 : (n == 0) = false := by simpa using n0
      simp only [vcA, seval, vV, n0, hn0]
  rw [if_neg k2]
  by_cases k3 : k = 3
  · subst k3
    simp only [vcA, seval, vV]
    (with_reducible apply v_call); (· simp only [vcA, seval, vV]; with_reducible rfl); (· rfl); (· exact HB); (· first | rfl | (simp only [vcA, seval]; omega)); (· simp only [vcA, seval, vV]; with_reducible rfl)
    cases b
    · simp only [vcA, seval, vV]
    · simp only [vcA, seval, vV]
      (with_reducible apply v_call); (· simp only [vcA, seval, vV]; with_reducible rfl); (· rfl); (· exact HI); (· first | rfl | (simp only [vcA, seval]; omega)); (· simp only [vcA, seval, vV]; with_reducible rfl)
      simp only [vcA, seval, vV]
  by_cases k4 : k = 4
  · subst k4
    simp only [vcA, seval, vV]
    (with_reducible apply v_call); (· simp only [vcA, seval, vV]; with_reducible rfl); (· rfl); (· exact HB); (· first | rfl | (simp only [vcA, seval]; omega)); (· simp only [vcA, seval, vV]; with_reducible rfl)
    cases b
    · simp only [vcA, seval, vV]
    · simp only [vcA, seval, vV]
      (with_reducible apply v_call); (· simp only [vcA, seval, vV]; with_reducible rfl); (· rfl); (· exact HI); (· first | rfl | (simp only [vcA, seval]; omega)); (· simp only [vcA, seval, vV]; with_reducible rfl)
      simp only [vcA, seval, vV]
  simp only [vcA, seval, vV, k0, k1, k2, k3, k4, k5]
end Go.Proofs.YtmiokadmddjccaaGreatDoor
end

section
/- Package val's functions, walked: Right, Fits, Zero. No statement of the program is proved here. -/
namespace Go.Proofs.YtmiokadmddjccaaGreatDoor
open Go Go.RowKit Go.Mor Go.Sh Go.Sh.Cd1
set_option maxRecDepth 100000
set_option maxHeartbeats 4000000
theorem noItem_ok0 (m : Nat) (x : V) (hs : TextsOk x) : SCalls Tryz.prog (gl0 m) 94 [tv x] [] (B (noItem x)) [] := by
  refine call_of0 hmix tf_val_noItem rfl ?_
  unfold noItem B
  by_cases k5 : x.k = 5
  · have h : (x.k == 5) = true := by simp [k5]
    have d : decide (x.k = 5) = true := by simp [k5]
    simp only [vcA, seval, vV, d, h]
    rfl
  · have HR := right1_ok0 m x hs k5
    have h : (x.k == 5) = false := by simpa using k5
    unfold B at HR
    simp only [vcA, seval, vV, k5, h]
    (with_reducible apply v_call); (· simp only [vcA, seval, vV]; with_reducible rfl); (· rfl); (· exact HR); (· first | rfl | (simp only [vcA, seval]; omega)); (· simp only [vcA, seval, vV]; with_reducible rfl)
    simp only [vcA, seval, vV]
theorem firstAt_drop {α : Type} (p : α → Bool) : ∀ (l : List α) (i : Nat), (∀ j x, j < i → l[j]? = some x → p x = false) → ∀ x, l[i]? = some x → p x = true → firstAt p l = i
  | [], i, _, x, hx, _ => by simp at hx
  | a :: l, 0, _, x, hx, hp => by simp at hx; subst hx; simp [firstAt, List.findIdx?_cons, hp]
  | a :: l, i + 1, h, x, hx, hp => by
    have h0 := h 0 a (by omega) rfl
    have := firstAt_drop p l i (fun j y hj hy => h (j + 1) y (by omega) (by simpa using hy)) x (by simpa using hx) hp
    unfold firstAt at this ⊢
    rw [List.findIdx?_cons, h0]
    cases hf : l.findIdx? p with
    | none => rw [hf] at this; simp only at this; omega
    | some q => rw [hf] at this; simp only at this ⊢; simp; omega
theorem firstAt_none {α : Type} (p : α → Bool) (l : List α) (h : ∀ x ∈ l, p x = false) : firstAt p l = -1 := by
  have : l.findIdx? p = none := List.findIdx?_eq_none_iff.2 h
  unfold firstAt; rw [this]
theorem firstAt_any {α : Type} (p : α → Bool) (l : List α) : decide (0 ≤ firstAt p l) = l.any p := by
  rw [Bool.eq_iff_iff, decide_eq_true_eq, List.any_eq_true]
  constructor
  · intro h
    by_cases hn : ∀ x ∈ l, p x = false
    · rw [firstAt_none p l hn] at h; omega
    · obtain ⟨x, hx⟩ := Classical.not_forall.1 hn
      obtain ⟨hx, hp⟩ := Classical.not_imp.1 hx
      exact ⟨x, hx, by simpa using hp⟩
  · rintro ⟨x, hx, hp⟩
    unfold firstAt
    cases hf : l.findIdx? p with
    | none => rw [List.findIdx?_eq_none_iff.1 hf x hx] at hp; cases hp
    | some i => simp
theorem indexNo_ok (m : Nat) (l : List V) (hl : l.length ≤ maxLen) (hs : ∀ x ∈ l, TextsOk x) : SCalls Tryz.prog (gl0 m) 162 [.pv (.sl 4 (V.rows l)), .pv (.v (.func (.func 94) #[] #[]))] [] (I (firstAt noItem l)) [] := by
  refine call_of0 hmix tf_slices_IndexFunc___api_Val_api_Val_ rfl ?_
  have hm : maxLen = 9223372036854775807 := rfl
  simp only [vcA, seval, vV]
  refine v_loop (σ := {i : Nat // i ≤ l.length ∧ ∀ j x, j < i → l[j]? = some x → noItem x = false}) (fun i => ⟨[(0, .pv (.sl 4 (V.rows l))), (1, .pv (.v (.func (.func 94) #[] #[]))), (7, I (l.length : Int)), (8, I (i.1 : Int))], [], [], []⟩) (fun i => l.length - i.1) ⟨0, Nat.zero_le _, fun j x hj => by omega⟩ (lw_eq (by simp [I])) ?_
  rintro ⟨i, hi, hno⟩
  by_cases hlt : i < l.length
  · have d1 : (i : Int) < (l.length : Int) := by omega
    obtain ⟨x, ex⟩ : ∃ x, l[i]? = some x := ⟨_, List.getElem?_eq_getElem hlt⟩
    have HN := noItem_ok0 m x (hs x (List.mem_of_getElem? ex))
    have w1 : IntKind.i64.wrap ((i : Int) + 1) = ((i + 1 : Nat) : Int) := by rw [wrap64 (by omega) (by omega)]; omega
    unfold tv B at HN
    simp only [vcA, seval, vV, d1, ex]
    (with_reducible apply v_callv); (· simp only [vcA, seval, vV]; with_reducible rfl); (· exact HN); (· rfl); (· simp only [vcA, seval, vV]; with_reducible rfl)
    cases hp : noItem x
    · simp only [vcA, seval, vV, w1]
      refine loopK_of ⟨i + 1, by omega, fun j y hj hy => ?_⟩ (by show l.length - (i + 1) < l.length - i; omega) ?_
      · by_cases hji : j = i
        · subst hji; rw [ex] at hy; cases hy; exact hp
        · exact hno j y (by omega) hy
      · apply lw_of <;> simp [leL, lk, sv, Nat.beq, I, S, ES.kill, has, drp, nilT]
    · simp only [vcA, seval, vV]
      rw [firstAt_drop noItem l i hno x ex hp]
  · have d1 : ¬ (i : Int) < (l.length : Int) := by omega
    simp only [vcA, seval, vV, d1]
    rw [firstAt_none noItem l (fun x hx => by
      obtain ⟨j, hj⟩ := List.getElem?_of_mem hx
      exact hno j x (by have := (List.getElem?_eq_some_iff.1 hj).1; omega) hj)]
theorem containsNo_ok (m : Nat) (l : List V) (hl : l.length ≤ maxLen) (hs : ∀ x ∈ l, TextsOk x) : SCalls Tryz.prog (gl0 m) 93 [.pv (.sl 4 (V.rows l)), .pv (.v (.func (.func 94) #[] #[]))] [] (B (l.any noItem)) [] := by
  refine call_of0 hmix tf_slices_ContainsFunc___api_Val_api_Val_ rfl ?_
  have HI := indexNo_ok m l hl hs
  rw [← firstAt_any]
  unfold B
  simp only [vcA, seval, vV]
  (with_reducible apply v_call); (· simp only [vcA, seval, vV]; with_reducible rfl); (· rfl); (· exact HI); (· first | rfl | (simp only [vcA, seval]; omega)); (· simp only [vcA, seval, vV]; with_reducible rfl)
  simp only [vcA, seval, vV]
theorem rightV_ok0 (m : Nat) (x : V) (hx : VOk x) : SCalls Tryz.prog (gl0 m) 52 [tv x] [] (B (rightV x)) [] := by
  unfold rightV
  by_cases k5 : x.k = 5
  · rw [if_pos k5]
    obtain ⟨k, n, s, l⟩ := x
    simp only [Vk] at k5
    subst k5
    simp only [Vn, Vs, Vl]
    refine call_of0 hmix tf_val_Right rfl ?_
    unfold B
    by_cases n0 : n = 0
    · subst n0
      cases hs : s == []
      · simp only [vcA, seval, vV, e0, hs]
      · by_cases h12 : l.length ≤ 12
        · have d1 : (l.length : Int) ≤ 12 := by omega
          have HC := containsNo_ok m l (by unfold maxLen; omega) (fun y hy => hx.2 y hy)
          unfold B at HC
          simp only [vcA, seval, vV, e0, hs, d1, h12]
          (with_reducible apply v_call); (· simp only [vcA, seval, vV]; with_reducible rfl); (· rfl); (· exact HC); (· first | rfl | (simp only [vcA, seval]; omega)); (· simp only [vcA, seval, vV]; with_reducible rfl)
          simp only [vcA, seval, vV]
        · have d1 : ¬ (l.length : Int) ≤ 12 := by omega
          simp only [vcA, seval, vV, e0, hs, d1, h12]
    · have hn0 : (n == 0) = false := by simpa using n0
      simp only [vcA, seval, vV, n0, hn0]
  · rw [if_neg k5]
    exact right1_ok0 m x hx.1 k5
theorem rightType_ok (g : Sh.Glob) (t : Ty) : SCalls Tryz.prog g 96 [tyT t] [] (B (rightType t)) [] := by
  refine call_of0 hmix tf_val_rightType rfl ?_
  obtain ⟨k, o⟩ := t
  unfold B
  simp only [vcA, seval, vV]
  unfold rightType
  repeat' (first | (apply And.intro) | (intro _))
  all_goals (first | (simp_all; done) | (simp_all; omega))
theorem ofKind_ok (g : Sh.Glob) (x : V) (k : Int) : SCalls Tryz.prog g 97 [tv x, I k] [] (B (ofKind x k)) [] := by
  refine call_of0 hmix tf_val_ofKind rfl ?_
  unfold B
  simp only [vcA, seval, vV]
  unfold ofKind
  repeat' (first | (apply And.intro) | (intro _))
  all_goals (first | (simp_all; done) | (simp only [Option.some.injEq, TV.pv.injEq, PV.v.injEq, Value.bool.injEq]; rw [Bool.eq_iff_iff]; simp_all; done) | (simp only [Option.some.injEq, TV.pv.injEq, PV.v.injEq, Value.bool.injEq]; rw [Bool.eq_iff_iff]; simp_all; omega))
theorem fits1_ok (g : Sh.Glob) (x : V) (t : Ty) : SCalls Tryz.prog g 98 [tv x, .ptr 1000 0] [.box [I t.k, I t.o]] (B (!ofKind x t.o)) [.box [I t.k, I t.o]] := by
  refine call_of hmix tf_val_Fits_1 rfl rfl rfl ?_
  have HK := ofKind_ok g x t.o
  unfold B at *
  simp only [vcA, seval, vV]
  (with_reducible apply v_call); (· simp only [vcA, seval, vV]; with_reducible rfl); (· rfl); (· exact HK); (· first | rfl | (simp only [vcA, seval]; omega)); (· simp only [vcA, seval, vV]; with_reducible rfl)
  simp only [vcA, seval, vV]
theorem indexFits_ok (g : Sh.Glob) (l : List V) (t : Ty) (hl : l.length ≤ maxLen) : SCalls Tryz.prog g 162 [.pv (.sl 4 (V.rows l)), .fn (.func 98) [] [.ptr 1000 0]] [.box [I t.k, I t.o]] (I (firstAt (fun y => !ofKind y t.o) l)) [.box [I t.k, I t.o]] := by
  refine call_of hmix tf_slices_IndexFunc___api_Val_api_Val_ rfl rfl rfl ?_
  have hm : maxLen = 9223372036854775807 := rfl
  simp only [vcA, seval, vV]
  refine v_loop (σ := {i : Nat // i ≤ l.length ∧ ∀ j x, j < i → l[j]? = some x → (!ofKind x t.o) = false}) (fun i => ⟨[(0, .pv (.sl 4 (V.rows l))), (1, .fn (.func 98) [] [.ptr 1000 0]), (7, I (l.length : Int)), (8, I (i.1 : Int))], [(1000, [I t.k, I t.o])], [], []⟩) (fun i => l.length - i.1) ⟨0, Nat.zero_le _, fun j x hj => by omega⟩ (lw_eq (by simp [I])) ?_
  rintro ⟨i, hi, hno⟩
  by_cases hlt : i < l.length
  · have d1 : (i : Int) < (l.length : Int) := by omega
    obtain ⟨x, ex⟩ : ∃ x, l[i]? = some x := ⟨_, List.getElem?_eq_getElem hlt⟩
    have HN := fits1_ok g x t
    have w1 : IntKind.i64.wrap ((i : Int) + 1) = ((i + 1 : Nat) : Int) := by rw [wrap64 (by omega) (by omega)]; omega
    unfold tv B at HN
    simp only [vcA, seval, vV, d1, ex]
    (with_reducible apply v_callv); (· simp only [vcA, seval, vV]; with_reducible rfl); (· exact HN); (· rfl); (· simp only [vcA, seval, vV]; with_reducible rfl)
    cases hp : ofKind x t.o
    · simp only [vcA, seval, vV]
      rw [firstAt_drop (fun y => !ofKind y t.o) l i hno x ex (by simp [hp])]
    · simp only [vcA, seval, vV, w1]
      refine loopK_of ⟨i + 1, by omega, fun j y hj hy => ?_⟩ (by show l.length - (i + 1) < l.length - i; omega) ?_
      · by_cases hji : j = i
        · subst hji; rw [ex] at hy; cases hy; simp [hp]
        · exact hno j y (by omega) hy
      · apply lw_of <;> simp [leL, lk, sv, Nat.beq, I, S, ES.kill, has, drp, nilT]
  · have d1 : ¬ (i : Int) < (l.length : Int) := by omega
    simp only [vcA, seval, vV, d1]
    rw [firstAt_none (fun y => !ofKind y t.o) l (fun x hx => by
      obtain ⟨j, hj⟩ := List.getElem?_of_mem hx
      exact hno j x (by have := (List.getElem?_eq_some_iff.1 hj).1; omega) hj)]
theorem containsFits_ok (g : Sh.Glob) (l : List V) (t : Ty) (hl : l.length ≤ maxLen) : SCalls Tryz.prog g 93 [.pv (.sl 4 (V.rows l)), .fn (.func 98) [] [.ptr 1000 0]] [.box [I t.k, I t.o]] (B (l.any fun y => !ofKind y t.o)) [.box [I t.k, I t.o]] := by
  refine call_of hmix tf_slices_ContainsFunc___api_Val_api_Val_ rfl rfl rfl ?_
  have HI := indexFits_ok g l t hl
  rw [← firstAt_any]
  unfold B
  simp only [vcA, seval, vV]
  (with_reducible apply v_call); (· simp only [vcA, seval, vV]; with_reducible rfl); (· rfl); (· exact HI); (· first | rfl | (simp only [vcA, seval]; omega)); (· simp only [vcA, seval, vV]; with_reducible rfl)
  simp only [vcA, seval, vV]
theorem fits_ok0 (m : Nat) (x : V) (t : Ty) (hx : VOk x) (hl : x.l.length ≤ maxLen) : SCalls Tryz.prog (gl0 m) 56 [tv x, tyT t] [] (B (fitsV x t)) [] := by
  refine call_of0 hmix tf_val_Fits rfl ?_
  have HR := rightV_ok0 m x hx
  have HT := rightType_ok (gl0 m) t
  have HK := ofKind_ok (gl0 m) x t.k
  have HC := containsFits_ok (gl0 m) x.l t hl
  unfold fitsV B at *
  simp only [vcA, seval, vV]
  (with_reducible apply v_call); (· simp only [vcA, seval, vV]; with_reducible rfl); (· rfl); (· exact HR); (· first | rfl | (simp only [vcA, seval]; omega)); (· simp only [vcA, seval, vV]; with_reducible rfl)
  cases rightV x
  · simp only [vcA, seval, vV]
  simp only [vcA, seval, vV]
  (with_reducible apply v_call); (· simp only [vcA, seval, vV]; with_reducible rfl); (· rfl); (· exact HT); (· first | rfl | (simp only [vcA, seval]; omega)); (· simp only [vcA, seval, vV]; with_reducible rfl)
  cases rightType t
  · simp only [vcA, seval, vV]
  simp only [vcA, seval, vV]
  (with_reducible apply v_call); (· simp only [vcA, seval, vV]; with_reducible rfl); (· rfl); (· exact HK); (· first | rfl | (simp only [vcA, seval]; omega)); (· simp only [vcA, seval, vV]; with_reducible rfl)
  cases ofKind x t.k
  · simp only [vcA, seval, vV]
  simp only [vcA, seval, vV]
  (with_reducible apply v_call); (· simp only [vcA, seval, vV]; with_reducible rfl); (· rfl); (· exact HC); (· first | rfl | (simp only [vcA, seval]; omega)); (· simp only [vcA, seval, vV]; with_reducible rfl)
  simp only [vcA, seval, vV]
end Go.Proofs.YtmiokadmddjccaaGreatDoor
end

section
/- Layer 1 in plain words: a number's bytes. -/
namespace Go.Mor

def mag (n : Int) : Nat := if n < 0 then (-1 - n).toNat else n.toNat
def sgn (n : Int) : Nat := if n < 0 then 1 else 0
def tailN : Nat → Nat → List UInt8
  | 0, _ => []
  | f + 1, m => if m = 0 then [] else UInt8.ofNat (m % 128) :: tailN f (m / 128)
def groups (n : Int) : List UInt8 := UInt8.ofNat (mag n % 64 * 2 + sgn n) :: tailN 9 (mag n / 64)
def bump (l : List UInt8) : List UInt8 := l.dropLast ++ (l.getLast?.map (· + 128)).toList
def pack (l : List UInt8) : List UInt8 := l.foldl (fun acc g => bump acc ++ [g]) []
def num (n : Int) : List UInt8 := pack (groups n)
theorem pack_snoc (l : List UInt8) (g : UInt8) : pack (l ++ [g]) = bump (pack l) ++ [g] := by simp [pack]
theorem bump_length (l : List UInt8) : (bump l).length = l.length := by
  rcases List.eq_nil_or_concat l with rfl | ⟨Q, b, rfl⟩
  · rfl
  · simp [bump]
theorem foldl_bump_length (l : List UInt8) : ∀ acc : List UInt8, (l.foldl (fun acc g => bump acc ++ [g]) acc).length = acc.length + l.length := by
  induction l with
  | nil => intro acc; simp
  | cons g l ih => intro acc; rw [List.foldl_cons, ih]; simp [bump_length]; omega
theorem pack_length (l : List UInt8) : (pack l).length = l.length := by rw [pack, foldl_bump_length]; simp
theorem tailN_zero (f : Nat) : tailN f 0 = [] := by cases f <;> simp [tailN]
theorem tailN_length (f : Nat) : ∀ m, (tailN f m).length ≤ f := by
  induction f with
  | zero => intro m; simp [tailN]
  | succ f ih => intro m; simp only [tailN]; split; simp; simp; exact ih _
theorem groups_length (n : Int) : (groups n).length ≤ 10 := by
  have := tailN_length 9 (mag n / 64)
  simp [groups]; omega
theorem num_length (n : Int) : (num n).length ≤ 10 := by rw [num, pack_length]; exact groups_length n
theorem num_pos (n : Int) : 0 < (num n).length := by rw [num, pack_length]; simp [groups]
abbrev Ix : Type := Fin 1125899906842624
def rdGo : Nat → Nat × Nat → List UInt8 → Except Bool (Nat × Nat × Nat)
  | _, _, [] => .error false
  | k, st, b :: r =>
    if k ≠ 0 ∧ (b.toNat = 0 ∨ k = 9 ∧ 1 < b.toNat) then .error true else
    let g := b.toNat % 128
    let st' := if k = 0 then (g / 2, g % 2) else (st.1 + g * 2 ^ (7 * k - 1), st.2)
    if b.toNat < 128 then .ok (st'.1, st'.2, k + 1) else rdGo (k + 1) st' r
def stepM (st : Nat × Nat) (x : Ix × UInt8) : Nat × Nat :=
  if x.1.val = 0 then (x.2.toNat % 128 / 2, x.2.toNat % 128 % 2) else (st.1 + x.2.toNat % 128 * 2 ^ (7 * x.1.val - 1), st.2)
def stM (pre : List (Ix × UInt8)) : Nat × Nat := pre.foldl stepM (0, 0)
theorem stM_snoc (pre : List (Ix × UInt8)) (x : Ix × UInt8) : stM (pre ++ [x]) = stepM (stM pre) x := by simp [stM]
def pairs (s : List UInt8) (a : Nat) : List (Ix × UInt8) := (s.drop a).zipIdx.map fun p => (Fin.ofNat _ p.2, p.1)
theorem pairs_length (s : List UInt8) (a : Nat) : (pairs s a).length = s.length - a := by simp [pairs]
theorem pairs_get (s : List UInt8) (a k : Nat) (h : a + k < s.length) : (pairs s a)[k]? = some (Fin.ofNat _ k, s[a + k]) := by
  simp [pairs, List.getElem?_drop, List.getElem?_eq_getElem h]
theorem pairs_take (s : List UInt8) (a k : Nat) (h : a + k < s.length) : (pairs s a).take (k + 1) = (pairs s a).take k ++ [(Fin.ofNat _ k, s[a + k])] := by
  rw [List.take_add_one, pairs_get s a k h]; rfl
def rd (s : List UInt8) (a : Int) : Except Bool (Int × Nat) :=
  if 0 ≤ a ∧ a < s.length then
    match rdGo 0 (0, 0) (s.drop a.toNat) with
    | .error e => .error e
    | .ok (m, sg, z) => .ok (if sg = 1 then -1 - (m : Int) else m, z)
  else .error false
def Begs (s : List UInt8) (a : Nat) (pre : List (Ix × UInt8)) : Prop := pre <+: pairs s a
theorem Begs.last {s : List UInt8} {a : Nat} {pre : List (Ix × UInt8)} {x : Ix × UInt8} (h : Begs s a (pre ++ [x])) (hs : s.length < 1125899906842624) :
    Begs s a pre ∧ x.1.val = pre.length ∧ ∃ hl : a + pre.length < s.length, x.2 = s[a + pre.length] := by
  have hg : Begs s a pre := (List.prefix_append pre [x]).trans h
  have hlen := h.length_le
  rw [pairs_length] at hlen
  simp at hlen
  have hl : a + pre.length < s.length := by omega
  have h1 : (pre ++ [x])[pre.length]? = some x := by simp
  have h2 := List.prefix_iff_getElem?.1 h pre.length (by simp)
  rw [pairs_get s a pre.length hl] at h2
  simp at h2
  subst h2
  exact ⟨hg, by simp [Fin.ofNat]; omega, hl, rfl⟩
structure Mid (s : List UInt8) (a : Nat) (pre : List (Ix × UInt8)) (m sg : Int) : Prop where
  m : m = (stM pre).1
  sg : sg = (stM pre).2
  go : rdGo 0 (0, 0) (s.drop a) = rdGo pre.length (stM pre) (s.drop (a + pre.length))
  lt : (stM pre).1 < 2 ^ (7 * pre.length - 1)
  le : pre.length ≤ 9
theorem bump_nil : bump [] = [] := rfl
theorem add128 (b : UInt8) : ((b + 128).toNat : Int) = ((b.toNat : Int) + 128) % 256 := by
  have h : (128 : UInt8).toNat = 128 := rfl
  rw [UInt8.toNat_add, h]
  omega
theorem bump_snoc (Q : List UInt8) (b : UInt8) : bump (Q ++ [b]) = Q ++ [b + 128] := by
  simp [bump]
theorem snoc_of {α : Type} (l : List α) (h : l ≠ []) : ∃ Q b, l = Q ++ [b] := ⟨l.dropLast, l.getLast h, (List.dropLast_concat_getLast h).symm⟩
theorem first_neg (x : Int) (h : x < 0) : ((UInt8.ofNat (mag x % 64 * 2 + sgn x)).toNat : Int) = (-1 - x) % 64 * 2 + 1 := by
  simp only [mag, sgn, if_pos h, UInt8.toNat_ofNat']; omega
theorem first_pos (x : Int) (h : ¬ x < 0) : ((UInt8.ofNat (mag x % 64 * 2 + sgn x)).toNat : Int) = x % 64 * 2 := by
  simp only [mag, sgn, if_neg h, UInt8.toNat_ofNat']; omega
theorem next_byte (m : Nat) : ((UInt8.ofNat (m % 128)).toNat : Int) = (m : Int) % 128 := by
  simp only [UInt8.toNat_ofNat']; omega
theorem mag_eq (x : Int) : (mag x : Int) = if x < 0 then -1 - x else x := by simp only [mag]; split <;> omega
theorem mag_lt (x : Int) (h0 : -9223372036854775808 ≤ x) (h1 : x ≤ 9223372036854775807) : mag x < 9223372036854775808 := by
  have := mag_eq x; split at this <;> omega
theorem mag_neg (x : Int) (h : x < 0) : (mag x : Int) = -1 - x := by simp only [mag, if_pos h]; omega
theorem mag_pos (x : Int) (h : ¬ x < 0) : (mag x : Int) = x := by simp only [mag, if_neg h]; omega
end Go.Mor
end

section
/- Layer 1 in plain words: reading a number's bytes, round by round. -/
namespace Go.Mor
open Go

theorem drop_cons {s : List UInt8} {i : Nat} (h : i < s.length) : s.drop i = s[i] :: s.drop (i + 1) := List.drop_eq_getElem_cons h

theorem Mid.at {s : List UInt8} {a : Nat} {pre : List (Ix × UInt8)} {x : Ix × UInt8} {m sg : Int} (hs : s.length < 1125899906842624) (hM : Begs s a pre → Mid s a pre m sg) (hg : Begs s a (pre ++ [x])) :
    Mid s a pre m sg ∧ x.1.val = pre.length ∧ rdGo 0 (0, 0) (s.drop a) = rdGo pre.length (stM pre) (x.2 :: s.drop (a + (pre ++ [x]).length)) := by
  obtain ⟨hg', hx, hl, hb⟩ := hg.last hs
  have hm := hM hg'
  refine ⟨hm, hx, ?_⟩
  rw [hm.go, drop_cons hl, hb]
  simp [Nat.add_assoc]

theorem Mid.err {s : List UInt8} {a : Nat} {pre : List (Ix × UInt8)} {x : Ix × UInt8} {m sg : Int} (hs : s.length < 1125899906842624) (hM : Begs s a pre → Mid s a pre m sg) (hk : ¬ x.1.val = 0) (hbad : x.2.toNat = 0 ∨ x.1.val = 9 ∧ 1 < x.2.toNat)
    (hg : Begs s a (pre ++ [x])) : rdGo 0 (0, 0) (s.drop a) = .error true := by
  obtain ⟨hm, hx, hr⟩ := Mid.at hs hM hg
  rw [hr, rdGo, if_pos]
  rw [← hx]
  exact ⟨hk, hbad⟩

theorem Mid.ok {s : List UInt8} {a : Nat} {pre : List (Ix × UInt8)} {x : Ix × UInt8} {m sg : Int} (hs : s.length < 1125899906842624) (hM : Begs s a pre → Mid s a pre m sg) (hbad : ¬ (x.1.val ≠ 0 ∧ (x.2.toNat = 0 ∨ x.1.val = 9 ∧ 1 < x.2.toNat)))
    (hlo : x.2.toNat < 128) (hg : Begs s a (pre ++ [x])) : rdGo 0 (0, 0) (s.drop a) = .ok ((stepM (stM pre) x).1, (stepM (stM pre) x).2, x.1.val + 1) := by
  obtain ⟨hm, hx, hr⟩ := Mid.at hs hM hg
  rw [hr, rdGo, if_neg (by rw [← hx]; exact hbad), ← hx]
  simp only [hlo, if_true, stepM]

theorem step_lt {st : Nat × Nat} {x : Ix × UInt8} (h : st.1 < 2 ^ (7 * x.1.val - 1)) : (stepM st x).1 < 2 ^ (7 * (x.1.val + 1) - 1) := by
  unfold stepM
  by_cases h0 : x.1.val = 0
  · rw [if_pos h0, h0]
    show x.2.toNat % 128 / 2 < 64
    omega
  · rw [if_neg h0]
    show st.1 + x.2.toNat % 128 * 2 ^ (7 * x.1.val - 1) < _
    have e : 7 * (x.1.val + 1) - 1 = 7 * x.1.val - 1 + 7 := by omega
    rw [e, Nat.pow_add]
    have h1 : x.2.toNat % 128 < 128 := Nat.mod_lt _ (by omega)
    have h2 : x.2.toNat % 128 * 2 ^ (7 * x.1.val - 1) ≤ 127 * 2 ^ (7 * x.1.val - 1) := Nat.mul_le_mul_right _ (by omega)
    omega

theorem Mid.cont {s : List UInt8} {a : Nat} {pre : List (Ix × UInt8)} {x : Ix × UInt8} {m sg : Int} (hs : s.length < 1125899906842624) (hM : Begs s a pre → Mid s a pre m sg) (hbad : ¬ (x.1.val ≠ 0 ∧ (x.2.toNat = 0 ∨ x.1.val = 9 ∧ 1 < x.2.toNat)))
    (hlo : 128 ≤ x.2.toNat) (hg : Begs s a (pre ++ [x])) : Mid s a (pre ++ [x]) ((stepM (stM pre) x).1 : Nat) ((stepM (stM pre) x).2 : Nat) := by
  obtain ⟨hm, hx, hr⟩ := Mid.at hs hM hg
  have hlen : (pre ++ [x]).length = x.1.val + 1 := by simp [hx]
  refine ⟨by rw [stM_snoc], by rw [stM_snoc], ?_, ?_, ?_⟩
  · rw [hr, rdGo, if_neg (by rw [← hx]; exact hbad), stM_snoc, ← hx]
    have h1 : ¬ x.2.toNat < 128 := by omega
    simp only [h1, if_false, hlen]
    rfl
  · rw [stM_snoc, hlen]
    exact step_lt (by rw [hx]; exact hm.lt)
  · have := hm.le
    rw [hlen]
    by_cases h0 : x.1.val = 0
    · omega
    · have : ¬ x.1.val = 9 := fun h9 => hbad ⟨h0, .inr ⟨h9, by omega⟩⟩
      omega

theorem or_add (A g i : Nat) (h : A < 2 ^ i) : A ||| g * 2 ^ i = A + g * 2 ^ i := by
  have := Nat.two_pow_add_eq_or_of_lt h g
  rw [Nat.mul_comm g, Nat.or_comm, ← this, Nat.add_comm]

theorem or_step {s : List UInt8} {a : Nat} {pre : List (Ix × UInt8)} {x : Ix × UInt8} {m sg G : Int} (hs : s.length < 1125899906842624) (hM : Begs s a pre → Mid s a pre m sg) (hk : ¬ x.1.val = 0) (hbad : ¬ (x.2.toNat = 0 ∨ x.1.val = 9 ∧ 1 < x.2.toNat))
    (hG : G = IntKind.u64.wrap ((x.2.toNat : Int) % 128 * 2 ^ min (7 * x.1.val - 1) 64)) (hg : Begs s a (pre ++ [x])) :
    bits .or .u64 m G = ((stepM (stM pre) x).1 : Nat) ∧ sg = ((stepM (stM pre) x).2 : Nat) := by
  obtain ⟨hm, hx, _⟩ := Mid.at hs hM hg
  have hle := hm.le
  have hlt := hm.lt
  rw [← hx] at hle hlt
  have hmin : min (7 * x.1.val - 1) 64 = 7 * x.1.val - 1 := by omega
  have hpow : 2 ^ (7 * x.1.val - 1) ≤ 2 ^ 62 := Nat.pow_le_pow_right (by omega) (by omega)
  have hval : x.2.toNat % 128 * 2 ^ (7 * x.1.val - 1) < 18446744073709551616 := by
    by_cases h9 : x.1.val = 9
    · have : x.2.toNat % 128 ≤ 1 := by omega
      have := Nat.mul_le_mul this hpow
      omega
    · have h8 : 2 ^ (7 * x.1.val - 1) ≤ 2 ^ 55 := Nat.pow_le_pow_right (by omega) (by omega)
      have : x.2.toNat % 128 ≤ 127 := by omega
      have := Nat.mul_le_mul this h8
      omega
  have hG' : G = ((x.2.toNat % 128 * 2 ^ (7 * x.1.val - 1) : Nat) : Int) := by
    rw [hG, hmin]
    have e : (x.2.toNat : Int) % 128 * 2 ^ (7 * x.1.val - 1) = ((x.2.toNat % 128 * 2 ^ (7 * x.1.val - 1) : Nat) : Int) := by simp
    rw [e, IntKind.wrap_u64]
    omega
  rw [hG', hm.m, u64_or_nat _ _ (by omega) hval, or_add _ _ _ hlt, hm.sg]
  simp only [stepM, if_neg hk, true_and]
theorem rdGo_bound : ∀ (l : List UInt8) (k : Nat) (st : Nat × Nat) {m sg z : Nat}, k ≤ 9 → st.1 < 2 ^ (7 * k - 1) → (k = 0 ∨ st.2 ≤ 1) → rdGo k st l = .ok (m, sg, z) →
    m < 9223372036854775808 ∧ sg ≤ 1 ∧ k < z ∧ z ≤ 10 ∧ z ≤ k + l.length
  | [], k, st, m, sg, z, _, _, _, h => by simp [rdGo] at h
  | b :: r, k, st, m, sg, z, hk, hlt, hsg, h => by
    rw [rdGo] at h
    by_cases hbad : k ≠ 0 ∧ (b.toNat = 0 ∨ k = 9 ∧ 1 < b.toNat)
    · rw [if_pos hbad] at h; cases h
    rw [if_neg hbad] at h
    have hst : (if k = 0 then (b.toNat % 128 / 2, b.toNat % 128 % 2) else (st.1 + b.toNat % 128 * 2 ^ (7 * k - 1), st.2)).1 < 2 ^ (7 * (k + 1) - 1) ∧
        (if k = 0 then (b.toNat % 128 / 2, b.toNat % 128 % 2) else (st.1 + b.toNat % 128 * 2 ^ (7 * k - 1), st.2)).2 ≤ 1 ∧
        (k = 9 → (if k = 0 then (b.toNat % 128 / 2, b.toNat % 128 % 2) else (st.1 + b.toNat % 128 * 2 ^ (7 * k - 1), st.2)).1 < 9223372036854775808) := by
      by_cases h0 : k = 0
      · subst h0
        simp only [if_true]
        refine ⟨?_, by omega, by omega⟩
        show b.toNat % 128 / 2 < 64
        omega
      · simp only [if_neg h0]
        have e : 7 * (k + 1) - 1 = 7 * k - 1 + 7 := by omega
        rw [e, Nat.pow_add]
        have h2 : b.toNat % 128 * 2 ^ (7 * k - 1) ≤ 127 * 2 ^ (7 * k - 1) := Nat.mul_le_mul_right _ (by omega)
        refine ⟨by omega, by omega, fun h9 => ?_⟩
        subst h9
        have h3 : b.toNat % 128 ≤ 1 := by omega
        have h4 : b.toNat % 128 * 2 ^ (7 * 9 - 1) ≤ 1 * 2 ^ (7 * 9 - 1) := Nat.mul_le_mul_right _ h3
        omega
    obtain ⟨h1, h2, h3⟩ := hst
    dsimp only at h
    generalize (if k = 0 then (b.toNat % 128 / 2, b.toNat % 128 % 2) else (st.1 + b.toNat % 128 * 2 ^ (7 * k - 1), st.2)) = q at *
    by_cases hlo : b.toNat < 128
    · rw [if_pos hlo] at h
      simp only [Except.ok.injEq, Prod.mk.injEq] at h
      obtain ⟨rfl, rfl, rfl⟩ := h
      refine ⟨?_, h2, by omega, by omega, by simp⟩
      by_cases h9 : k = 9
      · exact h3 h9
      · have : 2 ^ (7 * (k + 1) - 1) ≤ 2 ^ 62 := Nat.pow_le_pow_right (by omega) (by omega)
        omega
    · rw [if_neg hlo] at h
      have hk9 : ¬ k = 9 := fun h9 => hbad ⟨by omega, .inr ⟨h9, by omega⟩⟩
      have := rdGo_bound r (k + 1) q (by omega) h1 (.inr h2) h
      simp only [List.length_cons]
      omega
end Go.Mor
end

section
/- Layer 1 in plain words: what ReadNum, Text and ReadText answer. -/
namespace Go.Mor

def readNum (s : List UInt8) (a : Int) : Option (Int × Int) :=
  match rd s a with
  | .ok (n, z) => some (n, a + z)
  | .error _ => none
def rdW (s : List UInt8) (a : Int) : Except Bool (List UInt8 × Int) :=
  match rd s a with
  | .error e => .error e
  | .ok (n, z) => if n < 0 ∨ 10000 < n then .error true else if s.length - (a + z) < n then .error false else .ok ((s.drop (a + z).toNat).take n.toNat, a + z + n)
def readText (s : List UInt8) (a : Int) : Option (List UInt8 × Int) :=
  match rdW s a with
  | .ok (t, b) => some (t, b)
  | .error _ => none
def numRes (r : Option (Int × Int)) : Value := match r with | some (n, b) => .tuple #[.int .i64 n, .int .i64 b, .int .i64 0] | none => .tuple #[.int .i64 0, .int .i64 0, .int .i64 10]
def readRes (r : Option (List UInt8 × Int)) : Value := match r with | some (t, b) => .tuple #[.string (str t), .int .i64 b, .int .i64 0] | none => .tuple #[.string (str []), .int .i64 0, .int .i64 10]
def text (s : List UInt8) : List UInt8 := num s.length ++ s
def textRes (s : List UInt8) : Value := if s.length ≤ 10000 then .tuple #[.string (str (text s)), .int .i64 0] else .tuple #[.string (str []), .int .i64 10]
theorem rd_bound {s : List UInt8} {a : Int} {n : Int} {z : Nat} (h : rd s a = .ok (n, z)) : 0 ≤ a ∧ a + z ≤ s.length ∧ -9223372036854775808 ≤ n ∧ n ≤ 9223372036854775807 ∧ 0 < z ∧ z ≤ 10 := by
  unfold rd at h
  split at h
  · rename_i hin
    split at h
    · cases h
    · rename_i m sg z' he
      simp only [Except.ok.injEq, Prod.mk.injEq] at h
      obtain ⟨rfl, rfl⟩ := h
      have := rdGo_bound _ 0 (0, 0) (by omega) (by decide) (.inl rfl) he
      simp only [List.length_drop] at this
      refine ⟨by omega, by omega, ?_, ?_, by omega, by omega⟩ <;> split <;> omega
  · cases h
theorem readNum_bound {s : List UInt8} {a n b : Int} (h : readNum s a = some (n, b)) : 0 ≤ a ∧ a < b ∧ b ≤ s.length ∧ -9223372036854775808 ≤ n ∧ n ≤ 9223372036854775807 := by
  unfold readNum at h
  split at h
  · rename_i n' z he
    simp only [Option.some.injEq, Prod.mk.injEq] at h
    obtain ⟨rfl, rfl⟩ := h
    have := rd_bound he
    omega
  · cases h
theorem readText_bound {s t : List UInt8} {a b : Int} (h : readText s a = some (t, b)) : 0 ≤ a ∧ a < b ∧ b ≤ s.length ∧ t.length ≤ 10000 := by
  unfold readText at h
  split at h
  · rename_i t' b' he
    simp only [Option.some.injEq, Prod.mk.injEq] at h
    obtain ⟨rfl, rfl⟩ := h
    unfold rdW at he
    split at he
    · cases he
    · rename_i n z hr
      have := rd_bound hr
      split at he
      · cases he
      · split at he
        · cases he
        · simp only [Except.ok.injEq, Prod.mk.injEq] at he
          obtain ⟨rfl, rfl⟩ := he
          refine ⟨by omega, by omega, by omega, ?_⟩
          rw [List.length_take]
          omega
  · cases h
end Go.Mor
end

section
/- Layer 4 in plain words: fields and classes. -/
namespace Go.Mor
open Go Go.RowKit

structure Fld where
  n : List UInt8
  t : Ty
  ix : Bool
structure Cls where
  n : List UInt8
  fs : List Fld

def small (b : UInt8) : Bool := decide (97 ≤ b.toNat ∧ b.toNat ≤ 122)
def nameB (b : UInt8) : Bool := small b || decide (48 ≤ b.toNat ∧ b.toNat ≤ 57) || b.toNat == 95
def rightName (s : List UInt8) : Bool := decide (1 ≤ s.length ∧ s.length ≤ 20) && small (s.headD 0) && s.all nameB
def rightField (f : Fld) : Bool := rightName f.n && rightType f.t && (!f.ix || decide (f.t.k ≤ 3))
def fieldAt (c : List Fld) (name : List UInt8) : Int := firstAt (fun f => f.n == name) c
def fieldRes (c : List Fld) (name : List UInt8) : Value :=
  if fieldAt c name < 0 then .tuple #[.int .i64 0, .bool false] else .tuple #[.int .i64 (fieldAt c name), .bool true]
def onceGo (all : List Fld) : Nat → List Fld → Bool
  | _, [] => true
  | k, f :: r => rightField f && fieldAt all f.n == k && onceGo all (k + 1) r
def rightClass (c : Cls) : Bool := rightName c.n && decide (c.fs.length ≤ 8) && onceGo c.fs 0 c.fs
def eqFld (f g : Fld) : Bool := f.n == g.n && f.t.k == g.t.k && f.t.o == g.t.o && f.ix == g.ix
def eqFlds : List Fld → List Fld → Bool
  | [], [] => true
  | f :: r, g :: q => eqFld f g && eqFlds r q
  | _, _ => false
def sameClass (a b : Cls) : Bool := a.n == b.n && eqFlds a.fs b.fs
def checkGo : Nat → List Fld → List V → Int × Int
  | _, [], _ => (0, 0)
  | _, _, [] => (0, 0)
  | k, f :: fs, v :: vs => if fitsV v f.t then checkGo (k + 1) fs vs else (k, 42)
def check (c : Cls) (vs : List V) : Int × Int :=
  if !rightClass c then (0, 40) else if vs.length ≠ c.fs.length then ((min vs.length c.fs.length : Nat), 42) else checkGo 0 c.fs vs

def IsF (ok : Nat → Prop) (w : World) (l : List Fld) (c : Value) : Prop :=
  ∃ (b off cap : Nat) (p : Option Addr), c = .slice p l.length cap ∧ l.length ≤ cap ∧ cap ≤ maxLen ∧ (l ≠ [] → p = some ⟨b, off, none⟩ ∧ ok b) ∧
    ∀ (i : Nat) (f : Fld), l[i]? = some f → w.cell? ⟨b, off + i * 4, none⟩ = some (.string (str f.n)) ∧ w.cell? ⟨b, off + i * 4 + 1, none⟩ = some (.int .i64 f.t.k)
      ∧ w.cell? ⟨b, off + i * 4 + 2, none⟩ = some (.int .i64 f.t.o) ∧ w.cell? ⟨b, off + i * 4 + 3, none⟩ = some (.bool f.ix)
theorem IsF.keepBy {ok : Nat → Prop} {w w' : World} {l : List Fld} {c : Value} (h : IsF ok w l c) (hk : ∀ a v, ok a.block → w.cell? a = some v → w'.cell? a = some v) : IsF ok w' l c := by
  obtain ⟨b, off, cap, p, h1, h2, h3, h4, h5⟩ := h
  refine ⟨b, off, cap, p, h1, h2, h3, h4, fun i f hf => ?_⟩
  have hb : ok b := (h4 (by rintro rfl; simp at hf)).2
  obtain ⟨q0, q1, q2, q3⟩ := h5 i f hf
  exact ⟨hk _ _ hb q0, hk _ _ hb q1, hk _ _ hb q2, hk _ _ hb q3⟩
theorem IsF.ext {ok : Nat → Prop} {w w' : World} {l : List Fld} {c : Value} (h : IsF ok w l c) (hb : Below w.heap.size w w') : IsF ok w' l c :=
  h.keepBy fun _ _ _ hv => (hb.cell (cell_lt hv)).trans hv
theorem IsF.keep {ok : Nat → Prop} {w w' : World} {l : List Fld} {c : Value} (h : IsF ok w l c) (hk : ∀ b, ok b → w'.heap[b]? = w.heap[b]?) : IsF ok w' l c :=
  h.keepBy fun a _ ho hv => (World.cell?_of_block (w := w) (hk a.block ho)).trans hv
theorem IsF.weaken {ok ok' : Nat → Prop} {w : World} {l : List Fld} {c : Value} (h : IsF ok w l c) (hk : ∀ b, ok b → ok' b) : IsF ok' w l c := by
  obtain ⟨b, off, cap, p, h1, h2, h3, h4, h5⟩ := h
  exact ⟨b, off, cap, p, h1, h2, h3, fun hl => ⟨(h4 hl).1, hk _ (h4 hl).2⟩, h5⟩
theorem IsF.form {ok : Nat → Prop} {w : World} {l : List Fld} {c : Value} (h : IsF ok w l c) : ∃ p cap, c = .slice p l.length cap ∧ l.length ≤ cap ∧ cap ≤ maxLen := by
  obtain ⟨b, off, cap, p, h1, h2, h3, h4, h5⟩ := h
  exact ⟨p, cap, h1, h2, h3⟩
theorem IsF.none_ {ok : Nat → Prop} {w : World} : IsF ok w [] (.slice none 0 0) := ⟨0, 0, 0, none, rfl, by simp, Nat.zero_le _, by simp, by simp⟩
end Go.Mor
end

section
/- Expressions in plain words: trees, pieces, how they are read and printed. No statement of the program is proved here. -/
namespace Go.Mor
open Go

def bindsV (s : List UInt8) : Int :=
  if s = [42] ∨ s = [47] ∨ s = [37] then 4 else if s = [43] ∨ s = [45] then 3 else if s = [38] then 2
  else if s = [61] ∨ s = [60, 62] ∨ s = [60] ∨ s = [60, 61] ∨ s = [62] ∨ s = [62, 61] then 1 else 0
def takesV (s : List UInt8) : Int :=
  if s = [108, 101, 110] ∨ s = [116, 101, 120, 116] ∨ s = [110, 117, 109] then 1
  else if s = [108, 101, 102, 116] ∨ s = [114, 105, 103, 104, 116] ∨ s = [102, 114, 111, 109] ∨ s = [102, 105, 110, 100] ∨ s = [109, 105, 110] ∨ s = [109, 97, 120] then 2
  else if s = [105, 102] then 3 else 0
def nodeE (e : V) : Bool :=
  if e.k ≠ 1 ∧ e.n ≠ 0 then false
  else if e.k = 1 then decide (0 ≤ e.n) && decide (e.n ≤ 1000000000000000) && e.s == [] && e.l.length == 0
  else if e.k = 2 then rightText e.s && e.l.length == 0
  else if e.k = 3 then rightName e.s && e.l.length == 0
  else if e.k = 4 then decide (0 < bindsV e.s) && e.l.length == 2
  else if e.k = 5 then e.s == [45] && e.l.length == 1
  else if e.k = 6 then decide (0 < takesV e.s) && decide ((e.l.length : Int) = takesV e.s)
  else false
def okE : Nat → V → Bool
  | 0, _ => false
  | d + 1, e => nodeE e && e.l.all (okE d)
def szE : Nat → V → Nat
  | 0, _ => 1
  | d + 1, e => 1 + (e.l.map (szE d)).sum
def rightE (e : V) : Bool := okE 8 e && decide (szE 8 e ≤ 40)

def qesc (s : List UInt8) : List UInt8 := s.flatMap fun b => if b = 34 ∨ b = 92 then [92, b] else [b]
def brk (t : List UInt8) : List UInt8 := 40 :: (t ++ [41])
def kidT (e : V) (least : Int) (t : List UInt8) : List UInt8 := if e.k = 4 ∧ bindsV e.s < least then brk t else t
def txtE : Nat → V → List UInt8
  | 0, _ => []
  | d + 1, e =>
    if e.k = 1 then Lib.itoa e.n
    else if e.k = 2 then 34 :: (qesc e.s ++ [34])
    else if e.k = 5 then 45 :: kidT (e.l.getD 0 V.nil) 5 (txtE d (e.l.getD 0 V.nil))
    else if e.k = 4 then kidT (e.l.getD 0 V.nil) (bindsV e.s) (txtE d (e.l.getD 0 V.nil)) ++ 32 :: (e.s ++ 32 :: kidT (e.l.getD 1 V.nil) (bindsV e.s + 1) (txtE d (e.l.getD 1 V.nil)))
    else if e.k = 6 then e.s ++ 40 :: (Lib.join (e.l.map (txtE d)) [44, 32] ++ [41])
    else e.s

structure Pc where
  k : Int
  n : Int
  s : List UInt8
  p : Nat
def digB (b : UInt8) : Bool := decide (48 ≤ b.toNat ∧ b.toNat ≤ 57)
def numG : List UInt8 → Int → Nat → Int × Nat
  | [], n, z => (n, z)
  | b :: r, n, z => if digB b then numG r (min (10 * n + ((b.toNat : Int) - 48)) 1000000000000001) (z + 1) else (n, z)
def nameZ : List UInt8 → Nat
  | [] => 0
  | b :: r => if nameB b then nameZ r + 1 else 0
def quoG : List UInt8 → List UInt8 → Nat → Option (List UInt8 × Nat)
  | [], _, _ => none
  | b :: r, acc, k => if b = 34 then (if rightText acc then some (acc, k + 1) else none)
    else if b = 92 then (match r with
      | [] => none
      | c :: r' => if c = 34 ∨ c = 92 then quoG r' (acc ++ [c]) (k + 2) else none)
    else quoG r (acc ++ [b]) (k + 1)
def signP : List UInt8 → List UInt8
  | [] => []
  | b :: r => if b = 60 then (if r.head? = some 62 then [60, 62] else if r.head? = some 61 then [60, 61] else [60])
    else if b = 62 then (if r.head? = some 61 then [62, 61] else [62])
    else if b = 61 ∨ b = 38 ∨ b = 43 ∨ b = 45 ∨ b = 42 ∨ b = 47 ∨ b = 37 ∨ b = 40 ∨ b = 41 ∨ b = 44 then [b] else []
def readP (l : List UInt8) (at_ : Nat) : Option (Pc × Nat) :=
  match l with
  | [] => none
  | b :: r =>
    if digB b then (if 1000000000000000 < (numG l 0 0).1 then none else some (⟨1, (numG l 0 0).1, [], at_⟩, (numG l 0 0).2))
    else if small b then (if rightName (l.take (nameZ l)) then some (⟨3, 0, l.take (nameZ l), at_⟩, nameZ l) else none)
    else if b = 34 then (match quoG r [] 1 with
      | some (t, k) => some (⟨2, 0, t, at_⟩, k)
      | none => none)
    else if signP l = [] then none else some (⟨4, 0, signP l, at_⟩, (signP l).length)
inductive Lx where
  | ok (L : List Pc)
  | bad (p : Nat)
def lexG : Nat → List UInt8 → Nat → List Pc → Option Lx
  | 0, _, _, _ => none
  | f + 1, l, at_, acc => match l with
    | [] => some (.ok acc)
    | b :: r => if b = 32 then lexG f r (at_ + 1) acc else match readP l at_ with
      | none => some (.bad at_)
      | some (q, z) => lexG f (l.drop z) (at_ + z) (acc ++ [q])
inductive Rs (α : Type) where
  | ok (e : α) (p : Nat)
  | bad (a p : Nat)
def pkP (L : List Pc) (sz p : Nat) : Pc := (L[p]?).getD ⟨0, 0, [], sz⟩
def isSg (q : Pc) (t : List UInt8) : Bool := q.k == 4 && q.s == t
mutual
def pE (L : List Pc) (sz : Nat) : Nat → Int → Nat → Option (Rs V)
  | 0, _, _ => none
  | f + 1, least, p => match pT L sz f p with
    | some (.ok e p') => pL L sz f least e p'
    | some (.bad a p') => some (.bad a p')
    | none => none
def pL (L : List Pc) (sz : Nat) : Nat → Int → V → Nat → Option (Rs V)
  | 0, _, _, _ => none
  | f + 1, least, e, p =>
    if (pkP L sz p).k ≠ 4 ∨ bindsV (pkP L sz p).s < least then some (.ok e p)
    else match pE L sz f (bindsV (pkP L sz p).s + 1) (p + 1) with
      | some (.ok e2 p2) => pL L sz f least (.mk 4 0 (pkP L sz p).s [e, e2]) p2
      | some (.bad a p') => some (.bad a p')
      | none => none
def pT (L : List Pc) (sz : Nat) : Nat → Nat → Option (Rs V)
  | 0, _ => none
  | f + 1, p =>
    if isSg (pkP L sz p) [40] then (match pE L sz f 1 (p + 1) with
      | some (.ok e p') => if isSg (pkP L sz p') [41] then some (.ok e (p' + 1)) else some (.bad (pkP L sz p').p p')
      | some (.bad a p') => some (.bad a p')
      | none => none)
    else if isSg (pkP L sz p) [45] then (match pT L sz f (p + 1) with
      | some (.ok e p') => some (.ok (.mk 5 0 [45] [e]) p')
      | some (.bad a p') => some (.bad a p')
      | none => none)
    else if (pkP L sz p).k = 1 then some (.ok (.mk 1 (pkP L sz p).n [] []) (p + 1))
    else if (pkP L sz p).k = 2 then some (.ok (.mk 2 0 (pkP L sz p).s []) (p + 1))
    else if (pkP L sz p).k = 3 then (if 0 < takesV (pkP L sz p).s ∧ isSg (pkP L sz (p + 1)) [40] = true then (match pH L sz f (takesV (pkP L sz p).s).toNat 0 (p + 2) [] with
        | some (.ok l p') => some (.ok (.mk 6 0 (pkP L sz p).s l) p')
        | some (.bad a p') => some (.bad a p')
        | none => none)
      else some (.ok (.mk 3 0 (pkP L sz p).s []) (p + 1)))
    else some (.bad (pkP L sz p).p (p + 1))
def pH (L : List Pc) (sz : Nat) : Nat → Nat → Nat → Nat → List V → Option (Rs (List V))
  | 0, _, _, _, _ => none
  | f + 1, n, k, p, acc =>
    if k < n then (if 0 < k ∧ isSg (pkP L sz p) [44] = false then some (.bad (pkP L sz p).p p)
      else match pE L sz f 1 (if 0 < k then p + 1 else p) with
        | some (.ok e p') => pH L sz f n (k + 1) p' (acc ++ [e])
        | some (.bad a p') => some (.bad a p')
        | none => none)
    else if isSg (pkP L sz p) [41] then some (.ok acc (p + 1)) else some (.bad (pkP L sz p).p p)
end
def parseV (f : Nat) (l : List UInt8) : Option (V × Int × Int) :=
  if 200 < l.length then some (V.nil, 200, 50)
  else match lexG (l.length + 1) l 0 [] with
    | none => none
    | some (.bad a) => some (V.nil, a, 50)
    | some (.ok L) => match pE L l.length f 1 0 with
      | some (.ok e p) => if p < L.length then some (V.nil, (pkP L l.length p).p, 50) else if rightE e then some (e, 0, 0) else some (V.nil, 0, 51)
      | some (.bad a _) => some (V.nil, a, 50)
      | none => none
end Go.Mor
end

section
/- How operators bind: the program's map, as Sh has it. No statement of the program is proved here. -/
namespace Go.Proofs.YtmiokadmddjccaaGreatDoor
open Go Go.RowKit Go.Mor Go.Sh
set_option maxRecDepth 100000
set_option maxHeartbeats 4000000
def bindL : List (List UInt8 × Int) := [([42], 4), ([47], 4), ([37], 4), ([43], 3), ([45], 3), ([38], 2), ([61], 1), ([60, 62], 1), ([60], 1), ([60, 61], 1), ([62], 1), ([62, 61], 1)]
def bindKs : List Value := bindL.map fun p => .string (str p.1)
def bindM : TV := .mp bindKs (bindL.map fun p => I p.2)
theorem bindings_ok (g : Sh.Glob) : SCalls Tryz.prog g 59 [] [] bindM [] := by
  refine ⟨body_of (by kernel_rfl), fun w E us hG hm hX hl hr => ?_⟩
  obtain rfl : us = [] := List.eq_nil_of_length_eq_zero hl.symm
  refine calls_of_wp Tryz.func59 rfl ?_
  refine wp_seq (wp_region ?_)
  show wpOps _ _ _ [0] _ _
  rw [wpOps_cons]
  refine wp_simple rfl rfl (v := .map none) (w' := w) rfl ?_
  show (Code.seq _ _).wp _ _ { tmps := #[.map none, undef, undef], defers := [] } _
  refine wp_seq (wp_region ?_)
  show wpOps _ _ _ (0 :: ([1, 2, 3, 4, 5, 6, 7, 8, 9, 10, 11, 12] ++ [13, 14])) _ _
  rw [wpOps_cons]
  refine wp_simple rfl rfl (v := .map (some w.heap.size)) (w' := w.alloc (.map #[] 0)) rfl ?_
  have hnew : (w.alloc (.map #[] 0)).heap[w.heap.size]? = some (.map #[] 0) := heap_alloc_new w _
  refine wp_insAll (t := 98) (m := 1) (kt := 9) (et := 3) (text := true) (b := w.heap.size) (by kernel_rfl) (by kernel_rfl) rfl _ _ _ _ #[] 0 rfl hnew (by rfl) ?_
  intro es clock w' hturn hb hks hvs
  show wpOps _ _ _ [13, 14] { tmps := #[.map none, .map (some w.heap.size), undef], defers := [] } _
  rw [wpOps_cons]
  refine wp_simple rfl rfl (v := .map (some w.heap.size)) (w' := w') rfl ?_
  rw [wpOps_cons]
  refine wp_simple rfl rfl (v := .map (some w.heap.size)) (w' := w') rfl ?_
  show Code.ret.wp _ _ { tmps := #[.map (some w.heap.size), .map (some w.heap.size), .map (some w.heap.size)], defers := [] } _
  refine wp_ret ?_
  have hbel : Below w.heap.size w w' := by
    refine ⟨hturn.os, hturn.tape, hturn.output, by rw [hturn.size]; exact (((Below.refl w.heap.size w)).alloc (Nat.le_refl _) (.map #[] 0)).size, fun k hk => ?_⟩
    rw [hturn.block k (by omega)]
    exact (((Below.refl w.heap.size w)).alloc (Nat.le_refl _) _).block k hk
  refine ⟨rfl, .map (some w.heap.size), by simp [results, Tryz.results59], .map (some w.heap.size), E, rfl, ?_, ?_, ⟨fun _ _ _ => rfl, fun _ _ _ _ => rfl, fun d e W n hd => by obtain ⟨j, _, hj⟩ := objR_inv hd; simp at hj⟩⟩
  · exact MSim.ext (s := ⟨fun _ => none, objB [], objR [], fun _ => none⟩) hm hbel E (fun _ _ h => h) (fun _ _ h => .inl h) (fun _ _ => ⟨rfl, rfl⟩) (fun _ _ _ => rfl) (fun _ _ => ⟨rfl, rfl⟩)
  · have hlen : es.toList.length = 12 := by have := congrArg List.length hks; simpa using this
    refine .mp bindKs _ w.heap.size es clock (fun j => (es.toList.map MapEntry.val).getD j undef) hb hks rfl (fun j e he => by simp [he]) (fun j x hx => ?_)
    rw [hvs]
    have hj : j < 12 := (List.getElem?_eq_some_iff.1 hx).1
    simp only [bindL, List.getElem?_map] at hx
    match j, hj with
    | 0, _ | 1, _ | 2, _ | 3, _ | 4, _ | 5, _ | 6, _ | 7, _ | 8, _ | 9, _ | 10, _ | 11, _ => cases hx; exact .pv (.v _)
theorem bm_m1 (ids : List Nat) : TV.m1 ids bindM = false := rfl
theorem bm_m2 (ids : List Nat) : TV.m2 ids bindM = false := rfl
theorem bm_m3 (ids : List Nat) : TV.m3 ids bindM = false := rfl
theorem bm_ids1 : TV.ids1 bindM = [] := rfl
theorem bm_ids2 : TV.ids2 bindM = [] := rfl
theorem bm_ids3 : TV.ids3 bindM = [] := rfl
theorem bm_ren1 (ρ : Nat → Option Nat) : TV.ren1 ρ bindM = some bindM := rfl
theorem bm_ren2 (ρ : Nat → Option Nat) : TV.ren2 ρ bindM = some bindM := rfl
theorem bm_ren3 (ρ : Nat → Option Nat) : TV.ren3 ρ bindM = some bindM := rfl
theorem bm_cells : TV.cells bindM = some [bindM] := rfl
theorem str_inj {a b : List UInt8} : str a = str b ↔ a = b := ⟨fun h => by have := congrArg (fun s : ByteArray => s.data.toList) h; simpa [str_toList] using this, fun h => by rw [h]⟩
theorem same_str (a b : List UInt8) : Instr.sameNow (kdOf true) (.string (str a)) (.string (str b)) = some (a == b) := by
  have : (str a == str b) = (a == b) := by
    show (a.toArray == b.toArray) = (a == b)
    simp
  first
    | (simp [Instr.sameNow, kdOf, this]; done)
    | (simp [Instr.sameNow, kdOf]; exact this)
theorem bm_find (s : List UInt8) : ∀ (l : List (List UInt8 × Int)) (i : Nat), findKs (kdOf true) (.string (str s)) (l.map fun p => .string (str p.1)) i = some ((l.findIdx? fun p => s == p.1).map (· + i))
  | [], i => rfl
  | p :: l, i => by
    rw [List.map_cons, findKs, same_str, List.findIdx?_cons]
    cases h : (s == p.1) with
    | true => simp
    | false =>
      simp only [Bool.false_eq_true, if_false, bm_find s l (i + 1), Option.map_map]
      congr 2
      funext j; simp; omega
theorem bm_lk (s : List UInt8) : lkpK true (.int .i64 0) (some bindM) (some (.string (str s))) = some (.pv (.v (.int .i64 (bindsV s))), .no) := by
  show lkpJ _ _ (findKs (kdOf true) (.string (str s)) bindKs 0) = _
  unfold bindKs
  rw [bm_find s bindL 0]
  simp only [bindL, List.findIdx?_cons, List.findIdx?_nil, bindsV]
  by_cases h1 : s = [42]; · subst h1; rfl
  by_cases h2 : s = [47]; · subst h2; rfl
  by_cases h3 : s = [37]; · subst h3; rfl
  by_cases h4 : s = [43]; · subst h4; rfl
  by_cases h5 : s = [45]; · subst h5; rfl
  by_cases h6 : s = [38]; · subst h6; rfl
  by_cases h7 : s = [61]; · subst h7; rfl
  by_cases h8 : s = [60, 62]; · subst h8; rfl
  by_cases h9 : s = [60]; · subst h9; rfl
  by_cases h10 : s = [60, 61]; · subst h10; rfl
  by_cases h11 : s = [62]; · subst h11; rfl
  by_cases h12 : s = [62, 61]; · subst h12; rfl
  simp [h1, h2, h3, h4, h5, h6, h7, h8, h9, h10, h11, h12, lkpJ, zeroT]
theorem bmV : (type_of% @bm_m1) ∧ (type_of% @bm_m2) ∧ (type_of% @bm_m3) ∧ (type_of% @bm_ids1) ∧ (type_of% @bm_ids2) ∧ (type_of% @bm_ids3) ∧ (type_of% @bm_ren1) ∧ (type_of% @bm_ren2) ∧ (type_of% @bm_ren3) ∧ (type_of% @bm_cells) ∧ (type_of% @bm_lk) := ⟨@bm_m1, @bm_m2, @bm_m3, @bm_ids1, @bm_ids2, @bm_ids3, @bm_ren1, @bm_ren2, @bm_ren3, @bm_cells, @bm_lk⟩
end Go.Proofs.YtmiokadmddjccaaGreatDoor
end
