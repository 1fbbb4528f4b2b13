/- Merged texts: S19 Vc1 Zv1 Zv2 PSign Sy1 Sn1 Sy5 Sy7 Pt1 Cd2 Zt1. No statement of the program is proved here. -/
import Derived.Test.YthjphllpkcnehaaGreatDoorM3
import Derived.Lib.TrimUEq
import Derived.Test.YthjphllpkcnehaaGreatDoorProg
import Derived.KernelRfl
set_option linter.unusedSimpArgs false
set_option linter.unusedVariables false
section
/- Sh: what is to be shown of code, reckoned by rewriting. No statement of the program is proved here. -/
namespace Go.Sh
open Go Go.RowKit
/-- By a truth value. -/
def boolW (t : Bool) (A B : Prop) : Prop := (t = true → A) ∧ (t = false → B)
def boolK (x : Option TV) (A B : Prop) : Prop := match x with
  | some (.pv (.v (.bool t))) => boolW t A B
  | _ => False
/-- By a slot that guards: it is known behind it. -/
def guardW (x : Option TV) (want : Bool) (gs : Nat) (A B : ES → Prop) (s : ES) : Prop := match x with
  | some (.pv (.v (.bool t))) => boolW t ((if want then A else B) (s.put (some gs) (.pv (.v (.bool true))))) ((if want then B else A) (s.put (some gs) (.pv (.v (.bool false)))))
  | some (.pv (.v _)) => B s
  | _ => False
def guardK (t : Bool) (want : Bool) (gs : Nat) (A B : ES → Prop) (s : ES) : Prop := boolW t ((if want then A else B) (s.put (some gs) (.pv (.v (.bool true))))) ((if want then B else A) (s.put (some gs) (.pv (.v (.bool false)))))
section
variable {P : Program} {g : Glob} {a b c : SCode} {Q : SExit → ES → Prop} {K : ES → Prop} {s s' : ES} {l : List SOper} {A B : Prop} {o : SOper}
@[congr] theorem boolW_congr {t t' : Bool} (h : t = t') : boolW t A B = boolW t' A B := by rw [h]
@[congr] theorem boolK_congr {t t' : Option TV} (h : t = t') : boolK t A B = boolK t' A B := by rw [h]
@[congr] theorem guardW_congr {t t' : Option TV} {w : Bool} {gs : Nat} {A B : ES → Prop} (h : t = t') : guardW t w gs A B s = guardW t' w gs A B s := by rw [h]
@[congr] theorem guardK_congr {t t' : Bool} {w : Bool} {gs : Nat} {A B : ES → Prop} (h : t = t') : guardK t w gs A B s = guardK t' w gs A B s := by rw [h]
@[congr] theorem swp_congr (h : s = s') : swp P g a Q s = swp P g a Q s' := by rw [h]
@[congr] theorem opsW_congr (h : s = s') : opsW P g l K s = opsW P g l K s' := by rw [h]
@[congr] theorem stepW_congr {e e' : Option (TV × Upd)} (h : e = e') : stepW P o K s e = stepW P o K s e' := by rw [h]
@[congr] theorem thenW_congr {e : SExit} (h : s = s') : thenW K Q e s = thenW K Q e s' := by rw [h]
@[congr] theorem blockW_congr {e : SExit} {id : Nat} (h : s = s') : blockW id Q e s = blockW id Q e s' := by rw [h]
theorem bW_T : boolW true A B = A := by simp [boolW]
theorem bW_F : boolW false A B = B := by simp [boolW]
theorem bW_d {p : Prop} [Decidable p] : boolW (decide p) A B = ((p → A) ∧ (¬ p → B)) := by simp [boolW]
theorem bW_n {t : Bool} : boolW (!t) A B = boolW t B A := by cases t <;> simp [boolW]
theorem bW_a {t u : Bool} : boolW (t && u) A B = boolW t (boolW u A B) B := by cases t <;> simp [boolW]
theorem bW_o {t u : Bool} : boolW (t || u) A B = boolW t A (boolW u A B) := by cases t <;> simp [boolW]
theorem bK {t : Bool} : boolK (some (.pv (.v (.bool t)))) A B = boolW t A B := rfl
theorem gW {t w : Bool} {gs : Nat} {A B : ES → Prop} : guardW (some (.pv (.v (.bool t)))) w gs A B s = guardK t w gs A B s := rfl
theorem gW_u {w : Bool} {gs : Nat} {A B : ES → Prop} : guardW (some (.pv (.v (.nilIface)))) w gs A B s = B s := rfl
theorem gW_i {w : Bool} {k : IntKind} {n : Int} {gs : Nat} {A B : ES → Prop} : guardW (some (.pv (.v (.int k n)))) w gs A B s = B s := rfl
def regK (Q : SExit → ES → Prop) (kill : List Nat) (s : ES) : Prop := Q .normal (s.kill kill)
def skipK (P : Program) (g : Glob) (l : List SOper) (K : ES → Prop) (dst : Option Nat) (s : ES) : Prop := opsW P g l K (s.put dst (.pv (.v undef)))
@[congr] theorem regK_congr {kill : List Nat} (h : s = s') : regK Q kill s = regK Q kill s' := by rw [h]
theorem v_regK {kill : List Nat} : regK Q kill s = Q .normal (s.kill kill) := rfl
theorem v_skipK {dst : Option Nat} : skipK P g l K dst s = opsW P g l K (s.put dst (.pv (.v undef))) := rfl
theorem sv_same {α : Type} {k : Nat} {x : α} : ∀ {l : List (Nat × α)}, lk l k = some x → sv l k x = l
  | [], h => by simp [lk] at h
  | (j, y) :: l, h => by
    simp only [lk] at h
    simp only [sv]
    cases hj : Nat.beq j k with
    | true =>
      rw [hj] at h; simp only [Option.some.injEq] at h
      rw [Nat.eq_of_beq_eq_true hj, h]
    | false => rw [hj] at h; simp only [sv_same h]
theorem put_same {gs : Nat} {x : TV} (h : lk s.t gs = some x) : s.put (some gs) x = s := by
  show ES.mk _ _ _ _ = _
  rw [sv_same h]
theorem boolW_iff {t : Bool} : boolW t A B ↔ (if t then A else B) := by cases t <;> simp [boolW]
theorem v_skip : swp P g .skip Q s = Q .normal s := rfl
theorem v_seq : swp P g (.seq a b) Q s = swp P g a (thenW (swp P g b Q) Q) s := rfl
theorem v_exit {id : Nat} : swp P g (.exit id) Q s = Q (.exit id) s := rfl
theorem v_ret : swp P g .ret Q s = Q .ret s := rfl
theorem v_block {id : Nat} : swp P g (.block id a) Q s = swp P g a (blockW id Q) s := rfl
theorem v_cond {x : Arg} : swp P g (.cond x a b) Q s = boolK (x.get s.fs) (swp P g a Q s) (swp P g b Q s) := by
  show condW x s _ _ = _
  apply propext
  constructor
  · rintro ⟨t, h1, h2⟩
    rw [h1, bK]; exact boolW_iff.2 h2
  · intro h
    unfold boolK at h
    split at h
    · rename_i t ht; exact ⟨t, ht, boolW_iff.1 h⟩
    · exact h.elim
theorem v_reg {n kill : List Nat} : swp P g (.reg [(n, l)] kill) Q s = opsW P g l (regK Q kill) (s.fgt n) := by
  show regW P g _ _ _ _ = _
  simp [regW]; rfl
theorem v_reg2 {n kill : List Nat} {x : List Nat × List SOper} {r : List (List Nat × List SOper)} : swp P g (.reg ((n, l) :: x :: r) kill) Q s = (opsW P g l (regK Q kill) (s.fgt n) ∨ swp P g (.reg (x :: r) kill) Q s) := by
  show regW P g _ _ _ _ = (_ ∨ regW P g _ _ _ _)
  simp [regW]; rfl
theorem v_nil : opsW P g [] K s = K s := rfl
theorem v_op {dst fp : Option Nat} {op : SOp} (h : op.isCall = false) : opsW P g (⟨dst, none, fp, op⟩ :: l) K s = stepW P ⟨dst, none, fp, op⟩ (opsW P g l K) s (effG P noC ⟨dst, none, fp, op⟩ s.fs) := propext (opsW_nc h)
theorem v_guard {dst fp : Option Nat} {op : SOp} {gs : Nat} {want : Bool} : opsW P g (⟨dst, some (gs, want), fp, op⟩ :: l) K s =
    guardW (lk s.t gs) want gs (opsW P g (⟨dst, none, fp, op⟩ :: l) K) (skipK P g l K dst) s := by
  have key : ∀ C, effG P C ⟨dst, some (gs, want), fp, op⟩ s.fs = match lk s.t gs with
    | some (.pv (.v (.bool b))) => if b == want then effG P C ⟨dst, none, fp, op⟩ s.fs else some (.pv (.v undef), .no)
    | some (.pv (.v _)) => some (.pv (.v undef), .no)
    | _ => none := fun C => rfl
  have hA : (∃ C, SoundC P g C ∧ ∃ e, some (TV.pv (.v undef), Upd.no) = some e ∧ opsW P g l K (s.after ⟨dst, some (gs, want), fp, op⟩ e)) = opsW P g l K (s.put dst (.pv (.v undef))) := by
    apply propext
    constructor
    · rintro ⟨C, hC, e, he, hk⟩; cases he; exact hk
    · intro hk; exact ⟨noC, noC_sound P g, _, rfl, hk⟩
  conv => lhs; unfold opsW
  simp only [key]
  unfold guardW
  cases hx : lk s.t gs with
  | none => simp
  | some x =>
    cases x with
    | pv p =>
      cases p with
      | v v =>
        cases v with
        | bool t =>
          simp only []
          cases t
          · cases want
            · simp only [bW_F, if_false, beq_self_eq_true, if_true, put_same hx, Bool.false_eq_true]; rfl
            · simp only [bW_F, if_true, put_same hx, bFT, if_false, Bool.false_eq_true]; exact hA
          · cases want
            · simp only [bW_T, if_false, put_same hx, bTF, Bool.false_eq_true]; exact hA
            · simp only [bW_T, if_true, beq_self_eq_true, put_same hx]; rfl
        | _ => exact hA
      | _ => simp
    | _ => simp
theorem gK_T1 {gs : Nat} {A B : ES → Prop} : guardK true true gs A B s = A (s.put (some gs) (.pv (.v (.bool true)))) := by simp [guardK, bW_T]
theorem gK_T0 {gs : Nat} {A B : ES → Prop} : guardK true false gs A B s = B (s.put (some gs) (.pv (.v (.bool true)))) := by simp [guardK, bW_T]
theorem gK_F1 {gs : Nat} {A B : ES → Prop} : guardK false true gs A B s = B (s.put (some gs) (.pv (.v (.bool false)))) := by simp [guardK, bW_F]
theorem gK_F0 {gs : Nat} {A B : ES → Prop} : guardK false false gs A B s = A (s.put (some gs) (.pv (.v (.bool false)))) := by simp [guardK, bW_F]
theorem gK_d1 {p : Prop} [Decidable p] {gs : Nat} {A B : ES → Prop} : guardK (decide p) true gs A B s = ((p → A (s.put (some gs) (.pv (.v (.bool true))))) ∧ (¬ p → B (s.put (some gs) (.pv (.v (.bool false)))))) := by simp [guardK, bW_d]
theorem gK_d0 {p : Prop} [Decidable p] {gs : Nat} {A B : ES → Prop} : guardK (decide p) false gs A B s = ((p → B (s.put (some gs) (.pv (.v (.bool true))))) ∧ (¬ p → A (s.put (some gs) (.pv (.v (.bool false)))))) := by simp [guardK, bW_d]
theorem gK_n1 {t : Bool} {gs : Nat} {A B : ES → Prop} : guardK (!t) true gs A B s = boolW t (B (s.put (some gs) (.pv (.v (.bool false))))) (A (s.put (some gs) (.pv (.v (.bool true))))) := by simp [guardK, bW_n]
theorem gK_n0 {t : Bool} {gs : Nat} {A B : ES → Prop} : guardK (!t) false gs A B s = boolW t (A (s.put (some gs) (.pv (.v (.bool false))))) (B (s.put (some gs) (.pv (.v (.bool true))))) := by simp [guardK, bW_n]
theorem v_then_n {K : ES → Prop} : thenW K Q .normal s = K s := rfl
theorem v_then_r {K : ES → Prop} : thenW K Q .ret s = Q .ret s := rfl
theorem v_then_x {K : ES → Prop} {id : Nat} : thenW K Q (.exit id) s = Q (.exit id) s := rfl
theorem v_blk_n {id : Nat} : blockW id Q .normal s = Q .normal s := rfl
theorem v_blk_r {id : Nat} : blockW id Q .ret s = Q .ret s := rfl
theorem v_blk_x {id j : Nat} : blockW id Q (.exit j) s = boolW (Nat.beq j id) (Q .normal s) (Q (.exit j) s) := by
  simp only [blockW]
  by_cases h : j = id
  · subst h; simp [Nat.beq_refl, bW_T]
  · rw [if_neg h, beq_false h, bW_F]
theorem s_some {e : TV × Upd} : stepW P o K s (some e) = K (s.after o e) := rfl
theorem s_none : stepW P o K s none = False := rfl
theorem s_ite {c : Prop} [Decidable c] {x : Option (TV × Upd)} : stepW P o K s (if c then x else none) = (c ∧ stepW P o K s x) := by
  by_cases h : c <;> simp [h, stepW]
theorem s_get {α : Type} {l : List α} {k : Nat} {f : α → TV × Upd} : stepW P o K s (Option.map f l[k]?) = (k < l.length ∧ ∀ b, l[k]? = some b → K (s.after o (f b))) := by
  apply propext
  rcases Nat.lt_or_ge k l.length with h | h
  · rw [List.getElem?_eq_getElem h]; simp [stepW, h]
  · rw [List.getElem?_eq_none h]; simp [stepW, Nat.not_lt.2 h]
/-- At a loop's end: a state at its head, nearer its end. -/
def loopK {σ : Type} (st : σ → ES) (μ : σ → Nat) (x : σ) (s : ES) : Prop := ∃ y, μ y < μ x ∧ (st y).Lw s
@[congr] theorem loopK_congr {σ : Type} {st : σ → ES} {μ : σ → Nat} {x : σ} (h : s = s') : loopK st μ x s = loopK st μ x s' := by rw [h]
theorem v_loop {σ : Type} (st : σ → ES) (μ : σ → Nat) (x0 : σ) (h0 : (st x0).Lw s) (hr : ∀ x, swp P g a (thenW (loopK st μ x) Q) (st x)) : swp P g (.loop a) Q s := by
  refine ⟨fun n s => ∃ x, μ x = n ∧ s = st x, μ x0, ⟨st x0, h0, x0, rfl, rfl⟩, ?_⟩
  rintro n s ⟨x, rfl, rfl⟩
  refine swp_mono (hr x) (fun e s he => ?_)
  cases e with
  | normal => obtain ⟨y, h1, h2⟩ := he; exact ⟨μ y, h1, st y, h2, y, rfl, rfl⟩
  | exit id => exact he
  | ret => exact he
theorem loopK_of {σ : Type} {st : σ → ES} {μ : σ → Nat} {x : σ} (y : σ) (h1 : μ y < μ x) (h2 : (st y).Lw s) : loopK st μ x s := ⟨y, h1, h2⟩
theorem lw_of {s0 s : ES} (h1 : leL s0.t s.t) (h2 : leL s0.b s.b) (h3 : leL s0.r s.r) (h4 : leL s0.i s.i) : s0.Lw s := (le_of h1 h2 h3 h4).lw
theorem lw_eq {s0 s : ES} (h : s0 = s) : s0.Lw s := h ▸ .refl _
/-- What a call is handed. -/
def callIn (s : ES) (m : Nat) (xs : List Arg) : Option (List TV × List MO × List Nat) := match seqO (fun x : Arg => x.get s.fs) xs with
  | some args => match seqO (TV.ren2 (rhoIn (handI s.fs m args))) args, seqO (fun d => (s.fs.mo d).bind (MO.ren (rhoIn (handI s.fs m args)))) (handI s.fs m args) with
    | some xs', some os => some (xs', os, handI s.fs m args)
    | _, _ => none
  | none => none
def callOut (s : ES) (dst : Option Nat) (I : List Nat) (y : TV) (os' : List MO) : Option ES := match y.ren3 (rhoOut I (dstId dst)), outs (rhoOut I (dstId dst)) 0 os' with
  | some y', some us => some ((s.upd dst (.mem us)).put dst y')
  | _, _ => none
theorem v_call {dst : Option Nat} {f m : Nat} {xs : List Arg} {xs' : List TV} {I : List Nat} {os os' : List MO} {y : TV} (hx : callIn s m xs = some (xs', os, I)) (hc : SCalls P g f xs' os y os') (hmo : moOk os os' = true) (hs : callOut s dst I y os' = some s') (hk : opsW P g l K s') :
    opsW P g (⟨dst, none, none, .call f m xs⟩ :: l) K s := by
  unfold callIn at hx
  split at hx
  · rename_i args ha
    split at hx
    · rename_i a1 a2 h1 h2
      cases hx
      unfold callOut at hs
      split at hs
      · rename_i y' us h3 h4
        cases hs
        exact w_call ha rfl h1 h2 hc hmo h3 h4 rfl hk
      · cases hs
    · cases hx
  · cases hx
/-- A call of a function value. -/
def callvIn (s : ES) (m : Nat) (x : Arg) (xs : List Arg) : Option (Nat × List TV × List MO × List Nat) := match (x.get s.fs).bind TV.callee, seqO (fun x : Arg => x.get s.fs) xs with
  | some (f, fa, fb), some vs => match seqO (TV.ren2 (rhoIn (handI s.fs m (fa ++ vs ++ fb)))) (fa ++ vs ++ fb), seqO (fun d => (s.fs.mo d).bind (MO.ren (rhoIn (handI s.fs m (fa ++ vs ++ fb))))) (handI s.fs m (fa ++ vs ++ fb)) with
    | some xs', some os => some (f, xs', os, handI s.fs m (fa ++ vs ++ fb))
    | _, _ => none
  | _, _ => none
theorem v_callv {dst : Option Nat} {f m : Nat} {x : Arg} {xs : List Arg} {xs' : List TV} {I : List Nat} {os os' : List MO} {y : TV} (hx : callvIn s m x xs = some (f, xs', os, I)) (hc : SCalls P g f xs' os y os') (hmo : moOk os os' = true) (hs : callOut s dst I y os' = some s') (hk : opsW P g l K s') :
    opsW P g (⟨dst, none, none, .callv x m xs⟩ :: l) K s := by
  unfold callvIn at hx
  split at hx
  · rename_i f' fa fb vs h0 h1
    split at hx
    · rename_i a1 a2 h3 h4
      cases hx
      unfold callOut at hs
      split at hs
      · rename_i y' us h5 h6
        cases hs
        refine opsW_callv ?_
        rw [h0, h1]
        exact ⟨_, rfl, xs', os, h3, h4, y, os', hc, hmo, y', us, h5, h6, hk⟩
      · cases hs
    · cases hx
  · cases hx
end
end Go.Sh
namespace Go.Sh
open Go Go.RowKit
theorem nc_mov (x : Arg) : (SOp.mov x).isCall = false := rfl
theorem nc_pick (c a b : Arg) : (SOp.pick c a b).isCall = false := rfl
theorem nc_bin (op : BinOp) (t : TypeId) (x y : Arg) : (SOp.bin op t x y).isCall = false := rfl
theorem nc_un (op : UnOp) (x : Arg) : (SOp.un op x).isCall = false := rfl
theorem nc_cvi (k : IntKind) (x : Arg) : (SOp.cvi k x).isCall = false := rfl
theorem nc_cvs (x : Arg) : (SOp.cvs x).isCall = false := rfl
theorem nc_b2s (x : Arg) : (SOp.b2s x).isCall = false := rfl
theorem nc_imm (mx : Bool) (x y : Arg) : (SOp.imm mx x y).isCall = false := rfl
theorem nc_sidx (x i : Arg) : (SOp.sidx x i).isCall = false := rfl
theorem nc_ssub (x : Arg) (lo hi : Option Arg) : (SOp.ssub x lo hi).isCall = false := rfl
theorem nc_slen (x : Arg) : (SOp.slen x).isCall = false := rfl
theorem nc_new (z : List Value) : (SOp.new z).isCall = false := rfl
theorem nc_box (x : Arg) : (SOp.box x).isCall = false := rfl
theorem nc_build (z : List Value) (ps : List (Nat × Nat × Arg)) : (SOp.build z ps).isCall = false := rfl
theorem nc_bsl (W : Nat) (xs : List Arg) : (SOp.bsl W xs).isCall = false := rfl
theorem nc_bslO (e W : Nat) (xs : List Arg) : (SOp.bslO e W xs).isCall = false := rfl
theorem nc_fld (a : Bool) (o n : Nat) (x : Arg) : (SOp.fld a o n x).isCall = false := rfl
theorem nc_fldA (o : Nat) (x : Arg) : (SOp.fldA o x).isCall = false := rfl
theorem nc_ld (a : Bool) (n : Nat) (x : Arg) : (SOp.ld a n x).isCall = false := rfl
theorem nc_st (n : Nat) (x y : Arg) : (SOp.st n x y).isCall = false := rfl
theorem nc_len (x : Arg) : (SOp.len x).isCall = false := rfl
theorem nc_idxA (W : Nat) (x i : Arg) : (SOp.idxA W x i).isCall = false := rfl
theorem nc_sub (W : Nat) (x : Arg) (lo hi : Option Arg) : (SOp.sub W x lo hi).isCall = false := rfl
theorem nc_app (e W n : Nat) (x y : Arg) : (SOp.app e W n x y).isCall = false := rfl
theorem nc_appS (e n : Nat) (x y : Arg) : (SOp.appS e n x y).isCall = false := rfl
theorem nc_appN (e W n : Nat) (x y : Arg) : (SOp.appN e W n x y).isCall = false := rfl
theorem nc_appNS (e n : Nat) (x y : Arg) : (SOp.appNS e n x y).isCall = false := rfl
theorem nc_ext (x : Arg) (i : Nat) : (SOp.ext x i).isCall = false := rfl
theorem nc_nchk (x : Arg) : (SOp.nchk x).isCall = false := rfl
theorem nc_mkf (f : Fn) (a b : List Arg) : (SOp.mkf f a b).isCall = false := rfl
theorem nc_rng (x : Arg) : (SOp.rng x).isCall = false := rfl
theorem nc_nxt (x : Arg) : (SOp.nxt x).isCall = false := rfl
theorem nc_mks (n : Nat) (z : List Value) (x : Arg) : (SOp.mks n z x).isCall = false := rfl
section
variable (P : Program) (t : TypeId) (k : IntKind) (a b : Int) (x y : ByteArray)
theorem bin_quoI : scal P (do eqGuard .quo t (.const (.int k a)) (.const (.int k b)) (.int k a) (.int k b); binOp .quo t (.int k a) (.int k b)) = if b ≠ 0 then some (.pv (.v (.int k (k.wrap (a.tdiv b)))), .no) else none := by
  by_cases hb : b ≠ 0
  · rw [if_pos hb]; exact bin_quo P t k a b hb
  · have : b = 0 := by omega
    subst this; rw [if_neg (by simp)]; simp [scal, eqGuard, binOp, Op.intDiv]; rfl
theorem bin_remI : scal P (do eqGuard .rem t (.const (.int k a)) (.const (.int k b)) (.int k a) (.int k b); binOp .rem t (.int k a) (.int k b)) = if b ≠ 0 then some (.pv (.v (.int k (a.tmod b))), .no) else none := by
  by_cases hb : b ≠ 0
  · rw [if_pos hb]; exact bin_rem P t k a b hb
  · have : b = 0 := by omega
    subst this; rw [if_neg (by simp)]; simp [scal, eqGuard, binOp, Op.intDiv]; rfl
theorem sbin_addI : scal P (do eqGuard .add t (.const (.string x)) (.const (.string y)) (.string x) (.string y); binOp .add t (.string x) (.string y)) = if x.size + y.size ≤ 9223372036854775807 then some (.pv (.v (.string (x ++ y))), .no) else none := by
  by_cases hb : x.size + y.size ≤ 9223372036854775807
  · rw [if_pos hb]; exact sbin_add P t x y hb
  · rw [if_neg hb]
    have hm : IntKind.i64.max = 9223372036854775807 := by rfl
    have h' : (((x.size + y.size : Nat) : Int) > IntKind.i64.max) := by rw [hm]; omega
    simp only [scal, eqGuard, binOp, Op.stringOp, h', if_true]; rfl
end
end Go.Sh
namespace Go.Sh
open Go Go.RowKit
def nilT : TV := .pv (.v (.slice none 0 0))
/-- A nil slice in a slot, or in a variable's cell, is one's own. -/
def ES.adT (s : ES) (k d e W : Nat) : ES := ⟨sv (s.fgt [d]).t k (.own d W []), (s.fgt [d]).b, sv (s.fgt [d]).r d (e, W, 0), (s.fgt [d]).i⟩
def ES.adB (s : ES) (x : Nat) (cs : List TV) (j d e W : Nat) : ES := ⟨(s.fgt [d]).t, sv (s.fgt [d]).b x (cs.set j (.own d W [])), sv (s.fgt [d]).r d (e, W, 0), (s.fgt [d]).i⟩
theorem own_nil {w : World} {E : Env} {r : Rows} {d e W : Nat} {v : Value} (hr : r d = some (e, W, 0)) (hg : E.γ d = none) (h : RelT w E r nilT v) : RelT w E r (.own d W []) v := by
  have hv : v = .slice none 0 0 := val_rel h rfl
  subst hv
  refine .own d W [] _ ?_ (fun e' W' n hn => ?_)
  · exact .sl W [] 0 0 0 none (fun _ _ => undef) (by simp) (by simp) (by simp) (by simp) (by simp) (by simp)
  · rw [hr] at hn; cases hn
    exact ⟨Nat.le_refl _, fun _ => ⟨rfl, by rw [hg]; rfl⟩⟩
section
variable {B : Base} {s : FS} {a : Act} {w : World} {E : Env}
theorem Sim.reT (h : Sim B s a w E) {k : Nat} {x y : TV} (hk : s.t k = some x) (hy : ∀ v, RelT w E s.r x v → RelT w E s.r y v) : Sim B (s.setT k y) a w E := by
  refine ⟨h.defers, h.size, fun j z hz => ?_, h.mem, h.itr, h.ii⟩
  rcases setF_inv hz with ⟨rfl, rfl⟩ | ⟨hj, hz⟩
  · exact ⟨(h.tmp j x hk).1, hy _ (h.tmp j x hk).2⟩
  · exact h.tmp j z hz
theorem Sim.reB (h : Sim B s a w E) {k : Nat} {cs ds : List TV} (hk : s.b k = some cs) (hy : ∀ (j : Nat) d, ds[j]? = some d → ∃ c, cs[j]? = some c ∧ ∀ v, RelT w E s.r c v → RelT w E s.r d v) : Sim B (s.setB k ds) a w E := by
  refine ⟨h.defers, h.size, h.tmp, ⟨fun d ds' hd => ?_, h.mem.row, fun d d' c c' h1 h2 h3 => ?_, fun d d' c q b cap h1 h2 h3 => ?_, h.mem.rr, h.mem.lt, h.mem.low, h.mem.keep, h.mem.knew, h.mem.pas⟩, h.itr, h.ii⟩
  · rcases setF_inv hd with ⟨rfl, rfl⟩ | ⟨_, hd⟩
    · obtain ⟨h1, h2⟩ := h.mem.box d cs hk
      refine ⟨⟨h1.lt, h1.obj, h1.fz, fun j c hc => ?_, h1.out⟩, h2⟩
      obtain ⟨c0, hc0, hw⟩ := hy j c hc
      obtain ⟨v, q1, q2, q3⟩ := h1.cell j c0 hc0
      exact ⟨v, q1, q2, hw v q3⟩
    · exact h.mem.box d ds' hd
  · have e1 : ∃ c, s.b d = some c := (setF_inv h1).elim (fun h => ⟨cs, h.1 ▸ hk⟩) (fun h => ⟨_, h.2⟩)
    have e2 : ∃ c, s.b d' = some c := (setF_inv h2).elim (fun h => ⟨cs, h.1 ▸ hk⟩) (fun h => ⟨_, h.2⟩)
    obtain ⟨c1, e1⟩ := e1; obtain ⟨c2, e2⟩ := e2
    exact h.mem.bb d d' c1 c2 e1 e2 h3
  · have e1 : ∃ c, s.b d = some c := (setF_inv h1).elim (fun h => ⟨cs, h.1 ▸ hk⟩) (fun h => ⟨_, h.2⟩)
    obtain ⟨c1, e1⟩ := e1
    exact h.mem.br d d' c1 q b cap e1 h2 h3
end
theorem adT_lw {s : ES} {k d e W : Nat} (hd : d < 1000 ∨ 2000 ≤ d) (hk : lk s.t k = some nilT) : (s.adT k d e W).Lw s := by
  intro B a w E hm hN hS
  have h1 := fgt_sound hS [d]
  have hf : Fresh (s.fgt [d]).fs d := fgt_fresh s (by simp)
  obtain ⟨E', e1, e2, e3, h2, h3⟩ := h1.adopt (d := d) (fun ho => by have := ho.1; have := ho.2; omega) hf e W
  refine ⟨E', ?_⟩
  have hk' : (s.fgt [d]).fs.t k = some nilT := by
    show lk ((s.fgt [d]).t) k = _
    simp only [ES.fgt, lk_map, hk]; rfl
  have := h2.reT (k := k) (x := nilT) (y := .own d W []) hk' (fun v hv => own_nil (e := e) (by simp [FS.setR, setF]) e3 hv)
  have he : (s.adT k d e W).fs = ((s.fgt [d]).fs.setR d (e, W, 0)).setT k (.own d W []) := by
    simp only [ES.adT, ES.fs, FS.setR, FS.setT, lk_sv]
  rw [he]; exact this
theorem adB_lw {s : ES} {x j d e W : Nat} {cs : List TV} (hd : d < 1000 ∨ 2000 ≤ d) (hne : x ≠ d) (hk : lk s.b x = some cs) (hc : cs.map (fgt3 [d]) = cs) (hj : cs[j]? = some nilT) : (s.adB x cs j d e W).Lw s := by
  intro B a w E hm hN hS
  have h1 := fgt_sound hS [d]
  have hf : Fresh (s.fgt [d]).fs d := fgt_fresh s (by simp)
  obtain ⟨E', e1, e2, e3, h2, h3⟩ := h1.adopt (d := d) (fun ho => by have := ho.1; have := ho.2; omega) hf e W
  refine ⟨E', ?_⟩
  have hk' : (s.fgt [d]).fs.b x = some cs := by
    rw [fgt_b]
    have : has [d] x = false := by simp only [has]; rw [beq_false (fun h => hne h.symm)]
    rw [this, hk]; simp [hc]
  have := h2.reB (k := x) (cs := cs) (ds := cs.set j (.own d W [])) hk' (fun i c hi => by
    by_cases hij : j = i
    · subst hij
      have hl : j < cs.length := (List.getElem?_eq_some_iff.1 hj).1
      rw [List.getElem?_set_self hl] at hi; cases hi
      exact ⟨nilT, hj, fun v hv => own_nil (e := e) (by simp [FS.setR, setF]) e3 hv⟩
    · rw [List.getElem?_set_ne hij] at hi
      exact ⟨c, hi, fun v hv => hv⟩)
  have he : (s.adB x cs j d e W).fs = ((s.fgt [d]).fs.setR d (e, W, 0)).setB x (cs.set j (.own d W [])) := by
    simp only [ES.adB, ES.fs, FS.setR, FS.setB, lk_sv]
  rw [he]; exact this
end Go.Sh
namespace Go.Sh
open Go
theorem reach_nil {s : FS} {rows : Bool} {n : Nat} {seen : List Nat} : reach s rows n [] seen = seen := by cases n <;> simp [reach]
def reachM (s : FS) (rows : Bool) (n d : Nat) (l seen : List Nat) : Option Nat → Option (List TV) → Option (Nat × Nat × Nat) → List Nat
  | some _, _, _ => reach s rows n l seen
  | none, some cs, _ => reach s rows n (cs.flatMap TV.ids1 ++ l) (seen ++ [d])
  | none, none, some _ => if rows then reach s rows n l (seen ++ [d]) else reach s rows n l seen
  | none, none, none => reach s rows n l seen
theorem reach_cons {s : FS} {rows : Bool} {n d : Nat} {l seen : List Nat} : reach s rows (n + 1) (d :: l) seen = reachM s rows n d l seen (pos seen d) (s.b d) (s.r d) := by
  simp only [reach]
  cases hp : pos seen d with
  | some j => rfl
  | none =>
    cases hb : s.b d with
    | some cs => rfl
    | none =>
      cases hr : s.r d with
      | none => rfl
      | some q => cases rows <;> rfl
theorem reach_m1 {s : FS} {rows : Bool} {n d j : Nat} {l seen : List Nat} {b : Option (List TV)} {r : Option (Nat × Nat × Nat)} : reachM s rows n d l seen (some j) b r = reach s rows n l seen := rfl
theorem reach_m2 {s : FS} {rows : Bool} {n d : Nat} {l seen : List Nat} {cs : List TV} {r : Option (Nat × Nat × Nat)} : reachM s rows n d l seen none (some cs) r = reach s rows n (cs.flatMap TV.ids1 ++ l) (seen ++ [d]) := rfl
theorem reach_m3 {s : FS} {rows : Bool} {n d : Nat} {l seen : List Nat} {q : Nat × Nat × Nat} : reachM s rows n d l seen none none (some q) = if rows then reach s rows n l (seen ++ [d]) else reach s rows n l seen := rfl
theorem reach_m4 {s : FS} {rows : Bool} {n d : Nat} {l seen : List Nat} : reachM s rows n d l seen none none none = reach s rows n l seen := rfl
end Go.Sh
namespace Go.Sh
open Go
section
variable {P : Program} {C : Oracle} {d e W n : Nat} {x y : Arg} {s : FS} {z : List Value}
def appNK (d e W n : Nat) : Option Bool → Option (List (List PV)) → Option (TV × Upd)
  | some true, some es2 => if es2.length * n ≤ 140737488355328 ∧ es2.length ≤ maxLen then some (.own d W es2, .row d (e, W, es2.length)) else none
  | _, _ => none
def appNSK (d e n : Nat) : Option Bool → Option ByteArray → Option (TV × Upd)
  | some true, some b => if b.size * n ≤ 140737488355328 ∧ b.size ≤ maxLen then some (.own d 1 (bytesP b), .row d (e, 1, b.size)) else none
  | _, _ => none
theorem e_appN : eff P C (some d) (.appN e W n x y) s = appNK d e W n ((x.get s).map TV.isNil) ((y.get s).bind (TV.elems W)) := by
  simp only [eff]
  generalize (x.get s).map TV.isNil = a
  generalize (y.get s).bind (TV.elems W) = b
  cases a with
  | none => rfl
  | some a => cases a <;> cases b <;> rfl
theorem e_appN1 {es : List (List PV)} : appNK d e W n (some true) (some es) = if es.length * n ≤ 140737488355328 ∧ es.length ≤ maxLen then some (.own d W es, .row d (e, W, es.length)) else none := rfl
theorem e_appN2 {o : Option (List (List PV))} : appNK d e W n (some false) o = none := by cases o <;> rfl
theorem e_appNS : eff P C (some d) (.appNS e n x y) s = appNSK d e n ((x.get s).map TV.isNil) ((y.get s).bind TV.str) := by
  simp only [eff]
  generalize (x.get s).map TV.isNil = a
  generalize (y.get s).bind TV.str = b
  cases a with
  | none => rfl
  | some a => cases a <;> cases b <;> rfl
theorem e_appNS1 {b : ByteArray} : appNSK d e n (some true) (some b) = if b.size * n ≤ 140737488355328 ∧ b.size ≤ maxLen then some (.own d 1 (bytesP b), .row d (e, 1, b.size)) else none := rfl
theorem e_appNS2 {o : Option ByteArray} : appNSK d e n (some false) o = none := by cases o <;> rfl
def bslK (d e W : Nat) : Option (List (List PV)) → Option (TV × Upd)
  | some es => if es.all (fun e => e.length == W) then some (.own d W es, .row d (e, W, es.length)) else none
  | none => none
theorem e_bslO {xs : List Arg} : eff P C (some d) (.bslO e W xs) s = bslK d e W (seqO (fun x : Arg => (x.get s).bind TV.pvs) xs) := by
  simp only [eff]
  generalize seqO (fun x : Arg => (x.get s).bind TV.pvs) xs = b
  cases b <;> rfl
theorem e_bslO1 {es : List (List PV)} : bslK d e W (some es) = if es.all (fun e => e.length == W) then some (.own d W es, .row d (e, W, es.length)) else none := rfl
def rngK (d : Nat) : Option ByteArray → Option (TV × Upd)
  | some z => some (.it d, .it d (z, 0))
  | none => none
theorem e_rng : eff P C (some d) (.rng x) s = rngK d ((x.get s).bind TV.str) := by
  simp only [eff]
  generalize (x.get s).bind TV.str = b
  cases b <;> rfl
theorem e_rng1 {b : ByteArray} : rngK d (some b) = some (.it d, .it d (b, 0)) := rfl
def mksK (d n : Nat) (z : List Value) : Option TV → Option (TV × Upd)
  | some (.pv (.v (.int .i64 k))) => if 0 ≤ k ∧ n * k ≤ 140737488355328 ∧ k ≤ maxLen then some (.bs d 0 k.toNat k.toNat, .box ((List.replicate k.toNat (z.map fun v => TV.pv (.v v))).flatten)) else none
  | _ => none
theorem e_mks : eff P C (some d) (.mks n z x) s = mksK d n z (x.get s) := by
  simp only [eff]
  generalize x.get s = b
  unfold mksK
  split <;> split <;> simp_all
theorem e_mks1 {k : Int} : mksK d n z (some (.pv (.v (.int .i64 k)))) = if 0 ≤ k ∧ n * k ≤ 140737488355328 ∧ k ≤ maxLen then some (.bs d 0 k.toNat k.toNat, .box ((List.replicate k.toNat (z.map fun v => TV.pv (.v v))).flatten)) else none := rfl
end
end Go.Sh
namespace Go.Sh
open Go Go.RowKit
/-- What is known of a plain value may be made less. -/
def PWk (c d : PV) : Prop := ∀ w K v, RelV w K c v → RelV w K d v
theorem PWk.refl (c : PV) : PWk c c := fun _ _ _ h => h
theorem pwk_nil (W : Nat) : PWk (.v (.slice none 0 0)) (.sl W []) := by
  intro w K v h
  cases h
  exact .sl W [] 0 0 0 none (fun _ _ => undef) (by simp) (by simp) (by simp) (by simp) (by simp) (by simp)
theorem pwk_sl {W : Nat} {es es' : List (List PV)} (hl : es.length = es'.length) (h : ∀ (i : Nat) cs ds, es[i]? = some cs → es'[i]? = some ds → cs.length = ds.length ∧ ∀ (j : Nat) c d, cs[j]? = some c → ds[j]? = some d → PWk c d) : PWk (.sl W es) (.sl W es') := by
  intro w K v hv
  have key : ∀ (i j : Nat) (ds : List PV) (d : PV), es'[i]? = some ds → ds[j]? = some d → ∃ cs c, es[i]? = some cs ∧ cs[j]? = some c ∧ PWk c d := by
    intro i j ds d h1 h2
    have hi : i < es.length := by rw [hl]; exact (List.getElem?_eq_some_iff.1 h1).1
    obtain ⟨h3, h4⟩ := h i _ ds (List.getElem?_eq_getElem hi) h1
    have hj : j < es[i].length := by rw [h3]; exact (List.getElem?_eq_some_iff.1 h2).1
    exact ⟨_, _, List.getElem?_eq_getElem hi, List.getElem?_eq_getElem hj, h4 j _ d (List.getElem?_eq_getElem hj) h2⟩
  cases hv with
  | sl W es b off cap p f hp hcap hmax hW hc hs =>
    rw [hl]
    refine .sl W es' b off cap p f (fun hne => hp (fun h0 => hne (List.eq_nil_of_length_eq_zero (by rw [← hl, h0]; rfl)))) (by omega) hmax (fun ds hds => ?_) (fun i j ds d h1 h2 => ?_) (fun i j ds d h1 h2 => ?_)
    · obtain ⟨i, hi⟩ := List.getElem?_of_mem hds
      have hi' : i < es.length := by rw [hl]; exact (List.getElem?_eq_some_iff.1 hi).1
      rw [← (h i _ ds (List.getElem?_eq_getElem hi') hi).1]
      exact hW _ (List.getElem_mem hi')
    · obtain ⟨cs, c, h3, h4, _⟩ := key i j ds d h1 h2
      exact hc i j cs c h3 h4
    · obtain ⟨cs, c, h3, h4, h5⟩ := key i j ds d h1 h2
      exact h5 _ _ _ (hs i j cs c h3 h4)
theorem wk_pv {c d : PV} (h : PWk c d) : Wk (.pv c) (.pv d) := by
  intro w E r v hv
  cases hv with
  | pv hv => exact .pv (h _ _ _ hv)
theorem wk_own {d W : Nat} {es es' : List (List PV)} (hl : es.length = es'.length) (h : PWk (.sl W es) (.sl W es')) : Wk (.own d W es) (.own d W es') := by
  intro w E r v hv
  cases hv with
  | own d W es v h1 h2 => exact .own d W es' v (h _ _ _ h1) (fun e W' n hn => by rw [← hl]; exact h2 e W' n hn)
theorem reT_lw {s : ES} {k : Nat} {x y : TV} (hk : lk s.t k = some x) (hw : Wk x y) : (⟨sv s.t k y, s.b, s.r, s.i⟩ : ES).Lw s := by
  intro B a w E _ _ hS
  refine ⟨E, ?_⟩
  have := hS.reT (k := k) (x := x) (y := y) hk (fun v hv => hw _ _ _ _ hv)
  have he : (⟨sv s.t k y, s.b, s.r, s.i⟩ : ES).fs = s.fs.setT k y := by simp only [ES.fs, FS.setT, lk_sv]
  rw [he]; exact this
theorem reB_lw {s : ES} {k : Nat} {cs ds : List TV} (hk : lk s.b k = some cs) (hl : cs.length = ds.length) (hw : ∀ (j : Nat) c d, cs[j]? = some c → ds[j]? = some d → Wk c d) : (⟨s.t, sv s.b k ds, s.r, s.i⟩ : ES).Lw s := by
  intro B a w E _ _ hS
  refine ⟨E, ?_⟩
  have := hS.reB (k := k) (cs := cs) (ds := ds) hk (fun j d hd => by
    have hj : j < cs.length := by rw [hl]; exact (List.getElem?_eq_some_iff.1 hd).1
    exact ⟨_, List.getElem?_eq_getElem hj, fun v hv => hw j _ d (List.getElem?_eq_getElem hj) hd _ _ _ _ hv⟩)
  have he : (⟨s.t, sv s.b k ds, s.r, s.i⟩ : ES).fs = s.fs.setB k ds := by simp only [ES.fs, FS.setB, lk_sv]
  rw [he]; exact this
end Go.Sh
namespace Go.Sh
open Go Go.RowKit
theorem wk_own_pv {d W : Nat} {es es' : List (List PV)} (h : PWk (.sl W es) (.sl W es')) : Wk (.own d W es) (.pv (.sl W es')) := by
  intro w E r v hv
  cases hv with
  | own d W es v h1 h2 => exact .pv (h _ _ _ h1)
theorem pwk_last {W : Nat} {es : List (List PV)} {cs ds : List PV} (hl : cs.length = ds.length) (h : ∀ (j : Nat) c d, cs[j]? = some c → ds[j]? = some d → PWk c d) : PWk (.sl W (es ++ [cs])) (.sl W (es ++ [ds])) := by
  refine pwk_sl (by simp) (fun i a b h1 h2 => ?_)
  by_cases hi : i < es.length
  · rw [List.getElem?_append_left hi] at h1 h2
    rw [h1] at h2; cases h2
    exact ⟨rfl, fun j c d h3 h4 => by rw [h3] at h4; cases h4; exact .refl c⟩
  · rw [List.getElem?_append_right (by omega)] at h1 h2
    have h0 : i - es.length = 0 := by
      have := (List.getElem?_eq_some_iff.1 h1).1; simp at this; omega
    rw [h0] at h1 h2; simp at h1 h2; subst h1; subst h2
    exact ⟨hl, h⟩
end Go.Sh
namespace Go.Sh
open Go
section
variable {P : Program} {C : Oracle} {dst : Option Nat} {W l h : Nat} {x : Arg} {lo hi : Option Arg} {s : FS} {z : ByteArray} {es : List (List PV)} {c : Prop} [Decidable c] {o : Option Nat}
def ssubK (z : ByteArray) : Option Nat → Option Nat → Option (TV × Upd)
  | some l, some h => if l ≤ h ∧ h ≤ z.size then some (.pv (.v (.string (z.extract l h))), .no) else none
  | _, _ => none
def ssubM (s : FS) (lo hi : Option Arg) : Option ByteArray → Option (TV × Upd)
  | some z => ssubK z (bound s 0 lo) (bound s z.size hi)
  | none => none
theorem e_ssub : eff P C dst (.ssub x lo hi) s = ssubM s lo hi ((x.get s).bind TV.str) := by
  simp only [eff]; generalize (x.get s).bind TV.str = a
  cases a with
  | none => rfl
  | some z =>
    unfold ssubM ssubK
    simp only []
    generalize bound s 0 lo = u
    generalize bound s z.size hi = v
    cases u <;> cases v <;> rfl
theorem e_ssub1 : ssubM s lo hi (some z) = ssubK z (bound s 0 lo) (bound s z.size hi) := rfl
theorem e_ssub2 : ssubK z (some l) (some h) = if l ≤ h ∧ h ≤ z.size then some (.pv (.v (.string (z.extract l h))), .no) else none := rfl
theorem e_ssub3 : ssubK z (some l) (if c then some h else none) = if c then ssubK z (some l) (some h) else none := by split <;> rfl
theorem e_ssub4 : ssubK z (if c then some l else none) o = if c then ssubK z (some l) o else none := by
  split
  · rfl
  · cases o <;> rfl
def subK (W : Nat) (es : List (List PV)) : Option Nat → Option Nat → Option (TV × Upd)
  | some l, some h => if l ≤ h ∧ h ≤ es.length then some (.pv (.sl W ((es.take h).drop l)), .no) else none
  | _, _ => none
def subM (s : FS) (W : Nat) (lo hi : Option Arg) : Option (List (List PV)) → Option (TV × Upd)
  | some es => subK W es (bound s 0 lo) (bound s es.length hi)
  | none => none
theorem e_sub1 : subM s W lo hi (some es) = subK W es (bound s 0 lo) (bound s es.length hi) := rfl
theorem e_sub2 : subK W es (some l) (some h) = if l ≤ h ∧ h ≤ es.length then some (.pv (.sl W ((es.take h).drop l)), .no) else none := rfl
theorem e_sub3 : subK W es (some l) (if c then some h else none) = if c then subK W es (some l) (some h) else none := by split <;> rfl
theorem e_sub4 : subK W es (if c then some l else none) o = if c then subK W es (some l) o else none := by
  split
  · rfl
  · cases o <;> rfl
theorem e_sub5 {W' : Nat} : subM s W lo hi (TV.elems W (.pv (.sl W' es))) = subM s W lo hi (if Nat.beq W' W then some es else none) := rfl
def subT (s : FS) (W : Nat) (lo hi : Option Arg) : Option TV → Option (TV × Upd)
  | some (.bs d off n c) => match bound s 0 lo, bound s n hi with
      | some l, some h => if l ≤ h ∧ h ≤ n ∧ n ≤ c then some (if c = l then .bs d off (h - l) (c - l) else .bs d (off + l * W) (h - l) (c - l), .no) else none
      | _, _ => none
  | some t => subM s W lo hi (t.elems W)
  | none => none
theorem e_sub : eff P C dst (.sub W x lo hi) s = subT s W lo hi (x.get s) := by
  simp only [eff]; generalize x.get s = a
  cases a with
  | none => rfl
  | some t =>
    have key : ∀ q : Option (List (List PV)), (match q with
        | some es => match bound s 0 lo, bound s es.length hi with
          | some l, some h => if l ≤ h ∧ h ≤ es.length then some (TV.pv (.sl W ((es.take h).drop l)), Upd.no) else none
          | _, _ => none
        | none => none) = subM s W lo hi q := by
      intro q
      cases q with
      | none => rfl
      | some es =>
        unfold subM subK
        generalize bound s 0 lo = u
        generalize bound s es.length hi = v
        cases u <;> cases v <;> rfl
    cases t with
    | bs d off n c => rfl
    | pv p => exact key ((TV.pv p).elems W)
    | own d W' es => exact key ((TV.own d W' es).elems W)
    | _ => rfl
theorem e_subT1 {p : PV} : subT s W lo hi (some (.pv p)) = subM s W lo hi ((TV.pv p).elems W) := rfl
theorem e_subT2 {d : Nat} {W' : Nat} : subT s W lo hi (some (.own d W' es)) = subM s W lo hi ((TV.own d W' es).elems W) := rfl
theorem e_subT3 {d off n c : Nat} : subT s W lo hi (some (.bs d off n c)) = (match bound s 0 lo, bound s n hi with
      | some l, some h => if l ≤ h ∧ h ≤ n ∧ n ≤ c then some (if c = l then .bs d off (h - l) (c - l) else .bs d (off + l * W) (h - l) (c - l), .no) else none
      | _, _ => none) := rfl
end
end Go.Sh
namespace Go.Sh
open Go
theorem gW_undef {w : Bool} {gs : Nat} {A B : ES → Prop} {s : ES} : guardW (some (.pv (.v undef))) w gs A B s = B s := rfl
end Go.Sh
namespace Go.Sh
open Go
section
variable {P : Program} {C : Oracle} {dst : Option Nat} {x : Arg} {s : FS} {d p : Nat} {z : ByteArray}
def nxtM (d : Nat) : Option (ByteArray × Nat) → Option (TV × Upd)
  | some (z, p) => if p < z.size then some (.tuple [.pv (.v (.bool true)), .pv (.v (.int .i64 (p : Int))), .pv (.v (.int .i32 (Utf8.decode z p).1))], .it d (z, p + (Utf8.decode z p).2)) else some (.tuple [.pv (.v (.bool false))], .no)
  | none => none
def nxtK (s : FS) : Option TV → Option (TV × Upd)
  | some (.it d) => nxtM d (s.i d)
  | _ => none
theorem e_nxt : eff P C dst (.nxt x) s = nxtK s (x.get s) := by
  simp only [eff]
  generalize x.get s = a
  cases a with
  | none => rfl
  | some t =>
    cases t <;> rfl
theorem e_nxt1 : nxtK s (some (.it d)) = nxtM d (s.i d) := rfl
theorem e_nxt2 : nxtM d (some (z, p)) = if p < z.size then some (.tuple [.pv (.v (.bool true)), .pv (.v (.int .i64 (p : Int))), .pv (.v (.int .i32 (Utf8.decode z p).1))], .it d (z, p + (Utf8.decode z p).2)) else some (.tuple [.pv (.v (.bool false))], .no) := rfl
end
theorem s_ite2 {P : Program} {o : SOper} {K : ES → Prop} {s : ES} {c : Prop} [Decidable c] {a b : TV × Upd} : stepW P o K s (if c then some a else some b) = ((c → K (s.after o a)) ∧ (¬ c → K (s.after o b))) := by
  by_cases h : c <;> simp [h, stepW]
end Go.Sh
end

section
/- Sh: the rules of walks in one. No statement of the program is proved here. -/
namespace Go.Sh
open Go Go.RowKit Go.Mor
set_option maxRecDepth 100000
theorem vcA : (type_of% @Go.Sh.bFT) ∧ (type_of% @Go.Sh.bTF) ∧ (type_of% @Go.Sh.ES.fgt.eq_1) ∧ (type_of% @List.map_cons.{0, 0}) ∧ (type_of% @List.map_nil.{0, 0}) ∧ (type_of% @Go.Sh.fgt3.eq_1) ∧ (type_of% @Go.Sh.TV.m3.eq_1) ∧ (type_of% @Go.Sh.TV.m3.eq_2) ∧ (type_of% @Go.Sh.TV.m2.eq_1) ∧ (type_of% @Go.Sh.TV.m2.eq_2) ∧ (type_of% @Go.Sh.TV.m1.eq_1) ∧ (type_of% @Go.Sh.TV.m1.eq_2) ∧ (type_of% @Go.Sh.TV.m0.eq_1) ∧ (type_of% @Go.Sh.TV.m0.eq_2) ∧ (type_of% @Go.Sh.TV.m0.eq_3) ∧ (type_of% @Go.Sh.TV.m0.eq_4) ∧ (type_of% @Go.Sh.TV.m0.eq_5) ∧ (type_of% @Go.Sh.TV.m0.eq_6) ∧ (type_of% @Go.Sh.TV.m0.eq_7) ∧ (type_of% @List.any_cons.{0}) ∧ (type_of% @List.any_nil.{0}) ∧ (type_of% @Bool.or_false) ∧ (type_of% @Bool.false_or) ∧ (type_of% @Go.Sh.drp.eq_1) ∧ (type_of% @Go.Sh.drp.eq_2) ∧ (type_of% @Go.Sh.effG.eq_1) ∧ (type_of% @Go.Sh.effF.eq_1) ∧ (type_of% @Go.Sh.footOk.eq_1) ∧ (type_of% @Go.Sh.SOp.foot.eq_1) ∧ (type_of% @Go.Sh.SOp.foot.eq_2) ∧ (type_of% @Go.Sh.SOp.foot.eq_3) ∧ (type_of% @Go.Sh.eff.eq_1) ∧ (type_of% @Go.Sh.eff.eq_2) ∧ (type_of% @Go.Sh.eff.eq_3) ∧ (type_of% @Go.Sh.eff.eq_4) ∧ (type_of% @Go.Sh.eff.eq_5) ∧ (type_of% @Go.Sh.eff.eq_6) ∧ (type_of% @Go.Sh.eff.eq_7) ∧ (type_of% @Go.Sh.eff.eq_8) ∧ (type_of% @Go.Sh.eff.eq_9) ∧ (type_of% @Go.Sh.eff.eq_11) ∧ (type_of% @Go.Sh.eff.eq_12) ∧ (type_of% @Go.Sh.eff.eq_13) ∧ (type_of% @Go.Sh.eff.eq_14) ∧ (type_of% @Go.Sh.eff.eq_15) ∧ (type_of% @Go.Sh.eff.eq_16) ∧ (type_of% @Go.Sh.eff.eq_17) ∧ (type_of% @Go.Sh.eff.eq_18) ∧ (type_of% @Go.Sh.eff.eq_19) ∧ (type_of% @Go.Sh.eff.eq_20) ∧ (type_of% @Go.Sh.eff.eq_21) ∧ (type_of% @Go.Sh.eff.eq_22) ∧ (type_of% @Go.Sh.eff.eq_23) ∧ (type_of% @Go.Sh.eff.eq_25) ∧ (type_of% @Go.Sh.eff.eq_28) ∧ (type_of% @Go.Sh.eff.eq_31) ∧ (type_of% @Go.Sh.eff.eq_32) ∧ (type_of% @Go.Sh.eff.eq_33) ∧ (type_of% @Go.Sh.eff.eq_34) ∧ (type_of% @Go.Sh.eff.eq_35) ∧ (type_of% @Go.Sh.Arg.get.eq_1) ∧ (type_of% @Go.Sh.Arg.get.eq_2) ∧ (type_of% @Go.Sh.ES.fs.eq_1) ∧ (type_of% @Go.Sh.lk.eq_1) ∧ (type_of% @Go.Sh.lk.eq_2) ∧ (type_of% @Option.map_some.{0, 0}) ∧ (type_of% @Option.bind_some.{0, 0}) ∧ (type_of% @Go.Sh.ES.after.eq_1) ∧ (type_of% @Go.Sh.ES.upd.eq_1) ∧ (type_of% @Go.Sh.ES.upd.eq_2) ∧ (type_of% @Go.Sh.ES.upd.eq_3) ∧ (type_of% @Go.Sh.ES.upd.eq_4) ∧ (type_of% @Go.Sh.ES.upd.eq_5) ∧ (type_of% @Go.Sh.ES.upd.eq_6) ∧ (type_of% @Go.Sh.ES.upd.eq_7) ∧ (type_of% @Go.Sh.ES.put.eq_1) ∧ (type_of% @Go.Sh.ES.put.eq_2) ∧ (type_of% @Go.Sh.sv.eq_1) ∧ (type_of% @Go.Sh.sv.eq_2) ∧ (type_of% @Go.Sh.ES.kill.eq_1) ∧ (type_of% @Go.Sh.ES.kill.eq_2) ∧ (type_of% @Go.Sh.has.eq_1) ∧ (type_of% @Go.Sh.has.eq_2) ∧ (type_of% @Go.Sh.nbeq) ∧ (type_of% @Go.Sh.nble) ∧ (type_of% @Go.Sh.nblt) ∧ (type_of% @Go.Sh.TV.val.eq_1) ∧ (type_of% @Go.Sh.TV.val.eq_2) ∧ (type_of% @Go.Sh.TV.val1.eq_1) ∧ (type_of% @Go.Sh.TV.val1.eq_2) ∧ (type_of% @Go.Sh.TV.int.eq_1) ∧ (type_of% @Go.Sh.TV.int.eq_2) ∧ (type_of% @Go.Sh.TV.str.eq_1) ∧ (type_of% @Go.Sh.TV.str.eq_2) ∧ (type_of% @Go.Sh.TV.cells.eq_1) ∧ (type_of% @Go.Sh.TV.cells.eq_2) ∧ (type_of% @Go.Sh.TV.cells.eq_3) ∧ (type_of% @Go.Sh.TV.cells.eq_4) ∧ (type_of% @Go.Sh.TV.cells.eq_5) ∧ (type_of% @Go.Sh.TV.slen.eq_1) ∧ (type_of% @Go.Sh.TV.slen.eq_2) ∧ (type_of% @Go.Sh.TV.slen.eq_3) ∧ (type_of% @Go.Sh.TV.slen.eq_4) ∧ (type_of% @Go.Sh.TV.slen.eq_5) ∧ (type_of% @Go.Sh.TV.toPV.eq_1) ∧ (type_of% @Go.Sh.TV.toPV.eq_2) ∧ (type_of% @Go.Sh.TV.toPV.eq_3) ∧ (type_of% @Go.Sh.TV.pvs.eq_1) ∧ (type_of% @Go.Sh.seqO.eq_1) ∧ (type_of% @Go.Sh.seqO.eq_2) ∧ (type_of% @Go.Sh.bin_lss) ∧ (type_of% @Go.Sh.bin_gtr) ∧ (type_of% @Go.Sh.bin_leq) ∧ (type_of% @Go.Sh.bin_geq) ∧ (type_of% @Go.Sh.bin_eql) ∧ (type_of% @Go.Sh.bin_neq) ∧ (type_of% @Go.Sh.bin_add) ∧ (type_of% @Go.Sh.bin_sub) ∧ (type_of% @Go.Sh.bin_mul) ∧ (type_of% @Go.Sh.sbin_eql) ∧ (type_of% @Go.Sh.sbin_neq) ∧ (type_of% @Go.Sh.sbin_lss) ∧ (type_of% @Go.Sh.sbin_gtr) ∧ (type_of% @Go.Sh.un_neg) ∧ (type_of% @Go.Sh.un_not) ∧ (type_of% @Go.Sh.startE.eq_1) ∧ (type_of% @Go.Sh.numT.eq_1) ∧ (type_of% @Go.Sh.numT.eq_2) ∧ (type_of% @Go.Sh.numB.eq_1) ∧ (type_of% @Go.Sh.numB.eq_2) ∧ (type_of% @Go.Sh.numB.eq_3) ∧ (type_of% @Go.Sh.numR.eq_1) ∧ (type_of% @Go.Sh.numR.eq_2) ∧ (type_of% @Go.Sh.numR.eq_3) ∧ (type_of% @Go.Sh.ansW.eq_1) ∧ (type_of% @Go.Sh.ansW.eq_2) ∧ (type_of% @Go.Sh.resT.eq_1) ∧ (type_of% @Go.Sh.resT.eq_2) ∧ (type_of% @Go.Sh.SRes.get.eq_1) ∧ (type_of% @Go.Sh.SRes.get.eq_2) ∧ (type_of% @List.flatMap_nil.{0, 0}) ∧ (type_of% @List.flatMap_cons.{0, 0}) ∧ (type_of% @List.append_nil.{0}) ∧ (type_of% @List.nil_append.{0}) ∧ (type_of% @Go.Sh.TV.ids3.eq_1) ∧ (type_of% @Go.Sh.TV.ids3.eq_2) ∧ (type_of% @Go.Sh.TV.ids2.eq_1) ∧ (type_of% @Go.Sh.TV.ids2.eq_2) ∧ (type_of% @Go.Sh.TV.ids1.eq_1) ∧ (type_of% @Go.Sh.TV.ids1.eq_2) ∧ (type_of% @Go.Sh.TV.ids0.eq_1) ∧ (type_of% @Go.Sh.TV.ids0.eq_2) ∧ (type_of% @Go.Sh.TV.ids0.eq_3) ∧ (type_of% @Go.Sh.TV.ids0.eq_4) ∧ (type_of% @Go.Sh.TV.ren3.eq_1) ∧ (type_of% @Go.Sh.TV.ren3.eq_2) ∧ (type_of% @Go.Sh.TV.ren2.eq_1) ∧ (type_of% @Go.Sh.TV.ren2.eq_2) ∧ (type_of% @Go.Sh.TV.ren1.eq_1) ∧ (type_of% @Go.Sh.TV.ren1.eq_2) ∧ (type_of% @Go.Sh.TV.ren0.eq_1) ∧ (type_of% @Go.Sh.TV.ren0.eq_2) ∧ (type_of% @Go.Sh.TV.ren0.eq_3) ∧ (type_of% @Go.Sh.TV.ren0.eq_4) ∧ (type_of% @Go.Sh.TV.ren0.eq_5) ∧ (type_of% @Go.Sh.TV.ren0.eq_6) ∧ (type_of% @Go.Sh.bound.eq_1) ∧ (type_of% @Go.Sh.bound.eq_2) ∧ (type_of% @if_true.{1}) ∧ (type_of% @if_false.{1}) ∧ (type_of% @Bool.false_eq_true) ∧ (type_of% @Go.Sh.partsT.eq_1) ∧ (type_of% @Go.Sh.fillT.eq_1) ∧ (type_of% @Go.Sh.fillT.eq_2) ∧ (type_of% @Go.Sh.splice.eq_1) ∧ (type_of% @List.take_zero.{0}) ∧ (type_of% @List.take_succ_cons.{0}) ∧ (type_of% @List.drop_zero.{0}) ∧ (type_of% @List.drop_succ_cons.{0}) ∧ (type_of% @List.length_cons.{0}) ∧ (type_of% @List.length_nil.{0}) ∧ (type_of% @and_self) ∧ (type_of% @and_true) ∧ (type_of% @true_and) ∧ (type_of% @List.cons_append.{0}) ∧ (type_of% @List.getElem?_cons_zero.{0}) ∧ (type_of% @List.getElem?_cons_succ.{0}) ∧ (type_of% @Nat.zero_add) ∧ (type_of% @Bool.not_true) ∧ (type_of% @Bool.not_false) ∧ (type_of% @Go.Value.oneCell'.eq_1) ∧ (type_of% @Go.Value.oneCell'.eq_2) ∧ (type_of% @Go.Value.oneCell'.eq_3) ∧ (type_of% @Go.Mor.str_toList) ∧ (type_of% @Go.Mor.str_size') ∧ (type_of% @Int.toNat_natCast) ∧ (type_of% @decide_true) ∧ (type_of% @decide_false) ∧ (type_of% @beq_self_eq_true.{0}) ∧ (type_of% @Go.Sh.handI.eq_1) ∧ (type_of% @Go.Sh.FS.mo.eq_1) ∧ (type_of% @Go.Sh.MO.ren.eq_1) ∧ (type_of% @Go.Sh.MO.ren.eq_2) ∧ (type_of% @Go.Sh.rhoIn.eq_1) ∧ (type_of% @Go.Sh.pos.eq_1) ∧ (type_of% @Go.Sh.pos.eq_2) ∧ (type_of% @Go.Sh.rhoOut.eq_1) ∧ (type_of% @Go.Sh.outs.eq_1) ∧ (type_of% @Go.Sh.outs.eq_2) ∧ (type_of% @Go.Sh.newId.eq_1) ∧ (type_of% @Go.Sh.dstId.eq_1) ∧ (type_of% @Go.Sh.dstId.eq_2) ∧ (type_of% @Go.Sh.putMem.eq_1) ∧ (type_of% @Go.Sh.putMem.eq_2) ∧ (type_of% @List.lookup.eq_1.{0, 0}) ∧ (type_of% @List.lookup.eq_2.{0, 0}) ∧ (type_of% @Go.Sh.moOk.eq_1) ∧ (type_of% @Go.Sh.moOk.eq_2) ∧ (type_of% @Go.Sh.moOk.eq_3) ∧ (type_of% @Go.Sh.moOk.eq_4) ∧ (type_of% @Nat.le_refl) ∧ (type_of% @Int.natCast_nonneg) ∧ (type_of% @Go.Sh.v_skip) ∧ (type_of% @Go.Sh.v_seq) ∧ (type_of% @Go.Sh.v_exit) ∧ (type_of% @Go.Sh.v_ret) ∧ (type_of% @Go.Sh.v_block) ∧ (type_of% @Go.Sh.v_cond) ∧ (type_of% @Go.Sh.v_reg) ∧ (type_of% @Go.Sh.v_reg2) ∧ (type_of% @Go.Sh.v_nil) ∧ (type_of% @Go.Sh.v_regK) ∧ (type_of% @Go.Sh.v_skipK) ∧ (type_of% @Go.Sh.v_op) ∧ (type_of% @Go.Sh.v_guard) ∧ (type_of% @Go.Sh.gW) ∧ (type_of% @Go.Sh.gW_u) ∧ (type_of% @Go.Sh.PostR.eq_1) ∧ (type_of% @Go.Sh.PostR.eq_2) ∧ (type_of% @Go.Sh.PostR.eq_3) ∧ (type_of% @Go.Sh.exitR.eq_1) ∧ (type_of% @Go.Sh.exitF.eq_1) ∧ (type_of% @Go.Sh.idsFrom.eq_1) ∧ (type_of% @Go.Sh.idsFrom.eq_2) ∧ (type_of% @Go.Sh.gW_undef) ∧ (type_of% @Nat.sub_zero) ∧ (type_of% @Go.Sh.gW_i) ∧ (type_of% @Go.Sh.gK_T1) ∧ (type_of% @Go.Sh.gK_T0) ∧ (type_of% @Go.Sh.gK_F1) ∧ (type_of% @Go.Sh.gK_F0) ∧ (type_of% @Go.Sh.gK_d1) ∧ (type_of% @Go.Sh.gK_d0) ∧ (type_of% @Go.Sh.gK_n1) ∧ (type_of% @Go.Sh.gK_n0) ∧ (type_of% @Go.Sh.v_then_n) ∧ (type_of% @Go.Sh.v_then_r) ∧ (type_of% @Go.Sh.v_then_x) ∧ (type_of% @Go.Sh.v_blk_n) ∧ (type_of% @Go.Sh.v_blk_r) ∧ (type_of% @Go.Sh.v_blk_x) ∧ (type_of% @Go.Sh.s_some) ∧ (type_of% @Go.Sh.s_none) ∧ (type_of% @Go.Sh.s_ite) ∧ (type_of% @Go.Sh.s_get) ∧ (type_of% @Go.Sh.bW_T) ∧ (type_of% @Go.Sh.bW_F) ∧ (type_of% @Go.Sh.bW_d) ∧ (type_of% @Go.Sh.bW_n) ∧ (type_of% @Go.Sh.bW_a) ∧ (type_of% @Go.Sh.bW_o) ∧ (type_of% @Go.Sh.bK) ∧ (type_of% @Go.Sh.callIn.eq_1) ∧ (type_of% @Go.Sh.callOut.eq_1) ∧ (type_of% @Go.Sh.callvIn.eq_1) ∧ (type_of% @Go.Sh.TV.callee.eq_1) ∧ (type_of% @Go.Sh.TV.callee.eq_2) ∧ (type_of% @Go.Sh.TV.callee.eq_3) ∧ (type_of% @Go.Sh.TV.callee.eq_4) ∧ (type_of% @Go.Sh.Post0.eq_1) ∧ (type_of% @Go.Sh.Post0.eq_2) ∧ (type_of% @Go.Sh.Post0.eq_3) ∧ (type_of% @Go.Sh.Post1.eq_1) ∧ (type_of% @Go.Sh.Post1.eq_2) ∧ (type_of% @Go.Sh.Post1.eq_3) ∧ (type_of% @Go.Sh.ansW1.eq_1) ∧ (type_of% @Go.Sh.ansW1.eq_2) ∧ (type_of% @Go.Sh.bin_quoI) ∧ (type_of% @Go.Sh.bin_remI) ∧ (type_of% @Go.Sh.sbin_addI) ∧ (type_of% @Go.Sh.TV.elems.eq_1) ∧ (type_of% @Go.Sh.TV.elems.eq_2) ∧ (type_of% @Go.Sh.TV.elems.eq_3) ∧ (type_of% @Go.Sh.TV.elems.eq_4) ∧ (type_of% @Go.Sh.TV.isNil.eq_1) ∧ (type_of% @Go.Sh.TV.isNil.eq_2) ∧ (type_of% @List.all_cons.{0}) ∧ (type_of% @List.all_nil.{0}) ∧ (type_of% @Bool.and_true) ∧ (type_of% @Bool.true_and) ∧ (type_of% @Bool.and_false) ∧ (type_of% @Bool.false_and) ∧ (type_of% @Bool.and_self) ∧ (type_of% @ne_eq.{1}) ∧ (type_of% @not_false_eq_true) ∧ (type_of% @not_true_eq_false) ∧ (type_of% @false_and) ∧ (type_of% @and_false) ∧ (type_of% @or_false) ∧ (type_of% @or_self) ∧ (type_of% @false_or) ∧ (type_of% @imp_self) ∧ (type_of% @forall_const.{0}) ∧ (type_of% @Option.isNone_none.{0}) ∧ (type_of% @List.getElem?_nil.{0}) ∧ (type_of% @decide_eq_true_eq) ∧ (type_of% @eq_self.{1}) ∧ (type_of% @Go.Mor.str_list) ∧ (type_of% @Go.Mor.str_append) ∧ (type_of% @Go.Mor.str_extract) ∧ (type_of% @List.getElem?_map.{0, 0}) ∧ (type_of% @Option.map_map.{0, 0, 0}) ∧ (type_of% @List.length_map.{0, 0}) ∧ (type_of% @Function.comp_apply.{1, 1, 1}) ∧ (type_of% @List.length_append.{0}) ∧ (type_of% @List.length_set.{0}) ∧ (type_of% @List.set_cons_zero.{0}) ∧ (type_of% @List.set_cons_succ.{0}) ∧ (type_of% @imp_false) ∧ (type_of% @Decidable.not_not) ∧ (type_of% @Go.Sh.e_ssub) ∧ (type_of% @Go.Sh.e_ssub1) ∧ (type_of% @Go.Sh.e_ssub2) ∧ (type_of% @Go.Sh.e_ssub3) ∧ (type_of% @Go.Sh.e_ssub4) ∧ (type_of% @Go.Sh.e_sub) ∧ (type_of% @Go.Sh.e_sub1) ∧ (type_of% @Go.Sh.e_sub2) ∧ (type_of% @Go.Sh.e_sub3) ∧ (type_of% @Go.Sh.e_sub4) ∧ (type_of% @Go.Sh.e_subT1) ∧ (type_of% @Go.Sh.e_subT2) ∧ (type_of% @Go.Sh.e_subT3) ∧ (type_of% @Go.Sh.e_appN) ∧ (type_of% @Go.Sh.e_appN1) ∧ (type_of% @Go.Sh.e_appN2) ∧ (type_of% @Go.Sh.e_appNS) ∧ (type_of% @Go.Sh.e_appNS1) ∧ (type_of% @Go.Sh.e_appNS2) ∧ (type_of% @Go.Sh.e_rng) ∧ (type_of% @Go.Sh.e_rng1) ∧ (type_of% @Go.Sh.e_mks) ∧ (type_of% @Go.Sh.e_mks1) ∧ (type_of% @Go.Sh.e_bslO) ∧ (type_of% @Go.Sh.e_bslO1) ∧ (type_of% @Go.Sh.e_nxt) ∧ (type_of% @Go.Sh.e_nxt1) ∧ (type_of% @Go.Sh.e_nxt2) ∧ (type_of% @Go.Sh.s_ite2) ∧ (type_of% @Go.Sh.reach_nil) ∧ (type_of% @Go.Sh.reach_cons) ∧ (type_of% @Go.Sh.reach_m1) ∧ (type_of% @Go.Sh.reach_m2) ∧ (type_of% @Go.Sh.reach_m3) ∧ (type_of% @Go.Sh.reach_m4) ∧ (type_of% @Option.map_none.{0, 0}) ∧ (type_of% @Option.bind_none.{0, 0}) ∧ (type_of% @Go.Sh.nc_mov) ∧ (type_of% @Go.Sh.nc_pick) ∧ (type_of% @Go.Sh.nc_bin) ∧ (type_of% @Go.Sh.nc_un) ∧ (type_of% @Go.Sh.nc_cvi) ∧ (type_of% @Go.Sh.nc_cvs) ∧ (type_of% @Go.Sh.nc_b2s) ∧ (type_of% @Go.Sh.nc_imm) ∧ (type_of% @Go.Sh.nc_sidx) ∧ (type_of% @Go.Sh.nc_ssub) ∧ (type_of% @Go.Sh.nc_slen) ∧ (type_of% @Go.Sh.nc_new) ∧ (type_of% @Go.Sh.nc_box) ∧ (type_of% @Go.Sh.nc_build) ∧ (type_of% @Go.Sh.nc_bsl) ∧ (type_of% @Go.Sh.nc_bslO) ∧ (type_of% @Go.Sh.nc_fld) ∧ (type_of% @Go.Sh.nc_fldA) ∧ (type_of% @Go.Sh.nc_ld) ∧ (type_of% @Go.Sh.nc_st) ∧ (type_of% @Go.Sh.nc_len) ∧ (type_of% @Go.Sh.nc_idxA) ∧ (type_of% @Go.Sh.nc_sub) ∧ (type_of% @Go.Sh.nc_app) ∧ (type_of% @Go.Sh.nc_appS) ∧ (type_of% @Go.Sh.nc_appN) ∧ (type_of% @Go.Sh.nc_appNS) ∧ (type_of% @Go.Sh.nc_ext) ∧ (type_of% @Go.Sh.nc_nchk) ∧ (type_of% @Go.Sh.nc_mkf) ∧ (type_of% @Go.Sh.nc_rng) ∧ (type_of% @Go.Sh.nc_nxt) ∧ (type_of% @Go.Sh.nc_mks) :=
  ⟨@Go.Sh.bFT, @Go.Sh.bTF, @Go.Sh.ES.fgt.eq_1, @List.map_cons.{0, 0}, @List.map_nil.{0, 0}, @Go.Sh.fgt3.eq_1, @Go.Sh.TV.m3.eq_1, @Go.Sh.TV.m3.eq_2, @Go.Sh.TV.m2.eq_1, @Go.Sh.TV.m2.eq_2, @Go.Sh.TV.m1.eq_1, @Go.Sh.TV.m1.eq_2, @Go.Sh.TV.m0.eq_1, @Go.Sh.TV.m0.eq_2, @Go.Sh.TV.m0.eq_3, @Go.Sh.TV.m0.eq_4, @Go.Sh.TV.m0.eq_5, @Go.Sh.TV.m0.eq_6, @Go.Sh.TV.m0.eq_7, @List.any_cons.{0}, @List.any_nil.{0}, @Bool.or_false, @Bool.false_or, @Go.Sh.drp.eq_1, @Go.Sh.drp.eq_2, @Go.Sh.effG.eq_1, @Go.Sh.effF.eq_1, @Go.Sh.footOk.eq_1, @Go.Sh.SOp.foot.eq_1, @Go.Sh.SOp.foot.eq_2, @Go.Sh.SOp.foot.eq_3, @Go.Sh.eff.eq_1, @Go.Sh.eff.eq_2, @Go.Sh.eff.eq_3, @Go.Sh.eff.eq_4, @Go.Sh.eff.eq_5, @Go.Sh.eff.eq_6, @Go.Sh.eff.eq_7, @Go.Sh.eff.eq_8, @Go.Sh.eff.eq_9, @Go.Sh.eff.eq_11, @Go.Sh.eff.eq_12, @Go.Sh.eff.eq_13, @Go.Sh.eff.eq_14, @Go.Sh.eff.eq_15, @Go.Sh.eff.eq_16, @Go.Sh.eff.eq_17, @Go.Sh.eff.eq_18, @Go.Sh.eff.eq_19, @Go.Sh.eff.eq_20, @Go.Sh.eff.eq_21, @Go.Sh.eff.eq_22, @Go.Sh.eff.eq_23, @Go.Sh.eff.eq_25, @Go.Sh.eff.eq_28, @Go.Sh.eff.eq_31, @Go.Sh.eff.eq_32, @Go.Sh.eff.eq_33, @Go.Sh.eff.eq_34, @Go.Sh.eff.eq_35, @Go.Sh.Arg.get.eq_1, @Go.Sh.Arg.get.eq_2, @Go.Sh.ES.fs.eq_1, @Go.Sh.lk.eq_1, @Go.Sh.lk.eq_2, @Option.map_some.{0, 0}, @Option.bind_some.{0, 0}, @Go.Sh.ES.after.eq_1, @Go.Sh.ES.upd.eq_1, @Go.Sh.ES.upd.eq_2, @Go.Sh.ES.upd.eq_3, @Go.Sh.ES.upd.eq_4, @Go.Sh.ES.upd.eq_5, @Go.Sh.ES.upd.eq_6, @Go.Sh.ES.upd.eq_7, @Go.Sh.ES.put.eq_1, @Go.Sh.ES.put.eq_2, @Go.Sh.sv.eq_1, @Go.Sh.sv.eq_2, @Go.Sh.ES.kill.eq_1, @Go.Sh.ES.kill.eq_2, @Go.Sh.has.eq_1, @Go.Sh.has.eq_2, @Go.Sh.nbeq, @Go.Sh.nble, @Go.Sh.nblt, @Go.Sh.TV.val.eq_1, @Go.Sh.TV.val.eq_2, @Go.Sh.TV.val1.eq_1, @Go.Sh.TV.val1.eq_2, @Go.Sh.TV.int.eq_1, @Go.Sh.TV.int.eq_2, @Go.Sh.TV.str.eq_1, @Go.Sh.TV.str.eq_2, @Go.Sh.TV.cells.eq_1, @Go.Sh.TV.cells.eq_2, @Go.Sh.TV.cells.eq_3, @Go.Sh.TV.cells.eq_4, @Go.Sh.TV.cells.eq_5, @Go.Sh.TV.slen.eq_1, @Go.Sh.TV.slen.eq_2, @Go.Sh.TV.slen.eq_3, @Go.Sh.TV.slen.eq_4, @Go.Sh.TV.slen.eq_5, @Go.Sh.TV.toPV.eq_1, @Go.Sh.TV.toPV.eq_2, @Go.Sh.TV.toPV.eq_3, @Go.Sh.TV.pvs.eq_1, @Go.Sh.seqO.eq_1, @Go.Sh.seqO.eq_2, @Go.Sh.bin_lss, @Go.Sh.bin_gtr, @Go.Sh.bin_leq, @Go.Sh.bin_geq, @Go.Sh.bin_eql, @Go.Sh.bin_neq, @Go.Sh.bin_add, @Go.Sh.bin_sub, @Go.Sh.bin_mul, @Go.Sh.sbin_eql, @Go.Sh.sbin_neq, @Go.Sh.sbin_lss, @Go.Sh.sbin_gtr, @Go.Sh.un_neg, @Go.Sh.un_not, @Go.Sh.startE.eq_1, @Go.Sh.numT.eq_1, @Go.Sh.numT.eq_2, @Go.Sh.numB.eq_1, @Go.Sh.numB.eq_2, @Go.Sh.numB.eq_3, @Go.Sh.numR.eq_1, @Go.Sh.numR.eq_2, @Go.Sh.numR.eq_3, @Go.Sh.ansW.eq_1, @Go.Sh.ansW.eq_2, @Go.Sh.resT.eq_1, @Go.Sh.resT.eq_2, @Go.Sh.SRes.get.eq_1, @Go.Sh.SRes.get.eq_2, @List.flatMap_nil.{0, 0}, @List.flatMap_cons.{0, 0}, @List.append_nil.{0}, @List.nil_append.{0}, @Go.Sh.TV.ids3.eq_1, @Go.Sh.TV.ids3.eq_2, @Go.Sh.TV.ids2.eq_1, @Go.Sh.TV.ids2.eq_2, @Go.Sh.TV.ids1.eq_1, @Go.Sh.TV.ids1.eq_2, @Go.Sh.TV.ids0.eq_1, @Go.Sh.TV.ids0.eq_2, @Go.Sh.TV.ids0.eq_3, @Go.Sh.TV.ids0.eq_4, @Go.Sh.TV.ren3.eq_1, @Go.Sh.TV.ren3.eq_2, @Go.Sh.TV.ren2.eq_1, @Go.Sh.TV.ren2.eq_2, @Go.Sh.TV.ren1.eq_1, @Go.Sh.TV.ren1.eq_2, @Go.Sh.TV.ren0.eq_1, @Go.Sh.TV.ren0.eq_2, @Go.Sh.TV.ren0.eq_3, @Go.Sh.TV.ren0.eq_4, @Go.Sh.TV.ren0.eq_5, @Go.Sh.TV.ren0.eq_6, @Go.Sh.bound.eq_1, @Go.Sh.bound.eq_2, @if_true.{1}, @if_false.{1}, @Bool.false_eq_true, @Go.Sh.partsT.eq_1, @Go.Sh.fillT.eq_1, @Go.Sh.fillT.eq_2, @Go.Sh.splice.eq_1, @List.take_zero.{0}, @List.take_succ_cons.{0}, @List.drop_zero.{0}, @List.drop_succ_cons.{0}, @List.length_cons.{0}, @List.length_nil.{0}, @and_self, @and_true, @true_and, @List.cons_append.{0}, @List.getElem?_cons_zero.{0}, @List.getElem?_cons_succ.{0}, @Nat.zero_add, @Bool.not_true, @Bool.not_false, @Go.Value.oneCell'.eq_1, @Go.Value.oneCell'.eq_2, @Go.Value.oneCell'.eq_3, @Go.Mor.str_toList, @Go.Mor.str_size', @Int.toNat_natCast, @decide_true, @decide_false, @beq_self_eq_true.{0}, @Go.Sh.handI.eq_1, @Go.Sh.FS.mo.eq_1, @Go.Sh.MO.ren.eq_1, @Go.Sh.MO.ren.eq_2, @Go.Sh.rhoIn.eq_1, @Go.Sh.pos.eq_1, @Go.Sh.pos.eq_2, @Go.Sh.rhoOut.eq_1, @Go.Sh.outs.eq_1, @Go.Sh.outs.eq_2, @Go.Sh.newId.eq_1, @Go.Sh.dstId.eq_1, @Go.Sh.dstId.eq_2, @Go.Sh.putMem.eq_1, @Go.Sh.putMem.eq_2, @List.lookup.eq_1.{0, 0}, @List.lookup.eq_2.{0, 0}, @Go.Sh.moOk.eq_1, @Go.Sh.moOk.eq_2, @Go.Sh.moOk.eq_3, @Go.Sh.moOk.eq_4, @Nat.le_refl, @Int.natCast_nonneg, @Go.Sh.v_skip, @Go.Sh.v_seq, @Go.Sh.v_exit, @Go.Sh.v_ret, @Go.Sh.v_block, @Go.Sh.v_cond, @Go.Sh.v_reg, @Go.Sh.v_reg2, @Go.Sh.v_nil, @Go.Sh.v_regK, @Go.Sh.v_skipK, @Go.Sh.v_op, @Go.Sh.v_guard, @Go.Sh.gW, @Go.Sh.gW_u, @Go.Sh.PostR.eq_1, @Go.Sh.PostR.eq_2, @Go.Sh.PostR.eq_3, @Go.Sh.exitR.eq_1, @Go.Sh.exitF.eq_1, @Go.Sh.idsFrom.eq_1, @Go.Sh.idsFrom.eq_2, @Go.Sh.gW_undef, @Nat.sub_zero, @Go.Sh.gW_i, @Go.Sh.gK_T1, @Go.Sh.gK_T0, @Go.Sh.gK_F1, @Go.Sh.gK_F0, @Go.Sh.gK_d1, @Go.Sh.gK_d0, @Go.Sh.gK_n1, @Go.Sh.gK_n0, @Go.Sh.v_then_n, @Go.Sh.v_then_r, @Go.Sh.v_then_x, @Go.Sh.v_blk_n, @Go.Sh.v_blk_r, @Go.Sh.v_blk_x, @Go.Sh.s_some, @Go.Sh.s_none, @Go.Sh.s_ite, @Go.Sh.s_get, @Go.Sh.bW_T, @Go.Sh.bW_F, @Go.Sh.bW_d, @Go.Sh.bW_n, @Go.Sh.bW_a, @Go.Sh.bW_o, @Go.Sh.bK, @Go.Sh.callIn.eq_1, @Go.Sh.callOut.eq_1, @Go.Sh.callvIn.eq_1, @Go.Sh.TV.callee.eq_1, @Go.Sh.TV.callee.eq_2, @Go.Sh.TV.callee.eq_3, @Go.Sh.TV.callee.eq_4, @Go.Sh.Post0.eq_1, @Go.Sh.Post0.eq_2, @Go.Sh.Post0.eq_3, @Go.Sh.Post1.eq_1, @Go.Sh.Post1.eq_2, @Go.Sh.Post1.eq_3, @Go.Sh.ansW1.eq_1, @Go.Sh.ansW1.eq_2, @Go.Sh.bin_quoI, @Go.Sh.bin_remI, @Go.Sh.sbin_addI, @Go.Sh.TV.elems.eq_1, @Go.Sh.TV.elems.eq_2, @Go.Sh.TV.elems.eq_3, @Go.Sh.TV.elems.eq_4, @Go.Sh.TV.isNil.eq_1, @Go.Sh.TV.isNil.eq_2, @List.all_cons.{0}, @List.all_nil.{0}, @Bool.and_true, @Bool.true_and, @Bool.and_false, @Bool.false_and, @Bool.and_self, @ne_eq.{1}, @not_false_eq_true, @not_true_eq_false, @false_and, @and_false, @or_false, @or_self, @false_or, @imp_self, @forall_const.{0}, @Option.isNone_none.{0}, @List.getElem?_nil.{0}, @decide_eq_true_eq, @eq_self.{1}, @Go.Mor.str_list, @Go.Mor.str_append, @Go.Mor.str_extract, @List.getElem?_map.{0, 0}, @Option.map_map.{0, 0, 0}, @List.length_map.{0, 0}, @Function.comp_apply.{1, 1, 1}, @List.length_append.{0}, @List.length_set.{0}, @List.set_cons_zero.{0}, @List.set_cons_succ.{0}, @imp_false, @Decidable.not_not, @Go.Sh.e_ssub, @Go.Sh.e_ssub1, @Go.Sh.e_ssub2, @Go.Sh.e_ssub3, @Go.Sh.e_ssub4, @Go.Sh.e_sub, @Go.Sh.e_sub1, @Go.Sh.e_sub2, @Go.Sh.e_sub3, @Go.Sh.e_sub4, @Go.Sh.e_subT1, @Go.Sh.e_subT2, @Go.Sh.e_subT3, @Go.Sh.e_appN, @Go.Sh.e_appN1, @Go.Sh.e_appN2, @Go.Sh.e_appNS, @Go.Sh.e_appNS1, @Go.Sh.e_appNS2, @Go.Sh.e_rng, @Go.Sh.e_rng1, @Go.Sh.e_mks, @Go.Sh.e_mks1, @Go.Sh.e_bslO, @Go.Sh.e_bslO1, @Go.Sh.e_nxt, @Go.Sh.e_nxt1, @Go.Sh.e_nxt2, @Go.Sh.s_ite2, @Go.Sh.reach_nil, @Go.Sh.reach_cons, @Go.Sh.reach_m1, @Go.Sh.reach_m2, @Go.Sh.reach_m3, @Go.Sh.reach_m4, @Option.map_none.{0, 0}, @Option.bind_none.{0, 0}, @Go.Sh.nc_mov, @Go.Sh.nc_pick, @Go.Sh.nc_bin, @Go.Sh.nc_un, @Go.Sh.nc_cvi, @Go.Sh.nc_cvs, @Go.Sh.nc_b2s, @Go.Sh.nc_imm, @Go.Sh.nc_sidx, @Go.Sh.nc_ssub, @Go.Sh.nc_slen, @Go.Sh.nc_new, @Go.Sh.nc_box, @Go.Sh.nc_build, @Go.Sh.nc_bsl, @Go.Sh.nc_bslO, @Go.Sh.nc_fld, @Go.Sh.nc_fldA, @Go.Sh.nc_ld, @Go.Sh.nc_st, @Go.Sh.nc_len, @Go.Sh.nc_idxA, @Go.Sh.nc_sub, @Go.Sh.nc_app, @Go.Sh.nc_appS, @Go.Sh.nc_appN, @Go.Sh.nc_appNS, @Go.Sh.nc_ext, @Go.Sh.nc_nchk, @Go.Sh.nc_mkf, @Go.Sh.nc_rng, @Go.Sh.nc_nxt, @Go.Sh.nc_mks⟩
end Go.Sh
end

section
/- Package val's small functions, walked: which values may be, which type they fit. No statement of the program is proved here. -/
namespace Go.Proofs.YthjphllpkcnehaaGreatDoor
open Go Go.RowKit Go.Mor Go.Sh Go.Sh.Cd1
set_option maxRecDepth 100000
set_option maxHeartbeats 4000000
theorem e0 : (⟨#[]⟩ : ByteArray) = str [] := rfl
theorem decode_str (l : List UInt8) (p : Nat) : Utf8.decode (str l) p = Lib.decodeL (l.drop p) := by rw [← Lib.decodeL_drop, str_toList]
def B (b : Bool) : TV := .pv (.v (.bool b))
theorem beqI (a b : Int) : (a == b) = decide (a = b) := by rw [Bool.eq_iff_iff]; simp
theorem plain_ok (g : Sh.Glob) (r : Nat) : SCalls Tryz.prog g 120 [.pv (.v (.int .i32 (r : Int)))] [] (B (plainR r)) [] := by
  refine call_of0 hmix tf_val_plain rfl ?_
  have h1 : decide ((32 : Int) ≤ (r : Int)) = decide (32 ≤ r) := by rw [Bool.eq_iff_iff]; simp; omega
  have h2 : decide ((r : Int) = 127) = (r == 127) := by rw [Bool.eq_iff_iff]; simp; omega
  unfold plainR B
  by_cases h : 32 ≤ r
  · have d1 : (32 : Int) ≤ (r : Int) := by omega
    simp only [vcA, seval, vV, d1, h2, h]
    rfl
  · have d1 : ¬ (32 : Int) ≤ (r : Int) := by omega
    simp only [vcA, seval, vV, d1, h]
theorem validString_ok (m : Nat) (l : List UInt8) (hl : l.length ≤ 9223372036854775807) : SCalls Tryz.prog (gl0 m) 119 [S (str l)] [] (B (Lib.validD l)) [] := by
  have := prim0_sound m 119 [S (str l)] [] (B (Lib.validD l)) [] (by simp [prim0, S, B, Nat.beq, str_size', hl, str_toList])
  exact this
theorem rightText_ok0 (m : Nat) (l : List UInt8) (hl : l.length ≤ 9223372036854775807) : SCalls Tryz.prog (gl0 m) 64 [S (str l)] [] (B (rightText l)) [] := by
  refine call_of0 hmix tf_val_rightText rfl ?_
  have HV := validString_ok m l hl
  unfold rightText B at *
  by_cases h60 : (l.length : Int) ≤ 60
  · have d1 : ¬ (60 : Int) < (l.length : Int) := by omega
    have h60' : l.length ≤ 60 := by omega
    simp only [vcA, seval, vV, d1]
    (with_reducible apply v_call); (· simp only [vcA, seval, vV]; with_reducible rfl); (· exact HV); (· first | rfl | (simp only [vcA, seval]; omega)); (· simp only [vcA, seval, vV]; with_reducible rfl)
    cases hv : Lib.validD l
    · simp only [vcA, seval, vV]
    simp only [vcA, seval, vV]
    refine v_loop (σ := {p : Nat // p ≤ l.length ∧ plainD l = plainD (l.drop p)}) (fun p => ⟨[(14, .it 14)], [], [], [(14, (str l, p.1))]⟩) (fun p => l.length - p.1) ⟨0, Nat.zero_le _, rfl⟩ (lw_eq rfl) ?_
    rintro ⟨p, hp, hd⟩
    by_cases hlt : p < l.length
    · have hne : l.drop p ≠ [] := by rw [Ne, List.drop_eq_nil_iff]; omega
      rw [plainD_step _ hne] at hd
      have hle := Lib.decodeL_le (l.drop p) hne
      have hw := Lib.decodeL_width (l.drop p)
      rw [List.length_drop] at hle
      have HP := plain_ok (gl0 m) (Lib.decodeL (l.drop p)).1
      unfold B at HP
      simp only [vcA, seval, vV, hlt, decode_str]
      (with_reducible apply v_call); (· simp only [vcA, seval, vV]; with_reducible rfl); (· exact HP); (· first | rfl | (simp only [vcA, seval]; omega)); (· simp only [vcA, seval, vV]; with_reducible rfl)
      cases hr : plainR (Lib.decodeL (l.drop p)).1
      · rw [hr] at hd
        simp only [vcA, seval, vV]
        simp [hd]
      · simp only [vcA, seval, vV]
        rw [hr, Bool.true_and, List.drop_drop] at hd
        refine loopK_of ⟨p + (Lib.decodeL (l.drop p)).2, by omega, hd⟩ (by show l.length - (p + _) < l.length - p; omega) ?_
        apply lw_of <;> simp [leL, lk, sv, Nat.beq, I, S, ES.kill, has, drp, nilT]
    · simp only [vcA, seval, vV, hlt, h60']
      have hnil : l.drop p = [] := List.drop_eq_nil_of_le (by omega)
      rw [hnil] at hd
      rw [hd]; rfl
  · have d1 : (60 : Int) < (l.length : Int) := by omega
    have h60' : ¬ l.length ≤ 60 := by omega
    simp only [vcA, seval, vV, d1]
    simp [h60']
theorem bare_ok (g : Sh.Glob) (x : V) : SCalls Tryz.prog g 63 [tv x] [] (B (bare x)) [] := by
  refine call_of0 hmix tf_val_bare rfl ?_
  have h1 : decide ((x.l.length : Int) = 0) = (x.l.length == 0) := by rw [Bool.eq_iff_iff]; simp
  unfold bare B
  cases h : x.s == []
  · simp only [vcA, seval, vV, e0, h]
  · simp only [vcA, seval, vV, e0, h, h1]
theorem rightID_ok (g : Sh.Glob) (n : Int) : SCalls Tryz.prog g 65 [I n] [] (B (rightID n)) [] := by
  refine call_of0 hmix tf_val_rightID rfl ?_
  unfold B
  simp only [vcA, seval, vV]
  unfold rightID
  repeat' (first | (apply And.intro) | (intro _))
  all_goals (first | rfl | (simp; omega) | (simp_all; done) | (simp_all; omega))
theorem right1_mk (k n : Int) (s : List UInt8) (l : List V) : right1 (.mk k n s l) = if k = 0 then bare (.mk k n s l) && n == 0
  else if k = 1 then bare (.mk k n s l) && decide (-1000000000000000 ≤ n) && decide (n ≤ 1000000000000000)
  else if k = 2 then n == 0 && l.length == 0 && rightText s
  else if k = 3 ∨ k = 4 then bare (.mk k n s l) && rightID n
  else false := rfl
theorem right1_ok0 (m : Nat) (x : V) (hs : TextsOk x) (h5 : x.k ≠ 5) : SCalls Tryz.prog (gl0 m) 28 [tv x] [] (B (right1 x)) [] := by
  obtain ⟨k, n, s, l⟩ := x
  have HB := bare_ok (gl0 m) (.mk k n s l)
  have HI := rightID_ok (gl0 m) n
  have HT := rightText_ok0 m s hs
  have hln : decide ((l.length : Int) = 0) = (l.length == 0) := by rw [Bool.eq_iff_iff]; simp
  have k5 : ¬ k = 5 := h5
  clear h5 hs
  rw [right1_mk]
  generalize bare (.mk k n s l) = b at HB ⊢
  refine call_of0 hmix tf_val_Right rfl ?_
  unfold B at *
  by_cases k0 : k = 0
  · subst k0
    have hn0 : decide (n = 0) = (n == 0) := by rw [Bool.eq_iff_iff]; simp
    simp only [vcA, seval, vV]
    (with_reducible apply v_call); (· simp only [vcA, seval, vV]; with_reducible rfl); (· exact HB); (· first | rfl | (simp only [vcA, seval]; omega)); (· simp only [vcA, seval, vV]; with_reducible rfl)
    cases b <;> simp only [vcA, seval, vV, hn0]
  rw [if_neg k0]
  by_cases k1 : k = 1
  · subst k1
    simp only [vcA, seval, vV]
    (with_reducible apply v_call); (· simp only [vcA, seval, vV]; with_reducible rfl); (· exact HB); (· first | rfl | (simp only [vcA, seval]; omega)); (· simp only [vcA, seval, vV]; with_reducible rfl)
    cases b
    · simp only [vcA, seval, vV]
    · by_cases q1 : -1000000000000000 ≤ n <;> by_cases q2 : n ≤ 1000000000000000 <;> simp only [vcA, seval, vV, q1, q2]
  rw [if_neg k1]
  by_cases k2 : k = 2
  · subst k2
    by_cases n0 : n = 0
    · subst n0
      cases hl : l.length == 0
      · simp only [vcA, seval, vV, hln, hl]
      · simp only [vcA, seval, vV, hln, hl]
        (with_reducible apply v_call); (· simp only [vcA, seval, vV]; with_reducible rfl); (· exact HT); (· first | rfl | (simp only [vcA, seval]; omega)); (· simp only [vcA, seval, vV]; with_reducible rfl)
        simp only [vcA, seval, vV]
    · have hn0 : (n == 0) = false := by simpa using n0
      simp only [vcA, seval, vV, n0, hn0]
  rw [if_neg k2]
  by_cases k3 : k = 3
  · subst k3
    simp only [vcA, seval, vV]
    (with_reducible apply v_call); (· simp only [vcA, seval, vV]; with_reducible rfl); (· exact HB); (· first | rfl | (simp only [vcA, seval]; omega)); (· simp only [vcA, seval, vV]; with_reducible rfl)
    cases b
    · simp only [vcA, seval, vV]
    · simp only [vcA, seval, vV]
      (with_reducible apply v_call); (· simp only [vcA, seval, vV]; with_reducible rfl); (· exact HI); (· first | rfl | (simp only [vcA, seval]; omega)); (· simp only [vcA, seval, vV]; with_reducible rfl)
      simp only [vcA, seval, vV]
  by_cases k4 : k = 4
  · subst k4
    simp only [vcA, seval, vV]
    (with_reducible apply v_call); (· simp only [vcA, seval, vV]; with_reducible rfl); (· exact HB); (· first | rfl | (simp only [vcA, seval]; omega)); (· simp only [vcA, seval, vV]; with_reducible rfl)
    cases b
    · simp only [vcA, seval, vV]
    · simp only [vcA, seval, vV]
      (with_reducible apply v_call); (· simp only [vcA, seval, vV]; with_reducible rfl); (· exact HI); (· first | rfl | (simp only [vcA, seval]; omega)); (· simp only [vcA, seval, vV]; with_reducible rfl)
      simp only [vcA, seval, vV]
  simp only [vcA, seval, vV, k0, k1, k2, k3, k4, k5]
end Go.Proofs.YthjphllpkcnehaaGreatDoor
end

section
/- Package val's functions, walked: Right, Fits, Zero. No statement of the program is proved here. -/
namespace Go.Proofs.YthjphllpkcnehaaGreatDoor
open Go Go.RowKit Go.Mor Go.Sh Go.Sh.Cd1
set_option maxRecDepth 100000
set_option maxHeartbeats 4000000
theorem noItem_ok0 (m : Nat) (x : V) (hs : TextsOk x) : SCalls Tryz.prog (gl0 m) 67 [tv x] [] (B (noItem x)) [] := by
  refine call_of0 hmix tf_val_noItem rfl ?_
  unfold noItem B
  by_cases k5 : x.k = 5
  · have h : (x.k == 5) = true := by simp [k5]
    have d : decide (x.k = 5) = true := by simp [k5]
    simp only [vcA, seval, vV, d, h]
    rfl
  · have HR := right1_ok0 m x hs k5
    have h : (x.k == 5) = false := by simpa using k5
    unfold B at HR
    simp only [vcA, seval, vV, k5, h]
    (with_reducible apply v_call); (· simp only [vcA, seval, vV]; with_reducible rfl); (· exact HR); (· first | rfl | (simp only [vcA, seval]; omega)); (· simp only [vcA, seval, vV]; with_reducible rfl)
    simp only [vcA, seval, vV]
theorem firstAt_drop {α : Type} (p : α → Bool) : ∀ (l : List α) (i : Nat), (∀ j x, j < i → l[j]? = some x → p x = false) → ∀ x, l[i]? = some x → p x = true → firstAt p l = i
  | [], i, _, x, hx, _ => by simp at hx
  | a :: l, 0, _, x, hx, hp => by simp at hx; subst hx; simp [firstAt, List.findIdx?_cons, hp]
  | a :: l, i + 1, h, x, hx, hp => by
    have h0 := h 0 a (by omega) rfl
    have := firstAt_drop p l i (fun j y hj hy => h (j + 1) y (by omega) (by simpa using hy)) x (by simpa using hx) hp
    unfold firstAt at this ⊢
    rw [List.findIdx?_cons, h0]
    cases hf : l.findIdx? p with
    | none => rw [hf] at this; simp only at this; omega
    | some q => rw [hf] at this; simp only at this ⊢; simp; omega
theorem firstAt_none {α : Type} (p : α → Bool) (l : List α) (h : ∀ x ∈ l, p x = false) : firstAt p l = -1 := by
  have : l.findIdx? p = none := List.findIdx?_eq_none_iff.2 h
  unfold firstAt; rw [this]
theorem firstAt_any {α : Type} (p : α → Bool) (l : List α) : decide (0 ≤ firstAt p l) = l.any p := by
  rw [Bool.eq_iff_iff, decide_eq_true_eq, List.any_eq_true]
  constructor
  · intro h
    by_cases hn : ∀ x ∈ l, p x = false
    · rw [firstAt_none p l hn] at h; omega
    · obtain ⟨x, hx⟩ := Classical.not_forall.1 hn
      obtain ⟨hx, hp⟩ := Classical.not_imp.1 hx
      exact ⟨x, hx, by simpa using hp⟩
  · rintro ⟨x, hx, hp⟩
    unfold firstAt
    cases hf : l.findIdx? p with
    | none => rw [List.findIdx?_eq_none_iff.1 hf x hx] at hp; cases hp
    | some i => simp
/-- slices.IndexFunc over values, by noItem. -/
theorem indexNo_ok (m : Nat) (l : List V) (hl : l.length ≤ maxLen) (hs : ∀ x ∈ l, TextsOk x) : SCalls Tryz.prog (gl0 m) 121 [.pv (.sl 4 (V.rows l)), .pv (.v (.func (.func 67) #[] #[]))] [] (I (firstAt noItem l)) [] := by
  refine call_of0 hmix tf_slices_IndexFunc___api_Val_api_Val_ rfl ?_
  have hm : maxLen = 9223372036854775807 := rfl
  simp only [vcA, seval, vV]
  refine v_loop (σ := {i : Nat // i ≤ l.length ∧ ∀ j x, j < i → l[j]? = some x → noItem x = false}) (fun i => ⟨[(0, .pv (.sl 4 (V.rows l))), (1, .pv (.v (.func (.func 67) #[] #[]))), (7, I (l.length : Int)), (8, I (i.1 : Int))], [], [], []⟩) (fun i => l.length - i.1) ⟨0, Nat.zero_le _, fun j x hj => by omega⟩ (lw_eq (by simp [I])) ?_
  rintro ⟨i, hi, hno⟩
  by_cases hlt : i < l.length
  · have d1 : (i : Int) < (l.length : Int) := by omega
    obtain ⟨x, ex⟩ : ∃ x, l[i]? = some x := ⟨_, List.getElem?_eq_getElem hlt⟩
    have HN := noItem_ok0 m x (hs x (List.mem_of_getElem? ex))
    have w1 : IntKind.i64.wrap ((i : Int) + 1) = ((i + 1 : Nat) : Int) := by rw [wrap64 (by omega) (by omega)]; omega
    unfold tv B at HN
    simp only [vcA, seval, vV, d1, ex]
    (with_reducible apply v_callv); (· simp only [vcA, seval, vV]; with_reducible rfl); (· exact HN); (· rfl); (· simp only [vcA, seval, vV]; with_reducible rfl)
    cases hp : noItem x
    · simp only [vcA, seval, vV, w1]
      refine loopK_of ⟨i + 1, by omega, fun j y hj hy => ?_⟩ (by show l.length - (i + 1) < l.length - i; omega) ?_
      · by_cases hji : j = i
        · subst hji; rw [ex] at hy; cases hy; exact hp
        · exact hno j y (by omega) hy
      · apply lw_of <;> simp [leL, lk, sv, Nat.beq, I, S, ES.kill, has, drp, nilT]
    · simp only [vcA, seval, vV]
      rw [firstAt_drop noItem l i hno x ex hp]
  · have d1 : ¬ (i : Int) < (l.length : Int) := by omega
    simp only [vcA, seval, vV, d1]
    rw [firstAt_none noItem l (fun x hx => by
      obtain ⟨j, hj⟩ := List.getElem?_of_mem hx
      exact hno j x (by have := (List.getElem?_eq_some_iff.1 hj).1; omega) hj)]
theorem containsNo_ok (m : Nat) (l : List V) (hl : l.length ≤ maxLen) (hs : ∀ x ∈ l, TextsOk x) : SCalls Tryz.prog (gl0 m) 66 [.pv (.sl 4 (V.rows l)), .pv (.v (.func (.func 67) #[] #[]))] [] (B (l.any noItem)) [] := by
  refine call_of0 hmix tf_slices_ContainsFunc___api_Val_api_Val_ rfl ?_
  have HI := indexNo_ok m l hl hs
  rw [← firstAt_any]
  unfold B
  simp only [vcA, seval, vV]
  (with_reducible apply v_call); (· simp only [vcA, seval, vV]; with_reducible rfl); (· exact HI); (· first | rfl | (simp only [vcA, seval]; omega)); (· simp only [vcA, seval, vV]; with_reducible rfl)
  simp only [vcA, seval, vV]
theorem rightV_ok0 (m : Nat) (x : V) (hx : VOk x) : SCalls Tryz.prog (gl0 m) 28 [tv x] [] (B (rightV x)) [] := by
  unfold rightV
  by_cases k5 : x.k = 5
  · rw [if_pos k5]
    obtain ⟨k, n, s, l⟩ := x
    simp only [Vk] at k5
    subst k5
    simp only [Vn, Vs, Vl]
    refine call_of0 hmix tf_val_Right rfl ?_
    unfold B
    by_cases n0 : n = 0
    · subst n0
      cases hs : s == []
      · simp only [vcA, seval, vV, e0, hs]
      · by_cases h12 : l.length ≤ 12
        · have d1 : (l.length : Int) ≤ 12 := by omega
          have HC := containsNo_ok m l (by unfold maxLen; omega) (fun y hy => hx.2 y hy)
          unfold B at HC
          simp only [vcA, seval, vV, e0, hs, d1, h12]
          (with_reducible apply v_call); (· simp only [vcA, seval, vV]; with_reducible rfl); (· exact HC); (· first | rfl | (simp only [vcA, seval]; omega)); (· simp only [vcA, seval, vV]; with_reducible rfl)
          simp only [vcA, seval, vV]
        · have d1 : ¬ (l.length : Int) ≤ 12 := by omega
          simp only [vcA, seval, vV, e0, hs, d1, h12]
    · have hn0 : (n == 0) = false := by simpa using n0
      simp only [vcA, seval, vV, n0, hn0]
  · rw [if_neg k5]
    exact right1_ok0 m x hx.1 k5
theorem rightType_ok (g : Sh.Glob) (t : Ty) : SCalls Tryz.prog g 74 [tyT t] [] (B (rightType t)) [] := by
  refine call_of0 hmix tf_val_rightType rfl ?_
  obtain ⟨k, o⟩ := t
  unfold B
  simp only [vcA, seval, vV]
  unfold rightType
  repeat' (first | (apply And.intro) | (intro _))
  all_goals (first | (simp_all; done) | (simp_all; omega))
theorem ofKind_ok (g : Sh.Glob) (x : V) (k : Int) : SCalls Tryz.prog g 75 [tv x, I k] [] (B (ofKind x k)) [] := by
  refine call_of0 hmix tf_val_ofKind rfl ?_
  unfold B
  simp only [vcA, seval, vV]
  unfold ofKind
  repeat' (first | (apply And.intro) | (intro _))
  all_goals (first | (simp_all; done) | (simp only [Option.some.injEq, TV.pv.injEq, PV.v.injEq, Value.bool.injEq]; rw [Bool.eq_iff_iff]; simp_all; done) | (simp only [Option.some.injEq, TV.pv.injEq, PV.v.injEq, Value.bool.injEq]; rw [Bool.eq_iff_iff]; simp_all; omega))
theorem zero_ok (g : Sh.Glob) (t : Ty) : SCalls Tryz.prog g 38 [tyT t] [] (nv (zeroV t)) [] := by
  refine call_of0 hmix tf_val_Zero rfl ?_
  have HR := rightType_ok g t
  unfold B at HR
  obtain ⟨k, o⟩ := t
  generalize hr : rightType ⟨k, o⟩ = r at HR
  have key : zeroV ⟨k, o⟩ = if !r || k == 3 || k == 4 then V.nil else .mk k 0 [] [] := by rw [← hr]; rfl
  rw [key]
  simp only [vcA, seval, vV]
  (with_reducible apply v_call); (· simp only [vcA, seval, vV]; with_reducible rfl); (· exact HR); (· first | rfl | (simp only [vcA, seval]; omega)); (· simp only [vcA, seval, vV]; with_reducible rfl)
  cases r
  · simp only [vcA, seval, vV]
    rfl
  · simp only [vcA, seval, vV]
    repeat' (first | (apply And.intro) | (intro _))
    all_goals (first | (simp_all [V.nil, V.k, V.n, V.s, e0]; done) | rfl)
/-- What Fits asks of each item. -/
theorem fits1_ok (g : Sh.Glob) (x : V) (t : Ty) : SCalls Tryz.prog g 76 [tv x, .ptr 1000 0] [.box [I t.k, I t.o]] (B (!ofKind x t.o)) [.box [I t.k, I t.o]] := by
  refine call_of hmix tf_val_Fits_1 rfl rfl rfl ?_
  have HK := ofKind_ok g x t.o
  unfold B at *
  simp only [vcA, seval, vV]
  (with_reducible apply v_call); (· simp only [vcA, seval, vV]; with_reducible rfl); (· exact HK); (· first | rfl | (simp only [vcA, seval]; omega)); (· simp only [vcA, seval, vV]; with_reducible rfl)
  simp only [vcA, seval, vV]
theorem indexFits_ok (g : Sh.Glob) (l : List V) (t : Ty) (hl : l.length ≤ maxLen) : SCalls Tryz.prog g 121 [.pv (.sl 4 (V.rows l)), .fn (.func 76) [] [.ptr 1000 0]] [.box [I t.k, I t.o]] (I (firstAt (fun y => !ofKind y t.o) l)) [.box [I t.k, I t.o]] := by
  refine call_of hmix tf_slices_IndexFunc___api_Val_api_Val_ rfl rfl rfl ?_
  have hm : maxLen = 9223372036854775807 := rfl
  simp only [vcA, seval, vV]
  refine v_loop (σ := {i : Nat // i ≤ l.length ∧ ∀ j x, j < i → l[j]? = some x → (!ofKind x t.o) = false}) (fun i => ⟨[(0, .pv (.sl 4 (V.rows l))), (1, .fn (.func 76) [] [.ptr 1000 0]), (7, I (l.length : Int)), (8, I (i.1 : Int))], [(1000, [I t.k, I t.o])], [], []⟩) (fun i => l.length - i.1) ⟨0, Nat.zero_le _, fun j x hj => by omega⟩ (lw_eq (by simp [I])) ?_
  rintro ⟨i, hi, hno⟩
  by_cases hlt : i < l.length
  · have d1 : (i : Int) < (l.length : Int) := by omega
    obtain ⟨x, ex⟩ : ∃ x, l[i]? = some x := ⟨_, List.getElem?_eq_getElem hlt⟩
    have HN := fits1_ok g x t
    have w1 : IntKind.i64.wrap ((i : Int) + 1) = ((i + 1 : Nat) : Int) := by rw [wrap64 (by omega) (by omega)]; omega
    unfold tv B at HN
    simp only [vcA, seval, vV, d1, ex]
    (with_reducible apply v_callv); (· simp only [vcA, seval, vV]; with_reducible rfl); (· exact HN); (· rfl); (· simp only [vcA, seval, vV]; with_reducible rfl)
    cases hp : ofKind x t.o
    · simp only [vcA, seval, vV]
      rw [firstAt_drop (fun y => !ofKind y t.o) l i hno x ex (by simp [hp])]
    · simp only [vcA, seval, vV, w1]
      refine loopK_of ⟨i + 1, by omega, fun j y hj hy => ?_⟩ (by show l.length - (i + 1) < l.length - i; omega) ?_
      · by_cases hji : j = i
        · subst hji; rw [ex] at hy; cases hy; simp [hp]
        · exact hno j y (by omega) hy
      · apply lw_of <;> simp [leL, lk, sv, Nat.beq, I, S, ES.kill, has, drp, nilT]
  · have d1 : ¬ (i : Int) < (l.length : Int) := by omega
    simp only [vcA, seval, vV, d1]
    rw [firstAt_none (fun y => !ofKind y t.o) l (fun x hx => by
      obtain ⟨j, hj⟩ := List.getElem?_of_mem hx
      exact hno j x (by have := (List.getElem?_eq_some_iff.1 hj).1; omega) hj)]
theorem containsFits_ok (g : Sh.Glob) (l : List V) (t : Ty) (hl : l.length ≤ maxLen) : SCalls Tryz.prog g 66 [.pv (.sl 4 (V.rows l)), .fn (.func 76) [] [.ptr 1000 0]] [.box [I t.k, I t.o]] (B (l.any fun y => !ofKind y t.o)) [.box [I t.k, I t.o]] := by
  refine call_of hmix tf_slices_ContainsFunc___api_Val_api_Val_ rfl rfl rfl ?_
  have HI := indexFits_ok g l t hl
  rw [← firstAt_any]
  unfold B
  simp only [vcA, seval, vV]
  (with_reducible apply v_call); (· simp only [vcA, seval, vV]; with_reducible rfl); (· exact HI); (· first | rfl | (simp only [vcA, seval]; omega)); (· simp only [vcA, seval, vV]; with_reducible rfl)
  simp only [vcA, seval, vV]
theorem fits_ok0 (m : Nat) (x : V) (t : Ty) (hx : VOk x) (hl : x.l.length ≤ maxLen) : SCalls Tryz.prog (gl0 m) 36 [tv x, tyT t] [] (B (fitsV x t)) [] := by
  refine call_of0 hmix tf_val_Fits rfl ?_
  have HR := rightV_ok0 m x hx
  have HT := rightType_ok (gl0 m) t
  have HK := ofKind_ok (gl0 m) x t.k
  have HC := containsFits_ok (gl0 m) x.l t hl
  unfold fitsV B at *
  simp only [vcA, seval, vV]
  (with_reducible apply v_call); (· simp only [vcA, seval, vV]; with_reducible rfl); (· exact HR); (· first | rfl | (simp only [vcA, seval]; omega)); (· simp only [vcA, seval, vV]; with_reducible rfl)
  cases rightV x
  · simp only [vcA, seval, vV]
  simp only [vcA, seval, vV]
  (with_reducible apply v_call); (· simp only [vcA, seval, vV]; with_reducible rfl); (· exact HT); (· first | rfl | (simp only [vcA, seval]; omega)); (· simp only [vcA, seval, vV]; with_reducible rfl)
  cases rightType t
  · simp only [vcA, seval, vV]
  simp only [vcA, seval, vV]
  (with_reducible apply v_call); (· simp only [vcA, seval, vV]; with_reducible rfl); (· exact HK); (· first | rfl | (simp only [vcA, seval]; omega)); (· simp only [vcA, seval, vV]; with_reducible rfl)
  cases ofKind x t.k
  · simp only [vcA, seval, vV]
  simp only [vcA, seval, vV]
  (with_reducible apply v_call); (· simp only [vcA, seval, vV]; with_reducible rfl); (· exact HC); (· first | rfl | (simp only [vcA, seval]; omega)); (· simp only [vcA, seval, vV]; with_reducible rfl)
  simp only [vcA, seval, vV]
end Go.Proofs.YthjphllpkcnehaaGreatDoor
end

section
/- The document's signs of texts, and Go's own decoder: the same. -/
namespace Go.Mor
open Go
set_option maxHeartbeats 4000000

/-- How many bytes the first sign has: of so many bytes, by its first four. -/
def signN (n b0 b1 b2 b3 : Nat) : Nat :=
  if b0 < 128 then 1
  else if 194 ≤ b0 ∧ b0 ≤ 223 then (if n < 2 ∨ b1 < 128 ∨ 191 < b1 then 0 else 2)
  else if 224 ≤ b0 ∧ b0 ≤ 239 then (if n < 3 ∨ b1 < (if b0 = 224 then 160 else 128) ∨ (if b0 = 237 then 159 else 191) < b1 ∨ b2 < 128 ∨ 191 < b2 then 0 else 3)
  else if 240 ≤ b0 ∧ b0 ≤ 244 then (if n < 4 ∨ b1 < (if b0 = 240 then 144 else 128) ∨ (if b0 = 244 then 143 else 191) < b1 ∨ b2 < 128 ∨ 191 < b2 ∨ b3 < 128 ∨ 191 < b3 then 0 else 4)
  else 0
def signL (l : List UInt8) : Nat := if l = [] then 0 else signN l.length (l.getD 0 0).toNat (l.getD 1 0).toNat (l.getD 2 0).toNat (l.getD 3 0).toNat
theorem signN_decode (n b0 b1 b2 b3 : Nat) (h0 : b0 < 256) (h1 : b1 < 256) (h2 : b2 < 256) (h3 : b3 < 256) :
    signN n b0 b1 b2 b3 = if (Lib.decodeN n b0 b1 b2 b3).1 = 65533 ∧ (Lib.decodeN n b0 b1 b2 b3).2 = 1 then 0 else (Lib.decodeN n b0 b1 b2 b3).2 := by
  unfold signN Lib.decodeN
  repeat' split
  all_goals (simp_all <;> omega)
end Go.Mor
end

section
/- Small functions of chapter 3's statements, as plain functions. No statement of the program is proved here. -/
namespace Go.Proofs.YthjphllpkcnehaaGreatDoor
open Go Go.RowKit Go.Mor Go.Sh Go.Sh.Cd1
set_option maxRecDepth 100000
set_option maxHeartbeats 2000000
/-- The rules of walks. -/
theorem shA : (type_of% @Go.Proofs.YthjphllpkcnehaaGreatDoor.I.eq_1) ∧ (type_of% @Go.Proofs.YthjphllpkcnehaaGreatDoor.S.eq_1) ∧ (type_of% @Go.Sh.bFT) ∧ (type_of% @Go.Sh.bTF) ∧ (type_of% @Go.Sh.regE1.eq_1) ∧ (type_of% @Go.Sh.runE.eq_1) ∧ (type_of% @Go.Sh.runE.eq_2) ∧ (type_of% @Go.Sh.ES.fgt.eq_1) ∧ (type_of% @List.map_cons.{0, 0}) ∧ (type_of% @List.map_nil.{0, 0}) ∧ (type_of% @Go.Sh.fgt3.eq_1) ∧ (type_of% @Go.Sh.TV.m3.eq_1) ∧ (type_of% @Go.Sh.TV.m3.eq_2) ∧ (type_of% @Go.Sh.TV.m2.eq_1) ∧ (type_of% @Go.Sh.TV.m2.eq_2) ∧ (type_of% @Go.Sh.TV.m1.eq_1) ∧ (type_of% @Go.Sh.TV.m1.eq_2) ∧ (type_of% @Go.Sh.TV.m0.eq_1) ∧ (type_of% @Go.Sh.TV.m0.eq_2) ∧ (type_of% @Go.Sh.TV.m0.eq_3) ∧ (type_of% @Go.Sh.TV.m0.eq_4) ∧ (type_of% @Go.Sh.TV.m0.eq_5) ∧ (type_of% @Go.Sh.TV.m0.eq_6) ∧ (type_of% @Go.Sh.TV.m0.eq_7) ∧ (type_of% @List.any_cons.{0}) ∧ (type_of% @List.any_nil.{0}) ∧ (type_of% @Bool.or_false) ∧ (type_of% @Bool.false_or) ∧ (type_of% @Go.Sh.drp.eq_1) ∧ (type_of% @Go.Sh.drp.eq_2) ∧ (type_of% @Go.Sh.effG.eq_1) ∧ (type_of% @Go.Sh.effF.eq_1) ∧ (type_of% @Go.Sh.footOk.eq_1) ∧ (type_of% @Go.Sh.SOp.foot.eq_1) ∧ (type_of% @Go.Sh.SOp.foot.eq_2) ∧ (type_of% @Go.Sh.SOp.foot.eq_3) ∧ (type_of% @Go.Sh.eff.eq_1) ∧ (type_of% @Go.Sh.eff.eq_2) ∧ (type_of% @Go.Sh.eff.eq_3) ∧ (type_of% @Go.Sh.eff.eq_4) ∧ (type_of% @Go.Sh.eff.eq_5) ∧ (type_of% @Go.Sh.eff.eq_6) ∧ (type_of% @Go.Sh.eff.eq_7) ∧ (type_of% @Go.Sh.eff.eq_8) ∧ (type_of% @Go.Sh.eff.eq_9) ∧ (type_of% @Go.Sh.eff.eq_10) ∧ (type_of% @Go.Sh.eff.eq_11) ∧ (type_of% @Go.Sh.eff.eq_12) ∧ (type_of% @Go.Sh.eff.eq_13) ∧ (type_of% @Go.Sh.eff.eq_14) ∧ (type_of% @Go.Sh.eff.eq_15) ∧ (type_of% @Go.Sh.eff.eq_16) ∧ (type_of% @Go.Sh.eff.eq_17) ∧ (type_of% @Go.Sh.eff.eq_18) ∧ (type_of% @Go.Sh.eff.eq_19) ∧ (type_of% @Go.Sh.eff.eq_20) ∧ (type_of% @Go.Sh.eff.eq_21) ∧ (type_of% @Go.Sh.eff.eq_22) ∧ (type_of% @Go.Sh.eff.eq_23) ∧ (type_of% @Go.Sh.eff.eq_24) ∧ (type_of% @Go.Sh.eff.eq_25) ∧ (type_of% @Go.Sh.eff.eq_26) ∧ (type_of% @Go.Sh.eff.eq_27) ∧ (type_of% @Go.Sh.eff.eq_28) ∧ (type_of% @Go.Sh.eff.eq_29) ∧ (type_of% @Go.Sh.eff.eq_30) ∧ (type_of% @Go.Sh.eff.eq_31) ∧ (type_of% @Go.Sh.eff.eq_32) ∧ (type_of% @Go.Sh.eff.eq_33) ∧ (type_of% @Go.Sh.eff.eq_34) ∧ (type_of% @Go.Sh.eff.eq_35) ∧ (type_of% @Go.Sh.eff.eq_36) ∧ (type_of% @Go.Sh.eff.eq_37) ∧ (type_of% @Go.Sh.eff.eq_38) ∧ (type_of% @Go.Sh.eff.eq_39) ∧ (type_of% @Go.Sh.eff.eq_40) ∧ (type_of% @Go.Sh.Arg.get.eq_1) ∧ (type_of% @Go.Sh.Arg.get.eq_2) ∧ (type_of% @Go.Sh.ES.fs.eq_1) ∧ (type_of% @Go.Sh.lk.eq_1) ∧ (type_of% @Go.Sh.lk.eq_2) ∧ (type_of% @Option.map_some.{0, 0}) ∧ (type_of% @Option.bind_some.{0, 0}) ∧ (type_of% @Go.Sh.ES.after.eq_1) ∧ (type_of% @Go.Sh.ES.upd.eq_1) ∧ (type_of% @Go.Sh.ES.upd.eq_2) ∧ (type_of% @Go.Sh.ES.upd.eq_3) ∧ (type_of% @Go.Sh.ES.upd.eq_4) ∧ (type_of% @Go.Sh.ES.upd.eq_5) ∧ (type_of% @Go.Sh.ES.upd.eq_6) ∧ (type_of% @Go.Sh.ES.upd.eq_7) ∧ (type_of% @Go.Sh.ES.put.eq_1) ∧ (type_of% @Go.Sh.ES.put.eq_2) ∧ (type_of% @Go.Sh.sv.eq_1) ∧ (type_of% @Go.Sh.sv.eq_2) ∧ (type_of% @Go.Sh.ES.kill.eq_1) ∧ (type_of% @Go.Sh.ES.kill.eq_2) ∧ (type_of% @Go.Sh.has.eq_1) ∧ (type_of% @Go.Sh.has.eq_2) ∧ (type_of% @Go.Sh.nbeq) ∧ (type_of% @Go.Sh.nble) ∧ (type_of% @Go.Sh.nblt) ∧ (type_of% @Go.Sh.TV.val.eq_1) ∧ (type_of% @Go.Sh.TV.val.eq_2) ∧ (type_of% @Go.Sh.TV.val1.eq_1) ∧ (type_of% @Go.Sh.TV.val1.eq_2) ∧ (type_of% @Go.Sh.TV.int.eq_1) ∧ (type_of% @Go.Sh.TV.int.eq_2) ∧ (type_of% @Go.Sh.TV.str.eq_1) ∧ (type_of% @Go.Sh.TV.str.eq_2) ∧ (type_of% @Go.Sh.TV.cells.eq_1) ∧ (type_of% @Go.Sh.TV.cells.eq_2) ∧ (type_of% @Go.Sh.TV.cells.eq_3) ∧ (type_of% @Go.Sh.TV.cells.eq_4) ∧ (type_of% @Go.Sh.TV.cells.eq_5) ∧ (type_of% @Go.Sh.TV.slen.eq_1) ∧ (type_of% @Go.Sh.TV.slen.eq_2) ∧ (type_of% @Go.Sh.TV.slen.eq_3) ∧ (type_of% @Go.Sh.TV.slen.eq_4) ∧ (type_of% @Go.Sh.TV.slen.eq_5) ∧ (type_of% @Go.Sh.TV.toPV.eq_1) ∧ (type_of% @Go.Sh.TV.toPV.eq_2) ∧ (type_of% @Go.Sh.TV.toPV.eq_3) ∧ (type_of% @Go.Sh.TV.pvs.eq_1) ∧ (type_of% @Go.Sh.seqO.eq_1) ∧ (type_of% @Go.Sh.seqO.eq_2) ∧ (type_of% @Go.Sh.bin_lss) ∧ (type_of% @Go.Sh.bin_gtr) ∧ (type_of% @Go.Sh.bin_leq) ∧ (type_of% @Go.Sh.bin_geq) ∧ (type_of% @Go.Sh.bin_eql) ∧ (type_of% @Go.Sh.bin_neq) ∧ (type_of% @Go.Sh.bin_add) ∧ (type_of% @Go.Sh.bin_sub) ∧ (type_of% @Go.Sh.bin_mul) ∧ (type_of% @Go.Sh.sbin_eql) ∧ (type_of% @Go.Sh.sbin_neq) ∧ (type_of% @Go.Sh.sbin_lss) ∧ (type_of% @Go.Sh.sbin_gtr) ∧ (type_of% @Go.Sh.un_neg) ∧ (type_of% @Go.Sh.un_not) ∧ (type_of% @Go.Sh.startE.eq_1) ∧ (type_of% @Go.Sh.numT.eq_1) ∧ (type_of% @Go.Sh.numT.eq_2) ∧ (type_of% @Go.Sh.numB.eq_1) ∧ (type_of% @Go.Sh.numB.eq_2) ∧ (type_of% @Go.Sh.numB.eq_3) ∧ (type_of% @Go.Sh.numR.eq_1) ∧ (type_of% @Go.Sh.numR.eq_2) ∧ (type_of% @Go.Sh.numR.eq_3) ∧ (type_of% @Go.Sh.ansW.eq_1) ∧ (type_of% @Go.Sh.ansW.eq_2) ∧ (type_of% @Go.Sh.resT.eq_1) ∧ (type_of% @Go.Sh.resT.eq_2) ∧ (type_of% @Go.Sh.SRes.get.eq_1) ∧ (type_of% @Go.Sh.SRes.get.eq_2) ∧ (type_of% @List.flatMap_nil.{0, 0}) ∧ (type_of% @List.flatMap_cons.{0, 0}) ∧ (type_of% @List.append_nil.{0}) ∧ (type_of% @List.nil_append.{0}) ∧ (type_of% @Go.Sh.TV.ids3.eq_1) ∧ (type_of% @Go.Sh.TV.ids3.eq_2) ∧ (type_of% @Go.Sh.TV.ids2.eq_1) ∧ (type_of% @Go.Sh.TV.ids2.eq_2) ∧ (type_of% @Go.Sh.TV.ids1.eq_1) ∧ (type_of% @Go.Sh.TV.ids1.eq_2) ∧ (type_of% @Go.Sh.TV.ids0.eq_1) ∧ (type_of% @Go.Sh.TV.ids0.eq_2) ∧ (type_of% @Go.Sh.TV.ids0.eq_3) ∧ (type_of% @Go.Sh.TV.ids0.eq_4) ∧ (type_of% @Go.Sh.TV.ren3.eq_1) ∧ (type_of% @Go.Sh.TV.ren3.eq_2) ∧ (type_of% @Go.Sh.TV.ren2.eq_1) ∧ (type_of% @Go.Sh.TV.ren2.eq_2) ∧ (type_of% @Go.Sh.TV.ren1.eq_1) ∧ (type_of% @Go.Sh.TV.ren1.eq_2) ∧ (type_of% @Go.Sh.TV.ren0.eq_1) ∧ (type_of% @Go.Sh.TV.ren0.eq_2) ∧ (type_of% @Go.Sh.TV.ren0.eq_3) ∧ (type_of% @Go.Sh.TV.ren0.eq_4) ∧ (type_of% @Go.Sh.TV.ren0.eq_5) ∧ (type_of% @Go.Sh.TV.ren0.eq_6) ∧ (type_of% @Go.Sh.bound.eq_1) ∧ (type_of% @Go.Sh.bound.eq_2) ∧ (type_of% @if_true.{1}) ∧ (type_of% @if_false.{1}) ∧ (type_of% @Bool.false_eq_true) ∧ (type_of% @Go.Sh.partsT.eq_1) ∧ (type_of% @Go.Sh.fillT.eq_1) ∧ (type_of% @Go.Sh.fillT.eq_2) ∧ (type_of% @Go.Sh.splice.eq_1) ∧ (type_of% @List.take_zero.{0}) ∧ (type_of% @List.take_succ_cons.{0}) ∧ (type_of% @List.drop_zero.{0}) ∧ (type_of% @List.drop_succ_cons.{0}) ∧ (type_of% @List.length_cons.{0}) ∧ (type_of% @List.length_nil.{0}) ∧ (type_of% @and_self) ∧ (type_of% @and_true) ∧ (type_of% @true_and) ∧ (type_of% @List.cons_append.{0}) ∧ (type_of% @List.getElem?_cons_zero.{0}) ∧ (type_of% @List.getElem?_cons_succ.{0}) ∧ (type_of% @Nat.zero_add) ∧ (type_of% @Bool.not_true) ∧ (type_of% @Bool.not_false) ∧ (type_of% @Go.Value.oneCell'.eq_1) ∧ (type_of% @Go.Value.oneCell'.eq_2) ∧ (type_of% @Go.Value.oneCell'.eq_3) ∧ (type_of% @Go.Mor.str_toList) ∧ (type_of% @Go.Mor.str_size') ∧ (type_of% @Int.toNat_natCast) ∧ (type_of% @decide_true) ∧ (type_of% @decide_false) ∧ (type_of% @beq_self_eq_true.{0}) ∧ (type_of% @Go.Sh.handI.eq_1) ∧ (type_of% @Go.Sh.FS.mo.eq_1) ∧ (type_of% @Go.Sh.MO.ren.eq_1) ∧ (type_of% @Go.Sh.MO.ren.eq_2) ∧ (type_of% @Go.Sh.rhoIn.eq_1) ∧ (type_of% @Go.Sh.pos.eq_1) ∧ (type_of% @Go.Sh.pos.eq_2) ∧ (type_of% @Go.Sh.rhoOut.eq_1) ∧ (type_of% @Go.Sh.outs.eq_1) ∧ (type_of% @Go.Sh.outs.eq_2) ∧ (type_of% @Go.Sh.newId.eq_1) ∧ (type_of% @Go.Sh.dstId.eq_1) ∧ (type_of% @Go.Sh.dstId.eq_2) ∧ (type_of% @Go.Sh.putMem.eq_1) ∧ (type_of% @Go.Sh.putMem.eq_2) ∧ (type_of% @List.lookup.eq_1.{0, 0}) ∧ (type_of% @List.lookup.eq_2.{0, 0}) ∧ (type_of% @Go.Sh.moOk.eq_1) ∧ (type_of% @Go.Sh.moOk.eq_2) ∧ (type_of% @Go.Sh.moOk.eq_3) ∧ (type_of% @Go.Sh.moOk.eq_4) ∧ (type_of% @Nat.le_refl) ∧ (type_of% @Int.natCast_nonneg) :=
  ⟨@Go.Proofs.YthjphllpkcnehaaGreatDoor.I.eq_1, @Go.Proofs.YthjphllpkcnehaaGreatDoor.S.eq_1, @Go.Sh.bFT, @Go.Sh.bTF, @Go.Sh.regE1.eq_1, @Go.Sh.runE.eq_1, @Go.Sh.runE.eq_2, @Go.Sh.ES.fgt.eq_1, @List.map_cons.{0, 0}, @List.map_nil.{0, 0}, @Go.Sh.fgt3.eq_1, @Go.Sh.TV.m3.eq_1, @Go.Sh.TV.m3.eq_2, @Go.Sh.TV.m2.eq_1, @Go.Sh.TV.m2.eq_2, @Go.Sh.TV.m1.eq_1, @Go.Sh.TV.m1.eq_2, @Go.Sh.TV.m0.eq_1, @Go.Sh.TV.m0.eq_2, @Go.Sh.TV.m0.eq_3, @Go.Sh.TV.m0.eq_4, @Go.Sh.TV.m0.eq_5, @Go.Sh.TV.m0.eq_6, @Go.Sh.TV.m0.eq_7, @List.any_cons.{0}, @List.any_nil.{0}, @Bool.or_false, @Bool.false_or, @Go.Sh.drp.eq_1, @Go.Sh.drp.eq_2, @Go.Sh.effG.eq_1, @Go.Sh.effF.eq_1, @Go.Sh.footOk.eq_1, @Go.Sh.SOp.foot.eq_1, @Go.Sh.SOp.foot.eq_2, @Go.Sh.SOp.foot.eq_3, @Go.Sh.eff.eq_1, @Go.Sh.eff.eq_2, @Go.Sh.eff.eq_3, @Go.Sh.eff.eq_4, @Go.Sh.eff.eq_5, @Go.Sh.eff.eq_6, @Go.Sh.eff.eq_7, @Go.Sh.eff.eq_8, @Go.Sh.eff.eq_9, @Go.Sh.eff.eq_10, @Go.Sh.eff.eq_11, @Go.Sh.eff.eq_12, @Go.Sh.eff.eq_13, @Go.Sh.eff.eq_14, @Go.Sh.eff.eq_15, @Go.Sh.eff.eq_16, @Go.Sh.eff.eq_17, @Go.Sh.eff.eq_18, @Go.Sh.eff.eq_19, @Go.Sh.eff.eq_20, @Go.Sh.eff.eq_21, @Go.Sh.eff.eq_22, @Go.Sh.eff.eq_23, @Go.Sh.eff.eq_24, @Go.Sh.eff.eq_25, @Go.Sh.eff.eq_26, @Go.Sh.eff.eq_27, @Go.Sh.eff.eq_28, @Go.Sh.eff.eq_29, @Go.Sh.eff.eq_30, @Go.Sh.eff.eq_31, @Go.Sh.eff.eq_32, @Go.Sh.eff.eq_33, @Go.Sh.eff.eq_34, @Go.Sh.eff.eq_35, @Go.Sh.eff.eq_36, @Go.Sh.eff.eq_37, @Go.Sh.eff.eq_38, @Go.Sh.eff.eq_39, @Go.Sh.eff.eq_40, @Go.Sh.Arg.get.eq_1, @Go.Sh.Arg.get.eq_2, @Go.Sh.ES.fs.eq_1, @Go.Sh.lk.eq_1, @Go.Sh.lk.eq_2, @Option.map_some.{0, 0}, @Option.bind_some.{0, 0}, @Go.Sh.ES.after.eq_1, @Go.Sh.ES.upd.eq_1, @Go.Sh.ES.upd.eq_2, @Go.Sh.ES.upd.eq_3, @Go.Sh.ES.upd.eq_4, @Go.Sh.ES.upd.eq_5, @Go.Sh.ES.upd.eq_6, @Go.Sh.ES.upd.eq_7, @Go.Sh.ES.put.eq_1, @Go.Sh.ES.put.eq_2, @Go.Sh.sv.eq_1, @Go.Sh.sv.eq_2, @Go.Sh.ES.kill.eq_1, @Go.Sh.ES.kill.eq_2, @Go.Sh.has.eq_1, @Go.Sh.has.eq_2, @Go.Sh.nbeq, @Go.Sh.nble, @Go.Sh.nblt, @Go.Sh.TV.val.eq_1, @Go.Sh.TV.val.eq_2, @Go.Sh.TV.val1.eq_1, @Go.Sh.TV.val1.eq_2, @Go.Sh.TV.int.eq_1, @Go.Sh.TV.int.eq_2, @Go.Sh.TV.str.eq_1, @Go.Sh.TV.str.eq_2, @Go.Sh.TV.cells.eq_1, @Go.Sh.TV.cells.eq_2, @Go.Sh.TV.cells.eq_3, @Go.Sh.TV.cells.eq_4, @Go.Sh.TV.cells.eq_5, @Go.Sh.TV.slen.eq_1, @Go.Sh.TV.slen.eq_2, @Go.Sh.TV.slen.eq_3, @Go.Sh.TV.slen.eq_4, @Go.Sh.TV.slen.eq_5, @Go.Sh.TV.toPV.eq_1, @Go.Sh.TV.toPV.eq_2, @Go.Sh.TV.toPV.eq_3, @Go.Sh.TV.pvs.eq_1, @Go.Sh.seqO.eq_1, @Go.Sh.seqO.eq_2, @Go.Sh.bin_lss, @Go.Sh.bin_gtr, @Go.Sh.bin_leq, @Go.Sh.bin_geq, @Go.Sh.bin_eql, @Go.Sh.bin_neq, @Go.Sh.bin_add, @Go.Sh.bin_sub, @Go.Sh.bin_mul, @Go.Sh.sbin_eql, @Go.Sh.sbin_neq, @Go.Sh.sbin_lss, @Go.Sh.sbin_gtr, @Go.Sh.un_neg, @Go.Sh.un_not, @Go.Sh.startE.eq_1, @Go.Sh.numT.eq_1, @Go.Sh.numT.eq_2, @Go.Sh.numB.eq_1, @Go.Sh.numB.eq_2, @Go.Sh.numB.eq_3, @Go.Sh.numR.eq_1, @Go.Sh.numR.eq_2, @Go.Sh.numR.eq_3, @Go.Sh.ansW.eq_1, @Go.Sh.ansW.eq_2, @Go.Sh.resT.eq_1, @Go.Sh.resT.eq_2, @Go.Sh.SRes.get.eq_1, @Go.Sh.SRes.get.eq_2, @List.flatMap_nil.{0, 0}, @List.flatMap_cons.{0, 0}, @List.append_nil.{0}, @List.nil_append.{0}, @Go.Sh.TV.ids3.eq_1, @Go.Sh.TV.ids3.eq_2, @Go.Sh.TV.ids2.eq_1, @Go.Sh.TV.ids2.eq_2, @Go.Sh.TV.ids1.eq_1, @Go.Sh.TV.ids1.eq_2, @Go.Sh.TV.ids0.eq_1, @Go.Sh.TV.ids0.eq_2, @Go.Sh.TV.ids0.eq_3, @Go.Sh.TV.ids0.eq_4, @Go.Sh.TV.ren3.eq_1, @Go.Sh.TV.ren3.eq_2, @Go.Sh.TV.ren2.eq_1, @Go.Sh.TV.ren2.eq_2, @Go.Sh.TV.ren1.eq_1, @Go.Sh.TV.ren1.eq_2, @Go.Sh.TV.ren0.eq_1, @Go.Sh.TV.ren0.eq_2, @Go.Sh.TV.ren0.eq_3, @Go.Sh.TV.ren0.eq_4, @Go.Sh.TV.ren0.eq_5, @Go.Sh.TV.ren0.eq_6, @Go.Sh.bound.eq_1, @Go.Sh.bound.eq_2, @if_true.{1}, @if_false.{1}, @Bool.false_eq_true, @Go.Sh.partsT.eq_1, @Go.Sh.fillT.eq_1, @Go.Sh.fillT.eq_2, @Go.Sh.splice.eq_1, @List.take_zero.{0}, @List.take_succ_cons.{0}, @List.drop_zero.{0}, @List.drop_succ_cons.{0}, @List.length_cons.{0}, @List.length_nil.{0}, @and_self, @and_true, @true_and, @List.cons_append.{0}, @List.getElem?_cons_zero.{0}, @List.getElem?_cons_succ.{0}, @Nat.zero_add, @Bool.not_true, @Bool.not_false, @Go.Value.oneCell'.eq_1, @Go.Value.oneCell'.eq_2, @Go.Value.oneCell'.eq_3, @Go.Mor.str_toList, @Go.Mor.str_size', @Int.toNat_natCast, @decide_true, @decide_false, @beq_self_eq_true.{0}, @Go.Sh.handI.eq_1, @Go.Sh.FS.mo.eq_1, @Go.Sh.MO.ren.eq_1, @Go.Sh.MO.ren.eq_2, @Go.Sh.rhoIn.eq_1, @Go.Sh.pos.eq_1, @Go.Sh.pos.eq_2, @Go.Sh.rhoOut.eq_1, @Go.Sh.outs.eq_1, @Go.Sh.outs.eq_2, @Go.Sh.newId.eq_1, @Go.Sh.dstId.eq_1, @Go.Sh.dstId.eq_2, @Go.Sh.putMem.eq_1, @Go.Sh.putMem.eq_2, @List.lookup.eq_1.{0, 0}, @List.lookup.eq_2.{0, 0}, @Go.Sh.moOk.eq_1, @Go.Sh.moOk.eq_2, @Go.Sh.moOk.eq_3, @Go.Sh.moOk.eq_4, @Nat.le_refl, @Int.natCast_nonneg⟩
def ordI (a b : Int) : Int := if a < b then -1 else if b < a then 1 else 0
theorem order_ok (g : Sh.Glob) (a b : Int) : SCalls Tryz.prog g 73 [I a, I b] [] (I (ordI a b)) [] := by
  refine call_of0 hmix tf_moraineref03_Order rfl ?_
  unfold ordI
  by_cases h1 : a < b
  · have d1 := decide_T h1
    repeat (first | (with_reducible apply w_unr) | (with_reducible apply w_assoc) | (with_reducible apply w_skip) | (with_reducible apply w_ret) | (with_reducible apply w_retE) | (with_reducible apply w_skipE) | (with_reducible apply w_exit) | (with_reducible apply w_exitE) | (with_reducible apply w_block) | (with_reducible apply w_blockE) | ((with_reducible apply w_reg); · simp only [shA, eff, Int.reduceEq, Int.reduceAdd, Int.reduceSub, Nat.reduceBEq, Nat.reduceEqDiff, reduceCtorEq, Nat.reduceAdd, Nat.reduceSub, Nat.reduceMul, Nat.reduceLeDiff, Int.reduceToNat, Int.reduceLT, Int.reduceLE, Int.reduceNeg, d1]; with_reducible rfl) | ((with_reducible apply w_regE); · simp only [shA, eff, Int.reduceEq, Int.reduceAdd, Int.reduceSub, Nat.reduceBEq, Nat.reduceEqDiff, reduceCtorEq, Nat.reduceAdd, Nat.reduceSub, Nat.reduceMul, Nat.reduceLeDiff, Int.reduceToNat, Int.reduceLT, Int.reduceLE, Int.reduceNeg, d1]; with_reducible rfl) | ((with_reducible apply w_condT); · simp only [shA, eff, Int.reduceEq, Int.reduceAdd, Int.reduceSub, Nat.reduceBEq, Nat.reduceEqDiff, reduceCtorEq, Nat.reduceAdd, Nat.reduceSub, Nat.reduceMul, Nat.reduceLeDiff, Int.reduceToNat, Int.reduceLT, Int.reduceLE, Int.reduceNeg, d1]) | ((with_reducible apply w_condF); · simp only [shA, eff, Int.reduceEq, Int.reduceAdd, Int.reduceSub, Nat.reduceBEq, Nat.reduceEqDiff, reduceCtorEq, Nat.reduceAdd, Nat.reduceSub, Nat.reduceMul, Nat.reduceLeDiff, Int.reduceToNat, Int.reduceLT, Int.reduceLE, Int.reduceNeg, d1]) | ((with_reducible apply w_condTE); · simp only [shA, eff, Int.reduceEq, Int.reduceAdd, Int.reduceSub, Nat.reduceBEq, Nat.reduceEqDiff, reduceCtorEq, Nat.reduceAdd, Nat.reduceSub, Nat.reduceMul, Nat.reduceLeDiff, Int.reduceToNat, Int.reduceLT, Int.reduceLE, Int.reduceNeg, d1]) | ((with_reducible apply w_condFE); · simp only [shA, eff, Int.reduceEq, Int.reduceAdd, Int.reduceSub, Nat.reduceBEq, Nat.reduceEqDiff, reduceCtorEq, Nat.reduceAdd, Nat.reduceSub, Nat.reduceMul, Nat.reduceLeDiff, Int.reduceToNat, Int.reduceLT, Int.reduceLE, Int.reduceNeg, d1]) | (with_reducible apply q_then) | (with_reducible apply q_blockN) | (with_reducible apply q_blockR) | (with_reducible apply q_thenR) | (with_reducible apply q_thenX) | (with_reducible apply q_blockX) | ((with_reducible apply q_blockY); · rfl))
    simp [Post0, ansW, resT, SRes.get, ES.fs, ES.kill, has, drp, seqO, nbeq, lk, I, S, TV.ids3, TV.ids2, TV.ids1, TV.ids0, TV.ren3, TV.ren2, TV.ren1, TV.ren0, F_moraineref03_Order, h1]
  · have d1 := decide_F h1
    by_cases h2 : b < a
    · have d2 := decide_T h2
      repeat (first | (with_reducible apply w_unr) | (with_reducible apply w_assoc) | (with_reducible apply w_skip) | (with_reducible apply w_ret) | (with_reducible apply w_retE) | (with_reducible apply w_skipE) | (with_reducible apply w_exit) | (with_reducible apply w_exitE) | (with_reducible apply w_block) | (with_reducible apply w_blockE) | ((with_reducible apply w_reg); · simp only [shA, eff, Int.reduceEq, Int.reduceAdd, Int.reduceSub, Nat.reduceBEq, Nat.reduceEqDiff, reduceCtorEq, Nat.reduceAdd, Nat.reduceSub, Nat.reduceMul, Nat.reduceLeDiff, Int.reduceToNat, Int.reduceLT, Int.reduceLE, Int.reduceNeg, d1, d2]; with_reducible rfl) | ((with_reducible apply w_regE); · simp only [shA, eff, Int.reduceEq, Int.reduceAdd, Int.reduceSub, Nat.reduceBEq, Nat.reduceEqDiff, reduceCtorEq, Nat.reduceAdd, Nat.reduceSub, Nat.reduceMul, Nat.reduceLeDiff, Int.reduceToNat, Int.reduceLT, Int.reduceLE, Int.reduceNeg, d1, d2]; with_reducible rfl) | ((with_reducible apply w_condT); · simp only [shA, eff, Int.reduceEq, Int.reduceAdd, Int.reduceSub, Nat.reduceBEq, Nat.reduceEqDiff, reduceCtorEq, Nat.reduceAdd, Nat.reduceSub, Nat.reduceMul, Nat.reduceLeDiff, Int.reduceToNat, Int.reduceLT, Int.reduceLE, Int.reduceNeg, d1, d2]) | ((with_reducible apply w_condF); · simp only [shA, eff, Int.reduceEq, Int.reduceAdd, Int.reduceSub, Nat.reduceBEq, Nat.reduceEqDiff, reduceCtorEq, Nat.reduceAdd, Nat.reduceSub, Nat.reduceMul, Nat.reduceLeDiff, Int.reduceToNat, Int.reduceLT, Int.reduceLE, Int.reduceNeg, d1, d2]) | ((with_reducible apply w_condTE); · simp only [shA, eff, Int.reduceEq, Int.reduceAdd, Int.reduceSub, Nat.reduceBEq, Nat.reduceEqDiff, reduceCtorEq, Nat.reduceAdd, Nat.reduceSub, Nat.reduceMul, Nat.reduceLeDiff, Int.reduceToNat, Int.reduceLT, Int.reduceLE, Int.reduceNeg, d1, d2]) | ((with_reducible apply w_condFE); · simp only [shA, eff, Int.reduceEq, Int.reduceAdd, Int.reduceSub, Nat.reduceBEq, Nat.reduceEqDiff, reduceCtorEq, Nat.reduceAdd, Nat.reduceSub, Nat.reduceMul, Nat.reduceLeDiff, Int.reduceToNat, Int.reduceLT, Int.reduceLE, Int.reduceNeg, d1, d2]) | (with_reducible apply q_then) | (with_reducible apply q_blockN) | (with_reducible apply q_blockR) | (with_reducible apply q_thenR) | (with_reducible apply q_thenX) | (with_reducible apply q_blockX) | ((with_reducible apply q_blockY); · rfl))
      simp [Post0, ansW, resT, SRes.get, ES.fs, ES.kill, has, drp, seqO, nbeq, lk, I, S, TV.ids3, TV.ids2, TV.ids1, TV.ids0, TV.ren3, TV.ren2, TV.ren1, TV.ren0, F_moraineref03_Order, h1, h2]
    · have d2 := decide_F h2
      repeat (first | (with_reducible apply w_unr) | (with_reducible apply w_assoc) | (with_reducible apply w_skip) | (with_reducible apply w_ret) | (with_reducible apply w_retE) | (with_reducible apply w_skipE) | (with_reducible apply w_exit) | (with_reducible apply w_exitE) | (with_reducible apply w_block) | (with_reducible apply w_blockE) | ((with_reducible apply w_reg); · simp only [shA, eff, Int.reduceEq, Int.reduceAdd, Int.reduceSub, Nat.reduceBEq, Nat.reduceEqDiff, reduceCtorEq, Nat.reduceAdd, Nat.reduceSub, Nat.reduceMul, Nat.reduceLeDiff, Int.reduceToNat, Int.reduceLT, Int.reduceLE, Int.reduceNeg, d1, d2]; with_reducible rfl) | ((with_reducible apply w_regE); · simp only [shA, eff, Int.reduceEq, Int.reduceAdd, Int.reduceSub, Nat.reduceBEq, Nat.reduceEqDiff, reduceCtorEq, Nat.reduceAdd, Nat.reduceSub, Nat.reduceMul, Nat.reduceLeDiff, Int.reduceToNat, Int.reduceLT, Int.reduceLE, Int.reduceNeg, d1, d2]; with_reducible rfl) | ((with_reducible apply w_condT); · simp only [shA, eff, Int.reduceEq, Int.reduceAdd, Int.reduceSub, Nat.reduceBEq, Nat.reduceEqDiff, reduceCtorEq, Nat.reduceAdd, Nat.reduceSub, Nat.reduceMul, Nat.reduceLeDiff, Int.reduceToNat, Int.reduceLT, Int.reduceLE, Int.reduceNeg, d1, d2]) | ((with_reducible apply w_condF); · simp only [shA, eff, Int.reduceEq, Int.reduceAdd, Int.reduceSub, Nat.reduceBEq, Nat.reduceEqDiff, reduceCtorEq, Nat.reduceAdd, Nat.reduceSub, Nat.reduceMul, Nat.reduceLeDiff, Int.reduceToNat, Int.reduceLT, Int.reduceLE, Int.reduceNeg, d1, d2]) | ((with_reducible apply w_condTE); · simp only [shA, eff, Int.reduceEq, Int.reduceAdd, Int.reduceSub, Nat.reduceBEq, Nat.reduceEqDiff, reduceCtorEq, Nat.reduceAdd, Nat.reduceSub, Nat.reduceMul, Nat.reduceLeDiff, Int.reduceToNat, Int.reduceLT, Int.reduceLE, Int.reduceNeg, d1, d2]) | ((with_reducible apply w_condFE); · simp only [shA, eff, Int.reduceEq, Int.reduceAdd, Int.reduceSub, Nat.reduceBEq, Nat.reduceEqDiff, reduceCtorEq, Nat.reduceAdd, Nat.reduceSub, Nat.reduceMul, Nat.reduceLeDiff, Int.reduceToNat, Int.reduceLT, Int.reduceLE, Int.reduceNeg, d1, d2]) | (with_reducible apply q_then) | (with_reducible apply q_blockN) | (with_reducible apply q_blockR) | (with_reducible apply q_thenR) | (with_reducible apply q_thenX) | (with_reducible apply q_blockX) | ((with_reducible apply q_blockY); · rfl))
      simp [Post0, ansW, resT, SRes.get, ES.fs, ES.kill, has, drp, seqO, nbeq, lk, I, S, TV.ids3, TV.ids2, TV.ids1, TV.ids0, TV.ren3, TV.ren2, TV.ren1, TV.ren0, F_moraineref03_Order, h1, h2]
/-- Which of n things a raw number speaks of. -/
def pickI (c n : Int) : Int := (if c < 0 then -(c + 1) else c).tmod n
theorem pick_ok (g : Sh.Glob) (c n : Int) (hc0 : -9223372036854775808 ≤ c) (hc1 : c ≤ 9223372036854775807) (hn : n ≠ 0) : SCalls Tryz.prog g 52 [I c, I n] [] (I (pickI c n)) [] := by
  refine call_of0 hmix tf_morainelaw03_pick rfl ?_
  have hr := fun (a : Int) => bin_rem Tryz.prog 3 .i64 a n hn
  unfold pickI
  by_cases h : c < 0
  · have d1 := decide_T h
    have w1 : IntKind.i64.wrap (c + 1) = c + 1 := wrap64 (by omega) (by omega)
    have w2 : IntKind.i64.wrap (0 - (c + 1)) = -(c + 1) := by rw [wrap64 (by omega) (by omega)]; omega
    repeat (first | (with_reducible apply w_unr) | (with_reducible apply w_assoc) | (with_reducible apply w_skip) | (with_reducible apply w_ret) | (with_reducible apply w_retE) | (with_reducible apply w_skipE) | (with_reducible apply w_exit) | (with_reducible apply w_exitE) | (with_reducible apply w_block) | (with_reducible apply w_blockE) | ((with_reducible apply w_reg); · simp only [shA, eff, Int.reduceEq, Int.reduceAdd, Int.reduceSub, Nat.reduceBEq, Nat.reduceEqDiff, reduceCtorEq, Nat.reduceAdd, Nat.reduceSub, Nat.reduceMul, Nat.reduceLeDiff, Int.reduceToNat, Int.reduceLT, Int.reduceLE, Int.reduceNeg, d1, hr, w1, w2]; with_reducible rfl) | ((with_reducible apply w_regE); · simp only [shA, eff, Int.reduceEq, Int.reduceAdd, Int.reduceSub, Nat.reduceBEq, Nat.reduceEqDiff, reduceCtorEq, Nat.reduceAdd, Nat.reduceSub, Nat.reduceMul, Nat.reduceLeDiff, Int.reduceToNat, Int.reduceLT, Int.reduceLE, Int.reduceNeg, d1, hr, w1, w2]; with_reducible rfl) | ((with_reducible apply w_condT); · simp only [shA, eff, Int.reduceEq, Int.reduceAdd, Int.reduceSub, Nat.reduceBEq, Nat.reduceEqDiff, reduceCtorEq, Nat.reduceAdd, Nat.reduceSub, Nat.reduceMul, Nat.reduceLeDiff, Int.reduceToNat, Int.reduceLT, Int.reduceLE, Int.reduceNeg, d1, hr, w1, w2]) | ((with_reducible apply w_condF); · simp only [shA, eff, Int.reduceEq, Int.reduceAdd, Int.reduceSub, Nat.reduceBEq, Nat.reduceEqDiff, reduceCtorEq, Nat.reduceAdd, Nat.reduceSub, Nat.reduceMul, Nat.reduceLeDiff, Int.reduceToNat, Int.reduceLT, Int.reduceLE, Int.reduceNeg, d1, hr, w1, w2]) | ((with_reducible apply w_condTE); · simp only [shA, eff, Int.reduceEq, Int.reduceAdd, Int.reduceSub, Nat.reduceBEq, Nat.reduceEqDiff, reduceCtorEq, Nat.reduceAdd, Nat.reduceSub, Nat.reduceMul, Nat.reduceLeDiff, Int.reduceToNat, Int.reduceLT, Int.reduceLE, Int.reduceNeg, d1, hr, w1, w2]) | ((with_reducible apply w_condFE); · simp only [shA, eff, Int.reduceEq, Int.reduceAdd, Int.reduceSub, Nat.reduceBEq, Nat.reduceEqDiff, reduceCtorEq, Nat.reduceAdd, Nat.reduceSub, Nat.reduceMul, Nat.reduceLeDiff, Int.reduceToNat, Int.reduceLT, Int.reduceLE, Int.reduceNeg, d1, hr, w1, w2]) | (with_reducible apply q_then) | (with_reducible apply q_blockN) | (with_reducible apply q_blockR) | (with_reducible apply q_thenR) | (with_reducible apply q_thenX) | (with_reducible apply q_blockX) | ((with_reducible apply q_blockY); · rfl))
    simp [Post0, ansW, resT, SRes.get, ES.fs, ES.kill, has, drp, seqO, nbeq, lk, I, S, TV.ids3, TV.ids2, TV.ids1, TV.ids0, TV.ren3, TV.ren2, TV.ren1, TV.ren0, F_morainelaw03_pick, h]
  · have d1 := decide_F h
    repeat (first | (with_reducible apply w_unr) | (with_reducible apply w_assoc) | (with_reducible apply w_skip) | (with_reducible apply w_ret) | (with_reducible apply w_retE) | (with_reducible apply w_skipE) | (with_reducible apply w_exit) | (with_reducible apply w_exitE) | (with_reducible apply w_block) | (with_reducible apply w_blockE) | ((with_reducible apply w_reg); · simp only [shA, eff, Int.reduceEq, Int.reduceAdd, Int.reduceSub, Nat.reduceBEq, Nat.reduceEqDiff, reduceCtorEq, Nat.reduceAdd, Nat.reduceSub, Nat.reduceMul, Nat.reduceLeDiff, Int.reduceToNat, Int.reduceLT, Int.reduceLE, Int.reduceNeg, d1, hr]; with_reducible rfl) | ((with_reducible apply w_regE); · simp only [shA, eff, Int.reduceEq, Int.reduceAdd, Int.reduceSub, Nat.reduceBEq, Nat.reduceEqDiff, reduceCtorEq, Nat.reduceAdd, Nat.reduceSub, Nat.reduceMul, Nat.reduceLeDiff, Int.reduceToNat, Int.reduceLT, Int.reduceLE, Int.reduceNeg, d1, hr]; with_reducible rfl) | ((with_reducible apply w_condT); · simp only [shA, eff, Int.reduceEq, Int.reduceAdd, Int.reduceSub, Nat.reduceBEq, Nat.reduceEqDiff, reduceCtorEq, Nat.reduceAdd, Nat.reduceSub, Nat.reduceMul, Nat.reduceLeDiff, Int.reduceToNat, Int.reduceLT, Int.reduceLE, Int.reduceNeg, d1, hr]) | ((with_reducible apply w_condF); · simp only [shA, eff, Int.reduceEq, Int.reduceAdd, Int.reduceSub, Nat.reduceBEq, Nat.reduceEqDiff, reduceCtorEq, Nat.reduceAdd, Nat.reduceSub, Nat.reduceMul, Nat.reduceLeDiff, Int.reduceToNat, Int.reduceLT, Int.reduceLE, Int.reduceNeg, d1, hr]) | ((with_reducible apply w_condTE); · simp only [shA, eff, Int.reduceEq, Int.reduceAdd, Int.reduceSub, Nat.reduceBEq, Nat.reduceEqDiff, reduceCtorEq, Nat.reduceAdd, Nat.reduceSub, Nat.reduceMul, Nat.reduceLeDiff, Int.reduceToNat, Int.reduceLT, Int.reduceLE, Int.reduceNeg, d1, hr]) | ((with_reducible apply w_condFE); · simp only [shA, eff, Int.reduceEq, Int.reduceAdd, Int.reduceSub, Nat.reduceBEq, Nat.reduceEqDiff, reduceCtorEq, Nat.reduceAdd, Nat.reduceSub, Nat.reduceMul, Nat.reduceLeDiff, Int.reduceToNat, Int.reduceLT, Int.reduceLE, Int.reduceNeg, d1, hr]) | (with_reducible apply q_then) | (with_reducible apply q_blockN) | (with_reducible apply q_blockR) | (with_reducible apply q_thenR) | (with_reducible apply q_thenX) | (with_reducible apply q_blockX) | ((with_reducible apply q_blockY); · rfl))
    simp [Post0, ansW, resT, SRes.get, ES.fs, ES.kill, has, drp, seqO, nbeq, lk, I, S, TV.ids3, TV.ids2, TV.ids1, TV.ids0, TV.ren3, TV.ren2, TV.ren1, TV.ren0, F_morainelaw03_pick, h]
end Go.Proofs.YthjphllpkcnehaaGreatDoor
end

section
/- The document's Sign (printed by a program). No statement of the program is proved here. -/
namespace Go.Proofs.YthjphllpkcnehaaGreatDoor
open Go Go.RowKit Go.Mor Go.Sh Go.Sh.Cd1
set_option maxRecDepth 100000
set_option maxHeartbeats 4000000
theorem u8_lt (b : UInt8) : b.toNat < 256 := b.toNat_lt
theorem wr3 : IntKind.i64.wrap 3 = 3 := rfl
theorem wr4 : IntKind.i64.wrap 4 = 4 := rfl
theorem wr5 : IntKind.i64.wrap 5 = 5 := rfl
theorem getD_some {l : List UInt8} {i : Nat} {b : UInt8} (h : l[i]? = some b) : l.getD i 0 = b := by rw [List.getD_eq_getElem?_getD, h]; rfl
theorem signL_eq {l : List UInt8} (h : 0 < l.length) : signL l = signN l.length (l.getD 0 0).toNat (l.getD 1 0).toNat (l.getD 2 0).toNat (l.getD 3 0).toNat := by
  unfold signL; rw [if_neg (by rintro rfl; simp at h)]
theorem at_ {l : List UInt8} {i : Nat} (h : i < l.length) : ∃ b, l[i]? = some b := ⟨_, List.getElem?_eq_getElem h⟩
theorem cvi8 (n : Nat) (h : n < 256) : IntKind.i64.wrap (n : Int) = (n : Int) := wrap64 (by omega) (by omega)
theorem v_unr {P : Program} {g : Sh.Glob} {a : SCode} {Q : SExit → ES → Prop} {k : Nat} {s : ES} : unrollW P g a Q (k + 1) s = swp P g a (thenW (unrollW P g a Q k) Q) s := rfl
theorem sg {a b : Int} (h : a = b) : some (TV.pv (PV.v (Value.int IntKind.i64 a))) = some (TV.pv (PV.v (Value.int IntKind.i64 b))) := by rw [h]
theorem sign_a (g : Sh.Glob) (l : List UInt8) (b0 : UInt8) (hl : 0 < l.length) (e0 : l[0]? = some b0) (hc : b0.toNat < 128) : SCalls Tryz.prog g 122 [S (str l)] [] (I (signN l.length b0.toNat (l.getD 1 0).toNat (l.getD 2 0).toNat (l.getD 3 0).toNat : Nat)) [] := by
  have hb := u8_lt b0
  have c0 := cvi8 b0.toNat hb
  have hl0 : ¬ (l.length : Int) = 0 := by omega
  have t0 : (b0.toNat : Int) < 128 := by omega
  have t1 : ¬ 194 ≤ (b0.toNat : Int) := by omega
  have t2 : (b0.toNat : Int) ≤ 223 := by omega
  have t3 : ¬ 224 ≤ (b0.toNat : Int) := by omega
  have t4 : (b0.toNat : Int) ≤ 239 := by omega
  have t5 : ¬ 240 ≤ (b0.toNat : Int) := by omega
  have t6 : (b0.toNat : Int) ≤ 244 := by omega
  have t7 : ¬ (b0.toNat : Int) = 224 := by omega
  have t8 : ¬ (b0.toNat : Int) = 237 := by omega
  have t9 : ¬ (b0.toNat : Int) = 240 := by omega
  have t10 : ¬ (b0.toNat : Int) = 244 := by omega
  refine call_of0 hmix tf_moraineref03_Sign rfl ?_
  simp only [vcA, seval, I, S, e0, c0, hl0, t0, t1, t2, t3, t4, t5, t6, t7, t8, t9, t10]
  exact sg (by unfold signN; (repeat' split) <;> omega)
theorem sign_b (g : Sh.Glob) (l : List UInt8) (b0 : UInt8) (hl : 0 < l.length) (e0 : l[0]? = some b0) (hc : 128 ≤ b0.toNat ∧ b0.toNat ≤ 193) : SCalls Tryz.prog g 122 [S (str l)] [] (I (signN l.length b0.toNat (l.getD 1 0).toNat (l.getD 2 0).toNat (l.getD 3 0).toNat : Nat)) [] := by
  have hb := u8_lt b0
  have c0 := cvi8 b0.toNat hb
  have hl0 : ¬ (l.length : Int) = 0 := by omega
  have t0 : ¬ (b0.toNat : Int) < 128 := by omega
  have t1 : ¬ 194 ≤ (b0.toNat : Int) := by omega
  have t2 : (b0.toNat : Int) ≤ 223 := by omega
  have t3 : ¬ 224 ≤ (b0.toNat : Int) := by omega
  have t4 : (b0.toNat : Int) ≤ 239 := by omega
  have t5 : ¬ 240 ≤ (b0.toNat : Int) := by omega
  have t6 : (b0.toNat : Int) ≤ 244 := by omega
  have t7 : ¬ (b0.toNat : Int) = 224 := by omega
  have t8 : ¬ (b0.toNat : Int) = 237 := by omega
  have t9 : ¬ (b0.toNat : Int) = 240 := by omega
  have t10 : ¬ (b0.toNat : Int) = 244 := by omega
  refine call_of0 hmix tf_moraineref03_Sign rfl ?_
  simp only [vcA, seval, I, S, e0, c0, hl0, t0, t1, t2, t3, t4, t5, t6, t7, t8, t9, t10]
  exact sg (by unfold signN; (repeat' split) <;> omega)
theorem sign_c (g : Sh.Glob) (l : List UInt8) (b0 : UInt8) (hl : 0 < l.length) (e0 : l[0]? = some b0) (hc : 194 ≤ b0.toNat ∧ b0.toNat ≤ 223) : SCalls Tryz.prog g 122 [S (str l)] [] (I (signN l.length b0.toNat (l.getD 1 0).toNat (l.getD 2 0).toNat (l.getD 3 0).toNat : Nat)) [] := by
  have hb := u8_lt b0
  have c0 := cvi8 b0.toNat hb
  have hl0 : ¬ (l.length : Int) = 0 := by omega
  have t0 : ¬ (b0.toNat : Int) < 128 := by omega
  have t1 : 194 ≤ (b0.toNat : Int) := by omega
  have t2 : (b0.toNat : Int) ≤ 223 := by omega
  have t3 : ¬ 224 ≤ (b0.toNat : Int) := by omega
  have t4 : (b0.toNat : Int) ≤ 239 := by omega
  have t5 : ¬ 240 ≤ (b0.toNat : Int) := by omega
  have t6 : (b0.toNat : Int) ≤ 244 := by omega
  have t7 : ¬ (b0.toNat : Int) = 224 := by omega
  have t8 : ¬ (b0.toNat : Int) = 237 := by omega
  have t9 : ¬ (b0.toNat : Int) = 240 := by omega
  have t10 : ¬ (b0.toNat : Int) = 244 := by omega
  refine call_of0 hmix tf_moraineref03_Sign rfl ?_
  by_cases hn : (l.length : Int) < 2
  · simp only [vcA, seval, I, S, e0, c0, hl0, hn, t0, t1, t2, t3, t4, t5, t6, t7, t8, t9, t10]
    exact sg (by unfold signN; (repeat' split) <;> omega)
  obtain ⟨b1, e1⟩ := at_ (l := l) (i := 1) (by omega)
  have hb1 := u8_lt b1
  have g1 := getD_some e1
  have c1 := cvi8 b1.toNat hb1
  rw [g1]
  simp only [vcA, seval, I, S, e0, c0, e1, c1, hl0, hn, t0, t1, t2, t3, t4, t5, t6, t7, t8, t9, t10]
  refine ⟨fun h1 => sg (by unfold signN; (repeat' split) <;> omega), fun h1 => ⟨fun h2 => sg (by unfold signN; (repeat' split) <;> omega), fun h2 => ?_⟩⟩
  refine w_unrollE 1 ?_
  simp only [vcA, seval, I, S, v_unr, e1, wr3, wr4, wr5]
  exact sg (by unfold signN; (repeat' split) <;> omega)
theorem sign_d (g : Sh.Glob) (l : List UInt8) (b0 : UInt8) (hl : 0 < l.length) (e0 : l[0]? = some b0) (hc : b0.toNat = 224) : SCalls Tryz.prog g 122 [S (str l)] [] (I (signN l.length b0.toNat (l.getD 1 0).toNat (l.getD 2 0).toNat (l.getD 3 0).toNat : Nat)) [] := by
  have hb := u8_lt b0
  have c0 := cvi8 b0.toNat hb
  have hl0 : ¬ (l.length : Int) = 0 := by omega

  refine call_of0 hmix tf_moraineref03_Sign rfl ?_
  have q0 : (b0.toNat : Int) = 224 := by omega
  have q1 : IntKind.i64.wrap 224 = 224 := rfl
  by_cases hn : (l.length : Int) < 3
  · simp only [vcA, seval, I, S, e0, c0, hl0, hn, q0, q1]
    exact sg (by unfold signN; (repeat' split) <;> omega)
  obtain ⟨b1, e1⟩ := at_ (l := l) (i := 1) (by omega)
  have hb1 := u8_lt b1
  have g1 := getD_some e1
  obtain ⟨b2, e2⟩ := at_ (l := l) (i := 2) (by omega)
  have hb2 := u8_lt b2
  have g2 := getD_some e2
  have c1 := cvi8 b1.toNat hb1
  rw [g1, g2]
  simp only [vcA, seval, I, S, e0, c0, e1, c1, hl0, hn, q0, q1]
  refine ⟨fun h1 => sg (by unfold signN; (repeat' split) <;> omega), fun h1 => ⟨fun h2 => sg (by unfold signN; (repeat' split) <;> omega), fun h2 => ?_⟩⟩
  refine w_unrollE 2 ?_
  simp only [vcA, seval, I, S, v_unr, e1, e2, wr3, wr4, wr5]
  repeat' (first | (apply And.intro) | (intro _))
  all_goals exact sg (by unfold signN; (repeat' split) <;> omega)
theorem sign_e (g : Sh.Glob) (l : List UInt8) (b0 : UInt8) (hl : 0 < l.length) (e0 : l[0]? = some b0) (hc : 225 ≤ b0.toNat ∧ b0.toNat ≤ 239 ∧ b0.toNat ≠ 237) : SCalls Tryz.prog g 122 [S (str l)] [] (I (signN l.length b0.toNat (l.getD 1 0).toNat (l.getD 2 0).toNat (l.getD 3 0).toNat : Nat)) [] := by
  have hb := u8_lt b0
  have c0 := cvi8 b0.toNat hb
  have hl0 : ¬ (l.length : Int) = 0 := by omega
  have t0 : ¬ (b0.toNat : Int) < 128 := by omega
  have t1 : 194 ≤ (b0.toNat : Int) := by omega
  have t2 : ¬ (b0.toNat : Int) ≤ 223 := by omega
  have t3 : 224 ≤ (b0.toNat : Int) := by omega
  have t4 : (b0.toNat : Int) ≤ 239 := by omega
  have t5 : ¬ 240 ≤ (b0.toNat : Int) := by omega
  have t6 : (b0.toNat : Int) ≤ 244 := by omega
  have t7 : ¬ (b0.toNat : Int) = 224 := by omega
  have t8 : ¬ (b0.toNat : Int) = 237 := by omega
  have t9 : ¬ (b0.toNat : Int) = 240 := by omega
  have t10 : ¬ (b0.toNat : Int) = 244 := by omega
  refine call_of0 hmix tf_moraineref03_Sign rfl ?_
  by_cases hn : (l.length : Int) < 3
  · simp only [vcA, seval, I, S, e0, c0, hl0, hn, t0, t1, t2, t3, t4, t5, t6, t7, t8, t9, t10]
    exact sg (by unfold signN; (repeat' split) <;> omega)
  obtain ⟨b1, e1⟩ := at_ (l := l) (i := 1) (by omega)
  have hb1 := u8_lt b1
  have g1 := getD_some e1
  obtain ⟨b2, e2⟩ := at_ (l := l) (i := 2) (by omega)
  have hb2 := u8_lt b2
  have g2 := getD_some e2
  have c1 := cvi8 b1.toNat hb1
  rw [g1, g2]
  simp only [vcA, seval, I, S, e0, c0, e1, c1, hl0, hn, t0, t1, t2, t3, t4, t5, t6, t7, t8, t9, t10]
  refine ⟨fun h1 => sg (by unfold signN; (repeat' split) <;> omega), fun h1 => ⟨fun h2 => sg (by unfold signN; (repeat' split) <;> omega), fun h2 => ?_⟩⟩
  refine w_unrollE 2 ?_
  simp only [vcA, seval, I, S, v_unr, e1, e2, wr3, wr4, wr5]
  repeat' (first | (apply And.intro) | (intro _))
  all_goals exact sg (by unfold signN; (repeat' split) <;> omega)
theorem sign_f (g : Sh.Glob) (l : List UInt8) (b0 : UInt8) (hl : 0 < l.length) (e0 : l[0]? = some b0) (hc : b0.toNat = 237) : SCalls Tryz.prog g 122 [S (str l)] [] (I (signN l.length b0.toNat (l.getD 1 0).toNat (l.getD 2 0).toNat (l.getD 3 0).toNat : Nat)) [] := by
  have hb := u8_lt b0
  have c0 := cvi8 b0.toNat hb
  have hl0 : ¬ (l.length : Int) = 0 := by omega

  refine call_of0 hmix tf_moraineref03_Sign rfl ?_
  have q0 : (b0.toNat : Int) = 237 := by omega
  have q1 : IntKind.i64.wrap 237 = 237 := rfl
  by_cases hn : (l.length : Int) < 3
  · simp only [vcA, seval, I, S, e0, c0, hl0, hn, q0, q1]
    exact sg (by unfold signN; (repeat' split) <;> omega)
  obtain ⟨b1, e1⟩ := at_ (l := l) (i := 1) (by omega)
  have hb1 := u8_lt b1
  have g1 := getD_some e1
  obtain ⟨b2, e2⟩ := at_ (l := l) (i := 2) (by omega)
  have hb2 := u8_lt b2
  have g2 := getD_some e2
  have c1 := cvi8 b1.toNat hb1
  rw [g1, g2]
  simp only [vcA, seval, I, S, e0, c0, e1, c1, hl0, hn, q0, q1]
  refine ⟨fun h1 => sg (by unfold signN; (repeat' split) <;> omega), fun h1 => ⟨fun h2 => sg (by unfold signN; (repeat' split) <;> omega), fun h2 => ?_⟩⟩
  refine w_unrollE 2 ?_
  simp only [vcA, seval, I, S, v_unr, e1, e2, wr3, wr4, wr5]
  repeat' (first | (apply And.intro) | (intro _))
  all_goals exact sg (by unfold signN; (repeat' split) <;> omega)
theorem sign_g (g : Sh.Glob) (l : List UInt8) (b0 : UInt8) (hl : 0 < l.length) (e0 : l[0]? = some b0) (hc : b0.toNat = 240) : SCalls Tryz.prog g 122 [S (str l)] [] (I (signN l.length b0.toNat (l.getD 1 0).toNat (l.getD 2 0).toNat (l.getD 3 0).toNat : Nat)) [] := by
  have hb := u8_lt b0
  have c0 := cvi8 b0.toNat hb
  have hl0 : ¬ (l.length : Int) = 0 := by omega

  refine call_of0 hmix tf_moraineref03_Sign rfl ?_
  have q0 : (b0.toNat : Int) = 240 := by omega
  have q1 : IntKind.i64.wrap 240 = 240 := rfl
  by_cases hn : (l.length : Int) < 4
  · simp only [vcA, seval, I, S, e0, c0, hl0, hn, q0, q1]
    exact sg (by unfold signN; (repeat' split) <;> omega)
  obtain ⟨b1, e1⟩ := at_ (l := l) (i := 1) (by omega)
  have hb1 := u8_lt b1
  have g1 := getD_some e1
  obtain ⟨b2, e2⟩ := at_ (l := l) (i := 2) (by omega)
  have hb2 := u8_lt b2
  have g2 := getD_some e2
  obtain ⟨b3, e3⟩ := at_ (l := l) (i := 3) (by omega)
  have hb3 := u8_lt b3
  have g3 := getD_some e3
  have c1 := cvi8 b1.toNat hb1
  rw [g1, g2, g3]
  simp only [vcA, seval, I, S, e0, c0, e1, c1, hl0, hn, q0, q1]
  refine ⟨fun h1 => sg (by unfold signN; (repeat' split) <;> omega), fun h1 => ⟨fun h2 => sg (by unfold signN; (repeat' split) <;> omega), fun h2 => ?_⟩⟩
  refine w_unrollE 3 ?_
  simp only [vcA, seval, I, S, v_unr, e1, e2, e3, wr3, wr4, wr5]
  repeat' (first | (apply And.intro) | (intro _))
  all_goals exact sg (by unfold signN; (repeat' split) <;> omega)
theorem sign_h (g : Sh.Glob) (l : List UInt8) (b0 : UInt8) (hl : 0 < l.length) (e0 : l[0]? = some b0) (hc : 241 ≤ b0.toNat ∧ b0.toNat ≤ 243) : SCalls Tryz.prog g 122 [S (str l)] [] (I (signN l.length b0.toNat (l.getD 1 0).toNat (l.getD 2 0).toNat (l.getD 3 0).toNat : Nat)) [] := by
  have hb := u8_lt b0
  have c0 := cvi8 b0.toNat hb
  have hl0 : ¬ (l.length : Int) = 0 := by omega
  have t0 : ¬ (b0.toNat : Int) < 128 := by omega
  have t1 : 194 ≤ (b0.toNat : Int) := by omega
  have t2 : ¬ (b0.toNat : Int) ≤ 223 := by omega
  have t3 : 224 ≤ (b0.toNat : Int) := by omega
  have t4 : ¬ (b0.toNat : Int) ≤ 239 := by omega
  have t5 : 240 ≤ (b0.toNat : Int) := by omega
  have t6 : (b0.toNat : Int) ≤ 244 := by omega
  have t7 : ¬ (b0.toNat : Int) = 224 := by omega
  have t8 : ¬ (b0.toNat : Int) = 237 := by omega
  have t9 : ¬ (b0.toNat : Int) = 240 := by omega
  have t10 : ¬ (b0.toNat : Int) = 244 := by omega
  refine call_of0 hmix tf_moraineref03_Sign rfl ?_
  by_cases hn : (l.length : Int) < 4
  · simp only [vcA, seval, I, S, e0, c0, hl0, hn, t0, t1, t2, t3, t4, t5, t6, t7, t8, t9, t10]
    exact sg (by unfold signN; (repeat' split) <;> omega)
  obtain ⟨b1, e1⟩ := at_ (l := l) (i := 1) (by omega)
  have hb1 := u8_lt b1
  have g1 := getD_some e1
  obtain ⟨b2, e2⟩ := at_ (l := l) (i := 2) (by omega)
  have hb2 := u8_lt b2
  have g2 := getD_some e2
  obtain ⟨b3, e3⟩ := at_ (l := l) (i := 3) (by omega)
  have hb3 := u8_lt b3
  have g3 := getD_some e3
  have c1 := cvi8 b1.toNat hb1
  rw [g1, g2, g3]
  simp only [vcA, seval, I, S, e0, c0, e1, c1, hl0, hn, t0, t1, t2, t3, t4, t5, t6, t7, t8, t9, t10]
  refine ⟨fun h1 => sg (by unfold signN; (repeat' split) <;> omega), fun h1 => ⟨fun h2 => sg (by unfold signN; (repeat' split) <;> omega), fun h2 => ?_⟩⟩
  refine w_unrollE 3 ?_
  simp only [vcA, seval, I, S, v_unr, e1, e2, e3, wr3, wr4, wr5]
  repeat' (first | (apply And.intro) | (intro _))
  all_goals exact sg (by unfold signN; (repeat' split) <;> omega)
theorem sign_i (g : Sh.Glob) (l : List UInt8) (b0 : UInt8) (hl : 0 < l.length) (e0 : l[0]? = some b0) (hc : b0.toNat = 244) : SCalls Tryz.prog g 122 [S (str l)] [] (I (signN l.length b0.toNat (l.getD 1 0).toNat (l.getD 2 0).toNat (l.getD 3 0).toNat : Nat)) [] := by
  have hb := u8_lt b0
  have c0 := cvi8 b0.toNat hb
  have hl0 : ¬ (l.length : Int) = 0 := by omega

  refine call_of0 hmix tf_moraineref03_Sign rfl ?_
  have q0 : (b0.toNat : Int) = 244 := by omega
  have q1 : IntKind.i64.wrap 244 = 244 := rfl
  by_cases hn : (l.length : Int) < 4
  · simp only [vcA, seval, I, S, e0, c0, hl0, hn, q0, q1]
    exact sg (by unfold signN; (repeat' split) <;> omega)
  obtain ⟨b1, e1⟩ := at_ (l := l) (i := 1) (by omega)
  have hb1 := u8_lt b1
  have g1 := getD_some e1
  obtain ⟨b2, e2⟩ := at_ (l := l) (i := 2) (by omega)
  have hb2 := u8_lt b2
  have g2 := getD_some e2
  obtain ⟨b3, e3⟩ := at_ (l := l) (i := 3) (by omega)
  have hb3 := u8_lt b3
  have g3 := getD_some e3
  have c1 := cvi8 b1.toNat hb1
  rw [g1, g2, g3]
  simp only [vcA, seval, I, S, e0, c0, e1, c1, hl0, hn, q0, q1]
  refine ⟨fun h1 => sg (by unfold signN; (repeat' split) <;> omega), fun h1 => ⟨fun h2 => sg (by unfold signN; (repeat' split) <;> omega), fun h2 => ?_⟩⟩
  refine w_unrollE 3 ?_
  simp only [vcA, seval, I, S, v_unr, e1, e2, e3, wr3, wr4, wr5]
  repeat' (first | (apply And.intro) | (intro _))
  all_goals exact sg (by unfold signN; (repeat' split) <;> omega)
theorem sign_j (g : Sh.Glob) (l : List UInt8) (b0 : UInt8) (hl : 0 < l.length) (e0 : l[0]? = some b0) (hc : 245 ≤ b0.toNat) : SCalls Tryz.prog g 122 [S (str l)] [] (I (signN l.length b0.toNat (l.getD 1 0).toNat (l.getD 2 0).toNat (l.getD 3 0).toNat : Nat)) [] := by
  have hb := u8_lt b0
  have c0 := cvi8 b0.toNat hb
  have hl0 : ¬ (l.length : Int) = 0 := by omega
  have t0 : ¬ (b0.toNat : Int) < 128 := by omega
  have t1 : 194 ≤ (b0.toNat : Int) := by omega
  have t2 : ¬ (b0.toNat : Int) ≤ 223 := by omega
  have t3 : 224 ≤ (b0.toNat : Int) := by omega
  have t4 : ¬ (b0.toNat : Int) ≤ 239 := by omega
  have t5 : 240 ≤ (b0.toNat : Int) := by omega
  have t6 : ¬ (b0.toNat : Int) ≤ 244 := by omega
  have t7 : ¬ (b0.toNat : Int) = 224 := by omega
  have t8 : ¬ (b0.toNat : Int) = 237 := by omega
  have t9 : ¬ (b0.toNat : Int) = 240 := by omega
  have t10 : ¬ (b0.toNat : Int) = 244 := by omega
  refine call_of0 hmix tf_moraineref03_Sign rfl ?_
  simp only [vcA, seval, I, S, e0, c0, hl0, t0, t1, t2, t3, t4, t5, t6, t7, t8, t9, t10]
  exact sg (by unfold signN; (repeat' split) <;> omega)
theorem sign_ok (g : Sh.Glob) (l : List UInt8) : SCalls Tryz.prog g 122 [S (str l)] [] (I (signL l)) [] := by
  by_cases h0 : l.length = 0
  · have : l = [] := List.eq_nil_of_length_eq_zero h0
    subst this
    refine call_of0 hmix tf_moraineref03_Sign rfl ?_
    simp only [vcA, seval, I, S, Int.natCast_zero, List.length_nil]
    rfl
  have hl : 0 < l.length := by omega
  obtain ⟨b0, e0⟩ := at_ hl
  rw [signL_eq hl, getD_some e0]
  have hb := u8_lt b0
  by_cases c0 : b0.toNat < 128
  · exact sign_a g l b0 hl e0 c0
  by_cases c1 : 128 ≤ b0.toNat ∧ b0.toNat ≤ 193
  · exact sign_b g l b0 hl e0 c1
  by_cases c2 : 194 ≤ b0.toNat ∧ b0.toNat ≤ 223
  · exact sign_c g l b0 hl e0 c2
  by_cases c3 : b0.toNat = 224
  · exact sign_d g l b0 hl e0 c3
  by_cases c4 : 225 ≤ b0.toNat ∧ b0.toNat ≤ 239 ∧ b0.toNat ≠ 237
  · exact sign_e g l b0 hl e0 c4
  by_cases c5 : b0.toNat = 237
  · exact sign_f g l b0 hl e0 c5
  by_cases c6 : b0.toNat = 240
  · exact sign_g g l b0 hl e0 c6
  by_cases c7 : 241 ≤ b0.toNat ∧ b0.toNat ≤ 243
  · exact sign_h g l b0 hl e0 c7
  by_cases c8 : b0.toNat = 244
  · exact sign_i g l b0 hl e0 c8
  exact sign_j g l b0 hl e0 (by omega)
end Go.Proofs.YthjphllpkcnehaaGreatDoor
end

section
/- The document's IsText. No statement of the program is proved here. -/
namespace Go.Proofs.YthjphllpkcnehaaGreatDoor
open Go Go.RowKit Go.Mor Go.Sh Go.Sh.Cd1
set_option maxRecDepth 100000
set_option maxHeartbeats 8000000
/-- A text, by the document's signs: n signs at the most. -/
def isTextN : Nat → List UInt8 → Bool
  | 0, _ => true
  | n + 1, l => match l with
    | [] => true
    | b :: r => !(signL (b :: r) == 0) && !decide (b.toNat < 32) && !(b.toNat == 127) && isTextN n ((b :: r).drop (signL (b :: r)))
def isText (l : List UInt8) : Bool := isTextN l.length l
theorem isTextN_more : ∀ (n : Nat) (l : List UInt8), l.length ≤ n → isTextN n l = isText l := by
  intro n
  induction n using Nat.strongRecOn with
  | _ n ih =>
    intro l hl
    unfold isText
    cases l with
    | nil => cases n <;> rfl
    | cons b r =>
      obtain ⟨m, rfl⟩ : ∃ m, n = m + 1 := ⟨n - 1, by simp at hl; omega⟩
      simp only [isTextN, List.length_cons]
      by_cases h0 : signL (b :: r) = 0
      · simp [h0]
      · have h1 : ((b :: r).drop (signL (b :: r))).length ≤ r.length := by simp; omega
        simp at hl
        rw [ih m (by omega) _ (by omega)]
        by_cases he : r.length = m
        · subst he; rw [ih r.length (by omega) _ h1]
        · rw [ih r.length (by omega) _ h1]
theorem isText_cons (b : UInt8) (r : List UInt8) : isText (b :: r) = (!(signL (b :: r) == 0) && !decide (b.toNat < 32) && !(b.toNat == 127) && isText ((b :: r).drop (signL (b :: r)))) := by
  conv => lhs; unfold isText
  simp only [isTextN, List.length_cons]
  by_cases h0 : signL (b :: r) = 0
  · simp [h0]
  · rw [isTextN_more r.length _ (by simp; omega)]
theorem signL_le (l : List UInt8) : signL l ≤ l.length ∧ signL l ≤ 4 := by
  unfold signL
  cases l with
  | nil => simp
  | cons b r =>
    rw [if_neg (by simp)]
    unfold signN
    simp only [List.length_cons]
    repeat' split
    all_goals omega
theorem str_drop (l : List UInt8) (a : Nat) : (str l).extract a l.length = str (l.drop a) := by
  rw [str_extract, List.take_of_length_le (by simp)]
theorem isText_ok (g : Sh.Glob) (l : List UInt8) (hl : l.length ≤ 9223372036854775807) : SCalls Tryz.prog g 68 [S (str l)] [] (.pv (.v (.bool (isText l)))) [] := by
  refine call_of0 hmix tf_moraineref03_IsText rfl ?_
  repeat (first | (with_reducible apply w_unr) | (with_reducible apply w_assoc) | (with_reducible apply w_skip) | (with_reducible apply w_ret) | (with_reducible apply w_retE) | (with_reducible apply w_skipE) | (with_reducible apply w_exit) | (with_reducible apply w_exitE) | (with_reducible apply w_block) | (with_reducible apply w_blockE) | ((with_reducible apply w_reg); · simp only [shA, eff, Int.reduceEq, Int.reduceAdd, Int.reduceSub, Nat.reduceBEq, Nat.reduceEqDiff, reduceCtorEq, Nat.reduceAdd, Nat.reduceSub, Nat.reduceMul, Nat.reduceLeDiff, Int.reduceToNat, Int.reduceLT, Int.reduceLE, Int.reduceNeg]; with_reducible rfl) | ((with_reducible apply w_regE); · simp only [shA, eff, Int.reduceEq, Int.reduceAdd, Int.reduceSub, Nat.reduceBEq, Nat.reduceEqDiff, reduceCtorEq, Nat.reduceAdd, Nat.reduceSub, Nat.reduceMul, Nat.reduceLeDiff, Int.reduceToNat, Int.reduceLT, Int.reduceLE, Int.reduceNeg]; with_reducible rfl) | ((with_reducible apply w_condT); · simp only [shA, eff, Int.reduceEq, Int.reduceAdd, Int.reduceSub, Nat.reduceBEq, Nat.reduceEqDiff, reduceCtorEq, Nat.reduceAdd, Nat.reduceSub, Nat.reduceMul, Nat.reduceLeDiff, Int.reduceToNat, Int.reduceLT, Int.reduceLE, Int.reduceNeg]) | ((with_reducible apply w_condF); · simp only [shA, eff, Int.reduceEq, Int.reduceAdd, Int.reduceSub, Nat.reduceBEq, Nat.reduceEqDiff, reduceCtorEq, Nat.reduceAdd, Nat.reduceSub, Nat.reduceMul, Nat.reduceLeDiff, Int.reduceToNat, Int.reduceLT, Int.reduceLE, Int.reduceNeg]) | ((with_reducible apply w_condTE); · simp only [shA, eff, Int.reduceEq, Int.reduceAdd, Int.reduceSub, Nat.reduceBEq, Nat.reduceEqDiff, reduceCtorEq, Nat.reduceAdd, Nat.reduceSub, Nat.reduceMul, Nat.reduceLeDiff, Int.reduceToNat, Int.reduceLT, Int.reduceLE, Int.reduceNeg]) | ((with_reducible apply w_condFE); · simp only [shA, eff, Int.reduceEq, Int.reduceAdd, Int.reduceSub, Nat.reduceBEq, Nat.reduceEqDiff, reduceCtorEq, Nat.reduceAdd, Nat.reduceSub, Nat.reduceMul, Nat.reduceLeDiff, Int.reduceToNat, Int.reduceLT, Int.reduceLE, Int.reduceNeg]) | (with_reducible apply q_then) | (with_reducible apply q_blockN) | (with_reducible apply q_blockR) | (with_reducible apply q_thenR) | (with_reducible apply q_thenX) | (with_reducible apply q_blockX) | ((with_reducible apply q_blockY); · rfl))
  refine w_loopE (σ := { i : Nat // i ≤ l.length ∧ isText l = isText (l.drop i) }) (fun i => ⟨[(0, S (str l)), (3, I (i.1 : Int))], [], [], []⟩) (fun i => l.length - i.1) ⟨0, Nat.zero_le _, rfl⟩ (by apply le_of <;> simp [leL, lk, Nat.beq, I, S]) ?_
  rintro ⟨i, hi, hT⟩
  by_cases hlt : i < l.length
  · have d1 := decide_T (p := ((i : Int) < (l.length : Int))) (by omega)
    have hd := str_drop l i
    obtain ⟨b, eb⟩ := at_ hlt
    have hcons : l.drop i = b :: l.drop (i + 1) := by
      rw [List.drop_eq_getElem_cons hlt]; congr 1
      rw [List.getElem?_eq_getElem hlt] at eb; exact Option.some.inj eb
    have hs := signL_le (l.drop i)
    have hb := isText_cons b (l.drop (i + 1))
    rw [← hcons, ← hT] at hb
    simp only [List.length_drop] at hs
    repeat (first | (with_reducible apply w_unr) | (with_reducible apply w_assoc) | (with_reducible apply w_skip) | (with_reducible apply w_ret) | (with_reducible apply w_retE) | (with_reducible apply w_skipE) | (with_reducible apply w_exit) | (with_reducible apply w_exitE) | (with_reducible apply w_block) | (with_reducible apply w_blockE) | ((with_reducible apply w_reg); · simp only [shA, eff, Int.reduceEq, Int.reduceAdd, Int.reduceSub, Nat.reduceBEq, Nat.reduceEqDiff, reduceCtorEq, Nat.reduceAdd, Nat.reduceSub, Nat.reduceMul, Nat.reduceLeDiff, Int.reduceToNat, Int.reduceLT, Int.reduceLE, Int.reduceNeg, d1]; with_reducible rfl) | ((with_reducible apply w_regE); · simp only [shA, eff, Int.reduceEq, Int.reduceAdd, Int.reduceSub, Nat.reduceBEq, Nat.reduceEqDiff, reduceCtorEq, Nat.reduceAdd, Nat.reduceSub, Nat.reduceMul, Nat.reduceLeDiff, Int.reduceToNat, Int.reduceLT, Int.reduceLE, Int.reduceNeg, d1]; with_reducible rfl) | ((with_reducible apply w_condT); · simp only [shA, eff, Int.reduceEq, Int.reduceAdd, Int.reduceSub, Nat.reduceBEq, Nat.reduceEqDiff, reduceCtorEq, Nat.reduceAdd, Nat.reduceSub, Nat.reduceMul, Nat.reduceLeDiff, Int.reduceToNat, Int.reduceLT, Int.reduceLE, Int.reduceNeg, d1]) | ((with_reducible apply w_condF); · simp only [shA, eff, Int.reduceEq, Int.reduceAdd, Int.reduceSub, Nat.reduceBEq, Nat.reduceEqDiff, reduceCtorEq, Nat.reduceAdd, Nat.reduceSub, Nat.reduceMul, Nat.reduceLeDiff, Int.reduceToNat, Int.reduceLT, Int.reduceLE, Int.reduceNeg, d1]) | ((with_reducible apply w_condTE); · simp only [shA, eff, Int.reduceEq, Int.reduceAdd, Int.reduceSub, Nat.reduceBEq, Nat.reduceEqDiff, reduceCtorEq, Nat.reduceAdd, Nat.reduceSub, Nat.reduceMul, Nat.reduceLeDiff, Int.reduceToNat, Int.reduceLT, Int.reduceLE, Int.reduceNeg, d1]) | ((with_reducible apply w_condFE); · simp only [shA, eff, Int.reduceEq, Int.reduceAdd, Int.reduceSub, Nat.reduceBEq, Nat.reduceEqDiff, reduceCtorEq, Nat.reduceAdd, Nat.reduceSub, Nat.reduceMul, Nat.reduceLeDiff, Int.reduceToNat, Int.reduceLT, Int.reduceLE, Int.reduceNeg, d1]) | (with_reducible apply q_then) | (with_reducible apply q_blockN) | (with_reducible apply q_blockR) | (with_reducible apply q_thenR) | (with_reducible apply q_thenX) | (with_reducible apply q_blockX) | ((with_reducible apply q_blockY); · rfl))
    (first | (with_reducible apply w_ops) | (with_reducible apply w_opsE))
    repeat ((with_reducible apply w_op); (· rfl); (· simp only [shA, eff, Int.reduceEq, Int.reduceAdd, Int.reduceSub, Nat.reduceBEq, Nat.reduceEqDiff, reduceCtorEq, Nat.reduceAdd, Nat.reduceSub, Nat.reduceMul, Nat.reduceLeDiff, Int.reduceToNat, Int.reduceLT, Int.reduceLE, Int.reduceNeg, hi, hd, and_true]; with_reducible rfl); (· simp only [shA, eff, Int.reduceEq, Int.reduceAdd, Int.reduceSub, Nat.reduceBEq, Nat.reduceEqDiff, reduceCtorEq, Nat.reduceAdd, Nat.reduceSub, Nat.reduceMul, Nat.reduceLeDiff, Int.reduceToNat, Int.reduceLT, Int.reduceLE, Int.reduceNeg, hi, hd, and_true]; with_reducible rfl))
    (with_reducible apply w_call); (· simp only [shA, eff, Int.reduceEq, Int.reduceAdd, Int.reduceSub, Nat.reduceBEq, Nat.reduceEqDiff, reduceCtorEq, Nat.reduceAdd, Nat.reduceSub, Nat.reduceMul, Nat.reduceLeDiff, Int.reduceToNat, Int.reduceLT, Int.reduceLE, Int.reduceNeg, hi, hd]; with_reducible rfl); (· simp only [shA, eff, Int.reduceEq, Int.reduceAdd, Int.reduceSub, Nat.reduceBEq, Nat.reduceEqDiff, reduceCtorEq, Nat.reduceAdd, Nat.reduceSub, Nat.reduceMul, Nat.reduceLeDiff, Int.reduceToNat, Int.reduceLT, Int.reduceLE, Int.reduceNeg, hi, hd]; with_reducible rfl); (· simp only [shA, eff, Int.reduceEq, Int.reduceAdd, Int.reduceSub, Nat.reduceBEq, Nat.reduceEqDiff, reduceCtorEq, Nat.reduceAdd, Nat.reduceSub, Nat.reduceMul, Nat.reduceLeDiff, Int.reduceToNat, Int.reduceLT, Int.reduceLE, Int.reduceNeg, hi, hd]; with_reducible rfl); (· simp only [shA, eff, Int.reduceEq, Int.reduceAdd, Int.reduceSub, Nat.reduceBEq, Nat.reduceEqDiff, reduceCtorEq, Nat.reduceAdd, Nat.reduceSub, Nat.reduceMul, Nat.reduceLeDiff, Int.reduceToNat, Int.reduceLT, Int.reduceLE, Int.reduceNeg, hi, hd]; with_reducible rfl); (· exact sign_ok g (l.drop i)); (· rfl); (· simp only [shA, eff, Int.reduceEq, Int.reduceAdd, Int.reduceSub, Nat.reduceBEq, Nat.reduceEqDiff, reduceCtorEq, Nat.reduceAdd, Nat.reduceSub, Nat.reduceMul, Nat.reduceLeDiff, Int.reduceToNat, Int.reduceLT, Int.reduceLE, Int.reduceNeg, hi, hd]; with_reducible rfl); (· simp only [shA, eff, Int.reduceEq, Int.reduceAdd, Int.reduceSub, Nat.reduceBEq, Nat.reduceEqDiff, reduceCtorEq, Nat.reduceAdd, Nat.reduceSub, Nat.reduceMul, Nat.reduceLeDiff, Int.reduceToNat, Int.reduceLT, Int.reduceLE, Int.reduceNeg, hi, hd]; with_reducible rfl); (· simp only [shA, eff, Int.reduceEq, Int.reduceAdd, Int.reduceSub, Nat.reduceBEq, Nat.reduceEqDiff, reduceCtorEq, Nat.reduceAdd, Nat.reduceSub, Nat.reduceMul, Nat.reduceLeDiff, Int.reduceToNat, Int.reduceLT, Int.reduceLE, Int.reduceNeg, hi, hd]; with_reducible rfl)
    repeat ((with_reducible apply w_op); (· rfl); (· simp only [shA, eff, Int.reduceEq, Int.reduceAdd, Int.reduceSub, Nat.reduceBEq, Nat.reduceEqDiff, reduceCtorEq, Nat.reduceAdd, Nat.reduceSub, Nat.reduceMul, Nat.reduceLeDiff, Int.reduceToNat, Int.reduceLT, Int.reduceLE, Int.reduceNeg, hi, hd]; with_reducible rfl); (· simp only [shA, eff, Int.reduceEq, Int.reduceAdd, Int.reduceSub, Nat.reduceBEq, Nat.reduceEqDiff, reduceCtorEq, Nat.reduceAdd, Nat.reduceSub, Nat.reduceMul, Nat.reduceLeDiff, Int.reduceToNat, Int.reduceLT, Int.reduceLE, Int.reduceNeg, hi, hd]; with_reducible rfl))
    apply w_done
    generalize signL (l.drop i) = n at hs hb ⊢
    by_cases h0 : n = 0
    · have d2 := decide_T (p := ((n : Int) = 0)) (by omega)
      have hf : isText l = false := by rw [hb]; simp [h0]
      repeat (first | (with_reducible apply w_unr) | (with_reducible apply w_assoc) | (with_reducible apply w_skip) | (with_reducible apply w_ret) | (with_reducible apply w_retE) | (with_reducible apply w_skipE) | (with_reducible apply w_exit) | (with_reducible apply w_exitE) | (with_reducible apply w_block) | (with_reducible apply w_blockE) | ((with_reducible apply w_reg); · simp only [shA, eff, Int.reduceEq, Int.reduceAdd, Int.reduceSub, Nat.reduceBEq, Nat.reduceEqDiff, reduceCtorEq, Nat.reduceAdd, Nat.reduceSub, Nat.reduceMul, Nat.reduceLeDiff, Int.reduceToNat, Int.reduceLT, Int.reduceLE, Int.reduceNeg, d2]; with_reducible rfl) | ((with_reducible apply w_regE); · simp only [shA, eff, Int.reduceEq, Int.reduceAdd, Int.reduceSub, Nat.reduceBEq, Nat.reduceEqDiff, reduceCtorEq, Nat.reduceAdd, Nat.reduceSub, Nat.reduceMul, Nat.reduceLeDiff, Int.reduceToNat, Int.reduceLT, Int.reduceLE, Int.reduceNeg, d2]; with_reducible rfl) | ((with_reducible apply w_condT); · simp only [shA, eff, Int.reduceEq, Int.reduceAdd, Int.reduceSub, Nat.reduceBEq, Nat.reduceEqDiff, reduceCtorEq, Nat.reduceAdd, Nat.reduceSub, Nat.reduceMul, Nat.reduceLeDiff, Int.reduceToNat, Int.reduceLT, Int.reduceLE, Int.reduceNeg, d2]) | ((with_reducible apply w_condF); · simp only [shA, eff, Int.reduceEq, Int.reduceAdd, Int.reduceSub, Nat.reduceBEq, Nat.reduceEqDiff, reduceCtorEq, Nat.reduceAdd, Nat.reduceSub, Nat.reduceMul, Nat.reduceLeDiff, Int.reduceToNat, Int.reduceLT, Int.reduceLE, Int.reduceNeg, d2]) | ((with_reducible apply w_condTE); · simp only [shA, eff, Int.reduceEq, Int.reduceAdd, Int.reduceSub, Nat.reduceBEq, Nat.reduceEqDiff, reduceCtorEq, Nat.reduceAdd, Nat.reduceSub, Nat.reduceMul, Nat.reduceLeDiff, Int.reduceToNat, Int.reduceLT, Int.reduceLE, Int.reduceNeg, d2]) | ((with_reducible apply w_condFE); · simp only [shA, eff, Int.reduceEq, Int.reduceAdd, Int.reduceSub, Nat.reduceBEq, Nat.reduceEqDiff, reduceCtorEq, Nat.reduceAdd, Nat.reduceSub, Nat.reduceMul, Nat.reduceLeDiff, Int.reduceToNat, Int.reduceLT, Int.reduceLE, Int.reduceNeg, d2]) | (with_reducible apply q_then) | (with_reducible apply q_blockN) | (with_reducible apply q_blockR) | (with_reducible apply q_thenR) | (with_reducible apply q_thenX) | (with_reducible apply q_blockX) | ((with_reducible apply q_blockY); · rfl))
      simp [Post0, ansW, resT, SRes.get, ES.fs, ES.kill, has, drp, seqO, nbeq, lk, I, S, TV.ids3, TV.ids2, TV.ids1, TV.ids0, TV.ren3, TV.ren2, TV.ren1, TV.ren0, F_moraineref03_IsText, hf]
    have d2 := decide_F (p := ((n : Int) = 0)) (by omega)
    by_cases h1 : b.toNat < 32
    · have d3 := decide_T (p := ((b.toNat : Int) < 32)) (by omega)
      have hf : isText l = false := by rw [hb]; simp [h1]
      repeat (first | (with_reducible apply w_unr) | (with_reducible apply w_assoc) | (with_reducible apply w_skip) | (with_reducible apply w_ret) | (with_reducible apply w_retE) | (with_reducible apply w_skipE) | (with_reducible apply w_exit) | (with_reducible apply w_exitE) | (with_reducible apply w_block) | (with_reducible apply w_blockE) | ((with_reducible apply w_reg); · simp only [shA, eff, Int.reduceEq, Int.reduceAdd, Int.reduceSub, Nat.reduceBEq, Nat.reduceEqDiff, reduceCtorEq, Nat.reduceAdd, Nat.reduceSub, Nat.reduceMul, Nat.reduceLeDiff, Int.reduceToNat, Int.reduceLT, Int.reduceLE, Int.reduceNeg, d2, eb, d3]; with_reducible rfl) | ((with_reducible apply w_regE); · simp only [shA, eff, Int.reduceEq, Int.reduceAdd, Int.reduceSub, Nat.reduceBEq, Nat.reduceEqDiff, reduceCtorEq, Nat.reduceAdd, Nat.reduceSub, Nat.reduceMul, Nat.reduceLeDiff, Int.reduceToNat, Int.reduceLT, Int.reduceLE, Int.reduceNeg, d2, eb, d3]; with_reducible rfl) | ((with_reducible apply w_condT); · simp only [shA, eff, Int.reduceEq, Int.reduceAdd, Int.reduceSub, Nat.reduceBEq, Nat.reduceEqDiff, reduceCtorEq, Nat.reduceAdd, Nat.reduceSub, Nat.reduceMul, Nat.reduceLeDiff, Int.reduceToNat, Int.reduceLT, Int.reduceLE, Int.reduceNeg, d2, eb, d3]) | ((with_reducible apply w_condF); · simp only [shA, eff, Int.reduceEq, Int.reduceAdd, Int.reduceSub, Nat.reduceBEq, Nat.reduceEqDiff, reduceCtorEq, Nat.reduceAdd, Nat.reduceSub, Nat.reduceMul, Nat.reduceLeDiff, Int.reduceToNat, Int.reduceLT, Int.reduceLE, Int.reduceNeg, d2, eb, d3]) | ((with_reducible apply w_condTE); · simp only [shA, eff, Int.reduceEq, Int.reduceAdd, Int.reduceSub, Nat.reduceBEq, Nat.reduceEqDiff, reduceCtorEq, Nat.reduceAdd, Nat.reduceSub, Nat.reduceMul, Nat.reduceLeDiff, Int.reduceToNat, Int.reduceLT, Int.reduceLE, Int.reduceNeg, d2, eb, d3]) | ((with_reducible apply w_condFE); · simp only [shA, eff, Int.reduceEq, Int.reduceAdd, Int.reduceSub, Nat.reduceBEq, Nat.reduceEqDiff, reduceCtorEq, Nat.reduceAdd, Nat.reduceSub, Nat.reduceMul, Nat.reduceLeDiff, Int.reduceToNat, Int.reduceLT, Int.reduceLE, Int.reduceNeg, d2, eb, d3]) | (with_reducible apply q_then) | (with_reducible apply q_blockN) | (with_reducible apply q_blockR) | (with_reducible apply q_thenR) | (with_reducible apply q_thenX) | (with_reducible apply q_blockX) | ((with_reducible apply q_blockY); · rfl))
      simp [Post0, ansW, resT, SRes.get, ES.fs, ES.kill, has, drp, seqO, nbeq, lk, I, S, TV.ids3, TV.ids2, TV.ids1, TV.ids0, TV.ren3, TV.ren2, TV.ren1, TV.ren0, F_moraineref03_IsText, hf]
    have d3 := decide_F (p := ((b.toNat : Int) < 32)) (by omega)
    by_cases h2 : b.toNat = 127
    · have d4 := decide_T (p := ((b.toNat : Int) = 127)) (by omega)
      have hf : isText l = false := by rw [hb]; simp [h2]
      repeat (first | (with_reducible apply w_unr) | (with_reducible apply w_assoc) | (with_reducible apply w_skip) | (with_reducible apply w_ret) | (with_reducible apply w_retE) | (with_reducible apply w_skipE) | (with_reducible apply w_exit) | (with_reducible apply w_exitE) | (with_reducible apply w_block) | (with_reducible apply w_blockE) | ((with_reducible apply w_reg); · simp only [shA, eff, Int.reduceEq, Int.reduceAdd, Int.reduceSub, Nat.reduceBEq, Nat.reduceEqDiff, reduceCtorEq, Nat.reduceAdd, Nat.reduceSub, Nat.reduceMul, Nat.reduceLeDiff, Int.reduceToNat, Int.reduceLT, Int.reduceLE, Int.reduceNeg, d2, eb, d3, d4]; with_reducible rfl) | ((with_reducible apply w_regE); · simp only [shA, eff, Int.reduceEq, Int.reduceAdd, Int.reduceSub, Nat.reduceBEq, Nat.reduceEqDiff, reduceCtorEq, Nat.reduceAdd, Nat.reduceSub, Nat.reduceMul, Nat.reduceLeDiff, Int.reduceToNat, Int.reduceLT, Int.reduceLE, Int.reduceNeg, d2, eb, d3, d4]; with_reducible rfl) | ((with_reducible apply w_condT); · simp only [shA, eff, Int.reduceEq, Int.reduceAdd, Int.reduceSub, Nat.reduceBEq, Nat.reduceEqDiff, reduceCtorEq, Nat.reduceAdd, Nat.reduceSub, Nat.reduceMul, Nat.reduceLeDiff, Int.reduceToNat, Int.reduceLT, Int.reduceLE, Int.reduceNeg, d2, eb, d3, d4]) | ((with_reducible apply w_condF); · simp only [shA, eff, Int.reduceEq, Int.reduceAdd, Int.reduceSub, Nat.reduceBEq, Nat.reduceEqDiff, reduceCtorEq, Nat.reduceAdd, Nat.reduceSub, Nat.reduceMul, Nat.reduceLeDiff, Int.reduceToNat, Int.reduceLT, Int.reduceLE, Int.reduceNeg, d2, eb, d3, d4]) | ((with_reducible apply w_condTE); · simp only [shA, eff, Int.reduceEq, Int.reduceAdd, Int.reduceSub, Nat.reduceBEq, Nat.reduceEqDiff, reduceCtorEq, Nat.reduceAdd, Nat.reduceSub, Nat.reduceMul, Nat.reduceLeDiff, Int.reduceToNat, Int.reduceLT, Int.reduceLE, Int.reduceNeg, d2, eb, d3, d4]) | ((with_reducible apply w_condFE); · simp only [shA, eff, Int.reduceEq, Int.reduceAdd, Int.reduceSub, Nat.reduceBEq, Nat.reduceEqDiff, reduceCtorEq, Nat.reduceAdd, Nat.reduceSub, Nat.reduceMul, Nat.reduceLeDiff, Int.reduceToNat, Int.reduceLT, Int.reduceLE, Int.reduceNeg, d2, eb, d3, d4]) | (with_reducible apply q_then) | (with_reducible apply q_blockN) | (with_reducible apply q_blockR) | (with_reducible apply q_thenR) | (with_reducible apply q_thenX) | (with_reducible apply q_blockX) | ((with_reducible apply q_blockY); · rfl))
      simp [Post0, ansW, resT, SRes.get, ES.fs, ES.kill, has, drp, seqO, nbeq, lk, I, S, TV.ids3, TV.ids2, TV.ids1, TV.ids0, TV.ren3, TV.ren2, TV.ren1, TV.ren0, F_moraineref03_IsText, hf]
    have d4 := decide_F (p := ((b.toNat : Int) = 127)) (by omega)
    have w1 : IntKind.i64.wrap ((i : Int) + (n : Int)) = ((i + n : Nat) : Int) := by rw [wrap64 (by omega) (by omega)]; omega
    have hT2 : isText l = isText (l.drop (i + n)) := by rw [hb, List.drop_drop]; simp [h0, h1, h2]
    repeat (first | (with_reducible apply w_unr) | (with_reducible apply w_assoc) | (with_reducible apply w_skip) | (with_reducible apply w_ret) | (with_reducible apply w_retE) | (with_reducible apply w_skipE) | (with_reducible apply w_exit) | (with_reducible apply w_exitE) | (with_reducible apply w_block) | (with_reducible apply w_blockE) | ((with_reducible apply w_reg); · simp only [shA, eff, Int.reduceEq, Int.reduceAdd, Int.reduceSub, Nat.reduceBEq, Nat.reduceEqDiff, reduceCtorEq, Nat.reduceAdd, Nat.reduceSub, Nat.reduceMul, Nat.reduceLeDiff, Int.reduceToNat, Int.reduceLT, Int.reduceLE, Int.reduceNeg, d2, eb, d3, d4, w1]; with_reducible rfl) | ((with_reducible apply w_regE); · simp only [shA, eff, Int.reduceEq, Int.reduceAdd, Int.reduceSub, Nat.reduceBEq, Nat.reduceEqDiff, reduceCtorEq, Nat.reduceAdd, Nat.reduceSub, Nat.reduceMul, Nat.reduceLeDiff, Int.reduceToNat, Int.reduceLT, Int.reduceLE, Int.reduceNeg, d2, eb, d3, d4, w1]; with_reducible rfl) | ((with_reducible apply w_condT); · simp only [shA, eff, Int.reduceEq, Int.reduceAdd, Int.reduceSub, Nat.reduceBEq, Nat.reduceEqDiff, reduceCtorEq, Nat.reduceAdd, Nat.reduceSub, Nat.reduceMul, Nat.reduceLeDiff, Int.reduceToNat, Int.reduceLT, Int.reduceLE, Int.reduceNeg, d2, eb, d3, d4, w1]) | ((with_reducible apply w_condF); · simp only [shA, eff, Int.reduceEq, Int.reduceAdd, Int.reduceSub, Nat.reduceBEq, Nat.reduceEqDiff, reduceCtorEq, Nat.reduceAdd, Nat.reduceSub, Nat.reduceMul, Nat.reduceLeDiff, Int.reduceToNat, Int.reduceLT, Int.reduceLE, Int.reduceNeg, d2, eb, d3, d4, w1]) | ((with_reducible apply w_condTE); · simp only [shA, eff, Int.reduceEq, Int.reduceAdd, Int.reduceSub, Nat.reduceBEq, Nat.reduceEqDiff, reduceCtorEq, Nat.reduceAdd, Nat.reduceSub, Nat.reduceMul, Nat.reduceLeDiff, Int.reduceToNat, Int.reduceLT, Int.reduceLE, Int.reduceNeg, d2, eb, d3, d4, w1]) | ((with_reducible apply w_condFE); · simp only [shA, eff, Int.reduceEq, Int.reduceAdd, Int.reduceSub, Nat.reduceBEq, Nat.reduceEqDiff, reduceCtorEq, Nat.reduceAdd, Nat.reduceSub, Nat.reduceMul, Nat.reduceLeDiff, Int.reduceToNat, Int.reduceLT, Int.reduceLE, Int.reduceNeg, d2, eb, d3, d4, w1]) | (with_reducible apply q_then) | (with_reducible apply q_blockN) | (with_reducible apply q_blockR) | (with_reducible apply q_thenR) | (with_reducible apply q_thenX) | (with_reducible apply q_blockX) | ((with_reducible apply q_blockY); · rfl))
    refine ⟨⟨i + n, by omega, hT2⟩, by show l.length - (i + n) < l.length - i; omega, ?_⟩
    apply le_of <;> simp [leL, lk, Nat.beq, I, S]
  · have d1 := decide_F (p := ((i : Int) < (l.length : Int))) (by omega)
    have hf : isText l = true := by rw [hT, List.drop_eq_nil_of_le (by omega)]; rfl
    repeat (first | (with_reducible apply w_unr) | (with_reducible apply w_assoc) | (with_reducible apply w_skip) | (with_reducible apply w_ret) | (with_reducible apply w_retE) | (with_reducible apply w_skipE) | (with_reducible apply w_exit) | (with_reducible apply w_exitE) | (with_reducible apply w_block) | (with_reducible apply w_blockE) | ((with_reducible apply w_reg); · simp only [shA, eff, Int.reduceEq, Int.reduceAdd, Int.reduceSub, Nat.reduceBEq, Nat.reduceEqDiff, reduceCtorEq, Nat.reduceAdd, Nat.reduceSub, Nat.reduceMul, Nat.reduceLeDiff, Int.reduceToNat, Int.reduceLT, Int.reduceLE, Int.reduceNeg, d1]; with_reducible rfl) | ((with_reducible apply w_regE); · simp only [shA, eff, Int.reduceEq, Int.reduceAdd, Int.reduceSub, Nat.reduceBEq, Nat.reduceEqDiff, reduceCtorEq, Nat.reduceAdd, Nat.reduceSub, Nat.reduceMul, Nat.reduceLeDiff, Int.reduceToNat, Int.reduceLT, Int.reduceLE, Int.reduceNeg, d1]; with_reducible rfl) | ((with_reducible apply w_condT); · simp only [shA, eff, Int.reduceEq, Int.reduceAdd, Int.reduceSub, Nat.reduceBEq, Nat.reduceEqDiff, reduceCtorEq, Nat.reduceAdd, Nat.reduceSub, Nat.reduceMul, Nat.reduceLeDiff, Int.reduceToNat, Int.reduceLT, Int.reduceLE, Int.reduceNeg, d1]) | ((with_reducible apply w_condF); · simp only [shA, eff, Int.reduceEq, Int.reduceAdd, Int.reduceSub, Nat.reduceBEq, Nat.reduceEqDiff, reduceCtorEq, Nat.reduceAdd, Nat.reduceSub, Nat.reduceMul, Nat.reduceLeDiff, Int.reduceToNat, Int.reduceLT, Int.reduceLE, Int.reduceNeg, d1]) | ((with_reducible apply w_condTE); · simp only [shA, eff, Int.reduceEq, Int.reduceAdd, Int.reduceSub, Nat.reduceBEq, Nat.reduceEqDiff, reduceCtorEq, Nat.reduceAdd, Nat.reduceSub, Nat.reduceMul, Nat.reduceLeDiff, Int.reduceToNat, Int.reduceLT, Int.reduceLE, Int.reduceNeg, d1]) | ((with_reducible apply w_condFE); · simp only [shA, eff, Int.reduceEq, Int.reduceAdd, Int.reduceSub, Nat.reduceBEq, Nat.reduceEqDiff, reduceCtorEq, Nat.reduceAdd, Nat.reduceSub, Nat.reduceMul, Nat.reduceLeDiff, Int.reduceToNat, Int.reduceLT, Int.reduceLE, Int.reduceNeg, d1]) | (with_reducible apply q_then) | (with_reducible apply q_blockN) | (with_reducible apply q_blockR) | (with_reducible apply q_thenR) | (with_reducible apply q_thenX) | (with_reducible apply q_blockX) | ((with_reducible apply q_blockY); · rfl))
    simp [Post0, ansW, resT, SRes.get, ES.fs, ES.kill, has, drp, seqO, nbeq, lk, I, S, TV.ids3, TV.ids2, TV.ids1, TV.ids0, TV.ren3, TV.ren2, TV.ren1, TV.ren0, F_moraineref03_IsText, hf]
end Go.Proofs.YthjphllpkcnehaaGreatDoor
namespace Go.Proofs.YthjphllpkcnehaaGreatDoor
open Go Go.RowKit Go.Mor Go.Sh Go.Sh.Cd1
set_option maxRecDepth 100000
set_option maxHeartbeats 8000000
def stepN (l : List UInt8) : Nat := max (signL l) 1
def vtN : Nat → List UInt8 → List UInt8 → List UInt8
  | 0, _, out => out
  | n + 1, l, out => if l = [] ∨ 17 ≤ out.length then out else vtN n (l.drop (stepN l)) (if isText (l.take (stepN l)) then out ++ l.take (stepN l) else out)
def vt (l out : List UInt8) : List UInt8 := vtN l.length l out
def valText (l : List UInt8) : List UInt8 := vt l []
theorem stepN_le {l : List UInt8} (h : 0 < l.length) : 1 ≤ stepN l ∧ stepN l ≤ l.length ∧ stepN l ≤ 4 := by
  have := signL_le l
  unfold stepN; omega
theorem vtN_more : ∀ (n : Nat) (l out : List UInt8), l.length ≤ n → vtN n l out = vt l out := by
  intro n
  induction n using Nat.strongRecOn with
  | _ n ih =>
    intro l out hl
    unfold vt
    cases n with
    | zero =>
      have : l.length = 0 := by omega
      rw [this]
    | succ m =>
      cases hm : l.length with
      | zero =>
        have : l = [] := List.eq_nil_of_length_eq_zero hm
        simp [vtN, this]
      | succ p =>
        simp only [vtN]
        split
        · rfl
        · have hs := stepN_le (l := l) (by omega)
          have h1 : (l.drop (stepN l)).length ≤ p := by simp; omega
          rw [ih m (by omega) _ _ (by omega), ih p (by omega) _ _ h1]
theorem vt_step (l out : List UInt8) : vt l out = if l = [] ∨ 17 ≤ out.length then out else vt (l.drop (stepN l)) (if isText (l.take (stepN l)) then out ++ l.take (stepN l) else out) := by
  conv => lhs; unfold vt
  cases hm : l.length with
  | zero =>
    have : l = [] := List.eq_nil_of_length_eq_zero hm
    simp [vtN, this]
  | succ p =>
    have hs := stepN_le (l := l) (by omega)
    simp only [vtN]
    split
    · rfl
    · rw [vtN_more p _ _ (by simp; omega)]
theorem valText_ok (g : Sh.Glob) (l : List UInt8) (hl : l.length ≤ 9223372036854775807) : SCalls Tryz.prog g 103 [S (str l)] [] (S (str (valText l))) [] := by
  refine call_of0 hmix tf_morainelaw03_ValText rfl ?_
  have e0 : (⟨#[]⟩ : ByteArray) = str [] := rfl
  repeat (first | (with_reducible apply w_unr) | (with_reducible apply w_assoc) | (with_reducible apply w_skip) | (with_reducible apply w_ret) | (with_reducible apply w_retE) | (with_reducible apply w_skipE) | (with_reducible apply w_exit) | (with_reducible apply w_exitE) | (with_reducible apply w_block) | (with_reducible apply w_blockE) | ((with_reducible apply w_reg); · simp only [shA, eff, Int.reduceEq, Int.reduceAdd, Int.reduceSub, Nat.reduceBEq, Nat.reduceEqDiff, reduceCtorEq, Nat.reduceAdd, Nat.reduceSub, Nat.reduceMul, Nat.reduceLeDiff, Int.reduceToNat, Int.reduceLT, Int.reduceLE, Int.reduceNeg]; with_reducible rfl) | ((with_reducible apply w_regE); · simp only [shA, eff, Int.reduceEq, Int.reduceAdd, Int.reduceSub, Nat.reduceBEq, Nat.reduceEqDiff, reduceCtorEq, Nat.reduceAdd, Nat.reduceSub, Nat.reduceMul, Nat.reduceLeDiff, Int.reduceToNat, Int.reduceLT, Int.reduceLE, Int.reduceNeg]; with_reducible rfl) | ((with_reducible apply w_condT); · simp only [shA, eff, Int.reduceEq, Int.reduceAdd, Int.reduceSub, Nat.reduceBEq, Nat.reduceEqDiff, reduceCtorEq, Nat.reduceAdd, Nat.reduceSub, Nat.reduceMul, Nat.reduceLeDiff, Int.reduceToNat, Int.reduceLT, Int.reduceLE, Int.reduceNeg]) | ((with_reducible apply w_condF); · simp only [shA, eff, Int.reduceEq, Int.reduceAdd, Int.reduceSub, Nat.reduceBEq, Nat.reduceEqDiff, reduceCtorEq, Nat.reduceAdd, Nat.reduceSub, Nat.reduceMul, Nat.reduceLeDiff, Int.reduceToNat, Int.reduceLT, Int.reduceLE, Int.reduceNeg]) | ((with_reducible apply w_condTE); · simp only [shA, eff, Int.reduceEq, Int.reduceAdd, Int.reduceSub, Nat.reduceBEq, Nat.reduceEqDiff, reduceCtorEq, Nat.reduceAdd, Nat.reduceSub, Nat.reduceMul, Nat.reduceLeDiff, Int.reduceToNat, Int.reduceLT, Int.reduceLE, Int.reduceNeg]) | ((with_reducible apply w_condFE); · simp only [shA, eff, Int.reduceEq, Int.reduceAdd, Int.reduceSub, Nat.reduceBEq, Nat.reduceEqDiff, reduceCtorEq, Nat.reduceAdd, Nat.reduceSub, Nat.reduceMul, Nat.reduceLeDiff, Int.reduceToNat, Int.reduceLT, Int.reduceLE, Int.reduceNeg]) | (with_reducible apply q_then) | (with_reducible apply q_blockN) | (with_reducible apply q_blockR) | (with_reducible apply q_thenR) | (with_reducible apply q_thenX) | (with_reducible apply q_blockX) | ((with_reducible apply q_blockY); · rfl))
  refine w_loopE (σ := { p : Nat × List UInt8 // p.1 ≤ l.length ∧ p.2.length ≤ 20 ∧ valText l = vt (l.drop p.1) p.2 }) (fun p => ⟨[(0, S (str l)), (3, S (str p.1.2)), (4, I (p.1.1 : Int))], [], [], []⟩) (fun p => l.length - p.1.1) ⟨(0, []), Nat.zero_le _, Nat.zero_le _, rfl⟩ (by rw [← e0]; apply le_of <;> simp [leL, lk, Nat.beq, I, S, str]) ?_
  rintro ⟨⟨i, out⟩, hi, ho, hT⟩
  simp only at hi ho hT
  rw [vt_step] at hT
  by_cases hlt : ¬ i < l.length
  · have d1 := decide_F (p := ((i : Int) < (l.length : Int))) (by omega)
    have hf : valText l = out := by rw [hT, if_pos (.inl (List.drop_eq_nil_of_le (by omega)))]
    repeat (first | (with_reducible apply w_unr) | (with_reducible apply w_assoc) | (with_reducible apply w_skip) | (with_reducible apply w_ret) | (with_reducible apply w_retE) | (with_reducible apply w_skipE) | (with_reducible apply w_exit) | (with_reducible apply w_exitE) | (with_reducible apply w_block) | (with_reducible apply w_blockE) | ((with_reducible apply w_reg); · simp only [shA, eff, Int.reduceEq, Int.reduceAdd, Int.reduceSub, Nat.reduceBEq, Nat.reduceEqDiff, reduceCtorEq, Nat.reduceAdd, Nat.reduceSub, Nat.reduceMul, Nat.reduceLeDiff, Int.reduceToNat, Int.reduceLT, Int.reduceLE, Int.reduceNeg, d1]; with_reducible rfl) | ((with_reducible apply w_regE); · simp only [shA, eff, Int.reduceEq, Int.reduceAdd, Int.reduceSub, Nat.reduceBEq, Nat.reduceEqDiff, reduceCtorEq, Nat.reduceAdd, Nat.reduceSub, Nat.reduceMul, Nat.reduceLeDiff, Int.reduceToNat, Int.reduceLT, Int.reduceLE, Int.reduceNeg, d1]; with_reducible rfl) | ((with_reducible apply w_condT); · simp only [shA, eff, Int.reduceEq, Int.reduceAdd, Int.reduceSub, Nat.reduceBEq, Nat.reduceEqDiff, reduceCtorEq, Nat.reduceAdd, Nat.reduceSub, Nat.reduceMul, Nat.reduceLeDiff, Int.reduceToNat, Int.reduceLT, Int.reduceLE, Int.reduceNeg, d1]) | ((with_reducible apply w_condF); · simp only [shA, eff, Int.reduceEq, Int.reduceAdd, Int.reduceSub, Nat.reduceBEq, Nat.reduceEqDiff, reduceCtorEq, Nat.reduceAdd, Nat.reduceSub, Nat.reduceMul, Nat.reduceLeDiff, Int.reduceToNat, Int.reduceLT, Int.reduceLE, Int.reduceNeg, d1]) | ((with_reducible apply w_condTE); · simp only [shA, eff, Int.reduceEq, Int.reduceAdd, Int.reduceSub, Nat.reduceBEq, Nat.reduceEqDiff, reduceCtorEq, Nat.reduceAdd, Nat.reduceSub, Nat.reduceMul, Nat.reduceLeDiff, Int.reduceToNat, Int.reduceLT, Int.reduceLE, Int.reduceNeg, d1]) | ((with_reducible apply w_condFE); · simp only [shA, eff, Int.reduceEq, Int.reduceAdd, Int.reduceSub, Nat.reduceBEq, Nat.reduceEqDiff, reduceCtorEq, Nat.reduceAdd, Nat.reduceSub, Nat.reduceMul, Nat.reduceLeDiff, Int.reduceToNat, Int.reduceLT, Int.reduceLE, Int.reduceNeg, d1]) | (with_reducible apply q_then) | (with_reducible apply q_blockN) | (with_reducible apply q_blockR) | (with_reducible apply q_thenR) | (with_reducible apply q_thenX) | (with_reducible apply q_blockX) | ((with_reducible apply q_blockY); · rfl))
    simp [Post0, ansW, resT, SRes.get, ES.fs, ES.kill, has, drp, seqO, nbeq, lk, I, S, TV.ids3, TV.ids2, TV.ids1, TV.ids0, TV.ren3, TV.ren2, TV.ren1, TV.ren0, F_morainelaw03_ValText, hf]
  have d1 := decide_T (p := ((i : Int) < (l.length : Int))) (by omega)
  by_cases h17 : ¬ out.length < 17
  · have d2 := decide_F (p := ((out.length : Int) < 17)) (by omega)
    have hf : valText l = out := by rw [hT, if_pos (.inr (by omega))]
    repeat (first | (with_reducible apply w_unr) | (with_reducible apply w_assoc) | (with_reducible apply w_skip) | (with_reducible apply w_ret) | (with_reducible apply w_retE) | (with_reducible apply w_skipE) | (with_reducible apply w_exit) | (with_reducible apply w_exitE) | (with_reducible apply w_block) | (with_reducible apply w_blockE) | ((with_reducible apply w_reg); · simp only [shA, eff, Int.reduceEq, Int.reduceAdd, Int.reduceSub, Nat.reduceBEq, Nat.reduceEqDiff, reduceCtorEq, Nat.reduceAdd, Nat.reduceSub, Nat.reduceMul, Nat.reduceLeDiff, Int.reduceToNat, Int.reduceLT, Int.reduceLE, Int.reduceNeg, d1, d2]; with_reducible rfl) | ((with_reducible apply w_regE); · simp only [shA, eff, Int.reduceEq, Int.reduceAdd, Int.reduceSub, Nat.reduceBEq, Nat.reduceEqDiff, reduceCtorEq, Nat.reduceAdd, Nat.reduceSub, Nat.reduceMul, Nat.reduceLeDiff, Int.reduceToNat, Int.reduceLT, Int.reduceLE, Int.reduceNeg, d1, d2]; with_reducible rfl) | ((with_reducible apply w_condT); · simp only [shA, eff, Int.reduceEq, Int.reduceAdd, Int.reduceSub, Nat.reduceBEq, Nat.reduceEqDiff, reduceCtorEq, Nat.reduceAdd, Nat.reduceSub, Nat.reduceMul, Nat.reduceLeDiff, Int.reduceToNat, Int.reduceLT, Int.reduceLE, Int.reduceNeg, d1, d2]) | ((with_reducible apply w_condF); · simp only [shA, eff, Int.reduceEq, Int.reduceAdd, Int.reduceSub, Nat.reduceBEq, Nat.reduceEqDiff, reduceCtorEq, Nat.reduceAdd, Nat.reduceSub, Nat.reduceMul, Nat.reduceLeDiff, Int.reduceToNat, Int.reduceLT, Int.reduceLE, Int.reduceNeg, d1, d2]) | ((with_reducible apply w_condTE); · simp only [shA, eff, Int.reduceEq, Int.reduceAdd, Int.reduceSub, Nat.reduceBEq, Nat.reduceEqDiff, reduceCtorEq, Nat.reduceAdd, Nat.reduceSub, Nat.reduceMul, Nat.reduceLeDiff, Int.reduceToNat, Int.reduceLT, Int.reduceLE, Int.reduceNeg, d1, d2]) | ((with_reducible apply w_condFE); · simp only [shA, eff, Int.reduceEq, Int.reduceAdd, Int.reduceSub, Nat.reduceBEq, Nat.reduceEqDiff, reduceCtorEq, Nat.reduceAdd, Nat.reduceSub, Nat.reduceMul, Nat.reduceLeDiff, Int.reduceToNat, Int.reduceLT, Int.reduceLE, Int.reduceNeg, d1, d2]) | (with_reducible apply q_then) | (with_reducible apply q_blockN) | (with_reducible apply q_blockR) | (with_reducible apply q_thenR) | (with_reducible apply q_thenX) | (with_reducible apply q_blockX) | ((with_reducible apply q_blockY); · rfl))
    simp [Post0, ansW, resT, SRes.get, ES.fs, ES.kill, has, drp, seqO, nbeq, lk, I, S, TV.ids3, TV.ids2, TV.ids1, TV.ids0, TV.ren3, TV.ren2, TV.ren1, TV.ren0, F_morainelaw03_ValText, hf]
  have d2 := decide_T (p := ((out.length : Int) < 17)) (by omega)
  have hd := str_drop l i
  have hs := stepN_le (l := l.drop i) (by simp; omega)
  rw [if_neg (by rw [List.drop_eq_nil_iff]; omega)] at hT
  have hm : max (signL (l.drop i) : Int) 1 = ((stepN (l.drop i) : Nat) : Int) := by unfold stepN; omega
  repeat (first | (with_reducible apply w_unr) | (with_reducible apply w_assoc) | (with_reducible apply w_skip) | (with_reducible apply w_ret) | (with_reducible apply w_retE) | (with_reducible apply w_skipE) | (with_reducible apply w_exit) | (with_reducible apply w_exitE) | (with_reducible apply w_block) | (with_reducible apply w_blockE) | ((with_reducible apply w_reg); · simp only [shA, eff, Int.reduceEq, Int.reduceAdd, Int.reduceSub, Nat.reduceBEq, Nat.reduceEqDiff, reduceCtorEq, Nat.reduceAdd, Nat.reduceSub, Nat.reduceMul, Nat.reduceLeDiff, Int.reduceToNat, Int.reduceLT, Int.reduceLE, Int.reduceNeg, d1, d2]; with_reducible rfl) | ((with_reducible apply w_regE); · simp only [shA, eff, Int.reduceEq, Int.reduceAdd, Int.reduceSub, Nat.reduceBEq, Nat.reduceEqDiff, reduceCtorEq, Nat.reduceAdd, Nat.reduceSub, Nat.reduceMul, Nat.reduceLeDiff, Int.reduceToNat, Int.reduceLT, Int.reduceLE, Int.reduceNeg, d1, d2]; with_reducible rfl) | ((with_reducible apply w_condT); · simp only [shA, eff, Int.reduceEq, Int.reduceAdd, Int.reduceSub, Nat.reduceBEq, Nat.reduceEqDiff, reduceCtorEq, Nat.reduceAdd, Nat.reduceSub, Nat.reduceMul, Nat.reduceLeDiff, Int.reduceToNat, Int.reduceLT, Int.reduceLE, Int.reduceNeg, d1, d2]) | ((with_reducible apply w_condF); · simp only [shA, eff, Int.reduceEq, Int.reduceAdd, Int.reduceSub, Nat.reduceBEq, Nat.reduceEqDiff, reduceCtorEq, Nat.reduceAdd, Nat.reduceSub, Nat.reduceMul, Nat.reduceLeDiff, Int.reduceToNat, Int.reduceLT, Int.reduceLE, Int.reduceNeg, d1, d2]) | ((with_reducible apply w_condTE); · simp only [shA, eff, Int.reduceEq, Int.reduceAdd, Int.reduceSub, Nat.reduceBEq, Nat.reduceEqDiff, reduceCtorEq, Nat.reduceAdd, Nat.reduceSub, Nat.reduceMul, Nat.reduceLeDiff, Int.reduceToNat, Int.reduceLT, Int.reduceLE, Int.reduceNeg, d1, d2]) | ((with_reducible apply w_condFE); · simp only [shA, eff, Int.reduceEq, Int.reduceAdd, Int.reduceSub, Nat.reduceBEq, Nat.reduceEqDiff, reduceCtorEq, Nat.reduceAdd, Nat.reduceSub, Nat.reduceMul, Nat.reduceLeDiff, Int.reduceToNat, Int.reduceLT, Int.reduceLE, Int.reduceNeg, d1, d2]) | (with_reducible apply q_then) | (with_reducible apply q_blockN) | (with_reducible apply q_blockR) | (with_reducible apply q_thenR) | (with_reducible apply q_thenX) | (with_reducible apply q_blockX) | ((with_reducible apply q_blockY); · rfl))
  (first | (with_reducible apply w_ops) | (with_reducible apply w_opsE))
  repeat ((with_reducible apply w_op); (· rfl); (· simp only [shA, eff, Int.reduceEq, Int.reduceAdd, Int.reduceSub, Nat.reduceBEq, Nat.reduceEqDiff, reduceCtorEq, Nat.reduceAdd, Nat.reduceSub, Nat.reduceMul, Nat.reduceLeDiff, Int.reduceToNat, Int.reduceLT, Int.reduceLE, Int.reduceNeg, hi, hd]; with_reducible rfl); (· simp only [shA, eff, Int.reduceEq, Int.reduceAdd, Int.reduceSub, Nat.reduceBEq, Nat.reduceEqDiff, reduceCtorEq, Nat.reduceAdd, Nat.reduceSub, Nat.reduceMul, Nat.reduceLeDiff, Int.reduceToNat, Int.reduceLT, Int.reduceLE, Int.reduceNeg, hi, hd]; with_reducible rfl))
  (with_reducible apply w_call); (· simp only [shA, eff, Int.reduceEq, Int.reduceAdd, Int.reduceSub, Nat.reduceBEq, Nat.reduceEqDiff, reduceCtorEq, Nat.reduceAdd, Nat.reduceSub, Nat.reduceMul, Nat.reduceLeDiff, Int.reduceToNat, Int.reduceLT, Int.reduceLE, Int.reduceNeg, hi, hd]; with_reducible rfl); (· simp only [shA, eff, Int.reduceEq, Int.reduceAdd, Int.reduceSub, Nat.reduceBEq, Nat.reduceEqDiff, reduceCtorEq, Nat.reduceAdd, Nat.reduceSub, Nat.reduceMul, Nat.reduceLeDiff, Int.reduceToNat, Int.reduceLT, Int.reduceLE, Int.reduceNeg, hi, hd]; with_reducible rfl); (· simp only [shA, eff, Int.reduceEq, Int.reduceAdd, Int.reduceSub, Nat.reduceBEq, Nat.reduceEqDiff, reduceCtorEq, Nat.reduceAdd, Nat.reduceSub, Nat.reduceMul, Nat.reduceLeDiff, Int.reduceToNat, Int.reduceLT, Int.reduceLE, Int.reduceNeg, hi, hd]; with_reducible rfl); (· simp only [shA, eff, Int.reduceEq, Int.reduceAdd, Int.reduceSub, Nat.reduceBEq, Nat.reduceEqDiff, reduceCtorEq, Nat.reduceAdd, Nat.reduceSub, Nat.reduceMul, Nat.reduceLeDiff, Int.reduceToNat, Int.reduceLT, Int.reduceLE, Int.reduceNeg, hi, hd]; with_reducible rfl); (· exact sign_ok g (l.drop i)); (· rfl); (· simp only [shA, eff, Int.reduceEq, Int.reduceAdd, Int.reduceSub, Nat.reduceBEq, Nat.reduceEqDiff, reduceCtorEq, Nat.reduceAdd, Nat.reduceSub, Nat.reduceMul, Nat.reduceLeDiff, Int.reduceToNat, Int.reduceLT, Int.reduceLE, Int.reduceNeg, hi, hd]; with_reducible rfl); (· simp only [shA, eff, Int.reduceEq, Int.reduceAdd, Int.reduceSub, Nat.reduceBEq, Nat.reduceEqDiff, reduceCtorEq, Nat.reduceAdd, Nat.reduceSub, Nat.reduceMul, Nat.reduceLeDiff, Int.reduceToNat, Int.reduceLT, Int.reduceLE, Int.reduceNeg, hi, hd]; with_reducible rfl); (· simp only [shA, eff, Int.reduceEq, Int.reduceAdd, Int.reduceSub, Nat.reduceBEq, Nat.reduceEqDiff, reduceCtorEq, Nat.reduceAdd, Nat.reduceSub, Nat.reduceMul, Nat.reduceLeDiff, Int.reduceToNat, Int.reduceLT, Int.reduceLE, Int.reduceNeg, hi, hd]; with_reducible rfl)
  repeat ((with_reducible apply w_op); (· rfl); (· simp only [shA, eff, Int.reduceEq, Int.reduceAdd, Int.reduceSub, Nat.reduceBEq, Nat.reduceEqDiff, reduceCtorEq, Nat.reduceAdd, Nat.reduceSub, Nat.reduceMul, Nat.reduceLeDiff, Int.reduceToNat, Int.reduceLT, Int.reduceLE, Int.reduceNeg, hm]; with_reducible rfl); (· simp only [shA, eff, Int.reduceEq, Int.reduceAdd, Int.reduceSub, Nat.reduceBEq, Nat.reduceEqDiff, reduceCtorEq, Nat.reduceAdd, Nat.reduceSub, Nat.reduceMul, Nat.reduceLeDiff, Int.reduceToNat, Int.reduceLT, Int.reduceLE, Int.reduceNeg, hm]; with_reducible rfl))
  apply w_done
  simp only [List.length_drop] at hs
  obtain ⟨n, hn⟩ : ∃ n, n = stepN (l.drop i) := ⟨_, rfl⟩
  rw [← hn] at hs hT ⊢
  have w1 : IntKind.i64.wrap ((i : Int) + (n : Int)) = ((i + n : Nat) : Int) := by rw [wrap64 (by omega) (by omega)]; omega
  have g1 : i ≤ i + n := by omega
  have g2 : i + n ≤ l.length := by omega
  have hx : (str l).extract i (i + n) = str ((l.drop i).take n) := by rw [str_extract]; congr 2; omega
  have hlen : ((l.drop i).take n).length = n := by simp; omega
  (first | (with_reducible apply w_ops) | (with_reducible apply w_opsE))
  repeat ((with_reducible apply w_op); (· rfl); (· simp only [shA, eff, Int.reduceEq, Int.reduceAdd, Int.reduceSub, Nat.reduceBEq, Nat.reduceEqDiff, reduceCtorEq, Nat.reduceAdd, Nat.reduceSub, Nat.reduceMul, Nat.reduceLeDiff, Int.reduceToNat, Int.reduceLT, Int.reduceLE, Int.reduceNeg, w1, g1, g2, hx]; with_reducible rfl); (· simp only [shA, eff, Int.reduceEq, Int.reduceAdd, Int.reduceSub, Nat.reduceBEq, Nat.reduceEqDiff, reduceCtorEq, Nat.reduceAdd, Nat.reduceSub, Nat.reduceMul, Nat.reduceLeDiff, Int.reduceToNat, Int.reduceLT, Int.reduceLE, Int.reduceNeg, w1, g1, g2, hx]; with_reducible rfl))
  (with_reducible apply w_call); (· simp only [shA, eff, Int.reduceEq, Int.reduceAdd, Int.reduceSub, Nat.reduceBEq, Nat.reduceEqDiff, reduceCtorEq, Nat.reduceAdd, Nat.reduceSub, Nat.reduceMul, Nat.reduceLeDiff, Int.reduceToNat, Int.reduceLT, Int.reduceLE, Int.reduceNeg, hi]; with_reducible rfl); (· simp only [shA, eff, Int.reduceEq, Int.reduceAdd, Int.reduceSub, Nat.reduceBEq, Nat.reduceEqDiff, reduceCtorEq, Nat.reduceAdd, Nat.reduceSub, Nat.reduceMul, Nat.reduceLeDiff, Int.reduceToNat, Int.reduceLT, Int.reduceLE, Int.reduceNeg, hi]; with_reducible rfl); (· simp only [shA, eff, Int.reduceEq, Int.reduceAdd, Int.reduceSub, Nat.reduceBEq, Nat.reduceEqDiff, reduceCtorEq, Nat.reduceAdd, Nat.reduceSub, Nat.reduceMul, Nat.reduceLeDiff, Int.reduceToNat, Int.reduceLT, Int.reduceLE, Int.reduceNeg, hi]; with_reducible rfl); (· simp only [shA, eff, Int.reduceEq, Int.reduceAdd, Int.reduceSub, Nat.reduceBEq, Nat.reduceEqDiff, reduceCtorEq, Nat.reduceAdd, Nat.reduceSub, Nat.reduceMul, Nat.reduceLeDiff, Int.reduceToNat, Int.reduceLT, Int.reduceLE, Int.reduceNeg, hi]; with_reducible rfl); (· exact isText_ok g ((l.drop i).take n) (by omega)); (· rfl); (· simp only [shA, eff, Int.reduceEq, Int.reduceAdd, Int.reduceSub, Nat.reduceBEq, Nat.reduceEqDiff, reduceCtorEq, Nat.reduceAdd, Nat.reduceSub, Nat.reduceMul, Nat.reduceLeDiff, Int.reduceToNat, Int.reduceLT, Int.reduceLE, Int.reduceNeg, hi]; with_reducible rfl); (· simp only [shA, eff, Int.reduceEq, Int.reduceAdd, Int.reduceSub, Nat.reduceBEq, Nat.reduceEqDiff, reduceCtorEq, Nat.reduceAdd, Nat.reduceSub, Nat.reduceMul, Nat.reduceLeDiff, Int.reduceToNat, Int.reduceLT, Int.reduceLE, Int.reduceNeg, hi]; with_reducible rfl); (· simp only [shA, eff, Int.reduceEq, Int.reduceAdd, Int.reduceSub, Nat.reduceBEq, Nat.reduceEqDiff, reduceCtorEq, Nat.reduceAdd, Nat.reduceSub, Nat.reduceMul, Nat.reduceLeDiff, Int.reduceToNat, Int.reduceLT, Int.reduceLE, Int.reduceNeg, hi]; with_reducible rfl)
  repeat ((with_reducible apply w_op); (· rfl); (· simp only [shA, eff, Int.reduceEq, Int.reduceAdd, Int.reduceSub, Nat.reduceBEq, Nat.reduceEqDiff, reduceCtorEq, Nat.reduceAdd, Nat.reduceSub, Nat.reduceMul, Nat.reduceLeDiff, Int.reduceToNat, Int.reduceLT, Int.reduceLE, Int.reduceNeg]; with_reducible rfl); (· simp only [shA, eff, Int.reduceEq, Int.reduceAdd, Int.reduceSub, Nat.reduceBEq, Nat.reduceEqDiff, reduceCtorEq, Nat.reduceAdd, Nat.reduceSub, Nat.reduceMul, Nat.reduceLeDiff, Int.reduceToNat, Int.reduceLT, Int.reduceLE, Int.reduceNeg]; with_reducible rfl))
  apply w_done
  by_cases hok : isText ((l.drop i).take n) = true
  · have hadd := fun t => sbin_add Tryz.prog t (str out) (str ((l.drop i).take n)) (by simp only [str_size']; omega)
    have happ := str_append out ((l.drop i).take n)
    rw [if_pos hok, List.drop_drop] at hT
    repeat (first | (with_reducible apply w_unr) | (with_reducible apply w_assoc) | (with_reducible apply w_skip) | (with_reducible apply w_ret) | (with_reducible apply w_retE) | (with_reducible apply w_skipE) | (with_reducible apply w_exit) | (with_reducible apply w_exitE) | (with_reducible apply w_block) | (with_reducible apply w_blockE) | ((with_reducible apply w_reg); · simp only [shA, eff, Int.reduceEq, Int.reduceAdd, Int.reduceSub, Nat.reduceBEq, Nat.reduceEqDiff, reduceCtorEq, Nat.reduceAdd, Nat.reduceSub, Nat.reduceMul, Nat.reduceLeDiff, Int.reduceToNat, Int.reduceLT, Int.reduceLE, Int.reduceNeg, hok, w1, g1, g2, hx, hadd, happ]; with_reducible rfl) | ((with_reducible apply w_regE); · simp only [shA, eff, Int.reduceEq, Int.reduceAdd, Int.reduceSub, Nat.reduceBEq, Nat.reduceEqDiff, reduceCtorEq, Nat.reduceAdd, Nat.reduceSub, Nat.reduceMul, Nat.reduceLeDiff, Int.reduceToNat, Int.reduceLT, Int.reduceLE, Int.reduceNeg, hok, w1, g1, g2, hx, hadd, happ]; with_reducible rfl) | ((with_reducible apply w_condT); · simp only [shA, eff, Int.reduceEq, Int.reduceAdd, Int.reduceSub, Nat.reduceBEq, Nat.reduceEqDiff, reduceCtorEq, Nat.reduceAdd, Nat.reduceSub, Nat.reduceMul, Nat.reduceLeDiff, Int.reduceToNat, Int.reduceLT, Int.reduceLE, Int.reduceNeg, hok, w1, g1, g2, hx, hadd, happ]) | ((with_reducible apply w_condF); · simp only [shA, eff, Int.reduceEq, Int.reduceAdd, Int.reduceSub, Nat.reduceBEq, Nat.reduceEqDiff, reduceCtorEq, Nat.reduceAdd, Nat.reduceSub, Nat.reduceMul, Nat.reduceLeDiff, Int.reduceToNat, Int.reduceLT, Int.reduceLE, Int.reduceNeg, hok, w1, g1, g2, hx, hadd, happ]) | ((with_reducible apply w_condTE); · simp only [shA, eff, Int.reduceEq, Int.reduceAdd, Int.reduceSub, Nat.reduceBEq, Nat.reduceEqDiff, reduceCtorEq, Nat.reduceAdd, Nat.reduceSub, Nat.reduceMul, Nat.reduceLeDiff, Int.reduceToNat, Int.reduceLT, Int.reduceLE, Int.reduceNeg, hok, w1, g1, g2, hx, hadd, happ]) | ((with_reducible apply w_condFE); · simp only [shA, eff, Int.reduceEq, Int.reduceAdd, Int.reduceSub, Nat.reduceBEq, Nat.reduceEqDiff, reduceCtorEq, Nat.reduceAdd, Nat.reduceSub, Nat.reduceMul, Nat.reduceLeDiff, Int.reduceToNat, Int.reduceLT, Int.reduceLE, Int.reduceNeg, hok, w1, g1, g2, hx, hadd, happ]) | (with_reducible apply q_then) | (with_reducible apply q_blockN) | (with_reducible apply q_blockR) | (with_reducible apply q_thenR) | (with_reducible apply q_thenX) | (with_reducible apply q_blockX) | ((with_reducible apply q_blockY); · rfl))
    refine ⟨⟨(i + n, out ++ (l.drop i).take n), by omega, by simp; omega, hT⟩, by show l.length - (i + n) < l.length - i; omega, ?_⟩
    apply le_of <;> simp [leL, lk, Nat.beq, I, S]
  · have hok' : isText ((l.drop i).take n) = false := by simpa using hok
    rw [if_neg hok, List.drop_drop] at hT
    repeat (first | (with_reducible apply w_unr) | (with_reducible apply w_assoc) | (with_reducible apply w_skip) | (with_reducible apply w_ret) | (with_reducible apply w_retE) | (with_reducible apply w_skipE) | (with_reducible apply w_exit) | (with_reducible apply w_exitE) | (with_reducible apply w_block) | (with_reducible apply w_blockE) | ((with_reducible apply w_reg); · simp only [shA, eff, Int.reduceEq, Int.reduceAdd, Int.reduceSub, Nat.reduceBEq, Nat.reduceEqDiff, reduceCtorEq, Nat.reduceAdd, Nat.reduceSub, Nat.reduceMul, Nat.reduceLeDiff, Int.reduceToNat, Int.reduceLT, Int.reduceLE, Int.reduceNeg, hok', w1]; with_reducible rfl) | ((with_reducible apply w_regE); · simp only [shA, eff, Int.reduceEq, Int.reduceAdd, Int.reduceSub, Nat.reduceBEq, Nat.reduceEqDiff, reduceCtorEq, Nat.reduceAdd, Nat.reduceSub, Nat.reduceMul, Nat.reduceLeDiff, Int.reduceToNat, Int.reduceLT, Int.reduceLE, Int.reduceNeg, hok', w1]; with_reducible rfl) | ((with_reducible apply w_condT); · simp only [shA, eff, Int.reduceEq, Int.reduceAdd, Int.reduceSub, Nat.reduceBEq, Nat.reduceEqDiff, reduceCtorEq, Nat.reduceAdd, Nat.reduceSub, Nat.reduceMul, Nat.reduceLeDiff, Int.reduceToNat, Int.reduceLT, Int.reduceLE, Int.reduceNeg, hok', w1]) | ((with_reducible apply w_condF); · simp only [shA, eff, Int.reduceEq, Int.reduceAdd, Int.reduceSub, Nat.reduceBEq, Nat.reduceEqDiff, reduceCtorEq, Nat.reduceAdd, Nat.reduceSub, Nat.reduceMul, Nat.reduceLeDiff, Int.reduceToNat, Int.reduceLT, Int.reduceLE, Int.reduceNeg, hok', w1]) | ((with_reducible apply w_condTE); · simp only [shA, eff, Int.reduceEq, Int.reduceAdd, Int.reduceSub, Nat.reduceBEq, Nat.reduceEqDiff, reduceCtorEq, Nat.reduceAdd, Nat.reduceSub, Nat.reduceMul, Nat.reduceLeDiff, Int.reduceToNat, Int.reduceLT, Int.reduceLE, Int.reduceNeg, hok', w1]) | ((with_reducible apply w_condFE); · simp only [shA, eff, Int.reduceEq, Int.reduceAdd, Int.reduceSub, Nat.reduceBEq, Nat.reduceEqDiff, reduceCtorEq, Nat.reduceAdd, Nat.reduceSub, Nat.reduceMul, Nat.reduceLeDiff, Int.reduceToNat, Int.reduceLT, Int.reduceLE, Int.reduceNeg, hok', w1]) | (with_reducible apply q_then) | (with_reducible apply q_blockN) | (with_reducible apply q_blockR) | (with_reducible apply q_thenR) | (with_reducible apply q_thenX) | (with_reducible apply q_blockX) | ((with_reducible apply q_blockY); · rfl))
    refine ⟨⟨(i + n, out), by omega, ho, hT⟩, by show l.length - (i + n) < l.length - i; omega, ?_⟩
    apply le_of <;> simp [leL, lk, Nat.beq, I, S]
end Go.Proofs.YthjphllpkcnehaaGreatDoor
end

section
/- The statements' ValType, ValOne, fit. No statement of the program is proved here. -/
namespace Go.Proofs.YthjphllpkcnehaaGreatDoor
open Go Go.RowKit Go.Mor Go.Sh Go.Sh.Cd1
set_option maxRecDepth 100000
set_option maxHeartbeats 8000000
theorem pickI_lt {c n : Int} (hn : 0 < n) (hc : I64 c) : 0 ≤ pickI c n ∧ pickI c n < n := by
  unfold pickI
  obtain ⟨h0, h1⟩ := hc
  split
  · exact ⟨Int.tmod_nonneg n (by omega), Int.tmod_lt_of_pos _ hn⟩
  · exact ⟨Int.tmod_nonneg n (by omega), Int.tmod_lt_of_pos _ hn⟩
theorem pickI_ok (g : Sh.Glob) (c n : Int) (hc : I64 c) (hn : n ≠ 0) : SCalls Tryz.prog g 52 [I c, I n] [] (I (pickI c n)) [] := pick_ok g c n hc.1 hc.2 hn

/-- A type as a value. -/
def valType (a b : Int) : Ty := if 1 + pickI a 6 < 5 then ⟨1 + pickI a 6, 0⟩ else ⟨5, 1 + pickI b 4⟩
theorem valType_ok (g : Sh.Glob) (a b : Int) (ha : I64 a) (hb : I64 b) : SCalls Tryz.prog g 35 [I a, I b] [] (tyT (valType a b)) [] := by
  refine call_of0 hmix tf_morainelaw03_ValType rfl ?_
  have h6 := pickI_lt (n := 6) (by decide) ha
  have h4 := pickI_lt (n := 4) (by decide) hb
  have w1 : IntKind.i64.wrap (1 + pickI a 6) = 1 + pickI a 6 := wrap64 (by omega) (by omega)
  have w2 : IntKind.i64.wrap (1 + pickI b 4) = 1 + pickI b 4 := wrap64 (by omega) (by omega)
  unfold valType
  simp only [vcA, seval, I, S]
  (with_reducible apply v_call); (· simp only [vcA, seval, I, S]; with_reducible rfl); (· exact pickI_ok g a 6 ha (by decide)); (· first | rfl | (simp only [vcA, seval]; omega)); (· simp only [vcA, seval, I, S]; with_reducible rfl)
  simp only [vcA, seval, I, S, w1]
  refine ⟨fun h => by rw [if_pos h]; rfl, fun h => ?_⟩
  rw [if_neg h]
  (with_reducible apply v_call); (· simp only [vcA, seval, I, S]; with_reducible rfl); (· exact pickI_ok g b 4 hb (by decide)); (· first | rfl | (simp only [vcA, seval]; omega)); (· simp only [vcA, seval, I, S]; with_reducible rfl)
  simp only [vcA, seval, I, S, w2]
  rfl
/-- A value without a list, as a value. -/
def valOne (k n : Int) (s : List UInt8) : V :=
  if k = 1 then .mk 1 (if n < -1000000000000000 ∨ 1000000000000000 < n then pickI n 1000000000000001 else n) [] []
  else if k = 2 then .mk 2 0 (valText s) []
  else if k = 3 ∨ k = 4 then .mk k (1 + pickI n 100000) [] [] else V.nil
theorem valOne_ok (g : Sh.Glob) (k j n : Int) (s : List UInt8) (hn : I64 n) (hs : s.length ≤ 9223372036854775807) : SCalls Tryz.prog g 53 [I k, .agg [I j, I n, S (str s)]] [] (nv (valOne k n s)) [] := by
  refine call_of0 hmix tf_morainelaw03_ValOne rfl ?_
  have hp := pickI_lt (n := 100000) (by decide) hn
  have w1 : IntKind.i64.wrap (1 + pickI n 100000) = 1 + pickI n 100000 := wrap64 (by omega) (by omega)
  unfold valOne
  by_cases k1 : k = 1
  · subst k1
    rw [if_pos rfl]
    simp only [vcA, seval, I, S]
    refine ⟨fun h => ?_, fun h => ⟨fun h' => ?_, fun h' => ?_⟩⟩
    · rw [if_pos (.inl h)]
      (with_reducible apply v_call); (· simp only [vcA, seval, I, S]; with_reducible rfl); (· exact pickI_ok g n 1000000000000001 hn (by decide)); (· first | rfl | (simp only [vcA, seval]; omega)); (· simp only [vcA, seval, I, S]; with_reducible rfl)
      simp only [vcA, seval, I, S]
      rfl
    · rw [if_pos (.inr h')]
      (with_reducible apply v_call); (· simp only [vcA, seval, I, S]; with_reducible rfl); (· exact pickI_ok g n 1000000000000001 hn (by decide)); (· first | rfl | (simp only [vcA, seval]; omega)); (· simp only [vcA, seval, I, S]; with_reducible rfl)
      simp only [vcA, seval, I, S]
      rfl
    · rw [if_neg (by omega)]; rfl
  rw [if_neg k1]
  by_cases k2 : k = 2
  · subst k2
    rw [if_pos rfl]
    simp only [vcA, seval, I, S]
    (with_reducible apply v_call); (· simp only [vcA, seval, I, S]; with_reducible rfl); (· exact valText_ok g s hs); (· first | rfl | (simp only [vcA, seval]; omega)); (· simp only [vcA, seval, I, S]; with_reducible rfl)
    simp only [vcA, seval, I, S]
    rfl
  rw [if_neg k2]
  by_cases k3 : k = 3 ∨ k = 4
  · rw [if_pos k3]
    rcases k3 with rfl | rfl
    · simp only [vcA, seval, I, S]
      (with_reducible apply v_call); (· simp only [vcA, seval, I, S]; with_reducible rfl); (· exact pickI_ok g n 100000 hn (by decide)); (· first | rfl | (simp only [vcA, seval]; omega)); (· simp only [vcA, seval, I, S]; with_reducible rfl)
      simp only [vcA, seval, I, S, w1]
      rfl
    · simp only [vcA, seval, I, S]
      (with_reducible apply v_call); (· simp only [vcA, seval, I, S]; with_reducible rfl); (· exact pickI_ok g n 100000 hn (by decide)); (· first | rfl | (simp only [vcA, seval]; omega)); (· simp only [vcA, seval, I, S]; with_reducible rfl)
      simp only [vcA, seval, I, S, w1]
      rfl
  · rw [if_neg k3]
    have k3' : ¬ k = 3 := fun h => k3 (.inl h)
    have k4' : ¬ k = 4 := fun h => k3 (.inr h)
    simp only [vcA, seval, I, S, k1, k2, k3', k4']
    rfl
theorem valOne_l (k n : Int) (s : List UInt8) : (valOne k n s).l = [] := by unfold valOne; (repeat' split) <;> rfl
end Go.Proofs.YthjphllpkcnehaaGreatDoor
end

section
/- Texts by the document's signs are texts by the decoder; what ValText, ValOne, fit make is right. Plain Lean. No statement of the program is proved here. -/
namespace Go.Proofs.YthjphllpkcnehaaGreatDoor
open Go Go.RowKit Go.Mor
theorem byte_lt (l : List UInt8) (i : Nat) : (l.getD i 0).toNat < 256 := (l.getD i 0).toNat_lt
theorem signL_decode (b : UInt8) (t : List UInt8) : signL (b :: t) = if (Lib.decodeL (b :: t)).1 = 65533 ∧ (Lib.decodeL (b :: t)).2 = 1 then 0 else (Lib.decodeL (b :: t)).2 := by
  rw [Lib.decodeL_N, signL, if_neg (by simp)]
  exact signN_decode _ _ _ _ _ (byte_lt _ _) (byte_lt _ _) (byte_lt _ _) (byte_lt _ _)
theorem rune_lo (n b0 b1 b2 b3 : Nat) : (b0 < 128 → (Lib.decodeN n b0 b1 b2 b3).1 = b0) ∧ (128 ≤ b0 → 128 ≤ (Lib.decodeN n b0 b1 b2 b3).1) := by
  unfold Lib.decodeN
  refine ⟨fun h => by rw [if_pos h], fun h => ?_⟩
  rw [if_neg (by omega)]
  (repeat' split) <;> simp only <;> omega
theorem plainR_lead (b : UInt8) (t : List UInt8) : plainR (Lib.decodeL (b :: t)).1 = (!decide (b.toNat < 32) && !(b.toNat == 127)) := by
  rw [Lib.decodeL_N]
  have h := rune_lo (b :: t).length ((b :: t).getD 0 0).toNat ((b :: t).getD 1 0).toNat ((b :: t).getD 2 0).toNat ((b :: t).getD 3 0).toNat
  have e : (b :: t).getD 0 0 = b := rfl
  rw [e] at h ⊢
  generalize (Lib.decodeN _ _ _ _ _).1 = r at h ⊢
  unfold plainR
  rw [Bool.eq_iff_iff]
  rcases Nat.lt_or_ge b.toNat 128 with hb | hb
  · rw [h.1 hb]; simp
  · have := h.2 hb
    simp; omega
theorem isText_eq : ∀ (n : Nat) (l : List UInt8), l.length ≤ n → isText l = (Lib.validD l && plainD l) := by
  intro n
  induction n with
  | zero => intro l hl; obtain rfl := List.eq_nil_of_length_eq_zero (by omega : l.length = 0); rfl
  | succ n ih =>
    intro l hl
    cases l with
    | nil => rfl
    | cons b t =>
      rw [isText_cons, Lib.validD_step _ (by simp), plainD_step _ (by simp), plainR_lead, signL_decode]
      have hw := Lib.decodeL_width (b :: t)
      split
      · simp
      · rw [ih _ (by simp at hl ⊢; omega)]
        have h0 : ((Lib.decodeL (b :: t)).2 == 0) = false := by simp; omega
        rw [h0]
        generalize Lib.validD _ = p
        generalize plainD _ = q
        cases p <;> cases q <;> simp
theorem signL_app (a c : List UInt8) (h : signL a ≠ 0) : signL (a ++ c) = signL a := by
  have hne : a ≠ [] := by rintro rfl; exact h rfl
  have hl := (signL_le a).1
  unfold signL at *
  rw [if_neg hne] at h hl ⊢
  rw [if_neg (by simp [hne])]
  have g : ∀ i, i < a.length → (a ++ c).getD i 0 = a.getD i 0 := fun i hi => by
    simp only [List.getD_eq_getElem?_getD]; rw [List.getElem?_append_left hi]
  have h0 : 0 < a.length := List.length_pos_iff.2 hne
  rw [g 0 h0]
  simp only [List.length_append]
  generalize hB0 : (a.getD 0 0).toNat = B0 at h hl ⊢
  have g1 : 1 < a.length → ((a ++ c).getD 1 0).toNat = (a.getD 1 0).toNat := fun h => by rw [g 1 h]
  have g2 : 2 < a.length → ((a ++ c).getD 2 0).toNat = (a.getD 2 0).toNat := fun h => by rw [g 2 h]
  have g3 : 3 < a.length → ((a ++ c).getD 3 0).toNat = (a.getD 3 0).toNat := fun h => by rw [g 3 h]
  generalize ((a ++ c).getD 1 0).toNat = C1 at g1 ⊢
  generalize ((a ++ c).getD 2 0).toNat = C2 at g2 ⊢
  generalize ((a ++ c).getD 3 0).toNat = C3 at g3 ⊢
  generalize (a.getD 1 0).toNat = D1 at g1 h hl ⊢
  generalize (a.getD 2 0).toNat = D2 at g2 h hl ⊢
  generalize (a.getD 3 0).toNat = D3 at g3 h hl ⊢
  unfold signN at *
  by_cases c1 : B0 < 128
  · rw [if_pos c1, if_pos c1]
  rw [if_neg c1] at h hl ⊢
  rw [if_neg c1]
  by_cases c2 : 194 ≤ B0 ∧ B0 ≤ 223
  · rw [if_pos c2] at h hl ⊢
    rw [if_pos c2]
    split at h
    · contradiction
    · rw [if_neg (by omega), if_neg (by assumption)]
  rw [if_neg c2] at h hl ⊢
  rw [if_neg c2]
  by_cases c3 : 224 ≤ B0 ∧ B0 ≤ 239
  · rw [if_pos c3] at h hl ⊢
    rw [if_pos c3]
    generalize (if B0 = 224 then 160 else 128) = lo at *
    generalize (if B0 = 237 then 159 else 191) = hi at *
    split at h
    · contradiction
    · rw [if_neg (by omega), if_neg (by assumption)]
  rw [if_neg c3] at h hl ⊢
  rw [if_neg c3]
  by_cases c4 : 240 ≤ B0 ∧ B0 ≤ 244
  · rw [if_pos c4] at h hl ⊢
    rw [if_pos c4]
    generalize (if B0 = 240 then 144 else 128) = lo at *
    generalize (if B0 = 244 then 143 else 191) = hi at *
    split at h
    · contradiction
    · rw [if_neg (by omega), if_neg (by assumption)]
  rw [if_neg c4] at h
  contradiction
theorem isText_app : ∀ (n : Nat) (a c : List UInt8), a.length ≤ n → isText a = true → isText c = true → isText (a ++ c) = true := by
  intro n
  induction n with
  | zero => intro a c ha _ hc; obtain rfl := List.eq_nil_of_length_eq_zero (by omega : a.length = 0); exact hc
  | succ n ih =>
    intro a c hl ha hc
    cases a with
    | nil => exact hc
    | cons b t =>
      rw [isText_cons] at ha
      simp only [Bool.and_eq_true, Bool.not_eq_true', beq_eq_false_iff_ne] at ha
      obtain ⟨⟨⟨h1, h2⟩, h3⟩, h4⟩ := ha
      have hs := signL_app (b :: t) c h1
      have hle := (signL_le (b :: t)).1
      rw [List.cons_append] at hs
      rw [List.cons_append, isText_cons, hs, ← List.cons_append, List.drop_append_of_le_length hle]
      rw [ih _ c (by simp at hl ⊢; omega) h4 hc]
      simp [h1, h2, h3]
theorem vtN_right : ∀ (n : Nat) (l out : List UInt8), isText out = true → out.length ≤ 20 → isText (vtN n l out) = true ∧ (vtN n l out).length ≤ 20 := by
  intro n
  induction n with
  | zero => intro l out h1 h2; exact ⟨h1, h2⟩
  | succ n ih =>
    intro l out h1 h2
    simp only [vtN]
    split
    · exact ⟨h1, h2⟩
    · rename_i hn
      refine ih _ _ ?_ ?_
      · split
        · rename_i ht; exact isText_app _ _ _ (Nat.le_refl _) h1 ht
        · exact h1
      · split
        · have hl : 0 < l.length := List.length_pos_iff.2 (fun h => hn (.inl h))
          have hs := stepN_le hl
          have : ¬ 17 ≤ out.length := fun h => hn (.inr h)
          simp only [List.length_append, List.length_take]; omega
        · exact h2
theorem valText_right (l : List UInt8) : (valText l).length ≤ 20 ∧ isText (valText l) = true := (vtN_right _ l [] rfl (by simp)).symm
theorem valText_rt (l : List UInt8) : rightText (valText l) = true := by
  obtain ⟨h1, h2⟩ := valText_right l
  rw [isText_eq _ _ (Nat.le_refl _)] at h2
  unfold rightText
  simp only [Bool.and_eq_true] at h2 ⊢
  exact ⟨by simp; omega, h2⟩
theorem right1_num {n : Int} (h1 : -1000000000000000 ≤ n) (h2 : n ≤ 1000000000000000) : right1 (.mk 1 n [] []) = true := by simp [right1, V.k, bare, V.n, V.s, V.l, h1, h2]
theorem right1_ref {k n : Int} (hk : k = 3 ∨ k = 4) (h : 1 ≤ n ∧ n ≤ 100000) : right1 (.mk k n [] []) = true := by
  rcases hk with rfl | rfl <;> simp [right1, V.k, bare, V.n, V.s, V.l, rightID, h.1, h.2]
theorem valOne_right (k n : Int) (s : List UInt8) (hn : I64 n) : right1 (valOne k n s) = true := by
  have h1 := pickI_lt (n := 1000000000000001) (by decide) hn
  have h2 := pickI_lt (n := 100000) (by decide) hn
  unfold valOne
  split
  · split
    · exact right1_num (by omega) (by omega)
    · exact right1_num (by omega) (by omega)
  · split
    · simp [right1, V.k, V.n, V.s, V.l, valText_rt]
    · split
      · rename_i h
        exact right1_ref h ⟨by omega, by omega⟩
      · rfl
theorem valOne_k (k n : Int) (s : List UInt8) (h : 1 ≤ k ∧ k ≤ 4) : (valOne k n s).k = k := by
  unfold valOne
  split
  · rename_i h; simp [V.k, h]
  · split
    · rename_i h; simp [V.k, h]
    · rw [if_pos (by omega)]; rfl
theorem valType_right (a b : Int) (ha : I64 a) (hb : I64 b) : rightType (valType a b) = true := by
  have h1 := pickI_lt (n := 6) (by decide) ha
  have h2 := pickI_lt (n := 4) (by decide) hb
  unfold valType rightType
  split
  · rw [if_neg (by simp only; omega)]; exact decide_eq_true ⟨by show (1 : Int) ≤ 1 + pickI a 6; omega, by show 1 + pickI a 6 ≤ 4; omega, rfl⟩
  · rw [if_pos rfl]; exact decide_eq_true ⟨by show (1 : Int) ≤ 1 + pickI b 4; omega, by show 1 + pickI b 4 ≤ 4; omega⟩
theorem ty_cases {t : Ty} (h : rightType t = true) : (t.k = 5 ∧ 1 ≤ t.o ∧ t.o ≤ 4) ∨ (t.k ≠ 5 ∧ 1 ≤ t.k ∧ t.k ≤ 4 ∧ t.o = 0) := by
  unfold rightType at h
  split at h
  · simp at h; exact .inl ⟨by assumption, h⟩
  · simp at h; exact .inr ⟨by assumption, h⟩
theorem zero_fits {t : Ty} (ht : rightType t = true) : fitsV (zeroV t) t = true := by
  unfold fitsV zeroV
  rcases ty_cases ht with ⟨h5, h1, h4⟩ | ⟨h5, h1, h4, ho⟩
  · simp [ht, h5, rightV, ofKind, V.k, V.n, V.s, V.l]
  · rw [ht]
    have : t.k = 1 ∨ t.k = 2 ∨ t.k = 3 ∨ t.k = 4 := by omega
    rcases this with h | h | h | h <;> simp [h, rightV, right1, bare, ofKind, V.k, V.n, V.s, V.l, V.nil, rightText] <;> first | rfl | exact ⟨rfl, rfl⟩
end Go.Proofs.YthjphllpkcnehaaGreatDoor
end

section
/- The code of some functions, as Sh has it (printed by a program). No statement of the program is proved here. -/
namespace Go.Sh.Cd2
open Go Go.Sh
set_option maxRecDepth 100000
-- morainelaw03.ValRefs
abbrev c_morainelaw03_ValRefs_0 : SCode := .reg [([1], [⟨(some 1), none, none, .box (.tmp 0)⟩, ⟨(some 2), none, none, .mov (.val (.bool false))⟩])] [0, 2]
abbrev c_morainelaw03_ValRefs_1 : SCode := .reg [([2080, 2081, 2082, 2083], [⟨(some 20), none, none, .call 15 0 []⟩, ⟨(some 3), none, none, .mov (.tmp 20)⟩])] [20]
abbrev c_morainelaw03_ValRefs_2 : SCode := .reg [([2088, 2089, 2090, 2091, 4], [⟨(some 21), none, none, .ld true 4 (.tmp 1)⟩, ⟨(some 22), none, none, .call 16 0 [(.tmp 21)]⟩, ⟨(some 4), none, none, .new [(.int .i64 0), (.int .i64 0), (.string ⟨#[]⟩), (.slice none 0 0)]⟩, ⟨none, none, none, .st 4 (.tmp 4) (.tmp 22)⟩])] [1, 21, 22]
abbrev c_morainelaw03_ValRefs_3 : SCode := .reg [([], [⟨(some 5), none, none, .mov (.val (.slice none 0 0))⟩])] []
abbrev c_morainelaw03_ValRefs_4 : SCode := .reg [([], [⟨(some 6), none, none, .mov (.val (.slice none 0 0))⟩])] []
abbrev c_morainelaw03_ValRefs_5 : SCode := .reg [([24], [⟨(some 23), none, none, .ld true 4 (.tmp 4)⟩, ⟨(some 24), none, none, .bslO 42 4 [(.tmp 23)]⟩, ⟨(some 25), none, none, .fldA 3 (.tmp 4)⟩, ⟨(some 26), none, none, .ld false 1 (.tmp 25)⟩, ⟨(some 27), none, none, .app 42 4 56 (.tmp 24) (.tmp 26)⟩, ⟨(some 28), none, none, .len (.tmp 27)⟩, ⟨(some 29), none, none, .mov (.val (.int .i64 0))⟩]), ([24], [⟨(some 23), none, none, .ld true 4 (.tmp 4)⟩, ⟨(some 24), none, none, .bslO 42 4 [(.tmp 23)]⟩, ⟨(some 25), none, none, .fldA 3 (.tmp 4)⟩, ⟨(some 26), none, none, .ld false 1 (.tmp 25)⟩, ⟨(some 27), none, none, .app 42 4 56 (.tmp 24) (.tmp 26)⟩, ⟨(some 28), none, none, .len (.tmp 27)⟩, ⟨(some 29), none, none, .mov (.val (.int .i64 0))⟩])] [23, 24, 25, 26]
abbrev c_morainelaw03_ValRefs_6 : SCode := .reg [([], [⟨(some 30), none, none, .bin .lss 3 (.tmp 29) (.tmp 28)⟩])] []
abbrev c_morainelaw03_ValRefs_7 : SCode := .reg [([8], [⟨(some 31), none, none, .idxA 4 (.tmp 27) (.tmp 29)⟩, ⟨(some 32), none, none, .ld true 4 (.tmp 31)⟩, ⟨(some 8), none, none, .new [(.int .i64 0), (.int .i64 0), (.string ⟨#[]⟩), (.slice none 0 0)]⟩, ⟨none, none, none, .st 4 (.tmp 8) (.tmp 32)⟩])] [30, 31, 32]
abbrev c_morainelaw03_ValRefs_8 : SCode := .reg [([], [⟨(some 33), none, none, .fldA 0 (.tmp 8)⟩, ⟨(some 34), none, none, .ld false 1 (.tmp 33)⟩, ⟨(some 35), none, none, .bin .eql 3 (.tmp 34) (.val (.int .i64 3))⟩])] [33, 34]
abbrev c_morainelaw03_ValRefs_9 : SCode := .reg [([], [⟨(some 36), none, none, .mov (.tmp 5)⟩, ⟨(some 37), none, none, .fldA 1 (.tmp 8)⟩, ⟨(some 38), none, none, .ld false 1 (.tmp 37)⟩, ⟨(some 39), none, none, .bsl 1 [(.tmp 38)]⟩, ⟨(some 40), none, none, .app 3 1 8 (.tmp 36) (.tmp 39)⟩, ⟨(some 5), none, none, .mov (.tmp 40)⟩]), ([40], [⟨(some 36), none, none, .mov (.tmp 5)⟩, ⟨(some 37), none, none, .fldA 1 (.tmp 8)⟩, ⟨(some 38), none, none, .ld false 1 (.tmp 37)⟩, ⟨(some 39), none, none, .bsl 1 [(.tmp 38)]⟩, ⟨(some 40), none, none, .appN 3 1 8 (.tmp 36) (.tmp 39)⟩, ⟨(some 5), none, none, .mov (.tmp 40)⟩])] [35, 36, 37, 38, 39, 40]
abbrev c_morainelaw03_ValRefs_10 : SCode := .reg [([], [⟨(some 41), none, none, .fldA 0 (.tmp 8)⟩, ⟨(some 42), none, none, .ld false 1 (.tmp 41)⟩, ⟨(some 43), none, none, .bin .eql 3 (.tmp 42) (.val (.int .i64 4))⟩])] [35, 41, 42]
abbrev c_morainelaw03_ValRefs_11 : SCode := .reg [([], [⟨(some 44), none, none, .mov (.tmp 6)⟩, ⟨(some 45), none, none, .fldA 1 (.tmp 8)⟩, ⟨(some 46), none, none, .ld false 1 (.tmp 45)⟩, ⟨(some 47), none, none, .bsl 1 [(.tmp 46)]⟩, ⟨(some 48), none, none, .app 3 1 8 (.tmp 44) (.tmp 47)⟩, ⟨(some 6), none, none, .mov (.tmp 48)⟩]), ([48], [⟨(some 44), none, none, .mov (.tmp 6)⟩, ⟨(some 45), none, none, .fldA 1 (.tmp 8)⟩, ⟨(some 46), none, none, .ld false 1 (.tmp 45)⟩, ⟨(some 47), none, none, .bsl 1 [(.tmp 46)]⟩, ⟨(some 48), none, none, .appN 3 1 8 (.tmp 44) (.tmp 47)⟩, ⟨(some 6), none, none, .mov (.tmp 48)⟩])] [8, 43, 44, 45, 46, 47, 48]
abbrev c_morainelaw03_ValRefs_12 : SCode := .reg [([], [⟨(some 49), none, none, .bin .add 3 (.tmp 29) (.val (.int .i64 1))⟩, ⟨(some 29), none, none, .mov (.tmp 49)⟩])] [8, 43, 49]
abbrev c_morainelaw03_ValRefs_13 : SCode := (.seq c_morainelaw03_ValRefs_6 (.seq (.cond (.tmp 30) .skip (.exit 0)) (.seq (.block 1 (.seq c_morainelaw03_ValRefs_7 (.seq (.seq c_morainelaw03_ValRefs_8 (.cond (.tmp 35) c_morainelaw03_ValRefs_9 .skip)) (.seq c_morainelaw03_ValRefs_10 (.cond (.tmp 43) c_morainelaw03_ValRefs_11 .skip))))) c_morainelaw03_ValRefs_12)))
abbrev c_morainelaw03_ValRefs_14 : SCode := .reg [([2208, 2209, 2210, 2211], [⟨(some 51), none, none, .ld true 4 (.tmp 4)⟩, ⟨(some 52), none, none, .call 17 0 [(.tmp 51)]⟩, ⟨(some 50), none, none, .mov (.tmp 52)⟩, ⟨(some 53), none, none, .ext (.tmp 50) 0⟩, ⟨(some 54), none, none, .ext (.tmp 50) 1⟩, ⟨(some 9), none, none, .mov (.tmp 53)⟩, ⟨(some 10), none, none, .mov (.tmp 54)⟩])] [27, 28, 29, 50, 51, 52, 53, 54]
abbrev c_morainelaw03_ValRefs_15 : SCode := .reg [([2228, 2229, 2230, 2231, 11], [⟨(some 56), none, none, .mov (.tmp 9)⟩, ⟨(some 57), none, none, .call 18 0 [(.tmp 56), (.val (.int .i64 0))]⟩, ⟨(some 55), none, none, .mov (.tmp 57)⟩, ⟨(some 58), none, none, .ext (.tmp 55) 0⟩, ⟨(some 59), none, none, .ext (.tmp 55) 1⟩, ⟨(some 60), none, none, .ext (.tmp 55) 2⟩, ⟨(some 11), none, none, .new [(.int .i64 0), (.int .i64 0), (.string ⟨#[]⟩), (.slice none 0 0)]⟩, ⟨none, none, none, .st 4 (.tmp 11) (.tmp 58)⟩, ⟨(some 12), none, none, .mov (.tmp 59)⟩, ⟨(some 13), none, none, .mov (.tmp 60)⟩])] [9, 12, 55, 56, 57, 58, 59, 60]
abbrev c_morainelaw03_ValRefs_16 : SCode := .reg [([2252, 2253, 2254, 2255], [⟨(some 62), none, none, .ld true 4 (.tmp 4)⟩, ⟨(some 63), none, none, .call 20 0 [(.tmp 62)]⟩, ⟨(some 61), none, none, .mov (.tmp 63)⟩, ⟨(some 64), none, none, .ext (.tmp 61) 0⟩, ⟨(some 65), none, none, .ext (.tmp 61) 1⟩, ⟨(some 14), none, none, .mov (.tmp 64)⟩, ⟨(some 15), none, none, .mov (.tmp 65)⟩])] [61, 62, 63, 64, 65]
abbrev c_morainelaw03_ValRefs_17 : SCode := .reg [([2272, 2273, 2274, 2275, 16], [⟨(some 67), none, none, .mov (.tmp 14)⟩, ⟨(some 68), none, none, .call 21 0 [(.tmp 67), (.val (.int .i64 0))]⟩, ⟨(some 66), none, none, .mov (.tmp 68)⟩, ⟨(some 69), none, none, .ext (.tmp 66) 0⟩, ⟨(some 70), none, none, .ext (.tmp 66) 1⟩, ⟨(some 71), none, none, .ext (.tmp 66) 2⟩, ⟨(some 16), none, none, .new [(.int .i64 0), (.int .i64 0), (.string ⟨#[]⟩), (.slice none 0 0)]⟩, ⟨none, none, none, .st 4 (.tmp 16) (.tmp 69)⟩, ⟨(some 17), none, none, .mov (.tmp 70)⟩, ⟨(some 18), none, none, .mov (.tmp 71)⟩])] [14, 17, 66, 67, 68, 69, 70, 71]
abbrev c_morainelaw03_ValRefs_18 : SCode := .reg [([19], [⟨(some 72), none, none, .ld true 4 (.tmp 4)⟩, ⟨(some 19), none, none, .new [(.int .i64 0), (.int .i64 0), (.string ⟨#[]⟩), (.slice none 0 0)]⟩, ⟨none, none, none, .st 4 (.tmp 19) (.tmp 72)⟩])] [72]
abbrev c_morainelaw03_ValRefs_19 : SCode := .reg [([], [⟨(some 73), none, none, .fldA 1 (.tmp 19)⟩, ⟨none, none, none, .st 1 (.tmp 73) (.val (.int .i64 1152921504606846976))⟩])] [73]
abbrev c_morainelaw03_ValRefs_20 : SCode := .reg [([2372, 2373, 2374, 2375, 2380, 2381, 2382, 2383, 2396, 2397, 2398, 2399, 2404, 2405, 2406, 2407, 2420, 2421, 2422, 2423, 2428, 2429, 2430, 2431, 2444, 2445, 2446, 2447, 2452, 2453, 2454, 2455, 2468, 2469, 2470, 2471, 2492, 2493, 2494, 2495], [⟨(some 74), none, none, .mov (.tmp 3)⟩, ⟨(some 75), none, none, .mov (.tmp 74)⟩, ⟨(some 76), (some (75, true)), none, .mov (.tmp 10)⟩, ⟨(some 77), (some (75, true)), none, .bin .eql 28 (.tmp 76) (.val (.int .i64 0))⟩, ⟨(some 78), none, none, .pick (.tmp 75) (.tmp 77) (.val (.bool false))⟩, ⟨(some 79), none, none, .mov (.tmp 78)⟩, ⟨(some 80), (some (79, true)), none, .mov (.tmp 13)⟩, ⟨(some 81), (some (79, true)), none, .bin .eql 28 (.tmp 80) (.val (.int .i64 0))⟩, ⟨(some 82), none, none, .pick (.tmp 79) (.tmp 81) (.val (.bool false))⟩, ⟨(some 83), none, none, .mov (.tmp 82)⟩, ⟨(some 84), (some (83, true)), none, .mov (.tmp 15)⟩, ⟨(some 85), (some (83, true)), none, .bin .eql 28 (.tmp 84) (.val (.int .i64 0))⟩, ⟨(some 86), none, none, .pick (.tmp 83) (.tmp 85) (.val (.bool false))⟩, ⟨(some 87), none, none, .mov (.tmp 86)⟩, ⟨(some 88), (some (87, true)), none, .mov (.tmp 18)⟩, ⟨(some 89), (some (87, true)), none, .bin .eql 28 (.tmp 88) (.val (.int .i64 0))⟩, ⟨(some 90), none, none, .pick (.tmp 87) (.tmp 89) (.val (.bool false))⟩, ⟨(some 91), none, none, .mov (.tmp 90)⟩, ⟨(some 92), (some (91, true)), none, .ld true 4 (.tmp 4)⟩, ⟨(some 93), (some (91, true)), none, .call 23 0 [(.tmp 92)]⟩, ⟨(some 94), (some (91, true)), none, .mov (.tmp 5)⟩, ⟨(some 95), (some (91, true)), none, .call 22 0 [(.tmp 93), (.tmp 94)]⟩, ⟨(some 96), none, none, .pick (.tmp 91) (.tmp 95) (.val (.bool false))⟩, ⟨(some 97), none, none, .mov (.tmp 96)⟩, ⟨(some 98), (some (97, true)), none, .ld true 4 (.tmp 4)⟩, ⟨(some 99), (some (97, true)), none, .call 24 0 [(.tmp 98)]⟩, ⟨(some 100), (some (97, true)), none, .mov (.tmp 6)⟩, ⟨(some 101), (some (97, true)), none, .call 22 0 [(.tmp 99), (.tmp 100)]⟩, ⟨(some 102), none, none, .pick (.tmp 97) (.tmp 101) (.val (.bool false))⟩, ⟨(some 103), none, none, .mov (.tmp 102)⟩, ⟨(some 104), (some (103, true)), none, .ld true 4 (.tmp 11)⟩, ⟨(some 105), (some (103, true)), none, .call 23 0 [(.tmp 104)]⟩, ⟨(some 106), (some (103, true)), none, .mov (.tmp 5)⟩, ⟨(some 107), (some (103, true)), none, .call 22 0 [(.tmp 105), (.tmp 106)]⟩, ⟨(some 108), none, none, .pick (.tmp 103) (.tmp 107) (.val (.bool false))⟩, ⟨(some 109), none, none, .mov (.tmp 108)⟩, ⟨(some 110), (some (109, true)), none, .ld true 4 (.tmp 16)⟩, ⟨(some 111), (some (109, true)), none, .call 24 0 [(.tmp 110)]⟩, ⟨(some 112), (some (109, true)), none, .mov (.tmp 6)⟩, ⟨(some 113), (some (109, true)), none, .call 22 0 [(.tmp 111), (.tmp 112)]⟩, ⟨(some 114), none, none, .pick (.tmp 109) (.tmp 113) (.val (.bool false))⟩, ⟨(some 115), none, none, .mov (.tmp 114)⟩, ⟨(some 116), (some (115, true)), none, .ld true 4 (.tmp 19)⟩, ⟨(some 117), (some (115, true)), none, .call 23 0 [(.tmp 116)]⟩, ⟨(some 118), (some (115, true)), none, .len (.tmp 117)⟩, ⟨(some 119), (some (115, true)), none, .bin .eql 3 (.tmp 118) (.val (.int .i64 0))⟩, ⟨(some 120), none, none, .pick (.tmp 115) (.tmp 119) (.val (.bool false))⟩, ⟨(some 121), none, none, .mov (.tmp 120)⟩, ⟨(some 122), (some (121, true)), none, .ld true 4 (.tmp 19)⟩, ⟨(some 123), (some (121, true)), none, .call 24 0 [(.tmp 122)]⟩, ⟨(some 124), (some (121, true)), none, .len (.tmp 123)⟩, ⟨(some 125), (some (121, true)), none, .bin .eql 3 (.tmp 124) (.val (.int .i64 0))⟩, ⟨(some 126), none, none, .pick (.tmp 121) (.tmp 125) (.val (.bool false))⟩, ⟨(some 2), none, none, .mov (.tmp 126)⟩])] [3, 4, 5, 6, 10, 11, 13, 15, 16, 18, 19, 74, 75, 76, 77, 78, 79, 80, 81, 82, 83, 84, 85, 86, 87, 88, 89, 90, 91, 92, 93, 94, 95, 96, 97, 98, 99, 100, 101, 102, 103, 104, 105, 106, 107, 108, 109, 110, 111, 112, 113, 114, 115, 116, 117, 118, 119, 120, 121, 122, 123, 124, 125, 126]
abbrev F_morainelaw03_ValRefs : SFunc := ⟨127, (.seq c_morainelaw03_ValRefs_0 (.seq c_morainelaw03_ValRefs_1 (.seq c_morainelaw03_ValRefs_2 (.seq c_morainelaw03_ValRefs_3 (.seq c_morainelaw03_ValRefs_4 (.seq (.seq c_morainelaw03_ValRefs_5 (.block 0 (.loop c_morainelaw03_ValRefs_13))) (.seq c_morainelaw03_ValRefs_14 (.seq c_morainelaw03_ValRefs_15 (.seq c_morainelaw03_ValRefs_16 (.seq c_morainelaw03_ValRefs_17 (.seq c_morainelaw03_ValRefs_18 (.seq c_morainelaw03_ValRefs_19 (.seq c_morainelaw03_ValRefs_20 .ret))))))))))))), [.tmp 2], false⟩
theorem tf_morainelaw03_ValRefs : transFunc Go.Proofs.Tryz.prog 6 (hintT [(20, 0), (22, 0), (24, 1), (27, 0), (39, 0), (47, 0), (52, 0), (57, 0), (63, 0), (68, 0), (93, 0), (95, 0), (99, 0), (101, 0), (105, 0), (107, 0), (111, 0), (113, 0), (117, 0), (123, 0)]) (fpT []) (killT [(0, [0, 2]), (1, [20]), (2, [1, 21, 22]), (5, [23, 24, 25, 26]), (7, [30, 31, 32]), (8, [33, 34]), (9, [35, 36, 37, 38, 39, 40]), (10, [35, 41, 42]), (11, [8, 43, 44, 45, 46, 47, 48]), (12, [8, 43, 49]), (13, [27, 28, 29, 50, 51, 52, 53, 54]), (14, [9, 12, 55, 56, 57, 58, 59, 60]), (15, [61, 62, 63, 64, 65]), (16, [14, 17, 66, 67, 68, 69, 70, 71]), (17, [72]), (18, [73]), (19, [3, 4, 5, 6, 10, 11, 13, 15, 16, 18, 19, 74, 75, 76, 77, 78, 79, 80, 81, 82, 83, 84, 85, 86, 87, 88, 89, 90, 91, 92, 93, 94, 95, 96, 97, 98, 99, 100, 101, 102, 103, 104, 105, 106, 107, 108, 109, 110, 111, 112, 113, 114, 115, 116, 117, 118, 119, 120, 121, 122, 123, 124, 125, 126])]) false = some F_morainelaw03_ValRefs := by kernel_rfl
-- val.Text
abbrev c_val_Text_0 : SCode := .reg [([1], [⟨(some 1), none, none, .box (.tmp 0)⟩, ⟨(some 2), none, none, .mov (.val (.string ⟨#[]⟩))⟩, ⟨(some 3), none, none, .mov (.val (.int .i64 0))⟩])] [0, 2, 3]
abbrev c_val_Text_1 : SCode := .reg [([2020, 2021, 2022, 2023], [⟨(some 4), none, none, .ld true 4 (.tmp 1)⟩, ⟨(some 5), none, none, .call 28 0 [(.tmp 4)]⟩, ⟨(some 6), none, none, .un .not (.tmp 5)⟩])] [4, 5]
abbrev c_val_Text_2 : SCode := .reg [([], [⟨(some 2), none, none, .mov (.val (.string ⟨#[]⟩))⟩, ⟨(some 3), none, none, .mov (.val (.int .i64 30))⟩])] [1, 6]
abbrev c_val_Text_3 : SCode := .reg [([2032, 2033, 2034, 2035], [⟨(some 7), none, none, .ld true 4 (.tmp 1)⟩, ⟨(some 8), none, none, .call 54 0 [(.tmp 7)]⟩, ⟨(some 2), none, none, .mov (.tmp 8)⟩, ⟨(some 3), none, none, .mov (.val (.int .i64 0))⟩])] [1, 6, 7, 8]
abbrev F_val_Text : SFunc := ⟨9, (.seq c_val_Text_0 (.seq (.seq c_val_Text_1 (.cond (.tmp 6) (.seq c_val_Text_2 .ret) .skip)) (.seq c_val_Text_3 .ret))), [.tmp 2, .tmp 3], false⟩
theorem tf_val_Text : transFunc Go.Proofs.Tryz.prog 17 (hintT [(5, 0), (8, 0)]) (fpT []) (killT [(0, [0, 2, 3]), (1, [4, 5]), (2, [1, 6]), (3, [1, 6, 7, 8])]) false = some F_val_Text := by kernel_rfl
-- morainelaw03.nums
abbrev c_morainelaw03_nums_0 : SCode := .reg [([], [⟨(some 4), none, none, .mov (.val (.bool false))⟩])] [4]
abbrev c_morainelaw03_nums_1 : SCode := .reg [([], [⟨(some 6), none, none, .mov (.tmp 0)⟩, ⟨(some 7), none, none, .len (.tmp 6)⟩, ⟨(some 8), none, none, .mov (.tmp 1)⟩, ⟨(some 9), none, none, .len (.tmp 8)⟩, ⟨(some 10), none, none, .bin .neq 3 (.tmp 7) (.tmp 9)⟩])] [6, 7, 8, 9]
abbrev c_morainelaw03_nums_2 : SCode := .reg [([], [⟨(some 4), none, none, .mov (.val (.bool false))⟩])] [0, 1, 10]
abbrev c_morainelaw03_nums_3 : SCode := .reg [([], [⟨(some 5), none, none, .mov (.val (.int .i64 0))⟩])] [4, 10]
abbrev c_morainelaw03_nums_4 : SCode := .reg [([], [⟨(some 11), none, none, .mov (.tmp 5)⟩, ⟨(some 12), none, none, .mov (.tmp 0)⟩, ⟨(some 13), none, none, .len (.tmp 12)⟩, ⟨(some 14), none, none, .bin .lss 3 (.tmp 11) (.tmp 13)⟩])] [11, 12, 13]
abbrev c_morainelaw03_nums_5 : SCode := .reg [([], [⟨(some 17), none, none, .mov (.tmp 0)⟩, ⟨(some 18), none, none, .mov (.tmp 5)⟩, ⟨(some 19), none, none, .idxA 1 (.tmp 17) (.tmp 18)⟩, ⟨(some 20), none, none, .ld false 1 (.tmp 19)⟩, ⟨(some 21), none, none, .mov (.tmp 1)⟩, ⟨(some 22), none, none, .mov (.tmp 5)⟩, ⟨(some 23), none, none, .idxA 1 (.tmp 21) (.tmp 22)⟩, ⟨(some 24), none, none, .ld false 1 (.tmp 23)⟩, ⟨(some 25), none, none, .bin .neq 3 (.tmp 20) (.tmp 24)⟩])] [14, 17, 18, 19, 20, 21, 22, 23, 24]
abbrev c_morainelaw03_nums_6 : SCode := .reg [([], [⟨(some 4), none, none, .mov (.val (.bool false))⟩])] [0, 1, 5, 25]
abbrev c_morainelaw03_nums_7 : SCode := .reg [([], [⟨(some 15), none, none, .mov (.tmp 5)⟩, ⟨(some 16), none, none, .bin .add 3 (.tmp 15) (.val (.int .i64 1))⟩, ⟨(some 5), none, none, .mov (.tmp 16)⟩])] [4, 15, 16, 25]
abbrev c_morainelaw03_nums_8 : SCode := (.seq (.seq c_morainelaw03_nums_4 (.cond (.tmp 14) .skip (.exit 0))) (.seq (.block 1 (.seq c_morainelaw03_nums_5 (.cond (.tmp 25) (.seq c_morainelaw03_nums_6 .ret) .skip))) c_morainelaw03_nums_7))
abbrev c_morainelaw03_nums_9 : SCode := .reg [([], [⟨(some 4), none, none, .mov (.val (.bool true))⟩])] [0, 1, 5]
abbrev F_morainelaw03_nums : SFunc := ⟨26, (.seq c_morainelaw03_nums_0 (.seq (.seq c_morainelaw03_nums_1 (.cond (.tmp 10) (.seq c_morainelaw03_nums_2 .ret) .skip)) (.seq (.seq c_morainelaw03_nums_3 (.block 0 (.loop c_morainelaw03_nums_8))) (.seq c_morainelaw03_nums_9 .ret)))), [.tmp 4], false⟩
theorem tf_morainelaw03_nums : transFunc Go.Proofs.Tryz.prog 22 (hintT []) (fpT []) (killT [(0, [4]), (1, [6, 7, 8, 9]), (2, [0, 1, 10]), (3, [4, 10]), (4, [11, 12, 13]), (6, [14, 17, 18, 19, 20, 21, 22, 23, 24]), (7, [0, 1, 5, 25]), (5, [4, 15, 16, 25]), (8, [0, 1, 5])]) false = some F_morainelaw03_nums := by kernel_rfl
-- val.Refs
abbrev c_val_Refs_0 : SCode := .reg [([1], [⟨(some 1), none, none, .box (.tmp 0)⟩, ⟨(some 2), none, none, .mov (.val (.slice none 0 0))⟩])] [0, 2]
abbrev c_val_Refs_1 : SCode := .reg [([2016, 2017, 2018, 2019], [⟨(some 3), none, none, .ld true 4 (.tmp 1)⟩, ⟨(some 4), none, none, .call 60 0 [(.tmp 3), (.val (.int .i64 3))]⟩, ⟨(some 2), none, none, .mov (.tmp 4)⟩])] [1, 3, 4]
abbrev F_val_Refs : SFunc := ⟨5, (.seq c_val_Refs_0 (.seq c_val_Refs_1 .ret)), [.tmp 2], false⟩
theorem tf_val_Refs : transFunc Go.Proofs.Tryz.prog 23 (hintT [(4, 0)]) (fpT []) (killT [(0, [0, 2]), (1, [1, 3, 4])]) false = some F_val_Refs := by kernel_rfl
-- val.Weaks
abbrev c_val_Weaks_0 : SCode := .reg [([1], [⟨(some 1), none, none, .box (.tmp 0)⟩, ⟨(some 2), none, none, .mov (.val (.slice none 0 0))⟩])] [0, 2]
abbrev c_val_Weaks_1 : SCode := .reg [([2016, 2017, 2018, 2019], [⟨(some 3), none, none, .ld true 4 (.tmp 1)⟩, ⟨(some 4), none, none, .call 60 0 [(.tmp 3), (.val (.int .i64 4))]⟩, ⟨(some 2), none, none, .mov (.tmp 4)⟩])] [1, 3, 4]
abbrev F_val_Weaks : SFunc := ⟨5, (.seq c_val_Weaks_0 (.seq c_val_Weaks_1 .ret)), [.tmp 2], false⟩
theorem tf_val_Weaks : transFunc Go.Proofs.Tryz.prog 24 (hintT [(4, 0)]) (fpT []) (killT [(0, [0, 2]), (1, [1, 3, 4])]) false = some F_val_Weaks := by kernel_rfl
-- moraineref03.Right
abbrev c_moraineref03_Right_0 : SCode := .reg [([1], [⟨(some 1), none, none, .box (.tmp 0)⟩, ⟨(some 2), none, none, .mov (.val (.bool false))⟩])] [0, 2]
abbrev c_moraineref03_Right_1 : SCode := .reg [([], [⟨(some 6), none, none, .fldA 0 (.tmp 1)⟩, ⟨(some 7), none, none, .ld false 1 (.tmp 6)⟩])] [6]
abbrev c_moraineref03_Right_2 : SCode := .reg [([], [⟨(some 9), none, none, .bin .eql 3 (.tmp 7) (.val (.int .i64 0))⟩, ⟨(some 8), none, none, .mov (.tmp 9)⟩])] [9]
abbrev c_moraineref03_Right_3 : SCode := .reg [([], [⟨(some 10), none, none, .fldA 1 (.tmp 1)⟩, ⟨(some 11), none, none, .ld false 1 (.tmp 10)⟩, ⟨(some 12), none, none, .bin .eql 3 (.tmp 11) (.val (.int .i64 0))⟩, ⟨(some 13), none, none, .mov (.tmp 12)⟩, ⟨(some 14), (some (13, true)), none, .fldA 2 (.tmp 1)⟩, ⟨(some 15), (some (13, true)), none, .ld false 1 (.tmp 14)⟩, ⟨(some 16), (some (13, true)), none, .bin .eql 9 (.tmp 15) (.val (.string ⟨#[]⟩))⟩, ⟨(some 17), none, none, .pick (.tmp 13) (.tmp 16) (.val (.bool false))⟩, ⟨(some 18), none, none, .mov (.tmp 17)⟩, ⟨(some 19), (some (18, true)), none, .fldA 3 (.tmp 1)⟩, ⟨(some 20), (some (18, true)), none, .ld false 1 (.tmp 19)⟩, ⟨(some 21), (some (18, true)), none, .len (.tmp 20)⟩, ⟨(some 22), (some (18, true)), none, .bin .eql 3 (.tmp 21) (.val (.int .i64 0))⟩, ⟨(some 23), none, none, .pick (.tmp 18) (.tmp 22) (.val (.bool false))⟩, ⟨(some 2), none, none, .mov (.tmp 23)⟩])] [1, 7, 8, 10, 11, 12, 13, 14, 15, 16, 17, 18, 19, 20, 21, 22, 23]
abbrev c_moraineref03_Right_4 : SCode := .reg [([], [⟨(some 25), none, none, .bin .eql 3 (.tmp 7) (.val (.int .i64 1))⟩, ⟨(some 24), none, none, .mov (.tmp 25)⟩])] [8, 25]
abbrev c_moraineref03_Right_5 : SCode := .reg [([], [⟨(some 26), none, none, .fldA 1 (.tmp 1)⟩, ⟨(some 27), none, none, .ld false 1 (.tmp 26)⟩, ⟨(some 28), none, none, .bin .geq 3 (.tmp 27) (.val (.int .i64 (-1000000000000000)))⟩, ⟨(some 29), none, none, .mov (.tmp 28)⟩, ⟨(some 30), (some (29, true)), none, .fldA 1 (.tmp 1)⟩, ⟨(some 31), (some (29, true)), none, .ld false 1 (.tmp 30)⟩, ⟨(some 32), (some (29, true)), none, .bin .leq 3 (.tmp 31) (.val (.int .i64 1000000000000000))⟩, ⟨(some 33), none, none, .pick (.tmp 29) (.tmp 32) (.val (.bool false))⟩, ⟨(some 34), none, none, .mov (.tmp 33)⟩, ⟨(some 35), (some (34, true)), none, .fldA 2 (.tmp 1)⟩, ⟨(some 36), (some (34, true)), none, .ld false 1 (.tmp 35)⟩, ⟨(some 37), (some (34, true)), none, .bin .eql 9 (.tmp 36) (.val (.string ⟨#[]⟩))⟩, ⟨(some 38), none, none, .pick (.tmp 34) (.tmp 37) (.val (.bool false))⟩, ⟨(some 39), none, none, .mov (.tmp 38)⟩, ⟨(some 40), (some (39, true)), none, .fldA 3 (.tmp 1)⟩, ⟨(some 41), (some (39, true)), none, .ld false 1 (.tmp 40)⟩, ⟨(some 42), (some (39, true)), none, .len (.tmp 41)⟩, ⟨(some 43), (some (39, true)), none, .bin .eql 3 (.tmp 42) (.val (.int .i64 0))⟩, ⟨(some 44), none, none, .pick (.tmp 39) (.tmp 43) (.val (.bool false))⟩, ⟨(some 2), none, none, .mov (.tmp 44)⟩])] [1, 7, 24, 26, 27, 28, 29, 30, 31, 32, 33, 34, 35, 36, 37, 38, 39, 40, 41, 42, 43, 44]
abbrev c_moraineref03_Right_6 : SCode := .reg [([], [⟨(some 46), none, none, .bin .eql 3 (.tmp 7) (.val (.int .i64 2))⟩, ⟨(some 45), none, none, .mov (.tmp 46)⟩])] [24, 46]
abbrev c_moraineref03_Right_7 : SCode := .reg [([2196, 2197, 2198, 2199], [⟨(some 47), none, none, .fldA 2 (.tmp 1)⟩, ⟨(some 48), none, none, .ld false 1 (.tmp 47)⟩, ⟨(some 49), none, none, .call 68 0 [(.tmp 48)]⟩, ⟨(some 3), none, none, .mov (.tmp 49)⟩])] [7, 45, 47, 48, 49]
abbrev c_moraineref03_Right_8 : SCode := .reg [([], [⟨(some 50), none, none, .fldA 1 (.tmp 1)⟩, ⟨(some 51), none, none, .ld false 1 (.tmp 50)⟩, ⟨(some 52), none, none, .bin .eql 3 (.tmp 51) (.val (.int .i64 0))⟩, ⟨(some 53), none, none, .mov (.tmp 52)⟩, ⟨(some 54), (some (53, true)), none, .mov (.tmp 3)⟩, ⟨(some 55), none, none, .pick (.tmp 53) (.tmp 54) (.val (.bool false))⟩, ⟨(some 56), none, none, .mov (.tmp 55)⟩, ⟨(some 57), (some (56, true)), none, .fldA 2 (.tmp 1)⟩, ⟨(some 58), (some (56, true)), none, .ld false 1 (.tmp 57)⟩, ⟨(some 59), (some (56, true)), none, .slen (.tmp 58)⟩, ⟨(some 60), (some (56, true)), none, .bin .leq 3 (.tmp 59) (.val (.int .i64 60))⟩, ⟨(some 61), none, none, .pick (.tmp 56) (.tmp 60) (.val (.bool false))⟩, ⟨(some 62), none, none, .mov (.tmp 61)⟩, ⟨(some 63), (some (62, true)), none, .fldA 3 (.tmp 1)⟩, ⟨(some 64), (some (62, true)), none, .ld false 1 (.tmp 63)⟩, ⟨(some 65), (some (62, true)), none, .len (.tmp 64)⟩, ⟨(some 66), (some (62, true)), none, .bin .eql 3 (.tmp 65) (.val (.int .i64 0))⟩, ⟨(some 67), none, none, .pick (.tmp 62) (.tmp 66) (.val (.bool false))⟩, ⟨(some 2), none, none, .mov (.tmp 67)⟩])] [1, 3, 50, 51, 52, 53, 54, 55, 56, 57, 58, 59, 60, 61, 62, 63, 64, 65, 66, 67]
abbrev c_moraineref03_Right_9 : SCode := .reg [([], [⟨(some 69), none, none, .bin .eql 3 (.tmp 7) (.val (.int .i64 3))⟩, ⟨(some 68), none, none, .mov (.tmp 69)⟩])] [45, 69]
abbrev c_moraineref03_Right_10 : SCode := .reg [([], [⟨(some 70), none, none, .bin .eql 3 (.tmp 7) (.val (.int .i64 4))⟩, ⟨(some 68), none, none, .mov (.tmp 70)⟩])] [70]
abbrev c_moraineref03_Right_11 : SCode := .reg [([], [⟨(some 71), none, none, .fldA 1 (.tmp 1)⟩, ⟨(some 72), none, none, .ld false 1 (.tmp 71)⟩, ⟨(some 73), none, none, .bin .geq 3 (.tmp 72) (.val (.int .i64 1))⟩, ⟨(some 74), none, none, .mov (.tmp 73)⟩, ⟨(some 75), (some (74, true)), none, .fldA 1 (.tmp 1)⟩, ⟨(some 76), (some (74, true)), none, .ld false 1 (.tmp 75)⟩, ⟨(some 77), (some (74, true)), none, .bin .leq 3 (.tmp 76) (.val (.int .i64 100000))⟩, ⟨(some 78), none, none, .pick (.tmp 74) (.tmp 77) (.val (.bool false))⟩, ⟨(some 79), none, none, .mov (.tmp 78)⟩, ⟨(some 80), (some (79, false)), none, .fldA 1 (.tmp 1)⟩, ⟨(some 81), (some (79, false)), none, .ld false 1 (.tmp 80)⟩, ⟨(some 82), (some (79, false)), none, .bin .geq 3 (.tmp 81) (.val (.int .i64 (-20)))⟩, ⟨(some 83), (some (79, false)), none, .mov (.tmp 82)⟩, ⟨(some 84), (some (83, true)), none, .fldA 1 (.tmp 1)⟩, ⟨(some 85), (some (83, true)), none, .ld false 1 (.tmp 84)⟩, ⟨(some 86), (some (83, true)), none, .bin .leq 3 (.tmp 85) (.val (.int .i64 (-1)))⟩, ⟨(some 87), (some (79, false)), none, .pick (.tmp 83) (.tmp 86) (.val (.bool false))⟩, ⟨(some 88), none, none, .pick (.tmp 79) (.val (.bool true)) (.tmp 87)⟩, ⟨(some 89), none, none, .mov (.tmp 88)⟩, ⟨(some 90), (some (89, true)), none, .fldA 2 (.tmp 1)⟩, ⟨(some 91), (some (89, true)), none, .ld false 1 (.tmp 90)⟩, ⟨(some 92), (some (89, true)), none, .bin .eql 9 (.tmp 91) (.val (.string ⟨#[]⟩))⟩, ⟨(some 93), none, none, .pick (.tmp 89) (.tmp 92) (.val (.bool false))⟩, ⟨(some 94), none, none, .mov (.tmp 93)⟩, ⟨(some 95), (some (94, true)), none, .fldA 3 (.tmp 1)⟩, ⟨(some 96), (some (94, true)), none, .ld false 1 (.tmp 95)⟩, ⟨(some 97), (some (94, true)), none, .len (.tmp 96)⟩, ⟨(some 98), (some (94, true)), none, .bin .eql 3 (.tmp 97) (.val (.int .i64 0))⟩, ⟨(some 99), none, none, .pick (.tmp 94) (.tmp 98) (.val (.bool false))⟩, ⟨(some 2), none, none, .mov (.tmp 99)⟩])] [1, 7, 68, 71, 72, 73, 74, 75, 76, 77, 78, 79, 80, 81, 82, 83, 84, 85, 86, 87, 88, 89, 90, 91, 92, 93, 94, 95, 96, 97, 98, 99]
abbrev c_moraineref03_Right_12 : SCode := .reg [([], [⟨(some 101), none, none, .bin .eql 3 (.tmp 7) (.val (.int .i64 5))⟩, ⟨(some 100), none, none, .mov (.tmp 101)⟩])] [7, 68, 101]
abbrev c_moraineref03_Right_13 : SCode := .reg [([], [⟨(some 102), none, none, .fldA 1 (.tmp 1)⟩, ⟨(some 103), none, none, .ld false 1 (.tmp 102)⟩, ⟨(some 104), none, none, .bin .neq 3 (.tmp 103) (.val (.int .i64 0))⟩, ⟨(some 105), none, none, .mov (.tmp 104)⟩, ⟨(some 106), (some (105, false)), none, .fldA 2 (.tmp 1)⟩, ⟨(some 107), (some (105, false)), none, .ld false 1 (.tmp 106)⟩, ⟨(some 108), (some (105, false)), none, .bin .neq 9 (.tmp 107) (.val (.string ⟨#[]⟩))⟩, ⟨(some 109), none, none, .pick (.tmp 105) (.val (.bool true)) (.tmp 108)⟩, ⟨(some 110), none, none, .mov (.tmp 109)⟩, ⟨(some 111), (some (110, false)), none, .fldA 3 (.tmp 1)⟩, ⟨(some 112), (some (110, false)), none, .ld false 1 (.tmp 111)⟩, ⟨(some 113), (some (110, false)), none, .len (.tmp 112)⟩, ⟨(some 114), (some (110, false)), none, .bin .gtr 3 (.tmp 113) (.val (.int .i64 12))⟩, ⟨(some 115), none, none, .pick (.tmp 110) (.val (.bool true)) (.tmp 114)⟩])] [100, 102, 103, 104, 105, 106, 107, 108, 109, 110, 111, 112, 113, 114]
abbrev c_moraineref03_Right_14 : SCode := .reg [([], [⟨(some 2), none, none, .mov (.val (.bool false))⟩])] [1, 115]
abbrev c_moraineref03_Right_15 : SCode := .reg [([], [⟨(some 4), none, none, .mov (.val (.int .i64 0))⟩])] [2, 115]
abbrev c_moraineref03_Right_16 : SCode := .reg [([], [⟨(some 116), none, none, .mov (.tmp 4)⟩, ⟨(some 117), none, none, .fldA 3 (.tmp 1)⟩, ⟨(some 118), none, none, .ld false 1 (.tmp 117)⟩, ⟨(some 119), none, none, .len (.tmp 118)⟩, ⟨(some 120), none, none, .bin .lss 3 (.tmp 116) (.tmp 119)⟩])] [116, 117, 118, 119]
abbrev c_moraineref03_Right_17 : SCode := .reg [([], [⟨(some 123), none, none, .fldA 3 (.tmp 1)⟩, ⟨(some 124), none, none, .ld false 1 (.tmp 123)⟩, ⟨(some 125), none, none, .mov (.tmp 4)⟩, ⟨(some 126), none, none, .idxA 4 (.tmp 124) (.tmp 125)⟩, ⟨(some 127), none, none, .fldA 0 (.tmp 126)⟩, ⟨(some 128), none, none, .ld false 1 (.tmp 127)⟩, ⟨(some 129), none, none, .bin .eql 3 (.tmp 128) (.val (.int .i64 5))⟩])] [120, 123, 124, 125, 126, 127, 128]
abbrev c_moraineref03_Right_18 : SCode := .reg [([], [⟨(some 2), none, none, .mov (.val (.bool false))⟩])] [1, 4, 129]
abbrev c_moraineref03_Right_19 : SCode := .reg [([2540, 2541, 2542, 2543], [⟨(some 130), none, none, .fldA 3 (.tmp 1)⟩, ⟨(some 131), none, none, .ld false 1 (.tmp 130)⟩, ⟨(some 132), none, none, .mov (.tmp 4)⟩, ⟨(some 133), none, none, .idxA 4 (.tmp 131) (.tmp 132)⟩, ⟨(some 134), none, none, .ld true 4 (.tmp 133)⟩, ⟨(some 135), none, none, .call 29 0 [(.tmp 134)]⟩, ⟨(some 5), none, none, .mov (.tmp 135)⟩])] [2, 129, 130, 131, 132, 133, 134, 135]
abbrev c_moraineref03_Right_20 : SCode := .reg [([], [⟨(some 136), none, none, .mov (.tmp 5)⟩, ⟨(some 137), none, none, .un .not (.tmp 136)⟩])] [5, 136]
abbrev c_moraineref03_Right_21 : SCode := .reg [([], [⟨(some 2), none, none, .mov (.val (.bool false))⟩])] [1, 4, 137]
abbrev c_moraineref03_Right_22 : SCode := .reg [([], [⟨(some 121), none, none, .mov (.tmp 4)⟩, ⟨(some 122), none, none, .bin .add 3 (.tmp 121) (.val (.int .i64 1))⟩, ⟨(some 4), none, none, .mov (.tmp 122)⟩])] [2, 121, 122, 137]
abbrev c_moraineref03_Right_23 : SCode := (.seq (.seq c_moraineref03_Right_16 (.cond (.tmp 120) .skip (.exit 1))) (.seq (.block 2 (.seq (.seq c_moraineref03_Right_17 (.cond (.tmp 129) (.seq c_moraineref03_Right_18 .ret) .skip)) (.seq c_moraineref03_Right_19 (.seq c_moraineref03_Right_20 (.cond (.tmp 137) (.seq c_moraineref03_Right_21 .ret) .skip))))) c_moraineref03_Right_22))
abbrev c_moraineref03_Right_24 : SCode := .reg [([], [⟨(some 2), none, none, .mov (.val (.bool true))⟩])] [1, 4]
abbrev c_moraineref03_Right_25 : SCode := .reg [([], [⟨(some 2), none, none, .mov (.val (.bool false))⟩])] [1, 100]
abbrev F_moraineref03_Right : SFunc := ⟨138, (.seq c_moraineref03_Right_0 (.seq (.seq c_moraineref03_Right_1 (.block 0 (.seq c_moraineref03_Right_2 (.cond (.tmp 8) (.seq c_moraineref03_Right_3 .ret) (.seq c_moraineref03_Right_4 (.cond (.tmp 24) (.seq c_moraineref03_Right_5 .ret) (.seq c_moraineref03_Right_6 (.cond (.tmp 45) (.seq c_moraineref03_Right_7 (.seq c_moraineref03_Right_8 .ret)) (.seq (.seq c_moraineref03_Right_9 (.cond (.tmp 68) .skip c_moraineref03_Right_10)) (.cond (.tmp 68) (.seq c_moraineref03_Right_11 .ret) (.seq c_moraineref03_Right_12 (.cond (.tmp 100) (.seq (.seq c_moraineref03_Right_13 (.cond (.tmp 115) (.seq c_moraineref03_Right_14 .ret) .skip)) (.seq (.seq c_moraineref03_Right_15 (.block 1 (.loop c_moraineref03_Right_23))) (.seq c_moraineref03_Right_24 .ret))) .skip)))))))))))) (.seq c_moraineref03_Right_25 .ret))), [.tmp 2], false⟩
theorem tf_moraineref03_Right : transFunc Go.Proofs.Tryz.prog 29 (hintT [(49, 0), (135, 0)]) (fpT []) (killT [(0, [0, 2]), (1, [6]), (2, [9]), (3, [1, 7, 8, 10, 11, 12, 13, 14, 15, 16, 17, 18, 19, 20, 21, 22, 23]), (4, [8, 25]), (5, [1, 7, 24, 26, 27, 28, 29, 30, 31, 32, 33, 34, 35, 36, 37, 38, 39, 40, 41, 42, 43, 44]), (6, [24, 46]), (7, [7, 45, 47, 48, 49]), (8, [1, 3, 50, 51, 52, 53, 54, 55, 56, 57, 58, 59, 60, 61, 62, 63, 64, 65, 66, 67]), (9, [45, 69]), (10, [70]), (11, [1, 7, 68, 71, 72, 73, 74, 75, 76, 77, 78, 79, 80, 81, 82, 83, 84, 85, 86, 87, 88, 89, 90, 91, 92, 93, 94, 95, 96, 97, 98, 99]), (12, [7, 68, 101]), (13, [100, 102, 103, 104, 105, 106, 107, 108, 109, 110, 111, 112, 113, 114]), (14, [1, 115]), (15, [2, 115]), (16, [116, 117, 118, 119]), (18, [120, 123, 124, 125, 126, 127, 128]), (19, [1, 4, 129]), (20, [2, 129, 130, 131, 132, 133, 134, 135]), (21, [5, 136]), (22, [1, 4, 137]), (17, [2, 121, 122, 137]), (23, [1, 4]), (24, [1, 100])]) false = some F_moraineref03_Right := by kernel_rfl
-- moraineref03.Refs
abbrev c_moraineref03_Refs_0 : SCode := .reg [([1], [⟨(some 1), none, none, .box (.tmp 0)⟩, ⟨(some 2), none, none, .mov (.val (.slice none 0 0))⟩])] [0, 2]
abbrev c_moraineref03_Refs_1 : SCode := .reg [([2016, 2017, 2018, 2019], [⟨(some 3), none, none, .ld true 4 (.tmp 1)⟩, ⟨(some 4), none, none, .call 69 0 [(.tmp 3), (.val (.int .i64 3))]⟩, ⟨(some 2), none, none, .mov (.tmp 4)⟩])] [1, 3, 4]
abbrev F_moraineref03_Refs : SFunc := ⟨5, (.seq c_moraineref03_Refs_0 (.seq c_moraineref03_Refs_1 .ret)), [.tmp 2], false⟩
theorem tf_moraineref03_Refs : transFunc Go.Proofs.Tryz.prog 30 (hintT [(4, 0)]) (fpT []) (killT [(0, [0, 2]), (1, [1, 3, 4])]) false = some F_moraineref03_Refs := by kernel_rfl
-- moraineref03.Weaks
abbrev c_moraineref03_Weaks_0 : SCode := .reg [([1], [⟨(some 1), none, none, .box (.tmp 0)⟩, ⟨(some 2), none, none, .mov (.val (.slice none 0 0))⟩])] [0, 2]
abbrev c_moraineref03_Weaks_1 : SCode := .reg [([2016, 2017, 2018, 2019], [⟨(some 3), none, none, .ld true 4 (.tmp 1)⟩, ⟨(some 4), none, none, .call 69 0 [(.tmp 3), (.val (.int .i64 4))]⟩, ⟨(some 2), none, none, .mov (.tmp 4)⟩])] [1, 3, 4]
abbrev F_moraineref03_Weaks : SFunc := ⟨5, (.seq c_moraineref03_Weaks_0 (.seq c_moraineref03_Weaks_1 .ret)), [.tmp 2], false⟩
theorem tf_moraineref03_Weaks : transFunc Go.Proofs.Tryz.prog 31 (hintT [(4, 0)]) (fpT []) (killT [(0, [0, 2]), (1, [1, 3, 4])]) false = some F_moraineref03_Weaks := by kernel_rfl
-- moraineref03.Fits
abbrev c_moraineref03_Fits_0 : SCode := .reg [([2, 3], [⟨(some 2), none, none, .box (.tmp 0)⟩, ⟨(some 3), none, none, .box (.tmp 1)⟩, ⟨(some 4), none, none, .mov (.val (.bool false))⟩])] [0, 1, 4]
abbrev c_moraineref03_Fits_1 : SCode := .reg [([2036, 2037, 2038, 2039], [⟨(some 8), none, none, .ld true 4 (.tmp 2)⟩, ⟨(some 9), none, none, .call 29 0 [(.tmp 8)]⟩, ⟨(some 5), none, none, .mov (.tmp 9)⟩])] [8, 9]
abbrev c_moraineref03_Fits_2 : SCode := .reg [([2044, 2045, 2046, 2047], [⟨(some 10), none, none, .ld true 2 (.tmp 3)⟩, ⟨(some 11), none, none, .call 77 0 [(.tmp 10)]⟩, ⟨(some 6), none, none, .mov (.tmp 11)⟩])] [10, 11]
abbrev c_moraineref03_Fits_3 : SCode := .reg [([2088, 2089, 2090, 2091], [⟨(some 12), none, none, .mov (.tmp 5)⟩, ⟨(some 13), none, none, .un .not (.tmp 12)⟩, ⟨(some 14), none, none, .mov (.tmp 13)⟩, ⟨(some 15), (some (14, false)), none, .mov (.tmp 6)⟩, ⟨(some 16), (some (14, false)), none, .un .not (.tmp 15)⟩, ⟨(some 17), none, none, .pick (.tmp 14) (.val (.bool true)) (.tmp 16)⟩, ⟨(some 18), none, none, .mov (.tmp 17)⟩, ⟨(some 19), (some (18, false)), none, .ld true 4 (.tmp 2)⟩, ⟨(some 20), (some (18, false)), none, .fldA 0 (.tmp 3)⟩, ⟨(some 21), (some (18, false)), none, .ld false 1 (.tmp 20)⟩, ⟨(some 22), (some (18, false)), none, .call 78 0 [(.tmp 19), (.tmp 21)]⟩, ⟨(some 23), (some (18, false)), none, .un .not (.tmp 22)⟩, ⟨(some 24), none, none, .pick (.tmp 18) (.val (.bool true)) (.tmp 23)⟩])] [5, 6, 12, 13, 14, 15, 16, 17, 18, 19, 20, 21, 22, 23]
abbrev c_moraineref03_Fits_4 : SCode := .reg [([], [⟨(some 4), none, none, .mov (.val (.bool false))⟩])] [2, 3, 24]
abbrev c_moraineref03_Fits_5 : SCode := .reg [([], [⟨(some 7), none, none, .mov (.val (.int .i64 0))⟩])] [4, 24]
abbrev c_moraineref03_Fits_6 : SCode := .reg [([], [⟨(some 25), none, none, .mov (.tmp 7)⟩, ⟨(some 26), none, none, .fldA 3 (.tmp 2)⟩, ⟨(some 27), none, none, .ld false 1 (.tmp 26)⟩, ⟨(some 28), none, none, .len (.tmp 27)⟩, ⟨(some 29), none, none, .bin .lss 3 (.tmp 25) (.tmp 28)⟩])] [25, 26, 27, 28]
abbrev c_moraineref03_Fits_7 : SCode := .reg [([2156, 2157, 2158, 2159], [⟨(some 32), none, none, .fldA 3 (.tmp 2)⟩, ⟨(some 33), none, none, .ld false 1 (.tmp 32)⟩, ⟨(some 34), none, none, .mov (.tmp 7)⟩, ⟨(some 35), none, none, .idxA 4 (.tmp 33) (.tmp 34)⟩, ⟨(some 36), none, none, .ld true 4 (.tmp 35)⟩, ⟨(some 37), none, none, .fldA 1 (.tmp 3)⟩, ⟨(some 38), none, none, .ld false 1 (.tmp 37)⟩, ⟨(some 39), none, none, .call 78 0 [(.tmp 36), (.tmp 38)]⟩, ⟨(some 40), none, none, .un .not (.tmp 39)⟩])] [29, 32, 33, 34, 35, 36, 37, 38, 39]
abbrev c_moraineref03_Fits_8 : SCode := .reg [([], [⟨(some 4), none, none, .mov (.val (.bool false))⟩])] [2, 3, 7, 40]
abbrev c_moraineref03_Fits_9 : SCode := .reg [([], [⟨(some 30), none, none, .mov (.tmp 7)⟩, ⟨(some 31), none, none, .bin .add 3 (.tmp 30) (.val (.int .i64 1))⟩, ⟨(some 7), none, none, .mov (.tmp 31)⟩])] [4, 30, 31, 40]
abbrev c_moraineref03_Fits_10 : SCode := (.seq (.seq c_moraineref03_Fits_6 (.cond (.tmp 29) .skip (.exit 0))) (.seq (.block 1 (.seq c_moraineref03_Fits_7 (.cond (.tmp 40) (.seq c_moraineref03_Fits_8 .ret) .skip))) c_moraineref03_Fits_9))
abbrev c_moraineref03_Fits_11 : SCode := .reg [([], [⟨(some 4), none, none, .mov (.val (.bool true))⟩])] [2, 3, 7]
abbrev F_moraineref03_Fits : SFunc := ⟨41, (.seq c_moraineref03_Fits_0 (.seq c_moraineref03_Fits_1 (.seq c_moraineref03_Fits_2 (.seq (.seq c_moraineref03_Fits_3 (.cond (.tmp 24) (.seq c_moraineref03_Fits_4 .ret) .skip)) (.seq (.seq c_moraineref03_Fits_5 (.block 0 (.loop c_moraineref03_Fits_10))) (.seq c_moraineref03_Fits_11 .ret)))))), [.tmp 4], false⟩
theorem tf_moraineref03_Fits : transFunc Go.Proofs.Tryz.prog 37 (hintT [(9, 0), (11, 0), (22, 0), (39, 0)]) (fpT []) (killT [(0, [0, 1, 4]), (1, [8, 9]), (2, [10, 11]), (3, [5, 6, 12, 13, 14, 15, 16, 17, 18, 19, 20, 21, 22, 23]), (4, [2, 3, 24]), (5, [4, 24]), (6, [25, 26, 27, 28]), (8, [29, 32, 33, 34, 35, 36, 37, 38, 39]), (9, [2, 3, 7, 40]), (7, [4, 30, 31, 40]), (10, [2, 3, 7])]) false = some F_moraineref03_Fits := by kernel_rfl
-- moraineref03.Zero
abbrev c_moraineref03_Zero_0 : SCode := .reg [([1, 2], [⟨(some 1), none, none, .box (.tmp 0)⟩, ⟨(some 2), none, none, .new [(.int .i64 0), (.int .i64 0), (.string ⟨#[]⟩), (.slice none 0 0)]⟩])] [0]
abbrev c_moraineref03_Zero_1 : SCode := .reg [([2020, 2021, 2022, 2023], [⟨(some 4), none, none, .ld true 2 (.tmp 1)⟩, ⟨(some 5), none, none, .call 77 0 [(.tmp 4)]⟩, ⟨(some 3), none, none, .mov (.tmp 5)⟩])] [4, 5]
abbrev c_moraineref03_Zero_2 : SCode := .reg [([], [⟨(some 6), none, none, .mov (.tmp 3)⟩, ⟨(some 7), none, none, .un .not (.tmp 6)⟩])] [3, 6]
abbrev c_moraineref03_Zero_3 : SCode := .reg [([], [⟨(some 8), none, none, .build [(.int .i64 0), (.int .i64 0), (.string ⟨#[]⟩), (.slice none 0 0)] []⟩, ⟨none, none, none, .st 4 (.tmp 2) (.tmp 8)⟩])] [1, 7, 8]
abbrev c_moraineref03_Zero_4 : SCode := .reg [([], [⟨(some 9), none, none, .fldA 0 (.tmp 1)⟩, ⟨(some 10), none, none, .ld false 1 (.tmp 9)⟩])] [1, 7, 9]
abbrev c_moraineref03_Zero_5 : SCode := .reg [([], [⟨(some 12), none, none, .bin .eql 3 (.tmp 10) (.val (.int .i64 1))⟩, ⟨(some 11), none, none, .mov (.tmp 12)⟩])] [12]
abbrev c_moraineref03_Zero_6 : SCode := .reg [([], [⟨(some 13), none, none, .build [(.int .i64 0), (.int .i64 0), (.string ⟨#[]⟩), (.slice none 0 0)] [(0, 1, (.val (.int .i64 1)))]⟩, ⟨none, none, none, .st 4 (.tmp 2) (.tmp 13)⟩])] [10, 11, 13]
abbrev c_moraineref03_Zero_7 : SCode := .reg [([], [⟨(some 15), none, none, .bin .eql 3 (.tmp 10) (.val (.int .i64 2))⟩, ⟨(some 14), none, none, .mov (.tmp 15)⟩])] [11, 15]
abbrev c_moraineref03_Zero_8 : SCode := .reg [([], [⟨(some 16), none, none, .build [(.int .i64 0), (.int .i64 0), (.string ⟨#[]⟩), (.slice none 0 0)] [(0, 1, (.val (.int .i64 2)))]⟩, ⟨none, none, none, .st 4 (.tmp 2) (.tmp 16)⟩])] [10, 14, 16]
abbrev c_moraineref03_Zero_9 : SCode := .reg [([], [⟨(some 18), none, none, .bin .eql 3 (.tmp 10) (.val (.int .i64 5))⟩, ⟨(some 17), none, none, .mov (.tmp 18)⟩])] [10, 14, 18]
abbrev c_moraineref03_Zero_10 : SCode := .reg [([], [⟨(some 19), none, none, .build [(.int .i64 0), (.int .i64 0), (.string ⟨#[]⟩), (.slice none 0 0)] [(0, 1, (.val (.int .i64 5)))]⟩, ⟨none, none, none, .st 4 (.tmp 2) (.tmp 19)⟩])] [17, 19]
abbrev c_moraineref03_Zero_11 : SCode := .reg [([], [⟨(some 20), none, none, .build [(.int .i64 0), (.int .i64 0), (.string ⟨#[]⟩), (.slice none 0 0)] []⟩, ⟨none, none, none, .st 4 (.tmp 2) (.tmp 20)⟩])] [17, 20]
abbrev F_moraineref03_Zero : SFunc := ⟨21, (.seq c_moraineref03_Zero_0 (.seq c_moraineref03_Zero_1 (.seq (.seq c_moraineref03_Zero_2 (.cond (.tmp 7) (.seq c_moraineref03_Zero_3 .ret) .skip)) (.seq (.seq c_moraineref03_Zero_4 (.block 0 (.seq c_moraineref03_Zero_5 (.cond (.tmp 11) (.seq c_moraineref03_Zero_6 .ret) (.seq c_moraineref03_Zero_7 (.cond (.tmp 14) (.seq c_moraineref03_Zero_8 .ret) (.seq c_moraineref03_Zero_9 (.cond (.tmp 17) (.seq c_moraineref03_Zero_10 .ret) .skip)))))))) (.seq c_moraineref03_Zero_11 .ret))))), [.cell true 4 2], false⟩
theorem tf_moraineref03_Zero : transFunc Go.Proofs.Tryz.prog 39 (hintT [(5, 0)]) (fpT []) (killT [(0, [0]), (1, [4, 5]), (2, [3, 6]), (3, [1, 7, 8]), (4, [1, 7, 9]), (5, [12]), (6, [10, 11, 13]), (7, [11, 15]), (8, [10, 14, 16]), (9, [10, 14, 18]), (10, [17, 19]), (11, [17, 20])]) false = some F_moraineref03_Zero := by kernel_rfl
-- val.written
abbrev c_val_written_0 : SCode := .reg [([1], [⟨(some 1), none, none, .box (.tmp 0)⟩, ⟨(some 2), none, none, .mov (.val (.string ⟨#[]⟩))⟩])] [0, 2]
abbrev c_val_written_1 : SCode := .reg [([], [⟨(some 7), none, none, .fldA 0 (.tmp 1)⟩, ⟨(some 8), none, none, .ld false 1 (.tmp 7)⟩])] [7]
abbrev c_val_written_2 : SCode := .reg [([], [⟨(some 10), none, none, .bin .eql 3 (.tmp 8) (.val (.int .i64 1))⟩, ⟨(some 9), none, none, .mov (.tmp 10)⟩])] [10]
abbrev c_val_written_3 : SCode := .reg [([2052, 2053, 2054, 2055], [⟨(some 11), none, none, .fldA 1 (.tmp 1)⟩, ⟨(some 12), none, none, .ld false 1 (.tmp 11)⟩, ⟨(some 13), none, none, .call 93 0 [(.tmp 12)]⟩, ⟨(some 2), none, none, .mov (.tmp 13)⟩])] [1, 8, 9, 11, 12, 13]
abbrev c_val_written_4 : SCode := .reg [([], [⟨(some 15), none, none, .bin .eql 3 (.tmp 8) (.val (.int .i64 2))⟩, ⟨(some 14), none, none, .mov (.tmp 15)⟩])] [9, 15]
abbrev c_val_written_5 : SCode := .reg [([2072, 2073, 2074, 2075], [⟨(some 16), none, none, .fldA 2 (.tmp 1)⟩, ⟨(some 17), none, none, .ld false 1 (.tmp 16)⟩, ⟨(some 18), none, none, .call 94 0 [(.tmp 17), (.val (.string ⟨#[92]⟩)), (.val (.string ⟨#[92, 92]⟩))]⟩, ⟨(some 3), none, none, .mov (.tmp 18)⟩])] [1, 8, 14, 16, 17, 18]
abbrev c_val_written_6 : SCode := .reg [([2080, 2081, 2082, 2083], [⟨(some 19), none, none, .mov (.tmp 3)⟩, ⟨(some 20), none, none, .call 94 0 [(.tmp 19), (.val (.string ⟨#[34]⟩)), (.val (.string ⟨#[92, 34]⟩))]⟩, ⟨(some 21), none, none, .bin .add 9 (.val (.string ⟨#[34]⟩)) (.tmp 20)⟩, ⟨(some 22), none, none, .bin .add 9 (.tmp 21) (.val (.string ⟨#[34]⟩))⟩, ⟨(some 2), none, none, .mov (.tmp 22)⟩])] [3, 19, 20, 21, 22]
abbrev c_val_written_7 : SCode := .reg [([], [⟨(some 24), none, none, .bin .eql 3 (.tmp 8) (.val (.int .i64 3))⟩, ⟨(some 23), none, none, .mov (.tmp 24)⟩])] [14, 24]
abbrev c_val_written_8 : SCode := .reg [([2108, 2109, 2110, 2111], [⟨(some 25), none, none, .fldA 1 (.tmp 1)⟩, ⟨(some 26), none, none, .ld false 1 (.tmp 25)⟩, ⟨(some 27), none, none, .call 93 0 [(.tmp 26)]⟩, ⟨(some 28), none, none, .bin .add 9 (.val (.string ⟨#[64]⟩)) (.tmp 27)⟩, ⟨(some 2), none, none, .mov (.tmp 28)⟩])] [1, 8, 23, 25, 26, 27, 28]
abbrev c_val_written_9 : SCode := .reg [([], [⟨(some 30), none, none, .bin .eql 3 (.tmp 8) (.val (.int .i64 4))⟩, ⟨(some 29), none, none, .mov (.tmp 30)⟩])] [23, 30]
abbrev c_val_written_10 : SCode := .reg [([2132, 2133, 2134, 2135], [⟨(some 31), none, none, .fldA 1 (.tmp 1)⟩, ⟨(some 32), none, none, .ld false 1 (.tmp 31)⟩, ⟨(some 33), none, none, .call 93 0 [(.tmp 32)]⟩, ⟨(some 34), none, none, .bin .add 9 (.val (.string ⟨#[126]⟩)) (.tmp 33)⟩, ⟨(some 2), none, none, .mov (.tmp 34)⟩])] [1, 8, 29, 31, 32, 33, 34]
abbrev c_val_written_11 : SCode := .reg [([], [⟨(some 36), none, none, .bin .eql 3 (.tmp 8) (.val (.int .i64 5))⟩, ⟨(some 35), none, none, .mov (.tmp 36)⟩])] [8, 29, 36]
abbrev c_val_written_12 : SCode := .reg [([40], [⟨(some 37), none, none, .fldA 3 (.tmp 1)⟩, ⟨(some 38), none, none, .ld false 1 (.tmp 37)⟩, ⟨(some 39), none, none, .len (.tmp 38)⟩, ⟨(some 40), none, none, .mks 16 [(.string ⟨#[]⟩)] (.tmp 39)⟩, ⟨(some 4), none, none, .mov (.tmp 40)⟩])] [35, 37, 38, 39, 40]
abbrev c_val_written_13 : SCode := .reg [([], [⟨(some 41), none, none, .fldA 3 (.tmp 1)⟩, ⟨(some 42), none, none, .ld false 1 (.tmp 41)⟩, ⟨(some 43), none, none, .len (.tmp 42)⟩, ⟨(some 44), none, none, .mov (.val (.int .i64 0))⟩])] [1, 41]
abbrev c_val_written_14 : SCode := .reg [([], [⟨(some 45), none, none, .bin .lss 3 (.tmp 44) (.tmp 43)⟩])] []
abbrev c_val_written_15 : SCode := .reg [([6], [⟨(some 46), none, none, .mov (.tmp 44)⟩, ⟨(some 47), none, none, .idxA 4 (.tmp 42) (.tmp 44)⟩, ⟨(some 48), none, none, .ld true 4 (.tmp 47)⟩, ⟨(some 6), none, none, .new [(.int .i64 0), (.int .i64 0), (.string ⟨#[]⟩), (.slice none 0 0)]⟩, ⟨(some 5), none, none, .mov (.tmp 46)⟩, ⟨none, none, none, .st 4 (.tmp 6) (.tmp 48)⟩])] [45, 46, 47, 48]
abbrev c_val_written_16 : SCode := .reg [([2208, 2209, 2210, 2211], [⟨(some 49), none, none, .mov (.tmp 4)⟩, ⟨(some 50), none, none, .mov (.tmp 5)⟩, ⟨(some 51), none, none, .ld true 4 (.tmp 6)⟩, ⟨(some 52), none, none, .call 54 0 [(.tmp 51)]⟩, ⟨(some 53), none, none, .idxA 1 (.tmp 49) (.tmp 50)⟩, ⟨none, none, none, .st 1 (.tmp 53) (.tmp 52)⟩])] [5, 6, 49, 50, 51, 52, 53]
abbrev c_val_written_17 : SCode := .reg [([], [⟨(some 54), none, none, .bin .add 3 (.tmp 44) (.val (.int .i64 1))⟩, ⟨(some 44), none, none, .mov (.tmp 54)⟩])] [54]
abbrev c_val_written_18 : SCode := (.seq c_val_written_14 (.seq (.cond (.tmp 45) .skip (.exit 1)) (.seq (.block 2 (.seq c_val_written_15 c_val_written_16)) c_val_written_17)))
abbrev c_val_written_19 : SCode := .reg [([2224, 2225, 2226, 2227], [⟨(some 55), none, none, .mov (.tmp 4)⟩, ⟨(some 56), none, none, .call 96 1 [(.tmp 55), (.val (.string ⟨#[32]⟩))]⟩, ⟨(some 57), none, none, .bin .add 9 (.val (.string ⟨#[91]⟩)) (.tmp 56)⟩, ⟨(some 58), none, none, .bin .add 9 (.tmp 57) (.val (.string ⟨#[93]⟩))⟩, ⟨(some 2), none, none, .mov (.tmp 58)⟩])] [4, 42, 43, 44, 55, 56, 57, 58]
abbrev c_val_written_20 : SCode := .reg [([], [⟨(some 2), none, none, .mov (.val (.string ⟨#[45]⟩))⟩])] [1, 35]
abbrev F_val_written : SFunc := ⟨59, (.seq c_val_written_0 (.seq (.seq c_val_written_1 (.block 0 (.seq c_val_written_2 (.cond (.tmp 9) (.seq c_val_written_3 .ret) (.seq c_val_written_4 (.cond (.tmp 14) (.seq c_val_written_5 (.seq c_val_written_6 .ret)) (.seq c_val_written_7 (.cond (.tmp 23) (.seq c_val_written_8 .ret) (.seq c_val_written_9 (.cond (.tmp 29) (.seq c_val_written_10 .ret) (.seq c_val_written_11 (.cond (.tmp 35) (.seq c_val_written_12 (.seq (.seq c_val_written_13 (.block 1 (.loop c_val_written_18))) (.seq c_val_written_19 .ret))) .skip)))))))))))) (.seq c_val_written_20 .ret))), [.tmp 2], false⟩
theorem tf_val_written : transFunc Go.Proofs.Tryz.prog 54 (hintT [(13, 0), (18, 0), (20, 0), (27, 0), (33, 0), (52, 0), (56, 1)]) (fpT []) (killT [(0, [0, 2]), (1, [7]), (2, [10]), (3, [1, 8, 9, 11, 12, 13]), (4, [9, 15]), (5, [1, 8, 14, 16, 17, 18]), (6, [3, 19, 20, 21, 22]), (7, [14, 24]), (8, [1, 8, 23, 25, 26, 27, 28]), (9, [23, 30]), (10, [1, 8, 29, 31, 32, 33, 34]), (11, [8, 29, 36]), (12, [35, 37, 38, 39, 40]), (13, [1, 41]), (15, [45, 46, 47, 48]), (16, [5, 6, 49, 50, 51, 52, 53]), (17, [54]), (18, [4, 42, 43, 44, 55, 56, 57, 58]), (19, [1, 35])]) false = some F_val_written := by kernel_rfl
-- val.numbers
abbrev c_val_numbers_0 : SCode := .reg [([2], [⟨(some 2), none, none, .box (.tmp 0)⟩, ⟨(some 4), none, none, .mov (.val (.slice none 0 0))⟩])] [0, 4]
abbrev c_val_numbers_1 : SCode := .reg [([2036, 2037, 2038, 2039], [⟨(some 8), none, none, .ld true 4 (.tmp 2)⟩, ⟨(some 9), none, none, .call 28 0 [(.tmp 8)]⟩, ⟨(some 10), none, none, .un .not (.tmp 9)⟩])] [8, 9]
abbrev c_val_numbers_2 : SCode := .reg [([], [⟨(some 4), none, none, .mov (.val (.slice none 0 0))⟩])] [1, 2, 10]
abbrev c_val_numbers_3 : SCode := .reg [([], [⟨(some 11), none, none, .fldA 0 (.tmp 2)⟩, ⟨(some 12), none, none, .ld false 1 (.tmp 11)⟩, ⟨(some 13), none, none, .mov (.tmp 1)⟩, ⟨(some 14), none, none, .bin .eql 3 (.tmp 12) (.tmp 13)⟩])] [4, 10, 11, 12, 13]
abbrev c_val_numbers_4 : SCode := .reg [([], [⟨(some 15), none, none, .fldA 1 (.tmp 2)⟩, ⟨(some 16), none, none, .ld false 1 (.tmp 15)⟩, ⟨(some 17), none, none, .bsl 1 [(.tmp 16)]⟩, ⟨(some 4), none, none, .mov (.tmp 17)⟩])] [1, 2, 14, 15, 16, 17]
abbrev c_val_numbers_5 : SCode := .reg [([], [⟨(some 5), none, none, .mov (.val (.slice none 0 0))⟩])] [4, 14]
abbrev c_val_numbers_6 : SCode := .reg [([], [⟨(some 18), none, none, .fldA 3 (.tmp 2)⟩, ⟨(some 19), none, none, .ld false 1 (.tmp 18)⟩, ⟨(some 20), none, none, .len (.tmp 19)⟩, ⟨(some 21), none, none, .mov (.val (.int .i64 0))⟩])] [2, 18]
abbrev c_val_numbers_7 : SCode := .reg [([], [⟨(some 22), none, none, .bin .lss 3 (.tmp 21) (.tmp 20)⟩])] []
abbrev c_val_numbers_8 : SCode := .reg [([7], [⟨(some 23), none, none, .idxA 4 (.tmp 19) (.tmp 21)⟩, ⟨(some 24), none, none, .ld true 4 (.tmp 23)⟩, ⟨(some 7), none, none, .new [(.int .i64 0), (.int .i64 0), (.string ⟨#[]⟩), (.slice none 0 0)]⟩, ⟨none, none, none, .st 4 (.tmp 7) (.tmp 24)⟩])] [22, 23, 24]
abbrev c_val_numbers_9 : SCode := .reg [([], [⟨(some 25), none, none, .fldA 0 (.tmp 7)⟩, ⟨(some 26), none, none, .ld false 1 (.tmp 25)⟩, ⟨(some 27), none, none, .mov (.tmp 1)⟩, ⟨(some 28), none, none, .bin .eql 3 (.tmp 26) (.tmp 27)⟩])] [25, 26, 27]
abbrev c_val_numbers_10 : SCode := .reg [([], [⟨(some 29), none, none, .mov (.tmp 5)⟩, ⟨(some 30), none, none, .fldA 1 (.tmp 7)⟩, ⟨(some 31), none, none, .ld false 1 (.tmp 30)⟩, ⟨(some 32), none, none, .bsl 1 [(.tmp 31)]⟩, ⟨(some 33), none, none, .app 3 1 8 (.tmp 29) (.tmp 32)⟩, ⟨(some 5), none, none, .mov (.tmp 33)⟩]), ([33], [⟨(some 29), none, none, .mov (.tmp 5)⟩, ⟨(some 30), none, none, .fldA 1 (.tmp 7)⟩, ⟨(some 31), none, none, .ld false 1 (.tmp 30)⟩, ⟨(some 32), none, none, .bsl 1 [(.tmp 31)]⟩, ⟨(some 33), none, none, .appN 3 1 8 (.tmp 29) (.tmp 32)⟩, ⟨(some 5), none, none, .mov (.tmp 33)⟩])] [7, 28, 29, 30, 31, 32, 33]
abbrev c_val_numbers_11 : SCode := .reg [([], [⟨(some 34), none, none, .bin .add 3 (.tmp 21) (.val (.int .i64 1))⟩, ⟨(some 21), none, none, .mov (.tmp 34)⟩])] [7, 28, 34]
abbrev c_val_numbers_12 : SCode := (.seq c_val_numbers_7 (.seq (.cond (.tmp 22) .skip (.exit 0)) (.seq (.block 1 (.seq c_val_numbers_8 (.seq c_val_numbers_9 (.cond (.tmp 28) c_val_numbers_10 .skip)))) c_val_numbers_11)))
abbrev c_val_numbers_13 : SCode := .reg [([], [⟨(some 35), none, none, .mov (.tmp 5)⟩, ⟨(some 4), none, none, .mov (.tmp 35)⟩])] [1, 5, 19, 20, 21, 35]
abbrev F_val_numbers : SFunc := ⟨36, (.seq c_val_numbers_0 (.seq (.seq c_val_numbers_1 (.cond (.tmp 10) (.seq c_val_numbers_2 .ret) .skip)) (.seq (.seq c_val_numbers_3 (.cond (.tmp 14) (.seq c_val_numbers_4 .ret) .skip)) (.seq c_val_numbers_5 (.seq (.seq c_val_numbers_6 (.block 0 (.loop c_val_numbers_12))) (.seq c_val_numbers_13 .ret)))))), [.tmp 4], false⟩
theorem tf_val_numbers : transFunc Go.Proofs.Tryz.prog 60 (hintT [(9, 0), (17, 0), (32, 0)]) (fpT []) (killT [(0, [0, 4]), (1, [8, 9]), (2, [1, 2, 10]), (3, [4, 10, 11, 12, 13]), (4, [1, 2, 14, 15, 16, 17]), (5, [4, 14]), (6, [2, 18]), (8, [22, 23, 24]), (9, [25, 26, 27]), (10, [7, 28, 29, 30, 31, 32, 33]), (11, [7, 28, 34]), (12, [1, 5, 19, 20, 21, 35])]) false = some F_val_numbers := by kernel_rfl
-- moraineref03.numbers
abbrev c_moraineref03_numbers_0 : SCode := .reg [([2], [⟨(some 2), none, none, .box (.tmp 0)⟩, ⟨(some 4), none, none, .mov (.val (.slice none 0 0))⟩])] [0, 4]
abbrev c_moraineref03_numbers_1 : SCode := .reg [([2036, 2037, 2038, 2039], [⟨(some 8), none, none, .ld true 4 (.tmp 2)⟩, ⟨(some 9), none, none, .call 29 0 [(.tmp 8)]⟩, ⟨(some 5), none, none, .mov (.tmp 9)⟩])] [8, 9]
abbrev c_moraineref03_numbers_2 : SCode := .reg [([], [⟨(some 10), none, none, .mov (.tmp 5)⟩, ⟨(some 11), none, none, .un .not (.tmp 10)⟩])] [5, 10]
abbrev c_moraineref03_numbers_3 : SCode := .reg [([], [⟨(some 4), none, none, .mov (.val (.slice none 0 0))⟩])] [1, 2, 11]
abbrev c_moraineref03_numbers_4 : SCode := .reg [([], [⟨(some 12), none, none, .fldA 0 (.tmp 2)⟩, ⟨(some 13), none, none, .ld false 1 (.tmp 12)⟩, ⟨(some 14), none, none, .mov (.tmp 1)⟩, ⟨(some 15), none, none, .bin .eql 3 (.tmp 13) (.tmp 14)⟩])] [4, 11, 12, 13, 14]
abbrev c_moraineref03_numbers_5 : SCode := .reg [([], [⟨(some 16), none, none, .fldA 1 (.tmp 2)⟩, ⟨(some 17), none, none, .ld false 1 (.tmp 16)⟩, ⟨(some 18), none, none, .bsl 1 [(.tmp 17)]⟩, ⟨(some 4), none, none, .mov (.tmp 18)⟩])] [1, 2, 15, 16, 17, 18]
abbrev c_moraineref03_numbers_6 : SCode := .reg [([], [⟨(some 6), none, none, .mov (.val (.slice none 0 0))⟩])] [4, 15]
abbrev c_moraineref03_numbers_7 : SCode := .reg [([], [⟨(some 7), none, none, .mov (.val (.int .i64 0))⟩])] []
abbrev c_moraineref03_numbers_8 : SCode := .reg [([], [⟨(some 19), none, none, .mov (.tmp 7)⟩, ⟨(some 20), none, none, .fldA 3 (.tmp 2)⟩, ⟨(some 21), none, none, .ld false 1 (.tmp 20)⟩, ⟨(some 22), none, none, .len (.tmp 21)⟩, ⟨(some 23), none, none, .bin .lss 3 (.tmp 19) (.tmp 22)⟩])] [19, 20, 21, 22]
abbrev c_moraineref03_numbers_9 : SCode := .reg [([], [⟨(some 26), none, none, .fldA 3 (.tmp 2)⟩, ⟨(some 27), none, none, .ld false 1 (.tmp 26)⟩, ⟨(some 28), none, none, .mov (.tmp 7)⟩, ⟨(some 29), none, none, .idxA 4 (.tmp 27) (.tmp 28)⟩, ⟨(some 30), none, none, .fldA 0 (.tmp 29)⟩, ⟨(some 31), none, none, .ld false 1 (.tmp 30)⟩, ⟨(some 32), none, none, .mov (.tmp 1)⟩, ⟨(some 33), none, none, .bin .eql 3 (.tmp 31) (.tmp 32)⟩])] [23, 26, 27, 28, 29, 30, 31, 32]
abbrev c_moraineref03_numbers_10 : SCode := .reg [([], [⟨(some 34), none, none, .mov (.tmp 6)⟩, ⟨(some 35), none, none, .fldA 3 (.tmp 2)⟩, ⟨(some 36), none, none, .ld false 1 (.tmp 35)⟩, ⟨(some 37), none, none, .mov (.tmp 7)⟩, ⟨(some 38), none, none, .idxA 4 (.tmp 36) (.tmp 37)⟩, ⟨(some 39), none, none, .fldA 1 (.tmp 38)⟩, ⟨(some 40), none, none, .ld false 1 (.tmp 39)⟩, ⟨(some 41), none, none, .bsl 1 [(.tmp 40)]⟩, ⟨(some 42), none, none, .app 3 1 8 (.tmp 34) (.tmp 41)⟩, ⟨(some 6), none, none, .mov (.tmp 42)⟩]), ([42], [⟨(some 34), none, none, .mov (.tmp 6)⟩, ⟨(some 35), none, none, .fldA 3 (.tmp 2)⟩, ⟨(some 36), none, none, .ld false 1 (.tmp 35)⟩, ⟨(some 37), none, none, .mov (.tmp 7)⟩, ⟨(some 38), none, none, .idxA 4 (.tmp 36) (.tmp 37)⟩, ⟨(some 39), none, none, .fldA 1 (.tmp 38)⟩, ⟨(some 40), none, none, .ld false 1 (.tmp 39)⟩, ⟨(some 41), none, none, .bsl 1 [(.tmp 40)]⟩, ⟨(some 42), none, none, .appN 3 1 8 (.tmp 34) (.tmp 41)⟩, ⟨(some 6), none, none, .mov (.tmp 42)⟩])] [33, 34, 35, 36, 37, 38, 39, 40, 41, 42]
abbrev c_moraineref03_numbers_11 : SCode := .reg [([], [⟨(some 24), none, none, .mov (.tmp 7)⟩, ⟨(some 25), none, none, .bin .add 3 (.tmp 24) (.val (.int .i64 1))⟩, ⟨(some 7), none, none, .mov (.tmp 25)⟩])] [24, 25, 33]
abbrev c_moraineref03_numbers_12 : SCode := (.seq (.seq c_moraineref03_numbers_8 (.cond (.tmp 23) .skip (.exit 0))) (.seq (.block 1 (.seq c_moraineref03_numbers_9 (.cond (.tmp 33) c_moraineref03_numbers_10 .skip))) c_moraineref03_numbers_11))
abbrev c_moraineref03_numbers_13 : SCode := .reg [([], [⟨(some 43), none, none, .mov (.tmp 6)⟩, ⟨(some 4), none, none, .mov (.tmp 43)⟩])] [1, 2, 6, 7, 43]
abbrev F_moraineref03_numbers : SFunc := ⟨44, (.seq c_moraineref03_numbers_0 (.seq c_moraineref03_numbers_1 (.seq (.seq c_moraineref03_numbers_2 (.cond (.tmp 11) (.seq c_moraineref03_numbers_3 .ret) .skip)) (.seq (.seq c_moraineref03_numbers_4 (.cond (.tmp 15) (.seq c_moraineref03_numbers_5 .ret) .skip)) (.seq c_moraineref03_numbers_6 (.seq (.seq c_moraineref03_numbers_7 (.block 0 (.loop c_moraineref03_numbers_12))) (.seq c_moraineref03_numbers_13 .ret))))))), [.tmp 4], false⟩
theorem tf_moraineref03_numbers : transFunc Go.Proofs.Tryz.prog 69 (hintT [(9, 0), (18, 0), (41, 0)]) (fpT []) (killT [(0, [0, 4]), (1, [8, 9]), (2, [5, 10]), (3, [1, 2, 11]), (4, [4, 11, 12, 13, 14]), (5, [1, 2, 15, 16, 17, 18]), (6, [4, 15]), (8, [19, 20, 21, 22]), (10, [23, 26, 27, 28, 29, 30, 31, 32]), (11, [33, 34, 35, 36, 37, 38, 39, 40, 41, 42]), (9, [24, 25, 33]), (12, [1, 2, 6, 7, 43])]) false = some F_moraineref03_numbers := by kernel_rfl
-- moraineref03.RightType
abbrev c_moraineref03_RightType_0 : SCode := .reg [([1], [⟨(some 1), none, none, .box (.tmp 0)⟩, ⟨(some 2), none, none, .mov (.val (.bool false))⟩])] [0, 2]
abbrev c_moraineref03_RightType_1 : SCode := .reg [([], [⟨(some 3), none, none, .fldA 0 (.tmp 1)⟩, ⟨(some 4), none, none, .ld false 1 (.tmp 3)⟩, ⟨(some 5), none, none, .bin .eql 3 (.tmp 4) (.val (.int .i64 5))⟩])] [3, 4]
abbrev c_moraineref03_RightType_2 : SCode := .reg [([2032, 2033, 2034, 2035], [⟨(some 6), none, none, .fldA 1 (.tmp 1)⟩, ⟨(some 7), none, none, .ld false 1 (.tmp 6)⟩, ⟨(some 8), none, none, .call 125 0 [(.tmp 7)]⟩, ⟨(some 2), none, none, .mov (.tmp 8)⟩])] [1, 5, 6, 7, 8]
abbrev c_moraineref03_RightType_3 : SCode := .reg [([2044, 2045, 2046, 2047], [⟨(some 9), none, none, .fldA 0 (.tmp 1)⟩, ⟨(some 10), none, none, .ld false 1 (.tmp 9)⟩, ⟨(some 11), none, none, .call 125 0 [(.tmp 10)]⟩, ⟨(some 12), none, none, .mov (.tmp 11)⟩, ⟨(some 13), (some (12, true)), none, .fldA 1 (.tmp 1)⟩, ⟨(some 14), (some (12, true)), none, .ld false 1 (.tmp 13)⟩, ⟨(some 15), (some (12, true)), none, .bin .eql 3 (.tmp 14) (.val (.int .i64 0))⟩, ⟨(some 16), none, none, .pick (.tmp 12) (.tmp 15) (.val (.bool false))⟩, ⟨(some 2), none, none, .mov (.tmp 16)⟩])] [1, 5, 9, 10, 11, 12, 13, 14, 15, 16]
abbrev F_moraineref03_RightType : SFunc := ⟨17, (.seq c_moraineref03_RightType_0 (.seq (.seq c_moraineref03_RightType_1 (.cond (.tmp 5) (.seq c_moraineref03_RightType_2 .ret) .skip)) (.seq c_moraineref03_RightType_3 .ret))), [.tmp 2], false⟩
theorem tf_moraineref03_RightType : transFunc Go.Proofs.Tryz.prog 77 (hintT [(8, 0), (11, 0)]) (fpT []) (killT [(0, [0, 2]), (1, [3, 4]), (2, [1, 5, 6, 7, 8]), (3, [1, 5, 9, 10, 11, 12, 13, 14, 15, 16])]) false = some F_moraineref03_RightType := by kernel_rfl
-- moraineref03.kind
abbrev c_moraineref03_kind_0 : SCode := .reg [([2], [⟨(some 2), none, none, .box (.tmp 0)⟩, ⟨(some 4), none, none, .mov (.val (.bool false))⟩])] [0, 4]
abbrev c_moraineref03_kind_1 : SCode := .reg [([], [⟨(some 5), none, none, .fldA 0 (.tmp 2)⟩, ⟨(some 6), none, none, .ld false 1 (.tmp 5)⟩, ⟨(some 7), none, none, .mov (.tmp 1)⟩, ⟨(some 8), none, none, .bin .eql 3 (.tmp 6) (.tmp 7)⟩, ⟨(some 9), none, none, .mov (.tmp 8)⟩, ⟨(some 10), (some (9, false)), none, .fldA 0 (.tmp 2)⟩, ⟨(some 11), (some (9, false)), none, .ld false 1 (.tmp 10)⟩, ⟨(some 12), (some (9, false)), none, .bin .eql 3 (.tmp 11) (.val (.int .i64 0))⟩, ⟨(some 13), (some (9, false)), none, .mov (.tmp 12)⟩, ⟨(some 14), (some (13, true)), none, .mov (.tmp 1)⟩, ⟨(some 15), (some (13, true)), none, .bin .eql 3 (.tmp 14) (.val (.int .i64 3))⟩, ⟨(some 16), (some (13, true)), none, .mov (.tmp 15)⟩, ⟨(some 17), (some (16, false)), none, .mov (.tmp 1)⟩, ⟨(some 18), (some (16, false)), none, .bin .eql 3 (.tmp 17) (.val (.int .i64 4))⟩, ⟨(some 19), (some (13, true)), none, .pick (.tmp 16) (.val (.bool true)) (.tmp 18)⟩, ⟨(some 20), (some (9, false)), none, .pick (.tmp 13) (.tmp 19) (.val (.bool false))⟩, ⟨(some 21), none, none, .pick (.tmp 9) (.val (.bool true)) (.tmp 20)⟩, ⟨(some 4), none, none, .mov (.tmp 21)⟩])] [1, 2, 5, 6, 7, 8, 9, 10, 11, 12, 13, 14, 15, 16, 17, 18, 19, 20, 21]
abbrev F_moraineref03_kind : SFunc := ⟨22, (.seq c_moraineref03_kind_0 (.seq c_moraineref03_kind_1 .ret)), [.tmp 4], false⟩
theorem tf_moraineref03_kind : transFunc Go.Proofs.Tryz.prog 78 (hintT []) (fpT []) (killT [(0, [0, 4]), (1, [1, 2, 5, 6, 7, 8, 9, 10, 11, 12, 13, 14, 15, 16, 17, 18, 19, 20, 21])]) false = some F_moraineref03_kind := by kernel_rfl
-- moraineref01.Num
abbrev c_moraineref01_Num_0 : SCode := .reg [([], [⟨(some 2), none, none, .mov (.val (.string ⟨#[]⟩))⟩])] [2]
abbrev c_moraineref01_Num_1 : SCode := .reg [([], [⟨(some 9), none, none, .mov (.tmp 0)⟩, ⟨(some 3), none, none, .mov (.tmp 9)⟩])] [9]
abbrev c_moraineref01_Num_2 : SCode := .reg [([], [⟨(some 4), none, none, .mov (.val (.int .i64 0))⟩])] []
abbrev c_moraineref01_Num_3 : SCode := .reg [([], [⟨(some 10), none, none, .mov (.tmp 0)⟩, ⟨(some 11), none, none, .bin .lss 3 (.tmp 10) (.val (.int .i64 0))⟩])] [10]
abbrev c_moraineref01_Num_4 : SCode := .reg [([], [⟨(some 12), none, none, .mov (.tmp 0)⟩, ⟨(some 13), none, none, .bin .sub 3 (.val (.int .i64 (-1))) (.tmp 12)⟩, ⟨(some 3), none, none, .mov (.tmp 13)⟩])] [0, 4, 11, 12, 13]
abbrev c_moraineref01_Num_5 : SCode := .reg [([], [⟨(some 4), none, none, .mov (.val (.int .i64 1))⟩])] []
abbrev c_moraineref01_Num_6 : SCode := .reg [([], [⟨(some 5), none, none, .mov (.val (.slice none 0 0))⟩])] [0, 11]
abbrev c_moraineref01_Num_7 : SCode := .reg [([], [⟨(some 14), none, none, .mov (.tmp 5)⟩, ⟨(some 15), none, none, .mov (.tmp 3)⟩, ⟨(some 16), none, none, .bin .rem 3 (.tmp 15) (.val (.int .i64 64))⟩, ⟨(some 17), none, none, .bin .mul 3 (.val (.int .i64 2)) (.tmp 16)⟩, ⟨(some 18), none, none, .mov (.tmp 4)⟩, ⟨(some 19), none, none, .bin .add 3 (.tmp 17) (.tmp 18)⟩, ⟨(some 20), none, none, .bsl 1 [(.tmp 19)]⟩, ⟨(some 21), none, none, .app 3 1 8 (.tmp 14) (.tmp 20)⟩, ⟨(some 5), none, none, .mov (.tmp 21)⟩]), ([21], [⟨(some 14), none, none, .mov (.tmp 5)⟩, ⟨(some 15), none, none, .mov (.tmp 3)⟩, ⟨(some 16), none, none, .bin .rem 3 (.tmp 15) (.val (.int .i64 64))⟩, ⟨(some 17), none, none, .bin .mul 3 (.val (.int .i64 2)) (.tmp 16)⟩, ⟨(some 18), none, none, .mov (.tmp 4)⟩, ⟨(some 19), none, none, .bin .add 3 (.tmp 17) (.tmp 18)⟩, ⟨(some 20), none, none, .bsl 1 [(.tmp 19)]⟩, ⟨(some 21), none, none, .appN 3 1 8 (.tmp 14) (.tmp 20)⟩, ⟨(some 5), none, none, .mov (.tmp 21)⟩])] [4, 14, 15, 16, 17, 18, 19, 20, 21]
abbrev c_moraineref01_Num_8 : SCode := .reg [([], [⟨(some 22), none, none, .mov (.tmp 3)⟩, ⟨(some 23), none, none, .bin .quo 3 (.tmp 22) (.val (.int .i64 64))⟩, ⟨(some 3), none, none, .mov (.tmp 23)⟩])] [22, 23]
abbrev c_moraineref01_Num_9 : SCode := .reg [([], [⟨(some 24), none, none, .mov (.tmp 3)⟩, ⟨(some 25), none, none, .bin .gtr 3 (.tmp 24) (.val (.int .i64 0))⟩])] [24]
abbrev c_moraineref01_Num_10 : SCode := .reg [([], [⟨(some 28), none, none, .mov (.tmp 5)⟩, ⟨(some 29), none, none, .mov (.tmp 3)⟩, ⟨(some 30), none, none, .bin .rem 3 (.tmp 29) (.val (.int .i64 128))⟩, ⟨(some 31), none, none, .bsl 1 [(.tmp 30)]⟩, ⟨(some 32), none, none, .app 3 1 8 (.tmp 28) (.tmp 31)⟩, ⟨(some 5), none, none, .mov (.tmp 32)⟩]), ([32], [⟨(some 28), none, none, .mov (.tmp 5)⟩, ⟨(some 29), none, none, .mov (.tmp 3)⟩, ⟨(some 30), none, none, .bin .rem 3 (.tmp 29) (.val (.int .i64 128))⟩, ⟨(some 31), none, none, .bsl 1 [(.tmp 30)]⟩, ⟨(some 32), none, none, .appN 3 1 8 (.tmp 28) (.tmp 31)⟩, ⟨(some 5), none, none, .mov (.tmp 32)⟩])] [25, 28, 29, 30, 31, 32]
abbrev c_moraineref01_Num_11 : SCode := .reg [([], [⟨(some 26), none, none, .mov (.tmp 3)⟩, ⟨(some 27), none, none, .bin .quo 3 (.tmp 26) (.val (.int .i64 128))⟩, ⟨(some 3), none, none, .mov (.tmp 27)⟩])] [26, 27]
abbrev c_moraineref01_Num_12 : SCode := (.seq (.seq c_moraineref01_Num_9 (.cond (.tmp 25) .skip (.exit 0))) (.seq (.block 1 c_moraineref01_Num_10) c_moraineref01_Num_11))
abbrev c_moraineref01_Num_13 : SCode := .reg [([], [⟨(some 6), none, none, .mov (.val (.string ⟨#[]⟩))⟩])] [3]
abbrev c_moraineref01_Num_14 : SCode := .reg [([], [⟨(some 7), none, none, .mov (.val (.int .i64 0))⟩])] []
abbrev c_moraineref01_Num_15 : SCode := .reg [([], [⟨(some 33), none, none, .mov (.tmp 7)⟩, ⟨(some 34), none, none, .mov (.tmp 5)⟩, ⟨(some 35), none, none, .len (.tmp 34)⟩, ⟨(some 36), none, none, .bin .lss 3 (.tmp 33) (.tmp 35)⟩])] [33, 34, 35]
abbrev c_moraineref01_Num_16 : SCode := .reg [([], [⟨(some 39), none, none, .mov (.tmp 5)⟩, ⟨(some 40), none, none, .mov (.tmp 7)⟩, ⟨(some 41), none, none, .idxA 1 (.tmp 39) (.tmp 40)⟩, ⟨(some 42), none, none, .ld false 1 (.tmp 41)⟩, ⟨(some 8), none, none, .mov (.tmp 42)⟩])] [36, 39, 40, 41, 42]
abbrev c_moraineref01_Num_17 : SCode := .reg [([], [⟨(some 43), none, none, .mov (.tmp 7)⟩, ⟨(some 44), none, none, .bin .add 3 (.tmp 43) (.val (.int .i64 1))⟩, ⟨(some 45), none, none, .mov (.tmp 5)⟩, ⟨(some 46), none, none, .len (.tmp 45)⟩, ⟨(some 47), none, none, .bin .lss 3 (.tmp 44) (.tmp 46)⟩])] [43, 44, 45, 46]
abbrev c_moraineref01_Num_18 : SCode := .reg [([], [⟨(some 48), none, none, .mov (.tmp 8)⟩, ⟨(some 49), none, none, .bin .add 3 (.tmp 48) (.val (.int .i64 128))⟩, ⟨(some 8), none, none, .mov (.tmp 49)⟩])] [47, 48, 49]
abbrev c_moraineref01_Num_19 : SCode := .reg [([], [⟨(some 50), none, none, .mov (.tmp 6)⟩, ⟨(some 51), none, none, .mov (.tmp 8)⟩, ⟨(some 52), none, none, .cvi .u8 (.tmp 51)⟩, ⟨(some 53), none, none, .bsl 1 [(.tmp 52)]⟩, ⟨(some 54), none, none, .b2s (.tmp 53)⟩, ⟨(some 55), none, none, .bin .add 9 (.tmp 50) (.tmp 54)⟩, ⟨(some 6), none, none, .mov (.tmp 55)⟩])] [8, 47, 50, 51, 52, 53, 54, 55]
abbrev c_moraineref01_Num_20 : SCode := .reg [([], [⟨(some 37), none, none, .mov (.tmp 7)⟩, ⟨(some 38), none, none, .bin .add 3 (.tmp 37) (.val (.int .i64 1))⟩, ⟨(some 7), none, none, .mov (.tmp 38)⟩])] [37, 38]
abbrev c_moraineref01_Num_21 : SCode := (.seq (.seq c_moraineref01_Num_15 (.cond (.tmp 36) .skip (.exit 2))) (.seq (.block 3 (.seq c_moraineref01_Num_16 (.seq (.seq c_moraineref01_Num_17 (.cond (.tmp 47) c_moraineref01_Num_18 .skip)) c_moraineref01_Num_19))) c_moraineref01_Num_20))
abbrev c_moraineref01_Num_22 : SCode := .reg [([], [⟨(some 56), none, none, .mov (.tmp 6)⟩, ⟨(some 2), none, none, .mov (.tmp 56)⟩])] [5, 6, 7, 56]
abbrev F_moraineref01_Num : SFunc := ⟨57, (.seq c_moraineref01_Num_0 (.seq c_moraineref01_Num_1 (.seq c_moraineref01_Num_2 (.seq (.seq c_moraineref01_Num_3 (.cond (.tmp 11) (.seq c_moraineref01_Num_4 c_moraineref01_Num_5) .skip)) (.seq c_moraineref01_Num_6 (.seq c_moraineref01_Num_7 (.seq (.seq c_moraineref01_Num_8 (.block 0 (.loop c_moraineref01_Num_12))) (.seq c_moraineref01_Num_13 (.seq (.seq c_moraineref01_Num_14 (.block 2 (.loop c_moraineref01_Num_21))) (.seq c_moraineref01_Num_22 .ret)))))))))), [.tmp 2], false⟩
theorem tf_moraineref01_Num : transFunc Go.Proofs.Tryz.prog 115 (hintT [(20, 0), (31, 0), (53, 0)]) (fpT []) (killT [(0, [2]), (1, [9]), (3, [10]), (4, [0, 4, 11, 12, 13]), (6, [0, 11]), (7, [4, 14, 15, 16, 17, 18, 19, 20, 21]), (8, [22, 23]), (9, [24]), (11, [25, 28, 29, 30, 31, 32]), (10, [26, 27]), (12, [3]), (14, [33, 34, 35]), (16, [36, 39, 40, 41, 42]), (17, [43, 44, 45, 46]), (18, [47, 48, 49]), (19, [8, 47, 50, 51, 52, 53, 54, 55]), (15, [37, 38]), (20, [5, 6, 7, 56])]) false = some F_moraineref01_Num := by kernel_rfl
-- moraineref01.Text
abbrev c_moraineref01_Text_0 : SCode := .reg [([], [⟨(some 2), none, none, .mov (.val (.string ⟨#[]⟩))⟩, ⟨(some 3), none, none, .mov (.val (.int .i64 0))⟩])] [2, 3]
abbrev c_moraineref01_Text_1 : SCode := .reg [([], [⟨(some 4), none, none, .mov (.tmp 0)⟩, ⟨(some 5), none, none, .slen (.tmp 4)⟩, ⟨(some 6), none, none, .bin .gtr 3 (.tmp 5) (.val (.int .i64 10000))⟩])] [4, 5]
abbrev c_moraineref01_Text_2 : SCode := .reg [([], [⟨(some 2), none, none, .mov (.val (.string ⟨#[]⟩))⟩, ⟨(some 3), none, none, .mov (.val (.int .i64 10))⟩])] [0, 6]
abbrev c_moraineref01_Text_3 : SCode := .reg [([2036, 2037, 2038, 2039], [⟨(some 7), none, none, .mov (.tmp 0)⟩, ⟨(some 8), none, none, .slen (.tmp 7)⟩, ⟨(some 9), none, none, .call 115 0 [(.tmp 8)]⟩, ⟨(some 10), none, none, .mov (.tmp 0)⟩, ⟨(some 11), none, none, .bin .add 9 (.tmp 9) (.tmp 10)⟩, ⟨(some 2), none, none, .mov (.tmp 11)⟩, ⟨(some 3), none, none, .mov (.val (.int .i64 0))⟩])] [0, 6, 7, 8, 9, 10, 11]
abbrev F_moraineref01_Text : SFunc := ⟨12, (.seq c_moraineref01_Text_0 (.seq (.seq c_moraineref01_Text_1 (.cond (.tmp 6) (.seq c_moraineref01_Text_2 .ret) .skip)) (.seq c_moraineref01_Text_3 .ret))), [.tmp 2, .tmp 3], false⟩
theorem tf_moraineref01_Text : transFunc Go.Proofs.Tryz.prog 116 (hintT [(9, 0)]) (fpT []) (killT [(0, [2, 3]), (1, [4, 5]), (2, [0, 6]), (3, [0, 6, 7, 8, 9, 10, 11])]) false = some F_moraineref01_Text := by kernel_rfl
-- moraineref03.Digits
abbrev c_moraineref03_Digits_0 : SCode := .reg [([], [⟨(some 2), none, none, .mov (.val (.string ⟨#[]⟩))⟩])] [2]
abbrev c_moraineref03_Digits_1 : SCode := .reg [([], [⟨(some 4), none, none, .mov (.tmp 0)⟩, ⟨(some 5), none, none, .bin .lss 3 (.tmp 4) (.val (.int .i64 0))⟩])] [4]
abbrev c_moraineref03_Digits_2 : SCode := .reg [([], [⟨(some 6), none, none, .mov (.tmp 0)⟩, ⟨(some 7), none, none, .bin .leq 3 (.tmp 6) (.val (.int .i64 (-10)))⟩])] [5, 6]
abbrev c_moraineref03_Digits_3 : SCode := .reg [([2040, 2041, 2042, 2043, 2056, 2057, 2058, 2059], [⟨(some 8), none, none, .mov (.tmp 0)⟩, ⟨(some 9), none, none, .bin .quo 3 (.tmp 8) (.val (.int .i64 10))⟩, ⟨(some 10), none, none, .call 117 0 [(.tmp 9)]⟩, ⟨(some 11), none, none, .mov (.tmp 0)⟩, ⟨(some 12), none, none, .bin .rem 3 (.tmp 11) (.val (.int .i64 10))⟩, ⟨(some 13), none, none, .un .neg (.tmp 12)⟩, ⟨(some 14), none, none, .call 117 0 [(.tmp 13)]⟩, ⟨(some 15), none, none, .bin .add 9 (.tmp 10) (.tmp 14)⟩, ⟨(some 2), none, none, .mov (.tmp 15)⟩])] [0, 7, 8, 9, 10, 11, 12, 13, 14, 15]
abbrev c_moraineref03_Digits_4 : SCode := .reg [([2072, 2073, 2074, 2075], [⟨(some 16), none, none, .mov (.tmp 0)⟩, ⟨(some 17), none, none, .un .neg (.tmp 16)⟩, ⟨(some 18), none, none, .call 117 0 [(.tmp 17)]⟩, ⟨(some 19), none, none, .bin .add 9 (.val (.string ⟨#[45]⟩)) (.tmp 18)⟩, ⟨(some 2), none, none, .mov (.tmp 19)⟩])] [0, 7, 16, 17, 18, 19]
abbrev c_moraineref03_Digits_5 : SCode := .reg [([], [⟨(some 20), none, none, .mov (.tmp 0)⟩, ⟨(some 21), none, none, .bin .rem 3 (.tmp 20) (.val (.int .i64 10))⟩, ⟨(some 22), none, none, .mov (.tmp 0)⟩, ⟨(some 23), none, none, .bin .rem 3 (.tmp 22) (.val (.int .i64 10))⟩, ⟨(some 24), none, none, .bin .add 3 (.tmp 23) (.val (.int .i64 1))⟩, ⟨(some 25), none, none, .ssub (.val (.string ⟨#[48, 49, 50, 51, 52, 53, 54, 55, 56, 57]⟩)) (some (.tmp 21)) (some (.tmp 24))⟩, ⟨(some 3), none, none, .mov (.tmp 25)⟩])] [2, 5, 20, 21, 22, 23, 24, 25]
abbrev c_moraineref03_Digits_6 : SCode := .reg [([], [⟨(some 26), none, none, .mov (.tmp 0)⟩, ⟨(some 27), none, none, .bin .lss 3 (.tmp 26) (.val (.int .i64 10))⟩])] [26]
abbrev c_moraineref03_Digits_7 : SCode := .reg [([], [⟨(some 28), none, none, .mov (.tmp 3)⟩, ⟨(some 2), none, none, .mov (.tmp 28)⟩])] [0, 3, 27, 28]
abbrev c_moraineref03_Digits_8 : SCode := .reg [([2124, 2125, 2126, 2127], [⟨(some 29), none, none, .mov (.tmp 0)⟩, ⟨(some 30), none, none, .bin .quo 3 (.tmp 29) (.val (.int .i64 10))⟩, ⟨(some 31), none, none, .call 117 0 [(.tmp 30)]⟩, ⟨(some 32), none, none, .mov (.tmp 3)⟩, ⟨(some 33), none, none, .bin .add 9 (.tmp 31) (.tmp 32)⟩, ⟨(some 2), none, none, .mov (.tmp 33)⟩])] [0, 3, 27, 29, 30, 31, 32, 33]
abbrev F_moraineref03_Digits : SFunc := ⟨34, (.seq c_moraineref03_Digits_0 (.seq (.seq c_moraineref03_Digits_1 (.cond (.tmp 5) (.seq (.seq c_moraineref03_Digits_2 (.cond (.tmp 7) (.seq c_moraineref03_Digits_3 .ret) .skip)) (.seq c_moraineref03_Digits_4 .ret)) .skip)) (.seq c_moraineref03_Digits_5 (.seq (.seq c_moraineref03_Digits_6 (.cond (.tmp 27) (.seq c_moraineref03_Digits_7 .ret) .skip)) (.seq c_moraineref03_Digits_8 .ret))))), [.tmp 2], false⟩
theorem tf_moraineref03_Digits : transFunc Go.Proofs.Tryz.prog 117 (hintT [(10, 0), (14, 0), (18, 0), (31, 0)]) (fpT []) (killT [(0, [2]), (1, [4]), (2, [5, 6]), (3, [0, 7, 8, 9, 10, 11, 12, 13, 14, 15]), (4, [0, 7, 16, 17, 18, 19]), (5, [2, 5, 20, 21, 22, 23, 24, 25]), (6, [26]), (7, [0, 3, 27, 28]), (8, [0, 3, 27, 29, 30, 31, 32, 33])]) false = some F_moraineref03_Digits := by kernel_rfl
-- moraineref03.Quoted
abbrev c_moraineref03_Quoted_0 : SCode := .reg [([], [⟨(some 2), none, none, .mov (.val (.string ⟨#[]⟩))⟩])] [2]
abbrev c_moraineref03_Quoted_1 : SCode := .reg [([], [⟨(some 3), none, none, .mov (.val (.string ⟨#[34]⟩))⟩])] []
abbrev c_moraineref03_Quoted_2 : SCode := .reg [([], [⟨(some 4), none, none, .mov (.val (.int .i64 0))⟩])] []
abbrev c_moraineref03_Quoted_3 : SCode := .reg [([], [⟨(some 5), none, none, .mov (.tmp 4)⟩, ⟨(some 6), none, none, .mov (.tmp 0)⟩, ⟨(some 7), none, none, .slen (.tmp 6)⟩, ⟨(some 8), none, none, .bin .lss 3 (.tmp 5) (.tmp 7)⟩])] [5, 6, 7]
abbrev c_moraineref03_Quoted_4 : SCode := .reg [([], [⟨(some 11), none, none, .mov (.tmp 0)⟩, ⟨(some 12), none, none, .mov (.tmp 4)⟩, ⟨(some 13), none, none, .sidx (.tmp 11) (.tmp 12)⟩, ⟨(some 14), none, none, .bin .eql 5 (.tmp 13) (.val (.int .u8 34))⟩, ⟨(some 15), none, none, .mov (.tmp 14)⟩, ⟨(some 16), (some (15, false)), none, .mov (.tmp 0)⟩, ⟨(some 17), (some (15, false)), none, .mov (.tmp 4)⟩, ⟨(some 18), (some (15, false)), none, .sidx (.tmp 16) (.tmp 17)⟩, ⟨(some 19), (some (15, false)), none, .bin .eql 5 (.tmp 18) (.val (.int .u8 92))⟩, ⟨(some 20), none, none, .pick (.tmp 15) (.val (.bool true)) (.tmp 19)⟩])] [8, 11, 12, 13, 14, 15, 16, 17, 18, 19]
abbrev c_moraineref03_Quoted_5 : SCode := .reg [([], [⟨(some 21), none, none, .mov (.tmp 3)⟩, ⟨(some 22), none, none, .bin .add 9 (.tmp 21) (.val (.string ⟨#[92]⟩))⟩, ⟨(some 3), none, none, .mov (.tmp 22)⟩])] [20, 21, 22]
abbrev c_moraineref03_Quoted_6 : SCode := .reg [([], [⟨(some 23), none, none, .mov (.tmp 3)⟩, ⟨(some 24), none, none, .mov (.tmp 0)⟩, ⟨(some 25), none, none, .mov (.tmp 4)⟩, ⟨(some 26), none, none, .mov (.tmp 4)⟩, ⟨(some 27), none, none, .bin .add 3 (.tmp 26) (.val (.int .i64 1))⟩, ⟨(some 28), none, none, .ssub (.tmp 24) (some (.tmp 25)) (some (.tmp 27))⟩, ⟨(some 29), none, none, .bin .add 9 (.tmp 23) (.tmp 28)⟩, ⟨(some 3), none, none, .mov (.tmp 29)⟩])] [20, 23, 24, 25, 26, 27, 28, 29]
abbrev c_moraineref03_Quoted_7 : SCode := .reg [([], [⟨(some 9), none, none, .mov (.tmp 4)⟩, ⟨(some 10), none, none, .bin .add 3 (.tmp 9) (.val (.int .i64 1))⟩, ⟨(some 4), none, none, .mov (.tmp 10)⟩])] [9, 10]
abbrev c_moraineref03_Quoted_8 : SCode := (.seq (.seq c_moraineref03_Quoted_3 (.cond (.tmp 8) .skip (.exit 0))) (.seq (.block 1 (.seq (.seq c_moraineref03_Quoted_4 (.cond (.tmp 20) c_moraineref03_Quoted_5 .skip)) c_moraineref03_Quoted_6)) c_moraineref03_Quoted_7))
abbrev c_moraineref03_Quoted_9 : SCode := .reg [([], [⟨(some 30), none, none, .mov (.tmp 3)⟩, ⟨(some 31), none, none, .bin .add 9 (.tmp 30) (.val (.string ⟨#[34]⟩))⟩, ⟨(some 2), none, none, .mov (.tmp 31)⟩])] [0, 3, 4, 30, 31]
abbrev F_moraineref03_Quoted : SFunc := ⟨32, (.seq c_moraineref03_Quoted_0 (.seq c_moraineref03_Quoted_1 (.seq (.seq c_moraineref03_Quoted_2 (.block 0 (.loop c_moraineref03_Quoted_8))) (.seq c_moraineref03_Quoted_9 .ret)))), [.tmp 2], false⟩
theorem tf_moraineref03_Quoted : transFunc Go.Proofs.Tryz.prog 118 (hintT []) (fpT []) (killT [(0, [2]), (3, [5, 6, 7]), (5, [8, 11, 12, 13, 14, 15, 16, 17, 18, 19]), (6, [20, 21, 22]), (7, [20, 23, 24, 25, 26, 27, 28, 29]), (4, [9, 10]), (8, [0, 3, 4, 30, 31])]) false = some F_moraineref03_Quoted := by kernel_rfl
-- moraineref03.plain
abbrev c_moraineref03_plain_0 : SCode := .reg [([], [⟨(some 2), none, none, .mov (.val (.bool false))⟩])] [2]
abbrev c_moraineref03_plain_1 : SCode := .reg [([], [⟨(some 3), none, none, .mov (.tmp 0)⟩, ⟨(some 4), none, none, .bin .geq 3 (.tmp 3) (.val (.int .i64 1))⟩, ⟨(some 5), none, none, .mov (.tmp 4)⟩, ⟨(some 6), (some (5, true)), none, .mov (.tmp 0)⟩, ⟨(some 7), (some (5, true)), none, .bin .leq 3 (.tmp 6) (.val (.int .i64 4))⟩, ⟨(some 8), none, none, .pick (.tmp 5) (.tmp 7) (.val (.bool false))⟩, ⟨(some 2), none, none, .mov (.tmp 8)⟩])] [0, 3, 4, 5, 6, 7, 8]
abbrev F_moraineref03_plain : SFunc := ⟨9, (.seq c_moraineref03_plain_0 (.seq c_moraineref03_plain_1 .ret)), [.tmp 2], false⟩
theorem tf_moraineref03_plain : transFunc Go.Proofs.Tryz.prog 125 (hintT []) (fpT []) (killT [(0, [2]), (1, [0, 3, 4, 5, 6, 7, 8])]) false = some F_moraineref03_plain := by kernel_rfl
def funcs : Nat → Option SFunc
  | _ => none
end Go.Sh.Cd2
end

section
/- The document's answers for values, walked: Right, RightType, Fits, Zero, Refs. No statement of the program is proved here. -/
namespace Go.Proofs.YthjphllpkcnehaaGreatDoor
open Go Go.RowKit Go.Mor Go.Sh Go.Sh.Cd1 Go.Sh.Cd2
set_option maxRecDepth 100000
set_option maxHeartbeats 4000000
theorem rightText_doc (s : List UInt8) : rightText s = (isText s && decide (s.length ≤ 60)) := by
  unfold rightText; rw [isText_eq s.length s (Nat.le_refl _), Bool.and_comm]
theorem rightID_doc (n : Int) : rightID n = (decide (1 ≤ n) && decide (n ≤ 100000) || decide (-20 ≤ n) && decide (n ≤ -1)) := by
  unfold rightID; rw [Bool.eq_iff_iff]; simp
theorem refRight1_ok (g : Sh.Glob) (x : V) (hs : TextsOk x) (h5 : x.k ≠ 5) : SCalls Tryz.prog g 29 [tv x] [] (B (right1 x)) [] := by
  obtain ⟨k, n, s, l⟩ := x
  have HT := isText_ok g s hs
  have hln : decide ((l.length : Int) = 0) = (l.length == 0) := by rw [Bool.eq_iff_iff]; simp
  have k5 : ¬ k = 5 := h5
  have hl60 : decide ((s.length : Int) ≤ 60) = decide (s.length ≤ 60) := by rw [Bool.eq_iff_iff]; simp; omega
  have hb : bare (.mk k n s l) = (s == [] && l.length == 0) := rfl
  have hn0 : (n == 0) = decide (n = 0) := by rw [Bool.eq_iff_iff]; simp
  rw [right1_mk, hb, rightText_doc, rightID_doc, hn0]
  clear h5 hs hb
  have key : ∀ (kk : Int), kk = 3 ∨ kk = 4 → SCalls Tryz.prog g 29 [tv (.mk kk n s l)] [] (.pv (.v (.bool ((s == [] && l.length == 0) && (decide (1 ≤ n) && decide (n ≤ 100000) || decide (-20 ≤ n) && decide (n ≤ -1)))))) [] := by
    intro kk hkk
    refine call_of0 hmix tf_moraineref03_Right rfl ?_
    rcases hkk with rfl | rfl
    all_goals
      by_cases hid : (1 ≤ n ∧ n ≤ 100000) ∨ (-20 ≤ n ∧ n ≤ -1)
      · have e : (decide (1 ≤ n) && decide (n ≤ 100000) || decide (-20 ≤ n) && decide (n ≤ -1)) = true := by simpa using hid
        rw [e]
        rcases hid with ⟨q1, q2⟩ | ⟨q3, q4⟩
        · cases hs : s == [] <;> simp only [vcA, seval, vV, e0, q1, q2, hs, hln]
        · have q1 : ¬ 1 ≤ n := by omega
          cases hs : s == [] <;> simp only [vcA, seval, vV, e0, q1, q3, q4, hs, hln]
      · have e : (decide (1 ≤ n) && decide (n ≤ 100000) || decide (-20 ≤ n) && decide (n ≤ -1)) = false := by rw [← Bool.not_eq_true]; simpa using hid
        rw [e]
        by_cases q1 : 1 ≤ n
        · have q2 : ¬ n ≤ 100000 := by omega
          have q3 : -20 ≤ n := by omega
          have q4 : ¬ n ≤ -1 := by omega
          simp only [vcA, seval, vV, q1, q2, q3, q4]
        · by_cases q3 : -20 ≤ n
          · have q4 : ¬ n ≤ -1 := by omega
            simp only [vcA, seval, vV, q1, q3, q4]
          · simp only [vcA, seval, vV, q1, q3]
  by_cases k34 : k = 3 ∨ k = 4
  · rw [if_neg (by omega), if_neg (by omega), if_neg (by omega), if_pos k34]
    exact key k k34
  clear key
  refine call_of0 hmix tf_moraineref03_Right rfl ?_
  unfold B at *
  by_cases k0 : k = 0
  · subst k0
    by_cases n0 : n = 0
    · subst n0
      cases hs : s == [] <;> simp only [vcA, seval, vV, e0, hs, hln]
    · simp only [vcA, seval, vV, n0]
  rw [if_neg k0]
  by_cases k1 : k = 1
  · subst k1
    by_cases q1 : -1000000000000000 ≤ n
    · by_cases q2 : n ≤ 1000000000000000
      · cases hs : s == [] <;> simp only [vcA, seval, vV, e0, q1, q2, hs, hln]
      · simp only [vcA, seval, vV, q1, q2]
    · simp only [vcA, seval, vV, q1]
  rw [if_neg k1]
  by_cases k2 : k = 2
  · subst k2
    simp only [vcA, seval, vV]
    (with_reducible apply v_call); (· simp only [vcA, seval, vV]; with_reducible rfl); (· exact HT); (· first | rfl | (simp only [vcA, seval]; omega)); (· simp only [vcA, seval, vV]; with_reducible rfl)
    by_cases n0 : n = 0
    · subst n0
      cases isText s
      · simp only [vcA, seval, vV]
      · by_cases q : (s.length : Int) ≤ 60
        · have q' : s.length ≤ 60 := by omega
          simp only [vcA, seval, vV, q, q', hln]
        · have q' : ¬ s.length ≤ 60 := by omega
          simp only [vcA, seval, vV, q, q']
    · simp only [vcA, seval, vV, n0]
  rw [if_neg k2]
  rw [if_neg k34]
  have k3 : ¬ k = 3 := fun h => k34 (.inl h)
  have k4 : ¬ k = 4 := fun h => k34 (.inr h)
  simp only [vcA, seval, vV, k0, k1, k2, k3, k4, k5]
end Go.Proofs.YthjphllpkcnehaaGreatDoor
end
