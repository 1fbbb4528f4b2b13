/- Sh: walking code over data that is not known. No statement of the program is proved here. -/
import Derived.Test.YtdlolkogifigpaaDoorS16
set_option linter.unusedSimpArgs false
set_option linter.unusedVariables false
namespace Go.Sh
open Go Go.RowKit
set_option maxHeartbeats 4000000

def noC : Oracle := fun _ _ _ => none
theorem noC_sound (P : Program) (g : Glob) : SoundC P g noC := fun f xs os y os' h => by cases h
def SOp.isCall : SOp → Bool | .call .. | .callv .. => true | _ => false
theorem eff_noC {P : Program} {C : Oracle} {dst : Option Nat} {o : SOp} (h : o.isCall = false) (s : FS) : eff P C dst o s = eff P noC dst o s := by
  cases o <;> first | rfl | cases h
theorem effG_noC {P : Program} {C : Oracle} {o : SOper} (h : o.op.isCall = false) (s : FS) : effG P C o s = effG P noC o s := by
  unfold effG effF
  rw [eff_noC h]
/-- One operation that is no call. -/
def stepW (P : Program) (o : SOper) (K : ES → Prop) (s : ES) : Option (TV × Upd) → Prop
  | some e => K (s.after o e)
  | none => False
section
variable {P : Program} {g : Glob} {o : SOper} {l : List SOper} {K : ES → Prop} {s : ES}
theorem opsW_nc (h : o.op.isCall = false) : opsW P g (o :: l) K s ↔ stepW P o (opsW P g l K) s (effG P noC o s.fs) := by
  constructor
  · rintro ⟨C, hC, e, he, hk⟩
    rw [effG_noC h] at he
    rw [he]; exact hk
  · intro hk
    cases he : effG P noC o s.fs with
    | none => rw [he] at hk; exact hk.elim
    | some e => rw [he] at hk; exact ⟨noC, noC_sound P g, e, he, hk⟩
theorem opsW_nil : opsW P g [] K s ↔ K s := Iff.rfl
theorem regW_one {n : List Nat} {kill : List Nat} : regW P g [(n, l)] kill K s ↔ opsW P g l (fun s' => K (s'.kill kill)) (s.fgt n) := by simp [regW]
/-- The first way, the second way of a region with an append. -/
theorem regW_1 {n : List Nat} {kill : List Nat} {r : List (List Nat × List SOper)} (h : opsW P g l (fun s' => K (s'.kill kill)) (s.fgt n)) : regW P g ((n, l) :: r) kill K s := ⟨(n, l), List.mem_cons_self .., h⟩
theorem regW_2 {n n0 : List Nat} {l0 : List SOper} {kill : List Nat} {r : List (List Nat × List SOper)} (h : opsW P g l (fun s' => K (s'.kill kill)) (s.fgt n)) : regW P g ((n0, l0) :: (n, l) :: r) kill K s := ⟨(n, l), List.mem_cons_of_mem _ (List.mem_cons_self ..), h⟩
/-- A call, by what it is handed. -/
def callK (P : Program) (g : Glob) (k f m : Nat) (s : FS) (K : TV → Upd → Prop) : Option (List TV) → Prop
  | none => False
  | some args => ∃ I, I = handI s m args ∧ ∃ xs' os, seqO (TV.ren2 (rhoIn I)) args = some xs' ∧ seqO (fun d => (s.mo d).bind (MO.ren (rhoIn I))) I = some os ∧
      ∃ y os', SCalls P g f xs' os y os' ∧ moOk os os' = true ∧ ∃ y' us, y.ren3 (rhoOut I k) = some y' ∧ outs (rhoOut I k) 0 os' = some us ∧ K y' (.mem us)
open Classical in
noncomputable def theC (f : Nat) (xs : List TV) (os : List MO) (r : TV × List MO) : Oracle := fun f' xs' os' => if f' = f ∧ xs' = xs ∧ os' = os then some r else none
theorem theC_sound {f : Nat} {xs : List TV} {os os' : List MO} {y : TV} (h : SCalls P g f xs os y os') : SoundC P g (theC f xs os (y, os')) := by
  intro f' xs' os2 y' os3 h'
  unfold theC at h'
  split at h'
  · rename_i hc
    obtain ⟨rfl, rfl, rfl⟩ := hc
    cases h'; exact h
  · cases h'
theorem callEff_of {k f m : Nat} {s : FS} {K : TV → Upd → Prop} {args : List TV} (h : callK P g k f m s K (some args)) : ∃ C, SoundC P g C ∧ ∃ y' u, callEff C s k f m args = some (y', u) ∧ K y' u := by
  obtain ⟨I, rfl, xs', os, h1, h2, y, os', hc, hmo, y', us, h3, h4, hk⟩ := h
  refine ⟨theC f xs' os (y, os'), theC_sound hc, y', .mem us, ?_, hk⟩
  unfold callEff
  unfold handI at h1 h2 h3 h4
  simp only []
  rw [h1, h2]
  simp only [theC, and_self, if_true, hmo, h3, h4]
theorem opsW_call {dst : Option Nat} {f m : Nat} {xs : List Arg} (h : callK P g (dstId dst) f m s.fs (fun y u => opsW P g l K (s.after ⟨dst, none, none, .call f m xs⟩ (y, u))) (seqO (fun x : Arg => x.get s.fs) xs)) : opsW P g (⟨dst, none, none, .call f m xs⟩ :: l) K s := by
  cases hx : seqO (fun x : Arg => x.get s.fs) xs with
  | none => rw [hx] at h; exact h.elim
  | some args =>
    rw [hx] at h
    obtain ⟨C, hC, y', u, he, hk⟩ := callEff_of h
    exact ⟨C, hC, (y', u), by simp only [effG, effF, footOk, eff, hx, Option.bind_some, he], hk⟩
theorem opsW_callg {dst : Option Nat} {f m gs : Nat} {b : Bool} {xs : List Arg} (hg : s.fs.t gs = some (.pv (.v (.bool b)))) (h : callK P g (dstId dst) f m s.fs (fun y u => opsW P g l K (s.after ⟨dst, some (gs, b), none, .call f m xs⟩ (y, u))) (seqO (fun x : Arg => x.get s.fs) xs)) : opsW P g (⟨dst, some (gs, b), none, .call f m xs⟩ :: l) K s := by
  cases hx : seqO (fun x : Arg => x.get s.fs) xs with
  | none => rw [hx] at h; exact h.elim
  | some args =>
    rw [hx] at h
    obtain ⟨C, hC, y', u, he, hk⟩ := callEff_of h
    exact ⟨C, hC, (y', u), by simp only [effG, hg, beq_self_eq_true, if_true, effF, footOk, eff, hx, Option.bind_some, he], hk⟩
/-- A call that is not made. -/
theorem opsW_skip {dst : Option Nat} {gs : Nat} {b : Bool} {op : SOp} {fp : Option Nat} (hg : s.fs.t gs = some (.pv (.v (.bool (!b))))) (h : opsW P g l K (s.after ⟨dst, some (gs, b), fp, op⟩ (.pv (.v undef), .no))) : opsW P g (⟨dst, some (gs, b), fp, op⟩ :: l) K s :=
  ⟨noC, noC_sound P g, _, by simp only [effG, hg]; cases b <;> simp, h⟩
def callvK (P : Program) (g : Glob) (k m : Nat) (s : FS) (K : TV → Upd → Prop) : Option (Nat × List TV × List TV) → Option (List TV) → Prop
  | some (f, fa, fb), some vs => callK P g k f m s K (some (fa ++ vs ++ fb))
  | _, _ => False
theorem opsW_callv {dst : Option Nat} {m : Nat} {x : Arg} {xs : List Arg} (h : callvK P g (dstId dst) m s.fs (fun y u => opsW P g l K (s.after ⟨dst, none, none, .callv x m xs⟩ (y, u))) ((x.get s.fs).bind TV.callee) (seqO (fun x : Arg => x.get s.fs) xs)) : opsW P g (⟨dst, none, none, .callv x m xs⟩ :: l) K s := by
  cases hc : (x.get s.fs).bind TV.callee with
  | none => rw [hc] at h; exact h.elim
  | some c =>
    obtain ⟨f, fa, fb⟩ := c
    cases hx : seqO (fun x : Arg => x.get s.fs) xs with
    | none => rw [hc, hx] at h; exact h.elim
    | some vs =>
      rw [hc, hx] at h
      have h' : callK P g (dstId dst) f m s.fs (fun y u => opsW P g l K (s.after ⟨dst, none, none, .callv x m xs⟩ (y, u))) (some (fa ++ vs ++ fb)) := h
      obtain ⟨C, hC, y', u, he, hk⟩ := callEff_of h'
      exact ⟨C, hC, (y', u), by simp only [effG, effF, footOk, eff, hc, hx, he], hk⟩
end
/-- What a function answers, by its results. -/
def exitR (res : List SRes) (keep : Bool) (n : Nat) (s : ES) : Option (TV × List MO) := exitF ⟨0, .skip, res, keep⟩ n s
theorem exitF_R (F : SFunc) (n : Nat) (s : ES) : exitF F n s = exitR F.res F.keep n s := rfl
def PostR (res : List SRes) (keep : Bool) (n : Nat) (y : TV) (os' : List MO) : SExit → ES → Prop
  | .ret, s | .normal, s => exitR res keep n s = some (y, os')
  | .exit _, _ => False
theorem call_of {P : Program} {g : Glob} {f : Nat} {H : Nat → Option Nat → Nat} {Fp : Nat → List (Nat → Option Nat)} {K : Nat → List Nat} {keep : Bool} {F : SFunc} (hmix : P.follows .mixedOrders = true) (hF : transFunc P f H Fp K keep = some F) {xs : List TV} {os os' : List MO} {y : TV} (hn : Nat.ble xs.length F.N = true) (hos : Nat.ble os.length 1000 = true) (hmo : moOk os os' = true)
    (h : swp P g F.code (PostR F.res F.keep os.length y os') (startE xs os)) : SCalls P g f xs os y os' :=
  call_of_swp hmix hF (Nat.le_of_ble_eq_true hn) (Nat.le_of_ble_eq_true hos) hmo (swp_mono h fun e s he => by
    cases e with
    | normal => exact ⟨.inr rfl, by rw [exitF_R]; exact he⟩
    | ret => exact ⟨.inl rfl, by rw [exitF_R]; exact he⟩
    | exit id => exact he.elim)

/-- What a function answers that hands out no memory of its own. -/
def ansW (y : TV) : Option TV → Prop
  | some y0 => y0.ids3 = [] ∧ y0.ren3 (rhoIn []) = some y
  | none => False
def Post0 (res : List SRes) (y : TV) : SExit → ES → Prop
  | .ret, s | .normal, s => ansW y (resT s.fs res)
  | .exit _, _ => False
theorem call_of0 {P : Program} {g : Glob} {f : Nat} {H : Nat → Option Nat → Nat} {Fp : Nat → List (Nat → Option Nat)} {K : Nat → List Nat} {keep : Bool} {F : SFunc} (hmix : P.follows .mixedOrders = true) (hF : transFunc P f H Fp K keep = some F) {xs : List TV} {y : TV} (hn : Nat.ble xs.length F.N = true)
    (h : swp P g F.code (Post0 F.res y) (startE xs [])) : SCalls P g f xs [] y [] := by
  have key : ∀ s, ansW y (resT s.fs F.res) → exitR F.res F.keep 0 s = some (y, []) := by
    intro s he
    cases hr : resT s.fs F.res with
    | none => rw [hr] at he; exact he.elim
    | some y0 =>
      rw [hr] at he
      obtain ⟨h1, h2⟩ := he
      simp [exitR, exitF, hr, idsFrom, h1, reach, h2, seqO]
  refine call_of hmix hF hn rfl rfl (swp_mono h fun e s he => ?_)
  cases e with
  | normal => exact key s he
  | ret => exact key s he
  | exit id => exact he.elim

section
variable (P : Program) (t : TypeId) (k : IntKind) (a b : Int) (x y : ByteArray)
def binS (op : BinOp) (t : TypeId) (vx vy : Value) : Sem Value := do eqGuard op t (.const vx) (.const vy) vx vy; binOp op t vx vy
theorem bin_lss : scal P (do eqGuard .lss t (.const (.int k a)) (.const (.int k b)) (.int k a) (.int k b); binOp .lss t (.int k a) (.int k b)) = some (.pv (.v (.bool (decide (a < b)))), .no) := by simp [scal, eqGuard, binOp, Op.intCmp]; rfl
theorem bin_gtr : scal P (do eqGuard .gtr t (.const (.int k a)) (.const (.int k b)) (.int k a) (.int k b); binOp .gtr t (.int k a) (.int k b)) = some (.pv (.v (.bool (decide (b < a)))), .no) := by simp [scal, eqGuard, binOp, Op.intCmp]; rfl
theorem bin_leq : scal P (do eqGuard .leq t (.const (.int k a)) (.const (.int k b)) (.int k a) (.int k b); binOp .leq t (.int k a) (.int k b)) = some (.pv (.v (.bool (decide (a ≤ b)))), .no) := by simp [scal, eqGuard, binOp, Op.intCmp]; rfl
theorem bin_geq : scal P (do eqGuard .geq t (.const (.int k a)) (.const (.int k b)) (.int k a) (.int k b); binOp .geq t (.int k a) (.int k b)) = some (.pv (.v (.bool (decide (b ≤ a)))), .no) := by simp [scal, eqGuard, binOp, Op.intCmp]; rfl
theorem bin_eql : scal P (do eqGuard .eql t (.const (.int k a)) (.const (.int k b)) (.int k a) (.int k b); binOp .eql t (.int k a) (.int k b)) = some (.pv (.v (.bool (decide (a = b)))), .no) := by
  have : (a == b) = decide (a = b) := by rfl
  simp [scal, eqGuard, binOp, Op.intCmp]; rfl
theorem bin_neq : scal P (do eqGuard .neq t (.const (.int k a)) (.const (.int k b)) (.int k a) (.int k b); binOp .neq t (.int k a) (.int k b)) = some (.pv (.v (.bool (!decide (a = b)))), .no) := by simp [scal, eqGuard, binOp, Op.intCmp]; rfl
theorem bin_add : scal P (do eqGuard .add t (.const (.int k a)) (.const (.int k b)) (.int k a) (.int k b); binOp .add t (.int k a) (.int k b)) = some (.pv (.v (.int k (k.wrap (a + b)))), .no) := by simp [scal, eqGuard, binOp, Op.intArith]; rfl
theorem bin_sub : scal P (do eqGuard .sub t (.const (.int k a)) (.const (.int k b)) (.int k a) (.int k b); binOp .sub t (.int k a) (.int k b)) = some (.pv (.v (.int k (k.wrap (a - b)))), .no) := by simp [scal, eqGuard, binOp, Op.intArith]; rfl
theorem bin_mul : scal P (do eqGuard .mul t (.const (.int k a)) (.const (.int k b)) (.int k a) (.int k b); binOp .mul t (.int k a) (.int k b)) = some (.pv (.v (.int k (k.wrap (a * b)))), .no) := by simp [scal, eqGuard, binOp, Op.intArith]; rfl
theorem bin_quo (hb : b ≠ 0) : scal P (do eqGuard .quo t (.const (.int k a)) (.const (.int k b)) (.int k a) (.int k b); binOp .quo t (.int k a) (.int k b)) = some (.pv (.v (.int k (k.wrap (a.tdiv b)))), .no) := by simp [scal, eqGuard, binOp, Op.intDiv, hb]; rfl
theorem bin_rem (hb : b ≠ 0) : scal P (do eqGuard .rem t (.const (.int k a)) (.const (.int k b)) (.int k a) (.int k b); binOp .rem t (.int k a) (.int k b)) = some (.pv (.v (.int k (a.tmod b))), .no) := by simp [scal, eqGuard, binOp, Op.intDiv, hb]; rfl
theorem sbin_eql : scal P (do eqGuard .eql t (.const (.string x)) (.const (.string y)) (.string x) (.string y); binOp .eql t (.string x) (.string y)) = some (.pv (.v (.bool (x.toList == y.toList))), .no) := by simp [scal, eqGuard, binOp, Op.stringOp]; rfl
theorem sbin_neq : scal P (do eqGuard .neq t (.const (.string x)) (.const (.string y)) (.string x) (.string y); binOp .neq t (.string x) (.string y)) = some (.pv (.v (.bool (!(x.toList == y.toList)))), .no) := by simp [scal, eqGuard, binOp, Op.stringOp]; rfl
theorem sbin_lss : scal P (do eqGuard .lss t (.const (.string x)) (.const (.string y)) (.string x) (.string y); binOp .lss t (.string x) (.string y)) = some (.pv (.v (.bool (Op.bytesLess x.toList y.toList))), .no) := by simp [scal, eqGuard, binOp, Op.stringOp]; rfl
theorem sbin_gtr : scal P (do eqGuard .gtr t (.const (.string x)) (.const (.string y)) (.string x) (.string y); binOp .gtr t (.string x) (.string y)) = some (.pv (.v (.bool (!(Op.bytesLess x.toList y.toList || x.toList == y.toList)))), .no) := by simp [scal, eqGuard, binOp, Op.stringOp]; rfl
theorem sbin_add (h : x.size + y.size ≤ 9223372036854775807) : scal P (do eqGuard .add t (.const (.string x)) (.const (.string y)) (.string x) (.string y); binOp .add t (.string x) (.string y)) = some (.pv (.v (.string (x ++ y))), .no) := by
  have hm : IntKind.i64.max = 9223372036854775807 := by rfl
  have h' : ¬ (((x.size + y.size : Nat) : Int) > IntKind.i64.max) := by rw [hm]; omega
  simp only [scal, eqGuard, binOp, Op.stringOp, h', if_false]; rfl
theorem un_neg : scal P (Op.unary .neg (.int k a)) = some (.pv (.v (.int k (k.wrap (0 - a)))), .no) := rfl
theorem un_not (q : Bool) : scal P (Op.unary .not (.bool q)) = some (.pv (.v (.bool (!q))), .no) := rfl
end
theorem nbeq (a b : Nat) : Nat.beq a b = (a == b) := by
  cases h : Nat.beq a b with
  | true => simp [Nat.eq_of_beq_eq_true h]
  | false => have : a ≠ b := by rintro rfl; rw [Nat.beq_refl] at h; cases h
             simp [this]
theorem nble (a b : Nat) : Nat.ble a b = decide (a ≤ b) := by
  cases h : Nat.ble a b with
  | true => have := Nat.le_of_ble_eq_true h; simp [this]
  | false => have : ¬ a ≤ b := fun hl => by rw [Nat.ble_eq_true_of_le hl] at h; cases h
             simp [this]
theorem nblt (a b : Nat) : Nat.blt a b = decide (a < b) := by unfold Nat.blt; rw [nble]; rfl
theorem bFT : (false == true) = false := rfl
theorem bTF : (true == false) = false := rfl
theorem decide_T {p : Prop} [Decidable p] (h : p) : decide p = true := decide_eq_true h
theorem decide_F {p : Prop} [Decidable p] (h : ¬ p) : decide p = false := decide_eq_false h
theorem condW_iff {c : Arg} {s : ES} {A B : Prop} {t : Bool} (h : c.get s.fs = some (.pv (.v (.bool t)))) : condW c s A B ↔ (if t then A else B) := by
  constructor
  · rintro ⟨t', h1, h2⟩
    rw [h] at h1; cases h1; exact h2
  · exact fun h2 => ⟨t, h, h2⟩
theorem wrapL (n : Nat) (h : n ≤ 9223372036854775807 := by decide) : IntKind.i64.wrap (OfNat.ofNat n) = (OfNat.ofNat n : Int) := by
  have : (OfNat.ofNat n : Int) = (n : Int) := rfl
  rw [this, IntKind.wrap_i64]; omega
theorem wrap64 {x : Int} (h0 : -9223372036854775808 ≤ x) (h1 : x ≤ 9223372036854775807) : IntKind.i64.wrap x = x := by rw [IntKind.wrap_i64]; omega

/-- A region without calls. -/
def regE1 (P : Program) (n : List Nat) (l : List SOper) (kill : List Nat) (s : ES) : Option ES := (runE P noC l (s.fgt n)).map fun s' => s'.kill kill
section
variable {P : Program} {g : Glob} {a b c : SCode} {Q : SExit → ES → Prop} {s s' : ES} {n kill : List Nat} {l : List SOper} {r : List (List Nat × List SOper)}
theorem reg_K {K : ES → Prop} (h : regE1 P n l kill s = some s') (hk : K s') : opsW P g l (fun s' => K (s'.kill kill)) (s.fgt n) := by
  obtain ⟨s1, h1, rfl⟩ := Option.map_eq_some_iff.1 h
  exact opsW_of_runE (noC_sound P g) h1 hk
theorem w_seq (h : swp P g a (thenW (swp P g b Q) Q) s) : swp P g (.seq a b) Q s := h
theorem w_assoc (h : swp P g (.seq a (.seq b c)) Q s) : swp P g (.seq (.seq a b) c) Q s := by
  refine swp_mono (c := a) h (fun e s he => ?_)
  cases e with
  | normal =>
    refine swp_mono (c := b) he (fun e s he => ?_)
    cases e with
    | normal => exact he
    | exit id => exact he
    | ret => exact he
  | exit id => exact he
  | ret => exact he
theorem w_reg (h : regE1 P n l kill s = some s') (hk : swp P g b Q s') : swp P g (.seq (.reg ((n, l) :: r) kill) b) Q s := regW_1 (reg_K h hk)
theorem w_reg2 {n0 : List Nat} {l0 : List SOper} (h : regE1 P n l kill s = some s') (hk : swp P g b Q s') : swp P g (.seq (.reg ((n0, l0) :: (n, l) :: r) kill) b) Q s := regW_2 (reg_K h hk)
theorem w_ops (hk : opsW P g l (fun s' => swp P g b Q (s'.kill kill)) (s.fgt n)) : swp P g (.seq (.reg ((n, l) :: r) kill) b) Q s := regW_1 hk
theorem w_regE (h : regE1 P n l kill s = some s') (hk : Q .normal s') : swp P g (.reg ((n, l) :: r) kill) Q s := regW_1 (reg_K h hk)
theorem w_opsE (hk : opsW P g l (fun s' => Q .normal (s'.kill kill)) (s.fgt n)) : swp P g (.reg ((n, l) :: r) kill) Q s := regW_1 hk
theorem w_skip (h : swp P g b Q s) : swp P g (.seq .skip b) Q s := h
theorem w_cond {x : Arg} {t : Bool} (hx : x.get s.fs = some (.pv (.v (.bool t)))) (h1 : t = true → swp P g (.seq a c) Q s) (h2 : t = false → swp P g (.seq b c) Q s) : swp P g (.seq (.cond x a b) c) Q s := by
  refine ⟨t, hx, ?_⟩
  cases t with
  | true => exact h1 rfl
  | false => exact h2 rfl
theorem w_condE {x : Arg} {t : Bool} (hx : x.get s.fs = some (.pv (.v (.bool t)))) (h1 : t = true → swp P g a Q s) (h2 : t = false → swp P g b Q s) : swp P g (.cond x a b) Q s := by
  refine ⟨t, hx, ?_⟩
  cases t with
  | true => exact h1 rfl
  | false => exact h2 rfl
theorem w_condT {x : Arg} (hx : x.get s.fs = some (.pv (.v (.bool true)))) (h1 : swp P g (.seq a c) Q s) : swp P g (.seq (.cond x a b) c) Q s := w_cond hx (fun _ => h1) (fun h => by cases h)
theorem w_condF {x : Arg} (hx : x.get s.fs = some (.pv (.v (.bool false)))) (h1 : swp P g (.seq b c) Q s) : swp P g (.seq (.cond x a b) c) Q s := w_cond hx (fun h => by cases h) (fun _ => h1)
theorem w_condTE {x : Arg} (hx : x.get s.fs = some (.pv (.v (.bool true)))) (h1 : swp P g a Q s) : swp P g (.cond x a b) Q s := w_condE hx (fun _ => h1) (fun h => by cases h)
theorem w_condFE {x : Arg} (hx : x.get s.fs = some (.pv (.v (.bool false)))) (h1 : swp P g b Q s) : swp P g (.cond x a b) Q s := w_condE hx (fun h => by cases h) (fun _ => h1)
theorem w_retE (h : Q .ret s) : swp P g .ret Q s := h
theorem w_skipE (h : Q .normal s) : swp P g .skip Q s := h
theorem w_exitE {id : Nat} (h : Q (.exit id) s) : swp P g (.exit id) Q s := h
theorem q_then {K : ES → Prop} (h : K s) : thenW K Q .normal s := h
theorem q_blockN {id : Nat} (h : Q .normal s) : blockW id Q .normal s := h
theorem q_blockR {id : Nat} (h : Q .ret s) : blockW id Q .ret s := h
theorem q_thenR {K : ES → Prop} (h : Q .ret s) : thenW K Q .ret s := h
theorem q_thenX {K : ES → Prop} {id : Nat} (h : Q (.exit id) s) : thenW K Q (.exit id) s := h
theorem q_blockX {id : Nat} (h : Q .normal s) : blockW id Q (.exit id) s := by simp only [blockW, if_true]; exact h
theorem q_blockY {id j : Nat} (hj : Nat.beq j id = false) (h : Q (.exit j) s) : blockW id Q (.exit j) s := by
  simp only [blockW]; rw [if_neg (fun e => by rw [e, Nat.beq_refl] at hj; cases hj)]; exact h
theorem w_ret (h : Q .ret s) : swp P g (.seq .ret c) Q s := h
theorem w_exit {id : Nat} (h : Q (.exit id) s) : swp P g (.seq (.exit id) c) Q s := h
theorem w_block {id : Nat} (h : swp P g a (blockW id (thenW (swp P g c Q) Q)) s) : swp P g (.seq (.block id a) c) Q s := h
theorem w_blockE {id : Nat} (h : swp P g a (blockW id Q) s) : swp P g (.block id a) Q s := h
/-- A loop, by the states at its head. -/
theorem w_loop {σ : Type} (st : σ → ES) (μ : σ → Nat) (x0 : σ) (h0 : (st x0).Le s) (hr : ∀ x, swp P g a (thenW (fun s' => ∃ y, μ y < μ x ∧ (st y).Le s') (thenW (swp P g c Q) Q)) (st x)) : swp P g (.seq (.loop a) c) Q s := by
  refine ⟨fun n s => ∃ x, μ x = n ∧ s = st x, μ x0, ⟨st x0, h0.lw, x0, rfl, rfl⟩, ?_⟩
  rintro n s ⟨x, rfl, rfl⟩
  refine swp_mono (hr x) (fun e s he => ?_)
  cases e with
  | normal => obtain ⟨y, h1, h2⟩ := he; exact ⟨μ y, h1, st y, h2.lw, y, rfl, rfl⟩
  | exit id => exact he
  | ret => exact he
theorem w_loopE {σ : Type} (st : σ → ES) (μ : σ → Nat) (x0 : σ) (h0 : (st x0).Le s) (hr : ∀ x, swp P g a (thenW (fun s' => ∃ y, μ y < μ x ∧ (st y).Le s') Q) (st x)) : swp P g (.loop a) Q s := by
  refine ⟨fun n s => ∃ x, μ x = n ∧ s = st x, μ x0, ⟨st x0, h0.lw, x0, rfl, rfl⟩, ?_⟩
  rintro n s ⟨x, rfl, rfl⟩
  refine swp_mono (hr x) (fun e s he => ?_)
  cases e with
  | normal => obtain ⟨y, h1, h2⟩ := he; exact ⟨μ y, h1, st y, h2.lw, y, rfl, rfl⟩
  | exit id => exact he
  | ret => exact he
/-- A loop of few rounds. -/
def unrollW (P : Program) (g : Glob) (a : SCode) (Q : SExit → ES → Prop) : Nat → ES → Prop
  | 0, _ => False
  | k + 1, s => swp P g a (thenW (unrollW P g a Q k) Q) s
theorem w_unr {k : Nat} (h : swp P g a (thenW (unrollW P g a Q k) Q) s) : unrollW P g a Q (k + 1) s := h
theorem w_unrollE (k : Nat) (h : unrollW P g a Q k s) : swp P g (.loop a) Q s := by
  refine ⟨fun n s => unrollW P g a Q n s, k, ⟨s, .refl s, h⟩, fun n s h => ?_⟩
  cases n with
  | zero => exact h.elim
  | succ n =>
    refine swp_mono (c := a) h (fun e s he => ?_)
    cases e with
    | normal => exact ⟨n, Nat.lt_succ_self n, s, .refl s, he⟩
    | exit id => exact he
    | ret => exact he
theorem w_unroll (k : Nat) (h : unrollW P g a (thenW (swp P g c Q) Q) k s) : swp P g (.seq (.loop a) c) Q s := w_unrollE k h
/-- A call ahead of others. -/
theorem w_call {K : ES → Prop} {dst : Option Nat} {f m : Nat} {xs : List Arg} {args xs' : List TV} {I : List Nat} {os os' : List MO} {y y' : TV} {us : List (Nat × MO)} (hx : seqO (fun x : Arg => x.get s.fs) xs = some args) (hI : handI s.fs m args = I) (h1 : seqO (TV.ren2 (rhoIn I)) args = some xs')
    (h2 : seqO (fun d => (s.fs.mo d).bind (MO.ren (rhoIn I))) I = some os) (hc : SCalls P g f xs' os y os') (hmo : moOk os os' = true) (h3 : y.ren3 (rhoOut I (dstId dst)) = some y') (h4 : outs (rhoOut I (dstId dst)) 0 os' = some us) (hs : s.after ⟨dst, none, none, .call f m xs⟩ (y', .mem us) = s') (hk : opsW P g l K s') :
    opsW P g (⟨dst, none, none, .call f m xs⟩ :: l) K s := by
  refine opsW_call ?_
  rw [hx]
  exact ⟨I, hI.symm, xs', os, h1, h2, y, os', hc, hmo, y', us, h3, h4, by rw [← hs] at hk; exact hk⟩
/-- An operation ahead of others. -/
theorem w_op {o : SOper} {K : ES → Prop} {e : TV × Upd} (hc : o.op.isCall = false) (he : effG P noC o s.fs = some e) (hs : s.after o e = s') (hk : opsW P g l K s') : opsW P g (o :: l) K s := by
  rw [opsW_nc hc, he]; rw [← hs] at hk; exact hk
theorem w_done {K : ES → Prop} (h : K s) : opsW P g [] K s := h
end
end Go.Sh
