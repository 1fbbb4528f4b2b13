/- Sh: guarded calls in a walk; what is known may be made less. No statement of the program is proved here. -/
import Derived.Test.YtdlolkogifigpaaDoorS17
import Derived.Laws.StructEq
set_option linter.unusedSimpArgs false
set_option linter.unusedVariables false
namespace Go.Sh
open Go Go.RowKit
section
variable {P : Program} {g : Glob} {b : SCode} {Q : SExit → ES → Prop} {s s' : ES} {n kill : List Nat} {l : List SOper} {r : List (List Nat × List SOper)}
/-- A guarded call that is made. -/
theorem w_callg {K : ES → Prop} {dst : Option Nat} {f m gs : Nat} {t : Bool} {xs : List Arg} {args xs' : List TV} {I : List Nat} {os os' : List MO} {y y' : TV} {us : List (Nat × MO)} (hg : s.fs.t gs = some (.pv (.v (.bool t)))) (hx : seqO (fun x : Arg => x.get s.fs) xs = some args) (hI : handI s.fs m args = I) (h1 : seqO (TV.ren2 (rhoIn I)) args = some xs')
    (h2 : seqO (fun d => (s.fs.mo d).bind (MO.ren (rhoIn I))) I = some os) (hc : SCalls P g f xs' os y os') (hmo : moOk os os' = true) (h3 : y.ren3 (rhoOut I (dstId dst)) = some y') (h4 : outs (rhoOut I (dstId dst)) 0 os' = some us) (hs : s.after ⟨dst, some (gs, t), none, .call f m xs⟩ (y', .mem us) = s') (hk : opsW P g l K s') :
    opsW P g (⟨dst, some (gs, t), none, .call f m xs⟩ :: l) K s := by
  refine opsW_callg hg ?_
  rw [hx]
  exact ⟨I, hI.symm, xs', os, h1, h2, y, os', hc, hmo, y', us, h3, h4, by rw [← hs] at hk; exact hk⟩
/-- A guarded call that is not made. -/
theorem w_skipc {K : ES → Prop} {dst : Option Nat} {gs f m : Nat} {t : Bool} {xs : List Arg} (hg : s.fs.t gs = some (.pv (.v (.bool (!t))))) (hs : s.after ⟨dst, some (gs, t), none, .call f m xs⟩ (.pv (.v undef), .no) = s') (hk : opsW P g l K s') : opsW P g (⟨dst, some (gs, t), none, .call f m xs⟩ :: l) K s :=
  opsW_skip hg (by rw [hs]; exact hk)
theorem w_ops2 {n0 : List Nat} {l0 : List SOper} (hk : opsW P g l (fun s' => swp P g b Q (s'.kill kill)) (s.fgt n)) : swp P g (.seq (.reg ((n0, l0) :: (n, l) :: r) kill) b) Q s := regW_2 hk
theorem w_ops2E {n0 : List Nat} {l0 : List SOper} (hk : opsW P g l (fun s' => Q .normal (s'.kill kill)) (s.fgt n)) : swp P g (.reg ((n0, l0) :: (n, l) :: r) kill) Q s := regW_2 hk
end
/-- What is known of a value may be made less. -/
def Wk (x y : TV) : Prop := ∀ w E r v, RelT w E r x v → RelT w E r y v
theorem Wk.refl (x : TV) : Wk x x := fun _ _ _ _ h => h
theorem Wk.trans {x y z : TV} (h : Wk x y) (h' : Wk y z) : Wk x z := fun w E r v hr => h' w E r v (h w E r v hr)
theorem wk_nil (W : Nat) : Wk (.pv (.v (.slice none 0 0))) (.pv (.sl W [])) := by
  intro w E r v h
  cases h with
  | pv h =>
    cases h with
    | v x => exact .pv (.sl W [] 0 0 0 none (fun _ _ => undef) (by simp) (by simp) (by simp) (by simp) (by simp) (by simp))
theorem wk_agg {cs ds : List TV} (hl : cs.length = ds.length) (h : ∀ (j : Nat) c d, cs[j]? = some c → ds[j]? = some d → Wk c d) : Wk (.agg cs) (.agg ds) := by
  intro w E r v hr
  cases hr with
  | agg cs vs hl' hv ho =>
    refine .agg ds vs (hl ▸ hl') (fun j d v hd hv' => ?_) ho
    have hj : j < cs.length := by
      rcases Nat.lt_or_ge j ds.length with h | h
      · omega
      · rw [List.getElem?_eq_none h] at hd; cases hd
    exact h j _ d (List.getElem?_eq_getElem hj) hd w E r v (hv j _ v (List.getElem?_eq_getElem hj) hv')
theorem SCalls.out {P : Program} {g : Glob} {f : Nat} {xs : List TV} {os os' : List MO} {y y' : TV} (h : SCalls P g f xs os y os') (hw : Wk y y') : SCalls P g f xs os y' os' :=
  ⟨h.1, fun w E vs hG hm hX hl hr => (h.2 w E vs hG hm hX hl hr).mono (by
    rintro e w' ⟨v, E', h1, h2, h3, h4⟩
    exact ⟨v, E', h1, h2, hw _ _ _ _ h3, h4⟩)⟩
theorem SCalls.inp {P : Program} {g : Glob} {f : Nat} {xs xs' : List TV} {os os' : List MO} {y : TV} (h : SCalls P g f xs' os y os') (hl : xs.length = xs'.length) (hw : ∀ (j : Nat) c d, xs[j]? = some c → xs'[j]? = some d → Wk c d) : SCalls P g f xs os y os' :=
  ⟨h.1, fun w E vs hG hm hX hl' hr => h.2 w E vs hG hm hX (hl ▸ hl') (fun j d v hd hv => by
    have hj : j < xs.length := by
      rcases Nat.lt_or_ge j xs'.length with h | h
      · omega
      · rw [List.getElem?_eq_none h] at hd; cases hd
    exact hw j _ d (List.getElem?_eq_getElem hj) hd w E _ v (hr j _ v (List.getElem?_eq_getElem hj) hv))⟩
end Go.Sh
namespace Go.Sh
open Go Go.RowKit
theorem reach_none {s : FS} : ∀ (f : Nat) (l : List Nat), (∀ d ∈ l, s.b d = none) → reach s false f l [] = []
  | 0, _, _ => by simp [reach]
  | _ + 1, [], _ => by simp [reach]
  | f + 1, d :: l, h => by
    have h1 := h d (by simp)
    simp only [reach, pos, h1]
    have ih := reach_none f l (fun e he => h e (by simp [he]))
    cases s.r d <;> exact ih
def ansW1 (s : ES) (y : TV) : Option TV → Prop
  | some y0 => (y0.ids3.all fun d => (s.fs.b d).isNone) = true ∧ y0.ren3 (rhoIn []) = some y
  | none => False
def Post1 (res : List SRes) (y : TV) : SExit → ES → Prop
  | .ret, s | .normal, s => ansW1 s y (resT s.fs res)
  | .exit _, _ => False
theorem call_of1 {P : Program} {g : Glob} {f : Nat} {H : Nat → Option Nat → Nat} {Fp : Nat → List (Nat → Option Nat)} {K : Nat → List Nat} {F : SFunc} (hmix : P.follows .mixedOrders = true) (hF : transFunc P f H Fp K false = some F) (hk : F.keep = false) {xs : List TV} {y : TV} (hn : Nat.ble xs.length F.N = true)
    (h : swp P g F.code (Post1 F.res y) (startE xs [])) : SCalls P g f xs [] y [] := by
  have key : ∀ s, ansW1 s y (resT s.fs F.res) → exitR F.res F.keep 0 s = some (y, []) := by
    intro s he
    cases hr : resT s.fs F.res with
    | none => rw [hr] at he; exact he.elim
    | some y0 =>
      rw [hr] at he
      obtain ⟨h1, h2⟩ := he
      have h3 : reach s.fs false 64 y0.ids3 [] = [] := reach_none 64 _ (fun d hd => by simpa using List.all_eq_true.1 h1 d hd)
      simp [exitR, exitF, hr, idsFrom, hk, h3, h2, seqO]
  refine call_of hmix hF hn rfl rfl (swp_mono h fun e s he => ?_)
  cases e with
  | normal => exact key s he
  | ret => exact key s he
  | exit id => exact he.elim
end Go.Sh
namespace Go.Sh
open Go Go.RowKit
theorem pr_ite {α : Type} (P : Program) (c : Prop) [Decidable c] (a b : Sem α) : pureRun P (if c then a else b) = if c then pureRun P a else pureRun P b := by split <;> rfl
theorem pr_pure {α : Type} (P : Program) (a : α) : pureRun P (pure a) = some a := rfl
theorem pr_program (P : Program) : pureRun P program = some P := rfl
theorem pr_equal_struct {P : Program} (d : Nat) (t : TypeId) (xs ys : Array Value) (ht : pureRun P (underlying t) = some (.struct (P.fieldsOf t))) (hp : P.stoodInHeld t = false) :
    pureRun P (Op.equalIn (d + 1) t (.agg xs) (.agg ys)) = pureRun P (Op.eqFields d xs ys (P.fieldsOf t).toList) := by
  simp only [Op.equalIn, pureRun_bind, ht, Option.bind_some, pr_program, hp, Bool.false_eq_true, if_false]
  rw [← Array.forIn_toList]
  generalize (P.fieldsOf t).toList = fs
  clear ht
  induction fs with
  | nil => simp [Op.eqFields, pr_pure]
  | cons f fs ih =>
    simp only [List.forIn_cons, Op.eqFields, pureRun_bind, pr_ite]
    split
    · generalize pureRun P (part f.type xs f.offset) = r1
      cases r1 with
      | none => rfl
      | some a =>
        simp only [Option.bind_some]
        generalize pureRun P (part f.type ys f.offset) = r2
        cases r2 with
        | none => rfl
        | some b =>
          simp only [Option.bind_some]
          generalize pureRun P (Op.equalIn d f.type a b) = r3
          cases r3 with
          | none => rfl
          | some r =>
            cases r
            · simp only [Option.bind_some, Bool.not_false, if_true, pr_pure]
            · simp only [Option.bind_some, Bool.not_true, Bool.false_eq_true, if_false, pr_pure]
              exact ih
    · simp only [pr_pure, Option.bind_some]
      exact ih
end Go.Sh
