/- Merged texts: Zv2 PSign Sy1 Sn1 Sy5 Sy7 Pt1 Cd2 Zt1 Zt2 Zr1 Sy11 Zy2 Zy1 Sv1. No statement of the program is proved here. -/
import Derived.Test.YthjphllpkcnehaaGreatDoorM3
import Derived.Test.YthjphllpkcnehaaGreatDoorProg
import Derived.KernelRfl
set_option linter.unusedSimpArgs false
set_option linter.unusedVariables false
section
/- Package val's functions, walked: Right, Fits, Zero. No statement of the program is proved here. -/
namespace Go.Proofs.YthjphllpkcnehaaGreatDoor
open Go Go.RowKit Go.Mor Go.Sh Go.Sh.Cd1
set_option maxRecDepth 100000
set_option maxHeartbeats 4000000
theorem noItem_ok0 (m : Nat) (x : V) (hs : TextsOk x) : SCalls Tryz.prog (gl0 m) 67 [tv x] [] (B (noItem x)) [] := by
  refine call_of0 hmix tf_val_noItem rfl ?_
  unfold noItem B
  by_cases k5 : x.k = 5
  · have h : (x.k == 5) = true := by simp [k5]
    have d : decide (x.k = 5) = true := by simp [k5]
    simp only [vcA, seval, vV, d, h]
    rfl
  · have HR := right1_ok0 m x hs k5
    have h : (x.k == 5) = false := by simpa using k5
    unfold B at HR
    simp only [vcA, seval, vV, k5, h]
    (with_reducible apply v_call); (· simp only [vcA, seval, vV]; with_reducible rfl); (· exact HR); (· first | rfl | (simp only [vcA, seval]; omega)); (· simp only [vcA, seval, vV]; with_reducible rfl)
    simp only [vcA, seval, vV]
theorem firstAt_drop {α : Type} (p : α → Bool) : ∀ (l : List α) (i : Nat), (∀ j x, j < i → l[j]? = some x → p x = false) → ∀ x, l[i]? = some x → p x = true → firstAt p l = i
  | [], i, _, x, hx, _ => by simp at hx
  | a :: l, 0, _, x, hx, hp => by simp at hx; subst hx; simp [firstAt, List.findIdx?_cons, hp]
  | a :: l, i + 1, h, x, hx, hp => by
    have h0 := h 0 a (by omega) rfl
    have := firstAt_drop p l i (fun j y hj hy => h (j + 1) y (by omega) (by simpa using hy)) x (by simpa using hx) hp
    unfold firstAt at this ⊢
    rw [List.findIdx?_cons, h0]
    cases hf : l.findIdx? p with
    | none => rw [hf] at this; simp only at this; omega
    | some q => rw [hf] at this; simp only at this ⊢; simp; omega
theorem firstAt_none {α : Type} (p : α → Bool) (l : List α) (h : ∀ x ∈ l, p x = false) : firstAt p l = -1 := by
  have : l.findIdx? p = none := List.findIdx?_eq_none_iff.2 h
  unfold firstAt; rw [this]
theorem firstAt_any {α : Type} (p : α → Bool) (l : List α) : decide (0 ≤ firstAt p l) = l.any p := by
  rw [Bool.eq_iff_iff, decide_eq_true_eq, List.any_eq_true]
  constructor
  · intro h
    by_cases hn : ∀ x ∈ l, p x = false
    · rw [firstAt_none p l hn] at h; omega
    · obtain ⟨x, hx⟩ := Classical.not_forall.1 hn
      obtain ⟨hx, hp⟩ := Classical.not_imp.1 hx
      exact ⟨x, hx, by simpa using hp⟩
  · rintro ⟨x, hx, hp⟩
    unfold firstAt
    cases hf : l.findIdx? p with
    | none => rw [List.findIdx?_eq_none_iff.1 hf x hx] at hp; cases hp
    | some i => simp
/-- slices.IndexFunc over values, by noItem. -/
theorem indexNo_ok (m : Nat) (l : List V) (hl : l.length ≤ maxLen) (hs : ∀ x ∈ l, TextsOk x) : SCalls Tryz.prog (gl0 m) 121 [.pv (.sl 4 (V.rows l)), .pv (.v (.func (.func 67) #[] #[]))] [] (I (firstAt noItem l)) [] := by
  refine call_of0 hmix tf_slices_IndexFunc___api_Val_api_Val_ rfl ?_
  have hm : maxLen = 9223372036854775807 := rfl
  simp only [vcA, seval, vV]
  refine v_loop (σ := {i : Nat // i ≤ l.length ∧ ∀ j x, j < i → l[j]? = some x → noItem x = false}) (fun i => ⟨[(0, .pv (.sl 4 (V.rows l))), (1, .pv (.v (.func (.func 67) #[] #[]))), (7, I (l.length : Int)), (8, I (i.1 : Int))], [], [], []⟩) (fun i => l.length - i.1) ⟨0, Nat.zero_le _, fun j x hj => by omega⟩ (lw_eq (by simp [I])) ?_
  rintro ⟨i, hi, hno⟩
  by_cases hlt : i < l.length
  · have d1 : (i : Int) < (l.length : Int) := by omega
    obtain ⟨x, ex⟩ : ∃ x, l[i]? = some x := ⟨_, List.getElem?_eq_getElem hlt⟩
    have HN := noItem_ok0 m x (hs x (List.mem_of_getElem? ex))
    have w1 : IntKind.i64.wrap ((i : Int) + 1) = ((i + 1 : Nat) : Int) := by rw [wrap64 (by omega) (by omega)]; omega
    unfold tv B at HN
    simp only [vcA, seval, vV, d1, ex]
    (with_reducible apply v_callv); (· simp only [vcA, seval, vV]; with_reducible rfl); (· exact HN); (· rfl); (· simp only [vcA, seval, vV]; with_reducible rfl)
    cases hp : noItem x
    · simp only [vcA, seval, vV, w1]
      refine loopK_of ⟨i + 1, by omega, fun j y hj hy => ?_⟩ (by show l.length - (i + 1) < l.length - i; omega) ?_
      · by_cases hji : j = i
        · subst hji; rw [ex] at hy; cases hy; exact hp
        · exact hno j y (by omega) hy
      · apply lw_of <;> simp [leL, lk, sv, Nat.beq, I, S, ES.kill, has, drp, nilT]
    · simp only [vcA, seval, vV]
      rw [firstAt_drop noItem l i hno x ex hp]
  · have d1 : ¬ (i : Int) < (l.length : Int) := by omega
    simp only [vcA, seval, vV, d1]
    rw [firstAt_none noItem l (fun x hx => by
      obtain ⟨j, hj⟩ := List.getElem?_of_mem hx
      exact hno j x (by have := (List.getElem?_eq_some_iff.1 hj).1; omega) hj)]
theorem containsNo_ok (m : Nat) (l : List V) (hl : l.length ≤ maxLen) (hs : ∀ x ∈ l, TextsOk x) : SCalls Tryz.prog (gl0 m) 66 [.pv (.sl 4 (V.rows l)), .pv (.v (.func (.func 67) #[] #[]))] [] (B (l.any noItem)) [] := by
  refine call_of0 hmix tf_slices_ContainsFunc___api_Val_api_Val_ rfl ?_
  have HI := indexNo_ok m l hl hs
  rw [← firstAt_any]
  unfold B
  simp only [vcA, seval, vV]
  (with_reducible apply v_call); (· simp only [vcA, seval, vV]; with_reducible rfl); (· exact HI); (· first | rfl | (simp only [vcA, seval]; omega)); (· simp only [vcA, seval, vV]; with_reducible rfl)
  simp only [vcA, seval, vV]
theorem rightV_ok0 (m : Nat) (x : V) (hx : VOk x) : SCalls Tryz.prog (gl0 m) 28 [tv x] [] (B (rightV x)) [] := by
  unfold rightV
  by_cases k5 : x.k = 5
  · rw [if_pos k5]
    obtain ⟨k, n, s, l⟩ := x
    simp only [Vk] at k5
    subst k5
    simp only [Vn, Vs, Vl]
    refine call_of0 hmix tf_val_Right rfl ?_
    unfold B
    by_cases n0 : n = 0
    · subst n0
      cases hs : s == []
      · simp only [vcA, seval, vV, e0, hs]
      · by_cases h12 : l.length ≤ 12
        · have d1 : (l.length : Int) ≤ 12 := by omega
          have HC := containsNo_ok m l (by unfold maxLen; omega) (fun y hy => hx.2 y hy)
          unfold B at HC
          simp only [vcA, seval, vV, e0, hs, d1, h12]
          (with_reducible apply v_call); (· simp only [vcA, seval, vV]; with_reducible rfl); (· exact HC); (· first | rfl | (simp only [vcA, seval]; omega)); (· simp only [vcA, seval, vV]; with_reducible rfl)
          simp only [vcA, seval, vV]
        · have d1 : ¬ (l.length : Int) ≤ 12 := by omega
          simp only [vcA, seval, vV, e0, hs, d1, h12]
    · have hn0 : (n == 0) = false := by simpa using n0
      simp only [vcA, seval, vV, n0, hn0]
  · rw [if_neg k5]
    exact right1_ok0 m x hx.1 k5
theorem rightType_ok (g : Sh.Glob) (t : Ty) : SCalls Tryz.prog g 74 [tyT t] [] (B (rightType t)) [] := by
  refine call_of0 hmix tf_val_rightType rfl ?_
  obtain ⟨k, o⟩ := t
  unfold B
  simp only [vcA, seval, vV]
  unfold rightType
  repeat' (first | (apply And.intro) | (intro _))
  all_goals (first | (simp_all; done) | (simp_all; omega))
theorem ofKind_ok (g : Sh.Glob) (x : V) (k : Int) : SCalls Tryz.prog g 75 [tv x, I k] [] (B (ofKind x k)) [] := by
  refine call_of0 hmix tf_val_ofKind rfl ?_
  unfold B
  simp only [vcA, seval, vV]
  unfold ofKind
  repeat' (first | (apply And.intro) | (intro _))
  all_goals (first | (simp_all; done) | (simp only [Option.some.injEq, TV.pv.injEq, PV.v.injEq, Value.bool.injEq]; rw [Bool.eq_iff_iff]; simp_all; done) | (simp only [Option.some.injEq, TV.pv.injEq, PV.v.injEq, Value.bool.injEq]; rw [Bool.eq_iff_iff]; simp_all; omega))
theorem zero_ok (g : Sh.Glob) (t : Ty) : SCalls Tryz.prog g 38 [tyT t] [] (nv (zeroV t)) [] := by
  refine call_of0 hmix tf_val_Zero rfl ?_
  have HR := rightType_ok g t
  unfold B at HR
  obtain ⟨k, o⟩ := t
  generalize hr : rightType ⟨k, o⟩ = r at HR
  have key : zeroV ⟨k, o⟩ = if !r || k == 3 || k == 4 then V.nil else .mk k 0 [] [] := by rw [← hr]; rfl
  rw [key]
  simp only [vcA, seval, vV]
  (with_reducible apply v_call); (· simp only [vcA, seval, vV]; with_reducible rfl); (· exact HR); (· first | rfl | (simp only [vcA, seval]; omega)); (· simp only [vcA, seval, vV]; with_reducible rfl)
  cases r
  · simp only [vcA, seval, vV]
    rfl
  · simp only [vcA, seval, vV]
    repeat' (first | (apply And.intro) | (intro _))
    all_goals (first | (simp_all [V.nil, V.k, V.n, V.s, e0]; done) | rfl)
/-- What Fits asks of each item. -/
theorem fits1_ok (g : Sh.Glob) (x : V) (t : Ty) : SCalls Tryz.prog g 76 [tv x, .ptr 1000 0] [.box [I t.k, I t.o]] (B (!ofKind x t.o)) [.box [I t.k, I t.o]] := by
  refine call_of hmix tf_val_Fits_1 rfl rfl rfl ?_
  have HK := ofKind_ok g x t.o
  unfold B at *
  simp only [vcA, seval, vV]
  (with_reducible apply v_call); (· simp only [vcA, seval, vV]; with_reducible rfl); (· exact HK); (· first | rfl | (simp only [vcA, seval]; omega)); (· simp only [vcA, seval, vV]; with_reducible rfl)
  simp only [vcA, seval, vV]
theorem indexFits_ok (g : Sh.Glob) (l : List V) (t : Ty) (hl : l.length ≤ maxLen) : SCalls Tryz.prog g 121 [.pv (.sl 4 (V.rows l)), .fn (.func 76) [] [.ptr 1000 0]] [.box [I t.k, I t.o]] (I (firstAt (fun y => !ofKind y t.o) l)) [.box [I t.k, I t.o]] := by
  refine call_of hmix tf_slices_IndexFunc___api_Val_api_Val_ rfl rfl rfl ?_
  have hm : maxLen = 9223372036854775807 := rfl
  simp only [vcA, seval, vV]
  refine v_loop (σ := {i : Nat // i ≤ l.length ∧ ∀ j x, j < i → l[j]? = some x → (!ofKind x t.o) = false}) (fun i => ⟨[(0, .pv (.sl 4 (V.rows l))), (1, .fn (.func 76) [] [.ptr 1000 0]), (7, I (l.length : Int)), (8, I (i.1 : Int))], [(1000, [I t.k, I t.o])], [], []⟩) (fun i => l.length - i.1) ⟨0, Nat.zero_le _, fun j x hj => by omega⟩ (lw_eq (by simp [I])) ?_
  rintro ⟨i, hi, hno⟩
  by_cases hlt : i < l.length
  · have d1 : (i : Int) < (l.length : Int) := by omega
    obtain ⟨x, ex⟩ : ∃ x, l[i]? = some x := ⟨_, List.getElem?_eq_getElem hlt⟩
    have HN := fits1_ok g x t
    have w1 : IntKind.i64.wrap ((i : Int) + 1) = ((i + 1 : Nat) : Int) := by rw [wrap64 (by omega) (by omega)]; omega
    unfold tv B at HN
    simp only [vcA, seval, vV, d1, ex]
    (with_reducible apply v_callv); (· simp only [vcA, seval, vV]; with_reducible rfl); (· exact HN); (· rfl); (· simp only [vcA, seval, vV]; with_reducible rfl)
    cases hp : ofKind x t.o
    · simp only [vcA, seval, vV]
      rw [firstAt_drop (fun y => !ofKind y t.o) l i hno x ex (by simp [hp])]
    · simp only [vcA, seval, vV, w1]
      refine loopK_of ⟨i + 1, by omega, fun j y hj hy => ?_⟩ (by show l.length - (i + 1) < l.length - i; omega) ?_
      · by_cases hji : j = i
        · subst hji; rw [ex] at hy; cases hy; simp [hp]
        · exact hno j y (by omega) hy
      · apply lw_of <;> simp [leL, lk, sv, Nat.beq, I, S, ES.kill, has, drp, nilT]
  · have d1 : ¬ (i : Int) < (l.length : Int) := by omega
    simp only [vcA, seval, vV, d1]
    rw [firstAt_none (fun y => !ofKind y t.o) l (fun x hx => by
      obtain ⟨j, hj⟩ := List.getElem?_of_mem hx
      exact hno j x (by have := (List.getElem?_eq_some_iff.1 hj).1; omega) hj)]
theorem containsFits_ok (g : Sh.Glob) (l : List V) (t : Ty) (hl : l.length ≤ maxLen) : SCalls Tryz.prog g 66 [.pv (.sl 4 (V.rows l)), .fn (.func 76) [] [.ptr 1000 0]] [.box [I t.k, I t.o]] (B (l.any fun y => !ofKind y t.o)) [.box [I t.k, I t.o]] := by
  refine call_of hmix tf_slices_ContainsFunc___api_Val_api_Val_ rfl rfl rfl ?_
  have HI := indexFits_ok g l t hl
  rw [← firstAt_any]
  unfold B
  simp only [vcA, seval, vV]
  (with_reducible apply v_call); (· simp only [vcA, seval, vV]; with_reducible rfl); (· exact HI); (· first | rfl | (simp only [vcA, seval]; omega)); (· simp only [vcA, seval, vV]; with_reducible rfl)
  simp only [vcA, seval, vV]
theorem fits_ok0 (m : Nat) (x : V) (t : Ty) (hx : VOk x) (hl : x.l.length ≤ maxLen) : SCalls Tryz.prog (gl0 m) 36 [tv x, tyT t] [] (B (fitsV x t)) [] := by
  refine call_of0 hmix tf_val_Fits rfl ?_
  have HR := rightV_ok0 m x hx
  have HT := rightType_ok (gl0 m) t
  have HK := ofKind_ok (gl0 m) x t.k
  have HC := containsFits_ok (gl0 m) x.l t hl
  unfold fitsV B at *
  simp only [vcA, seval, vV]
  (with_reducible apply v_call); (· simp only [vcA, seval, vV]; with_reducible rfl); (· exact HR); (· first | rfl | (simp only [vcA, seval]; omega)); (· simp only [vcA, seval, vV]; with_reducible rfl)
  cases rightV x
  · simp only [vcA, seval, vV]
  simp only [vcA, seval, vV]
  (with_reducible apply v_call); (· simp only [vcA, seval, vV]; with_reducible rfl); (· exact HT); (· first | rfl | (simp only [vcA, seval]; omega)); (· simp only [vcA, seval, vV]; with_reducible rfl)
  cases rightType t
  · simp only [vcA, seval, vV]
  simp only [vcA, seval, vV]
  (with_reducible apply v_call); (· simp only [vcA, seval, vV]; with_reducible rfl); (· exact HK); (· first | rfl | (simp only [vcA, seval]; omega)); (· simp only [vcA, seval, vV]; with_reducible rfl)
  cases ofKind x t.k
  · simp only [vcA, seval, vV]
  simp only [vcA, seval, vV]
  (with_reducible apply v_call); (· simp only [vcA, seval, vV]; with_reducible rfl); (· exact HC); (· first | rfl | (simp only [vcA, seval]; omega)); (· simp only [vcA, seval, vV]; with_reducible rfl)
  simp only [vcA, seval, vV]
end Go.Proofs.YthjphllpkcnehaaGreatDoor
end

section
/- The document's signs of texts, and Go's own decoder: the same. -/
namespace Go.Mor
open Go
set_option maxHeartbeats 4000000

/-- How many bytes the first sign has: of so many bytes, by its first four. -/
def signN (n b0 b1 b2 b3 : Nat) : Nat :=
  if b0 < 128 then 1
  else if 194 ≤ b0 ∧ b0 ≤ 223 then (if n < 2 ∨ b1 < 128 ∨ 191 < b1 then 0 else 2)
  else if 224 ≤ b0 ∧ b0 ≤ 239 then (if n < 3 ∨ b1 < (if b0 = 224 then 160 else 128) ∨ (if b0 = 237 then 159 else 191) < b1 ∨ b2 < 128 ∨ 191 < b2 then 0 else 3)
  else if 240 ≤ b0 ∧ b0 ≤ 244 then (if n < 4 ∨ b1 < (if b0 = 240 then 144 else 128) ∨ (if b0 = 244 then 143 else 191) < b1 ∨ b2 < 128 ∨ 191 < b2 ∨ b3 < 128 ∨ 191 < b3 then 0 else 4)
  else 0
def signL (l : List UInt8) : Nat := if l = [] then 0 else signN l.length (l.getD 0 0).toNat (l.getD 1 0).toNat (l.getD 2 0).toNat (l.getD 3 0).toNat
theorem signN_decode (n b0 b1 b2 b3 : Nat) (h0 : b0 < 256) (h1 : b1 < 256) (h2 : b2 < 256) (h3 : b3 < 256) :
    signN n b0 b1 b2 b3 = if (Lib.decodeN n b0 b1 b2 b3).1 = 65533 ∧ (Lib.decodeN n b0 b1 b2 b3).2 = 1 then 0 else (Lib.decodeN n b0 b1 b2 b3).2 := by
  unfold signN Lib.decodeN
  repeat' split
  all_goals (simp_all <;> omega)
end Go.Mor
end

section
/- Small functions of chapter 3's statements, as plain functions. No statement of the program is proved here. -/
namespace Go.Proofs.YthjphllpkcnehaaGreatDoor
open Go Go.RowKit Go.Mor Go.Sh Go.Sh.Cd1
set_option maxRecDepth 100000
set_option maxHeartbeats 2000000
/-- The rules of walks. -/
theorem shA : (type_of% @Go.Proofs.YthjphllpkcnehaaGreatDoor.I.eq_1) ∧ (type_of% @Go.Proofs.YthjphllpkcnehaaGreatDoor.S.eq_1) ∧ (type_of% @Go.Sh.bFT) ∧ (type_of% @Go.Sh.bTF) ∧ (type_of% @Go.Sh.regE1.eq_1) ∧ (type_of% @Go.Sh.runE.eq_1) ∧ (type_of% @Go.Sh.runE.eq_2) ∧ (type_of% @Go.Sh.ES.fgt.eq_1) ∧ (type_of% @List.map_cons.{0, 0}) ∧ (type_of% @List.map_nil.{0, 0}) ∧ (type_of% @Go.Sh.fgt3.eq_1) ∧ (type_of% @Go.Sh.TV.m3.eq_1) ∧ (type_of% @Go.Sh.TV.m3.eq_2) ∧ (type_of% @Go.Sh.TV.m2.eq_1) ∧ (type_of% @Go.Sh.TV.m2.eq_2) ∧ (type_of% @Go.Sh.TV.m1.eq_1) ∧ (type_of% @Go.Sh.TV.m1.eq_2) ∧ (type_of% @Go.Sh.TV.m0.eq_1) ∧ (type_of% @Go.Sh.TV.m0.eq_2) ∧ (type_of% @Go.Sh.TV.m0.eq_3) ∧ (type_of% @Go.Sh.TV.m0.eq_4) ∧ (type_of% @Go.Sh.TV.m0.eq_5) ∧ (type_of% @Go.Sh.TV.m0.eq_6) ∧ (type_of% @Go.Sh.TV.m0.eq_7) ∧ (type_of% @List.any_cons.{0}) ∧ (type_of% @List.any_nil.{0}) ∧ (type_of% @Bool.or_false) ∧ (type_of% @Bool.false_or) ∧ (type_of% @Go.Sh.drp.eq_1) ∧ (type_of% @Go.Sh.drp.eq_2) ∧ (type_of% @Go.Sh.effG.eq_1) ∧ (type_of% @Go.Sh.effF.eq_1) ∧ (type_of% @Go.Sh.footOk.eq_1) ∧ (type_of% @Go.Sh.SOp.foot.eq_1) ∧ (type_of% @Go.Sh.SOp.foot.eq_2) ∧ (type_of% @Go.Sh.SOp.foot.eq_3) ∧ (type_of% @Go.Sh.eff.eq_1) ∧ (type_of% @Go.Sh.eff.eq_2) ∧ (type_of% @Go.Sh.eff.eq_3) ∧ (type_of% @Go.Sh.eff.eq_4) ∧ (type_of% @Go.Sh.eff.eq_5) ∧ (type_of% @Go.Sh.eff.eq_6) ∧ (type_of% @Go.Sh.eff.eq_7) ∧ (type_of% @Go.Sh.eff.eq_8) ∧ (type_of% @Go.Sh.eff.eq_9) ∧ (type_of% @Go.Sh.eff.eq_10) ∧ (type_of% @Go.Sh.eff.eq_11) ∧ (type_of% @Go.Sh.eff.eq_12) ∧ (type_of% @Go.Sh.eff.eq_13) ∧ (type_of% @Go.Sh.eff.eq_14) ∧ (type_of% @Go.Sh.eff.eq_15) ∧ (type_of% @Go.Sh.eff.eq_16) ∧ (type_of% @Go.Sh.eff.eq_17) ∧ (type_of% @Go.Sh.eff.eq_18) ∧ (type_of% @Go.Sh.eff.eq_19) ∧ (type_of% @Go.Sh.eff.eq_20) ∧ (type_of% @Go.Sh.eff.eq_21) ∧ (type_of% @Go.Sh.eff.eq_22) ∧ (type_of% @Go.Sh.eff.eq_23) ∧ (type_of% @Go.Sh.eff.eq_24) ∧ (type_of% @Go.Sh.eff.eq_25) ∧ (type_of% @Go.Sh.eff.eq_26) ∧ (type_of% @Go.Sh.eff.eq_27) ∧ (type_of% @Go.Sh.eff.eq_28) ∧ (type_of% @Go.Sh.eff.eq_29) ∧ (type_of% @Go.Sh.eff.eq_30) ∧ (type_of% @Go.Sh.eff.eq_31) ∧ (type_of% @Go.Sh.eff.eq_32) ∧ (type_of% @Go.Sh.eff.eq_33) ∧ (type_of% @Go.Sh.eff.eq_34) ∧ (type_of% @Go.Sh.eff.eq_35) ∧ (type_of% @Go.Sh.eff.eq_36) ∧ (type_of% @Go.Sh.eff.eq_37) ∧ (type_of% @Go.Sh.eff.eq_38) ∧ (type_of% @Go.Sh.eff.eq_39) ∧ (type_of% @Go.Sh.eff.eq_40) ∧ (type_of% @Go.Sh.Arg.get.eq_1) ∧ (type_of% @Go.Sh.Arg.get.eq_2) ∧ (type_of% @Go.Sh.ES.fs.eq_1) ∧ (type_of% @Go.Sh.lk.eq_1) ∧ (type_of% @Go.Sh.lk.eq_2) ∧ (type_of% @Option.map_some.{0, 0}) ∧ (type_of% @Option.bind_some.{0, 0}) ∧ (type_of% @Go.Sh.ES.after.eq_1) ∧ (type_of% @Go.Sh.ES.upd.eq_1) ∧ (type_of% @Go.Sh.ES.upd.eq_2) ∧ (type_of% @Go.Sh.ES.upd.eq_3) ∧ (type_of% @Go.Sh.ES.upd.eq_4) ∧ (type_of% @Go.Sh.ES.upd.eq_5) ∧ (type_of% @Go.Sh.ES.upd.eq_6) ∧ (type_of% @Go.Sh.ES.upd.eq_7) ∧ (type_of% @Go.Sh.ES.put.eq_1) ∧ (type_of% @Go.Sh.ES.put.eq_2) ∧ (type_of% @Go.Sh.sv.eq_1) ∧ (type_of% @Go.Sh.sv.eq_2) ∧ (type_of% @Go.Sh.ES.kill.eq_1) ∧ (type_of% @Go.Sh.ES.kill.eq_2) ∧ (type_of% @Go.Sh.has.eq_1) ∧ (type_of% @Go.Sh.has.eq_2) ∧ (type_of% @Go.Sh.nbeq) ∧ (type_of% @Go.Sh.nble) ∧ (type_of% @Go.Sh.nblt) ∧ (type_of% @Go.Sh.TV.val.eq_1) ∧ (type_of% @Go.Sh.TV.val.eq_2) ∧ (type_of% @Go.Sh.TV.val1.eq_1) ∧ (type_of% @Go.Sh.TV.val1.eq_2) ∧ (type_of% @Go.Sh.TV.int.eq_1) ∧ (type_of% @Go.Sh.TV.int.eq_2) ∧ (type_of% @Go.Sh.TV.str.eq_1) ∧ (type_of% @Go.Sh.TV.str.eq_2) ∧ (type_of% @Go.Sh.TV.cells.eq_1) ∧ (type_of% @Go.Sh.TV.cells.eq_2) ∧ (type_of% @Go.Sh.TV.cells.eq_3) ∧ (type_of% @Go.Sh.TV.cells.eq_4) ∧ (type_of% @Go.Sh.TV.cells.eq_5) ∧ (type_of% @Go.Sh.TV.slen.eq_1) ∧ (type_of% @Go.Sh.TV.slen.eq_2) ∧ (type_of% @Go.Sh.TV.slen.eq_3) ∧ (type_of% @Go.Sh.TV.slen.eq_4) ∧ (type_of% @Go.Sh.TV.slen.eq_5) ∧ (type_of% @Go.Sh.TV.toPV.eq_1) ∧ (type_of% @Go.Sh.TV.toPV.eq_2) ∧ (type_of% @Go.Sh.TV.toPV.eq_3) ∧ (type_of% @Go.Sh.TV.pvs.eq_1) ∧ (type_of% @Go.Sh.seqO.eq_1) ∧ (type_of% @Go.Sh.seqO.eq_2) ∧ (type_of% @Go.Sh.bin_lss) ∧ (type_of% @Go.Sh.bin_gtr) ∧ (type_of% @Go.Sh.bin_leq) ∧ (type_of% @Go.Sh.bin_geq) ∧ (type_of% @Go.Sh.bin_eql) ∧ (type_of% @Go.Sh.bin_neq) ∧ (type_of% @Go.Sh.bin_add) ∧ (type_of% @Go.Sh.bin_sub) ∧ (type_of% @Go.Sh.bin_mul) ∧ (type_of% @Go.Sh.sbin_eql) ∧ (type_of% @Go.Sh.sbin_neq) ∧ (type_of% @Go.Sh.sbin_lss) ∧ (type_of% @Go.Sh.sbin_gtr) ∧ (type_of% @Go.Sh.un_neg) ∧ (type_of% @Go.Sh.un_not) ∧ (type_of% @Go.Sh.startE.eq_1) ∧ (type_of% @Go.Sh.numT.eq_1) ∧ (type_of% @Go.Sh.numT.eq_2) ∧ (type_of% @Go.Sh.numB.eq_1) ∧ (type_of% @Go.Sh.numB.eq_2) ∧ (type_of% @Go.Sh.numB.eq_3) ∧ (type_of% @Go.Sh.numR.eq_1) ∧ (type_of% @Go.Sh.numR.eq_2) ∧ (type_of% @Go.Sh.numR.eq_3) ∧ (type_of% @Go.Sh.ansW.eq_1) ∧ (type_of% @Go.Sh.ansW.eq_2) ∧ (type_of% @Go.Sh.resT.eq_1) ∧ (type_of% @Go.Sh.resT.eq_2) ∧ (type_of% @Go.Sh.SRes.get.eq_1) ∧ (type_of% @Go.Sh.SRes.get.eq_2) ∧ (type_of% @List.flatMap_nil.{0, 0}) ∧ (type_of% @List.flatMap_cons.{0, 0}) ∧ (type_of% @List.append_nil.{0}) ∧ (type_of% @List.nil_append.{0}) ∧ (type_of% @Go.Sh.TV.ids3.eq_1) ∧ (type_of% @Go.Sh.TV.ids3.eq_2) ∧ (type_of% @Go.Sh.TV.ids2.eq_1) ∧ (type_of% @Go.Sh.TV.ids2.eq_2) ∧ (type_of% @Go.Sh.TV.ids1.eq_1) ∧ (type_of% @Go.Sh.TV.ids1.eq_2) ∧ (type_of% @Go.Sh.TV.ids0.eq_1) ∧ (type_of% @Go.Sh.TV.ids0.eq_2) ∧ (type_of% @Go.Sh.TV.ids0.eq_3) ∧ (type_of% @Go.Sh.TV.ids0.eq_4) ∧ (type_of% @Go.Sh.TV.ren3.eq_1) ∧ (type_of% @Go.Sh.TV.ren3.eq_2) ∧ (type_of% @Go.Sh.TV.ren2.eq_1) ∧ (type_of% @Go.Sh.TV.ren2.eq_2) ∧ (type_of% @Go.Sh.TV.ren1.eq_1) ∧ (type_of% @Go.Sh.TV.ren1.eq_2) ∧ (type_of% @Go.Sh.TV.ren0.eq_1) ∧ (type_of% @Go.Sh.TV.ren0.eq_2) ∧ (type_of% @Go.Sh.TV.ren0.eq_3) ∧ (type_of% @Go.Sh.TV.ren0.eq_4) ∧ (type_of% @Go.Sh.TV.ren0.eq_5) ∧ (type_of% @Go.Sh.TV.ren0.eq_6) ∧ (type_of% @Go.Sh.bound.eq_1) ∧ (type_of% @Go.Sh.bound.eq_2) ∧ (type_of% @if_true.{1}) ∧ (type_of% @if_false.{1}) ∧ (type_of% @Bool.false_eq_true) ∧ (type_of% @Go.Sh.partsT.eq_1) ∧ (type_of% @Go.Sh.fillT.eq_1) ∧ (type_of% @Go.Sh.fillT.eq_2) ∧ (type_of% @Go.Sh.splice.eq_1) ∧ (type_of% @List.take_zero.{0}) ∧ (type_of% @List.take_succ_cons.{0}) ∧ (type_of% @List.drop_zero.{0}) ∧ (type_of% @List.drop_succ_cons.{0}) ∧ (type_of% @List.length_cons.{0}) ∧ (type_of% @List.length_nil.{0}) ∧ (type_of% @and_self) ∧ (type_of% @and_true) ∧ (type_of% @true_and) ∧ (type_of% @List.cons_append.{0}) ∧ (type_of% @List.getElem?_cons_zero.{0}) ∧ (type_of% @List.getElem?_cons_succ.{0}) ∧ (type_of% @Nat.zero_add) ∧ (type_of% @Bool.not_true) ∧ (type_of% @Bool.not_false) ∧ (type_of% @Go.Value.oneCell'.eq_1) ∧ (type_of% @Go.Value.oneCell'.eq_2) ∧ (type_of% @Go.Value.oneCell'.eq_3) ∧ (type_of% @Go.Mor.str_toList) ∧ (type_of% @Go.Mor.str_size') ∧ (type_of% @Int.toNat_natCast) ∧ (type_of% @decide_true) ∧ (type_of% @decide_false) ∧ (type_of% @beq_self_eq_true.{0}) ∧ (type_of% @Go.Sh.handI.eq_1) ∧ (type_of% @Go.Sh.FS.mo.eq_1) ∧ (type_of% @Go.Sh.MO.ren.eq_1) ∧ (type_of% @Go.Sh.MO.ren.eq_2) ∧ (type_of% @Go.Sh.rhoIn.eq_1) ∧ (type_of% @Go.Sh.pos.eq_1) ∧ (type_of% @Go.Sh.pos.eq_2) ∧ (type_of% @Go.Sh.rhoOut.eq_1) ∧ (type_of% @Go.Sh.outs.eq_1) ∧ (type_of% @Go.Sh.outs.eq_2) ∧ (type_of% @Go.Sh.newId.eq_1) ∧ (type_of% @Go.Sh.dstId.eq_1) ∧ (type_of% @Go.Sh.dstId.eq_2) ∧ (type_of% @Go.Sh.putMem.eq_1) ∧ (type_of% @Go.Sh.putMem.eq_2) ∧ (type_of% @List.lookup.eq_1.{0, 0}) ∧ (type_of% @List.lookup.eq_2.{0, 0}) ∧ (type_of% @Go.Sh.moOk.eq_1) ∧ (type_of% @Go.Sh.moOk.eq_2) ∧ (type_of% @Go.Sh.moOk.eq_3) ∧ (type_of% @Go.Sh.moOk.eq_4) ∧ (type_of% @Nat.le_refl) ∧ (type_of% @Int.natCast_nonneg) :=
  ⟨@Go.Proofs.YthjphllpkcnehaaGreatDoor.I.eq_1, @Go.Proofs.YthjphllpkcnehaaGreatDoor.S.eq_1, @Go.Sh.bFT, @Go.Sh.bTF, @Go.Sh.regE1.eq_1, @Go.Sh.runE.eq_1, @Go.Sh.runE.eq_2, @Go.Sh.ES.fgt.eq_1, @List.map_cons.{0, 0}, @List.map_nil.{0, 0}, @Go.Sh.fgt3.eq_1, @Go.Sh.TV.m3.eq_1, @Go.Sh.TV.m3.eq_2, @Go.Sh.TV.m2.eq_1, @Go.Sh.TV.m2.eq_2, @Go.Sh.TV.m1.eq_1, @Go.Sh.TV.m1.eq_2, @Go.Sh.TV.m0.eq_1, @Go.Sh.TV.m0.eq_2, @Go.Sh.TV.m0.eq_3, @Go.Sh.TV.m0.eq_4, @Go.Sh.TV.m0.eq_5, @Go.Sh.TV.m0.eq_6, @Go.Sh.TV.m0.eq_7, @List.any_cons.{0}, @List.any_nil.{0}, @Bool.or_false, @Bool.false_or, @Go.Sh.drp.eq_1, @Go.Sh.drp.eq_2, @Go.Sh.effG.eq_1, @Go.Sh.effF.eq_1, @Go.Sh.footOk.eq_1, @Go.Sh.SOp.foot.eq_1, @Go.Sh.SOp.foot.eq_2, @Go.Sh.SOp.foot.eq_3, @Go.Sh.eff.eq_1, @Go.Sh.eff.eq_2, @Go.Sh.eff.eq_3, @Go.Sh.eff.eq_4, @Go.Sh.eff.eq_5, @Go.Sh.eff.eq_6, @Go.Sh.eff.eq_7, @Go.Sh.eff.eq_8, @Go.Sh.eff.eq_9, @Go.Sh.eff.eq_10, @Go.Sh.eff.eq_11, @Go.Sh.eff.eq_12, @Go.Sh.eff.eq_13, @Go.Sh.eff.eq_14, @Go.Sh.eff.eq_15, @Go.Sh.eff.eq_16, @Go.Sh.eff.eq_17, @Go.Sh.eff.eq_18, @Go.Sh.eff.eq_19, @Go.Sh.eff.eq_20, @Go.Sh.eff.eq_21, @Go.Sh.eff.eq_22, @Go.Sh.eff.eq_23, @Go.Sh.eff.eq_24, @Go.Sh.eff.eq_25, @Go.Sh.eff.eq_26, @Go.Sh.eff.eq_27, @Go.Sh.eff.eq_28, @Go.Sh.eff.eq_29, @Go.Sh.eff.eq_30, @Go.Sh.eff.eq_31, @Go.Sh.eff.eq_32, @Go.Sh.eff.eq_33, @Go.Sh.eff.eq_34, @Go.Sh.eff.eq_35, @Go.Sh.eff.eq_36, @Go.Sh.eff.eq_37, @Go.Sh.eff.eq_38, @Go.Sh.eff.eq_39, @Go.Sh.eff.eq_40, @Go.Sh.Arg.get.eq_1, @Go.Sh.Arg.get.eq_2, @Go.Sh.ES.fs.eq_1, @Go.Sh.lk.eq_1, @Go.Sh.lk.eq_2, @Option.map_some.{0, 0}, @Option.bind_some.{0, 0}, @Go.Sh.ES.after.eq_1, @Go.Sh.ES.upd.eq_1, @Go.Sh.ES.upd.eq_2, @Go.Sh.ES.upd.eq_3, @Go.Sh.ES.upd.eq_4, @Go.Sh.ES.upd.eq_5, @Go.Sh.ES.upd.eq_6, @Go.Sh.ES.upd.eq_7, @Go.Sh.ES.put.eq_1, @Go.Sh.ES.put.eq_2, @Go.Sh.sv.eq_1, @Go.Sh.sv.eq_2, @Go.Sh.ES.kill.eq_1, @Go.Sh.ES.kill.eq_2, @Go.Sh.has.eq_1, @Go.Sh.has.eq_2, @Go.Sh.nbeq, @Go.Sh.nble, @Go.Sh.nblt, @Go.Sh.TV.val.eq_1, @Go.Sh.TV.val.eq_2, @Go.Sh.TV.val1.eq_1, @Go.Sh.TV.val1.eq_2, @Go.Sh.TV.int.eq_1, @Go.Sh.TV.int.eq_2, @Go.Sh.TV.str.eq_1, @Go.Sh.TV.str.eq_2, @Go.Sh.TV.cells.eq_1, @Go.Sh.TV.cells.eq_2, @Go.Sh.TV.cells.eq_3, @Go.Sh.TV.cells.eq_4, @Go.Sh.TV.cells.eq_5, @Go.Sh.TV.slen.eq_1, @Go.Sh.TV.slen.eq_2, @Go.Sh.TV.slen.eq_3, @Go.Sh.TV.slen.eq_4, @Go.Sh.TV.slen.eq_5, @Go.Sh.TV.toPV.eq_1, @Go.Sh.TV.toPV.eq_2, @Go.Sh.TV.toPV.eq_3, @Go.Sh.TV.pvs.eq_1, @Go.Sh.seqO.eq_1, @Go.Sh.seqO.eq_2, @Go.Sh.bin_lss, @Go.Sh.bin_gtr, @Go.Sh.bin_leq, @Go.Sh.bin_geq, @Go.Sh.bin_eql, @Go.Sh.bin_neq, @Go.Sh.bin_add, @Go.Sh.bin_sub, @Go.Sh.bin_mul, @Go.Sh.sbin_eql, @Go.Sh.sbin_neq, @Go.Sh.sbin_lss, @Go.Sh.sbin_gtr, @Go.Sh.un_neg, @Go.Sh.un_not, @Go.Sh.startE.eq_1, @Go.Sh.numT.eq_1, @Go.Sh.numT.eq_2, @Go.Sh.numB.eq_1, @Go.Sh.numB.eq_2, @Go.Sh.numB.eq_3, @Go.Sh.numR.eq_1, @Go.Sh.numR.eq_2, @Go.Sh.numR.eq_3, @Go.Sh.ansW.eq_1, @Go.Sh.ansW.eq_2, @Go.Sh.resT.eq_1, @Go.Sh.resT.eq_2, @Go.Sh.SRes.get.eq_1, @Go.Sh.SRes.get.eq_2, @List.flatMap_nil.{0, 0}, @List.flatMap_cons.{0, 0}, @List.append_nil.{0}, @List.nil_append.{0}, @Go.Sh.TV.ids3.eq_1, @Go.Sh.TV.ids3.eq_2, @Go.Sh.TV.ids2.eq_1, @Go.Sh.TV.ids2.eq_2, @Go.Sh.TV.ids1.eq_1, @Go.Sh.TV.ids1.eq_2, @Go.Sh.TV.ids0.eq_1, @Go.Sh.TV.ids0.eq_2, @Go.Sh.TV.ids0.eq_3, @Go.Sh.TV.ids0.eq_4, @Go.Sh.TV.ren3.eq_1, @Go.Sh.TV.ren3.eq_2, @Go.Sh.TV.ren2.eq_1, @Go.Sh.TV.ren2.eq_2, @Go.Sh.TV.ren1.eq_1, @Go.Sh.TV.ren1.eq_2, @Go.Sh.TV.ren0.eq_1, @Go.Sh.TV.ren0.eq_2, @Go.Sh.TV.ren0.eq_3, @Go.Sh.TV.ren0.eq_4, @Go.Sh.TV.ren0.eq_5, @Go.Sh.TV.ren0.eq_6, @Go.Sh.bound.eq_1, @Go.Sh.bound.eq_2, @if_true.{1}, @if_false.{1}, @Bool.false_eq_true, @Go.Sh.partsT.eq_1, @Go.Sh.fillT.eq_1, @Go.Sh.fillT.eq_2, @Go.Sh.splice.eq_1, @List.take_zero.{0}, @List.take_succ_cons.{0}, @List.drop_zero.{0}, @List.drop_succ_cons.{0}, @List.length_cons.{0}, @List.length_nil.{0}, @and_self, @and_true, @true_and, @List.cons_append.{0}, @List.getElem?_cons_zero.{0}, @List.getElem?_cons_succ.{0}, @Nat.zero_add, @Bool.not_true, @Bool.not_false, @Go.Value.oneCell'.eq_1, @Go.Value.oneCell'.eq_2, @Go.Value.oneCell'.eq_3, @Go.Mor.str_toList, @Go.Mor.str_size', @Int.toNat_natCast, @decide_true, @decide_false, @beq_self_eq_true.{0}, @Go.Sh.handI.eq_1, @Go.Sh.FS.mo.eq_1, @Go.Sh.MO.ren.eq_1, @Go.Sh.MO.ren.eq_2, @Go.Sh.rhoIn.eq_1, @Go.Sh.pos.eq_1, @Go.Sh.pos.eq_2, @Go.Sh.rhoOut.eq_1, @Go.Sh.outs.eq_1, @Go.Sh.outs.eq_2, @Go.Sh.newId.eq_1, @Go.Sh.dstId.eq_1, @Go.Sh.dstId.eq_2, @Go.Sh.putMem.eq_1, @Go.Sh.putMem.eq_2, @List.lookup.eq_1.{0, 0}, @List.lookup.eq_2.{0, 0}, @Go.Sh.moOk.eq_1, @Go.Sh.moOk.eq_2, @Go.Sh.moOk.eq_3, @Go.Sh.moOk.eq_4, @Nat.le_refl, @Int.natCast_nonneg⟩
def ordI (a b : Int) : Int := if a < b then -1 else if b < a then 1 else 0
theorem order_ok (g : Sh.Glob) (a b : Int) : SCalls Tryz.prog g 73 [I a, I b] [] (I (ordI a b)) [] := by
  refine call_of0 hmix tf_moraineref03_Order rfl ?_
  unfold ordI
  by_cases h1 : a < b
  · have d1 := decide_T h1
    repeat (first | (with_reducible apply w_unr) | (with_reducible apply w_assoc) | (with_reducible apply w_skip) | (with_reducible apply w_ret) | (with_reducible apply w_retE) | (with_reducible apply w_skipE) | (with_reducible apply w_exit) | (with_reducible apply w_exitE) | (with_reducible apply w_block) | (with_reducible apply w_blockE) | ((with_reducible apply w_reg); · simp only [shA, eff, Int.reduceEq, Int.reduceAdd, Int.reduceSub, Nat.reduceBEq, Nat.reduceEqDiff, reduceCtorEq, Nat.reduceAdd, Nat.reduceSub, Nat.reduceMul, Nat.reduceLeDiff, Int.reduceToNat, Int.reduceLT, Int.reduceLE, Int.reduceNeg, d1]; with_reducible rfl) | ((with_reducible apply w_regE); · simp only [shA, eff, Int.reduceEq, Int.reduceAdd, Int.reduceSub, Nat.reduceBEq, Nat.reduceEqDiff, reduceCtorEq, Nat.reduceAdd, Nat.reduceSub, Nat.reduceMul, Nat.reduceLeDiff, Int.reduceToNat, Int.reduceLT, Int.reduceLE, Int.reduceNeg, d1]; with_reducible rfl) | ((with_reducible apply w_condT); · simp only [shA, eff, Int.reduceEq, Int.reduceAdd, Int.reduceSub, Nat.reduceBEq, Nat.reduceEqDiff, reduceCtorEq, Nat.reduceAdd, Nat.reduceSub, Nat.reduceMul, Nat.reduceLeDiff, Int.reduceToNat, Int.reduceLT, Int.reduceLE, Int.reduceNeg, d1]) | ((with_reducible apply w_condF); · simp only [shA, eff, Int.reduceEq, Int.reduceAdd, Int.reduceSub, Nat.reduceBEq, Nat.reduceEqDiff, reduceCtorEq, Nat.reduceAdd, Nat.reduceSub, Nat.reduceMul, Nat.reduceLeDiff, Int.reduceToNat, Int.reduceLT, Int.reduceLE, Int.reduceNeg, d1]) | ((with_reducible apply w_condTE); · simp only [shA, eff, Int.reduceEq, Int.reduceAdd, Int.reduceSub, Nat.reduceBEq, Nat.reduceEqDiff, reduceCtorEq, Nat.reduceAdd, Nat.reduceSub, Nat.reduceMul, Nat.reduceLeDiff, Int.reduceToNat, Int.reduceLT, Int.reduceLE, Int.reduceNeg, d1]) | ((with_reducible apply w_condFE); · simp only [shA, eff, Int.reduceEq, Int.reduceAdd, Int.reduceSub, Nat.reduceBEq, Nat.reduceEqDiff, reduceCtorEq, Nat.reduceAdd, Nat.reduceSub, Nat.reduceMul, Nat.reduceLeDiff, Int.reduceToNat, Int.reduceLT, Int.reduceLE, Int.reduceNeg, d1]) | (with_reducible apply q_then) | (with_reducible apply q_blockN) | (with_reducible apply q_blockR) | (with_reducible apply q_thenR) | (with_reducible apply q_thenX) | (with_reducible apply q_blockX) | ((with_reducible apply q_blockY); · rfl))
    simp [Post0, ansW, resT, SRes.get, ES.fs, ES.kill, has, drp, seqO, nbeq, lk, I, S, TV.ids3, TV.ids2, TV.ids1, TV.ids0, TV.ren3, TV.ren2, TV.ren1, TV.ren0, F_moraineref03_Order, h1]
  · have d1 := decide_F h1
    by_cases h2 : b < a
    · have d2 := decide_T h2
      repeat (first | (with_reducible apply w_unr) | (with_reducible apply w_assoc) | (with_reducible apply w_skip) | (with_reducible apply w_ret) | (with_reducible apply w_retE) | (with_reducible apply w_skipE) | (with_reducible apply w_exit) | (with_reducible apply w_exitE) | (with_reducible apply w_block) | (with_reducible apply w_blockE) | ((with_reducible apply w_reg); · simp only [shA, eff, Int.reduceEq, Int.reduceAdd, Int.reduceSub, Nat.reduceBEq, Nat.reduceEqDiff, reduceCtorEq, Nat.reduceAdd, Nat.reduceSub, Nat.reduceMul, Nat.reduceLeDiff, Int.reduceToNat, Int.reduceLT, Int.reduceLE, Int.reduceNeg, d1, d2]; with_reducible rfl) | ((with_reducible apply w_regE); · simp only [shA, eff, Int.reduceEq, Int.reduceAdd, Int.reduceSub, Nat.reduceBEq, Nat.reduceEqDiff, reduceCtorEq, Nat.reduceAdd, Nat.reduceSub, Nat.reduceMul, Nat.reduceLeDiff, Int.reduceToNat, Int.reduceLT, Int.reduceLE, Int.reduceNeg, d1, d2]; with_reducible rfl) | ((with_reducible apply w_condT); · simp only [shA, eff, Int.reduceEq, Int.reduceAdd, Int.reduceSub, Nat.reduceBEq, Nat.reduceEqDiff, reduceCtorEq, Nat.reduceAdd, Nat.reduceSub, Nat.reduceMul, Nat.reduceLeDiff, Int.reduceToNat, Int.reduceLT, Int.reduceLE, Int.reduceNeg, d1, d2]) | ((with_reducible apply w_condF); · simp only [shA, eff, Int.reduceEq, Int.reduceAdd, Int.reduceSub, Nat.reduceBEq, Nat.reduceEqDiff, reduceCtorEq, Nat.reduceAdd, Nat.reduceSub, Nat.reduceMul, Nat.reduceLeDiff, Int.reduceToNat, Int.reduceLT, Int.reduceLE, Int.reduceNeg, d1, d2]) | ((with_reducible apply w_condTE); · simp only [shA, eff, Int.reduceEq, Int.reduceAdd, Int.reduceSub, Nat.reduceBEq, Nat.reduceEqDiff, reduceCtorEq, Nat.reduceAdd, Nat.reduceSub, Nat.reduceMul, Nat.reduceLeDiff, Int.reduceToNat, Int.reduceLT, Int.reduceLE, Int.reduceNeg, d1, d2]) | ((with_reducible apply w_condFE); · simp only [shA, eff, Int.reduceEq, Int.reduceAdd, Int.reduceSub, Nat.reduceBEq, Nat.reduceEqDiff, reduceCtorEq, Nat.reduceAdd, Nat.reduceSub, Nat.reduceMul, Nat.reduceLeDiff, Int.reduceToNat, Int.reduceLT, Int.reduceLE, Int.reduceNeg, d1, d2]) | (with_reducible apply q_then) | (with_reducible apply q_blockN) | (with_reducible apply q_blockR) | (with_reducible apply q_thenR) | (with_reducible apply q_thenX) | (with_reducible apply q_blockX) | ((with_reducible apply q_blockY); · rfl))
      simp [Post0, ansW, resT, SRes.get, ES.fs, ES.kill, has, drp, seqO, nbeq, lk, I, S, TV.ids3, TV.ids2, TV.ids1, TV.ids0, TV.ren3, TV.ren2, TV.ren1, TV.ren0, F_moraineref03_Order, h1, h2]
    · have d2 := decide_F h2
      repeat (first | (with_reducible apply w_unr) | (with_reducible apply w_assoc) | (with_reducible apply w_skip) | (with_reducible apply w_ret) | (with_reducible apply w_retE) | (with_reducible apply w_skipE) | (with_reducible apply w_exit) | (with_reducible apply w_exitE) | (with_reducible apply w_block) | (with_reducible apply w_blockE) | ((with_reducible apply w_reg); · simp only [shA, eff, Int.reduceEq, Int.reduceAdd, Int.reduceSub, Nat.reduceBEq, Nat.reduceEqDiff, reduceCtorEq, Nat.reduceAdd, Nat.reduceSub, Nat.reduceMul, Nat.reduceLeDiff, Int.reduceToNat, Int.reduceLT, Int.reduceLE, Int.reduceNeg, d1, d2]; with_reducible rfl) | ((with_reducible apply w_regE); · simp only [shA, eff, Int.reduceEq, Int.reduceAdd, Int.reduceSub, Nat.reduceBEq, Nat.reduceEqDiff, reduceCtorEq, Nat.reduceAdd, Nat.reduceSub, Nat.reduceMul, Nat.reduceLeDiff, Int.reduceToNat, Int.reduceLT, Int.reduceLE, Int.reduceNeg, d1, d2]; with_reducible rfl) | ((with_reducible apply w_condT); · simp only [shA, eff, Int.reduceEq, Int.reduceAdd, Int.reduceSub, Nat.reduceBEq, Nat.reduceEqDiff, reduceCtorEq, Nat.reduceAdd, Nat.reduceSub, Nat.reduceMul, Nat.reduceLeDiff, Int.reduceToNat, Int.reduceLT, Int.reduceLE, Int.reduceNeg, d1, d2]) | ((with_reducible apply w_condF); · simp only [shA, eff, Int.reduceEq, Int.reduceAdd, Int.reduceSub, Nat.reduceBEq, Nat.reduceEqDiff, reduceCtorEq, Nat.reduceAdd, Nat.reduceSub, Nat.reduceMul, Nat.reduceLeDiff, Int.reduceToNat, Int.reduceLT, Int.reduceLE, Int.reduceNeg, d1, d2]) | ((with_reducible apply w_condTE); · simp only [shA, eff, Int.reduceEq, Int.reduceAdd, Int.reduceSub, Nat.reduceBEq, Nat.reduceEqDiff, reduceCtorEq, Nat.reduceAdd, Nat.reduceSub, Nat.reduceMul, Nat.reduceLeDiff, Int.reduceToNat, Int.reduceLT, Int.reduceLE, Int.reduceNeg, d1, d2]) | ((with_reducible apply w_condFE); · simp only [shA, eff, Int.reduceEq, Int.reduceAdd, Int.reduceSub, Nat.reduceBEq, Nat.reduceEqDiff, reduceCtorEq, Nat.reduceAdd, Nat.reduceSub, Nat.reduceMul, Nat.reduceLeDiff, Int.reduceToNat, Int.reduceLT, Int.reduceLE, Int.reduceNeg, d1, d2]) | (with_reducible apply q_then) | (with_reducible apply q_blockN) | (with_reducible apply q_blockR) | (with_reducible apply q_thenR) | (with_reducible apply q_thenX) | (with_reducible apply q_blockX) | ((with_reducible apply q_blockY); · rfl))
      simp [Post0, ansW, resT, SRes.get, ES.fs, ES.kill, has, drp, seqO, nbeq, lk, I, S, TV.ids3, TV.ids2, TV.ids1, TV.ids0, TV.ren3, TV.ren2, TV.ren1, TV.ren0, F_moraineref03_Order, h1, h2]
/-- Which of n things a raw number speaks of. -/
def pickI (c n : Int) : Int := (if c < 0 then -(c + 1) else c).tmod n
theorem pick_ok (g : Sh.Glob) (c n : Int) (hc0 : -9223372036854775808 ≤ c) (hc1 : c ≤ 9223372036854775807) (hn : n ≠ 0) : SCalls Tryz.prog g 52 [I c, I n] [] (I (pickI c n)) [] := by
  refine call_of0 hmix tf_morainelaw03_pick rfl ?_
  have hr := fun (a : Int) => bin_rem Tryz.prog 3 .i64 a n hn
  unfold pickI
  by_cases h : c < 0
  · have d1 := decide_T h
    have w1 : IntKind.i64.wrap (c + 1) = c + 1 := wrap64 (by omega) (by omega)
    have w2 : IntKind.i64.wrap (0 - (c + 1)) = -(c + 1) := by rw [wrap64 (by omega) (by omega)]; omega
    repeat (first | (with_reducible apply w_unr) | (with_reducible apply w_assoc) | (with_reducible apply w_skip) | (with_reducible apply w_ret) | (with_reducible apply w_retE) | (with_reducible apply w_skipE) | (with_reducible apply w_exit) | (with_reducible apply w_exitE) | (with_reducible apply w_block) | (with_reducible apply w_blockE) | ((with_reducible apply w_reg); · simp only [shA, eff, Int.reduceEq, Int.reduceAdd, Int.reduceSub, Nat.reduceBEq, Nat.reduceEqDiff, reduceCtorEq, Nat.reduceAdd, Nat.reduceSub, Nat.reduceMul, Nat.reduceLeDiff, Int.reduceToNat, Int.reduceLT, Int.reduceLE, Int.reduceNeg, d1, hr, w1, w2]; with_reducible rfl) | ((with_reducible apply w_regE); · simp only [shA, eff, Int.reduceEq, Int.reduceAdd, Int.reduceSub, Nat.reduceBEq, Nat.reduceEqDiff, reduceCtorEq, Nat.reduceAdd, Nat.reduceSub, Nat.reduceMul, Nat.reduceLeDiff, Int.reduceToNat, Int.reduceLT, Int.reduceLE, Int.reduceNeg, d1, hr, w1, w2]; with_reducible rfl) | ((with_reducible apply w_condT); · simp only [shA, eff, Int.reduceEq, Int.reduceAdd, Int.reduceSub, Nat.reduceBEq, Nat.reduceEqDiff, reduceCtorEq, Nat.reduceAdd, Nat.reduceSub, Nat.reduceMul, Nat.reduceLeDiff, Int.reduceToNat, Int.reduceLT, Int.reduceLE, Int.reduceNeg, d1, hr, w1, w2]) | ((with_reducible apply w_condF); · simp only [shA, eff, Int.reduceEq, Int.reduceAdd, Int.reduceSub, Nat.reduceBEq, Nat.reduceEqDiff, reduceCtorEq, Nat.reduceAdd, Nat.reduceSub, Nat.reduceMul, Nat.reduceLeDiff, Int.reduceToNat, Int.reduceLT, Int.reduceLE, Int.reduceNeg, d1, hr, w1, w2]) | ((with_reducible apply w_condTE); · simp only [shA, eff, Int.reduceEq, Int.reduceAdd, Int.reduceSub, Nat.reduceBEq, Nat.reduceEqDiff, reduceCtorEq, Nat.reduceAdd, Nat.reduceSub, Nat.reduceMul, Nat.reduceLeDiff, Int.reduceToNat, Int.reduceLT, Int.reduceLE, Int.reduceNeg, d1, hr, w1, w2]) | ((with_reducible apply w_condFE); · simp only [shA, eff, Int.reduceEq, Int.reduceAdd, Int.reduceSub, Nat.reduceBEq, Nat.reduceEqDiff, reduceCtorEq, Nat.reduceAdd, Nat.reduceSub, Nat.reduceMul, Nat.reduceLeDiff, Int.reduceToNat, Int.reduceLT, Int.reduceLE, Int.reduceNeg, d1, hr, w1, w2]) | (with_reducible apply q_then) | (with_reducible apply q_blockN) | (with_reducible apply q_blockR) | (with_reducible apply q_thenR) | (with_reducible apply q_thenX) | (with_reducible apply q_blockX) | ((with_reducible apply q_blockY); · rfl))
    simp [Post0, ansW, resT, SRes.get, ES.fs, ES.kill, has, drp, seqO, nbeq, lk, I, S, TV.ids3, TV.ids2, TV.ids1, TV.ids0, TV.ren3, TV.ren2, TV.ren1, TV.ren0, F_morainelaw03_pick, h]
  · have d1 := decide_F h
    repeat (first | (with_reducible apply w_unr) | (with_reducible apply w_assoc) | (with_reducible apply w_skip) | (with_reducible apply w_ret) | (with_reducible apply w_retE) | (with_reducible apply w_skipE) | (with_reducible apply w_exit) | (with_reducible apply w_exitE) | (with_reducible apply w_block) | (with_reducible apply w_blockE) | ((with_reducible apply w_reg); · simp only [shA, eff, Int.reduceEq, Int.reduceAdd, Int.reduceSub, Nat.reduceBEq, Nat.reduceEqDiff, reduceCtorEq, Nat.reduceAdd, Nat.reduceSub, Nat.reduceMul, Nat.reduceLeDiff, Int.reduceToNat, Int.reduceLT, Int.reduceLE, Int.reduceNeg, d1, hr]; with_reducible rfl) | ((with_reducible apply w_regE); · simp only [shA, eff, Int.reduceEq, Int.reduceAdd, Int.reduceSub, Nat.reduceBEq, Nat.reduceEqDiff, reduceCtorEq, Nat.reduceAdd, Nat.reduceSub, Nat.reduceMul, Nat.reduceLeDiff, Int.reduceToNat, Int.reduceLT, Int.reduceLE, Int.reduceNeg, d1, hr]; with_reducible rfl) | ((with_reducible apply w_condT); · simp only [shA, eff, Int.reduceEq, Int.reduceAdd, Int.reduceSub, Nat.reduceBEq, Nat.reduceEqDiff, reduceCtorEq, Nat.reduceAdd, Nat.reduceSub, Nat.reduceMul, Nat.reduceLeDiff, Int.reduceToNat, Int.reduceLT, Int.reduceLE, Int.reduceNeg, d1, hr]) | ((with_reducible apply w_condF); · simp only [shA, eff, Int.reduceEq, Int.reduceAdd, Int.reduceSub, Nat.reduceBEq, Nat.reduceEqDiff, reduceCtorEq, Nat.reduceAdd, Nat.reduceSub, Nat.reduceMul, Nat.reduceLeDiff, Int.reduceToNat, Int.reduceLT, Int.reduceLE, Int.reduceNeg, d1, hr]) | ((with_reducible apply w_condTE); · simp only [shA, eff, Int.reduceEq, Int.reduceAdd, Int.reduceSub, Nat.reduceBEq, Nat.reduceEqDiff, reduceCtorEq, Nat.reduceAdd, Nat.reduceSub, Nat.reduceMul, Nat.reduceLeDiff, Int.reduceToNat, Int.reduceLT, Int.reduceLE, Int.reduceNeg, d1, hr]) | ((with_reducible apply w_condFE); · simp only [shA, eff, Int.reduceEq, Int.reduceAdd, Int.reduceSub, Nat.reduceBEq, Nat.reduceEqDiff, reduceCtorEq, Nat.reduceAdd, Nat.reduceSub, Nat.reduceMul, Nat.reduceLeDiff, Int.reduceToNat, Int.reduceLT, Int.reduceLE, Int.reduceNeg, d1, hr]) | (with_reducible apply q_then) | (with_reducible apply q_blockN) | (with_reducible apply q_blockR) | (with_reducible apply q_thenR) | (with_reducible apply q_thenX) | (with_reducible apply q_blockX) | ((with_reducible apply q_blockY); · rfl))
    simp [Post0, ansW, resT, SRes.get, ES.fs, ES.kill, has, drp, seqO, nbeq, lk, I, S, TV.ids3, TV.ids2, TV.ids1, TV.ids0, TV.ren3, TV.ren2, TV.ren1, TV.ren0, F_morainelaw03_pick, h]
end Go.Proofs.YthjphllpkcnehaaGreatDoor
end

section
/- The document's Sign (printed by a program). No statement of the program is proved here. -/
namespace Go.Proofs.YthjphllpkcnehaaGreatDoor
open Go Go.RowKit Go.Mor Go.Sh Go.Sh.Cd1
set_option maxRecDepth 100000
set_option maxHeartbeats 4000000
theorem u8_lt (b : UInt8) : b.toNat < 256 := b.toNat_lt
theorem wr3 : IntKind.i64.wrap 3 = 3 := rfl
theorem wr4 : IntKind.i64.wrap 4 = 4 := rfl
theorem wr5 : IntKind.i64.wrap 5 = 5 := rfl
theorem getD_some {l : List UInt8} {i : Nat} {b : UInt8} (h : l[i]? = some b) : l.getD i 0 = b := by rw [List.getD_eq_getElem?_getD, h]; rfl
theorem signL_eq {l : List UInt8} (h : 0 < l.length) : signL l = signN l.length (l.getD 0 0).toNat (l.getD 1 0).toNat (l.getD 2 0).toNat (l.getD 3 0).toNat := by
  unfold signL; rw [if_neg (by rintro rfl; simp at h)]
theorem at_ {l : List UInt8} {i : Nat} (h : i < l.length) : ∃ b, l[i]? = some b := ⟨_, List.getElem?_eq_getElem h⟩
theorem cvi8 (n : Nat) (h : n < 256) : IntKind.i64.wrap (n : Int) = (n : Int) := wrap64 (by omega) (by omega)
theorem v_unr {P : Program} {g : Sh.Glob} {a : SCode} {Q : SExit → ES → Prop} {k : Nat} {s : ES} : unrollW P g a Q (k + 1) s = swp P g a (thenW (unrollW P g a Q k) Q) s := rfl
theorem sg {a b : Int} (h : a = b) : some (TV.pv (PV.v (Value.int IntKind.i64 a))) = some (TV.pv (PV.v (Value.int IntKind.i64 b))) := by rw [h]
theorem sign_a (g : Sh.Glob) (l : List UInt8) (b0 : UInt8) (hl : 0 < l.length) (e0 : l[0]? = some b0) (hc : b0.toNat < 128) : SCalls Tryz.prog g 122 [S (str l)] [] (I (signN l.length b0.toNat (l.getD 1 0).toNat (l.getD 2 0).toNat (l.getD 3 0).toNat : Nat)) [] := by
  have hb := u8_lt b0
  have c0 := cvi8 b0.toNat hb
  have hl0 : ¬ (l.length : Int) = 0 := by omega
  have t0 : (b0.toNat : Int) < 128 := by omega
  have t1 : ¬ 194 ≤ (b0.toNat : Int) := by omega
  have t2 : (b0.toNat : Int) ≤ 223 := by omega
  have t3 : ¬ 224 ≤ (b0.toNat : Int) := by omega
  have t4 : (b0.toNat : Int) ≤ 239 := by omega
  have t5 : ¬ 240 ≤ (b0.toNat : Int) := by omega
  have t6 : (b0.toNat : Int) ≤ 244 := by omega
  have t7 : ¬ (b0.toNat : Int) = 224 := by omega
  have t8 : ¬ (b0.toNat : Int) = 237 := by omega
  have t9 : ¬ (b0.toNat : Int) = 240 := by omega
  have t10 : ¬ (b0.toNat : Int) = 244 := by omega
  refine call_of0 hmix tf_moraineref03_Sign rfl ?_
  simp only [vcA, seval, I, S, e0, c0, hl0, t0, t1, t2, t3, t4, t5, t6, t7, t8, t9, t10]
  exact sg (by unfold signN; (repeat' split) <;> omega)
theorem sign_b (g : Sh.Glob) (l : List UInt8) (b0 : UInt8) (hl : 0 < l.length) (e0 : l[0]? = some b0) (hc : 128 ≤ b0.toNat ∧ b0.toNat ≤ 193) : SCalls Tryz.prog g 122 [S (str l)] [] (I (signN l.length b0.toNat (l.getD 1 0).toNat (l.getD 2 0).toNat (l.getD 3 0).toNat : Nat)) [] := by
  have hb := u8_lt b0
  have c0 := cvi8 b0.toNat hb
  have hl0 : ¬ (l.length : Int) = 0 := by omega
  have t0 : ¬ (b0.toNat : Int) < 128 := by omega
  have t1 : ¬ 194 ≤ (b0.toNat : Int) := by omega
  have t2 : (b0.toNat : Int) ≤ 223 := by omega
  have t3 : ¬ 224 ≤ (b0.toNat : Int) := by omega
  have t4 : (b0.toNat : Int) ≤ 239 := by omega
  have t5 : ¬ 240 ≤ (b0.toNat : Int) := by omega
  have t6 : (b0.toNat : Int) ≤ 244 := by omega
  have t7 : ¬ (b0.toNat : Int) = 224 := by omega
  have t8 : ¬ (b0.toNat : Int) = 237 := by omega
  have t9 : ¬ (b0.toNat : Int) = 240 := by omega
  have t10 : ¬ (b0.toNat : Int) = 244 := by omega
  refine call_of0 hmix tf_moraineref03_Sign rfl ?_
  simp only [vcA, seval, I, S, e0, c0, hl0, t0, t1, t2, t3, t4, t5, t6, t7, t8, t9, t10]
  exact sg (by unfold signN; (repeat' split) <;> omega)
theorem sign_c (g : Sh.Glob) (l : List UInt8) (b0 : UInt8) (hl : 0 < l.length) (e0 : l[0]? = some b0) (hc : 194 ≤ b0.toNat ∧ b0.toNat ≤ 223) : SCalls Tryz.prog g 122 [S (str l)] [] (I (signN l.length b0.toNat (l.getD 1 0).toNat (l.getD 2 0).toNat (l.getD 3 0).toNat : Nat)) [] := by
  have hb := u8_lt b0
  have c0 := cvi8 b0.toNat hb
  have hl0 : ¬ (l.length : Int) = 0 := by omega
  have t0 : ¬ (b0.toNat : Int) < 128 := by omega
  have t1 : 194 ≤ (b0.toNat : Int) := by omega
  have t2 : (b0.toNat : Int) ≤ 223 := by omega
  have t3 : ¬ 224 ≤ (b0.toNat : Int) := by omega
  have t4 : (b0.toNat : Int) ≤ 239 := by omega
  have t5 : ¬ 240 ≤ (b0.toNat : Int) := by omega
  have t6 : (b0.toNat : Int) ≤ 244 := by omega
  have t7 : ¬ (b0.toNat : Int) = 224 := by omega
  have t8 : ¬ (b0.toNat : Int) = 237 := by omega
  have t9 : ¬ (b0.toNat : Int) = 240 := by omega
  have t10 : ¬ (b0.toNat : Int) = 244 := by omega
  refine call_of0 hmix tf_moraineref03_Sign rfl ?_
  by_cases hn : (l.length : Int) < 2
  · simp only [vcA, seval, I, S, e0, c0, hl0, hn, t0, t1, t2, t3, t4, t5, t6, t7, t8, t9, t10]
    exact sg (by unfold signN; (repeat' split) <;> omega)
  obtain ⟨b1, e1⟩ := at_ (l := l) (i := 1) (by omega)
  have hb1 := u8_lt b1
  have g1 := getD_some e1
  have c1 := cvi8 b1.toNat hb1
  rw [g1]
  simp only [vcA, seval, I, S, e0, c0, e1, c1, hl0, hn, t0, t1, t2, t3, t4, t5, t6, t7, t8, t9, t10]
  refine ⟨fun h1 => sg (by unfold signN; (repeat' split) <;> omega), fun h1 => ⟨fun h2 => sg (by unfold signN; (repeat' split) <;> omega), fun h2 => ?_⟩⟩
  refine w_unrollE 1 ?_
  simp only [vcA, seval, I, S, v_unr, e1, wr3, wr4, wr5]
  exact sg (by unfold signN; (repeat' split) <;> omega)
theorem sign_d (g : Sh.Glob) (l : List UInt8) (b0 : UInt8) (hl : 0 < l.length) (e0 : l[0]? = some b0) (hc : b0.toNat = 224) : SCalls Tryz.prog g 122 [S (str l)] [] (I (signN l.length b0.toNat (l.getD 1 0).toNat (l.getD 2 0).toNat (l.getD 3 0).toNat : Nat)) [] := by
  have hb := u8_lt b0
  have c0 := cvi8 b0.toNat hb
  have hl0 : ¬ (l.length : Int) = 0 := by omega

  refine call_of0 hmix tf_moraineref03_Sign rfl ?_
  have q0 : (b0.toNat : Int) = 224 := by omega
  have q1 : IntKind.i64.wrap 224 = 224 := rfl
  by_cases hn : (l.length : Int) < 3
  · simp only [vcA, seval, I, S, e0, c0, hl0, hn, q0, q1]
    exact sg (by unfold signN; (repeat' split) <;> omega)
  obtain ⟨b1, e1⟩ := at_ (l := l) (i := 1) (by omega)
  have hb1 := u8_lt b1
  have g1 := getD_some e1
  obtain ⟨b2, e2⟩ := at_ (l := l) (i := 2) (by omega)
  have hb2 := u8_lt b2
  have g2 := getD_some e2
  have c1 := cvi8 b1.toNat hb1
  rw [g1, g2]
  simp only [vcA, seval, I, S, e0, c0, e1, c1, hl0, hn, q0, q1]
  refine ⟨fun h1 => sg (by unfold signN; (repeat' split) <;> omega), fun h1 => ⟨fun h2 => sg (by unfold signN; (repeat' split) <;> omega), fun h2 => ?_⟩⟩
  refine w_unrollE 2 ?_
  simp only [vcA, seval, I, S, v_unr, e1, e2, wr3, wr4, wr5]
  repeat' (first | (apply And.intro) | (intro _))
  all_goals exact sg (by unfold signN; (repeat' split) <;> omega)
theorem sign_e (g : Sh.Glob) (l : List UInt8) (b0 : UInt8) (hl : 0 < l.length) (e0 : l[0]? = some b0) (hc : 225 ≤ b0.toNat ∧ b0.toNat ≤ 239 ∧ b0.toNat ≠ 237) : SCalls Tryz.prog g 122 [S (str l)] [] (I (signN l.length b0.toNat (l.getD 1 0).toNat (l.getD 2 0).toNat (l.getD 3 0).toNat : Nat)) [] := by
  have hb := u8_lt b0
  have c0 := cvi8 b0.toNat hb
  have hl0 : ¬ (l.length : Int) = 0 := by omega
  have t0 : ¬ (b0.toNat : Int) < 128 := by omega
  have t1 : 194 ≤ (b0.toNat : Int) := by omega
  have t2 : ¬ (b0.toNat : Int) ≤ 223 := by omega
  have t3 : 224 ≤ (b0.toNat : Int) := by omega
  have t4 : (b0.toNat : Int) ≤ 239 := by omega
  have t5 : ¬ 240 ≤ (b0.toNat : Int) := by omega
  have t6 : (b0.toNat : Int) ≤ 244 := by omega
  have t7 : ¬ (b0.toNat : Int) = 224 := by omega
  have t8 : ¬ (b0.toNat : Int) = 237 := by omega
  have t9 : ¬ (b0.toNat : Int) = 240 := by omega
  have t10 : ¬ (b0.toNat : Int) = 244 := by omega
  refine call_of0 hmix tf_moraineref03_Sign rfl ?_
  by_cases hn : (l.length : Int) < 3
  · simp only [vcA, seval, I, S, e0, c0, hl0, hn, t0, t1, t2, t3, t4, t5, t6, t7, t8, t9, t10]
    exact sg (by unfold signN; (repeat' split) <;> omega)
  obtain ⟨b1, e1⟩ := at_ (l := l) (i := 1) (by omega)
  have hb1 := u8_lt b1
  have g1 := getD_some e1
  obtain ⟨b2, e2⟩ := at_ (l := l) (i := 2) (by omega)
  have hb2 := u8_lt b2
  have g2 := getD_some e2
  have c1 := cvi8 b1.toNat hb1
  rw [g1, g2]
  simp only [vcA, seval, I, S, e0, c0, e1, c1, hl0, hn, t0, t1, t2, t3, t4, t5, t6, t7, t8, t9, t10]
  refine ⟨fun h1 => sg (by unfold signN; (repeat' split) <;> omega), fun h1 => ⟨fun h2 => sg (by unfold signN; (repeat' split) <;> omega), fun h2 => ?_⟩⟩
  refine w_unrollE 2 ?_
  simp only [vcA, seval, I, S, v_unr, e1, e2, wr3, wr4, wr5]
  repeat' (first | (apply And.intro) | (intro _))
  all_goals exact sg (by unfold signN; (repeat' split) <;> omega)
theorem sign_f (g : Sh.Glob) (l : List UInt8) (b0 : UInt8) (hl : 0 < l.length) (e0 : l[0]? = some b0) (hc : b0.toNat = 237) : SCalls Tryz.prog g 122 [S (str l)] [] (I (signN l.length b0.toNat (l.getD 1 0).toNat (l.getD 2 0).toNat (l.getD 3 0).toNat : Nat)) [] := by
  have hb := u8_lt b0
  have c0 := cvi8 b0.toNat hb
  have hl0 : ¬ (l.length : Int) = 0 := by omega

  refine call_of0 hmix tf_moraineref03_Sign rfl ?_
  have q0 : (b0.toNat : Int) = 237 := by omega
  have q1 : IntKind.i64.wrap 237 = 237 := rfl
  by_cases hn : (l.length : Int) < 3
  · simp only [vcA, seval, I, S, e0, c0, hl0, hn, q0, q1]
    exact sg (by unfold signN; (repeat' split) <;> omega)
  obtain ⟨b1, e1⟩ := at_ (l := l) (i := 1) (by omega)
  have hb1 := u8_lt b1
  have g1 := getD_some e1
  obtain ⟨b2, e2⟩ := at_ (l := l) (i := 2) (by omega)
  have hb2 := u8_lt b2
  have g2 := getD_some e2
  have c1 := cvi8 b1.toNat hb1
  rw [g1, g2]
  simp only [vcA, seval, I, S, e0, c0, e1, c1, hl0, hn, q0, q1]
  refine ⟨fun h1 => sg (by unfold signN; (repeat' split) <;> omega), fun h1 => ⟨fun h2 => sg (by unfold signN; (repeat' split) <;> omega), fun h2 => ?_⟩⟩
  refine w_unrollE 2 ?_
  simp only [vcA, seval, I, S, v_unr, e1, e2, wr3, wr4, wr5]
  repeat' (first | (apply And.intro) | (intro _))
  all_goals exact sg (by unfold signN; (repeat' split) <;> omega)
theorem sign_g (g : Sh.Glob) (l : List UInt8) (b0 : UInt8) (hl : 0 < l.length) (e0 : l[0]? = some b0) (hc : b0.toNat = 240) : SCalls Tryz.prog g 122 [S (str l)] [] (I (signN l.length b0.toNat (l.getD 1 0).toNat (l.getD 2 0).toNat (l.getD 3 0).toNat : Nat)) [] := by
  have hb := u8_lt b0
  have c0 := cvi8 b0.toNat hb
  have hl0 : ¬ (l.length : Int) = 0 := by omega

  refine call_of0 hmix tf_moraineref03_Sign rfl ?_
  have q0 : (b0.toNat : Int) = 240 := by omega
  have q1 : IntKind.i64.wrap 240 = 240 := rfl
  by_cases hn : (l.length : Int) < 4
  · simp only [vcA, seval, I, S, e0, c0, hl0, hn, q0, q1]
    exact sg (by unfold signN; (repeat' split) <;> omega)
  obtain ⟨b1, e1⟩ := at_ (l := l) (i := 1) (by omega)
  have hb1 := u8_lt b1
  have g1 := getD_some e1
  obtain ⟨b2, e2⟩ := at_ (l := l) (i := 2) (by omega)
  have hb2 := u8_lt b2
  have g2 := getD_some e2
  obtain ⟨b3, e3⟩ := at_ (l := l) (i := 3) (by omega)
  have hb3 := u8_lt b3
  have g3 := getD_some e3
  have c1 := cvi8 b1.toNat hb1
  rw [g1, g2, g3]
  simp only [vcA, seval, I, S, e0, c0, e1, c1, hl0, hn, q0, q1]
  refine ⟨fun h1 => sg (by unfold signN; (repeat' split) <;> omega), fun h1 => ⟨fun h2 => sg (by unfold signN; (repeat' split) <;> omega), fun h2 => ?_⟩⟩
  refine w_unrollE 3 ?_
  simp only [vcA, seval, I, S, v_unr, e1, e2, e3, wr3, wr4, wr5]
  repeat' (first | (apply And.intro) | (intro _))
  all_goals exact sg (by unfold signN; (repeat' split) <;> omega)
theorem sign_h (g : Sh.Glob) (l : List UInt8) (b0 : UInt8) (hl : 0 < l.length) (e0 : l[0]? = some b0) (hc : 241 ≤ b0.toNat ∧ b0.toNat ≤ 243) : SCalls Tryz.prog g 122 [S (str l)] [] (I (signN l.length b0.toNat (l.getD 1 0).toNat (l.getD 2 0).toNat (l.getD 3 0).toNat : Nat)) [] := by
  have hb := u8_lt b0
  have c0 := cvi8 b0.toNat hb
  have hl0 : ¬ (l.length : Int) = 0 := by omega
  have t0 : ¬ (b0.toNat : Int) < 128 := by omega
  have t1 : 194 ≤ (b0.toNat : Int) := by omega
  have t2 : ¬ (b0.toNat : Int) ≤ 223 := by omega
  have t3 : 224 ≤ (b0.toNat : Int) := by omega
  have t4 : ¬ (b0.toNat : Int) ≤ 239 := by omega
  have t5 : 240 ≤ (b0.toNat : Int) := by omega
  have t6 : (b0.toNat : Int) ≤ 244 := by omega
  have t7 : ¬ (b0.toNat : Int) = 224 := by omega
  have t8 : ¬ (b0.toNat : Int) = 237 := by omega
  have t9 : ¬ (b0.toNat : Int) = 240 := by omega
  have t10 : ¬ (b0.toNat : Int) = 244 := by omega
  refine call_of0 hmix tf_moraineref03_Sign rfl ?_
  by_cases hn : (l.length : Int) < 4
  · simp only [vcA, seval, I, S, e0, c0, hl0, hn, t0, t1, t2, t3, t4, t5, t6, t7, t8, t9, t10]
    exact sg (by unfold signN; (repeat' split) <;> omega)
  obtain ⟨b1, e1⟩ := at_ (l := l) (i := 1) (by omega)
  have hb1 := u8_lt b1
  have g1 := getD_some e1
  obtain ⟨b2, e2⟩ := at_ (l := l) (i := 2) (by omega)
  have hb2 := u8_lt b2
  have g2 := getD_some e2
  obtain ⟨b3, e3⟩ := at_ (l := l) (i := 3) (by omega)
  have hb3 := u8_lt b3
  have g3 := getD_some e3
  have c1 := cvi8 b1.toNat hb1
  rw [g1, g2, g3]
  simp only [vcA, seval, I, S, e0, c0, e1, c1, hl0, hn, t0, t1, t2, t3, t4, t5, t6, t7, t8, t9, t10]
  refine ⟨fun h1 => sg (by unfold signN; (repeat' split) <;> omega), fun h1 => ⟨fun h2 => sg (by unfold signN; (repeat' split) <;> omega), fun h2 => ?_⟩⟩
  refine w_unrollE 3 ?_
  simp only [vcA, seval, I, S, v_unr, e1, e2, e3, wr3, wr4, wr5]
  repeat' (first | (apply And.intro) | (intro _))
  all_goals exact sg (by unfold signN; (repeat' split) <;> omega)
theorem sign_i (g : Sh.Glob) (l : List UInt8) (b0 : UInt8) (hl : 0 < l.length) (e0 : l[0]? = some b0) (hc : b0.toNat = 244) : SCalls Tryz.prog g 122 [S (str l)] [] (I (signN l.length b0.toNat (l.getD 1 0).toNat (l.getD 2 0).toNat (l.getD 3 0).toNat : Nat)) [] := by
  have hb := u8_lt b0
  have c0 := cvi8 b0.toNat hb
  have hl0 : ¬ (l.length : Int) = 0 := by omega

  refine call_of0 hmix tf_moraineref03_Sign rfl ?_
  have q0 : (b0.toNat : Int) = 244 := by omega
  have q1 : IntKind.i64.wrap 244 = 244 := rfl
  by_cases hn : (l.length : Int) < 4
  · simp only [vcA, seval, I, S, e0, c0, hl0, hn, q0, q1]
    exact sg (by unfold signN; (repeat' split) <;> omega)
  obtain ⟨b1, e1⟩ := at_ (l := l) (i := 1) (by omega)
  have hb1 := u8_lt b1
  have g1 := getD_some e1
  obtain ⟨b2, e2⟩ := at_ (l := l) (i := 2) (by omega)
  have hb2 := u8_lt b2
  have g2 := getD_some e2
  obtain ⟨b3, e3⟩ := at_ (l := l) (i := 3) (by omega)
  have hb3 := u8_lt b3
  have g3 := getD_some e3
  have c1 := cvi8 b1.toNat hb1
  rw [g1, g2, g3]
  simp only [vcA, seval, I, S, e0, c0, e1, c1, hl0, hn, q0, q1]
  refine ⟨fun h1 => sg (by unfold signN; (repeat' split) <;> omega), fun h1 => ⟨fun h2 => sg (by unfold signN; (repeat' split) <;> omega), fun h2 => ?_⟩⟩
  refine w_unrollE 3 ?_
  simp only [vcA, seval, I, S, v_unr, e1, e2, e3, wr3, wr4, wr5]
  repeat' (first | (apply And.intro) | (intro _))
  all_goals exact sg (by unfold signN; (repeat' split) <;> omega)
theorem sign_j (g : Sh.Glob) (l : List UInt8) (b0 : UInt8) (hl : 0 < l.length) (e0 : l[0]? = some b0) (hc : 245 ≤ b0.toNat) : SCalls Tryz.prog g 122 [S (str l)] [] (I (signN l.length b0.toNat (l.getD 1 0).toNat (l.getD 2 0).toNat (l.getD 3 0).toNat : Nat)) [] := by
  have hb := u8_lt b0
  have c0 := cvi8 b0.toNat hb
  have hl0 : ¬ (l.length : Int) = 0 := by omega
  have t0 : ¬ (b0.toNat : Int) < 128 := by omega
  have t1 : 194 ≤ (b0.toNat : Int) := by omega
  have t2 : ¬ (b0.toNat : Int) ≤ 223 := by omega
  have t3 : 224 ≤ (b0.toNat : Int) := by omega
  have t4 : ¬ (b0.toNat : Int) ≤ 239 := by omega
  have t5 : 240 ≤ (b0.toNat : Int) := by omega
  have t6 : ¬ (b0.toNat : Int) ≤ 244 := by omega
  have t7 : ¬ (b0.toNat : Int) = 224 := by omega
  have t8 : ¬ (b0.toNat : Int) = 237 := by omega
  have t9 : ¬ (b0.toNat : Int) = 240 := by omega
  have t10 : ¬ (b0.toNat : Int) = 244 := by omega
  refine call_of0 hmix tf_moraineref03_Sign rfl ?_
  simp only [vcA, seval, I, S, e0, c0, hl0, t0, t1, t2, t3, t4, t5, t6, t7, t8, t9, t10]
  exact sg (by unfold signN; (repeat' split) <;> omega)
theorem sign_ok (g : Sh.Glob) (l : List UInt8) : SCalls Tryz.prog g 122 [S (str l)] [] (I (signL l)) [] := by
  by_cases h0 : l.length = 0
  · have : l = [] := List.eq_nil_of_length_eq_zero h0
    subst this
    refine call_of0 hmix tf_moraineref03_Sign rfl ?_
    simp only [vcA, seval, I, S, Int.natCast_zero, List.length_nil]
    rfl
  have hl : 0 < l.length := by omega
  obtain ⟨b0, e0⟩ := at_ hl
  rw [signL_eq hl, getD_some e0]
  have hb := u8_lt b0
  by_cases c0 : b0.toNat < 128
  · exact sign_a g l b0 hl e0 c0
  by_cases c1 : 128 ≤ b0.toNat ∧ b0.toNat ≤ 193
  · exact sign_b g l b0 hl e0 c1
  by_cases c2 : 194 ≤ b0.toNat ∧ b0.toNat ≤ 223
  · exact sign_c g l b0 hl e0 c2
  by_cases c3 : b0.toNat = 224
  · exact sign_d g l b0 hl e0 c3
  by_cases c4 : 225 ≤ b0.toNat ∧ b0.toNat ≤ 239 ∧ b0.toNat ≠ 237
  · exact sign_e g l b0 hl e0 c4
  by_cases c5 : b0.toNat = 237
  · exact sign_f g l b0 hl e0 c5
  by_cases c6 : b0.toNat = 240
  · exact sign_g g l b0 hl e0 c6
  by_cases c7 : 241 ≤ b0.toNat ∧ b0.toNat ≤ 243
  · exact sign_h g l b0 hl e0 c7
  by_cases c8 : b0.toNat = 244
  · exact sign_i g l b0 hl e0 c8
  exact sign_j g l b0 hl e0 (by omega)
end Go.Proofs.YthjphllpkcnehaaGreatDoor
end

section
/- The document's IsText. No statement of the program is proved here. -/
namespace Go.Proofs.YthjphllpkcnehaaGreatDoor
open Go Go.RowKit Go.Mor Go.Sh Go.Sh.Cd1
set_option maxRecDepth 100000
set_option maxHeartbeats 8000000
/-- A text, by the document's signs: n signs at the most. -/
def isTextN : Nat → List UInt8 → Bool
  | 0, _ => true
  | n + 1, l => match l with
    | [] => true
    | b :: r => !(signL (b :: r) == 0) && !decide (b.toNat < 32) && !(b.toNat == 127) && isTextN n ((b :: r).drop (signL (b :: r)))
def isText (l : List UInt8) : Bool := isTextN l.length l
theorem isTextN_more : ∀ (n : Nat) (l : List UInt8), l.length ≤ n → isTextN n l = isText l := by
  intro n
  induction n using Nat.strongRecOn with
  | _ n ih =>
    intro l hl
    unfold isText
    cases l with
    | nil => cases n <;> rfl
    | cons b r =>
      obtain ⟨m, rfl⟩ : ∃ m, n = m + 1 := ⟨n - 1, by simp at hl; omega⟩
      simp only [isTextN, List.length_cons]
      by_cases h0 : signL (b :: r) = 0
      · simp [h0]
      · have h1 : ((b :: r).drop (signL (b :: r))).length ≤ r.length := by simp; omega
        simp at hl
        rw [ih m (by omega) _ (by omega)]
        by_cases he : r.length = m
        · subst he; rw [ih r.length (by omega) _ h1]
        · rw [ih r.length (by omega) _ h1]
theorem isText_cons (b : UInt8) (r : List UInt8) : isText (b :: r) = (!(signL (b :: r) == 0) && !decide (b.toNat < 32) && !(b.toNat == 127) && isText ((b :: r).drop (signL (b :: r)))) := by
  conv => lhs; unfold isText
  simp only [isTextN, List.length_cons]
  by_cases h0 : signL (b :: r) = 0
  · simp [h0]
  · rw [isTextN_more r.length _ (by simp; omega)]
theorem signL_le (l : List UInt8) : signL l ≤ l.length ∧ signL l ≤ 4 := by
  unfold signL
  cases l with
  | nil => simp
  | cons b r =>
    rw [if_neg (by simp)]
    unfold signN
    simp only [List.length_cons]
    repeat' split
    all_goals omega
theorem str_drop (l : List UInt8) (a : Nat) : (str l).extract a l.length = str (l.drop a) := by
  rw [str_extract, List.take_of_length_le (by simp)]
theorem isText_ok (g : Sh.Glob) (l : List UInt8) (hl : l.length ≤ 9223372036854775807) : SCalls Tryz.prog g 68 [S (str l)] [] (.pv (.v (.bool (isText l)))) [] := by
  refine call_of0 hmix tf_moraineref03_IsText rfl ?_
  repeat (first | (with_reducible apply w_unr) | (with_reducible apply w_assoc) | (with_reducible apply w_skip) | (with_reducible apply w_ret) | (with_reducible apply w_retE) | (with_reducible apply w_skipE) | (with_reducible apply w_exit) | (with_reducible apply w_exitE) | (with_reducible apply w_block) | (with_reducible apply w_blockE) | ((with_reducible apply w_reg); · simp only [shA, eff, Int.reduceEq, Int.reduceAdd, Int.reduceSub, Nat.reduceBEq, Nat.reduceEqDiff, reduceCtorEq, Nat.reduceAdd, Nat.reduceSub, Nat.reduceMul, Nat.reduceLeDiff, Int.reduceToNat, Int.reduceLT, Int.reduceLE, Int.reduceNeg]; with_reducible rfl) | ((with_reducible apply w_regE); · simp only [shA, eff, Int.reduceEq, Int.reduceAdd, Int.reduceSub, Nat.reduceBEq, Nat.reduceEqDiff, reduceCtorEq, Nat.reduceAdd, Nat.reduceSub, Nat.reduceMul, Nat.reduceLeDiff, Int.reduceToNat, Int.reduceLT, Int.reduceLE, Int.reduceNeg]; with_reducible rfl) | ((with_reducible apply w_condT); · simp only [shA, eff, Int.reduceEq, Int.reduceAdd, Int.reduceSub, Nat.reduceBEq, Nat.reduceEqDiff, reduceCtorEq, Nat.reduceAdd, Nat.reduceSub, Nat.reduceMul, Nat.reduceLeDiff, Int.reduceToNat, Int.reduceLT, Int.reduceLE, Int.reduceNeg]) | ((with_reducible apply w_condF); · simp only [shA, eff, Int.reduceEq, Int.reduceAdd, Int.reduceSub, Nat.reduceBEq, Nat.reduceEqDiff, reduceCtorEq, Nat.reduceAdd, Nat.reduceSub, Nat.reduceMul, Nat.reduceLeDiff, Int.reduceToNat, Int.reduceLT, Int.reduceLE, Int.reduceNeg]) | ((with_reducible apply w_condTE); · simp only [shA, eff, Int.reduceEq, Int.reduceAdd, Int.reduceSub, Nat.reduceBEq, Nat.reduceEqDiff, reduceCtorEq, Nat.reduceAdd, Nat.reduceSub, Nat.reduceMul, Nat.reduceLeDiff, Int.reduceToNat, Int.reduceLT, Int.reduceLE, Int.reduceNeg]) | ((with_reducible apply w_condFE); · simp only [shA, eff, Int.reduceEq, Int.reduceAdd, Int.reduceSub, Nat.reduceBEq, Nat.reduceEqDiff, reduceCtorEq, Nat.reduceAdd, Nat.reduceSub, Nat.reduceMul, Nat.reduceLeDiff, Int.reduceToNat, Int.reduceLT, Int.reduceLE, Int.reduceNeg]) | (with_reducible apply q_then) | (with_reducible apply q_blockN) | (with_reducible apply q_blockR) | (with_reducible apply q_thenR) | (with_reducible apply q_thenX) | (with_reducible apply q_blockX) | ((with_reducible apply q_blockY); · rfl))
  refine w_loopE (σ := { i : Nat // i ≤ l.length ∧ isText l = isText (l.drop i) }) (fun i => ⟨[(0, S (str l)), (3, I (i.1 : Int))], [], [], []⟩) (fun i => l.length - i.1) ⟨0, Nat.zero_le _, rfl⟩ (by apply le_of <;> simp [leL, lk, Nat.beq, I, S]) ?_
  rintro ⟨i, hi, hT⟩
  by_cases hlt : i < l.length
  · have d1 := decide_T (p := ((i : Int) < (l.length : Int))) (by omega)
    have hd := str_drop l i
    obtain ⟨b, eb⟩ := at_ hlt
    have hcons : l.drop i = b :: l.drop (i + 1) := by
      rw [List.drop_eq_getElem_cons hlt]; congr 1
      rw [List.getElem?_eq_getElem hlt] at eb; exact Option.some.inj eb
    have hs := signL_le (l.drop i)
    have hb := isText_cons b (l.drop (i + 1))
    rw [← hcons, ← hT] at hb
    simp only [List.length_drop] at hs
    repeat (first | (with_reducible apply w_unr) | (with_reducible apply w_assoc) | (with_reducible apply w_skip) | (with_reducible apply w_ret) | (with_reducible apply w_retE) | (with_reducible apply w_skipE) | (with_reducible apply w_exit) | (with_reducible apply w_exitE) | (with_reducible apply w_block) | (with_reducible apply w_blockE) | ((with_reducible apply w_reg); · simp only [shA, eff, Int.reduceEq, Int.reduceAdd, Int.reduceSub, Nat.reduceBEq, Nat.reduceEqDiff, reduceCtorEq, Nat.reduceAdd, Nat.reduceSub, Nat.reduceMul, Nat.reduceLeDiff, Int.reduceToNat, Int.reduceLT, Int.reduceLE, Int.reduceNeg, d1]; with_reducible rfl) | ((with_reducible apply w_regE); · simp only [shA, eff, Int.reduceEq, Int.reduceAdd, Int.reduceSub, Nat.reduceBEq, Nat.reduceEqDiff, reduceCtorEq, Nat.reduceAdd, Nat.reduceSub, Nat.reduceMul, Nat.reduceLeDiff, Int.reduceToNat, Int.reduceLT, Int.reduceLE, Int.reduceNeg, d1]; with_reducible rfl) | ((with_reducible apply w_condT); · simp only [shA, eff, Int.reduceEq, Int.reduceAdd, Int.reduceSub, Nat.reduceBEq, Nat.reduceEqDiff, reduceCtorEq, Nat.reduceAdd, Nat.reduceSub, Nat.reduceMul, Nat.reduceLeDiff, Int.reduceToNat, Int.reduceLT, Int.reduceLE, Int.reduceNeg, d1]) | ((with_reducible apply w_condF); · simp only [shA, eff, Int.reduceEq, Int.reduceAdd, Int.reduceSub, Nat.reduceBEq, Nat.reduceEqDiff, reduceCtorEq, Nat.reduceAdd, Nat.reduceSub, Nat.reduceMul, Nat.reduceLeDiff, Int.reduceToNat, Int.reduceLT, Int.reduceLE, Int.reduceNeg, d1]) | ((with_reducible apply w_condTE); · simp only [shA, eff, Int.reduceEq, Int.reduceAdd, Int.reduceSub, Nat.reduceBEq, Nat.reduceEqDiff, reduceCtorEq, Nat.reduceAdd, Nat.reduceSub, Nat.reduceMul, Nat.reduceLeDiff, Int.reduceToNat, Int.reduceLT, Int.reduceLE, Int.reduceNeg, d1]) | ((with_reducible apply w_condFE); · simp only [shA, eff, Int.reduceEq, Int.reduceAdd, Int.reduceSub, Nat.reduceBEq, Nat.reduceEqDiff, reduceCtorEq, Nat.reduceAdd, Nat.reduceSub, Nat.reduceMul, Nat.reduceLeDiff, Int.reduceToNat, Int.reduceLT, Int.reduceLE, Int.reduceNeg, d1]) | (with_reducible apply q_then) | (with_reducible apply q_blockN) | (with_reducible apply q_blockR) | (with_reducible apply q_thenR) | (with_reducible apply q_thenX) | (with_reducible apply q_blockX) | ((with_reducible apply q_blockY); · rfl))
    (first | (with_reducible apply w_ops) | (with_reducible apply w_opsE))
    repeat ((with_reducible apply w_op); (· rfl); (· simp only [shA, eff, Int.reduceEq, Int.reduceAdd, Int.reduceSub, Nat.reduceBEq, Nat.reduceEqDiff, reduceCtorEq, Nat.reduceAdd, Nat.reduceSub, Nat.reduceMul, Nat.reduceLeDiff, Int.reduceToNat, Int.reduceLT, Int.reduceLE, Int.reduceNeg, hi, hd, and_true]; with_reducible rfl); (· simp only [shA, eff, Int.reduceEq, Int.reduceAdd, Int.reduceSub, Nat.reduceBEq, Nat.reduceEqDiff, reduceCtorEq, Nat.reduceAdd, Nat.reduceSub, Nat.reduceMul, Nat.reduceLeDiff, Int.reduceToNat, Int.reduceLT, Int.reduceLE, Int.reduceNeg, hi, hd, and_true]; with_reducible rfl))
    (with_reducible apply w_call); (· simp only [shA, eff, Int.reduceEq, Int.reduceAdd, Int.reduceSub, Nat.reduceBEq, Nat.reduceEqDiff, reduceCtorEq, Nat.reduceAdd, Nat.reduceSub, Nat.reduceMul, Nat.reduceLeDiff, Int.reduceToNat, Int.reduceLT, Int.reduceLE, Int.reduceNeg, hi, hd]; with_reducible rfl); (· simp only [shA, eff, Int.reduceEq, Int.reduceAdd, Int.reduceSub, Nat.reduceBEq, Nat.reduceEqDiff, reduceCtorEq, Nat.reduceAdd, Nat.reduceSub, Nat.reduceMul, Nat.reduceLeDiff, Int.reduceToNat, Int.reduceLT, Int.reduceLE, Int.reduceNeg, hi, hd]; with_reducible rfl); (· simp only [shA, eff, Int.reduceEq, Int.reduceAdd, Int.reduceSub, Nat.reduceBEq, Nat.reduceEqDiff, reduceCtorEq, Nat.reduceAdd, Nat.reduceSub, Nat.reduceMul, Nat.reduceLeDiff, Int.reduceToNat, Int.reduceLT, Int.reduceLE, Int.reduceNeg, hi, hd]; with_reducible rfl); (· simp only [shA, eff, Int.reduceEq, Int.reduceAdd, Int.reduceSub, Nat.reduceBEq, Nat.reduceEqDiff, reduceCtorEq, Nat.reduceAdd, Nat.reduceSub, Nat.reduceMul, Nat.reduceLeDiff, Int.reduceToNat, Int.reduceLT, Int.reduceLE, Int.reduceNeg, hi, hd]; with_reducible rfl); (· exact sign_ok g (l.drop i)); (· rfl); (· simp only [shA, eff, Int.reduceEq, Int.reduceAdd, Int.reduceSub, Nat.reduceBEq, Nat.reduceEqDiff, reduceCtorEq, Nat.reduceAdd, Nat.reduceSub, Nat.reduceMul, Nat.reduceLeDiff, Int.reduceToNat, Int.reduceLT, Int.reduceLE, Int.reduceNeg, hi, hd]; with_reducible rfl); (· simp only [shA, eff, Int.reduceEq, Int.reduceAdd, Int.reduceSub, Nat.reduceBEq, Nat.reduceEqDiff, reduceCtorEq, Nat.reduceAdd, Nat.reduceSub, Nat.reduceMul, Nat.reduceLeDiff, Int.reduceToNat, Int.reduceLT, Int.reduceLE, Int.reduceNeg, hi, hd]; with_reducible rfl); (· simp only [shA, eff, Int.reduceEq, Int.reduceAdd, Int.reduceSub, Nat.reduceBEq, Nat.reduceEqDiff, reduceCtorEq, Nat.reduceAdd, Nat.reduceSub, Nat.reduceMul, Nat.reduceLeDiff, Int.reduceToNat, Int.reduceLT, Int.reduceLE, Int.reduceNeg, hi, hd]; with_reducible rfl)
    repeat ((with_reducible apply w_op); (· rfl); (· simp only [shA, eff, Int.reduceEq, Int.reduceAdd, Int.reduceSub, Nat.reduceBEq, Nat.reduceEqDiff, reduceCtorEq, Nat.reduceAdd, Nat.reduceSub, Nat.reduceMul, Nat.reduceLeDiff, Int.reduceToNat, Int.reduceLT, Int.reduceLE, Int.reduceNeg, hi, hd]; with_reducible rfl); (· simp only [shA, eff, Int.reduceEq, Int.reduceAdd, Int.reduceSub, Nat.reduceBEq, Nat.reduceEqDiff, reduceCtorEq, Nat.reduceAdd, Nat.reduceSub, Nat.reduceMul, Nat.reduceLeDiff, Int.reduceToNat, Int.reduceLT, Int.reduceLE, Int.reduceNeg, hi, hd]; with_reducible rfl))
    apply w_done
    generalize signL (l.drop i) = n at hs hb ⊢
    by_cases h0 : n = 0
    · have d2 := decide_T (p := ((n : Int) = 0)) (by omega)
      have hf : isText l = false := by rw [hb]; simp [h0]
      repeat (first | (with_reducible apply w_unr) | (with_reducible apply w_assoc) | (with_reducible apply w_skip) | (with_reducible apply w_ret) | (with_reducible apply w_retE) | (with_reducible apply w_skipE) | (with_reducible apply w_exit) | (with_reducible apply w_exitE) | (with_reducible apply w_block) | (with_reducible apply w_blockE) | ((with_reducible apply w_reg); · simp only [shA, eff, Int.reduceEq, Int.reduceAdd, Int.reduceSub, Nat.reduceBEq, Nat.reduceEqDiff, reduceCtorEq, Nat.reduceAdd, Nat.reduceSub, Nat.reduceMul, Nat.reduceLeDiff, Int.reduceToNat, Int.reduceLT, Int.reduceLE, Int.reduceNeg, d2]; with_reducible rfl) | ((with_reducible apply w_regE); · simp only [shA, eff, Int.reduceEq, Int.reduceAdd, Int.reduceSub, Nat.reduceBEq, Nat.reduceEqDiff, reduceCtorEq, Nat.reduceAdd, Nat.reduceSub, Nat.reduceMul, Nat.reduceLeDiff, Int.reduceToNat, Int.reduceLT, Int.reduceLE, Int.reduceNeg, d2]; with_reducible rfl) | ((with_reducible apply w_condT); · simp only [shA, eff, Int.reduceEq, Int.reduceAdd, Int.reduceSub, Nat.reduceBEq, Nat.reduceEqDiff, reduceCtorEq, Nat.reduceAdd, Nat.reduceSub, Nat.reduceMul, Nat.reduceLeDiff, Int.reduceToNat, Int.reduceLT, Int.reduceLE, Int.reduceNeg, d2]) | ((with_reducible apply w_condF); · simp only [shA, eff, Int.reduceEq, Int.reduceAdd, Int.reduceSub, Nat.reduceBEq, Nat.reduceEqDiff, reduceCtorEq, Nat.reduceAdd, Nat.reduceSub, Nat.reduceMul, Nat.reduceLeDiff, Int.reduceToNat, Int.reduceLT, Int.reduceLE, Int.reduceNeg, d2]) | ((with_reducible apply w_condTE); · simp only [shA, eff, Int.reduceEq, Int.reduceAdd, Int.reduceSub, Nat.reduceBEq, Nat.reduceEqDiff, reduceCtorEq, Nat.reduceAdd, Nat.reduceSub, Nat.reduceMul, Nat.reduceLeDiff, Int.reduceToNat, Int.reduceLT, Int.reduceLE, Int.reduceNeg, d2]) | ((with_reducible apply w_condFE); · simp only [shA, eff, Int.reduceEq, Int.reduceAdd, Int.reduceSub, Nat.reduceBEq, Nat.reduceEqDiff, reduceCtorEq, Nat.reduceAdd, Nat.reduceSub, Nat.reduceMul, Nat.reduceLeDiff, Int.reduceToNat, Int.reduceLT, Int.reduceLE, Int.reduceNeg, d2]) | (with_reducible apply q_then) | (with_reducible apply q_blockN) | (with_reducible apply q_blockR) | (with_reducible apply q_thenR) | (with_reducible apply q_thenX) | (with_reducible apply q_blockX) | ((with_reducible apply q_blockY); · rfl))
      simp [Post0, ansW, resT, SRes.get, ES.fs, ES.kill, has, drp, seqO, nbeq, lk, I, S, TV.ids3, TV.ids2, TV.ids1, TV.ids0, TV.ren3, TV.ren2, TV.ren1, TV.ren0, F_moraineref03_IsText, hf]
    have d2 := decide_F (p := ((n : Int) = 0)) (by omega)
    by_cases h1 : b.toNat < 32
    · have d3 := decide_T (p := ((b.toNat : Int) < 32)) (by omega)
      have hf : isText l = false := by rw [hb]; simp [h1]
      repeat (first | (with_reducible apply w_unr) | (with_reducible apply w_assoc) | (with_reducible apply w_skip) | (with_reducible apply w_ret) | (with_reducible apply w_retE) | (with_reducible apply w_skipE) | (with_reducible apply w_exit) | (with_reducible apply w_exitE) | (with_reducible apply w_block) | (with_reducible apply w_blockE) | ((with_reducible apply w_reg); · simp only [shA, eff, Int.reduceEq, Int.reduceAdd, Int.reduceSub, Nat.reduceBEq, Nat.reduceEqDiff, reduceCtorEq, Nat.reduceAdd, Nat.reduceSub, Nat.reduceMul, Nat.reduceLeDiff, Int.reduceToNat, Int.reduceLT, Int.reduceLE, Int.reduceNeg, d2, eb, d3]; with_reducible rfl) | ((with_reducible apply w_regE); · simp only [shA, eff, Int.reduceEq, Int.reduceAdd, Int.reduceSub, Nat.reduceBEq, Nat.reduceEqDiff, reduceCtorEq, Nat.reduceAdd, Nat.reduceSub, Nat.reduceMul, Nat.reduceLeDiff, Int.reduceToNat, Int.reduceLT, Int.reduceLE, Int.reduceNeg, d2, eb, d3]; with_reducible rfl) | ((with_reducible apply w_condT); · simp only [shA, eff, Int.reduceEq, Int.reduceAdd, Int.reduceSub, Nat.reduceBEq, Nat.reduceEqDiff, reduceCtorEq, Nat.reduceAdd, Nat.reduceSub, Nat.reduceMul, Nat.reduceLeDiff, Int.reduceToNat, Int.reduceLT, Int.reduceLE, Int.reduceNeg, d2, eb, d3]) | ((with_reducible apply w_condF); · simp only [shA, eff, Int.reduceEq, Int.reduceAdd, Int.reduceSub, Nat.reduceBEq, Nat.reduceEqDiff, reduceCtorEq, Nat.reduceAdd, Nat.reduceSub, Nat.reduceMul, Nat.reduceLeDiff, Int.reduceToNat, Int.reduceLT, Int.reduceLE, Int.reduceNeg, d2, eb, d3]) | ((with_reducible apply w_condTE); · simp only [shA, eff, Int.reduceEq, Int.reduceAdd, Int.reduceSub, Nat.reduceBEq, Nat.reduceEqDiff, reduceCtorEq, Nat.reduceAdd, Nat.reduceSub, Nat.reduceMul, Nat.reduceLeDiff, Int.reduceToNat, Int.reduceLT, Int.reduceLE, Int.reduceNeg, d2, eb, d3]) | ((with_reducible apply w_condFE); · simp only [shA, eff, Int.reduceEq, Int.reduceAdd, Int.reduceSub, Nat.reduceBEq, Nat.reduceEqDiff, reduceCtorEq, Nat.reduceAdd, Nat.reduceSub, Nat.reduceMul, Nat.reduceLeDiff, Int.reduceToNat, Int.reduceLT, Int.reduceLE, Int.reduceNeg, d2, eb, d3]) | (with_reducible apply q_then) | (with_reducible apply q_blockN) | (with_reducible apply q_blockR) | (with_reducible apply q_thenR) | (with_reducible apply q_thenX) | (with_reducible apply q_blockX) | ((with_reducible apply q_blockY); · rfl))
      simp [Post0, ansW, resT, SRes.get, ES.fs, ES.kill, has, drp, seqO, nbeq, lk, I, S, TV.ids3, TV.ids2, TV.ids1, TV.ids0, TV.ren3, TV.ren2, TV.ren1, TV.ren0, F_moraineref03_IsText, hf]
    have d3 := decide_F (p := ((b.toNat : Int) < 32)) (by omega)
    by_cases h2 : b.toNat = 127
    · have d4 := decide_T (p := ((b.toNat : Int) = 127)) (by omega)
      have hf : isText l = false := by rw [hb]; simp [h2]
      repeat (first | (with_reducible apply w_unr) | (with_reducible apply w_assoc) | (with_reducible apply w_skip) | (with_reducible apply w_ret) | (with_reducible apply w_retE) | (with_reducible apply w_skipE) | (with_reducible apply w_exit) | (with_reducible apply w_exitE) | (with_reducible apply w_block) | (with_reducible apply w_blockE) | ((with_reducible apply w_reg); · simp only [shA, eff, Int.reduceEq, Int.reduceAdd, Int.reduceSub, Nat.reduceBEq, Nat.reduceEqDiff, reduceCtorEq, Nat.reduceAdd, Nat.reduceSub, Nat.reduceMul, Nat.reduceLeDiff, Int.reduceToNat, Int.reduceLT, Int.reduceLE, Int.reduceNeg, d2, eb, d3, d4]; with_reducible rfl) | ((with_reducible apply w_regE); · simp only [shA, eff, Int.reduceEq, Int.reduceAdd, Int.reduceSub, Nat.reduceBEq, Nat.reduceEqDiff, reduceCtorEq, Nat.reduceAdd, Nat.reduceSub, Nat.reduceMul, Nat.reduceLeDiff, Int.reduceToNat, Int.reduceLT, Int.reduceLE, Int.reduceNeg, d2, eb, d3, d4]; with_reducible rfl) | ((with_reducible apply w_condT); · simp only [shA, eff, Int.reduceEq, Int.reduceAdd, Int.reduceSub, Nat.reduceBEq, Nat.reduceEqDiff, reduceCtorEq, Nat.reduceAdd, Nat.reduceSub, Nat.reduceMul, Nat.reduceLeDiff, Int.reduceToNat, Int.reduceLT, Int.reduceLE, Int.reduceNeg, d2, eb, d3, d4]) | ((with_reducible apply w_condF); · simp only [shA, eff, Int.reduceEq, Int.reduceAdd, Int.reduceSub, Nat.reduceBEq, Nat.reduceEqDiff, reduceCtorEq, Nat.reduceAdd, Nat.reduceSub, Nat.reduceMul, Nat.reduceLeDiff, Int.reduceToNat, Int.reduceLT, Int.reduceLE, Int.reduceNeg, d2, eb, d3, d4]) | ((with_reducible apply w_condTE); · simp only [shA, eff, Int.reduceEq, Int.reduceAdd, Int.reduceSub, Nat.reduceBEq, Nat.reduceEqDiff, reduceCtorEq, Nat.reduceAdd, Nat.reduceSub, Nat.reduceMul, Nat.reduceLeDiff, Int.reduceToNat, Int.reduceLT, Int.reduceLE, Int.reduceNeg, d2, eb, d3, d4]) | ((with_reducible apply w_condFE); · simp only [shA, eff, Int.reduceEq, Int.reduceAdd, Int.reduceSub, Nat.reduceBEq, Nat.reduceEqDiff, reduceCtorEq, Nat.reduceAdd, Nat.reduceSub, Nat.reduceMul, Nat.reduceLeDiff, Int.reduceToNat, Int.reduceLT, Int.reduceLE, Int.reduceNeg, d2, eb, d3, d4]) | (with_reducible apply q_then) | (with_reducible apply q_blockN) | (with_reducible apply q_blockR) | (with_reducible apply q_thenR) | (with_reducible apply q_thenX) | (with_reducible apply q_blockX) | ((with_reducible apply q_blockY); · rfl))
      simp [Post0, ansW, resT, SRes.get, ES.fs, ES.kill, has, drp, seqO, nbeq, lk, I, S, TV.ids3, TV.ids2, TV.ids1, TV.ids0, TV.ren3, TV.ren2, TV.ren1, TV.ren0, F_moraineref03_IsText, hf]
    have d4 := decide_F (p := ((b.toNat : Int) = 127)) (by omega)
    have w1 : IntKind.i64.wrap ((i : Int) + (n : Int)) = ((i + n : Nat) : Int) := by rw [wrap64 (by omega) (by omega)]; omega
    have hT2 : isText l = isText (l.drop (i + n)) := by rw [hb, List.drop_drop]; simp [h0, h1, h2]
    repeat (first | (with_reducible apply w_unr) | (with_reducible apply w_assoc) | (with_reducible apply w_skip) | (with_reducible apply w_ret) | (with_reducible apply w_retE) | (with_reducible apply w_skipE) | (with_reducible apply w_exit) | (with_reducible apply w_exitE) | (with_reducible apply w_block) | (with_reducible apply w_blockE) | ((with_reducible apply w_reg); · simp only [shA, eff, Int.reduceEq, Int.reduceAdd, Int.reduceSub, Nat.reduceBEq, Nat.reduceEqDiff, reduceCtorEq, Nat.reduceAdd, Nat.reduceSub, Nat.reduceMul, Nat.reduceLeDiff, Int.reduceToNat, Int.reduceLT, Int.reduceLE, Int.reduceNeg, d2, eb, d3, d4, w1]; with_reducible rfl) | ((with_reducible apply w_regE); · simp only [shA, eff, Int.reduceEq, Int.reduceAdd, Int.reduceSub, Nat.reduceBEq, Nat.reduceEqDiff, reduceCtorEq, Nat.reduceAdd, Nat.reduceSub, Nat.reduceMul, Nat.reduceLeDiff, Int.reduceToNat, Int.reduceLT, Int.reduceLE, Int.reduceNeg, d2, eb, d3, d4, w1]; with_reducible rfl) | ((with_reducible apply w_condT); · simp only [shA, eff, Int.reduceEq, Int.reduceAdd, Int.reduceSub, Nat.reduceBEq, Nat.reduceEqDiff, reduceCtorEq, Nat.reduceAdd, Nat.reduceSub, Nat.reduceMul, Nat.reduceLeDiff, Int.reduceToNat, Int.reduceLT, Int.reduceLE, Int.reduceNeg, d2, eb, d3, d4, w1]) | ((with_reducible apply w_condF); · simp only [shA, eff, Int.reduceEq, Int.reduceAdd, Int.reduceSub, Nat.reduceBEq, Nat.reduceEqDiff, reduceCtorEq, Nat.reduceAdd, Nat.reduceSub, Nat.reduceMul, Nat.reduceLeDiff, Int.reduceToNat, Int.reduceLT, Int.reduceLE, Int.reduceNeg, d2, eb, d3, d4, w1]) | ((with_reducible apply w_condTE); · simp only [shA, eff, Int.reduceEq, Int.reduceAdd, Int.reduceSub, Nat.reduceBEq, Nat.reduceEqDiff, reduceCtorEq, Nat.reduceAdd, Nat.reduceSub, Nat.reduceMul, Nat.reduceLeDiff, Int.reduceToNat, Int.reduceLT, Int.reduceLE, Int.reduceNeg, d2, eb, d3, d4, w1]) | ((with_reducible apply w_condFE); · simp only [shA, eff, Int.reduceEq, Int.reduceAdd, Int.reduceSub, Nat.reduceBEq, Nat.reduceEqDiff, reduceCtorEq, Nat.reduceAdd, Nat.reduceSub, Nat.reduceMul, Nat.reduceLeDiff, Int.reduceToNat, Int.reduceLT, Int.reduceLE, Int.reduceNeg, d2, eb, d3, d4, w1]) | (with_reducible apply q_then) | (with_reducible apply q_blockN) | (with_reducible apply q_blockR) | (with_reducible apply q_thenR) | (with_reducible apply q_thenX) | (with_reducible apply q_blockX) | ((with_reducible apply q_blockY); · rfl))
    refine ⟨⟨i + n, by omega, hT2⟩, by show l.length - (i + n) < l.length - i; omega, ?_⟩
    apply le_of <;> simp [leL, lk, Nat.beq, I, S]
  · have d1 := decide_F (p := ((i : Int) < (l.length : Int))) (by omega)
    have hf : isText l = true := by rw [hT, List.drop_eq_nil_of_le (by omega)]; rfl
    repeat (first | (with_reducible apply w_unr) | (with_reducible apply w_assoc) | (with_reducible apply w_skip) | (with_reducible apply w_ret) | (with_reducible apply w_retE) | (with_reducible apply w_skipE) | (with_reducible apply w_exit) | (with_reducible apply w_exitE) | (with_reducible apply w_block) | (with_reducible apply w_blockE) | ((with_reducible apply w_reg); · simp only [shA, eff, Int.reduceEq, Int.reduceAdd, Int.reduceSub, Nat.reduceBEq, Nat.reduceEqDiff, reduceCtorEq, Nat.reduceAdd, Nat.reduceSub, Nat.reduceMul, Nat.reduceLeDiff, Int.reduceToNat, Int.reduceLT, Int.reduceLE, Int.reduceNeg, d1]; with_reducible rfl) | ((with_reducible apply w_regE); · simp only [shA, eff, Int.reduceEq, Int.reduceAdd, Int.reduceSub, Nat.reduceBEq, Nat.reduceEqDiff, reduceCtorEq, Nat.reduceAdd, Nat.reduceSub, Nat.reduceMul, Nat.reduceLeDiff, Int.reduceToNat, Int.reduceLT, Int.reduceLE, Int.reduceNeg, d1]; with_reducible rfl) | ((with_reducible apply w_condT); · simp only [shA, eff, Int.reduceEq, Int.reduceAdd, Int.reduceSub, Nat.reduceBEq, Nat.reduceEqDiff, reduceCtorEq, Nat.reduceAdd, Nat.reduceSub, Nat.reduceMul, Nat.reduceLeDiff, Int.reduceToNat, Int.reduceLT, Int.reduceLE, Int.reduceNeg, d1]) | ((with_reducible apply w_condF); · simp only [shA, eff, Int.reduceEq, Int.reduceAdd, Int.reduceSub, Nat.reduceBEq, Nat.reduceEqDiff, reduceCtorEq, Nat.reduceAdd, Nat.reduceSub, Nat.reduceMul, Nat.reduceLeDiff, Int.reduceToNat, Int.reduceLT, Int.reduceLE, Int.reduceNeg, d1]) | ((with_reducible apply w_condTE); · simp only [shA, eff, Int.reduceEq, Int.reduceAdd, Int.reduceSub, Nat.reduceBEq, Nat.reduceEqDiff, reduceCtorEq, Nat.reduceAdd, Nat.reduceSub, Nat.reduceMul, Nat.reduceLeDiff, Int.reduceToNat, Int.reduceLT, Int.reduceLE, Int.reduceNeg, d1]) | ((with_reducible apply w_condFE); · simp only [shA, eff, Int.reduceEq, Int.reduceAdd, Int.reduceSub, Nat.reduceBEq, Nat.reduceEqDiff, reduceCtorEq, Nat.reduceAdd, Nat.reduceSub, Nat.reduceMul, Nat.reduceLeDiff, Int.reduceToNat, Int.reduceLT, Int.reduceLE, Int.reduceNeg, d1]) | (with_reducible apply q_then) | (with_reducible apply q_blockN) | (with_reducible apply q_blockR) | (with_reducible apply q_thenR) | (with_reducible apply q_thenX) | (with_reducible apply q_blockX) | ((with_reducible apply q_blockY); · rfl))
    simp [Post0, ansW, resT, SRes.get, ES.fs, ES.kill, has, drp, seqO, nbeq, lk, I, S, TV.ids3, TV.ids2, TV.ids1, TV.ids0, TV.ren3, TV.ren2, TV.ren1, TV.ren0, F_moraineref03_IsText, hf]
end Go.Proofs.YthjphllpkcnehaaGreatDoor
namespace Go.Proofs.YthjphllpkcnehaaGreatDoor
open Go Go.RowKit Go.Mor Go.Sh Go.Sh.Cd1
set_option maxRecDepth 100000
set_option maxHeartbeats 8000000
def stepN (l : List UInt8) : Nat := max (signL l) 1
def vtN : Nat → List UInt8 → List UInt8 → List UInt8
  | 0, _, out => out
  | n + 1, l, out => if l = [] ∨ 17 ≤ out.length then out else vtN n (l.drop (stepN l)) (if isText (l.take (stepN l)) then out ++ l.take (stepN l) else out)
def vt (l out : List UInt8) : List UInt8 := vtN l.length l out
def valText (l : List UInt8) : List UInt8 := vt l []
theorem stepN_le {l : List UInt8} (h : 0 < l.length) : 1 ≤ stepN l ∧ stepN l ≤ l.length ∧ stepN l ≤ 4 := by
  have := signL_le l
  unfold stepN; omega
theorem vtN_more : ∀ (n : Nat) (l out : List UInt8), l.length ≤ n → vtN n l out = vt l out := by
  intro n
  induction n using Nat.strongRecOn with
  | _ n ih =>
    intro l out hl
    unfold vt
    cases n with
    | zero =>
      have : l.length = 0 := by omega
      rw [this]
    | succ m =>
      cases hm : l.length with
      | zero =>
        have : l = [] := List.eq_nil_of_length_eq_zero hm
        simp [vtN, this]
      | succ p =>
        simp only [vtN]
        split
        · rfl
        · have hs := stepN_le (l := l) (by omega)
          have h1 : (l.drop (stepN l)).length ≤ p := by simp; omega
          rw [ih m (by omega) _ _ (by omega), ih p (by omega) _ _ h1]
theorem vt_step (l out : List UInt8) : vt l out = if l = [] ∨ 17 ≤ out.length then out else vt (l.drop (stepN l)) (if isText (l.take (stepN l)) then out ++ l.take (stepN l) else out) := by
  conv => lhs; unfold vt
  cases hm : l.length with
  | zero =>
    have : l = [] := List.eq_nil_of_length_eq_zero hm
    simp [vtN, this]
  | succ p =>
    have hs := stepN_le (l := l) (by omega)
    simp only [vtN]
    split
    · rfl
    · rw [vtN_more p _ _ (by simp; omega)]
theorem valText_ok (g : Sh.Glob) (l : List UInt8) (hl : l.length ≤ 9223372036854775807) : SCalls Tryz.prog g 103 [S (str l)] [] (S (str (valText l))) [] := by
  refine call_of0 hmix tf_morainelaw03_ValText rfl ?_
  have e0 : (⟨#[]⟩ : ByteArray) = str [] := rfl
  repeat (first | (with_reducible apply w_unr) | (with_reducible apply w_assoc) | (with_reducible apply w_skip) | (with_reducible apply w_ret) | (with_reducible apply w_retE) | (with_reducible apply w_skipE) | (with_reducible apply w_exit) | (with_reducible apply w_exitE) | (with_reducible apply w_block) | (with_reducible apply w_blockE) | ((with_reducible apply w_reg); · simp only [shA, eff, Int.reduceEq, Int.reduceAdd, Int.reduceSub, Nat.reduceBEq, Nat.reduceEqDiff, reduceCtorEq, Nat.reduceAdd, Nat.reduceSub, Nat.reduceMul, Nat.reduceLeDiff, Int.reduceToNat, Int.reduceLT, Int.reduceLE, Int.reduceNeg]; with_reducible rfl) | ((with_reducible apply w_regE); · simp only [shA, eff, Int.reduceEq, Int.reduceAdd, Int.reduceSub, Nat.reduceBEq, Nat.reduceEqDiff, reduceCtorEq, Nat.reduceAdd, Nat.reduceSub, Nat.reduceMul, Nat.reduceLeDiff, Int.reduceToNat, Int.reduceLT, Int.reduceLE, Int.reduceNeg]; with_reducible rfl) | ((with_reducible apply w_condT); · simp only [shA, eff, Int.reduceEq, Int.reduceAdd, Int.reduceSub, Nat.reduceBEq, Nat.reduceEqDiff, reduceCtorEq, Nat.reduceAdd, Nat.reduceSub, Nat.reduceMul, Nat.reduceLeDiff, Int.reduceToNat, Int.reduceLT, Int.reduceLE, Int.reduceNeg]) | ((with_reducible apply w_condF); · simp only [shA, eff, Int.reduceEq, Int.reduceAdd, Int.reduceSub, Nat.reduceBEq, Nat.reduceEqDiff, reduceCtorEq, Nat.reduceAdd, Nat.reduceSub, Nat.reduceMul, Nat.reduceLeDiff, Int.reduceToNat, Int.reduceLT, Int.reduceLE, Int.reduceNeg]) | ((with_reducible apply w_condTE); · simp only [shA, eff, Int.reduceEq, Int.reduceAdd, Int.reduceSub, Nat.reduceBEq, Nat.reduceEqDiff, reduceCtorEq, Nat.reduceAdd, Nat.reduceSub, Nat.reduceMul, Nat.reduceLeDiff, Int.reduceToNat, Int.reduceLT, Int.reduceLE, Int.reduceNeg]) | ((with_reducible apply w_condFE); · simp only [shA, eff, Int.reduceEq, Int.reduceAdd, Int.reduceSub, Nat.reduceBEq, Nat.reduceEqDiff, reduceCtorEq, Nat.reduceAdd, Nat.reduceSub, Nat.reduceMul, Nat.reduceLeDiff, Int.reduceToNat, Int.reduceLT, Int.reduceLE, Int.reduceNeg]) | (with_reducible apply q_then) | (with_reducible apply q_blockN) | (with_reducible apply q_blockR) | (with_reducible apply q_thenR) | (with_reducible apply q_thenX) | (with_reducible apply q_blockX) | ((with_reducible apply q_blockY); · rfl))
  refine w_loopE (σ := { p : Nat × List UInt8 // p.1 ≤ l.length ∧ p.2.length ≤ 20 ∧ valText l = vt (l.drop p.1) p.2 }) (fun p => ⟨[(0, S (str l)), (3, S (str p.1.2)), (4, I (p.1.1 : Int))], [], [], []⟩) (fun p => l.length - p.1.1) ⟨(0, []), Nat.zero_le _, Nat.zero_le _, rfl⟩ (by rw [← e0]; apply le_of <;> simp [leL, lk, Nat.beq, I, S, str]) ?_
  rintro ⟨⟨i, out⟩, hi, ho, hT⟩
  simp only at hi ho hT
  rw [vt_step] at hT
  by_cases hlt : ¬ i < l.length
  · have d1 := decide_F (p := ((i : Int) < (l.length : Int))) (by omega)
    have hf : valText l = out := by rw [hT, if_pos (.inl (List.drop_eq_nil_of_le (by omega)))]
    repeat (first | (with_reducible apply w_unr) | (with_reducible apply w_assoc) | (with_reducible apply w_skip) | (with_reducible apply w_ret) | (with_reducible apply w_retE) | (with_reducible apply w_skipE) | (with_reducible apply w_exit) | (with_reducible apply w_exitE) | (with_reducible apply w_block) | (with_reducible apply w_blockE) | ((with_reducible apply w_reg); · simp only [shA, eff, Int.reduceEq, Int.reduceAdd, Int.reduceSub, Nat.reduceBEq, Nat.reduceEqDiff, reduceCtorEq, Nat.reduceAdd, Nat.reduceSub, Nat.reduceMul, Nat.reduceLeDiff, Int.reduceToNat, Int.reduceLT, Int.reduceLE, Int.reduceNeg, d1]; with_reducible rfl) | ((with_reducible apply w_regE); · simp only [shA, eff, Int.reduceEq, Int.reduceAdd, Int.reduceSub, Nat.reduceBEq, Nat.reduceEqDiff, reduceCtorEq, Nat.reduceAdd, Nat.reduceSub, Nat.reduceMul, Nat.reduceLeDiff, Int.reduceToNat, Int.reduceLT, Int.reduceLE, Int.reduceNeg, d1]; with_reducible rfl) | ((with_reducible apply w_condT); · simp only [shA, eff, Int.reduceEq, Int.reduceAdd, Int.reduceSub, Nat.reduceBEq, Nat.reduceEqDiff, reduceCtorEq, Nat.reduceAdd, Nat.reduceSub, Nat.reduceMul, Nat.reduceLeDiff, Int.reduceToNat, Int.reduceLT, Int.reduceLE, Int.reduceNeg, d1]) | ((with_reducible apply w_condF); · simp only [shA, eff, Int.reduceEq, Int.reduceAdd, Int.reduceSub, Nat.reduceBEq, Nat.reduceEqDiff, reduceCtorEq, Nat.reduceAdd, Nat.reduceSub, Nat.reduceMul, Nat.reduceLeDiff, Int.reduceToNat, Int.reduceLT, Int.reduceLE, Int.reduceNeg, d1]) | ((with_reducible apply w_condTE); · simp only [shA, eff, Int.reduceEq, Int.reduceAdd, Int.reduceSub, Nat.reduceBEq, Nat.reduceEqDiff, reduceCtorEq, Nat.reduceAdd, Nat.reduceSub, Nat.reduceMul, Nat.reduceLeDiff, Int.reduceToNat, Int.reduceLT, Int.reduceLE, Int.reduceNeg, d1]) | ((with_reducible apply w_condFE); · simp only [shA, eff, Int.reduceEq, Int.reduceAdd, Int.reduceSub, Nat.reduceBEq, Nat.reduceEqDiff, reduceCtorEq, Nat.reduceAdd, Nat.reduceSub, Nat.reduceMul, Nat.reduceLeDiff, Int.reduceToNat, Int.reduceLT, Int.reduceLE, Int.reduceNeg, d1]) | (with_reducible apply q_then) | (with_reducible apply q_blockN) | (with_reducible apply q_blockR) | (with_reducible apply q_thenR) | (with_reducible apply q_thenX) | (with_reducible apply q_blockX) | ((with_reducible apply q_blockY); · rfl))
    simp [Post0, ansW, resT, SRes.get, ES.fs, ES.kill, has, drp, seqO, nbeq, lk, I, S, TV.ids3, TV.ids2, TV.ids1, TV.ids0, TV.ren3, TV.ren2, TV.ren1, TV.ren0, F_morainelaw03_ValText, hf]
  have d1 := decide_T (p := ((i : Int) < (l.length : Int))) (by omega)
  by_cases h17 : ¬ out.length < 17
  · have d2 := decide_F (p := ((out.length : Int) < 17)) (by omega)
    have hf : valText l = out := by rw [hT, if_pos (.inr (by omega))]
    repeat (first | (with_reducible apply w_unr) | (with_reducible apply w_assoc) | (with_reducible apply w_skip) | (with_reducible apply w_ret) | (with_reducible apply w_retE) | (with_reducible apply w_skipE) | (with_reducible apply w_exit) | (with_reducible apply w_exitE) | (with_reducible apply w_block) | (with_reducible apply w_blockE) | ((with_reducible apply w_reg); · simp only [shA, eff, Int.reduceEq, Int.reduceAdd, Int.reduceSub, Nat.reduceBEq, Nat.reduceEqDiff, reduceCtorEq, Nat.reduceAdd, Nat.reduceSub, Nat.reduceMul, Nat.reduceLeDiff, Int.reduceToNat, Int.reduceLT, Int.reduceLE, Int.reduceNeg, d1, d2]; with_reducible rfl) | ((with_reducible apply w_regE); · simp only [shA, eff, Int.reduceEq, Int.reduceAdd, Int.reduceSub, Nat.reduceBEq, Nat.reduceEqDiff, reduceCtorEq, Nat.reduceAdd, Nat.reduceSub, Nat.reduceMul, Nat.reduceLeDiff, Int.reduceToNat, Int.reduceLT, Int.reduceLE, Int.reduceNeg, d1, d2]; with_reducible rfl) | ((with_reducible apply w_condT); · simp only [shA, eff, Int.reduceEq, Int.reduceAdd, Int.reduceSub, Nat.reduceBEq, Nat.reduceEqDiff, reduceCtorEq, Nat.reduceAdd, Nat.reduceSub, Nat.reduceMul, Nat.reduceLeDiff, Int.reduceToNat, Int.reduceLT, Int.reduceLE, Int.reduceNeg, d1, d2]) | ((with_reducible apply w_condF); · simp only [shA, eff, Int.reduceEq, Int.reduceAdd, Int.reduceSub, Nat.reduceBEq, Nat.reduceEqDiff, reduceCtorEq, Nat.reduceAdd, Nat.reduceSub, Nat.reduceMul, Nat.reduceLeDiff, Int.reduceToNat, Int.reduceLT, Int.reduceLE, Int.reduceNeg, d1, d2]) | ((with_reducible apply w_condTE); · simp only [shA, eff, Int.reduceEq, Int.reduceAdd, Int.reduceSub, Nat.reduceBEq, Nat.reduceEqDiff, reduceCtorEq, Nat.reduceAdd, Nat.reduceSub, Nat.reduceMul, Nat.reduceLeDiff, Int.reduceToNat, Int.reduceLT, Int.reduceLE, Int.reduceNeg, d1, d2]) | ((with_reducible apply w_condFE); · simp only [shA, eff, Int.reduceEq, Int.reduceAdd, Int.reduceSub, Nat.reduceBEq, Nat.reduceEqDiff, reduceCtorEq, Nat.reduceAdd, Nat.reduceSub, Nat.reduceMul, Nat.reduceLeDiff, Int.reduceToNat, Int.reduceLT, Int.reduceLE, Int.reduceNeg, d1, d2]) | (with_reducible apply q_then) | (with_reducible apply q_blockN) | (with_reducible apply q_blockR) | (with_reducible apply q_thenR) | (with_reducible apply q_thenX) | (with_reducible apply q_blockX) | ((with_reducible apply q_blockY); · rfl))
    simp [Post0, ansW, resT, SRes.get, ES.fs, ES.kill, has, drp, seqO, nbeq, lk, I, S, TV.ids3, TV.ids2, TV.ids1, TV.ids0, TV.ren3, TV.ren2, TV.ren1, TV.ren0, F_morainelaw03_ValText, hf]
  have d2 := decide_T (p := ((out.length : Int) < 17)) (by omega)
  have hd := str_drop l i
  have hs := stepN_le (l := l.drop i) (by simp; omega)
  rw [if_neg (by rw [List.drop_eq_nil_iff]; omega)] at hT
  have hm : max (signL (l.drop i) : Int) 1 = ((stepN (l.drop i) : Nat) : Int) := by unfold stepN; omega
  repeat (first | (with_reducible apply w_unr) | (with_reducible apply w_assoc) | (with_reducible apply w_skip) | (with_reducible apply w_ret) | (with_reducible apply w_retE) | (with_reducible apply w_skipE) | (with_reducible apply w_exit) | (with_reducible apply w_exitE) | (with_reducible apply w_block) | (with_reducible apply w_blockE) | ((with_reducible apply w_reg); · simp only [shA, eff, Int.reduceEq, Int.reduceAdd, Int.reduceSub, Nat.reduceBEq, Nat.reduceEqDiff, reduceCtorEq, Nat.reduceAdd, Nat.reduceSub, Nat.reduceMul, Nat.reduceLeDiff, Int.reduceToNat, Int.reduceLT, Int.reduceLE, Int.reduceNeg, d1, d2]; with_reducible rfl) | ((with_reducible apply w_regE); · simp only [shA, eff, Int.reduceEq, Int.reduceAdd, Int.reduceSub, Nat.reduceBEq, Nat.reduceEqDiff, reduceCtorEq, Nat.reduceAdd, Nat.reduceSub, Nat.reduceMul, Nat.reduceLeDiff, Int.reduceToNat, Int.reduceLT, Int.reduceLE, Int.reduceNeg, d1, d2]; with_reducible rfl) | ((with_reducible apply w_condT); · simp only [shA, eff, Int.reduceEq, Int.reduceAdd, Int.reduceSub, Nat.reduceBEq, Nat.reduceEqDiff, reduceCtorEq, Nat.reduceAdd, Nat.reduceSub, Nat.reduceMul, Nat.reduceLeDiff, Int.reduceToNat, Int.reduceLT, Int.reduceLE, Int.reduceNeg, d1, d2]) | ((with_reducible apply w_condF); · simp only [shA, eff, Int.reduceEq, Int.reduceAdd, Int.reduceSub, Nat.reduceBEq, Nat.reduceEqDiff, reduceCtorEq, Nat.reduceAdd, Nat.reduceSub, Nat.reduceMul, Nat.reduceLeDiff, Int.reduceToNat, Int.reduceLT, Int.reduceLE, Int.reduceNeg, d1, d2]) | ((with_reducible apply w_condTE); · simp only [shA, eff, Int.reduceEq, Int.reduceAdd, Int.reduceSub, Nat.reduceBEq, Nat.reduceEqDiff, reduceCtorEq, Nat.reduceAdd, Nat.reduceSub, Nat.reduceMul, Nat.reduceLeDiff, Int.reduceToNat, Int.reduceLT, Int.reduceLE, Int.reduceNeg, d1, d2]) | ((with_reducible apply w_condFE); · simp only [shA, eff, Int.reduceEq, Int.reduceAdd, Int.reduceSub, Nat.reduceBEq, Nat.reduceEqDiff, reduceCtorEq, Nat.reduceAdd, Nat.reduceSub, Nat.reduceMul, Nat.reduceLeDiff, Int.reduceToNat, Int.reduceLT, Int.reduceLE, Int.reduceNeg, d1, d2]) | (with_reducible apply q_then) | (with_reducible apply q_blockN) | (with_reducible apply q_blockR) | (with_reducible apply q_thenR) | (with_reducible apply q_thenX) | (with_reducible apply q_blockX) | ((with_reducible apply q_blockY); · rfl))
  (first | (with_reducible apply w_ops) | (with_reducible apply w_opsE))
  repeat ((with_reducible apply w_op); (· rfl); (· simp only [shA, eff, Int.reduceEq, Int.reduceAdd, Int.reduceSub, Nat.reduceBEq, Nat.reduceEqDiff, reduceCtorEq, Nat.reduceAdd, Nat.reduceSub, Nat.reduceMul, Nat.reduceLeDiff, Int.reduceToNat, Int.reduceLT, Int.reduceLE, Int.reduceNeg, hi, hd]; with_reducible rfl); (· simp only [shA, eff, Int.reduceEq, Int.reduceAdd, Int.reduceSub, Nat.reduceBEq, Nat.reduceEqDiff, reduceCtorEq, Nat.reduceAdd, Nat.reduceSub, Nat.reduceMul, Nat.reduceLeDiff, Int.reduceToNat, Int.reduceLT, Int.reduceLE, Int.reduceNeg, hi, hd]; with_reducible rfl))
  (with_reducible apply w_call); (· simp only [shA, eff, Int.reduceEq, Int.reduceAdd, Int.reduceSub, Nat.reduceBEq, Nat.reduceEqDiff, reduceCtorEq, Nat.reduceAdd, Nat.reduceSub, Nat.reduceMul, Nat.reduceLeDiff, Int.reduceToNat, Int.reduceLT, Int.reduceLE, Int.reduceNeg, hi, hd]; with_reducible rfl); (· simp only [shA, eff, Int.reduceEq, Int.reduceAdd, Int.reduceSub, Nat.reduceBEq, Nat.reduceEqDiff, reduceCtorEq, Nat.reduceAdd, Nat.reduceSub, Nat.reduceMul, Nat.reduceLeDiff, Int.reduceToNat, Int.reduceLT, Int.reduceLE, Int.reduceNeg, hi, hd]; with_reducible rfl); (· simp only [shA, eff, Int.reduceEq, Int.reduceAdd, Int.reduceSub, Nat.reduceBEq, Nat.reduceEqDiff, reduceCtorEq, Nat.reduceAdd, Nat.reduceSub, Nat.reduceMul, Nat.reduceLeDiff, Int.reduceToNat, Int.reduceLT, Int.reduceLE, Int.reduceNeg, hi, hd]; with_reducible rfl); (· simp only [shA, eff, Int.reduceEq, Int.reduceAdd, Int.reduceSub, Nat.reduceBEq, Nat.reduceEqDiff, reduceCtorEq, Nat.reduceAdd, Nat.reduceSub, Nat.reduceMul, Nat.reduceLeDiff, Int.reduceToNat, Int.reduceLT, Int.reduceLE, Int.reduceNeg, hi, hd]; with_reducible rfl); (· exact sign_ok g (l.drop i)); (· rfl); (· simp only [shA, eff, Int.reduceEq, Int.reduceAdd, Int.reduceSub, Nat.reduceBEq, Nat.reduceEqDiff, reduceCtorEq, Nat.reduceAdd, Nat.reduceSub, Nat.reduceMul, Nat.reduceLeDiff, Int.reduceToNat, Int.reduceLT, Int.reduceLE, Int.reduceNeg, hi, hd]; with_reducible rfl); (· simp only [shA, eff, Int.reduceEq, Int.reduceAdd, Int.reduceSub, Nat.reduceBEq, Nat.reduceEqDiff, reduceCtorEq, Nat.reduceAdd, Nat.reduceSub, Nat.reduceMul, Nat.reduceLeDiff, Int.reduceToNat, Int.reduceLT, Int.reduceLE, Int.reduceNeg, hi, hd]; with_reducible rfl); (· simp only [shA, eff, Int.reduceEq, Int.reduceAdd, Int.reduceSub, Nat.reduceBEq, Nat.reduceEqDiff, reduceCtorEq, Nat.reduceAdd, Nat.reduceSub, Nat.reduceMul, Nat.reduceLeDiff, Int.reduceToNat, Int.reduceLT, Int.reduceLE, Int.reduceNeg, hi, hd]; with_reducible rfl)
  repeat ((with_reducible apply w_op); (· rfl); (· simp only [shA, eff, Int.reduceEq, Int.reduceAdd, Int.reduceSub, Nat.reduceBEq, Nat.reduceEqDiff, reduceCtorEq, Nat.reduceAdd, Nat.reduceSub, Nat.reduceMul, Nat.reduceLeDiff, Int.reduceToNat, Int.reduceLT, Int.reduceLE, Int.reduceNeg, hm]; with_reducible rfl); (· simp only [shA, eff, Int.reduceEq, Int.reduceAdd, Int.reduceSub, Nat.reduceBEq, Nat.reduceEqDiff, reduceCtorEq, Nat.reduceAdd, Nat.reduceSub, Nat.reduceMul, Nat.reduceLeDiff, Int.reduceToNat, Int.reduceLT, Int.reduceLE, Int.reduceNeg, hm]; with_reducible rfl))
  apply w_done
  simp only [List.length_drop] at hs
  obtain ⟨n, hn⟩ : ∃ n, n = stepN (l.drop i) := ⟨_, rfl⟩
  rw [← hn] at hs hT ⊢
  have w1 : IntKind.i64.wrap ((i : Int) + (n : Int)) = ((i + n : Nat) : Int) := by rw [wrap64 (by omega) (by omega)]; omega
  have g1 : i ≤ i + n := by omega
  have g2 : i + n ≤ l.length := by omega
  have hx : (str l).extract i (i + n) = str ((l.drop i).take n) := by rw [str_extract]; congr 2; omega
  have hlen : ((l.drop i).take n).length = n := by simp; omega
  (first | (with_reducible apply w_ops) | (with_reducible apply w_opsE))
  repeat ((with_reducible apply w_op); (· rfl); (· simp only [shA, eff, Int.reduceEq, Int.reduceAdd, Int.reduceSub, Nat.reduceBEq, Nat.reduceEqDiff, reduceCtorEq, Nat.reduceAdd, Nat.reduceSub, Nat.reduceMul, Nat.reduceLeDiff, Int.reduceToNat, Int.reduceLT, Int.reduceLE, Int.reduceNeg, w1, g1, g2, hx]; with_reducible rfl); (· simp only [shA, eff, Int.reduceEq, Int.reduceAdd, Int.reduceSub, Nat.reduceBEq, Nat.reduceEqDiff, reduceCtorEq, Nat.reduceAdd, Nat.reduceSub, Nat.reduceMul, Nat.reduceLeDiff, Int.reduceToNat, Int.reduceLT, Int.reduceLE, Int.reduceNeg, w1, g1, g2, hx]; with_reducible rfl))
  (with_reducible apply w_call); (· simp only [shA, eff, Int.reduceEq, Int.reduceAdd, Int.reduceSub, Nat.reduceBEq, Nat.reduceEqDiff, reduceCtorEq, Nat.reduceAdd, Nat.reduceSub, Nat.reduceMul, Nat.reduceLeDiff, Int.reduceToNat, Int.reduceLT, Int.reduceLE, Int.reduceNeg, hi]; with_reducible rfl); (· simp only [shA, eff, Int.reduceEq, Int.reduceAdd, Int.reduceSub, Nat.reduceBEq, Nat.reduceEqDiff, reduceCtorEq, Nat.reduceAdd, Nat.reduceSub, Nat.reduceMul, Nat.reduceLeDiff, Int.reduceToNat, Int.reduceLT, Int.reduceLE, Int.reduceNeg, hi]; with_reducible rfl); (· simp only [shA, eff, Int.reduceEq, Int.reduceAdd, Int.reduceSub, Nat.reduceBEq, Nat.reduceEqDiff, reduceCtorEq, Nat.reduceAdd, Nat.reduceSub, Nat.reduceMul, Nat.reduceLeDiff, Int.reduceToNat, Int.reduceLT, Int.reduceLE, Int.reduceNeg, hi]; with_reducible rfl); (· simp only [shA, eff, Int.reduceEq, Int.reduceAdd, Int.reduceSub, Nat.reduceBEq, Nat.reduceEqDiff, reduceCtorEq, Nat.reduceAdd, Nat.reduceSub, Nat.reduceMul, Nat.reduceLeDiff, Int.reduceToNat, Int.reduceLT, Int.reduceLE, Int.reduceNeg, hi]; with_reducible rfl); (· exact isText_ok g ((l.drop i).take n) (by omega)); (· rfl); (· simp only [shA, eff, Int.reduceEq, Int.reduceAdd, Int.reduceSub, Nat.reduceBEq, Nat.reduceEqDiff, reduceCtorEq, Nat.reduceAdd, Nat.reduceSub, Nat.reduceMul, Nat.reduceLeDiff, Int.reduceToNat, Int.reduceLT, Int.reduceLE, Int.reduceNeg, hi]; with_reducible rfl); (· simp only [shA, eff, Int.reduceEq, Int.reduceAdd, Int.reduceSub, Nat.reduceBEq, Nat.reduceEqDiff, reduceCtorEq, Nat.reduceAdd, Nat.reduceSub, Nat.reduceMul, Nat.reduceLeDiff, Int.reduceToNat, Int.reduceLT, Int.reduceLE, Int.reduceNeg, hi]; with_reducible rfl); (· simp only [shA, eff, Int.reduceEq, Int.reduceAdd, Int.reduceSub, Nat.reduceBEq, Nat.reduceEqDiff, reduceCtorEq, Nat.reduceAdd, Nat.reduceSub, Nat.reduceMul, Nat.reduceLeDiff, Int.reduceToNat, Int.reduceLT, Int.reduceLE, Int.reduceNeg, hi]; with_reducible rfl)
  repeat ((with_reducible apply w_op); (· rfl); (· simp only [shA, eff, Int.reduceEq, Int.reduceAdd, Int.reduceSub, Nat.reduceBEq, Nat.reduceEqDiff, reduceCtorEq, Nat.reduceAdd, Nat.reduceSub, Nat.reduceMul, Nat.reduceLeDiff, Int.reduceToNat, Int.reduceLT, Int.reduceLE, Int.reduceNeg]; with_reducible rfl); (· simp only [shA, eff, Int.reduceEq, Int.reduceAdd, Int.reduceSub, Nat.reduceBEq, Nat.reduceEqDiff, reduceCtorEq, Nat.reduceAdd, Nat.reduceSub, Nat.reduceMul, Nat.reduceLeDiff, Int.reduceToNat, Int.reduceLT, Int.reduceLE, Int.reduceNeg]; with_reducible rfl))
  apply w_done
  by_cases hok : isText ((l.drop i).take n) = true
  · have hadd := fun t => sbin_add Tryz.prog t (str out) (str ((l.drop i).take n)) (by simp only [str_size']; omega)
    have happ := str_append out ((l.drop i).take n)
    rw [if_pos hok, List.drop_drop] at hT
    repeat (first | (with_reducible apply w_unr) | (with_reducible apply w_assoc) | (with_reducible apply w_skip) | (with_reducible apply w_ret) | (with_reducible apply w_retE) | (with_reducible apply w_skipE) | (with_reducible apply w_exit) | (with_reducible apply w_exitE) | (with_reducible apply w_block) | (with_reducible apply w_blockE) | ((with_reducible apply w_reg); · simp only [shA, eff, Int.reduceEq, Int.reduceAdd, Int.reduceSub, Nat.reduceBEq, Nat.reduceEqDiff, reduceCtorEq, Nat.reduceAdd, Nat.reduceSub, Nat.reduceMul, Nat.reduceLeDiff, Int.reduceToNat, Int.reduceLT, Int.reduceLE, Int.reduceNeg, hok, w1, g1, g2, hx, hadd, happ]; with_reducible rfl) | ((with_reducible apply w_regE); · simp only [shA, eff, Int.reduceEq, Int.reduceAdd, Int.reduceSub, Nat.reduceBEq, Nat.reduceEqDiff, reduceCtorEq, Nat.reduceAdd, Nat.reduceSub, Nat.reduceMul, Nat.reduceLeDiff, Int.reduceToNat, Int.reduceLT, Int.reduceLE, Int.reduceNeg, hok, w1, g1, g2, hx, hadd, happ]; with_reducible rfl) | ((with_reducible apply w_condT); · simp only [shA, eff, Int.reduceEq, Int.reduceAdd, Int.reduceSub, Nat.reduceBEq, Nat.reduceEqDiff, reduceCtorEq, Nat.reduceAdd, Nat.reduceSub, Nat.reduceMul, Nat.reduceLeDiff, Int.reduceToNat, Int.reduceLT, Int.reduceLE, Int.reduceNeg, hok, w1, g1, g2, hx, hadd, happ]) | ((with_reducible apply w_condF); · simp only [shA, eff, Int.reduceEq, Int.reduceAdd, Int.reduceSub, Nat.reduceBEq, Nat.reduceEqDiff, reduceCtorEq, Nat.reduceAdd, Nat.reduceSub, Nat.reduceMul, Nat.reduceLeDiff, Int.reduceToNat, Int.reduceLT, Int.reduceLE, Int.reduceNeg, hok, w1, g1, g2, hx, hadd, happ]) | ((with_reducible apply w_condTE); · simp only [shA, eff, Int.reduceEq, Int.reduceAdd, Int.reduceSub, Nat.reduceBEq, Nat.reduceEqDiff, reduceCtorEq, Nat.reduceAdd, Nat.reduceSub, Nat.reduceMul, Nat.reduceLeDiff, Int.reduceToNat, Int.reduceLT, Int.reduceLE, Int.reduceNeg, hok, w1, g1, g2, hx, hadd, happ]) | ((with_reducible apply w_condFE); · simp only [shA, eff, Int.reduceEq, Int.reduceAdd, Int.reduceSub, Nat.reduceBEq, Nat.reduceEqDiff, reduceCtorEq, Nat.reduceAdd, Nat.reduceSub, Nat.reduceMul, Nat.reduceLeDiff, Int.reduceToNat, Int.reduceLT, Int.reduceLE, Int.reduceNeg, hok, w1, g1, g2, hx, hadd, happ]) | (with_reducible apply q_then) | (with_reducible apply q_blockN) | (with_reducible apply q_blockR) | (with_reducible apply q_thenR) | (with_reducible apply q_thenX) | (with_reducible apply q_blockX) | ((with_reducible apply q_blockY); · rfl))
    refine ⟨⟨(i + n, out ++ (l.drop i).take n), by omega, by simp; omega, hT⟩, by show l.length - (i + n) < l.length - i; omega, ?_⟩
    apply le_of <;> simp [leL, lk, Nat.beq, I, S]
  · have hok' : isText ((l.drop i).take n) = false := by simpa using hok
    rw [if_neg hok, List.drop_drop] at hT
    repeat (first | (with_reducible apply w_unr) | (with_reducible apply w_assoc) | (with_reducible apply w_skip) | (with_reducible apply w_ret) | (with_reducible apply w_retE) | (with_reducible apply w_skipE) | (with_reducible apply w_exit) | (with_reducible apply w_exitE) | (with_reducible apply w_block) | (with_reducible apply w_blockE) | ((with_reducible apply w_reg); · simp only [shA, eff, Int.reduceEq, Int.reduceAdd, Int.reduceSub, Nat.reduceBEq, Nat.reduceEqDiff, reduceCtorEq, Nat.reduceAdd, Nat.reduceSub, Nat.reduceMul, Nat.reduceLeDiff, Int.reduceToNat, Int.reduceLT, Int.reduceLE, Int.reduceNeg, hok', w1]; with_reducible rfl) | ((with_reducible apply w_regE); · simp only [shA, eff, Int.reduceEq, Int.reduceAdd, Int.reduceSub, Nat.reduceBEq, Nat.reduceEqDiff, reduceCtorEq, Nat.reduceAdd, Nat.reduceSub, Nat.reduceMul, Nat.reduceLeDiff, Int.reduceToNat, Int.reduceLT, Int.reduceLE, Int.reduceNeg, hok', w1]; with_reducible rfl) | ((with_reducible apply w_condT); · simp only [shA, eff, Int.reduceEq, Int.reduceAdd, Int.reduceSub, Nat.reduceBEq, Nat.reduceEqDiff, reduceCtorEq, Nat.reduceAdd, Nat.reduceSub, Nat.reduceMul, Nat.reduceLeDiff, Int.reduceToNat, Int.reduceLT, Int.reduceLE, Int.reduceNeg, hok', w1]) | ((with_reducible apply w_condF); · simp only [shA, eff, Int.reduceEq, Int.reduceAdd, Int.reduceSub, Nat.reduceBEq, Nat.reduceEqDiff, reduceCtorEq, Nat.reduceAdd, Nat.reduceSub, Nat.reduceMul, Nat.reduceLeDiff, Int.reduceToNat, Int.reduceLT, Int.reduceLE, Int.reduceNeg, hok', w1]) | ((with_reducible apply w_condTE); · simp only [shA, eff, Int.reduceEq, Int.reduceAdd, Int.reduceSub, Nat.reduceBEq, Nat.reduceEqDiff, reduceCtorEq, Nat.reduceAdd, Nat.reduceSub, Nat.reduceMul, Nat.reduceLeDiff, Int.reduceToNat, Int.reduceLT, Int.reduceLE, Int.reduceNeg, hok', w1]) | ((with_reducible apply w_condFE); · simp only [shA, eff, Int.reduceEq, Int.reduceAdd, Int.reduceSub, Nat.reduceBEq, Nat.reduceEqDiff, reduceCtorEq, Nat.reduceAdd, Nat.reduceSub, Nat.reduceMul, Nat.reduceLeDiff, Int.reduceToNat, Int.reduceLT, Int.reduceLE, Int.reduceNeg, hok', w1]) | (with_reducible apply q_then) | (with_reducible apply q_blockN) | (with_reducible apply q_blockR) | (with_reducible apply q_thenR) | (with_reducible apply q_thenX) | (with_reducible apply q_blockX) | ((with_reducible apply q_blockY); · rfl))
    refine ⟨⟨(i + n, out), by omega, ho, hT⟩, by show l.length - (i + n) < l.length - i; omega, ?_⟩
    apply le_of <;> simp [leL, lk, Nat.beq, I, S]
end Go.Proofs.YthjphllpkcnehaaGreatDoor
end

section
/- The statements' ValType, ValOne, fit. No statement of the program is proved here. -/
namespace Go.Proofs.YthjphllpkcnehaaGreatDoor
open Go Go.RowKit Go.Mor Go.Sh Go.Sh.Cd1
set_option maxRecDepth 100000
set_option maxHeartbeats 8000000
theorem pickI_lt {c n : Int} (hn : 0 < n) (hc : I64 c) : 0 ≤ pickI c n ∧ pickI c n < n := by
  unfold pickI
  obtain ⟨h0, h1⟩ := hc
  split
  · exact ⟨Int.tmod_nonneg n (by omega), Int.tmod_lt_of_pos _ hn⟩
  · exact ⟨Int.tmod_nonneg n (by omega), Int.tmod_lt_of_pos _ hn⟩
theorem pickI_ok (g : Sh.Glob) (c n : Int) (hc : I64 c) (hn : n ≠ 0) : SCalls Tryz.prog g 52 [I c, I n] [] (I (pickI c n)) [] := pick_ok g c n hc.1 hc.2 hn

/-- A type as a value. -/
def valType (a b : Int) : Ty := if 1 + pickI a 6 < 5 then ⟨1 + pickI a 6, 0⟩ else ⟨5, 1 + pickI b 4⟩
theorem valType_ok (g : Sh.Glob) (a b : Int) (ha : I64 a) (hb : I64 b) : SCalls Tryz.prog g 35 [I a, I b] [] (tyT (valType a b)) [] := by
  refine call_of0 hmix tf_morainelaw03_ValType rfl ?_
  have h6 := pickI_lt (n := 6) (by decide) ha
  have h4 := pickI_lt (n := 4) (by decide) hb
  have w1 : IntKind.i64.wrap (1 + pickI a 6) = 1 + pickI a 6 := wrap64 (by omega) (by omega)
  have w2 : IntKind.i64.wrap (1 + pickI b 4) = 1 + pickI b 4 := wrap64 (by omega) (by omega)
  unfold valType
  simp only [vcA, seval, I, S]
  (with_reducible apply v_call); (· simp only [vcA, seval, I, S]; with_reducible rfl); (· exact pickI_ok g a 6 ha (by decide)); (· first | rfl | (simp only [vcA, seval]; omega)); (· simp only [vcA, seval, I, S]; with_reducible rfl)
  simp only [vcA, seval, I, S, w1]
  refine ⟨fun h => by rw [if_pos h]; rfl, fun h => ?_⟩
  rw [if_neg h]
  (with_reducible apply v_call); (· simp only [vcA, seval, I, S]; with_reducible rfl); (· exact pickI_ok g b 4 hb (by decide)); (· first | rfl | (simp only [vcA, seval]; omega)); (· simp only [vcA, seval, I, S]; with_reducible rfl)
  simp only [vcA, seval, I, S, w2]
  rfl
/-- A value without a list, as a value. -/
def valOne (k n : Int) (s : List UInt8) : V :=
  if k = 1 then .mk 1 (if n < -1000000000000000 ∨ 1000000000000000 < n then pickI n 1000000000000001 else n) [] []
  else if k = 2 then .mk 2 0 (valText s) []
  else if k = 3 ∨ k = 4 then .mk k (1 + pickI n 100000) [] [] else V.nil
theorem valOne_ok (g : Sh.Glob) (k j n : Int) (s : List UInt8) (hn : I64 n) (hs : s.length ≤ 9223372036854775807) : SCalls Tryz.prog g 53 [I k, .agg [I j, I n, S (str s)]] [] (nv (valOne k n s)) [] := by
  refine call_of0 hmix tf_morainelaw03_ValOne rfl ?_
  have hp := pickI_lt (n := 100000) (by decide) hn
  have w1 : IntKind.i64.wrap (1 + pickI n 100000) = 1 + pickI n 100000 := wrap64 (by omega) (by omega)
  unfold valOne
  by_cases k1 : k = 1
  · subst k1
    rw [if_pos rfl]
    simp only [vcA, seval, I, S]
    refine ⟨fun h => ?_, fun h => ⟨fun h' => ?_, fun h' => ?_⟩⟩
    · rw [if_pos (.inl h)]
      (with_reducible apply v_call); (· simp only [vcA, seval, I, S]; with_reducible rfl); (· exact pickI_ok g n 1000000000000001 hn (by decide)); (· first | rfl | (simp only [vcA, seval]; omega)); (· simp only [vcA, seval, I, S]; with_reducible rfl)
      simp only [vcA, seval, I, S]
      rfl
    · rw [if_pos (.inr h')]
      (with_reducible apply v_call); (· simp only [vcA, seval, I, S]; with_reducible rfl); (· exact pickI_ok g n 1000000000000001 hn (by decide)); (· first | rfl | (simp only [vcA, seval]; omega)); (· simp only [vcA, seval, I, S]; with_reducible rfl)
      simp only [vcA, seval, I, S]
      rfl
    · rw [if_neg (by omega)]; rfl
  rw [if_neg k1]
  by_cases k2 : k = 2
  · subst k2
    rw [if_pos rfl]
    simp only [vcA, seval, I, S]
    (with_reducible apply v_call); (· simp only [vcA, seval, I, S]; with_reducible rfl); (· exact valText_ok g s hs); (· first | rfl | (simp only [vcA, seval]; omega)); (· simp only [vcA, seval, I, S]; with_reducible rfl)
    simp only [vcA, seval, I, S]
    rfl
  rw [if_neg k2]
  by_cases k3 : k = 3 ∨ k = 4
  · rw [if_pos k3]
    rcases k3 with rfl | rfl
    · simp only [vcA, seval, I, S]
      (with_reducible apply v_call); (· simp only [vcA, seval, I, S]; with_reducible rfl); (· exact pickI_ok g n 100000 hn (by decide)); (· first | rfl | (simp only [vcA, seval]; omega)); (· simp only [vcA, seval, I, S]; with_reducible rfl)
      simp only [vcA, seval, I, S, w1]
      rfl
    · simp only [vcA, seval, I, S]
      (with_reducible apply v_call); (· simp only [vcA, seval, I, S]; with_reducible rfl); (· exact pickI_ok g n 100000 hn (by decide)); (· first | rfl | (simp only [vcA, seval]; omega)); (· simp only [vcA, seval, I, S]; with_reducible rfl)
      simp only [vcA, seval, I, S, w1]
      rfl
  · rw [if_neg k3]
    have k3' : ¬ k = 3 := fun h => k3 (.inl h)
    have k4' : ¬ k = 4 := fun h => k3 (.inr h)
    simp only [vcA, seval, I, S, k1, k2, k3', k4']
    rfl
theorem valOne_l (k n : Int) (s : List UInt8) : (valOne k n s).l = [] := by unfold valOne; (repeat' split) <;> rfl
end Go.Proofs.YthjphllpkcnehaaGreatDoor
end

section
/- Texts by the document's signs are texts by the decoder; what ValText, ValOne, fit make is right. Plain Lean. No statement of the program is proved here. -/
namespace Go.Proofs.YthjphllpkcnehaaGreatDoor
open Go Go.RowKit Go.Mor
theorem byte_lt (l : List UInt8) (i : Nat) : (l.getD i 0).toNat < 256 := (l.getD i 0).toNat_lt
theorem signL_decode (b : UInt8) (t : List UInt8) : signL (b :: t) = if (Lib.decodeL (b :: t)).1 = 65533 ∧ (Lib.decodeL (b :: t)).2 = 1 then 0 else (Lib.decodeL (b :: t)).2 := by
  rw [Lib.decodeL_N, signL, if_neg (by simp)]
  exact signN_decode _ _ _ _ _ (byte_lt _ _) (byte_lt _ _) (byte_lt _ _) (byte_lt _ _)
theorem rune_lo (n b0 b1 b2 b3 : Nat) : (b0 < 128 → (Lib.decodeN n b0 b1 b2 b3).1 = b0) ∧ (128 ≤ b0 → 128 ≤ (Lib.decodeN n b0 b1 b2 b3).1) := by
  unfold Lib.decodeN
  refine ⟨fun h => by rw [if_pos h], fun h => ?_⟩
  rw [if_neg (by omega)]
  (repeat' split) <;> simp only <;> omega
theorem plainR_lead (b : UInt8) (t : List UInt8) : plainR (Lib.decodeL (b :: t)).1 = (!decide (b.toNat < 32) && !(b.toNat == 127)) := by
  rw [Lib.decodeL_N]
  have h := rune_lo (b :: t).length ((b :: t).getD 0 0).toNat ((b :: t).getD 1 0).toNat ((b :: t).getD 2 0).toNat ((b :: t).getD 3 0).toNat
  have e : (b :: t).getD 0 0 = b := rfl
  rw [e] at h ⊢
  generalize (Lib.decodeN _ _ _ _ _).1 = r at h ⊢
  unfold plainR
  rw [Bool.eq_iff_iff]
  rcases Nat.lt_or_ge b.toNat 128 with hb | hb
  · rw [h.1 hb]; simp
  · have := h.2 hb
    simp; omega
theorem isText_eq : ∀ (n : Nat) (l : List UInt8), l.length ≤ n → isText l = (Lib.validD l && plainD l) := by
  intro n
  induction n with
  | zero => intro l hl; obtain rfl := List.eq_nil_of_length_eq_zero (by omega : l.length = 0); rfl
  | succ n ih =>
    intro l hl
    cases l with
    | nil => rfl
    | cons b t =>
      rw [isText_cons, Lib.validD_step _ (by simp), plainD_step _ (by simp), plainR_lead, signL_decode]
      have hw := Lib.decodeL_width (b :: t)
      split
      · simp
      · rw [ih _ (by simp at hl ⊢; omega)]
        have h0 : ((Lib.decodeL (b :: t)).2 == 0) = false := by simp; omega
        rw [h0]
        generalize Lib.validD _ = p
        generalize plainD _ = q
        cases p <;> cases q <;> simp
theorem signL_app (a c : List UInt8) (h : signL a ≠ 0) : signL (a ++ c) = signL a := by
  have hne : a ≠ [] := by rintro rfl; exact h rfl
  have hl := (signL_le a).1
  unfold signL at *
  rw [if_neg hne] at h hl ⊢
  rw [if_neg (by simp [hne])]
  have g : ∀ i, i < a.length → (a ++ c).getD i 0 = a.getD i 0 := fun i hi => by
    simp only [List.getD_eq_getElem?_getD]; rw [List.getElem?_append_left hi]
  have h0 : 0 < a.length := List.length_pos_iff.2 hne
  rw [g 0 h0]
  simp only [List.length_append]
  generalize hB0 : (a.getD 0 0).toNat = B0 at h hl ⊢
  have g1 : 1 < a.length → ((a ++ c).getD 1 0).toNat = (a.getD 1 0).toNat := fun h => by rw [g 1 h]
  have g2 : 2 < a.length → ((a ++ c).getD 2 0).toNat = (a.getD 2 0).toNat := fun h => by rw [g 2 h]
  have g3 : 3 < a.length → ((a ++ c).getD 3 0).toNat = (a.getD 3 0).toNat := fun h => by rw [g 3 h]
  generalize ((a ++ c).getD 1 0).toNat = C1 at g1 ⊢
  generalize ((a ++ c).getD 2 0).toNat = C2 at g2 ⊢
  generalize ((a ++ c).getD 3 0).toNat = C3 at g3 ⊢
  generalize (a.getD 1 0).toNat = D1 at g1 h hl ⊢
  generalize (a.getD 2 0).toNat = D2 at g2 h hl ⊢
  generalize (a.getD 3 0).toNat = D3 at g3 h hl ⊢
  unfold signN at *
  by_cases c1 : B0 < 128
  · rw [if_pos c1, if_pos c1]
  rw [if_neg c1] at h hl ⊢
  rw [if_neg c1]
  by_cases c2 : 194 ≤ B0 ∧ B0 ≤ 223
  · rw [if_pos c2] at h hl ⊢
    rw [if_pos c2]
    split at h
    · contradiction
    · rw [if_neg (by omega), if_neg (by assumption)]
  rw [if_neg c2] at h hl ⊢
  rw [if_neg c2]
  by_cases c3 : 224 ≤ B0 ∧ B0 ≤ 239
  · rw [if_pos c3] at h hl ⊢
    rw [if_pos c3]
    generalize (if B0 = 224 then 160 else 128) = lo at *
    generalize (if B0 = 237 then 159 else 191) = hi at *
    split at h
    · contradiction
    · rw [if_neg (by omega), if_neg (by assumption)]
  rw [if_neg c3] at h hl ⊢
  rw [if_neg c3]
  by_cases c4 : 240 ≤ B0 ∧ B0 ≤ 244
  · rw [if_pos c4] at h hl ⊢
    rw [if_pos c4]
    generalize (if B0 = 240 then 144 else 128) = lo at *
    generalize (if B0 = 244 then 143 else 191) = hi at *
    split at h
    · contradiction
    · rw [if_neg (by omega), if_neg (by assumption)]
  rw [if_neg c4] at h
  contradiction
theorem isText_app : ∀ (n : Nat) (a c : List UInt8), a.length ≤ n → isText a = true → isText c = true → isText (a ++ c) = true := by
  intro n
  induction n with
  | zero => intro a c ha _ hc; obtain rfl := List.eq_nil_of_length_eq_zero (by omega : a.length = 0); exact hc
  | succ n ih =>
    intro a c hl ha hc
    cases a with
    | nil => exact hc
    | cons b t =>
      rw [isText_cons] at ha
      simp only [Bool.and_eq_true, Bool.not_eq_true', beq_eq_false_iff_ne] at ha
      obtain ⟨⟨⟨h1, h2⟩, h3⟩, h4⟩ := ha
      have hs := signL_app (b :: t) c h1
      have hle := (signL_le (b :: t)).1
      rw [List.cons_append] at hs
      rw [List.cons_append, isText_cons, hs, ← List.cons_append, List.drop_append_of_le_length hle]
      rw [ih _ c (by simp at hl ⊢; omega) h4 hc]
      simp [h1, h2, h3]
theorem vtN_right : ∀ (n : Nat) (l out : List UInt8), isText out = true → out.length ≤ 20 → isText (vtN n l out) = true ∧ (vtN n l out).length ≤ 20 := by
  intro n
  induction n with
  | zero => intro l out h1 h2; exact ⟨h1, h2⟩
  | succ n ih =>
    intro l out h1 h2
    simp only [vtN]
    split
    · exact ⟨h1, h2⟩
    · rename_i hn
      refine ih _ _ ?_ ?_
      · split
        · rename_i ht; exact isText_app _ _ _ (Nat.le_refl _) h1 ht
        · exact h1
      · split
        · have hl : 0 < l.length := List.length_pos_iff.2 (fun h => hn (.inl h))
          have hs := stepN_le hl
          have : ¬ 17 ≤ out.length := fun h => hn (.inr h)
          simp only [List.length_append, List.length_take]; omega
        · exact h2
theorem valText_right (l : List UInt8) : (valText l).length ≤ 20 ∧ isText (valText l) = true := (vtN_right _ l [] rfl (by simp)).symm
theorem valText_rt (l : List UInt8) : rightText (valText l) = true := by
  obtain ⟨h1, h2⟩ := valText_right l
  rw [isText_eq _ _ (Nat.le_refl _)] at h2
  unfold rightText
  simp only [Bool.and_eq_true] at h2 ⊢
  exact ⟨by simp; omega, h2⟩
theorem right1_num {n : Int} (h1 : -1000000000000000 ≤ n) (h2 : n ≤ 1000000000000000) : right1 (.mk 1 n [] []) = true := by simp [right1, V.k, bare, V.n, V.s, V.l, h1, h2]
theorem right1_ref {k n : Int} (hk : k = 3 ∨ k = 4) (h : 1 ≤ n ∧ n ≤ 100000) : right1 (.mk k n [] []) = true := by
  rcases hk with rfl | rfl <;> simp [right1, V.k, bare, V.n, V.s, V.l, rightID, h.1, h.2]
theorem valOne_right (k n : Int) (s : List UInt8) (hn : I64 n) : right1 (valOne k n s) = true := by
  have h1 := pickI_lt (n := 1000000000000001) (by decide) hn
  have h2 := pickI_lt (n := 100000) (by decide) hn
  unfold valOne
  split
  · split
    · exact right1_num (by omega) (by omega)
    · exact right1_num (by omega) (by omega)
  · split
    · simp [right1, V.k, V.n, V.s, V.l, valText_rt]
    · split
      · rename_i h
        exact right1_ref h ⟨by omega, by omega⟩
      · rfl
theorem valOne_k (k n : Int) (s : List UInt8) (h : 1 ≤ k ∧ k ≤ 4) : (valOne k n s).k = k := by
  unfold valOne
  split
  · rename_i h; simp [V.k, h]
  · split
    · rename_i h; simp [V.k, h]
    · rw [if_pos (by omega)]; rfl
theorem valType_right (a b : Int) (ha : I64 a) (hb : I64 b) : rightType (valType a b) = true := by
  have h1 := pickI_lt (n := 6) (by decide) ha
  have h2 := pickI_lt (n := 4) (by decide) hb
  unfold valType rightType
  split
  · rw [if_neg (by simp only; omega)]; exact decide_eq_true ⟨by show (1 : Int) ≤ 1 + pickI a 6; omega, by show 1 + pickI a 6 ≤ 4; omega, rfl⟩
  · rw [if_pos rfl]; exact decide_eq_true ⟨by show (1 : Int) ≤ 1 + pickI b 4; omega, by show 1 + pickI b 4 ≤ 4; omega⟩
theorem ty_cases {t : Ty} (h : rightType t = true) : (t.k = 5 ∧ 1 ≤ t.o ∧ t.o ≤ 4) ∨ (t.k ≠ 5 ∧ 1 ≤ t.k ∧ t.k ≤ 4 ∧ t.o = 0) := by
  unfold rightType at h
  split at h
  · simp at h; exact .inl ⟨by assumption, h⟩
  · simp at h; exact .inr ⟨by assumption, h⟩
theorem zero_fits {t : Ty} (ht : rightType t = true) : fitsV (zeroV t) t = true := by
  unfold fitsV zeroV
  rcases ty_cases ht with ⟨h5, h1, h4⟩ | ⟨h5, h1, h4, ho⟩
  · simp [ht, h5, rightV, ofKind, V.k, V.n, V.s, V.l]
  · rw [ht]
    have : t.k = 1 ∨ t.k = 2 ∨ t.k = 3 ∨ t.k = 4 := by omega
    rcases this with h | h | h | h <;> simp [h, rightV, right1, bare, ofKind, V.k, V.n, V.s, V.l, V.nil, rightText] <;> first | rfl | exact ⟨rfl, rfl⟩
end Go.Proofs.YthjphllpkcnehaaGreatDoor
end

section
/- The code of some functions, as Sh has it (printed by a program). No statement of the program is proved here. -/
namespace Go.Sh.Cd2
open Go Go.Sh
set_option maxRecDepth 100000
-- morainelaw03.ValTells
abbrev c_morainelaw03_ValTells_0 : SCode := .reg [([8, 9, 13], [⟨(some 8), none, none, .box (.tmp 0)⟩, ⟨(some 9), none, none, .box (.tmp 1)⟩, ⟨(some 13), none, none, .box (.tmp 5)⟩, ⟨(some 16), none, none, .mov (.val (.bool false))⟩])] [0, 1, 5, 16]
abbrev c_morainelaw03_ValTells_1 : SCode := .reg [([2128, 2129, 2130, 2131], [⟨(some 32), none, none, .call 15 0 []⟩, ⟨(some 17), none, none, .mov (.tmp 32)⟩])] [32]
abbrev c_morainelaw03_ValTells_2 : SCode := .reg [([2136, 2137, 2138, 2139, 18], [⟨(some 33), none, none, .ld true 4 (.tmp 8)⟩, ⟨(some 34), none, none, .call 16 0 [(.tmp 33)]⟩, ⟨(some 18), none, none, .new [(.int .i64 0), (.int .i64 0), (.string ⟨#[]⟩), (.slice none 0 0)]⟩, ⟨none, none, none, .st 4 (.tmp 18) (.tmp 34)⟩])] [8, 33, 34]
abbrev c_morainelaw03_ValTells_3 : SCode := .reg [([2144, 2145, 2146, 2147, 19], [⟨(some 35), none, none, .ld true 4 (.tmp 9)⟩, ⟨(some 36), none, none, .call 16 0 [(.tmp 35)]⟩, ⟨(some 19), none, none, .new [(.int .i64 0), (.int .i64 0), (.string ⟨#[]⟩), (.slice none 0 0)]⟩, ⟨none, none, none, .st 4 (.tmp 19) (.tmp 36)⟩])] [9, 35, 36]
abbrev c_morainelaw03_ValTells_4 : SCode := .reg [([2188, 2189, 2190, 2191], [⟨(some 37), none, none, .ld true 4 (.tmp 18)⟩, ⟨(some 38), none, none, .ld true 4 (.tmp 19)⟩, ⟨(some 39), none, none, .ld true 4 (.tmp 18)⟩, ⟨(some 40), none, none, .mov (.tmp 2)⟩, ⟨(some 41), none, none, .mov (.tmp 3)⟩, ⟨(some 42), none, none, .mov (.tmp 4)⟩, ⟨(some 43), none, none, .mov (.tmp 4)⟩, ⟨(some 44), none, none, .slen (.tmp 43)⟩, ⟨(some 45), none, none, .imm false (.tmp 44) (.val (.int .i64 70))⟩, ⟨(some 46), none, none, .ssub (.tmp 42) none (some (.tmp 45))⟩, ⟨(some 47), none, none, .call 25 0 [(.tmp 39), (.tmp 40), (.tmp 41), (.tmp 46)]⟩, ⟨(some 48), none, none, .bsl 4 [(.tmp 37), (.tmp 38), (.tmp 47)]⟩, ⟨(some 49), none, none, .len (.tmp 48)⟩, ⟨(some 50), none, none, .mov (.val (.int .i64 0))⟩])] [2, 3, 4, 37, 38, 39, 40, 41, 42, 43, 44, 45, 46, 47]
abbrev c_morainelaw03_ValTells_5 : SCode := .reg [([], [⟨(some 51), none, none, .bin .lss 3 (.tmp 50) (.tmp 49)⟩])] []
abbrev c_morainelaw03_ValTells_6 : SCode := .reg [([21], [⟨(some 52), none, none, .idxA 4 (.tmp 48) (.tmp 50)⟩, ⟨(some 53), none, none, .ld true 4 (.tmp 52)⟩, ⟨(some 21), none, none, .new [(.int .i64 0), (.int .i64 0), (.string ⟨#[]⟩), (.slice none 0 0)]⟩, ⟨none, none, none, .st 4 (.tmp 21) (.tmp 53)⟩])] [51, 52, 53]
abbrev c_morainelaw03_ValTells_7 : SCode := .reg [([2224, 2225, 2226, 2227], [⟨(some 55), none, none, .ld true 4 (.tmp 21)⟩, ⟨(some 56), none, none, .call 20 0 [(.tmp 55)]⟩, ⟨(some 54), none, none, .mov (.tmp 56)⟩, ⟨(some 57), none, none, .ext (.tmp 54) 0⟩, ⟨(some 58), none, none, .ext (.tmp 54) 1⟩, ⟨(some 22), none, none, .mov (.tmp 57)⟩, ⟨(some 23), none, none, .mov (.tmp 58)⟩])] [54, 55, 56, 57, 58]
abbrev c_morainelaw03_ValTells_8 : SCode := .reg [([2244, 2245, 2246, 2247], [⟨(some 60), none, none, .ld true 4 (.tmp 21)⟩, ⟨(some 61), none, none, .call 26 0 [(.tmp 60)]⟩, ⟨(some 59), none, none, .mov (.tmp 61)⟩, ⟨(some 62), none, none, .ext (.tmp 59) 0⟩, ⟨(some 63), none, none, .ext (.tmp 59) 1⟩, ⟨(some 24), none, none, .mov (.tmp 62)⟩, ⟨(some 25), none, none, .mov (.tmp 63)⟩])] [59, 60, 61, 62, 63]
abbrev c_morainelaw03_ValTells_9 : SCode := .reg [([2264, 2265, 2266, 2267], [⟨(some 65), none, none, .ld true 4 (.tmp 21)⟩, ⟨(some 66), none, none, .call 17 0 [(.tmp 65)]⟩, ⟨(some 64), none, none, .mov (.tmp 66)⟩, ⟨(some 67), none, none, .ext (.tmp 64) 0⟩, ⟨(some 68), none, none, .ext (.tmp 64) 1⟩, ⟨(some 26), none, none, .mov (.tmp 67)⟩, ⟨(some 27), none, none, .mov (.tmp 68)⟩])] [64, 65, 66, 67, 68]
abbrev c_morainelaw03_ValTells_10 : SCode := .reg [([2284, 2285, 2286, 2287], [⟨(some 70), none, none, .ld true 4 (.tmp 21)⟩, ⟨(some 71), none, none, .call 27 0 [(.tmp 70)]⟩, ⟨(some 69), none, none, .mov (.tmp 71)⟩, ⟨(some 72), none, none, .ext (.tmp 69) 0⟩, ⟨(some 73), none, none, .ext (.tmp 69) 1⟩, ⟨(some 28), none, none, .mov (.tmp 72)⟩, ⟨(some 29), none, none, .mov (.tmp 73)⟩])] [69, 70, 71, 72, 73]
abbrev c_morainelaw03_ValTells_11 : SCode := .reg [([2300, 2301, 2302, 2303, 2308, 2309, 2310, 2311, 2404, 2405, 2406, 2407, 2412, 2413, 2414, 2415, 2416, 2417, 2418, 2419, 2436, 2437, 2438, 2439, 2444, 2445, 2446, 2447, 2448, 2449, 2450, 2451, 2472, 2473, 2474, 2475, 2484, 2485, 2486, 2487, 2508, 2509, 2510, 2511, 2520, 2521, 2522, 2523, 2544, 2545, 2546, 2547, 2556, 2557, 2558, 2559], [⟨(some 74), none, none, .ld true 4 (.tmp 21)⟩, ⟨(some 75), none, none, .call 28 0 [(.tmp 74)]⟩, ⟨(some 76), none, none, .ld true 4 (.tmp 21)⟩, ⟨(some 77), none, none, .call 29 0 [(.tmp 76)]⟩, ⟨(some 78), none, none, .bin .neq 4 (.tmp 75) (.tmp 77)⟩, ⟨(some 79), none, none, .mov (.tmp 78)⟩, ⟨(some 80), (some (79, false)), none, .mov (.tmp 22)⟩, ⟨(some 81), (some (79, false)), none, .mov (.tmp 24)⟩, ⟨(some 82), (some (79, false)), none, .bin .neq 9 (.tmp 80) (.tmp 81)⟩, ⟨(some 83), none, none, .pick (.tmp 79) (.val (.bool true)) (.tmp 82)⟩, ⟨(some 84), none, none, .mov (.tmp 83)⟩, ⟨(some 85), (some (84, false)), none, .mov (.tmp 23)⟩, ⟨(some 86), (some (84, false)), none, .mov (.tmp 25)⟩, ⟨(some 87), (some (84, false)), none, .bin .neq 28 (.tmp 85) (.tmp 86)⟩, ⟨(some 88), none, none, .pick (.tmp 84) (.val (.bool true)) (.tmp 87)⟩, ⟨(some 89), none, none, .mov (.tmp 88)⟩, ⟨(some 90), (some (89, false)), none, .mov (.tmp 26)⟩, ⟨(some 91), (some (89, false)), none, .mov (.tmp 28)⟩, ⟨(some 92), (some (89, false)), none, .bin .neq 9 (.tmp 90) (.tmp 91)⟩, ⟨(some 93), none, none, .pick (.tmp 89) (.val (.bool true)) (.tmp 92)⟩, ⟨(some 94), none, none, .mov (.tmp 93)⟩, ⟨(some 95), (some (94, false)), none, .mov (.tmp 27)⟩, ⟨(some 96), (some (94, false)), none, .mov (.tmp 29)⟩, ⟨(some 97), (some (94, false)), none, .bin .neq 28 (.tmp 95) (.tmp 96)⟩, ⟨(some 98), none, none, .pick (.tmp 94) (.val (.bool true)) (.tmp 97)⟩, ⟨(some 99), none, none, .mov (.tmp 98)⟩, ⟨(some 100), (some (99, false)), none, .ld true 4 (.tmp 21)⟩, ⟨(some 101), (some (99, false)), none, .call 23 0 [(.tmp 100)]⟩, ⟨(some 102), (some (99, false)), none, .ld true 4 (.tmp 21)⟩, ⟨(some 103), (some (99, false)), none, .call 30 0 [(.tmp 102)]⟩, ⟨(some 104), (some (99, false)), none, .call 22 0 [(.tmp 101), (.tmp 103)]⟩, ⟨(some 105), (some (99, false)), none, .un .not (.tmp 104)⟩, ⟨(some 106), none, none, .pick (.tmp 99) (.val (.bool true)) (.tmp 105)⟩, ⟨(some 107), none, none, .mov (.tmp 106)⟩, ⟨(some 108), (some (107, false)), none, .ld true 4 (.tmp 21)⟩, ⟨(some 109), (some (107, false)), none, .call 24 0 [(.tmp 108)]⟩, ⟨(some 110), (some (107, false)), none, .ld true 4 (.tmp 21)⟩, ⟨(some 111), (some (107, false)), none, .call 31 0 [(.tmp 110)]⟩, ⟨(some 112), (some (107, false)), none, .call 22 0 [(.tmp 109), (.tmp 111)]⟩, ⟨(some 113), (some (107, false)), none, .un .not (.tmp 112)⟩, ⟨(some 114), none, none, .pick (.tmp 107) (.val (.bool true)) (.tmp 113)⟩, ⟨(some 115), none, none, .mov (.tmp 114)⟩, ⟨(some 116), (some (115, false)), none, .ld true 4 (.tmp 21)⟩, ⟨(some 117), (some (115, false)), none, .ld true 4 (.tmp 19)⟩, ⟨(some 118), (some (115, false)), none, .call 32 0 [(.tmp 116), (.tmp 117)]⟩, ⟨(some 119), (some (115, false)), none, .ld true 4 (.tmp 21)⟩, ⟨(some 120), (some (115, false)), none, .ld true 4 (.tmp 19)⟩, ⟨(some 121), (some (115, false)), none, .call 33 0 [(.tmp 119), (.tmp 120)]⟩, ⟨(some 122), (some (115, false)), none, .bin .neq 3 (.tmp 118) (.tmp 121)⟩, ⟨(some 123), none, none, .pick (.tmp 115) (.val (.bool true)) (.tmp 122)⟩, ⟨(some 124), none, none, .mov (.tmp 123)⟩, ⟨(some 125), (some (124, false)), none, .ld true 4 (.tmp 19)⟩, ⟨(some 126), (some (124, false)), none, .ld true 4 (.tmp 21)⟩, ⟨(some 127), (some (124, false)), none, .call 32 0 [(.tmp 125), (.tmp 126)]⟩, ⟨(some 128), (some (124, false)), none, .ld true 4 (.tmp 19)⟩, ⟨(some 129), (some (124, false)), none, .ld true 4 (.tmp 21)⟩, ⟨(some 130), (some (124, false)), none, .call 33 0 [(.tmp 128), (.tmp 129)]⟩, ⟨(some 131), (some (124, false)), none, .bin .neq 3 (.tmp 127) (.tmp 130)⟩, ⟨(some 132), none, none, .pick (.tmp 124) (.val (.bool true)) (.tmp 131)⟩, ⟨(some 133), none, none, .mov (.tmp 132)⟩, ⟨(some 134), (some (133, false)), none, .ld true 4 (.tmp 21)⟩, ⟨(some 135), (some (133, false)), none, .ld true 4 (.tmp 18)⟩, ⟨(some 136), (some (133, false)), none, .call 34 0 [(.tmp 134), (.tmp 135)]⟩, ⟨(some 137), (some (133, false)), none, .ld true 4 (.tmp 21)⟩, ⟨(some 138), (some (133, false)), none, .ld true 4 (.tmp 18)⟩, ⟨(some 139), (some (133, false)), none, .call 19 0 [(.tmp 137), (.tmp 138)]⟩, ⟨(some 140), (some (133, false)), none, .bin .neq 4 (.tmp 136) (.tmp 139)⟩, ⟨(some 141), none, none, .pick (.tmp 133) (.val (.bool true)) (.tmp 140)⟩])] [22, 23, 24, 25, 26, 27, 28, 29, 74, 75, 76, 77, 78, 79, 80, 81, 82, 83, 84, 85, 86, 87, 88, 89, 90, 91, 92, 93, 94, 95, 96, 97, 98, 99, 100, 101, 102, 103, 104, 105, 106, 107, 108, 109, 110, 111, 112, 113, 114, 115, 116, 117, 118, 119, 120, 121, 122, 123, 124, 125, 126, 127, 128, 129, 130, 131, 132, 133, 134, 135, 136, 137, 138, 139, 140]
abbrev c_morainelaw03_ValTells_12 : SCode := .reg [([], [⟨(some 16), none, none, .mov (.val (.bool false))⟩])] [6, 7, 13, 17, 18, 19, 21, 48, 49, 50, 141]
abbrev c_morainelaw03_ValTells_13 : SCode := .reg [([2580, 2581, 2582, 2583], [⟨(some 142), none, none, .ld true 2 (.tmp 13)⟩, ⟨(some 143), none, none, .mov (.tmp 6)⟩, ⟨(some 144), none, none, .mov (.tmp 7)⟩, ⟨(some 145), none, none, .call 35 0 [(.tmp 143), (.tmp 144)]⟩, ⟨(some 146), none, none, .fldA 0 (.tmp 21)⟩, ⟨(some 147), none, none, .ld false 1 (.tmp 146)⟩, ⟨(some 148), none, none, .build [(.int .i64 0), (.int .i64 0)] [(0, 1, (.tmp 147))]⟩, ⟨(some 149), none, none, .bsl 2 [(.tmp 142), (.tmp 145), (.tmp 148)]⟩, ⟨(some 150), none, none, .len (.tmp 149)⟩, ⟨(some 151), none, none, .mov (.val (.int .i64 0))⟩])] [16, 141, 142, 143, 144, 145, 146, 147, 148]
abbrev c_morainelaw03_ValTells_14 : SCode := .reg [([], [⟨(some 152), none, none, .bin .lss 3 (.tmp 151) (.tmp 150)⟩])] []
abbrev c_morainelaw03_ValTells_15 : SCode := .reg [([31], [⟨(some 153), none, none, .idxA 2 (.tmp 149) (.tmp 151)⟩, ⟨(some 154), none, none, .ld true 2 (.tmp 153)⟩, ⟨(some 31), none, none, .new [(.int .i64 0), (.int .i64 0)]⟩, ⟨none, none, none, .st 2 (.tmp 31) (.tmp 154)⟩])] [152, 153, 154]
abbrev c_morainelaw03_ValTells_16 : SCode := .reg [([2628, 2629, 2630, 2631, 2640, 2641, 2642, 2643, 2656, 2657, 2658, 2659, 2664, 2665, 2666, 2667, 2668, 2669, 2670, 2671], [⟨(some 155), none, none, .ld true 4 (.tmp 21)⟩, ⟨(some 156), none, none, .ld true 2 (.tmp 31)⟩, ⟨(some 157), none, none, .call 36 0 [(.tmp 155), (.tmp 156)]⟩, ⟨(some 158), none, none, .ld true 4 (.tmp 21)⟩, ⟨(some 159), none, none, .ld true 2 (.tmp 31)⟩, ⟨(some 160), none, none, .call 37 0 [(.tmp 158), (.tmp 159)]⟩, ⟨(some 161), none, none, .bin .neq 4 (.tmp 157) (.tmp 160)⟩, ⟨(some 162), none, none, .mov (.tmp 161)⟩, ⟨(some 163), (some (162, false)), none, .ld true 2 (.tmp 31)⟩, ⟨(some 164), (some (162, false)), none, .call 38 0 [(.tmp 163)]⟩, ⟨(some 165), (some (162, false)), none, .ld true 2 (.tmp 31)⟩, ⟨(some 166), (some (162, false)), none, .call 39 0 [(.tmp 165)]⟩, ⟨(some 167), (some (162, false)), none, .call 19 0 [(.tmp 164), (.tmp 166)]⟩, ⟨(some 168), (some (162, false)), none, .un .not (.tmp 167)⟩, ⟨(some 169), none, none, .pick (.tmp 162) (.val (.bool true)) (.tmp 168)⟩])] [31, 155, 156, 157, 158, 159, 160, 161, 162, 163, 164, 165, 166, 167, 168]
abbrev c_morainelaw03_ValTells_17 : SCode := .reg [([], [⟨(some 16), none, none, .mov (.val (.bool false))⟩])] [6, 7, 13, 17, 18, 19, 21, 48, 49, 50, 149, 150, 151, 169]
abbrev c_morainelaw03_ValTells_18 : SCode := .reg [([], [⟨(some 170), none, none, .bin .add 3 (.tmp 151) (.val (.int .i64 1))⟩, ⟨(some 151), none, none, .mov (.tmp 170)⟩])] [16, 169, 170]
abbrev c_morainelaw03_ValTells_19 : SCode := (.seq c_morainelaw03_ValTells_14 (.seq (.cond (.tmp 152) .skip (.exit 2)) (.seq (.block 3 (.seq c_morainelaw03_ValTells_15 (.seq c_morainelaw03_ValTells_16 (.cond (.tmp 169) (.seq c_morainelaw03_ValTells_17 .ret) .skip)))) c_morainelaw03_ValTells_18)))
abbrev c_morainelaw03_ValTells_20 : SCode := .reg [([], [⟨(some 171), none, none, .bin .add 3 (.tmp 50) (.val (.int .i64 1))⟩, ⟨(some 50), none, none, .mov (.tmp 171)⟩])] [21, 149, 150, 151, 171]
abbrev c_morainelaw03_ValTells_21 : SCode := (.seq c_morainelaw03_ValTells_5 (.seq (.cond (.tmp 51) .skip (.exit 0)) (.seq (.block 1 (.seq c_morainelaw03_ValTells_6 (.seq c_morainelaw03_ValTells_7 (.seq c_morainelaw03_ValTells_8 (.seq c_morainelaw03_ValTells_9 (.seq c_morainelaw03_ValTells_10 (.seq (.seq c_morainelaw03_ValTells_11 (.cond (.tmp 141) (.seq c_morainelaw03_ValTells_12 .ret) .skip)) (.seq c_morainelaw03_ValTells_13 (.block 2 (.loop c_morainelaw03_ValTells_19)))))))))) c_morainelaw03_ValTells_20)))
abbrev c_morainelaw03_ValTells_22 : SCode := .reg [([], [⟨(some 172), none, none, .mov (.tmp 17)⟩, ⟨(some 16), none, none, .mov (.tmp 172)⟩])] [6, 7, 13, 17, 18, 19, 48, 49, 50, 172]
abbrev F_morainelaw03_ValTells : SFunc := ⟨173, (.seq c_morainelaw03_ValTells_0 (.seq c_morainelaw03_ValTells_1 (.seq c_morainelaw03_ValTells_2 (.seq c_morainelaw03_ValTells_3 (.seq (.seq c_morainelaw03_ValTells_4 (.block 0 (.loop c_morainelaw03_ValTells_21))) (.seq c_morainelaw03_ValTells_22 .ret)))))), [.tmp 16], false⟩
theorem tf_morainelaw03_ValTells : transFunc Go.Proofs.Tryz.prog 7 (hintT [(32, 0), (34, 0), (36, 0), (47, 0), (56, 0), (61, 0), (66, 0), (71, 0), (75, 0), (77, 0), (101, 0), (103, 0), (104, 0), (109, 0), (111, 0), (112, 0), (118, 0), (121, 0), (127, 0), (130, 0), (136, 0), (139, 0), (145, 0), (157, 0), (160, 0), (164, 0), (166, 0), (167, 0)]) (fpT []) (killT [(0, [0, 1, 5, 16]), (1, [32]), (2, [8, 33, 34]), (3, [9, 35, 36]), (4, [2, 3, 4, 37, 38, 39, 40, 41, 42, 43, 44, 45, 46, 47]), (6, [51, 52, 53]), (7, [54, 55, 56, 57, 58]), (8, [59, 60, 61, 62, 63]), (9, [64, 65, 66, 67, 68]), (10, [69, 70, 71, 72, 73]), (11, [22, 23, 24, 25, 26, 27, 28, 29, 74, 75, 76, 77, 78, 79, 80, 81, 82, 83, 84, 85, 86, 87, 88, 89, 90, 91, 92, 93, 94, 95, 96, 97, 98, 99, 100, 101, 102, 103, 104, 105, 106, 107, 108, 109, 110, 111, 112, 113, 114, 115, 116, 117, 118, 119, 120, 121, 122, 123, 124, 125, 126, 127, 128, 129, 130, 131, 132, 133, 134, 135, 136, 137, 138, 139, 140]), (12, [6, 7, 13, 17, 18, 19, 21, 48, 49, 50, 141]), (13, [16, 141, 142, 143, 144, 145, 146, 147, 148]), (15, [152, 153, 154]), (16, [31, 155, 156, 157, 158, 159, 160, 161, 162, 163, 164, 165, 166, 167, 168]), (17, [6, 7, 13, 17, 18, 19, 21, 48, 49, 50, 149, 150, 151, 169]), (18, [16, 169, 170]), (19, [21, 149, 150, 151, 171]), (20, [6, 7, 13, 17, 18, 19, 48, 49, 50, 172])]) false = some F_morainelaw03_ValTells := by kernel_rfl
-- val.Text
abbrev c_val_Text_0 : SCode := .reg [([1], [⟨(some 1), none, none, .box (.tmp 0)⟩, ⟨(some 2), none, none, .mov (.val (.string ⟨#[]⟩))⟩, ⟨(some 3), none, none, .mov (.val (.int .i64 0))⟩])] [0, 2, 3]
abbrev c_val_Text_1 : SCode := .reg [([2020, 2021, 2022, 2023], [⟨(some 4), none, none, .ld true 4 (.tmp 1)⟩, ⟨(some 5), none, none, .call 28 0 [(.tmp 4)]⟩, ⟨(some 6), none, none, .un .not (.tmp 5)⟩])] [4, 5]
abbrev c_val_Text_2 : SCode := .reg [([], [⟨(some 2), none, none, .mov (.val (.string ⟨#[]⟩))⟩, ⟨(some 3), none, none, .mov (.val (.int .i64 30))⟩])] [1, 6]
abbrev c_val_Text_3 : SCode := .reg [([2032, 2033, 2034, 2035], [⟨(some 7), none, none, .ld true 4 (.tmp 1)⟩, ⟨(some 8), none, none, .call 54 0 [(.tmp 7)]⟩, ⟨(some 2), none, none, .mov (.tmp 8)⟩, ⟨(some 3), none, none, .mov (.val (.int .i64 0))⟩])] [1, 6, 7, 8]
abbrev F_val_Text : SFunc := ⟨9, (.seq c_val_Text_0 (.seq (.seq c_val_Text_1 (.cond (.tmp 6) (.seq c_val_Text_2 .ret) .skip)) (.seq c_val_Text_3 .ret))), [.tmp 2, .tmp 3], false⟩
theorem tf_val_Text : transFunc Go.Proofs.Tryz.prog 17 (hintT [(5, 0), (8, 0)]) (fpT []) (killT [(0, [0, 2, 3]), (1, [4, 5]), (2, [1, 6]), (3, [1, 6, 7, 8])]) false = some F_val_Text := by kernel_rfl
-- morainelaw03.nums
abbrev c_morainelaw03_nums_0 : SCode := .reg [([], [⟨(some 4), none, none, .mov (.val (.bool false))⟩])] [4]
abbrev c_morainelaw03_nums_1 : SCode := .reg [([], [⟨(some 6), none, none, .mov (.tmp 0)⟩, ⟨(some 7), none, none, .len (.tmp 6)⟩, ⟨(some 8), none, none, .mov (.tmp 1)⟩, ⟨(some 9), none, none, .len (.tmp 8)⟩, ⟨(some 10), none, none, .bin .neq 3 (.tmp 7) (.tmp 9)⟩])] [6, 7, 8, 9]
abbrev c_morainelaw03_nums_2 : SCode := .reg [([], [⟨(some 4), none, none, .mov (.val (.bool false))⟩])] [0, 1, 10]
abbrev c_morainelaw03_nums_3 : SCode := .reg [([], [⟨(some 5), none, none, .mov (.val (.int .i64 0))⟩])] [4, 10]
abbrev c_morainelaw03_nums_4 : SCode := .reg [([], [⟨(some 11), none, none, .mov (.tmp 5)⟩, ⟨(some 12), none, none, .mov (.tmp 0)⟩, ⟨(some 13), none, none, .len (.tmp 12)⟩, ⟨(some 14), none, none, .bin .lss 3 (.tmp 11) (.tmp 13)⟩])] [11, 12, 13]
abbrev c_morainelaw03_nums_5 : SCode := .reg [([], [⟨(some 17), none, none, .mov (.tmp 0)⟩, ⟨(some 18), none, none, .mov (.tmp 5)⟩, ⟨(some 19), none, none, .idxA 1 (.tmp 17) (.tmp 18)⟩, ⟨(some 20), none, none, .ld false 1 (.tmp 19)⟩, ⟨(some 21), none, none, .mov (.tmp 1)⟩, ⟨(some 22), none, none, .mov (.tmp 5)⟩, ⟨(some 23), none, none, .idxA 1 (.tmp 21) (.tmp 22)⟩, ⟨(some 24), none, none, .ld false 1 (.tmp 23)⟩, ⟨(some 25), none, none, .bin .neq 3 (.tmp 20) (.tmp 24)⟩])] [14, 17, 18, 19, 20, 21, 22, 23, 24]
abbrev c_morainelaw03_nums_6 : SCode := .reg [([], [⟨(some 4), none, none, .mov (.val (.bool false))⟩])] [0, 1, 5, 25]
abbrev c_morainelaw03_nums_7 : SCode := .reg [([], [⟨(some 15), none, none, .mov (.tmp 5)⟩, ⟨(some 16), none, none, .bin .add 3 (.tmp 15) (.val (.int .i64 1))⟩, ⟨(some 5), none, none, .mov (.tmp 16)⟩])] [4, 15, 16, 25]
abbrev c_morainelaw03_nums_8 : SCode := (.seq (.seq c_morainelaw03_nums_4 (.cond (.tmp 14) .skip (.exit 0))) (.seq (.block 1 (.seq c_morainelaw03_nums_5 (.cond (.tmp 25) (.seq c_morainelaw03_nums_6 .ret) .skip))) c_morainelaw03_nums_7))
abbrev c_morainelaw03_nums_9 : SCode := .reg [([], [⟨(some 4), none, none, .mov (.val (.bool true))⟩])] [0, 1, 5]
abbrev F_morainelaw03_nums : SFunc := ⟨26, (.seq c_morainelaw03_nums_0 (.seq (.seq c_morainelaw03_nums_1 (.cond (.tmp 10) (.seq c_morainelaw03_nums_2 .ret) .skip)) (.seq (.seq c_morainelaw03_nums_3 (.block 0 (.loop c_morainelaw03_nums_8))) (.seq c_morainelaw03_nums_9 .ret)))), [.tmp 4], false⟩
theorem tf_morainelaw03_nums : transFunc Go.Proofs.Tryz.prog 22 (hintT []) (fpT []) (killT [(0, [4]), (1, [6, 7, 8, 9]), (2, [0, 1, 10]), (3, [4, 10]), (4, [11, 12, 13]), (6, [14, 17, 18, 19, 20, 21, 22, 23, 24]), (7, [0, 1, 5, 25]), (5, [4, 15, 16, 25]), (8, [0, 1, 5])]) false = some F_morainelaw03_nums := by kernel_rfl
-- val.Refs
abbrev c_val_Refs_0 : SCode := .reg [([1], [⟨(some 1), none, none, .box (.tmp 0)⟩, ⟨(some 2), none, none, .mov (.val (.slice none 0 0))⟩])] [0, 2]
abbrev c_val_Refs_1 : SCode := .reg [([2016, 2017, 2018, 2019], [⟨(some 3), none, none, .ld true 4 (.tmp 1)⟩, ⟨(some 4), none, none, .call 60 0 [(.tmp 3), (.val (.int .i64 3))]⟩, ⟨(some 2), none, none, .mov (.tmp 4)⟩])] [1, 3, 4]
abbrev F_val_Refs : SFunc := ⟨5, (.seq c_val_Refs_0 (.seq c_val_Refs_1 .ret)), [.tmp 2], false⟩
theorem tf_val_Refs : transFunc Go.Proofs.Tryz.prog 23 (hintT [(4, 0)]) (fpT []) (killT [(0, [0, 2]), (1, [1, 3, 4])]) false = some F_val_Refs := by kernel_rfl
-- val.Weaks
abbrev c_val_Weaks_0 : SCode := .reg [([1], [⟨(some 1), none, none, .box (.tmp 0)⟩, ⟨(some 2), none, none, .mov (.val (.slice none 0 0))⟩])] [0, 2]
abbrev c_val_Weaks_1 : SCode := .reg [([2016, 2017, 2018, 2019], [⟨(some 3), none, none, .ld true 4 (.tmp 1)⟩, ⟨(some 4), none, none, .call 60 0 [(.tmp 3), (.val (.int .i64 4))]⟩, ⟨(some 2), none, none, .mov (.tmp 4)⟩])] [1, 3, 4]
abbrev F_val_Weaks : SFunc := ⟨5, (.seq c_val_Weaks_0 (.seq c_val_Weaks_1 .ret)), [.tmp 2], false⟩
theorem tf_val_Weaks : transFunc Go.Proofs.Tryz.prog 24 (hintT [(4, 0)]) (fpT []) (killT [(0, [0, 2]), (1, [1, 3, 4])]) false = some F_val_Weaks := by kernel_rfl
-- moraineref03.Encode
abbrev c_moraineref03_Encode_0 : SCode := .reg [([1], [⟨(some 1), none, none, .box (.tmp 0)⟩, ⟨(some 2), none, none, .mov (.val (.string ⟨#[]⟩))⟩, ⟨(some 3), none, none, .mov (.val (.int .i64 0))⟩])] [0, 2, 3]
abbrev c_moraineref03_Encode_1 : SCode := .reg [([2024, 2025, 2026, 2027], [⟨(some 5), none, none, .ld true 4 (.tmp 1)⟩, ⟨(some 6), none, none, .call 29 0 [(.tmp 5)]⟩, ⟨(some 4), none, none, .mov (.tmp 6)⟩])] [5, 6]
abbrev c_moraineref03_Encode_2 : SCode := .reg [([], [⟨(some 7), none, none, .mov (.tmp 4)⟩, ⟨(some 8), none, none, .un .not (.tmp 7)⟩])] [4, 7]
abbrev c_moraineref03_Encode_3 : SCode := .reg [([], [⟨(some 2), none, none, .mov (.val (.string ⟨#[]⟩))⟩, ⟨(some 3), none, none, .mov (.val (.int .i64 30))⟩])] [1, 8]
abbrev c_moraineref03_Encode_4 : SCode := .reg [([2040, 2041, 2042, 2043], [⟨(some 9), none, none, .ld true 4 (.tmp 1)⟩, ⟨(some 10), none, none, .call 61 0 [(.tmp 9)]⟩, ⟨(some 2), none, none, .mov (.tmp 10)⟩, ⟨(some 3), none, none, .mov (.val (.int .i64 0))⟩])] [1, 8, 9, 10]
abbrev F_moraineref03_Encode : SFunc := ⟨11, (.seq c_moraineref03_Encode_0 (.seq c_moraineref03_Encode_1 (.seq (.seq c_moraineref03_Encode_2 (.cond (.tmp 8) (.seq c_moraineref03_Encode_3 .ret) .skip)) (.seq c_moraineref03_Encode_4 .ret)))), [.tmp 2, .tmp 3], false⟩
theorem tf_moraineref03_Encode : transFunc Go.Proofs.Tryz.prog 26 (hintT [(6, 0), (10, 0)]) (fpT []) (killT [(0, [0, 2, 3]), (1, [5, 6]), (2, [4, 7]), (3, [1, 8]), (4, [1, 8, 9, 10])]) false = some F_moraineref03_Encode := by kernel_rfl
-- moraineref03.Text
abbrev c_moraineref03_Text_0 : SCode := .reg [([1], [⟨(some 1), none, none, .box (.tmp 0)⟩, ⟨(some 2), none, none, .mov (.val (.string ⟨#[]⟩))⟩, ⟨(some 3), none, none, .mov (.val (.int .i64 0))⟩])] [0, 2, 3]
abbrev c_moraineref03_Text_1 : SCode := .reg [([2024, 2025, 2026, 2027], [⟨(some 5), none, none, .ld true 4 (.tmp 1)⟩, ⟨(some 6), none, none, .call 29 0 [(.tmp 5)]⟩, ⟨(some 4), none, none, .mov (.tmp 6)⟩])] [5, 6]
abbrev c_moraineref03_Text_2 : SCode := .reg [([], [⟨(some 7), none, none, .mov (.tmp 4)⟩, ⟨(some 8), none, none, .un .not (.tmp 7)⟩])] [4, 7]
abbrev c_moraineref03_Text_3 : SCode := .reg [([], [⟨(some 2), none, none, .mov (.val (.string ⟨#[]⟩))⟩, ⟨(some 3), none, none, .mov (.val (.int .i64 30))⟩])] [1, 8]
abbrev c_moraineref03_Text_4 : SCode := .reg [([2040, 2041, 2042, 2043], [⟨(some 9), none, none, .ld true 4 (.tmp 1)⟩, ⟨(some 10), none, none, .call 62 0 [(.tmp 9)]⟩, ⟨(some 2), none, none, .mov (.tmp 10)⟩, ⟨(some 3), none, none, .mov (.val (.int .i64 0))⟩])] [1, 8, 9, 10]
abbrev F_moraineref03_Text : SFunc := ⟨11, (.seq c_moraineref03_Text_0 (.seq c_moraineref03_Text_1 (.seq (.seq c_moraineref03_Text_2 (.cond (.tmp 8) (.seq c_moraineref03_Text_3 .ret) .skip)) (.seq c_moraineref03_Text_4 .ret)))), [.tmp 2, .tmp 3], false⟩
theorem tf_moraineref03_Text : transFunc Go.Proofs.Tryz.prog 27 (hintT [(6, 0), (10, 0)]) (fpT []) (killT [(0, [0, 2, 3]), (1, [5, 6]), (2, [4, 7]), (3, [1, 8]), (4, [1, 8, 9, 10])]) false = some F_moraineref03_Text := by kernel_rfl
-- moraineref03.Right
abbrev c_moraineref03_Right_0 : SCode := .reg [([1], [⟨(some 1), none, none, .box (.tmp 0)⟩, ⟨(some 2), none, none, .mov (.val (.bool false))⟩])] [0, 2]
abbrev c_moraineref03_Right_1 : SCode := .reg [([], [⟨(some 6), none, none, .fldA 0 (.tmp 1)⟩, ⟨(some 7), none, none, .ld false 1 (.tmp 6)⟩])] [6]
abbrev c_moraineref03_Right_2 : SCode := .reg [([], [⟨(some 9), none, none, .bin .eql 3 (.tmp 7) (.val (.int .i64 0))⟩, ⟨(some 8), none, none, .mov (.tmp 9)⟩])] [9]
abbrev c_moraineref03_Right_3 : SCode := .reg [([], [⟨(some 10), none, none, .fldA 1 (.tmp 1)⟩, ⟨(some 11), none, none, .ld false 1 (.tmp 10)⟩, ⟨(some 12), none, none, .bin .eql 3 (.tmp 11) (.val (.int .i64 0))⟩, ⟨(some 13), none, none, .mov (.tmp 12)⟩, ⟨(some 14), (some (13, true)), none, .fldA 2 (.tmp 1)⟩, ⟨(some 15), (some (13, true)), none, .ld false 1 (.tmp 14)⟩, ⟨(some 16), (some (13, true)), none, .bin .eql 9 (.tmp 15) (.val (.string ⟨#[]⟩))⟩, ⟨(some 17), none, none, .pick (.tmp 13) (.tmp 16) (.val (.bool false))⟩, ⟨(some 18), none, none, .mov (.tmp 17)⟩, ⟨(some 19), (some (18, true)), none, .fldA 3 (.tmp 1)⟩, ⟨(some 20), (some (18, true)), none, .ld false 1 (.tmp 19)⟩, ⟨(some 21), (some (18, true)), none, .len (.tmp 20)⟩, ⟨(some 22), (some (18, true)), none, .bin .eql 3 (.tmp 21) (.val (.int .i64 0))⟩, ⟨(some 23), none, none, .pick (.tmp 18) (.tmp 22) (.val (.bool false))⟩, ⟨(some 2), none, none, .mov (.tmp 23)⟩])] [1, 7, 8, 10, 11, 12, 13, 14, 15, 16, 17, 18, 19, 20, 21, 22, 23]
abbrev c_moraineref03_Right_4 : SCode := .reg [([], [⟨(some 25), none, none, .bin .eql 3 (.tmp 7) (.val (.int .i64 1))⟩, ⟨(some 24), none, none, .mov (.tmp 25)⟩])] [8, 25]
abbrev c_moraineref03_Right_5 : SCode := .reg [([], [⟨(some 26), none, none, .fldA 1 (.tmp 1)⟩, ⟨(some 27), none, none, .ld false 1 (.tmp 26)⟩, ⟨(some 28), none, none, .bin .geq 3 (.tmp 27) (.val (.int .i64 (-1000000000000000)))⟩, ⟨(some 29), none, none, .mov (.tmp 28)⟩, ⟨(some 30), (some (29, true)), none, .fldA 1 (.tmp 1)⟩, ⟨(some 31), (some (29, true)), none, .ld false 1 (.tmp 30)⟩, ⟨(some 32), (some (29, true)), none, .bin .leq 3 (.tmp 31) (.val (.int .i64 1000000000000000))⟩, ⟨(some 33), none, none, .pick (.tmp 29) (.tmp 32) (.val (.bool false))⟩, ⟨(some 34), none, none, .mov (.tmp 33)⟩, ⟨(some 35), (some (34, true)), none, .fldA 2 (.tmp 1)⟩, ⟨(some 36), (some (34, true)), none, .ld false 1 (.tmp 35)⟩, ⟨(some 37), (some (34, true)), none, .bin .eql 9 (.tmp 36) (.val (.string ⟨#[]⟩))⟩, ⟨(some 38), none, none, .pick (.tmp 34) (.tmp 37) (.val (.bool false))⟩, ⟨(some 39), none, none, .mov (.tmp 38)⟩, ⟨(some 40), (some (39, true)), none, .fldA 3 (.tmp 1)⟩, ⟨(some 41), (some (39, true)), none, .ld false 1 (.tmp 40)⟩, ⟨(some 42), (some (39, true)), none, .len (.tmp 41)⟩, ⟨(some 43), (some (39, true)), none, .bin .eql 3 (.tmp 42) (.val (.int .i64 0))⟩, ⟨(some 44), none, none, .pick (.tmp 39) (.tmp 43) (.val (.bool false))⟩, ⟨(some 2), none, none, .mov (.tmp 44)⟩])] [1, 7, 24, 26, 27, 28, 29, 30, 31, 32, 33, 34, 35, 36, 37, 38, 39, 40, 41, 42, 43, 44]
abbrev c_moraineref03_Right_6 : SCode := .reg [([], [⟨(some 46), none, none, .bin .eql 3 (.tmp 7) (.val (.int .i64 2))⟩, ⟨(some 45), none, none, .mov (.tmp 46)⟩])] [24, 46]
abbrev c_moraineref03_Right_7 : SCode := .reg [([2196, 2197, 2198, 2199], [⟨(some 47), none, none, .fldA 2 (.tmp 1)⟩, ⟨(some 48), none, none, .ld false 1 (.tmp 47)⟩, ⟨(some 49), none, none, .call 68 0 [(.tmp 48)]⟩, ⟨(some 3), none, none, .mov (.tmp 49)⟩])] [7, 45, 47, 48, 49]
abbrev c_moraineref03_Right_8 : SCode := .reg [([], [⟨(some 50), none, none, .fldA 1 (.tmp 1)⟩, ⟨(some 51), none, none, .ld false 1 (.tmp 50)⟩, ⟨(some 52), none, none, .bin .eql 3 (.tmp 51) (.val (.int .i64 0))⟩, ⟨(some 53), none, none, .mov (.tmp 52)⟩, ⟨(some 54), (some (53, true)), none, .mov (.tmp 3)⟩, ⟨(some 55), none, none, .pick (.tmp 53) (.tmp 54) (.val (.bool false))⟩, ⟨(some 56), none, none, .mov (.tmp 55)⟩, ⟨(some 57), (some (56, true)), none, .fldA 2 (.tmp 1)⟩, ⟨(some 58), (some (56, true)), none, .ld false 1 (.tmp 57)⟩, ⟨(some 59), (some (56, true)), none, .slen (.tmp 58)⟩, ⟨(some 60), (some (56, true)), none, .bin .leq 3 (.tmp 59) (.val (.int .i64 60))⟩, ⟨(some 61), none, none, .pick (.tmp 56) (.tmp 60) (.val (.bool false))⟩, ⟨(some 62), none, none, .mov (.tmp 61)⟩, ⟨(some 63), (some (62, true)), none, .fldA 3 (.tmp 1)⟩, ⟨(some 64), (some (62, true)), none, .ld false 1 (.tmp 63)⟩, ⟨(some 65), (some (62, true)), none, .len (.tmp 64)⟩, ⟨(some 66), (some (62, true)), none, .bin .eql 3 (.tmp 65) (.val (.int .i64 0))⟩, ⟨(some 67), none, none, .pick (.tmp 62) (.tmp 66) (.val (.bool false))⟩, ⟨(some 2), none, none, .mov (.tmp 67)⟩])] [1, 3, 50, 51, 52, 53, 54, 55, 56, 57, 58, 59, 60, 61, 62, 63, 64, 65, 66, 67]
abbrev c_moraineref03_Right_9 : SCode := .reg [([], [⟨(some 69), none, none, .bin .eql 3 (.tmp 7) (.val (.int .i64 3))⟩, ⟨(some 68), none, none, .mov (.tmp 69)⟩])] [45, 69]
abbrev c_moraineref03_Right_10 : SCode := .reg [([], [⟨(some 70), none, none, .bin .eql 3 (.tmp 7) (.val (.int .i64 4))⟩, ⟨(some 68), none, none, .mov (.tmp 70)⟩])] [70]
abbrev c_moraineref03_Right_11 : SCode := .reg [([], [⟨(some 71), none, none, .fldA 1 (.tmp 1)⟩, ⟨(some 72), none, none, .ld false 1 (.tmp 71)⟩, ⟨(some 73), none, none, .bin .geq 3 (.tmp 72) (.val (.int .i64 1))⟩, ⟨(some 74), none, none, .mov (.tmp 73)⟩, ⟨(some 75), (some (74, true)), none, .fldA 1 (.tmp 1)⟩, ⟨(some 76), (some (74, true)), none, .ld false 1 (.tmp 75)⟩, ⟨(some 77), (some (74, true)), none, .bin .leq 3 (.tmp 76) (.val (.int .i64 100000))⟩, ⟨(some 78), none, none, .pick (.tmp 74) (.tmp 77) (.val (.bool false))⟩, ⟨(some 79), none, none, .mov (.tmp 78)⟩, ⟨(some 80), (some (79, false)), none, .fldA 1 (.tmp 1)⟩, ⟨(some 81), (some (79, false)), none, .ld false 1 (.tmp 80)⟩, ⟨(some 82), (some (79, false)), none, .bin .geq 3 (.tmp 81) (.val (.int .i64 (-20)))⟩, ⟨(some 83), (some (79, false)), none, .mov (.tmp 82)⟩, ⟨(some 84), (some (83, true)), none, .fldA 1 (.tmp 1)⟩, ⟨(some 85), (some (83, true)), none, .ld false 1 (.tmp 84)⟩, ⟨(some 86), (some (83, true)), none, .bin .leq 3 (.tmp 85) (.val (.int .i64 (-1)))⟩, ⟨(some 87), (some (79, false)), none, .pick (.tmp 83) (.tmp 86) (.val (.bool false))⟩, ⟨(some 88), none, none, .pick (.tmp 79) (.val (.bool true)) (.tmp 87)⟩, ⟨(some 89), none, none, .mov (.tmp 88)⟩, ⟨(some 90), (some (89, true)), none, .fldA 2 (.tmp 1)⟩, ⟨(some 91), (some (89, true)), none, .ld false 1 (.tmp 90)⟩, ⟨(some 92), (some (89, true)), none, .bin .eql 9 (.tmp 91) (.val (.string ⟨#[]⟩))⟩, ⟨(some 93), none, none, .pick (.tmp 89) (.tmp 92) (.val (.bool false))⟩, ⟨(some 94), none, none, .mov (.tmp 93)⟩, ⟨(some 95), (some (94, true)), none, .fldA 3 (.tmp 1)⟩, ⟨(some 96), (some (94, true)), none, .ld false 1 (.tmp 95)⟩, ⟨(some 97), (some (94, true)), none, .len (.tmp 96)⟩, ⟨(some 98), (some (94, true)), none, .bin .eql 3 (.tmp 97) (.val (.int .i64 0))⟩, ⟨(some 99), none, none, .pick (.tmp 94) (.tmp 98) (.val (.bool false))⟩, ⟨(some 2), none, none, .mov (.tmp 99)⟩])] [1, 7, 68, 71, 72, 73, 74, 75, 76, 77, 78, 79, 80, 81, 82, 83, 84, 85, 86, 87, 88, 89, 90, 91, 92, 93, 94, 95, 96, 97, 98, 99]
abbrev c_moraineref03_Right_12 : SCode := .reg [([], [⟨(some 101), none, none, .bin .eql 3 (.tmp 7) (.val (.int .i64 5))⟩, ⟨(some 100), none, none, .mov (.tmp 101)⟩])] [7, 68, 101]
abbrev c_moraineref03_Right_13 : SCode := .reg [([], [⟨(some 102), none, none, .fldA 1 (.tmp 1)⟩, ⟨(some 103), none, none, .ld false 1 (.tmp 102)⟩, ⟨(some 104), none, none, .bin .neq 3 (.tmp 103) (.val (.int .i64 0))⟩, ⟨(some 105), none, none, .mov (.tmp 104)⟩, ⟨(some 106), (some (105, false)), none, .fldA 2 (.tmp 1)⟩, ⟨(some 107), (some (105, false)), none, .ld false 1 (.tmp 106)⟩, ⟨(some 108), (some (105, false)), none, .bin .neq 9 (.tmp 107) (.val (.string ⟨#[]⟩))⟩, ⟨(some 109), none, none, .pick (.tmp 105) (.val (.bool true)) (.tmp 108)⟩, ⟨(some 110), none, none, .mov (.tmp 109)⟩, ⟨(some 111), (some (110, false)), none, .fldA 3 (.tmp 1)⟩, ⟨(some 112), (some (110, false)), none, .ld false 1 (.tmp 111)⟩, ⟨(some 113), (some (110, false)), none, .len (.tmp 112)⟩, ⟨(some 114), (some (110, false)), none, .bin .gtr 3 (.tmp 113) (.val (.int .i64 12))⟩, ⟨(some 115), none, none, .pick (.tmp 110) (.val (.bool true)) (.tmp 114)⟩])] [100, 102, 103, 104, 105, 106, 107, 108, 109, 110, 111, 112, 113, 114]
abbrev c_moraineref03_Right_14 : SCode := .reg [([], [⟨(some 2), none, none, .mov (.val (.bool false))⟩])] [1, 115]
abbrev c_moraineref03_Right_15 : SCode := .reg [([], [⟨(some 4), none, none, .mov (.val (.int .i64 0))⟩])] [2, 115]
abbrev c_moraineref03_Right_16 : SCode := .reg [([], [⟨(some 116), none, none, .mov (.tmp 4)⟩, ⟨(some 117), none, none, .fldA 3 (.tmp 1)⟩, ⟨(some 118), none, none, .ld false 1 (.tmp 117)⟩, ⟨(some 119), none, none, .len (.tmp 118)⟩, ⟨(some 120), none, none, .bin .lss 3 (.tmp 116) (.tmp 119)⟩])] [116, 117, 118, 119]
abbrev c_moraineref03_Right_17 : SCode := .reg [([], [⟨(some 123), none, none, .fldA 3 (.tmp 1)⟩, ⟨(some 124), none, none, .ld false 1 (.tmp 123)⟩, ⟨(some 125), none, none, .mov (.tmp 4)⟩, ⟨(some 126), none, none, .idxA 4 (.tmp 124) (.tmp 125)⟩, ⟨(some 127), none, none, .fldA 0 (.tmp 126)⟩, ⟨(some 128), none, none, .ld false 1 (.tmp 127)⟩, ⟨(some 129), none, none, .bin .eql 3 (.tmp 128) (.val (.int .i64 5))⟩])] [120, 123, 124, 125, 126, 127, 128]
abbrev c_moraineref03_Right_18 : SCode := .reg [([], [⟨(some 2), none, none, .mov (.val (.bool false))⟩])] [1, 4, 129]
abbrev c_moraineref03_Right_19 : SCode := .reg [([2540, 2541, 2542, 2543], [⟨(some 130), none, none, .fldA 3 (.tmp 1)⟩, ⟨(some 131), none, none, .ld false 1 (.tmp 130)⟩, ⟨(some 132), none, none, .mov (.tmp 4)⟩, ⟨(some 133), none, none, .idxA 4 (.tmp 131) (.tmp 132)⟩, ⟨(some 134), none, none, .ld true 4 (.tmp 133)⟩, ⟨(some 135), none, none, .call 29 0 [(.tmp 134)]⟩, ⟨(some 5), none, none, .mov (.tmp 135)⟩])] [2, 129, 130, 131, 132, 133, 134, 135]
abbrev c_moraineref03_Right_20 : SCode := .reg [([], [⟨(some 136), none, none, .mov (.tmp 5)⟩, ⟨(some 137), none, none, .un .not (.tmp 136)⟩])] [5, 136]
abbrev c_moraineref03_Right_21 : SCode := .reg [([], [⟨(some 2), none, none, .mov (.val (.bool false))⟩])] [1, 4, 137]
abbrev c_moraineref03_Right_22 : SCode := .reg [([], [⟨(some 121), none, none, .mov (.tmp 4)⟩, ⟨(some 122), none, none, .bin .add 3 (.tmp 121) (.val (.int .i64 1))⟩, ⟨(some 4), none, none, .mov (.tmp 122)⟩])] [2, 121, 122, 137]
abbrev c_moraineref03_Right_23 : SCode := (.seq (.seq c_moraineref03_Right_16 (.cond (.tmp 120) .skip (.exit 1))) (.seq (.block 2 (.seq (.seq c_moraineref03_Right_17 (.cond (.tmp 129) (.seq c_moraineref03_Right_18 .ret) .skip)) (.seq c_moraineref03_Right_19 (.seq c_moraineref03_Right_20 (.cond (.tmp 137) (.seq c_moraineref03_Right_21 .ret) .skip))))) c_moraineref03_Right_22))
abbrev c_moraineref03_Right_24 : SCode := .reg [([], [⟨(some 2), none, none, .mov (.val (.bool true))⟩])] [1, 4]
abbrev c_moraineref03_Right_25 : SCode := .reg [([], [⟨(some 2), none, none, .mov (.val (.bool false))⟩])] [1, 100]
abbrev F_moraineref03_Right : SFunc := ⟨138, (.seq c_moraineref03_Right_0 (.seq (.seq c_moraineref03_Right_1 (.block 0 (.seq c_moraineref03_Right_2 (.cond (.tmp 8) (.seq c_moraineref03_Right_3 .ret) (.seq c_moraineref03_Right_4 (.cond (.tmp 24) (.seq c_moraineref03_Right_5 .ret) (.seq c_moraineref03_Right_6 (.cond (.tmp 45) (.seq c_moraineref03_Right_7 (.seq c_moraineref03_Right_8 .ret)) (.seq (.seq c_moraineref03_Right_9 (.cond (.tmp 68) .skip c_moraineref03_Right_10)) (.cond (.tmp 68) (.seq c_moraineref03_Right_11 .ret) (.seq c_moraineref03_Right_12 (.cond (.tmp 100) (.seq (.seq c_moraineref03_Right_13 (.cond (.tmp 115) (.seq c_moraineref03_Right_14 .ret) .skip)) (.seq (.seq c_moraineref03_Right_15 (.block 1 (.loop c_moraineref03_Right_23))) (.seq c_moraineref03_Right_24 .ret))) .skip)))))))))))) (.seq c_moraineref03_Right_25 .ret))), [.tmp 2], false⟩
theorem tf_moraineref03_Right : transFunc Go.Proofs.Tryz.prog 29 (hintT [(49, 0), (135, 0)]) (fpT []) (killT [(0, [0, 2]), (1, [6]), (2, [9]), (3, [1, 7, 8, 10, 11, 12, 13, 14, 15, 16, 17, 18, 19, 20, 21, 22, 23]), (4, [8, 25]), (5, [1, 7, 24, 26, 27, 28, 29, 30, 31, 32, 33, 34, 35, 36, 37, 38, 39, 40, 41, 42, 43, 44]), (6, [24, 46]), (7, [7, 45, 47, 48, 49]), (8, [1, 3, 50, 51, 52, 53, 54, 55, 56, 57, 58, 59, 60, 61, 62, 63, 64, 65, 66, 67]), (9, [45, 69]), (10, [70]), (11, [1, 7, 68, 71, 72, 73, 74, 75, 76, 77, 78, 79, 80, 81, 82, 83, 84, 85, 86, 87, 88, 89, 90, 91, 92, 93, 94, 95, 96, 97, 98, 99]), (12, [7, 68, 101]), (13, [100, 102, 103, 104, 105, 106, 107, 108, 109, 110, 111, 112, 113, 114]), (14, [1, 115]), (15, [2, 115]), (16, [116, 117, 118, 119]), (18, [120, 123, 124, 125, 126, 127, 128]), (19, [1, 4, 129]), (20, [2, 129, 130, 131, 132, 133, 134, 135]), (21, [5, 136]), (22, [1, 4, 137]), (17, [2, 121, 122, 137]), (23, [1, 4]), (24, [1, 100])]) false = some F_moraineref03_Right := by kernel_rfl
-- moraineref03.Refs
abbrev c_moraineref03_Refs_0 : SCode := .reg [([1], [⟨(some 1), none, none, .box (.tmp 0)⟩, ⟨(some 2), none, none, .mov (.val (.slice none 0 0))⟩])] [0, 2]
abbrev c_moraineref03_Refs_1 : SCode := .reg [([2016, 2017, 2018, 2019], [⟨(some 3), none, none, .ld true 4 (.tmp 1)⟩, ⟨(some 4), none, none, .call 69 0 [(.tmp 3), (.val (.int .i64 3))]⟩, ⟨(some 2), none, none, .mov (.tmp 4)⟩])] [1, 3, 4]
abbrev F_moraineref03_Refs : SFunc := ⟨5, (.seq c_moraineref03_Refs_0 (.seq c_moraineref03_Refs_1 .ret)), [.tmp 2], false⟩
theorem tf_moraineref03_Refs : transFunc Go.Proofs.Tryz.prog 30 (hintT [(4, 0)]) (fpT []) (killT [(0, [0, 2]), (1, [1, 3, 4])]) false = some F_moraineref03_Refs := by kernel_rfl
-- moraineref03.Weaks
abbrev c_moraineref03_Weaks_0 : SCode := .reg [([1], [⟨(some 1), none, none, .box (.tmp 0)⟩, ⟨(some 2), none, none, .mov (.val (.slice none 0 0))⟩])] [0, 2]
abbrev c_moraineref03_Weaks_1 : SCode := .reg [([2016, 2017, 2018, 2019], [⟨(some 3), none, none, .ld true 4 (.tmp 1)⟩, ⟨(some 4), none, none, .call 69 0 [(.tmp 3), (.val (.int .i64 4))]⟩, ⟨(some 2), none, none, .mov (.tmp 4)⟩])] [1, 3, 4]
abbrev F_moraineref03_Weaks : SFunc := ⟨5, (.seq c_moraineref03_Weaks_0 (.seq c_moraineref03_Weaks_1 .ret)), [.tmp 2], false⟩
theorem tf_moraineref03_Weaks : transFunc Go.Proofs.Tryz.prog 31 (hintT [(4, 0)]) (fpT []) (killT [(0, [0, 2]), (1, [1, 3, 4])]) false = some F_moraineref03_Weaks := by kernel_rfl
-- moraineref03.Fits
abbrev c_moraineref03_Fits_0 : SCode := .reg [([2, 3], [⟨(some 2), none, none, .box (.tmp 0)⟩, ⟨(some 3), none, none, .box (.tmp 1)⟩, ⟨(some 4), none, none, .mov (.val (.bool false))⟩])] [0, 1, 4]
abbrev c_moraineref03_Fits_1 : SCode := .reg [([2036, 2037, 2038, 2039], [⟨(some 8), none, none, .ld true 4 (.tmp 2)⟩, ⟨(some 9), none, none, .call 29 0 [(.tmp 8)]⟩, ⟨(some 5), none, none, .mov (.tmp 9)⟩])] [8, 9]
abbrev c_moraineref03_Fits_2 : SCode := .reg [([2044, 2045, 2046, 2047], [⟨(some 10), none, none, .ld true 2 (.tmp 3)⟩, ⟨(some 11), none, none, .call 77 0 [(.tmp 10)]⟩, ⟨(some 6), none, none, .mov (.tmp 11)⟩])] [10, 11]
abbrev c_moraineref03_Fits_3 : SCode := .reg [([2088, 2089, 2090, 2091], [⟨(some 12), none, none, .mov (.tmp 5)⟩, ⟨(some 13), none, none, .un .not (.tmp 12)⟩, ⟨(some 14), none, none, .mov (.tmp 13)⟩, ⟨(some 15), (some (14, false)), none, .mov (.tmp 6)⟩, ⟨(some 16), (some (14, false)), none, .un .not (.tmp 15)⟩, ⟨(some 17), none, none, .pick (.tmp 14) (.val (.bool true)) (.tmp 16)⟩, ⟨(some 18), none, none, .mov (.tmp 17)⟩, ⟨(some 19), (some (18, false)), none, .ld true 4 (.tmp 2)⟩, ⟨(some 20), (some (18, false)), none, .fldA 0 (.tmp 3)⟩, ⟨(some 21), (some (18, false)), none, .ld false 1 (.tmp 20)⟩, ⟨(some 22), (some (18, false)), none, .call 78 0 [(.tmp 19), (.tmp 21)]⟩, ⟨(some 23), (some (18, false)), none, .un .not (.tmp 22)⟩, ⟨(some 24), none, none, .pick (.tmp 18) (.val (.bool true)) (.tmp 23)⟩])] [5, 6, 12, 13, 14, 15, 16, 17, 18, 19, 20, 21, 22, 23]
abbrev c_moraineref03_Fits_4 : SCode := .reg [([], [⟨(some 4), none, none, .mov (.val (.bool false))⟩])] [2, 3, 24]
abbrev c_moraineref03_Fits_5 : SCode := .reg [([], [⟨(some 7), none, none, .mov (.val (.int .i64 0))⟩])] [4, 24]
abbrev c_moraineref03_Fits_6 : SCode := .reg [([], [⟨(some 25), none, none, .mov (.tmp 7)⟩, ⟨(some 26), none, none, .fldA 3 (.tmp 2)⟩, ⟨(some 27), none, none, .ld false 1 (.tmp 26)⟩, ⟨(some 28), none, none, .len (.tmp 27)⟩, ⟨(some 29), none, none, .bin .lss 3 (.tmp 25) (.tmp 28)⟩])] [25, 26, 27, 28]
abbrev c_moraineref03_Fits_7 : SCode := .reg [([2156, 2157, 2158, 2159], [⟨(some 32), none, none, .fldA 3 (.tmp 2)⟩, ⟨(some 33), none, none, .ld false 1 (.tmp 32)⟩, ⟨(some 34), none, none, .mov (.tmp 7)⟩, ⟨(some 35), none, none, .idxA 4 (.tmp 33) (.tmp 34)⟩, ⟨(some 36), none, none, .ld true 4 (.tmp 35)⟩, ⟨(some 37), none, none, .fldA 1 (.tmp 3)⟩, ⟨(some 38), none, none, .ld false 1 (.tmp 37)⟩, ⟨(some 39), none, none, .call 78 0 [(.tmp 36), (.tmp 38)]⟩, ⟨(some 40), none, none, .un .not (.tmp 39)⟩])] [29, 32, 33, 34, 35, 36, 37, 38, 39]
abbrev c_moraineref03_Fits_8 : SCode := .reg [([], [⟨(some 4), none, none, .mov (.val (.bool false))⟩])] [2, 3, 7, 40]
abbrev c_moraineref03_Fits_9 : SCode := .reg [([], [⟨(some 30), none, none, .mov (.tmp 7)⟩, ⟨(some 31), none, none, .bin .add 3 (.tmp 30) (.val (.int .i64 1))⟩, ⟨(some 7), none, none, .mov (.tmp 31)⟩])] [4, 30, 31, 40]
abbrev c_moraineref03_Fits_10 : SCode := (.seq (.seq c_moraineref03_Fits_6 (.cond (.tmp 29) .skip (.exit 0))) (.seq (.block 1 (.seq c_moraineref03_Fits_7 (.cond (.tmp 40) (.seq c_moraineref03_Fits_8 .ret) .skip))) c_moraineref03_Fits_9))
abbrev c_moraineref03_Fits_11 : SCode := .reg [([], [⟨(some 4), none, none, .mov (.val (.bool true))⟩])] [2, 3, 7]
abbrev F_moraineref03_Fits : SFunc := ⟨41, (.seq c_moraineref03_Fits_0 (.seq c_moraineref03_Fits_1 (.seq c_moraineref03_Fits_2 (.seq (.seq c_moraineref03_Fits_3 (.cond (.tmp 24) (.seq c_moraineref03_Fits_4 .ret) .skip)) (.seq (.seq c_moraineref03_Fits_5 (.block 0 (.loop c_moraineref03_Fits_10))) (.seq c_moraineref03_Fits_11 .ret)))))), [.tmp 4], false⟩
theorem tf_moraineref03_Fits : transFunc Go.Proofs.Tryz.prog 37 (hintT [(9, 0), (11, 0), (22, 0), (39, 0)]) (fpT []) (killT [(0, [0, 1, 4]), (1, [8, 9]), (2, [10, 11]), (3, [5, 6, 12, 13, 14, 15, 16, 17, 18, 19, 20, 21, 22, 23]), (4, [2, 3, 24]), (5, [4, 24]), (6, [25, 26, 27, 28]), (8, [29, 32, 33, 34, 35, 36, 37, 38, 39]), (9, [2, 3, 7, 40]), (7, [4, 30, 31, 40]), (10, [2, 3, 7])]) false = some F_moraineref03_Fits := by kernel_rfl
-- moraineref03.Zero
abbrev c_moraineref03_Zero_0 : SCode := .reg [([1, 2], [⟨(some 1), none, none, .box (.tmp 0)⟩, ⟨(some 2), none, none, .new [(.int .i64 0), (.int .i64 0), (.string ⟨#[]⟩), (.slice none 0 0)]⟩])] [0]
abbrev c_moraineref03_Zero_1 : SCode := .reg [([2020, 2021, 2022, 2023], [⟨(some 4), none, none, .ld true 2 (.tmp 1)⟩, ⟨(some 5), none, none, .call 77 0 [(.tmp 4)]⟩, ⟨(some 3), none, none, .mov (.tmp 5)⟩])] [4, 5]
abbrev c_moraineref03_Zero_2 : SCode := .reg [([], [⟨(some 6), none, none, .mov (.tmp 3)⟩, ⟨(some 7), none, none, .un .not (.tmp 6)⟩])] [3, 6]
abbrev c_moraineref03_Zero_3 : SCode := .reg [([], [⟨(some 8), none, none, .build [(.int .i64 0), (.int .i64 0), (.string ⟨#[]⟩), (.slice none 0 0)] []⟩, ⟨none, none, none, .st 4 (.tmp 2) (.tmp 8)⟩])] [1, 7, 8]
abbrev c_moraineref03_Zero_4 : SCode := .reg [([], [⟨(some 9), none, none, .fldA 0 (.tmp 1)⟩, ⟨(some 10), none, none, .ld false 1 (.tmp 9)⟩])] [1, 7, 9]
abbrev c_moraineref03_Zero_5 : SCode := .reg [([], [⟨(some 12), none, none, .bin .eql 3 (.tmp 10) (.val (.int .i64 1))⟩, ⟨(some 11), none, none, .mov (.tmp 12)⟩])] [12]
abbrev c_moraineref03_Zero_6 : SCode := .reg [([], [⟨(some 13), none, none, .build [(.int .i64 0), (.int .i64 0), (.string ⟨#[]⟩), (.slice none 0 0)] [(0, 1, (.val (.int .i64 1)))]⟩, ⟨none, none, none, .st 4 (.tmp 2) (.tmp 13)⟩])] [10, 11, 13]
abbrev c_moraineref03_Zero_7 : SCode := .reg [([], [⟨(some 15), none, none, .bin .eql 3 (.tmp 10) (.val (.int .i64 2))⟩, ⟨(some 14), none, none, .mov (.tmp 15)⟩])] [11, 15]
abbrev c_moraineref03_Zero_8 : SCode := .reg [([], [⟨(some 16), none, none, .build [(.int .i64 0), (.int .i64 0), (.string ⟨#[]⟩), (.slice none 0 0)] [(0, 1, (.val (.int .i64 2)))]⟩, ⟨none, none, none, .st 4 (.tmp 2) (.tmp 16)⟩])] [10, 14, 16]
abbrev c_moraineref03_Zero_9 : SCode := .reg [([], [⟨(some 18), none, none, .bin .eql 3 (.tmp 10) (.val (.int .i64 5))⟩, ⟨(some 17), none, none, .mov (.tmp 18)⟩])] [10, 14, 18]
abbrev c_moraineref03_Zero_10 : SCode := .reg [([], [⟨(some 19), none, none, .build [(.int .i64 0), (.int .i64 0), (.string ⟨#[]⟩), (.slice none 0 0)] [(0, 1, (.val (.int .i64 5)))]⟩, ⟨none, none, none, .st 4 (.tmp 2) (.tmp 19)⟩])] [17, 19]
abbrev c_moraineref03_Zero_11 : SCode := .reg [([], [⟨(some 20), none, none, .build [(.int .i64 0), (.int .i64 0), (.string ⟨#[]⟩), (.slice none 0 0)] []⟩, ⟨none, none, none, .st 4 (.tmp 2) (.tmp 20)⟩])] [17, 20]
abbrev F_moraineref03_Zero : SFunc := ⟨21, (.seq c_moraineref03_Zero_0 (.seq c_moraineref03_Zero_1 (.seq (.seq c_moraineref03_Zero_2 (.cond (.tmp 7) (.seq c_moraineref03_Zero_3 .ret) .skip)) (.seq (.seq c_moraineref03_Zero_4 (.block 0 (.seq c_moraineref03_Zero_5 (.cond (.tmp 11) (.seq c_moraineref03_Zero_6 .ret) (.seq c_moraineref03_Zero_7 (.cond (.tmp 14) (.seq c_moraineref03_Zero_8 .ret) (.seq c_moraineref03_Zero_9 (.cond (.tmp 17) (.seq c_moraineref03_Zero_10 .ret) .skip)))))))) (.seq c_moraineref03_Zero_11 .ret))))), [.cell true 4 2], false⟩
theorem tf_moraineref03_Zero : transFunc Go.Proofs.Tryz.prog 39 (hintT [(5, 0)]) (fpT []) (killT [(0, [0]), (1, [4, 5]), (2, [3, 6]), (3, [1, 7, 8]), (4, [1, 7, 9]), (5, [12]), (6, [10, 11, 13]), (7, [11, 15]), (8, [10, 14, 16]), (9, [10, 14, 18]), (10, [17, 19]), (11, [17, 20])]) false = some F_moraineref03_Zero := by kernel_rfl
-- val.written
abbrev c_val_written_0 : SCode := .reg [([1], [⟨(some 1), none, none, .box (.tmp 0)⟩, ⟨(some 2), none, none, .mov (.val (.string ⟨#[]⟩))⟩])] [0, 2]
abbrev c_val_written_1 : SCode := .reg [([], [⟨(some 7), none, none, .fldA 0 (.tmp 1)⟩, ⟨(some 8), none, none, .ld false 1 (.tmp 7)⟩])] [7]
abbrev c_val_written_2 : SCode := .reg [([], [⟨(some 10), none, none, .bin .eql 3 (.tmp 8) (.val (.int .i64 1))⟩, ⟨(some 9), none, none, .mov (.tmp 10)⟩])] [10]
abbrev c_val_written_3 : SCode := .reg [([2052, 2053, 2054, 2055], [⟨(some 11), none, none, .fldA 1 (.tmp 1)⟩, ⟨(some 12), none, none, .ld false 1 (.tmp 11)⟩, ⟨(some 13), none, none, .call 93 0 [(.tmp 12)]⟩, ⟨(some 2), none, none, .mov (.tmp 13)⟩])] [1, 8, 9, 11, 12, 13]
abbrev c_val_written_4 : SCode := .reg [([], [⟨(some 15), none, none, .bin .eql 3 (.tmp 8) (.val (.int .i64 2))⟩, ⟨(some 14), none, none, .mov (.tmp 15)⟩])] [9, 15]
abbrev c_val_written_5 : SCode := .reg [([2072, 2073, 2074, 2075], [⟨(some 16), none, none, .fldA 2 (.tmp 1)⟩, ⟨(some 17), none, none, .ld false 1 (.tmp 16)⟩, ⟨(some 18), none, none, .call 94 0 [(.tmp 17), (.val (.string ⟨#[92]⟩)), (.val (.string ⟨#[92, 92]⟩))]⟩, ⟨(some 3), none, none, .mov (.tmp 18)⟩])] [1, 8, 14, 16, 17, 18]
abbrev c_val_written_6 : SCode := .reg [([2080, 2081, 2082, 2083], [⟨(some 19), none, none, .mov (.tmp 3)⟩, ⟨(some 20), none, none, .call 94 0 [(.tmp 19), (.val (.string ⟨#[34]⟩)), (.val (.string ⟨#[92, 34]⟩))]⟩, ⟨(some 21), none, none, .bin .add 9 (.val (.string ⟨#[34]⟩)) (.tmp 20)⟩, ⟨(some 22), none, none, .bin .add 9 (.tmp 21) (.val (.string ⟨#[34]⟩))⟩, ⟨(some 2), none, none, .mov (.tmp 22)⟩])] [3, 19, 20, 21, 22]
abbrev c_val_written_7 : SCode := .reg [([], [⟨(some 24), none, none, .bin .eql 3 (.tmp 8) (.val (.int .i64 3))⟩, ⟨(some 23), none, none, .mov (.tmp 24)⟩])] [14, 24]
abbrev c_val_written_8 : SCode := .reg [([2108, 2109, 2110, 2111], [⟨(some 25), none, none, .fldA 1 (.tmp 1)⟩, ⟨(some 26), none, none, .ld false 1 (.tmp 25)⟩, ⟨(some 27), none, none, .call 93 0 [(.tmp 26)]⟩, ⟨(some 28), none, none, .bin .add 9 (.val (.string ⟨#[64]⟩)) (.tmp 27)⟩, ⟨(some 2), none, none, .mov (.tmp 28)⟩])] [1, 8, 23, 25, 26, 27, 28]
abbrev c_val_written_9 : SCode := .reg [([], [⟨(some 30), none, none, .bin .eql 3 (.tmp 8) (.val (.int .i64 4))⟩, ⟨(some 29), none, none, .mov (.tmp 30)⟩])] [23, 30]
abbrev c_val_written_10 : SCode := .reg [([2132, 2133, 2134, 2135], [⟨(some 31), none, none, .fldA 1 (.tmp 1)⟩, ⟨(some 32), none, none, .ld false 1 (.tmp 31)⟩, ⟨(some 33), none, none, .call 93 0 [(.tmp 32)]⟩, ⟨(some 34), none, none, .bin .add 9 (.val (.string ⟨#[126]⟩)) (.tmp 33)⟩, ⟨(some 2), none, none, .mov (.tmp 34)⟩])] [1, 8, 29, 31, 32, 33, 34]
abbrev c_val_written_11 : SCode := .reg [([], [⟨(some 36), none, none, .bin .eql 3 (.tmp 8) (.val (.int .i64 5))⟩, ⟨(some 35), none, none, .mov (.tmp 36)⟩])] [8, 29, 36]
abbrev c_val_written_12 : SCode := .reg [([40], [⟨(some 37), none, none, .fldA 3 (.tmp 1)⟩, ⟨(some 38), none, none, .ld false 1 (.tmp 37)⟩, ⟨(some 39), none, none, .len (.tmp 38)⟩, ⟨(some 40), none, none, .mks 16 [(.string ⟨#[]⟩)] (.tmp 39)⟩, ⟨(some 4), none, none, .mov (.tmp 40)⟩])] [35, 37, 38, 39, 40]
abbrev c_val_written_13 : SCode := .reg [([], [⟨(some 41), none, none, .fldA 3 (.tmp 1)⟩, ⟨(some 42), none, none, .ld false 1 (.tmp 41)⟩, ⟨(some 43), none, none, .len (.tmp 42)⟩, ⟨(some 44), none, none, .mov (.val (.int .i64 0))⟩])] [1, 41]
abbrev c_val_written_14 : SCode := .reg [([], [⟨(some 45), none, none, .bin .lss 3 (.tmp 44) (.tmp 43)⟩])] []
abbrev c_val_written_15 : SCode := .reg [([6], [⟨(some 46), none, none, .mov (.tmp 44)⟩, ⟨(some 47), none, none, .idxA 4 (.tmp 42) (.tmp 44)⟩, ⟨(some 48), none, none, .ld true 4 (.tmp 47)⟩, ⟨(some 6), none, none, .new [(.int .i64 0), (.int .i64 0), (.string ⟨#[]⟩), (.slice none 0 0)]⟩, ⟨(some 5), none, none, .mov (.tmp 46)⟩, ⟨none, none, none, .st 4 (.tmp 6) (.tmp 48)⟩])] [45, 46, 47, 48]
abbrev c_val_written_16 : SCode := .reg [([2208, 2209, 2210, 2211], [⟨(some 49), none, none, .mov (.tmp 4)⟩, ⟨(some 50), none, none, .mov (.tmp 5)⟩, ⟨(some 51), none, none, .ld true 4 (.tmp 6)⟩, ⟨(some 52), none, none, .call 54 0 [(.tmp 51)]⟩, ⟨(some 53), none, none, .idxA 1 (.tmp 49) (.tmp 50)⟩, ⟨none, none, none, .st 1 (.tmp 53) (.tmp 52)⟩])] [5, 6, 49, 50, 51, 52, 53]
abbrev c_val_written_17 : SCode := .reg [([], [⟨(some 54), none, none, .bin .add 3 (.tmp 44) (.val (.int .i64 1))⟩, ⟨(some 44), none, none, .mov (.tmp 54)⟩])] [54]
abbrev c_val_written_18 : SCode := (.seq c_val_written_14 (.seq (.cond (.tmp 45) .skip (.exit 1)) (.seq (.block 2 (.seq c_val_written_15 c_val_written_16)) c_val_written_17)))
abbrev c_val_written_19 : SCode := .reg [([2224, 2225, 2226, 2227], [⟨(some 55), none, none, .mov (.tmp 4)⟩, ⟨(some 56), none, none, .call 96 1 [(.tmp 55), (.val (.string ⟨#[32]⟩))]⟩, ⟨(some 57), none, none, .bin .add 9 (.val (.string ⟨#[91]⟩)) (.tmp 56)⟩, ⟨(some 58), none, none, .bin .add 9 (.tmp 57) (.val (.string ⟨#[93]⟩))⟩, ⟨(some 2), none, none, .mov (.tmp 58)⟩])] [4, 42, 43, 44, 55, 56, 57, 58]
abbrev c_val_written_20 : SCode := .reg [([], [⟨(some 2), none, none, .mov (.val (.string ⟨#[45]⟩))⟩])] [1, 35]
abbrev F_val_written : SFunc := ⟨59, (.seq c_val_written_0 (.seq (.seq c_val_written_1 (.block 0 (.seq c_val_written_2 (.cond (.tmp 9) (.seq c_val_written_3 .ret) (.seq c_val_written_4 (.cond (.tmp 14) (.seq c_val_written_5 (.seq c_val_written_6 .ret)) (.seq c_val_written_7 (.cond (.tmp 23) (.seq c_val_written_8 .ret) (.seq c_val_written_9 (.cond (.tmp 29) (.seq c_val_written_10 .ret) (.seq c_val_written_11 (.cond (.tmp 35) (.seq c_val_written_12 (.seq (.seq c_val_written_13 (.block 1 (.loop c_val_written_18))) (.seq c_val_written_19 .ret))) .skip)))))))))))) (.seq c_val_written_20 .ret))), [.tmp 2], false⟩
theorem tf_val_written : transFunc Go.Proofs.Tryz.prog 54 (hintT [(13, 0), (18, 0), (20, 0), (27, 0), (33, 0), (52, 0), (56, 1)]) (fpT []) (killT [(0, [0, 2]), (1, [7]), (2, [10]), (3, [1, 8, 9, 11, 12, 13]), (4, [9, 15]), (5, [1, 8, 14, 16, 17, 18]), (6, [3, 19, 20, 21, 22]), (7, [14, 24]), (8, [1, 8, 23, 25, 26, 27, 28]), (9, [23, 30]), (10, [1, 8, 29, 31, 32, 33, 34]), (11, [8, 29, 36]), (12, [35, 37, 38, 39, 40]), (13, [1, 41]), (15, [45, 46, 47, 48]), (16, [5, 6, 49, 50, 51, 52, 53]), (17, [54]), (18, [4, 42, 43, 44, 55, 56, 57, 58]), (19, [1, 35])]) false = some F_val_written := by kernel_rfl
-- val.numbers
abbrev c_val_numbers_0 : SCode := .reg [([2], [⟨(some 2), none, none, .box (.tmp 0)⟩, ⟨(some 4), none, none, .mov (.val (.slice none 0 0))⟩])] [0, 4]
abbrev c_val_numbers_1 : SCode := .reg [([2036, 2037, 2038, 2039], [⟨(some 8), none, none, .ld true 4 (.tmp 2)⟩, ⟨(some 9), none, none, .call 28 0 [(.tmp 8)]⟩, ⟨(some 10), none, none, .un .not (.tmp 9)⟩])] [8, 9]
abbrev c_val_numbers_2 : SCode := .reg [([], [⟨(some 4), none, none, .mov (.val (.slice none 0 0))⟩])] [1, 2, 10]
abbrev c_val_numbers_3 : SCode := .reg [([], [⟨(some 11), none, none, .fldA 0 (.tmp 2)⟩, ⟨(some 12), none, none, .ld false 1 (.tmp 11)⟩, ⟨(some 13), none, none, .mov (.tmp 1)⟩, ⟨(some 14), none, none, .bin .eql 3 (.tmp 12) (.tmp 13)⟩])] [4, 10, 11, 12, 13]
abbrev c_val_numbers_4 : SCode := .reg [([], [⟨(some 15), none, none, .fldA 1 (.tmp 2)⟩, ⟨(some 16), none, none, .ld false 1 (.tmp 15)⟩, ⟨(some 17), none, none, .bsl 1 [(.tmp 16)]⟩, ⟨(some 4), none, none, .mov (.tmp 17)⟩])] [1, 2, 14, 15, 16, 17]
abbrev c_val_numbers_5 : SCode := .reg [([], [⟨(some 5), none, none, .mov (.val (.slice none 0 0))⟩])] [4, 14]
abbrev c_val_numbers_6 : SCode := .reg [([], [⟨(some 18), none, none, .fldA 3 (.tmp 2)⟩, ⟨(some 19), none, none, .ld false 1 (.tmp 18)⟩, ⟨(some 20), none, none, .len (.tmp 19)⟩, ⟨(some 21), none, none, .mov (.val (.int .i64 0))⟩])] [2, 18]
abbrev c_val_numbers_7 : SCode := .reg [([], [⟨(some 22), none, none, .bin .lss 3 (.tmp 21) (.tmp 20)⟩])] []
abbrev c_val_numbers_8 : SCode := .reg [([7], [⟨(some 23), none, none, .idxA 4 (.tmp 19) (.tmp 21)⟩, ⟨(some 24), none, none, .ld true 4 (.tmp 23)⟩, ⟨(some 7), none, none, .new [(.int .i64 0), (.int .i64 0), (.string ⟨#[]⟩), (.slice none 0 0)]⟩, ⟨none, none, none, .st 4 (.tmp 7) (.tmp 24)⟩])] [22, 23, 24]
abbrev c_val_numbers_9 : SCode := .reg [([], [⟨(some 25), none, none, .fldA 0 (.tmp 7)⟩, ⟨(some 26), none, none, .ld false 1 (.tmp 25)⟩, ⟨(some 27), none, none, .mov (.tmp 1)⟩, ⟨(some 28), none, none, .bin .eql 3 (.tmp 26) (.tmp 27)⟩])] [25, 26, 27]
abbrev c_val_numbers_10 : SCode := .reg [([], [⟨(some 29), none, none, .mov (.tmp 5)⟩, ⟨(some 30), none, none, .fldA 1 (.tmp 7)⟩, ⟨(some 31), none, none, .ld false 1 (.tmp 30)⟩, ⟨(some 32), none, none, .bsl 1 [(.tmp 31)]⟩, ⟨(some 33), none, none, .app 3 1 8 (.tmp 29) (.tmp 32)⟩, ⟨(some 5), none, none, .mov (.tmp 33)⟩]), ([33], [⟨(some 29), none, none, .mov (.tmp 5)⟩, ⟨(some 30), none, none, .fldA 1 (.tmp 7)⟩, ⟨(some 31), none, none, .ld false 1 (.tmp 30)⟩, ⟨(some 32), none, none, .bsl 1 [(.tmp 31)]⟩, ⟨(some 33), none, none, .appN 3 1 8 (.tmp 29) (.tmp 32)⟩, ⟨(some 5), none, none, .mov (.tmp 33)⟩])] [7, 28, 29, 30, 31, 32, 33]
abbrev c_val_numbers_11 : SCode := .reg [([], [⟨(some 34), none, none, .bin .add 3 (.tmp 21) (.val (.int .i64 1))⟩, ⟨(some 21), none, none, .mov (.tmp 34)⟩])] [7, 28, 34]
abbrev c_val_numbers_12 : SCode := (.seq c_val_numbers_7 (.seq (.cond (.tmp 22) .skip (.exit 0)) (.seq (.block 1 (.seq c_val_numbers_8 (.seq c_val_numbers_9 (.cond (.tmp 28) c_val_numbers_10 .skip)))) c_val_numbers_11)))
abbrev c_val_numbers_13 : SCode := .reg [([], [⟨(some 35), none, none, .mov (.tmp 5)⟩, ⟨(some 4), none, none, .mov (.tmp 35)⟩])] [1, 5, 19, 20, 21, 35]
abbrev F_val_numbers : SFunc := ⟨36, (.seq c_val_numbers_0 (.seq (.seq c_val_numbers_1 (.cond (.tmp 10) (.seq c_val_numbers_2 .ret) .skip)) (.seq (.seq c_val_numbers_3 (.cond (.tmp 14) (.seq c_val_numbers_4 .ret) .skip)) (.seq c_val_numbers_5 (.seq (.seq c_val_numbers_6 (.block 0 (.loop c_val_numbers_12))) (.seq c_val_numbers_13 .ret)))))), [.tmp 4], false⟩
theorem tf_val_numbers : transFunc Go.Proofs.Tryz.prog 60 (hintT [(9, 0)]) (fpT []) (killT [(0, [0, 4]), (1, [8, 9]), (2, [1, 2, 10]), (3, [4, 10, 11, 12, 13]), (4, [1, 2, 14, 15, 16, 17]), (5, [4, 14]), (6, [2, 18]), (8, [22, 23, 24]), (9, [25, 26, 27]), (10, [7, 28, 29, 30, 31, 32, 33]), (11, [7, 28, 34]), (12, [1, 5, 19, 20, 21, 35])]) false = some F_val_numbers := by kernel_rfl
-- moraineref03.bytes
abbrev c_moraineref03_bytes_0 : SCode := .reg [([1], [⟨(some 1), none, none, .box (.tmp 0)⟩, ⟨(some 2), none, none, .mov (.val (.string ⟨#[]⟩))⟩])] [0, 2]
abbrev c_moraineref03_bytes_1 : SCode := .reg [([2036, 2037, 2038, 2039], [⟨(some 7), none, none, .fldA 0 (.tmp 1)⟩, ⟨(some 8), none, none, .ld false 1 (.tmp 7)⟩, ⟨(some 9), none, none, .call 115 0 [(.tmp 8)]⟩, ⟨(some 3), none, none, .mov (.tmp 9)⟩])] [7, 8, 9]
abbrev c_moraineref03_bytes_2 : SCode := .reg [([], [⟨(some 10), none, none, .fldA 0 (.tmp 1)⟩, ⟨(some 11), none, none, .ld false 1 (.tmp 10)⟩])] [10]
abbrev c_moraineref03_bytes_3 : SCode := .reg [([], [⟨(some 13), none, none, .bin .eql 3 (.tmp 11) (.val (.int .i64 1))⟩, ⟨(some 12), none, none, .mov (.tmp 13)⟩])] [13]
abbrev c_moraineref03_bytes_4 : SCode := .reg [([], [⟨(some 14), none, none, .bin .eql 3 (.tmp 11) (.val (.int .i64 3))⟩, ⟨(some 12), none, none, .mov (.tmp 14)⟩])] [14]
abbrev c_moraineref03_bytes_5 : SCode := .reg [([], [⟨(some 15), none, none, .bin .eql 3 (.tmp 11) (.val (.int .i64 4))⟩, ⟨(some 12), none, none, .mov (.tmp 15)⟩])] [15]
abbrev c_moraineref03_bytes_6 : SCode := .reg [([2076, 2077, 2078, 2079], [⟨(some 16), none, none, .mov (.tmp 3)⟩, ⟨(some 17), none, none, .fldA 1 (.tmp 1)⟩, ⟨(some 18), none, none, .ld false 1 (.tmp 17)⟩, ⟨(some 19), none, none, .call 115 0 [(.tmp 18)]⟩, ⟨(some 20), none, none, .bin .add 9 (.tmp 16) (.tmp 19)⟩, ⟨(some 3), none, none, .mov (.tmp 20)⟩])] [1, 11, 12, 16, 17, 18, 19, 20]
abbrev c_moraineref03_bytes_7 : SCode := .reg [([], [⟨(some 22), none, none, .bin .eql 3 (.tmp 11) (.val (.int .i64 2))⟩, ⟨(some 21), none, none, .mov (.tmp 22)⟩])] [12, 22]
abbrev c_moraineref03_bytes_8 : SCode := .reg [([2104, 2105, 2106, 2107], [⟨(some 24), none, none, .fldA 2 (.tmp 1)⟩, ⟨(some 25), none, none, .ld false 1 (.tmp 24)⟩, ⟨(some 26), none, none, .call 116 0 [(.tmp 25)]⟩, ⟨(some 23), none, none, .mov (.tmp 26)⟩, ⟨(some 27), none, none, .ext (.tmp 23) 0⟩, ⟨(some 28), none, none, .ext (.tmp 23) 1⟩, ⟨(some 4), none, none, .mov (.tmp 27)⟩, ⟨(some 5), none, none, .mov (.tmp 28)⟩])] [1, 5, 11, 21, 23, 24, 25, 26, 27, 28]
abbrev c_moraineref03_bytes_9 : SCode := .reg [([], [⟨(some 29), none, none, .mov (.tmp 3)⟩, ⟨(some 30), none, none, .mov (.tmp 4)⟩, ⟨(some 31), none, none, .bin .add 9 (.tmp 29) (.tmp 30)⟩, ⟨(some 3), none, none, .mov (.tmp 31)⟩])] [4, 29, 30, 31]
abbrev c_moraineref03_bytes_10 : SCode := .reg [([], [⟨(some 33), none, none, .bin .eql 3 (.tmp 11) (.val (.int .i64 5))⟩, ⟨(some 32), none, none, .mov (.tmp 33)⟩])] [11, 21, 33]
abbrev c_moraineref03_bytes_11 : SCode := .reg [([2152, 2153, 2154, 2155], [⟨(some 34), none, none, .mov (.tmp 3)⟩, ⟨(some 35), none, none, .fldA 3 (.tmp 1)⟩, ⟨(some 36), none, none, .ld false 1 (.tmp 35)⟩, ⟨(some 37), none, none, .len (.tmp 36)⟩, ⟨(some 38), none, none, .call 115 0 [(.tmp 37)]⟩, ⟨(some 39), none, none, .bin .add 9 (.tmp 34) (.tmp 38)⟩, ⟨(some 3), none, none, .mov (.tmp 39)⟩])] [32, 34, 35, 36, 37, 38, 39]
abbrev c_moraineref03_bytes_12 : SCode := .reg [([], [⟨(some 6), none, none, .mov (.val (.int .i64 0))⟩])] []
abbrev c_moraineref03_bytes_13 : SCode := .reg [([], [⟨(some 40), none, none, .mov (.tmp 6)⟩, ⟨(some 41), none, none, .fldA 3 (.tmp 1)⟩, ⟨(some 42), none, none, .ld false 1 (.tmp 41)⟩, ⟨(some 43), none, none, .len (.tmp 42)⟩, ⟨(some 44), none, none, .bin .lss 3 (.tmp 40) (.tmp 43)⟩])] [40, 41, 42, 43]
abbrev c_moraineref03_bytes_14 : SCode := .reg [([2212, 2213, 2214, 2215], [⟨(some 47), none, none, .mov (.tmp 3)⟩, ⟨(some 48), none, none, .fldA 3 (.tmp 1)⟩, ⟨(some 49), none, none, .ld false 1 (.tmp 48)⟩, ⟨(some 50), none, none, .mov (.tmp 6)⟩, ⟨(some 51), none, none, .idxA 4 (.tmp 49) (.tmp 50)⟩, ⟨(some 52), none, none, .ld true 4 (.tmp 51)⟩, ⟨(some 53), none, none, .call 61 0 [(.tmp 52)]⟩, ⟨(some 54), none, none, .bin .add 9 (.tmp 47) (.tmp 53)⟩, ⟨(some 3), none, none, .mov (.tmp 54)⟩])] [44, 47, 48, 49, 50, 51, 52, 53, 54]
abbrev c_moraineref03_bytes_15 : SCode := .reg [([], [⟨(some 45), none, none, .mov (.tmp 6)⟩, ⟨(some 46), none, none, .bin .add 3 (.tmp 45) (.val (.int .i64 1))⟩, ⟨(some 6), none, none, .mov (.tmp 46)⟩])] [45, 46]
abbrev c_moraineref03_bytes_16 : SCode := (.seq (.seq c_moraineref03_bytes_13 (.cond (.tmp 44) .skip (.exit 1))) (.seq (.block 2 c_moraineref03_bytes_14) c_moraineref03_bytes_15))
abbrev c_moraineref03_bytes_17 : SCode := .reg [([], [⟨(some 55), none, none, .mov (.tmp 3)⟩, ⟨(some 2), none, none, .mov (.tmp 55)⟩])] [1, 3, 6, 32, 55]
abbrev F_moraineref03_bytes : SFunc := ⟨56, (.seq c_moraineref03_bytes_0 (.seq c_moraineref03_bytes_1 (.seq (.seq c_moraineref03_bytes_2 (.block 0 (.seq (.seq c_moraineref03_bytes_3 (.cond (.tmp 12) .skip (.seq c_moraineref03_bytes_4 (.cond (.tmp 12) .skip c_moraineref03_bytes_5)))) (.cond (.tmp 12) c_moraineref03_bytes_6 (.seq c_moraineref03_bytes_7 (.cond (.tmp 21) (.seq c_moraineref03_bytes_8 c_moraineref03_bytes_9) (.seq c_moraineref03_bytes_10 (.cond (.tmp 32) (.seq c_moraineref03_bytes_11 (.seq c_moraineref03_bytes_12 (.block 1 (.loop c_moraineref03_bytes_16)))) .skip)))))))) (.seq c_moraineref03_bytes_17 .ret)))), [.tmp 2], false⟩
theorem tf_moraineref03_bytes : transFunc Go.Proofs.Tryz.prog 61 (hintT [(9, 0), (19, 0), (26, 0), (38, 0), (53, 0)]) (fpT []) (killT [(0, [0, 2]), (1, [7, 8, 9]), (2, [10]), (3, [13]), (4, [14]), (5, [15]), (6, [1, 11, 12, 16, 17, 18, 19, 20]), (7, [12, 22]), (8, [1, 5, 11, 21, 23, 24, 25, 26, 27, 28]), (9, [4, 29, 30, 31]), (10, [11, 21, 33]), (11, [32, 34, 35, 36, 37, 38, 39]), (13, [40, 41, 42, 43]), (15, [44, 47, 48, 49, 50, 51, 52, 53, 54]), (14, [45, 46]), (16, [1, 3, 6, 32, 55])]) false = some F_moraineref03_bytes := by kernel_rfl
-- moraineref03.written
abbrev c_moraineref03_written_0 : SCode := .reg [([1], [⟨(some 1), none, none, .box (.tmp 0)⟩, ⟨(some 2), none, none, .mov (.val (.string ⟨#[]⟩))⟩])] [0, 2]
abbrev c_moraineref03_written_1 : SCode := .reg [([], [⟨(some 5), none, none, .fldA 0 (.tmp 1)⟩, ⟨(some 6), none, none, .ld false 1 (.tmp 5)⟩])] [5]
abbrev c_moraineref03_written_2 : SCode := .reg [([], [⟨(some 8), none, none, .bin .eql 3 (.tmp 6) (.val (.int .i64 1))⟩, ⟨(some 7), none, none, .mov (.tmp 8)⟩])] [8]
abbrev c_moraineref03_written_3 : SCode := .reg [([2044, 2045, 2046, 2047], [⟨(some 9), none, none, .fldA 1 (.tmp 1)⟩, ⟨(some 10), none, none, .ld false 1 (.tmp 9)⟩, ⟨(some 11), none, none, .call 117 0 [(.tmp 10)]⟩, ⟨(some 2), none, none, .mov (.tmp 11)⟩])] [1, 6, 7, 9, 10, 11]
abbrev c_moraineref03_written_4 : SCode := .reg [([], [⟨(some 13), none, none, .bin .eql 3 (.tmp 6) (.val (.int .i64 2))⟩, ⟨(some 12), none, none, .mov (.tmp 13)⟩])] [7, 13]
abbrev c_moraineref03_written_5 : SCode := .reg [([2064, 2065, 2066, 2067], [⟨(some 14), none, none, .fldA 2 (.tmp 1)⟩, ⟨(some 15), none, none, .ld false 1 (.tmp 14)⟩, ⟨(some 16), none, none, .call 118 0 [(.tmp 15)]⟩, ⟨(some 2), none, none, .mov (.tmp 16)⟩])] [1, 6, 12, 14, 15, 16]
abbrev c_moraineref03_written_6 : SCode := .reg [([], [⟨(some 18), none, none, .bin .eql 3 (.tmp 6) (.val (.int .i64 3))⟩, ⟨(some 17), none, none, .mov (.tmp 18)⟩])] [12, 18]
abbrev c_moraineref03_written_7 : SCode := .reg [([2084, 2085, 2086, 2087], [⟨(some 19), none, none, .fldA 1 (.tmp 1)⟩, ⟨(some 20), none, none, .ld false 1 (.tmp 19)⟩, ⟨(some 21), none, none, .call 117 0 [(.tmp 20)]⟩, ⟨(some 22), none, none, .bin .add 9 (.val (.string ⟨#[64]⟩)) (.tmp 21)⟩, ⟨(some 2), none, none, .mov (.tmp 22)⟩])] [1, 6, 17, 19, 20, 21, 22]
abbrev c_moraineref03_written_8 : SCode := .reg [([], [⟨(some 24), none, none, .bin .eql 3 (.tmp 6) (.val (.int .i64 4))⟩, ⟨(some 23), none, none, .mov (.tmp 24)⟩])] [17, 24]
abbrev c_moraineref03_written_9 : SCode := .reg [([2108, 2109, 2110, 2111], [⟨(some 25), none, none, .fldA 1 (.tmp 1)⟩, ⟨(some 26), none, none, .ld false 1 (.tmp 25)⟩, ⟨(some 27), none, none, .call 117 0 [(.tmp 26)]⟩, ⟨(some 28), none, none, .bin .add 9 (.val (.string ⟨#[126]⟩)) (.tmp 27)⟩, ⟨(some 2), none, none, .mov (.tmp 28)⟩])] [1, 6, 23, 25, 26, 27, 28]
abbrev c_moraineref03_written_10 : SCode := .reg [([], [⟨(some 30), none, none, .bin .eql 3 (.tmp 6) (.val (.int .i64 5))⟩, ⟨(some 29), none, none, .mov (.tmp 30)⟩])] [6, 23, 30]
abbrev c_moraineref03_written_11 : SCode := .reg [([], [⟨(some 3), none, none, .mov (.val (.string ⟨#[91]⟩))⟩])] [29]
abbrev c_moraineref03_written_12 : SCode := .reg [([], [⟨(some 4), none, none, .mov (.val (.int .i64 0))⟩])] []
abbrev c_moraineref03_written_13 : SCode := .reg [([], [⟨(some 31), none, none, .mov (.tmp 4)⟩, ⟨(some 32), none, none, .fldA 3 (.tmp 1)⟩, ⟨(some 33), none, none, .ld false 1 (.tmp 32)⟩, ⟨(some 34), none, none, .len (.tmp 33)⟩, ⟨(some 35), none, none, .bin .lss 3 (.tmp 31) (.tmp 34)⟩])] [31, 32, 33, 34]
abbrev c_moraineref03_written_14 : SCode := .reg [([], [⟨(some 38), none, none, .mov (.tmp 4)⟩, ⟨(some 39), none, none, .bin .gtr 3 (.tmp 38) (.val (.int .i64 0))⟩])] [35, 38]
abbrev c_moraineref03_written_15 : SCode := .reg [([], [⟨(some 40), none, none, .mov (.tmp 3)⟩, ⟨(some 41), none, none, .bin .add 9 (.tmp 40) (.val (.string ⟨#[32]⟩))⟩, ⟨(some 3), none, none, .mov (.tmp 41)⟩])] [39, 40, 41]
abbrev c_moraineref03_written_16 : SCode := .reg [([2192, 2193, 2194, 2195], [⟨(some 42), none, none, .mov (.tmp 3)⟩, ⟨(some 43), none, none, .fldA 3 (.tmp 1)⟩, ⟨(some 44), none, none, .ld false 1 (.tmp 43)⟩, ⟨(some 45), none, none, .mov (.tmp 4)⟩, ⟨(some 46), none, none, .idxA 4 (.tmp 44) (.tmp 45)⟩, ⟨(some 47), none, none, .ld true 4 (.tmp 46)⟩, ⟨(some 48), none, none, .call 62 0 [(.tmp 47)]⟩, ⟨(some 49), none, none, .bin .add 9 (.tmp 42) (.tmp 48)⟩, ⟨(some 3), none, none, .mov (.tmp 49)⟩])] [39, 42, 43, 44, 45, 46, 47, 48, 49]
abbrev c_moraineref03_written_17 : SCode := .reg [([], [⟨(some 36), none, none, .mov (.tmp 4)⟩, ⟨(some 37), none, none, .bin .add 3 (.tmp 36) (.val (.int .i64 1))⟩, ⟨(some 4), none, none, .mov (.tmp 37)⟩])] [36, 37]
abbrev c_moraineref03_written_18 : SCode := (.seq (.seq c_moraineref03_written_13 (.cond (.tmp 35) .skip (.exit 1))) (.seq (.block 2 (.seq (.seq c_moraineref03_written_14 (.cond (.tmp 39) c_moraineref03_written_15 .skip)) c_moraineref03_written_16)) c_moraineref03_written_17))
abbrev c_moraineref03_written_19 : SCode := .reg [([], [⟨(some 50), none, none, .mov (.tmp 3)⟩, ⟨(some 51), none, none, .bin .add 9 (.tmp 50) (.val (.string ⟨#[93]⟩))⟩, ⟨(some 2), none, none, .mov (.tmp 51)⟩])] [1, 3, 4, 50, 51]
abbrev c_moraineref03_written_20 : SCode := .reg [([], [⟨(some 2), none, none, .mov (.val (.string ⟨#[45]⟩))⟩])] [1, 29]
abbrev F_moraineref03_written : SFunc := ⟨52, (.seq c_moraineref03_written_0 (.seq (.seq c_moraineref03_written_1 (.block 0 (.seq c_moraineref03_written_2 (.cond (.tmp 7) (.seq c_moraineref03_written_3 .ret) (.seq c_moraineref03_written_4 (.cond (.tmp 12) (.seq c_moraineref03_written_5 .ret) (.seq c_moraineref03_written_6 (.cond (.tmp 17) (.seq c_moraineref03_written_7 .ret) (.seq c_moraineref03_written_8 (.cond (.tmp 23) (.seq c_moraineref03_written_9 .ret) (.seq c_moraineref03_written_10 (.cond (.tmp 29) (.seq c_moraineref03_written_11 (.seq (.seq c_moraineref03_written_12 (.block 1 (.loop c_moraineref03_written_18))) (.seq c_moraineref03_written_19 .ret))) .skip)))))))))))) (.seq c_moraineref03_written_20 .ret))), [.tmp 2], false⟩
theorem tf_moraineref03_written : transFunc Go.Proofs.Tryz.prog 62 (hintT [(11, 0), (16, 0), (21, 0), (27, 0), (48, 0)]) (fpT []) (killT [(0, [0, 2]), (1, [5]), (2, [8]), (3, [1, 6, 7, 9, 10, 11]), (4, [7, 13]), (5, [1, 6, 12, 14, 15, 16]), (6, [12, 18]), (7, [1, 6, 17, 19, 20, 21, 22]), (8, [17, 24]), (9, [1, 6, 23, 25, 26, 27, 28]), (10, [6, 23, 30]), (11, [29]), (13, [31, 32, 33, 34]), (15, [35, 38]), (16, [39, 40, 41]), (17, [39, 42, 43, 44, 45, 46, 47, 48, 49]), (14, [36, 37]), (18, [1, 3, 4, 50, 51]), (19, [1, 29])]) false = some F_moraineref03_written := by kernel_rfl
-- moraineref03.numbers
abbrev c_moraineref03_numbers_0 : SCode := .reg [([2], [⟨(some 2), none, none, .box (.tmp 0)⟩, ⟨(some 4), none, none, .mov (.val (.slice none 0 0))⟩])] [0, 4]
abbrev c_moraineref03_numbers_1 : SCode := .reg [([2036, 2037, 2038, 2039], [⟨(some 8), none, none, .ld true 4 (.tmp 2)⟩, ⟨(some 9), none, none, .call 29 0 [(.tmp 8)]⟩, ⟨(some 5), none, none, .mov (.tmp 9)⟩])] [8, 9]
abbrev c_moraineref03_numbers_2 : SCode := .reg [([], [⟨(some 10), none, none, .mov (.tmp 5)⟩, ⟨(some 11), none, none, .un .not (.tmp 10)⟩])] [5, 10]
abbrev c_moraineref03_numbers_3 : SCode := .reg [([], [⟨(some 4), none, none, .mov (.val (.slice none 0 0))⟩])] [1, 2, 11]
abbrev c_moraineref03_numbers_4 : SCode := .reg [([], [⟨(some 12), none, none, .fldA 0 (.tmp 2)⟩, ⟨(some 13), none, none, .ld false 1 (.tmp 12)⟩, ⟨(some 14), none, none, .mov (.tmp 1)⟩, ⟨(some 15), none, none, .bin .eql 3 (.tmp 13) (.tmp 14)⟩])] [4, 11, 12, 13, 14]
abbrev c_moraineref03_numbers_5 : SCode := .reg [([], [⟨(some 16), none, none, .fldA 1 (.tmp 2)⟩, ⟨(some 17), none, none, .ld false 1 (.tmp 16)⟩, ⟨(some 18), none, none, .bsl 1 [(.tmp 17)]⟩, ⟨(some 4), none, none, .mov (.tmp 18)⟩])] [1, 2, 15, 16, 17, 18]
abbrev c_moraineref03_numbers_6 : SCode := .reg [([], [⟨(some 6), none, none, .mov (.val (.slice none 0 0))⟩])] [4, 15]
abbrev c_moraineref03_numbers_7 : SCode := .reg [([], [⟨(some 7), none, none, .mov (.val (.int .i64 0))⟩])] []
abbrev c_moraineref03_numbers_8 : SCode := .reg [([], [⟨(some 19), none, none, .mov (.tmp 7)⟩, ⟨(some 20), none, none, .fldA 3 (.tmp 2)⟩, ⟨(some 21), none, none, .ld false 1 (.tmp 20)⟩, ⟨(some 22), none, none, .len (.tmp 21)⟩, ⟨(some 23), none, none, .bin .lss 3 (.tmp 19) (.tmp 22)⟩])] [19, 20, 21, 22]
abbrev c_moraineref03_numbers_9 : SCode := .reg [([], [⟨(some 26), none, none, .fldA 3 (.tmp 2)⟩, ⟨(some 27), none, none, .ld false 1 (.tmp 26)⟩, ⟨(some 28), none, none, .mov (.tmp 7)⟩, ⟨(some 29), none, none, .idxA 4 (.tmp 27) (.tmp 28)⟩, ⟨(some 30), none, none, .fldA 0 (.tmp 29)⟩, ⟨(some 31), none, none, .ld false 1 (.tmp 30)⟩, ⟨(some 32), none, none, .mov (.tmp 1)⟩, ⟨(some 33), none, none, .bin .eql 3 (.tmp 31) (.tmp 32)⟩])] [23, 26, 27, 28, 29, 30, 31, 32]
abbrev c_moraineref03_numbers_10 : SCode := .reg [([], [⟨(some 34), none, none, .mov (.tmp 6)⟩, ⟨(some 35), none, none, .fldA 3 (.tmp 2)⟩, ⟨(some 36), none, none, .ld false 1 (.tmp 35)⟩, ⟨(some 37), none, none, .mov (.tmp 7)⟩, ⟨(some 38), none, none, .idxA 4 (.tmp 36) (.tmp 37)⟩, ⟨(some 39), none, none, .fldA 1 (.tmp 38)⟩, ⟨(some 40), none, none, .ld false 1 (.tmp 39)⟩, ⟨(some 41), none, none, .bsl 1 [(.tmp 40)]⟩, ⟨(some 42), none, none, .app 3 1 8 (.tmp 34) (.tmp 41)⟩, ⟨(some 6), none, none, .mov (.tmp 42)⟩]), ([42], [⟨(some 34), none, none, .mov (.tmp 6)⟩, ⟨(some 35), none, none, .fldA 3 (.tmp 2)⟩, ⟨(some 36), none, none, .ld false 1 (.tmp 35)⟩, ⟨(some 37), none, none, .mov (.tmp 7)⟩, ⟨(some 38), none, none, .idxA 4 (.tmp 36) (.tmp 37)⟩, ⟨(some 39), none, none, .fldA 1 (.tmp 38)⟩, ⟨(some 40), none, none, .ld false 1 (.tmp 39)⟩, ⟨(some 41), none, none, .bsl 1 [(.tmp 40)]⟩, ⟨(some 42), none, none, .appN 3 1 8 (.tmp 34) (.tmp 41)⟩, ⟨(some 6), none, none, .mov (.tmp 42)⟩])] [33, 34, 35, 36, 37, 38, 39, 40, 41, 42]
abbrev c_moraineref03_numbers_11 : SCode := .reg [([], [⟨(some 24), none, none, .mov (.tmp 7)⟩, ⟨(some 25), none, none, .bin .add 3 (.tmp 24) (.val (.int .i64 1))⟩, ⟨(some 7), none, none, .mov (.tmp 25)⟩])] [24, 25, 33]
abbrev c_moraineref03_numbers_12 : SCode := (.seq (.seq c_moraineref03_numbers_8 (.cond (.tmp 23) .skip (.exit 0))) (.seq (.block 1 (.seq c_moraineref03_numbers_9 (.cond (.tmp 33) c_moraineref03_numbers_10 .skip))) c_moraineref03_numbers_11))
abbrev c_moraineref03_numbers_13 : SCode := .reg [([], [⟨(some 43), none, none, .mov (.tmp 6)⟩, ⟨(some 4), none, none, .mov (.tmp 43)⟩])] [1, 2, 6, 7, 43]
abbrev F_moraineref03_numbers : SFunc := ⟨44, (.seq c_moraineref03_numbers_0 (.seq c_moraineref03_numbers_1 (.seq (.seq c_moraineref03_numbers_2 (.cond (.tmp 11) (.seq c_moraineref03_numbers_3 .ret) .skip)) (.seq (.seq c_moraineref03_numbers_4 (.cond (.tmp 15) (.seq c_moraineref03_numbers_5 .ret) .skip)) (.seq c_moraineref03_numbers_6 (.seq (.seq c_moraineref03_numbers_7 (.block 0 (.loop c_moraineref03_numbers_12))) (.seq c_moraineref03_numbers_13 .ret))))))), [.tmp 4], false⟩
theorem tf_moraineref03_numbers : transFunc Go.Proofs.Tryz.prog 69 (hintT [(9, 0)]) (fpT []) (killT [(0, [0, 4]), (1, [8, 9]), (2, [5, 10]), (3, [1, 2, 11]), (4, [4, 11, 12, 13, 14]), (5, [1, 2, 15, 16, 17, 18]), (6, [4, 15]), (8, [19, 20, 21, 22]), (10, [23, 26, 27, 28, 29, 30, 31, 32]), (11, [33, 34, 35, 36, 37, 38, 39, 40, 41, 42]), (9, [24, 25, 33]), (12, [1, 2, 6, 7, 43])]) false = some F_moraineref03_numbers := by kernel_rfl
-- moraineref03.RightType
abbrev c_moraineref03_RightType_0 : SCode := .reg [([1], [⟨(some 1), none, none, .box (.tmp 0)⟩, ⟨(some 2), none, none, .mov (.val (.bool false))⟩])] [0, 2]
abbrev c_moraineref03_RightType_1 : SCode := .reg [([], [⟨(some 3), none, none, .fldA 0 (.tmp 1)⟩, ⟨(some 4), none, none, .ld false 1 (.tmp 3)⟩, ⟨(some 5), none, none, .bin .eql 3 (.tmp 4) (.val (.int .i64 5))⟩])] [3, 4]
abbrev c_moraineref03_RightType_2 : SCode := .reg [([2032, 2033, 2034, 2035], [⟨(some 6), none, none, .fldA 1 (.tmp 1)⟩, ⟨(some 7), none, none, .ld false 1 (.tmp 6)⟩, ⟨(some 8), none, none, .call 125 0 [(.tmp 7)]⟩, ⟨(some 2), none, none, .mov (.tmp 8)⟩])] [1, 5, 6, 7, 8]
abbrev c_moraineref03_RightType_3 : SCode := .reg [([2044, 2045, 2046, 2047], [⟨(some 9), none, none, .fldA 0 (.tmp 1)⟩, ⟨(some 10), none, none, .ld false 1 (.tmp 9)⟩, ⟨(some 11), none, none, .call 125 0 [(.tmp 10)]⟩, ⟨(some 12), none, none, .mov (.tmp 11)⟩, ⟨(some 13), (some (12, true)), none, .fldA 1 (.tmp 1)⟩, ⟨(some 14), (some (12, true)), none, .ld false 1 (.tmp 13)⟩, ⟨(some 15), (some (12, true)), none, .bin .eql 3 (.tmp 14) (.val (.int .i64 0))⟩, ⟨(some 16), none, none, .pick (.tmp 12) (.tmp 15) (.val (.bool false))⟩, ⟨(some 2), none, none, .mov (.tmp 16)⟩])] [1, 5, 9, 10, 11, 12, 13, 14, 15, 16]
abbrev F_moraineref03_RightType : SFunc := ⟨17, (.seq c_moraineref03_RightType_0 (.seq (.seq c_moraineref03_RightType_1 (.cond (.tmp 5) (.seq c_moraineref03_RightType_2 .ret) .skip)) (.seq c_moraineref03_RightType_3 .ret))), [.tmp 2], false⟩
theorem tf_moraineref03_RightType : transFunc Go.Proofs.Tryz.prog 77 (hintT [(8, 0), (11, 0)]) (fpT []) (killT [(0, [0, 2]), (1, [3, 4]), (2, [1, 5, 6, 7, 8]), (3, [1, 5, 9, 10, 11, 12, 13, 14, 15, 16])]) false = some F_moraineref03_RightType := by kernel_rfl
-- moraineref03.kind
abbrev c_moraineref03_kind_0 : SCode := .reg [([2], [⟨(some 2), none, none, .box (.tmp 0)⟩, ⟨(some 4), none, none, .mov (.val (.bool false))⟩])] [0, 4]
abbrev c_moraineref03_kind_1 : SCode := .reg [([], [⟨(some 5), none, none, .fldA 0 (.tmp 2)⟩, ⟨(some 6), none, none, .ld false 1 (.tmp 5)⟩, ⟨(some 7), none, none, .mov (.tmp 1)⟩, ⟨(some 8), none, none, .bin .eql 3 (.tmp 6) (.tmp 7)⟩, ⟨(some 9), none, none, .mov (.tmp 8)⟩, ⟨(some 10), (some (9, false)), none, .fldA 0 (.tmp 2)⟩, ⟨(some 11), (some (9, false)), none, .ld false 1 (.tmp 10)⟩, ⟨(some 12), (some (9, false)), none, .bin .eql 3 (.tmp 11) (.val (.int .i64 0))⟩, ⟨(some 13), (some (9, false)), none, .mov (.tmp 12)⟩, ⟨(some 14), (some (13, true)), none, .mov (.tmp 1)⟩, ⟨(some 15), (some (13, true)), none, .bin .eql 3 (.tmp 14) (.val (.int .i64 3))⟩, ⟨(some 16), (some (13, true)), none, .mov (.tmp 15)⟩, ⟨(some 17), (some (16, false)), none, .mov (.tmp 1)⟩, ⟨(some 18), (some (16, false)), none, .bin .eql 3 (.tmp 17) (.val (.int .i64 4))⟩, ⟨(some 19), (some (13, true)), none, .pick (.tmp 16) (.val (.bool true)) (.tmp 18)⟩, ⟨(some 20), (some (9, false)), none, .pick (.tmp 13) (.tmp 19) (.val (.bool false))⟩, ⟨(some 21), none, none, .pick (.tmp 9) (.val (.bool true)) (.tmp 20)⟩, ⟨(some 4), none, none, .mov (.tmp 21)⟩])] [1, 2, 5, 6, 7, 8, 9, 10, 11, 12, 13, 14, 15, 16, 17, 18, 19, 20, 21]
abbrev F_moraineref03_kind : SFunc := ⟨22, (.seq c_moraineref03_kind_0 (.seq c_moraineref03_kind_1 .ret)), [.tmp 4], false⟩
theorem tf_moraineref03_kind : transFunc Go.Proofs.Tryz.prog 78 (hintT []) (fpT []) (killT [(0, [0, 4]), (1, [1, 2, 5, 6, 7, 8, 9, 10, 11, 12, 13, 14, 15, 16, 17, 18, 19, 20, 21])]) false = some F_moraineref03_kind := by kernel_rfl
-- moraineref01.Num
abbrev c_moraineref01_Num_0 : SCode := .reg [([], [⟨(some 2), none, none, .mov (.val (.string ⟨#[]⟩))⟩])] [2]
abbrev c_moraineref01_Num_1 : SCode := .reg [([], [⟨(some 9), none, none, .mov (.tmp 0)⟩, ⟨(some 3), none, none, .mov (.tmp 9)⟩])] [9]
abbrev c_moraineref01_Num_2 : SCode := .reg [([], [⟨(some 4), none, none, .mov (.val (.int .i64 0))⟩])] []
abbrev c_moraineref01_Num_3 : SCode := .reg [([], [⟨(some 10), none, none, .mov (.tmp 0)⟩, ⟨(some 11), none, none, .bin .lss 3 (.tmp 10) (.val (.int .i64 0))⟩])] [10]
abbrev c_moraineref01_Num_4 : SCode := .reg [([], [⟨(some 12), none, none, .mov (.tmp 0)⟩, ⟨(some 13), none, none, .bin .sub 3 (.val (.int .i64 (-1))) (.tmp 12)⟩, ⟨(some 3), none, none, .mov (.tmp 13)⟩])] [0, 4, 11, 12, 13]
abbrev c_moraineref01_Num_5 : SCode := .reg [([], [⟨(some 4), none, none, .mov (.val (.int .i64 1))⟩])] []
abbrev c_moraineref01_Num_6 : SCode := .reg [([], [⟨(some 5), none, none, .mov (.val (.slice none 0 0))⟩])] [0, 11]
abbrev c_moraineref01_Num_7 : SCode := .reg [([], [⟨(some 14), none, none, .mov (.tmp 5)⟩, ⟨(some 15), none, none, .mov (.tmp 3)⟩, ⟨(some 16), none, none, .bin .rem 3 (.tmp 15) (.val (.int .i64 64))⟩, ⟨(some 17), none, none, .bin .mul 3 (.val (.int .i64 2)) (.tmp 16)⟩, ⟨(some 18), none, none, .mov (.tmp 4)⟩, ⟨(some 19), none, none, .bin .add 3 (.tmp 17) (.tmp 18)⟩, ⟨(some 20), none, none, .bsl 1 [(.tmp 19)]⟩, ⟨(some 21), none, none, .app 3 1 8 (.tmp 14) (.tmp 20)⟩, ⟨(some 5), none, none, .mov (.tmp 21)⟩]), ([21], [⟨(some 14), none, none, .mov (.tmp 5)⟩, ⟨(some 15), none, none, .mov (.tmp 3)⟩, ⟨(some 16), none, none, .bin .rem 3 (.tmp 15) (.val (.int .i64 64))⟩, ⟨(some 17), none, none, .bin .mul 3 (.val (.int .i64 2)) (.tmp 16)⟩, ⟨(some 18), none, none, .mov (.tmp 4)⟩, ⟨(some 19), none, none, .bin .add 3 (.tmp 17) (.tmp 18)⟩, ⟨(some 20), none, none, .bsl 1 [(.tmp 19)]⟩, ⟨(some 21), none, none, .appN 3 1 8 (.tmp 14) (.tmp 20)⟩, ⟨(some 5), none, none, .mov (.tmp 21)⟩])] [4, 14, 15, 16, 17, 18, 19, 20, 21]
abbrev c_moraineref01_Num_8 : SCode := .reg [([], [⟨(some 22), none, none, .mov (.tmp 3)⟩, ⟨(some 23), none, none, .bin .quo 3 (.tmp 22) (.val (.int .i64 64))⟩, ⟨(some 3), none, none, .mov (.tmp 23)⟩])] [22, 23]
abbrev c_moraineref01_Num_9 : SCode := .reg [([], [⟨(some 24), none, none, .mov (.tmp 3)⟩, ⟨(some 25), none, none, .bin .gtr 3 (.tmp 24) (.val (.int .i64 0))⟩])] [24]
abbrev c_moraineref01_Num_10 : SCode := .reg [([], [⟨(some 28), none, none, .mov (.tmp 5)⟩, ⟨(some 29), none, none, .mov (.tmp 3)⟩, ⟨(some 30), none, none, .bin .rem 3 (.tmp 29) (.val (.int .i64 128))⟩, ⟨(some 31), none, none, .bsl 1 [(.tmp 30)]⟩, ⟨(some 32), none, none, .app 3 1 8 (.tmp 28) (.tmp 31)⟩, ⟨(some 5), none, none, .mov (.tmp 32)⟩]), ([32], [⟨(some 28), none, none, .mov (.tmp 5)⟩, ⟨(some 29), none, none, .mov (.tmp 3)⟩, ⟨(some 30), none, none, .bin .rem 3 (.tmp 29) (.val (.int .i64 128))⟩, ⟨(some 31), none, none, .bsl 1 [(.tmp 30)]⟩, ⟨(some 32), none, none, .appN 3 1 8 (.tmp 28) (.tmp 31)⟩, ⟨(some 5), none, none, .mov (.tmp 32)⟩])] [25, 28, 29, 30, 31, 32]
abbrev c_moraineref01_Num_11 : SCode := .reg [([], [⟨(some 26), none, none, .mov (.tmp 3)⟩, ⟨(some 27), none, none, .bin .quo 3 (.tmp 26) (.val (.int .i64 128))⟩, ⟨(some 3), none, none, .mov (.tmp 27)⟩])] [26, 27]
abbrev c_moraineref01_Num_12 : SCode := (.seq (.seq c_moraineref01_Num_9 (.cond (.tmp 25) .skip (.exit 0))) (.seq (.block 1 c_moraineref01_Num_10) c_moraineref01_Num_11))
abbrev c_moraineref01_Num_13 : SCode := .reg [([], [⟨(some 6), none, none, .mov (.val (.string ⟨#[]⟩))⟩])] [3]
abbrev c_moraineref01_Num_14 : SCode := .reg [([], [⟨(some 7), none, none, .mov (.val (.int .i64 0))⟩])] []
abbrev c_moraineref01_Num_15 : SCode := .reg [([], [⟨(some 33), none, none, .mov (.tmp 7)⟩, ⟨(some 34), none, none, .mov (.tmp 5)⟩, ⟨(some 35), none, none, .len (.tmp 34)⟩, ⟨(some 36), none, none, .bin .lss 3 (.tmp 33) (.tmp 35)⟩])] [33, 34, 35]
abbrev c_moraineref01_Num_16 : SCode := .reg [([], [⟨(some 39), none, none, .mov (.tmp 5)⟩, ⟨(some 40), none, none, .mov (.tmp 7)⟩, ⟨(some 41), none, none, .idxA 1 (.tmp 39) (.tmp 40)⟩, ⟨(some 42), none, none, .ld false 1 (.tmp 41)⟩, ⟨(some 8), none, none, .mov (.tmp 42)⟩])] [36, 39, 40, 41, 42]
abbrev c_moraineref01_Num_17 : SCode := .reg [([], [⟨(some 43), none, none, .mov (.tmp 7)⟩, ⟨(some 44), none, none, .bin .add 3 (.tmp 43) (.val (.int .i64 1))⟩, ⟨(some 45), none, none, .mov (.tmp 5)⟩, ⟨(some 46), none, none, .len (.tmp 45)⟩, ⟨(some 47), none, none, .bin .lss 3 (.tmp 44) (.tmp 46)⟩])] [43, 44, 45, 46]
abbrev c_moraineref01_Num_18 : SCode := .reg [([], [⟨(some 48), none, none, .mov (.tmp 8)⟩, ⟨(some 49), none, none, .bin .add 3 (.tmp 48) (.val (.int .i64 128))⟩, ⟨(some 8), none, none, .mov (.tmp 49)⟩])] [47, 48, 49]
abbrev c_moraineref01_Num_19 : SCode := .reg [([], [⟨(some 50), none, none, .mov (.tmp 6)⟩, ⟨(some 51), none, none, .mov (.tmp 8)⟩, ⟨(some 52), none, none, .cvi .u8 (.tmp 51)⟩, ⟨(some 53), none, none, .bsl 1 [(.tmp 52)]⟩, ⟨(some 54), none, none, .b2s (.tmp 53)⟩, ⟨(some 55), none, none, .bin .add 9 (.tmp 50) (.tmp 54)⟩, ⟨(some 6), none, none, .mov (.tmp 55)⟩])] [8, 47, 50, 51, 52, 53, 54, 55]
abbrev c_moraineref01_Num_20 : SCode := .reg [([], [⟨(some 37), none, none, .mov (.tmp 7)⟩, ⟨(some 38), none, none, .bin .add 3 (.tmp 37) (.val (.int .i64 1))⟩, ⟨(some 7), none, none, .mov (.tmp 38)⟩])] [37, 38]
abbrev c_moraineref01_Num_21 : SCode := (.seq (.seq c_moraineref01_Num_15 (.cond (.tmp 36) .skip (.exit 2))) (.seq (.block 3 (.seq c_moraineref01_Num_16 (.seq (.seq c_moraineref01_Num_17 (.cond (.tmp 47) c_moraineref01_Num_18 .skip)) c_moraineref01_Num_19))) c_moraineref01_Num_20))
abbrev c_moraineref01_Num_22 : SCode := .reg [([], [⟨(some 56), none, none, .mov (.tmp 6)⟩, ⟨(some 2), none, none, .mov (.tmp 56)⟩])] [5, 6, 7, 56]
abbrev F_moraineref01_Num : SFunc := ⟨57, (.seq c_moraineref01_Num_0 (.seq c_moraineref01_Num_1 (.seq c_moraineref01_Num_2 (.seq (.seq c_moraineref01_Num_3 (.cond (.tmp 11) (.seq c_moraineref01_Num_4 c_moraineref01_Num_5) .skip)) (.seq c_moraineref01_Num_6 (.seq c_moraineref01_Num_7 (.seq (.seq c_moraineref01_Num_8 (.block 0 (.loop c_moraineref01_Num_12))) (.seq c_moraineref01_Num_13 (.seq (.seq c_moraineref01_Num_14 (.block 2 (.loop c_moraineref01_Num_21))) (.seq c_moraineref01_Num_22 .ret)))))))))), [.tmp 2], false⟩
theorem tf_moraineref01_Num : transFunc Go.Proofs.Tryz.prog 115 (hintT []) (fpT []) (killT [(0, [2]), (1, [9]), (3, [10]), (4, [0, 4, 11, 12, 13]), (6, [0, 11]), (7, [4, 14, 15, 16, 17, 18, 19, 20, 21]), (8, [22, 23]), (9, [24]), (11, [25, 28, 29, 30, 31, 32]), (10, [26, 27]), (12, [3]), (14, [33, 34, 35]), (16, [36, 39, 40, 41, 42]), (17, [43, 44, 45, 46]), (18, [47, 48, 49]), (19, [8, 47, 50, 51, 52, 53, 54, 55]), (15, [37, 38]), (20, [5, 6, 7, 56])]) false = some F_moraineref01_Num := by kernel_rfl
-- moraineref01.Text
abbrev c_moraineref01_Text_0 : SCode := .reg [([], [⟨(some 2), none, none, .mov (.val (.string ⟨#[]⟩))⟩, ⟨(some 3), none, none, .mov (.val (.int .i64 0))⟩])] [2, 3]
abbrev c_moraineref01_Text_1 : SCode := .reg [([], [⟨(some 4), none, none, .mov (.tmp 0)⟩, ⟨(some 5), none, none, .slen (.tmp 4)⟩, ⟨(some 6), none, none, .bin .gtr 3 (.tmp 5) (.val (.int .i64 10000))⟩])] [4, 5]
abbrev c_moraineref01_Text_2 : SCode := .reg [([], [⟨(some 2), none, none, .mov (.val (.string ⟨#[]⟩))⟩, ⟨(some 3), none, none, .mov (.val (.int .i64 10))⟩])] [0, 6]
abbrev c_moraineref01_Text_3 : SCode := .reg [([2036, 2037, 2038, 2039], [⟨(some 7), none, none, .mov (.tmp 0)⟩, ⟨(some 8), none, none, .slen (.tmp 7)⟩, ⟨(some 9), none, none, .call 115 0 [(.tmp 8)]⟩, ⟨(some 10), none, none, .mov (.tmp 0)⟩, ⟨(some 11), none, none, .bin .add 9 (.tmp 9) (.tmp 10)⟩, ⟨(some 2), none, none, .mov (.tmp 11)⟩, ⟨(some 3), none, none, .mov (.val (.int .i64 0))⟩])] [0, 6, 7, 8, 9, 10, 11]
abbrev F_moraineref01_Text : SFunc := ⟨12, (.seq c_moraineref01_Text_0 (.seq (.seq c_moraineref01_Text_1 (.cond (.tmp 6) (.seq c_moraineref01_Text_2 .ret) .skip)) (.seq c_moraineref01_Text_3 .ret))), [.tmp 2, .tmp 3], false⟩
theorem tf_moraineref01_Text : transFunc Go.Proofs.Tryz.prog 116 (hintT [(9, 0)]) (fpT []) (killT [(0, [2, 3]), (1, [4, 5]), (2, [0, 6]), (3, [0, 6, 7, 8, 9, 10, 11])]) false = some F_moraineref01_Text := by kernel_rfl
-- moraineref03.Digits
abbrev c_moraineref03_Digits_0 : SCode := .reg [([], [⟨(some 2), none, none, .mov (.val (.string ⟨#[]⟩))⟩])] [2]
abbrev c_moraineref03_Digits_1 : SCode := .reg [([], [⟨(some 4), none, none, .mov (.tmp 0)⟩, ⟨(some 5), none, none, .bin .lss 3 (.tmp 4) (.val (.int .i64 0))⟩])] [4]
abbrev c_moraineref03_Digits_2 : SCode := .reg [([], [⟨(some 6), none, none, .mov (.tmp 0)⟩, ⟨(some 7), none, none, .bin .leq 3 (.tmp 6) (.val (.int .i64 (-10)))⟩])] [5, 6]
abbrev c_moraineref03_Digits_3 : SCode := .reg [([2040, 2041, 2042, 2043, 2056, 2057, 2058, 2059], [⟨(some 8), none, none, .mov (.tmp 0)⟩, ⟨(some 9), none, none, .bin .quo 3 (.tmp 8) (.val (.int .i64 10))⟩, ⟨(some 10), none, none, .call 117 0 [(.tmp 9)]⟩, ⟨(some 11), none, none, .mov (.tmp 0)⟩, ⟨(some 12), none, none, .bin .rem 3 (.tmp 11) (.val (.int .i64 10))⟩, ⟨(some 13), none, none, .un .neg (.tmp 12)⟩, ⟨(some 14), none, none, .call 117 0 [(.tmp 13)]⟩, ⟨(some 15), none, none, .bin .add 9 (.tmp 10) (.tmp 14)⟩, ⟨(some 2), none, none, .mov (.tmp 15)⟩])] [0, 7, 8, 9, 10, 11, 12, 13, 14, 15]
abbrev c_moraineref03_Digits_4 : SCode := .reg [([2072, 2073, 2074, 2075], [⟨(some 16), none, none, .mov (.tmp 0)⟩, ⟨(some 17), none, none, .un .neg (.tmp 16)⟩, ⟨(some 18), none, none, .call 117 0 [(.tmp 17)]⟩, ⟨(some 19), none, none, .bin .add 9 (.val (.string ⟨#[45]⟩)) (.tmp 18)⟩, ⟨(some 2), none, none, .mov (.tmp 19)⟩])] [0, 7, 16, 17, 18, 19]
abbrev c_moraineref03_Digits_5 : SCode := .reg [([], [⟨(some 20), none, none, .mov (.tmp 0)⟩, ⟨(some 21), none, none, .bin .rem 3 (.tmp 20) (.val (.int .i64 10))⟩, ⟨(some 22), none, none, .mov (.tmp 0)⟩, ⟨(some 23), none, none, .bin .rem 3 (.tmp 22) (.val (.int .i64 10))⟩, ⟨(some 24), none, none, .bin .add 3 (.tmp 23) (.val (.int .i64 1))⟩, ⟨(some 25), none, none, .ssub (.val (.string ⟨#[48, 49, 50, 51, 52, 53, 54, 55, 56, 57]⟩)) (some (.tmp 21)) (some (.tmp 24))⟩, ⟨(some 3), none, none, .mov (.tmp 25)⟩])] [2, 5, 20, 21, 22, 23, 24, 25]
abbrev c_moraineref03_Digits_6 : SCode := .reg [([], [⟨(some 26), none, none, .mov (.tmp 0)⟩, ⟨(some 27), none, none, .bin .lss 3 (.tmp 26) (.val (.int .i64 10))⟩])] [26]
abbrev c_moraineref03_Digits_7 : SCode := .reg [([], [⟨(some 28), none, none, .mov (.tmp 3)⟩, ⟨(some 2), none, none, .mov (.tmp 28)⟩])] [0, 3, 27, 28]
abbrev c_moraineref03_Digits_8 : SCode := .reg [([2124, 2125, 2126, 2127], [⟨(some 29), none, none, .mov (.tmp 0)⟩, ⟨(some 30), none, none, .bin .quo 3 (.tmp 29) (.val (.int .i64 10))⟩, ⟨(some 31), none, none, .call 117 0 [(.tmp 30)]⟩, ⟨(some 32), none, none, .mov (.tmp 3)⟩, ⟨(some 33), none, none, .bin .add 9 (.tmp 31) (.tmp 32)⟩, ⟨(some 2), none, none, .mov (.tmp 33)⟩])] [0, 3, 27, 29, 30, 31, 32, 33]
abbrev F_moraineref03_Digits : SFunc := ⟨34, (.seq c_moraineref03_Digits_0 (.seq (.seq c_moraineref03_Digits_1 (.cond (.tmp 5) (.seq (.seq c_moraineref03_Digits_2 (.cond (.tmp 7) (.seq c_moraineref03_Digits_3 .ret) .skip)) (.seq c_moraineref03_Digits_4 .ret)) .skip)) (.seq c_moraineref03_Digits_5 (.seq (.seq c_moraineref03_Digits_6 (.cond (.tmp 27) (.seq c_moraineref03_Digits_7 .ret) .skip)) (.seq c_moraineref03_Digits_8 .ret))))), [.tmp 2], false⟩
theorem tf_moraineref03_Digits : transFunc Go.Proofs.Tryz.prog 117 (hintT [(10, 0), (14, 0), (18, 0), (31, 0)]) (fpT []) (killT [(0, [2]), (1, [4]), (2, [5, 6]), (3, [0, 7, 8, 9, 10, 11, 12, 13, 14, 15]), (4, [0, 7, 16, 17, 18, 19]), (5, [2, 5, 20, 21, 22, 23, 24, 25]), (6, [26]), (7, [0, 3, 27, 28]), (8, [0, 3, 27, 29, 30, 31, 32, 33])]) false = some F_moraineref03_Digits := by kernel_rfl
-- moraineref03.Quoted
abbrev c_moraineref03_Quoted_0 : SCode := .reg [([], [⟨(some 2), none, none, .mov (.val (.string ⟨#[]⟩))⟩])] [2]
abbrev c_moraineref03_Quoted_1 : SCode := .reg [([], [⟨(some 3), none, none, .mov (.val (.string ⟨#[34]⟩))⟩])] []
abbrev c_moraineref03_Quoted_2 : SCode := .reg [([], [⟨(some 4), none, none, .mov (.val (.int .i64 0))⟩])] []
abbrev c_moraineref03_Quoted_3 : SCode := .reg [([], [⟨(some 5), none, none, .mov (.tmp 4)⟩, ⟨(some 6), none, none, .mov (.tmp 0)⟩, ⟨(some 7), none, none, .slen (.tmp 6)⟩, ⟨(some 8), none, none, .bin .lss 3 (.tmp 5) (.tmp 7)⟩])] [5, 6, 7]
abbrev c_moraineref03_Quoted_4 : SCode := .reg [([], [⟨(some 11), none, none, .mov (.tmp 0)⟩, ⟨(some 12), none, none, .mov (.tmp 4)⟩, ⟨(some 13), none, none, .sidx (.tmp 11) (.tmp 12)⟩, ⟨(some 14), none, none, .bin .eql 5 (.tmp 13) (.val (.int .u8 34))⟩, ⟨(some 15), none, none, .mov (.tmp 14)⟩, ⟨(some 16), (some (15, false)), none, .mov (.tmp 0)⟩, ⟨(some 17), (some (15, false)), none, .mov (.tmp 4)⟩, ⟨(some 18), (some (15, false)), none, .sidx (.tmp 16) (.tmp 17)⟩, ⟨(some 19), (some (15, false)), none, .bin .eql 5 (.tmp 18) (.val (.int .u8 92))⟩, ⟨(some 20), none, none, .pick (.tmp 15) (.val (.bool true)) (.tmp 19)⟩])] [8, 11, 12, 13, 14, 15, 16, 17, 18, 19]
abbrev c_moraineref03_Quoted_5 : SCode := .reg [([], [⟨(some 21), none, none, .mov (.tmp 3)⟩, ⟨(some 22), none, none, .bin .add 9 (.tmp 21) (.val (.string ⟨#[92]⟩))⟩, ⟨(some 3), none, none, .mov (.tmp 22)⟩])] [20, 21, 22]
abbrev c_moraineref03_Quoted_6 : SCode := .reg [([], [⟨(some 23), none, none, .mov (.tmp 3)⟩, ⟨(some 24), none, none, .mov (.tmp 0)⟩, ⟨(some 25), none, none, .mov (.tmp 4)⟩, ⟨(some 26), none, none, .mov (.tmp 4)⟩, ⟨(some 27), none, none, .bin .add 3 (.tmp 26) (.val (.int .i64 1))⟩, ⟨(some 28), none, none, .ssub (.tmp 24) (some (.tmp 25)) (some (.tmp 27))⟩, ⟨(some 29), none, none, .bin .add 9 (.tmp 23) (.tmp 28)⟩, ⟨(some 3), none, none, .mov (.tmp 29)⟩])] [20, 23, 24, 25, 26, 27, 28, 29]
abbrev c_moraineref03_Quoted_7 : SCode := .reg [([], [⟨(some 9), none, none, .mov (.tmp 4)⟩, ⟨(some 10), none, none, .bin .add 3 (.tmp 9) (.val (.int .i64 1))⟩, ⟨(some 4), none, none, .mov (.tmp 10)⟩])] [9, 10]
abbrev c_moraineref03_Quoted_8 : SCode := (.seq (.seq c_moraineref03_Quoted_3 (.cond (.tmp 8) .skip (.exit 0))) (.seq (.block 1 (.seq (.seq c_moraineref03_Quoted_4 (.cond (.tmp 20) c_moraineref03_Quoted_5 .skip)) c_moraineref03_Quoted_6)) c_moraineref03_Quoted_7))
abbrev c_moraineref03_Quoted_9 : SCode := .reg [([], [⟨(some 30), none, none, .mov (.tmp 3)⟩, ⟨(some 31), none, none, .bin .add 9 (.tmp 30) (.val (.string ⟨#[34]⟩))⟩, ⟨(some 2), none, none, .mov (.tmp 31)⟩])] [0, 3, 4, 30, 31]
abbrev F_moraineref03_Quoted : SFunc := ⟨32, (.seq c_moraineref03_Quoted_0 (.seq c_moraineref03_Quoted_1 (.seq (.seq c_moraineref03_Quoted_2 (.block 0 (.loop c_moraineref03_Quoted_8))) (.seq c_moraineref03_Quoted_9 .ret)))), [.tmp 2], false⟩
theorem tf_moraineref03_Quoted : transFunc Go.Proofs.Tryz.prog 118 (hintT []) (fpT []) (killT [(0, [2]), (3, [5, 6, 7]), (5, [8, 11, 12, 13, 14, 15, 16, 17, 18, 19]), (6, [20, 21, 22]), (7, [20, 23, 24, 25, 26, 27, 28, 29]), (4, [9, 10]), (8, [0, 3, 4, 30, 31])]) false = some F_moraineref03_Quoted := by kernel_rfl
-- moraineref03.plain
abbrev c_moraineref03_plain_0 : SCode := .reg [([], [⟨(some 2), none, none, .mov (.val (.bool false))⟩])] [2]
abbrev c_moraineref03_plain_1 : SCode := .reg [([], [⟨(some 3), none, none, .mov (.tmp 0)⟩, ⟨(some 4), none, none, .bin .geq 3 (.tmp 3) (.val (.int .i64 1))⟩, ⟨(some 5), none, none, .mov (.tmp 4)⟩, ⟨(some 6), (some (5, true)), none, .mov (.tmp 0)⟩, ⟨(some 7), (some (5, true)), none, .bin .leq 3 (.tmp 6) (.val (.int .i64 4))⟩, ⟨(some 8), none, none, .pick (.tmp 5) (.tmp 7) (.val (.bool false))⟩, ⟨(some 2), none, none, .mov (.tmp 8)⟩])] [0, 3, 4, 5, 6, 7, 8]
abbrev F_moraineref03_plain : SFunc := ⟨9, (.seq c_moraineref03_plain_0 (.seq c_moraineref03_plain_1 .ret)), [.tmp 2], false⟩
theorem tf_moraineref03_plain : transFunc Go.Proofs.Tryz.prog 125 (hintT []) (fpT []) (killT [(0, [2]), (1, [0, 3, 4, 5, 6, 7, 8])]) false = some F_moraineref03_plain := by kernel_rfl
end Go.Sh.Cd2
end

section
/- The document's answers for values, walked: Right, RightType, Fits, Zero, Refs. No statement of the program is proved here. -/
namespace Go.Proofs.YthjphllpkcnehaaGreatDoor
open Go Go.RowKit Go.Mor Go.Sh Go.Sh.Cd1 Go.Sh.Cd2
set_option maxRecDepth 100000
set_option maxHeartbeats 4000000
theorem rightText_doc (s : List UInt8) : rightText s = (isText s && decide (s.length ≤ 60)) := by
  unfold rightText; rw [isText_eq s.length s (Nat.le_refl _), Bool.and_comm]
theorem rightID_doc (n : Int) : rightID n = (decide (1 ≤ n) && decide (n ≤ 100000) || decide (-20 ≤ n) && decide (n ≤ -1)) := by
  unfold rightID; rw [Bool.eq_iff_iff]; simp
theorem refRight1_ok (g : Sh.Glob) (x : V) (hs : TextsOk x) (h5 : x.k ≠ 5) : SCalls Tryz.prog g 29 [tv x] [] (B (right1 x)) [] := by
  obtain ⟨k, n, s, l⟩ := x
  have HT := isText_ok g s hs
  have hln : decide ((l.length : Int) = 0) = (l.length == 0) := by rw [Bool.eq_iff_iff]; simp
  have k5 : ¬ k = 5 := h5
  have hl60 : decide ((s.length : Int) ≤ 60) = decide (s.length ≤ 60) := by rw [Bool.eq_iff_iff]; simp; omega
  have hb : bare (.mk k n s l) = (s == [] && l.length == 0) := rfl
  have hn0 : (n == 0) = decide (n = 0) := by rw [Bool.eq_iff_iff]; simp
  rw [right1_mk, hb, rightText_doc, rightID_doc, hn0]
  clear h5 hs hb
  have key : ∀ (kk : Int), kk = 3 ∨ kk = 4 → SCalls Tryz.prog g 29 [tv (.mk kk n s l)] [] (.pv (.v (.bool ((s == [] && l.length == 0) && (decide (1 ≤ n) && decide (n ≤ 100000) || decide (-20 ≤ n) && decide (n ≤ -1)))))) [] := by
    intro kk hkk
    refine call_of0 hmix tf_moraineref03_Right rfl ?_
    rcases hkk with rfl | rfl
    all_goals
      by_cases hid : (1 ≤ n ∧ n ≤ 100000) ∨ (-20 ≤ n ∧ n ≤ -1)
      · have e : (decide (1 ≤ n) && decide (n ≤ 100000) || decide (-20 ≤ n) && decide (n ≤ -1)) = true := by simpa using hid
        rw [e]
        rcases hid with ⟨q1, q2⟩ | ⟨q3, q4⟩
        · cases hs : s == [] <;> simp only [vcA, seval, vV, e0, q1, q2, hs, hln]
        · have q1 : ¬ 1 ≤ n := by omega
          cases hs : s == [] <;> simp only [vcA, seval, vV, e0, q1, q3, q4, hs, hln]
      · have e : (decide (1 ≤ n) && decide (n ≤ 100000) || decide (-20 ≤ n) && decide (n ≤ -1)) = false := by rw [← Bool.not_eq_true]; simpa using hid
        rw [e]
        by_cases q1 : 1 ≤ n
        · have q2 : ¬ n ≤ 100000 := by omega
          have q3 : -20 ≤ n := by omega
          have q4 : ¬ n ≤ -1 := by omega
          simp only [vcA, seval, vV, q1, q2, q3, q4]
        · by_cases q3 : -20 ≤ n
          · have q4 : ¬ n ≤ -1 := by omega
            simp only [vcA, seval, vV, q1, q3, q4]
          · simp only [vcA, seval, vV, q1, q3]
  by_cases k34 : k = 3 ∨ k = 4
  · rw [if_neg (by omega), if_neg (by omega), if_neg (by omega), if_pos k34]
    exact key k k34
  clear key
  refine call_of0 hmix tf_moraineref03_Right rfl ?_
  unfold B at *
  by_cases k0 : k = 0
  · subst k0
    by_cases n0 : n = 0
    · subst n0
      cases hs : s == [] <;> simp only [vcA, seval, vV, e0, hs, hln]
    · simp only [vcA, seval, vV, n0]
  rw [if_neg k0]
  by_cases k1 : k = 1
  · subst k1
    by_cases q1 : -1000000000000000 ≤ n
    · by_cases q2 : n ≤ 1000000000000000
      · cases hs : s == [] <;> simp only [vcA, seval, vV, e0, q1, q2, hs, hln]
      · simp only [vcA, seval, vV, q1, q2]
    · simp only [vcA, seval, vV, q1]
  rw [if_neg k1]
  by_cases k2 : k = 2
  · subst k2
    simp only [vcA, seval, vV]
    (with_reducible apply v_call); (· simp only [vcA, seval, vV]; with_reducible rfl); (· exact HT); (· first | rfl | (simp only [vcA, seval]; omega)); (· simp only [vcA, seval, vV]; with_reducible rfl)
    by_cases n0 : n = 0
    · subst n0
      cases isText s
      · simp only [vcA, seval, vV]
      · by_cases q : (s.length : Int) ≤ 60
        · have q' : s.length ≤ 60 := by omega
          simp only [vcA, seval, vV, q, q', hln]
        · have q' : ¬ s.length ≤ 60 := by omega
          simp only [vcA, seval, vV, q, q']
    · simp only [vcA, seval, vV, n0]
  rw [if_neg k2]
  rw [if_neg k34]
  have k3 : ¬ k = 3 := fun h => k34 (.inl h)
  have k4 : ¬ k = 4 := fun h => k34 (.inr h)
  simp only [vcA, seval, vV, k0, k1, k2, k3, k4, k5]
end Go.Proofs.YthjphllpkcnehaaGreatDoor
end

section
/- The document's answers for values, walked: Right of lists, RightType, Fits, Zero; references, both ways. No statement of the program is proved here. -/
namespace Go.Proofs.YthjphllpkcnehaaGreatDoor
open Go Go.RowKit Go.Mor Go.Sh Go.Sh.Cd1 Go.Sh.Cd2
set_option maxRecDepth 100000
set_option maxHeartbeats 4000000
theorem refRight_ok (g : Sh.Glob) (x : V) (hx : VOk x) : SCalls Tryz.prog g 29 [tv x] [] (B (rightV x)) [] := by
  unfold rightV
  by_cases k5 : x.k = 5
  · rw [if_pos k5]
    obtain ⟨k, n, s, l⟩ := x
    simp only [Vk] at k5
    subst k5
    have hxl : ∀ y ∈ l, TextsOk y := fun y hy => hx.2 y hy
    clear hx
    simp only [Vn, Vs, Vl]
    have hn0 : (n == 0) = decide (n = 0) := by rw [Bool.eq_iff_iff]; simp
    rw [hn0]
    refine call_of0 hmix tf_moraineref03_Right rfl ?_
    unfold B
    by_cases n0 : n = 0
    · subst n0
      cases hs : s == []
      · simp only [vcA, seval, vV, e0, hs]
      · by_cases h12 : l.length ≤ 12
        · have d1 : ¬ (12 : Int) < (l.length : Int) := by omega
          simp only [vcA, seval, vV, e0, hs, d1, h12]
          refine v_loop (σ := {i : Nat // i ≤ l.length ∧ ∀ j y, j < i → l[j]? = some y → noItem y = false}) (fun i => ⟨[(1, .ptr 1 0), (4, I (i.1 : Int))], [(1, [I 5, I 0, S (str s), .pv (.sl 4 (V.rows l))])], [], []⟩) (fun i => l.length - i.1) ⟨0, Nat.zero_le _, fun j y hj => by omega⟩ ?_ ?_
          · apply lw_of <;> simp [leL, lk, sv, Nat.beq, I, S, ES.kill, has, drp, nilT]
          rintro ⟨i, hi, hno⟩
          by_cases hlt : i < l.length
          · have d2 : (i : Int) < (l.length : Int) := by omega
            obtain ⟨y, ey⟩ : ∃ y, l[i]? = some y := ⟨_, List.getElem?_eq_getElem hlt⟩
            have hm := List.mem_of_getElem? ey
            have hany : noItem y = true → l.any noItem = true := fun h => List.any_eq_true.2 ⟨y, hm, h⟩
            by_cases y5 : y.k = 5
            · have hno' : noItem y = true := by simp [noItem, y5]
              simp only [vcA, seval, vV, d2, ey, y5]
              rw [hany hno']; rfl
            · have HR := refRight1_ok g y (hxl y hm) y5
              have w1 : IntKind.i64.wrap ((i : Int) + 1) = ((i + 1 : Nat) : Int) := by rw [wrap64 (by omega) (by omega)]; omega
              have hy5 : (y.k == 5) = false := by simpa using y5
              unfold B at HR
              simp only [vcA, seval, vV, d2, ey, y5]
              (with_reducible apply v_call); (· simp only [vcA, seval, vV]; with_reducible rfl); (· exact HR); (· first | rfl | (simp only [vcA, seval]; omega)); (· simp only [vcA, seval, vV]; with_reducible rfl)
              cases hr : right1 y
              · simp only [vcA, seval, vV]
                rw [hany (by simp [noItem, hr])]; rfl
              · simp only [vcA, seval, vV, w1]
                refine loopK_of ⟨i + 1, by omega, fun j z hj hz => ?_⟩ (by show l.length - (i + 1) < l.length - i; omega) ?_
                · by_cases hji : j = i
                  · subst hji; rw [ey] at hz; cases hz; simp [noItem, hy5, hr]
                  · exact hno j z (by omega) hz
                · apply lw_of <;> simp [leL, lk, sv, Nat.beq, I, S, ES.kill, has, drp, nilT]
          · have d2 : ¬ (i : Int) < (l.length : Int) := by omega
            have hall : l.any noItem = false := by
              rw [← Bool.not_eq_true, List.any_eq_true]
              rintro ⟨y, hy, hp⟩
              obtain ⟨j, hj⟩ := List.getElem?_of_mem hy
              rw [hno j y (by have := (List.getElem?_eq_some_iff.1 hj).1; omega) hj] at hp; cases hp
            simp only [vcA, seval, vV, d2]
            rw [hall]; rfl
        · have d1 : (12 : Int) < (l.length : Int) := by omega
          simp only [vcA, seval, vV, e0, hs, d1, h12]
    · simp only [vcA, seval, vV, n0]
  · rw [if_neg k5]
    exact refRight1_ok g x hx.1 k5
theorem refPlain_ok (g : Sh.Glob) (k : Int) : SCalls Tryz.prog g 125 [I k] [] (B (decide (1 ≤ k) && decide (k ≤ 4))) [] := by
  refine call_of0 hmix tf_moraineref03_plain rfl ?_
  unfold B
  by_cases q1 : 1 ≤ k <;> by_cases q2 : k ≤ 4 <;> simp only [vcA, seval, vV, q1, q2]
theorem refRightType_ok (g : Sh.Glob) (t : Ty) : SCalls Tryz.prog g 77 [tyT t] [] (B (rightType t)) [] := by
  refine call_of0 hmix tf_moraineref03_RightType rfl ?_
  obtain ⟨k, o⟩ := t
  have H1 := refPlain_ok g k
  have H2 := refPlain_ok g o
  unfold B at *
  by_cases k5 : k = 5
  · subst k5
    have e : rightType ⟨5, o⟩ = (decide (1 ≤ o) && decide (o ≤ 4)) := by unfold rightType; rw [if_pos rfl]; simp
    rw [e]
    simp only [vcA, seval, vV]
    (with_reducible apply v_call); (· simp only [vcA, seval, vV]; with_reducible rfl); (· exact H2); (· first | rfl | (simp only [vcA, seval]; omega)); (· simp only [vcA, seval, vV]; with_reducible rfl)
    simp only [vcA, seval, vV]
  · have e : rightType ⟨k, o⟩ = ((decide (1 ≤ k) && decide (k ≤ 4)) && decide (o = 0)) := by unfold rightType; rw [if_neg k5]; rw [Bool.eq_iff_iff]; simp; omega
    rw [e]
    generalize (decide (1 ≤ k) && decide (k ≤ 4)) = p at *
    simp only [vcA, seval, vV, k5]
    (with_reducible apply v_call); (· simp only [vcA, seval, vV]; with_reducible rfl); (· exact H1); (· first | rfl | (simp only [vcA, seval]; omega)); (· simp only [vcA, seval, vV]; with_reducible rfl)
    cases p <;> simp only [vcA, seval, vV]
theorem refKind_ok (g : Sh.Glob) (x : V) (k : Int) : SCalls Tryz.prog g 78 [tv x, I k] [] (B (ofKind x k)) [] := by
  refine call_of0 hmix tf_moraineref03_kind rfl ?_
  unfold B
  simp only [vcA, seval, vV]
  unfold ofKind
  repeat' (first | (apply And.intro) | (intro _))
  all_goals (first | (simp_all; done) | (simp only [Option.some.injEq, TV.pv.injEq, PV.v.injEq, Value.bool.injEq]; rw [Bool.eq_iff_iff]; simp_all; done) | (simp only [Option.some.injEq, TV.pv.injEq, PV.v.injEq, Value.bool.injEq]; rw [Bool.eq_iff_iff]; simp_all; omega))
theorem refFits_ok (g : Sh.Glob) (x : V) (t : Ty) (hx : VOk x) (hl : x.l.length ≤ maxLen) : SCalls Tryz.prog g 37 [tv x, tyT t] [] (B (fitsV x t)) [] := by
  refine call_of0 hmix tf_moraineref03_Fits rfl ?_
  have HR := refRight_ok g x hx
  have HT := refRightType_ok g t
  have HK := refKind_ok g x t.k
  have hm : maxLen = 9223372036854775807 := rfl
  unfold fitsV B at *
  simp only [vcA, seval, vV]
  (with_reducible apply v_call); (· simp only [vcA, seval, vV]; with_reducible rfl); (· exact HR); (· first | rfl | (simp only [vcA, seval]; omega)); (· simp only [vcA, seval, vV]; with_reducible rfl)
  simp only [vcA, seval, vV]
  (with_reducible apply v_call); (· simp only [vcA, seval, vV]; with_reducible rfl); (· exact HT); (· first | rfl | (simp only [vcA, seval]; omega)); (· simp only [vcA, seval, vV]; with_reducible rfl)
  cases rightV x
  · simp only [vcA, seval, vV]
  cases rightType t
  · simp only [vcA, seval, vV]
  simp only [vcA, seval, vV]
  (with_reducible apply v_call); (· simp only [vcA, seval, vV]; with_reducible rfl); (· exact HK); (· first | rfl | (simp only [vcA, seval]; omega)); (· simp only [vcA, seval, vV]; with_reducible rfl)
  cases ofKind x t.k
  · simp only [vcA, seval, vV]
  simp only [vcA, seval, vV]
  refine v_loop (σ := {i : Nat // i ≤ x.l.length ∧ ∀ j y, j < i → x.l[j]? = some y → (!ofKind y t.o) = false}) (fun i => ⟨[(2, .ptr 2 0), (3, .ptr 3 0), (7, I (i.1 : Int))], [(2, [I x.k, I x.n, S (str x.s), .pv (.sl 4 (V.rows x.l))]), (3, [I t.k, I t.o])], [], []⟩) (fun i => x.l.length - i.1) ⟨0, Nat.zero_le _, fun j y hj => by omega⟩ ?_ ?_
  · apply lw_of <;> simp [leL, lk, sv, Nat.beq, I, S, ES.kill, has, drp, nilT]
  rintro ⟨i, hi, hno⟩
  by_cases hlt : i < x.l.length
  · have d2 : (i : Int) < (x.l.length : Int) := by omega
    obtain ⟨y, ey⟩ : ∃ y, x.l[i]? = some y := ⟨_, List.getElem?_eq_getElem hlt⟩
    have HO := refKind_ok g y t.o
    have w1 : IntKind.i64.wrap ((i : Int) + 1) = ((i + 1 : Nat) : Int) := by rw [wrap64 (by omega) (by omega)]; omega
    unfold B tv at HO
    simp only [vcA, seval, vV, d2, ey]
    (with_reducible apply v_call); (· simp only [vcA, seval, vV]; with_reducible rfl); (· exact HO); (· first | rfl | (simp only [vcA, seval]; omega)); (· simp only [vcA, seval, vV]; with_reducible rfl)
    cases hp : ofKind y t.o
    · simp only [vcA, seval, vV]
      have : x.l.any (fun y => !ofKind y t.o) = true := List.any_eq_true.2 ⟨y, List.mem_of_getElem? ey, by simp [hp]⟩
      rw [this]; rfl
    · simp only [vcA, seval, vV, w1]
      refine loopK_of ⟨i + 1, by omega, fun j z hj hz => ?_⟩ (by show x.l.length - (i + 1) < x.l.length - i; omega) ?_
      · by_cases hji : j = i
        · subst hji; rw [ey] at hz; cases hz; simp [hp]
        · exact hno j z (by omega) hz
      · apply lw_of <;> simp [leL, lk, sv, Nat.beq, I, S, ES.kill, has, drp, nilT]
  · have d2 : ¬ (i : Int) < (x.l.length : Int) := by omega
    have hall : x.l.any (fun y => !ofKind y t.o) = false := by
      rw [← Bool.not_eq_true, List.any_eq_true]
      rintro ⟨y, hy, hp⟩
      obtain ⟨j, hj⟩ := List.getElem?_of_mem hy
      rw [hno j y (by have := (List.getElem?_eq_some_iff.1 hj).1; omega) hj] at hp; cases hp
    simp only [vcA, seval, vV, d2]
    rw [hall]; rfl
theorem refZero_ok (g : Sh.Glob) (t : Ty) : SCalls Tryz.prog g 39 [tyT t] [] (nv (zeroV t)) [] := by
  refine call_of0 hmix tf_moraineref03_Zero rfl ?_
  have HR := refRightType_ok g t
  unfold B at HR
  obtain ⟨k, o⟩ := t
  have hk := fun h : rightType ⟨k, o⟩ = true => ty_cases h
  generalize hr : rightType ⟨k, o⟩ = r at HR hk
  have key : zeroV ⟨k, o⟩ = if !r || k == 3 || k == 4 then V.nil else .mk k 0 [] [] := by rw [← hr]; rfl
  rw [key]
  simp only [vcA, seval, vV]
  (with_reducible apply v_call); (· simp only [vcA, seval, vV]; with_reducible rfl); (· exact HR); (· first | rfl | (simp only [vcA, seval]; omega)); (· simp only [vcA, seval, vV]; with_reducible rfl)
  cases r
  · simp only [vcA, seval, vV]
    rfl
  · have hk := hk rfl
    simp only [] at hk
    simp only [vcA, seval, vV]
    repeat' (first | (apply And.intro) | (intro _))
    all_goals (first | (simp_all [V.nil, V.k, V.n, V.s, e0]; done) | (have h34 : k = 3 ∨ k = 4 := by omega
                                                                      rcases h34 with rfl | rfl <;> rfl) | rfl)
end Go.Proofs.YthjphllpkcnehaaGreatDoor
end

section
/- Reading numbers: the program's way. No statement of the program is proved here. -/
namespace Go.Proofs.YthjphllpkcnehaaGreatDoor
open Go Go.RowKit Go.Mor Go.Sh Go.Sh.Cd1
set_option maxRecDepth 100000
set_option maxHeartbeats 4000000
/-- The first sign of a text, 0 of none. -/
def firstR (l : List UInt8) : Int := if l = [] then 0 else (Lib.decodeGo (str l)).1
theorem decodeRune_ok (a0 a1 : Addr) (m : Nat) (b : ByteArray) : SCalls Tryz.prog (gl a0 a1 m) 149 [S b] [] (.tuple [.pv (.v (.int .i32 (Lib.decodeGo b).1)), I (Lib.decodeGo b).2]) [] :=
  sc_up (prim0_sound m _ _ _ _ _ (by simp [prim0, S, I, Nat.beq]))
theorem first_ok (a0 a1 : Addr) (m : Nat) (l : List UInt8) : SCalls Tryz.prog (gl a0 a1 m) 105 [S (str l)] [] (.pv (.v (.int .i32 (firstR l)))) [] := by
  refine call_of0 hmix tf_val_first rfl ?_
  have HD := decodeRune_ok a0 a1 m (str l)
  have e0 : (⟨#[]⟩ : ByteArray) = str [] := rfl
  unfold firstR
  cases l with
  | nil =>
    simp only [vcA, seval, I, S, e0]
  | cons b r =>
    have hn : ((b :: r) == ([] : List UInt8)) = false := rfl
    simp only [vcA, seval, I, S, e0, hn]
    (with_reducible apply v_call); (· simp only [vcA, seval, I, S]; with_reducible rfl); (· exact HD); (· first | rfl | (simp only [vcA, seval]; omega)); (· simp only [vcA, seval, I, S]; with_reducible rfl)
    simp only [vcA, seval, I, S]
def numGo (neg : Bool) (lo hi : Int) : List UInt8 → Int → Int → Nat → Nat → Int × Nat
  | [], _, best, size, _ => (best, size)
  | c :: r, n, best, size, k =>
    if c.toNat < 48 ∨ 57 < c.toNat then (best, size)
    else if 1000000000000000 < 10 * n + (c.toNat - 48 : Int) ∨ (neg = true ∧ 10 * n + (c.toNat - 48 : Int) = 0) then (best, size)
    else if lo ≤ (if neg then -(10 * n + (c.toNat - 48 : Int)) else 10 * n + (c.toNat - 48 : Int)) ∧ (if neg then -(10 * n + (c.toNat - 48 : Int)) else 10 * n + (c.toNat - 48 : Int)) ≤ hi then
      (if 10 * n + (c.toNat - 48 : Int) = 0 then ((if neg then -(10 * n + (c.toNat - 48 : Int)) else 10 * n + (c.toNat - 48 : Int)), k + 1) else numGo neg lo hi r (10 * n + (c.toNat - 48 : Int)) (if neg then -(10 * n + (c.toNat - 48 : Int)) else 10 * n + (c.toNat - 48 : Int)) (k + 1) (k + 1))
    else (if 10 * n + (c.toNat - 48 : Int) = 0 then (best, size) else numGo neg lo hi r (10 * n + (c.toNat - 48 : Int)) best size (k + 1))
def numV (lo hi : Int) (l : List UInt8) : Int × Nat := if firstR l = 45 then numGo true lo hi (l.drop 1) 0 0 0 1 else numGo false lo hi l 0 0 0 0
def numSt (l : List UInt8) (lo hi : Int) (neg : Bool) (q : Int × Int × Nat × Nat) : ES :=
  ⟨[(0, S (str l)), (1, I lo), (2, I hi), (8, I q.1), (9, I q.2.1), (10, I (q.2.2.1 : Int)), (11, I (q.2.2.2 : Int)), (12, I (if neg then 1 else 0))], [], [], []⟩
theorem numLoop (g : Sh.Glob) (l : List UInt8) (lo hi : Int) (neg : Bool) (hl : l.length < 9223372036854775807) (R : Int × Nat) (k0 : Nat) (hR : R = numGo neg lo hi (l.drop k0) 0 0 0 k0) :
    swp Tryz.prog g (.loop c_val_number_15) (blockW 0 (thenW (swp Tryz.prog g (.seq c_val_number_16 .ret) (Post0 [.tmp 6, .tmp 7] (.tuple [I R.1, I (R.2 : Int)]))) (Post0 [.tmp 6, .tmp 7] (.tuple [I R.1, I (R.2 : Int)])))) (numSt l lo hi neg (0, 0, 0, k0)) := by
  refine v_loop (σ := { q : Int × Int × Nat × Nat // 0 ≤ q.1 ∧ q.1 ≤ 1000000000000000 ∧ R = numGo neg lo hi (l.drop q.2.2.2) q.1 q.2.1 q.2.2.1 q.2.2.2 })
    (fun q => numSt l lo hi neg q.1) (fun q => l.length - q.1.2.2.2) ⟨(0, 0, 0, k0), Int.le_refl 0, by show (0 : Int) ≤ 1000000000000000; decide, hR⟩ (lw_eq rfl) ?_
  rintro ⟨⟨n, best, size, k⟩, h0, h1, hd⟩
  simp only at h0 h1 hd
  unfold numSt
  by_cases hk : k < l.length
  · have d1 : (k : Int) < (l.length : Int) := by omega
    obtain ⟨c, ec⟩ : ∃ c, l[k]? = some c := ⟨_, List.getElem?_eq_getElem hk⟩
    have hcons : l.drop k = c :: l.drop (k + 1) := by
      rw [List.drop_eq_getElem_cons hk]; congr 1
      rw [List.getElem?_eq_getElem hk] at ec; exact Option.some.inj ec
    rw [hcons, numGo] at hd
    have hc := c.toNat_lt
    by_cases hdig : c.toNat < 48 ∨ 57 < c.toNat
    · rw [if_pos hdig] at hd
      by_cases q1 : c.toNat < 48
      · have d2 : ¬ (48 : Int) ≤ (c.toNat : Int) := by omega
        simp only [vcA, seval, I, S, d1, d2, ec]
        rw [hd]
      · have d2 : (48 : Int) ≤ (c.toNat : Int) := by omega
        have d3 : ¬ (c.toNat : Int) ≤ 57 := by omega
        simp only [vcA, seval, I, S, d1, d2, d3, ec]
        rw [hd]
    · rw [if_neg hdig] at hd
      have d2 : (48 : Int) ≤ (c.toNat : Int) := by omega
      have d3 : (c.toNat : Int) ≤ 57 := by omega
      have u1 : IntKind.u8.wrap ((c.toNat : Int) - 48) = (c.toNat : Int) - 48 := by rw [IntKind.wrap_u8]; omega
      have u2 : IntKind.i64.wrap ((c.toNat : Int) - 48) = (c.toNat : Int) - 48 := wrap64 (by omega) (by omega)
      have u3 : IntKind.i64.wrap (10 * n) = 10 * n := wrap64 (by omega) (by omega)
      have u4 : IntKind.i64.wrap (10 * n + ((c.toNat : Int) - 48)) = 10 * n + ((c.toNat : Int) - 48) := wrap64 (by omega) (by omega)
      obtain ⟨x, hx⟩ : ∃ x, x = 10 * n + ((c.toNat : Int) - 48) := ⟨_, rfl⟩
      have hx0 : 0 ≤ x := by omega
      have hx1 : x ≤ 10000000000000009 := by omega
      rw [← hx] at hd u4
      rw [hx] at u4
      have w1 : IntKind.i64.wrap ((k : Int) + 1) = ((k + 1 : Nat) : Int) := by rw [wrap64 (by omega) (by omega)]; omega
      have w2 : IntKind.i64.wrap (0 - x) = -x := by rw [wrap64 (by omega) (by omega)]; omega
      rw [hx] at w2
      cases neg
      · simp only [Bool.false_eq_true, if_false, false_and, or_false] at hd
        simp only [vcA, seval, I, S, d1, d2, d3, ec, u1, u2, u3, u4, w1]
        rw [← hx]
        repeat' (first | (apply And.intro) | (intro _))
        all_goals first
          | (rw [hd]; (repeat' split) <;> first | rfl | (exfalso; omega))
          | (refine loopK_of ⟨(x, x, k + 1, k + 1), hx0, ?_, ?_⟩ ?_ ?_; (· show x ≤ 1000000000000000; omega); (· rw [hd]; (repeat' split) <;> first | rfl | (exfalso; omega)); (· show l.length - (k + 1) < l.length - k; omega); (· apply lw_of <;> simp [leL, lk, sv, Nat.beq, I, S, ES.kill, has, drp, nilT]))
          | (refine loopK_of ⟨(x, best, size, k + 1), hx0, ?_, ?_⟩ ?_ ?_; (· show x ≤ 1000000000000000; omega); (· rw [hd]; (repeat' split) <;> first | rfl | (exfalso; omega)); (· show l.length - (k + 1) < l.length - k; omega); (· apply lw_of <;> simp [leL, lk, sv, Nat.beq, I, S, ES.kill, has, drp, nilT]))
      · simp only [if_true, true_and] at hd
        simp only [vcA, seval, I, S, d1, d2, d3, ec, u1, u2, u3, u4, w1, w2]
        rw [← hx]
        repeat' (first | (apply And.intro) | (intro _))
        all_goals first
          | (rw [hd]; (repeat' split) <;> first | rfl | (exfalso; omega))
          | (refine loopK_of ⟨(x, -x, k + 1, k + 1), hx0, ?_, ?_⟩ ?_ ?_; (· show x ≤ 1000000000000000; omega); (· rw [hd]; (repeat' split) <;> first | rfl | (exfalso; omega)); (· show l.length - (k + 1) < l.length - k; omega); (· apply lw_of <;> simp [leL, lk, sv, Nat.beq, I, S, ES.kill, has, drp, nilT]))
          | (refine loopK_of ⟨(x, best, size, k + 1), hx0, ?_, ?_⟩ ?_ ?_; (· show x ≤ 1000000000000000; omega); (· rw [hd]; (repeat' split) <;> first | rfl | (exfalso; omega)); (· show l.length - (k + 1) < l.length - k; omega); (· apply lw_of <;> simp [leL, lk, sv, Nat.beq, I, S, ES.kill, has, drp, nilT]))
  · have d1 : ¬ (k : Int) < (l.length : Int) := by omega
    rw [List.drop_eq_nil_of_le (by omega), numGo] at hd
    simp only [vcA, seval, I, S, d1]
    rw [hd]
theorem vnumber_ok (a0 a1 : Addr) (m : Nat) (l : List UInt8) (lo hi : Int) (hl : l.length < 9223372036854775807) : SCalls Tryz.prog (gl a0 a1 m) 108 [S (str l), I lo, I hi] [] (.tuple [I (numV lo hi l).1, I ((numV lo hi l).2 : Int)]) [] := by
  refine call_of0 hmix tf_val_number rfl ?_
  have HF := first_ok a0 a1 m l
  unfold numV
  by_cases h : firstR l = 45
  · have HL := numLoop (gl a0 a1 m) l lo hi true hl _ 1 rfl
    unfold numSt at HL
    rw [if_pos h]
    simp only [vcA, seval, I, S]
    (with_reducible apply v_call); (· simp only [vcA, seval, I, S]; with_reducible rfl); (· exact HF); (· first | rfl | (simp only [vcA, seval]; omega)); (· simp only [vcA, seval, I, S]; with_reducible rfl)
    simp only [vcA, seval, I, S, h]
    exact HL
  · have HL := numLoop (gl a0 a1 m) l lo hi false hl _ 0 rfl
    unfold numSt at HL
    rw [if_neg h]
    simp only [vcA, seval, I, S]
    (with_reducible apply v_call); (· simp only [vcA, seval, I, S]; with_reducible rfl); (· exact HF); (· first | rfl | (simp only [vcA, seval]; omega)); (· simp only [vcA, seval, I, S]; with_reducible rfl)
    simp only [vcA, seval, I, S, h]
    exact HL
end Go.Proofs.YthjphllpkcnehaaGreatDoor
end

section
/- The statements' ValOf. No statement of the program is proved here. -/
namespace Go.Proofs.YthjphllpkcnehaaGreatDoor
open Go Go.RowKit Go.Mor Go.Sh Go.Sh.Cd1
set_option maxRecDepth 100000
set_option maxHeartbeats 8000000
def oneL (l : List R1) : List V := (l.take 12).map fun r => valOne (pickI r.k 5) r.n r.s
def valOf (x : RawV) : V :=
  if pickI x.k 7 < 5 then
    if 3 ≤ (valOne (pickI x.k 7) x.n x.s).k ∧ pickI (x.k.tdiv 7) 4 = 0 then .mk (valOne (pickI x.k 7) x.n x.s).k (-1 - pickI x.n 20) (valOne (pickI x.k 7) x.n x.s).s [] else valOne (pickI x.k 7) x.n x.s
  else .mk 5 0 [] (oneL x.l)
theorem tdiv64 {c : Int} (h : I64 c) : I64 (c.tdiv 7) := by
  have h1 := Int.natAbs_tdiv c 7
  have h2 : c.natAbs / 7 ≤ c.natAbs := Nat.div_le_self _ _
  have h3 : (c.tdiv 7).natAbs ≤ c.natAbs / 7 := by rw [h1]; exact Nat.le_refl _
  unfold I64 at *
  omega
theorem valOf_small (g : Sh.Glob) (x : RawV) (hx : x.ok) (hk5 : pickI x.k 7 < 5) : SCalls Tryz.prog g 16 [x.tv] [] (nv (valOf x)) [] := by
  refine call_of0 hmix tf_morainelaw03_ValOf rfl ?_
  obtain ⟨hk, hn, hs, hl, hlen⟩ := hx
  have hV := valOne_ok g (pickI x.k 7) 0 x.n x.s hn hs
  unfold valOf RawV.tv
  rw [if_pos hk5]
  have d5 := decide_T hk5
  have hP := pickI_ok g x.k 7 hk (by decide)
  generalize pickI x.k 7 = k at hV hk5 d5 hP ⊢
  obtain ⟨v, hv⟩ : ∃ v, v = valOne k x.n x.s := ⟨_, rfl⟩
  have hvl : v.l = [] := by rw [hv]; exact valOne_l _ _ _
  rw [← hv] at hV ⊢
  unfold nv at hV
  have ht := tdiv64 hk
  have wq : IntKind.i64.wrap (x.k.tdiv 7) = x.k.tdiv 7 := wrap64 ht.1 ht.2
  have hp20 := pickI_lt (n := 20) (by decide) hn
  have w20 : IntKind.i64.wrap (-1 - pickI x.n 20) = -1 - pickI x.n 20 := wrap64 (by omega) (by omega)
  simp only [vcA, seval, I, S]
  (with_reducible apply v_call); (· simp only [vcA, seval, I, S]; with_reducible rfl); (· exact hP); (· first | rfl | (simp only [vcA, seval]; omega)); (· simp only [vcA, seval, I, S]; with_reducible rfl)
  simp only [vcA, seval, I, S, hk5]
  (with_reducible apply v_call); (· simp only [vcA, seval, I, S]; with_reducible rfl); (· exact hV); (· first | rfl | (simp only [vcA, seval]; omega)); (· simp only [vcA, seval, I, S]; with_reducible rfl)
  simp only [vcA, seval, I, S, wq]
  refine ⟨fun h3 => ?_, fun h3 => by rw [if_neg (fun h => h3 h.1)]; rfl⟩
  (with_reducible apply v_call); (· simp only [vcA, seval, I, S]; with_reducible rfl); (· exact pickI_ok g (x.k.tdiv 7) 4 ht (by decide)); (· first | rfl | (simp only [vcA, seval]; omega)); (· simp only [vcA, seval, I, S]; with_reducible rfl)
  simp only [vcA, seval, I, S]
  refine ⟨fun hz => ?_, fun hz => by rw [if_neg (fun h => hz h.2)]; rfl⟩
  rw [if_pos ⟨h3, hz⟩]
  (with_reducible apply v_call); (· simp only [vcA, seval, I, S]; with_reducible rfl); (· exact pickI_ok g x.n 20 hn (by decide)); (· first | rfl | (simp only [vcA, seval]; omega)); (· simp only [vcA, seval, I, S]; with_reducible rfl)
  simp only [vcA, seval, I, S, w20]
  rfl
end Go.Proofs.YthjphllpkcnehaaGreatDoor
end

section
/- Comparing values: the program's way, the document's way. No statement of the program is proved here. -/
namespace Go.Proofs.YthjphllpkcnehaaGreatDoor
open Go Go.RowKit Go.Mor Go.Sh Go.Sh.Cd1
set_option maxRecDepth 100000
set_option maxHeartbeats 2000000
def thenI (c d : Int) : Int := if c = 0 then d else c
def ordS (a b : List UInt8) : Int := if Op.bytesLess a b then -1 else if a = b then 0 else 1
mutual
def cmpV : V → V → Int
  | .mk k n s l, y => thenI (ordI k y.k) (thenI (ordI n y.n) (thenI (ordS s y.s) (cmpL l y.l)))
def cmpL : List V → List V → Int
  | [], [] => 0
  | [], _ :: _ => -1
  | _ :: _, [] => 1
  | x :: l, y :: l' => thenI (cmpV x y) (cmpL l l')
end
theorem cmpV_eq (x y : V) : cmpV x y = thenI (ordI x.k y.k) (thenI (ordI x.n y.n) (thenI (ordS x.s y.s) (cmpL x.l y.l))) := by
  cases x; simp only [cmpV, V.k, V.n, V.s, V.l]
theorem cmpL_drop {l l' : List V} {i : Nat} {x y : V} (hx : l[i]? = some x) (hy : l'[i]? = some y) : cmpL (l.drop i) (l'.drop i) = thenI (cmpV x y) (cmpL (l.drop (i + 1)) (l'.drop (i + 1))) := by
  obtain ⟨h1, rfl⟩ := List.getElem?_eq_some_iff.1 hx
  obtain ⟨h2, rfl⟩ := List.getElem?_eq_some_iff.1 hy
  rw [List.drop_eq_getElem_cons h1, List.drop_eq_getElem_cons h2, cmpL]
theorem cmpL_end {l l' : List V} {i : Nat} (h : i = min l.length l'.length) : cmpL (l.drop i) (l'.drop i) = ordI l.length l'.length := by
  unfold ordI
  rcases Nat.lt_trichotomy l.length l'.length with h1 | h1 | h1
  · rw [List.drop_eq_nil_of_le (by omega : l.length ≤ i)]
    obtain ⟨y, r, hy⟩ : ∃ y r, l'.drop i = y :: r := ⟨_, _, List.drop_eq_getElem_cons (by omega)⟩
    rw [hy, cmpL, if_pos (by omega)]
  · rw [List.drop_eq_nil_of_le (by omega : l.length ≤ i), List.drop_eq_nil_of_le (by omega : l'.length ≤ i), cmpL, if_neg (by omega), if_neg (by omega)]
  · rw [List.drop_eq_nil_of_le (by omega : l'.length ≤ i)]
    obtain ⟨y, r, hy⟩ : ∃ y r, l.drop i = y :: r := ⟨_, _, List.drop_eq_getElem_cons (by omega)⟩
    rw [hy, cmpL, if_neg (by omega), if_pos (by omega)]
theorem nanI_ok (g : Sh.Glob) (a : Int) : SCalls Tryz.prog g 123 [I a] [] (.pv (.v (.bool false))) [] := by
  refine call_of0 hmix tf_cmp_isNaN_int_ rfl ?_
  simp only [vcA, seval, vV]
theorem nanS_ok (g : Sh.Glob) (a : ByteArray) : SCalls Tryz.prog g 124 [S a] [] (.pv (.v (.bool false))) [] := by
  refine call_of0 hmix tf_cmp_isNaN_string_ rfl ?_
  simp only [vcA, seval, vV]
theorem cmpI_ok (g : Sh.Glob) (a b : Int) : SCalls Tryz.prog g 70 [I a, I b] [] (I (ordI a b)) [] := by
  refine call_of0 hmix tf_cmp_Compare_int_ rfl ?_
  simp only [vcA, seval, vV]
  (with_reducible apply v_call); (· simp only [vcA, seval, vV]; with_reducible rfl); (· exact nanI_ok g _); (· first | rfl | (simp only [vcA, seval]; omega)); (· simp only [vcA, seval, vV]; with_reducible rfl)
  simp only [vcA, seval, vV]
  (with_reducible apply v_call); (· simp only [vcA, seval, vV]; with_reducible rfl); (· exact nanI_ok g _); (· first | rfl | (simp only [vcA, seval]; omega)); (· simp only [vcA, seval, vV]; with_reducible rfl)
  simp only [vcA, seval, vV]
  unfold ordI
  refine ⟨fun h => by rw [if_pos h], fun h => ⟨fun h' => by rw [if_neg h, if_pos h'], fun h' => by rw [if_neg h, if_neg h']⟩⟩
theorem cmpS_ok (g : Sh.Glob) (a b : List UInt8) : SCalls Tryz.prog g 71 [S (str a), S (str b)] [] (I (ordS a b)) [] := by
  refine call_of0 hmix tf_cmp_Compare_string_ rfl ?_
  simp only [vcA, seval, vV]
  (with_reducible apply v_call); (· simp only [vcA, seval, vV]; with_reducible rfl); (· exact nanS_ok g _); (· first | rfl | (simp only [vcA, seval]; omega)); (· simp only [vcA, seval, vV]; with_reducible rfl)
  simp only [vcA, seval, vV]
  (with_reducible apply v_call); (· simp only [vcA, seval, vV]; with_reducible rfl); (· exact nanS_ok g _); (· first | rfl | (simp only [vcA, seval]; omega)); (· simp only [vcA, seval, vV]; with_reducible rfl)
  simp only [vcA, seval, vV]
  unfold ordS
  cases hb : Op.bytesLess a b
  · by_cases he : a = b
    · subst he; simp [boolW]
    · simp [boolW, he]
  · simp [boolW]
theorem byItems_ok (g : Sh.Glob) (l l' : List V) (hl : l.length ≤ maxLen) (H : ∀ (i : Nat) x y, l[i]? = some x → l'[i]? = some y → SCalls Tryz.prog g 32 [tv x, tv y] [] (I (cmpV x y)) []) :
    SCalls Tryz.prog g 72 [.pv (.sl 4 (V.rows l)), .pv (.sl 4 (V.rows l')), .pv (.v (.func (.func 32) #[] #[]))] [] (I (cmpL l l')) [] := by
  refine call_of0 hmix tf_val_byItems_api_Val_ rfl ?_
  simp only [vcA, seval, vV]
  refine v_loop (σ := { i : Nat // i ≤ min l.length l'.length ∧ cmpL l l' = cmpL (l.drop i) (l'.drop i) }) (fun i => ⟨[(0, .pv (.sl 4 (V.rows l))), (1, .pv (.sl 4 (V.rows l'))), (2, .pv (.v (.func (.func 32) #[] #[]))), (13, I (min (l.length : Int) (l'.length : Int))), (14, I (i.1 : Int))], [], [], []⟩) (fun i => min l.length l'.length - i.1) ⟨0, Nat.zero_le _, rfl⟩ (lw_eq rfl) ?_
  rintro ⟨i, hi, hc⟩
  simp only [vcA, seval, vV]
  have hm : maxLen = 9223372036854775807 := rfl
  refine ⟨fun hlt => ?_, fun hge => ?_⟩
  · refine ⟨by omega, fun x hx => ⟨by omega, fun y hy => ?_⟩⟩
    (with_reducible apply v_callv); (· simp only [vcA, seval, vV]; with_reducible rfl); (· exact H i x y hx hy); (· rfl); (· simp only [vcA, seval, vV]; with_reducible rfl)
    have hd := cmpL_drop hx hy
    rw [← hc] at hd
    unfold thenI at hd
    simp only [vcA, seval, vV]
    refine ⟨fun h0 => ?_, fun h0 => ?_⟩
    · rw [if_pos h0] at hd
      have w1 : IntKind.i64.wrap ((i : Int) + 1) = (i : Int) + 1 := wrap64 (by omega) (by omega)
      refine loopK_of ⟨i + 1, by omega, hd⟩ (by show _ - (i + 1) < _ - i; omega) ?_
      apply lw_of <;> simp [leL, lk, sv, Nat.beq, I, S, ES.kill, has, drp, nilT, w1]
    · rw [if_neg h0] at hd
      rw [hd]
  · (with_reducible apply v_call); (· simp only [vcA, seval, vV]; with_reducible rfl); (· exact cmpI_ok g _ _); (· first | rfl | (simp only [vcA, seval]; omega)); (· simp only [vcA, seval, vV]; with_reducible rfl)
    simp only [vcA, seval, vV]
    rw [hc, cmpL_end (by omega)]
theorem compare_n (g : Sh.Glob) : ∀ (n : Nat) (x y : V), SizeOf.sizeOf x ≤ n → VSmall x → SCalls Tryz.prog g 32 [tv x, tv y] [] (I (cmpV x y)) []
  | 0, x, y, h, _ => by cases x; simp at h
  | n + 1, x, y, h, hx => by
    have HB := byItems_ok g x.l y.l hx.len (fun i a b ha hb => compare_n g n a b (by
      have hm := List.mem_of_getElem? ha
      have := List.sizeOf_lt_of_mem hm
      cases x; simp [V.l] at h this ⊢; omega) (hx.sub (List.mem_of_getElem? ha)))
    refine call_of0 hmix tf_val_Compare rfl ?_
    rw [cmpV_eq]
    simp only [vcA, seval, vV]
    (with_reducible apply v_call); (· simp only [vcA, seval, vV]; with_reducible rfl); (· exact cmpI_ok g _ _); (· first | rfl | (simp only [vcA, seval]; omega)); (· simp only [vcA, seval, vV]; with_reducible rfl)
    simp only [vcA, seval, vV]
    refine ⟨fun h1 => ?_, fun h1 => by rw [thenI, if_neg h1]⟩
    rw [thenI, if_pos h1]
    (with_reducible apply v_call); (· simp only [vcA, seval, vV]; with_reducible rfl); (· exact cmpI_ok g _ _); (· first | rfl | (simp only [vcA, seval]; omega)); (· simp only [vcA, seval, vV]; with_reducible rfl)
    simp only [vcA, seval, vV]
    refine ⟨fun h2 => ?_, fun h2 => by rw [thenI, if_neg h2]⟩
    rw [thenI, if_pos h2]
    (with_reducible apply v_call); (· simp only [vcA, seval, vV]; with_reducible rfl); (· exact cmpS_ok g _ _); (· first | rfl | (simp only [vcA, seval]; omega)); (· simp only [vcA, seval, vV]; with_reducible rfl)
    simp only [vcA, seval, vV]
    refine ⟨fun h3 => ?_, fun h3 => by rw [thenI, if_neg h3]⟩
    rw [thenI, if_pos h3]
    (with_reducible apply v_call); (· simp only [vcA, seval, vV]; with_reducible rfl); (· exact HB); (· first | rfl | (simp only [vcA, seval]; omega)); (· simp only [vcA, seval, vV]; with_reducible rfl)
    simp only [vcA, seval, vV]
theorem compare_ok (g : Sh.Glob) (x y : V) (hx : VSmall x) : SCalls Tryz.prog g 32 [tv x, tv y] [] (I (cmpV x y)) [] := compare_n g _ x y (Nat.le_refl _) hx
theorem same_ok (g : Sh.Glob) (x y : V) (hx : VSmall x) : SCalls Tryz.prog g 34 [tv x, tv y] [] (.pv (.v (.bool (decide (cmpV x y = 0))))) [] := by
  refine call_of0 hmix tf_val_Same rfl ?_
  simp only [vcA, seval, vV]
  (with_reducible apply v_call); (· simp only [vcA, seval, vV]; with_reducible rfl); (· exact compare_ok g x y hx); (· first | rfl | (simp only [vcA, seval]; omega)); (· simp only [vcA, seval, vV]; with_reducible rfl)
  simp only [vcA, seval, vV]
/-- The document's loop over two lists. -/
theorem refLoop (g : Sh.Glob) (x y : V) (hx : VSmall x) (H : ∀ (i : Nat) a b, x.l[i]? = some a → y.l[i]? = some b → SCalls Tryz.prog g 33 [tv a, tv b] [] (I (cmpV a b)) []) (c : Int) :
    swp Tryz.prog g (.loop c_moraineref03_Compare_12) (blockW 0 (thenW (swp Tryz.prog g (.seq (.seq c_moraineref03_Compare_13 (.cond (.tmp 67) (.seq c_moraineref03_Compare_14 .ret) .skip)) (.seq c_moraineref03_Compare_15 .ret)) (Post0 [.tmp 4] (I (thenI c (cmpL x.l y.l))))) (Post0 [.tmp 4] (I (thenI c (cmpL x.l y.l))))))
      ⟨[(2, .ptr 2 0), (3, .ptr 3 0), (5, I c), (6, I 0)], [(2, [I x.k, I x.n, S (str x.s), .pv (.sl 4 (V.rows x.l))]), (3, [I y.k, I y.n, S (str y.s), .pv (.sl 4 (V.rows y.l))])], [], []⟩ := by
  refine v_loop (σ := { p : Nat × Int // p.1 ≤ min x.l.length y.l.length ∧ thenI c (cmpL x.l y.l) = thenI p.2 (cmpL (x.l.drop p.1) (y.l.drop p.1)) })
    (fun p => ⟨[(2, .ptr 2 0), (3, .ptr 3 0), (5, I p.1.2), (6, I (p.1.1 : Int))], [(2, [I x.k, I x.n, S (str x.s), .pv (.sl 4 (V.rows x.l))]), (3, [I y.k, I y.n, S (str y.s), .pv (.sl 4 (V.rows y.l))])], [], []⟩)
    (fun p => min x.l.length y.l.length - p.1.1) ⟨(0, c), Nat.zero_le _, rfl⟩ (lw_eq rfl) ?_
  rintro ⟨⟨i, d⟩, hi, hc⟩
  have hm : maxLen = 9223372036854775807 := rfl
  have hl := hx.len
  simp only at hi hc
  simp only [vcA, seval, vV]
  refine ⟨fun h0 => ⟨fun h1 => ⟨fun h2 => ⟨by omega, fun a ha => ⟨by omega, fun b hb => ?_⟩⟩, fun h2 => ⟨fun _ => ?_, fun h => absurd h0 h⟩⟩, fun h1 => ⟨fun _ => ?_, fun h => absurd h0 h⟩⟩, fun h0 => ⟨fun h => absurd h h0, fun _ => ?_⟩⟩
  · (with_reducible apply v_call); (· simp only [vcA, seval, vV]; with_reducible rfl); (· exact H i a b ha hb); (· first | rfl | (simp only [vcA, seval]; omega)); (· simp only [vcA, seval, vV]; with_reducible rfl)
    simp only [vcA, seval, vV]
    have w1 : IntKind.i64.wrap ((i : Int) + 1) = (i : Int) + 1 := wrap64 (by omega) (by omega)
    refine loopK_of ⟨(i + 1, cmpV a b), by show i + 1 ≤ _; omega, ?_⟩ (by show _ - (i + 1) < _ - i; omega) ?_
    · show _ = thenI (cmpV a b) (cmpL (x.l.drop (i + 1)) (y.l.drop (i + 1)))
      rw [hc, h0, cmpL_drop ha hb]; simp [thenI]
    apply lw_of <;> simp [leL, lk, sv, Nat.beq, I, S, ES.kill, has, drp, nilT, w1]
  · (with_reducible apply v_call); (· simp only [vcA, seval, vV]; with_reducible rfl); (· exact order_ok g _ _); (· first | rfl | (simp only [vcA, seval]; omega)); (· simp only [vcA, seval, vV]; with_reducible rfl)
    simp only [vcA, seval, vV]
    rw [hc, h0, thenI, if_pos rfl, cmpL_end (by omega)]
  · (with_reducible apply v_call); (· simp only [vcA, seval, vV]; with_reducible rfl); (· exact order_ok g _ _); (· first | rfl | (simp only [vcA, seval]; omega)); (· simp only [vcA, seval, vV]; with_reducible rfl)
    simp only [vcA, seval, vV]
    rw [hc, h0, thenI, if_pos rfl, cmpL_end (by omega)]
  · rw [hc, thenI, if_neg h0]
theorem refCompare_n (g : Sh.Glob) : ∀ (n : Nat) (x y : V), SizeOf.sizeOf x ≤ n → VSmall x → SCalls Tryz.prog g 33 [tv x, tv y] [] (I (cmpV x y)) []
  | 0, x, y, h, _ => by cases x; simp at h
  | n + 1, x, y, h, hx => by
    have H : ∀ (i : Nat) a b, x.l[i]? = some a → y.l[i]? = some b → SCalls Tryz.prog g 33 [tv a, tv b] [] (I (cmpV a b)) [] := fun i a b ha hb => refCompare_n g n a b (by
      have hm := List.mem_of_getElem? ha
      have := List.sizeOf_lt_of_mem hm
      cases x; simp [V.l] at h this ⊢; omega) (hx.sub (List.mem_of_getElem? ha))
    have HL := refLoop g x y hx H
    refine call_of0 hmix tf_moraineref03_Compare rfl ?_
    rw [cmpV_eq]
    by_cases h1 : ordI x.k y.k = 0
    · rw [h1, thenI, if_pos rfl]
      simp only [vcA, seval, vV]
      (with_reducible apply v_call); (· simp only [vcA, seval, vV]; with_reducible rfl); (· exact order_ok g _ _); (· first | rfl | (simp only [vcA, seval]; omega)); (· simp only [vcA, seval, vV]; with_reducible rfl)
      simp only [vcA, seval, vV, h1]
      (with_reducible apply v_call); (· simp only [vcA, seval, vV]; with_reducible rfl); (· exact order_ok g _ _); (· first | rfl | (simp only [vcA, seval]; omega)); (· simp only [vcA, seval, vV]; with_reducible rfl)
      by_cases h2 : ordI x.n y.n = 0
      · rw [h2, thenI, if_pos rfl]
        cases hb : Op.bytesLess x.s y.s
        · by_cases he : x.s = y.s
          · have e : ordS x.s y.s = 0 := by rw [ordS, hb]; simp [he]
            have he' : (x.s == y.s) = true := by simp [he]
            rw [e]
            simp only [vcA, seval, vV, h2, hb, he']
            exact HL 0
          · have e : ordS x.s y.s = 1 := by simp [ordS, hb, he]
            have he' : (x.s == y.s) = false := by simp [he]
            rw [e]
            simp only [vcA, seval, vV, h2, hb, he']
            exact HL 1
        · have e : ordS x.s y.s = -1 := by simp [ordS, hb]
          rw [e]
          simp only [vcA, seval, vV, h2, hb]
          exact HL (-1)
      · rw [show thenI (ordI x.n y.n) (thenI (ordS x.s y.s) (cmpL x.l y.l)) = thenI (ordI x.n y.n) (cmpL x.l y.l) by simp [thenI, h2]]
        simp only [vcA, seval, vV, h2]
        exact HL _
    · rw [show thenI (ordI x.k y.k) (thenI (ordI x.n y.n) (thenI (ordS x.s y.s) (cmpL x.l y.l))) = thenI (ordI x.k y.k) (cmpL x.l y.l) by simp [thenI, h1]]
      simp only [vcA, seval, vV]
      (with_reducible apply v_call); (· simp only [vcA, seval, vV]; with_reducible rfl); (· exact order_ok g _ _); (· first | rfl | (simp only [vcA, seval]; omega)); (· simp only [vcA, seval, vV]; with_reducible rfl)
      simp only [vcA, seval, vV, h1]
      exact HL _
theorem refCompare_ok (g : Sh.Glob) (x y : V) (hx : VSmall x) : SCalls Tryz.prog g 33 [tv x, tv y] [] (I (cmpV x y)) [] := refCompare_n g _ x y (Nat.le_refl _) hx
theorem refSame_ok (g : Sh.Glob) (x y : V) (hx : VSmall x) : SCalls Tryz.prog g 19 [tv x, tv y] [] (.pv (.v (.bool (decide (cmpV x y = 0))))) [] := by
  refine call_of0 hmix tf_moraineref03_Same rfl ?_
  simp only [vcA, seval, vV]
  (with_reducible apply v_call); (· simp only [vcA, seval, vV]; with_reducible rfl); (· exact refCompare_ok g x y hx); (· first | rfl | (simp only [vcA, seval]; omega)); (· simp only [vcA, seval, vV]; with_reducible rfl)
  simp only [vcA, seval, vV]
end Go.Proofs.YthjphllpkcnehaaGreatDoor
end

section
/- The statements' ValOf. No statement of the program is proved here. -/
namespace Go.Proofs.YthjphllpkcnehaaGreatDoor
open Go Go.RowKit Go.Mor Go.Sh Go.Sh.Cd1
set_option maxRecDepth 100000
set_option maxHeartbeats 2000000
def oneOf (r : R1) : V := valOne (pickI r.k 5) r.n r.s
def onesTo (l : List R1) (i : Nat) : List V := (l.take i).map oneOf
theorem onesTo_succ {l : List R1} {i : Nat} {r : R1} (h : l[i]? = some r) : onesTo l (i + 1) = onesTo l i ++ [oneOf r] := by
  unfold onesTo; rw [List.take_add_one, h]; simp
theorem onesTo_len {l : List R1} {i : Nat} (h : i ≤ l.length) : (onesTo l i).length = i := by simp [onesTo]; omega
theorem oneOf_l (r : R1) : (oneOf r).l = [] := valOne_l _ _ _
theorem rowsApp (l : List V) (y : V) : V.rows (l ++ [y]) = V.rows l ++ [V.row y] := by simp [rows_eq]
theorem rowNil {y : V} (h : y.l = []) : V.row y = [.v (.int .i64 y.k), .v (.int .i64 y.n), .v (.string (str y.s)), .sl 4 []] := by rw [row4, h, V.rows_nil]
theorem valOf_list (g : Sh.Glob) (x : RawV) (hx : x.ok) (hk5 : ¬ pickI x.k 7 < 5) : SCalls Tryz.prog g 16 [x.tv] [] (tv (valOf x)) [] := by
  refine call_of1 hmix tf_morainelaw03_ValOf rfl rfl ?_
  obtain ⟨hk, hn, hs, hl, hlen⟩ := hx
  simp only [vcA, seval, RawV.tv, I, S]
  (with_reducible apply v_call); (· simp only [vcA, seval, I, S]; with_reducible rfl); (· exact pickI_ok g _ _ hk (by decide)); (· first | rfl | (simp only [vcA, seval]; omega)); (· simp only [vcA, seval, I, S]; with_reducible rfl)
  simp only [vcA, seval, hk5, I, S]
  refine v_loop (σ := { i : Nat // i ≤ x.l.length ∧ i ≤ 12 })
    (fun i => ⟨[(1, .ptr 1 0), (2, .ptr 2 0), (5, .ptr 5 0), (6, I (i.1 : Int))], [(1, [I x.k, I x.n, S (str x.s), .pv (.sl 3 (x.l.map R1.row))]), (2, [I 0, I 0, S ⟨#[]⟩, nilT]), (5, [I 5, I 0, S ⟨#[]⟩, .own 3000 4 (V.rows (onesTo x.l i.1))])], [(3000, (42, 4, i.1))], []⟩)
    (fun i => 12 - i.1) ⟨0, Nat.zero_le _, Nat.zero_le _⟩ ?_ ?_
  · refine ES.Lw.trans ?_ (adB_lw (x := 5) (j := 3) (d := 3000) (e := 42) (W := 4) (.inr (by decide)) (by decide) rfl (by simp only [vcA, seval]) rfl)
    exact lw_eq rfl
  rintro ⟨i, hi, h12⟩
  have ol := onesTo_len hi
  simp only [vcA, seval, vV, nilT]
  have he : valOf x = .mk 5 0 [] (oneL x.l) := by unfold valOf; rw [if_neg hk5]
  have hend : (i = x.l.length ∨ i = 12) → onesTo x.l i = oneL x.l := by
    intro h
    unfold oneL onesTo
    rcases h with h | h
    · rw [h, List.take_of_length_le (Nat.le_refl _), List.take_of_length_le (by omega)]; rfl
    · rw [h]; rfl
  refine ⟨fun h1 => ⟨fun h2 => .inl ⟨by omega, fun r hr => ?_⟩, fun h2 => ?_⟩, fun h1 => ?_⟩
  · obtain ⟨o1, o2, o3⟩ := hl r (List.mem_of_getElem? hr)
    (with_reducible apply v_call); (· simp only [vcA, seval, I, S]; with_reducible rfl); (· exact pickI_ok g _ _ o1 (by decide)); (· first | rfl | (simp only [vcA, seval]; omega)); (· simp only [vcA, seval, I, S]; with_reducible rfl)
    simp only [vcA, seval, vV]
    refine ⟨by omega, fun r' hr' => ?_⟩
    rw [hr] at hr'; cases hr'
    have HV := (valOne_ok g (pickI r.k 5) r.k r.n r.s o2 o3).out (nv_tv (valOne_l _ _ _))
    unfold tv at HV
    rw [valOne_l, V.rows_nil] at HV
    (with_reducible apply v_call); (· simp only [vcA, seval, vV]; with_reducible rfl); (· exact HV); (· first | rfl | (simp only [vcA, seval]; omega)); (· simp only [vcA, seval, vV]; with_reducible rfl)
    simp only [vcA, seval, vV, ol]
    refine ⟨⟨by omega, by have hm : maxLen = 9223372036854775807 := rfl; omega⟩, loopK_of ⟨i + 1, by omega, by omega⟩ (by show 12 - (i + 1) < 12 - i; omega) ?_⟩
    have w1 : IntKind.i64.wrap ((i : Int) + 1) = ((i + 1 : Nat) : Int) := by rw [wrap64 (by omega) (by omega)]; omega
    refine lw_eq ?_
    simp only [onesTo_succ hr, rowsApp, rowNil (oneOf_l r), w1]
    rfl
  · rw [he, hend (.inr (by omega))]; rfl
  · rw [he, hend (.inl (by omega))]; rfl
theorem valOf_l_small {x : RawV} (h : pickI x.k 7 < 5) : (valOf x).l = [] := by
  unfold valOf; rw [if_pos h]; split
  · rfl
  · exact valOne_l _ _ _
theorem valOf_ok (g : Sh.Glob) (x : RawV) (hx : x.ok) : SCalls Tryz.prog g 16 [x.tv] [] (tv (valOf x)) [] := by
  by_cases h : pickI x.k 7 < 5
  · exact (valOf_small g x hx h).out (nv_tv (valOf_l_small h))
  · exact valOf_list g x hx h
end Go.Proofs.YthjphllpkcnehaaGreatDoor
end

section
/- Calls of package val that are known, with the package's variables. No statement of the program is proved here. -/
namespace Go.Proofs.YthjphllpkcnehaaGreatDoor
open Go Go.RowKit Go.Mor Go.Sh Go.Sh.Cd1
theorem fits_ok (a0 a1 : Addr) (n : Nat) (x : V) (t : Ty) (hx : VOk x) (hl : x.l.length ≤ maxLen) : SCalls Tryz.prog (gl a0 a1 n) 36 [tv x, tyT t] [] (.pv (.v (.bool (fitsV x t)))) [] := sc_up (fits_ok0 n x t hx hl)
theorem rightV_ok (a0 a1 : Addr) (n : Nat) (x : V) (hx : VOk x) : SCalls Tryz.prog (gl a0 a1 n) 28 [tv x] [] (.pv (.v (.bool (rightV x)))) [] := sc_up (rightV_ok0 n x hx)
theorem rightText_ok (a0 a1 : Addr) (m : Nat) (t : List UInt8) (ht : t.length ≤ 9223372036854775807) : SCalls Tryz.prog (gl a0 a1 m) 64 [S (str t)] [] (.pv (.v (.bool (rightText t)))) [] := sc_up (rightText_ok0 m t ht)
end Go.Proofs.YthjphllpkcnehaaGreatDoor
end
