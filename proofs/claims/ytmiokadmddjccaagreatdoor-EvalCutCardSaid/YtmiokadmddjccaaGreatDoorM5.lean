/- Merged texts: Zg10. No statement of the program is proved here. -/
import Derived.Test.YtmiokadmddjccaaGreatDoorM1
import Derived.Test.YtmiokadmddjccaaGreatDoorM2
import Derived.Test.YtmiokadmddjccaaGreatDoorM3
import Derived.Test.YtmiokadmddjccaaGreatDoorM4
set_option linter.unusedSimpArgs false
set_option linter.unusedVariables false
section
namespace Go.Proofs.YtmiokadmddjccaaGreatDoor
open Go Go.RowKit Go.Mor Go.Sh Go.Sh.Cd1 Go.Sh.Cd6
set_option maxRecDepth 100000
set_option maxHeartbeats 4000000
theorem checkGo_fit : ∀ {fs : List Fld} {vs : List V} {k : Nat}, (z81 k fs vs).2 = 0 → ∀ (i : Nat) f v, fs[i]? = some f → vs[i]? = some v → fitsV v f.t = true
 | [], _, _, _, i, f, v, h, _ => by simp at h
 | _ :: _, [], _, _, i, f, v, _, h => by simp at h
 | g :: fs, u :: vs, k, hk, i, f, v, hf, hv => by
  unfold z81 at hk
  split at hk
  ·rename_i h1
   cases i with
   | zero => cases hf; cases hv; exact h1
   | succ i => exact checkGo_fit hk i f v (by simpa using hf) (by simpa using hv)
  ·cases hk
theorem once_all {all : List Fld} : ∀ {l : List Fld} {k : Nat}, onceGo all k l = true → ∀ f ∈ l, z48 f = true
 | [], _, _, f, h => by cases h
 | g :: l, k, ho, f, h => by
  rw [once_step] at ho
  simp only [Bool.and_eq_true] at ho
  rcases List.mem_cons.1 h with rfl | h
  ·exact ho.1.1
  ·exact once_all ho.2 f h
theorem check_fit {c : Cls} {vs : List V} (h : (check c vs).2 = 0) : FitAll c.fs vs := by
 unfold check at h
 split at h
 ·cases h
 rename_i hr
 split at h
 ·cases h
 rename_i hl
 have hr : z26 c = true := by simpa using hr
 unfold z26 at hr
 simp only [Bool.and_eq_true] at hr
 refine ⟨fun f hf => ?_, by omega, checkGo_fit h⟩
 have := once_all hr.2 f hf
 unfold z48 at this
 simp only [Bool.and_eq_true] at this
 exact this.1.2
def typeT (r : Ty × Int) : TV := .tuple [tyT r.1, I r.2]
theorem evType_ok (m : Nat) (c : Cls) (e : V) (hc : ClsOk c) (he : ESmall e) : SCalls Tryz.prog (glE m) 55 [tv e, clT c] [] (typeT (typeA c e)) [] := by
 have H1 := sc_0E (exprRight_ok m e he)
 have H2 := classRight_ok (glE m) c hc
 have H3 := calls_ok (glE m)
 have H4 := fun h => typeOf_ok (glE m) c (.v (.slice none 0 0)) hc.len 8 e h he
 unfold typeA
 refine z7 hmix tf_23 rfl ?_
 unfold clT typeT tyT B at *
 cases h1 : rightE e
 ·rw [h1] at H1
  simp only [vcA, seval, vV, cmV]
  (with_reducible apply v_call); (· simp only [vcA, seval, vV, cmV]; with_reducible rfl); (· rfl); (· exact H1); (· first | rfl | (simp only [vcA, seval]; omega)); (· simp only [vcA, seval, vV, cmV]; with_reducible rfl)
  simp only [vcA, seval, vV, cmV]
  rfl
 rw [h1] at H1
 have H4 := H4 (rightE_inv h1).1
 rw [if_pos rfl]
 cases h2 : z26 c
 ·rw [h2] at H2
  simp only [vcA, seval, vV, cmV]
  (with_reducible apply v_call); (· simp only [vcA, seval, vV, cmV]; with_reducible rfl); (· rfl); (· exact H1); (· first | rfl | (simp only [vcA, seval]; omega)); (· simp only [vcA, seval, vV, cmV]; with_reducible rfl)
  simp only [vcA, seval, vV, cmV]
  (with_reducible apply v_call); (· simp only [vcA, seval, vV, cmV]; with_reducible rfl); (· rfl); (· exact H2); (· first | rfl | (simp only [vcA, seval]; omega)); (· simp only [vcA, seval, vV, cmV]; with_reducible rfl)
  simp only [vcA, seval, vV, cmV]
  rfl
 rw [h2] at H2
 rw [if_pos rfl]
 unfold tyB scp B at H4
 cases h3 : (typeV c.fs 8 e).2
 ·rw [h3] at H4
  simp only [vcA, seval, vV, cmV]
  (with_reducible apply v_call); (· simp only [vcA, seval, vV, cmV]; with_reducible rfl); (· rfl); (· exact H1); (· first | rfl | (simp only [vcA, seval]; omega)); (· simp only [vcA, seval, vV, cmV]; with_reducible rfl)
  simp only [vcA, seval, vV, cmV]
  (with_reducible apply v_call); (· simp only [vcA, seval, vV, cmV]; with_reducible rfl); (· rfl); (· exact H2); (· first | rfl | (simp only [vcA, seval]; omega)); (· simp only [vcA, seval, vV, cmV]; with_reducible rfl)
  simp only [vcA, seval, vV, cmV]
  (with_reducible apply v_call); (· simp only [vcA, seval, vV, cmV]; with_reducible rfl); (· rfl); (· exact H3); (· first | rfl | (simp only [vcA, seval]; omega)); (· simp only [vcA, seval, vV, cmV]; with_reducible rfl)
  simp only [vcA, seval, vV, cmV]
  (with_reducible apply v_call); (· simp only [vcA, seval, vV, cmV]; with_reducible rfl); (· rfl); (· exact H4); (· first | rfl | (simp only [vcA, seval]; omega)); (· simp only [vcA, seval, vV, cmV]; with_reducible rfl)
  simp only [vcA, seval, vV, cmV]
  rfl
 ·rw [h3] at H4
  simp only [vcA, seval, vV, cmV]
  (with_reducible apply v_call); (· simp only [vcA, seval, vV, cmV]; with_reducible rfl); (· rfl); (· exact H1); (· first | rfl | (simp only [vcA, seval]; omega)); (· simp only [vcA, seval, vV, cmV]; with_reducible rfl)
  simp only [vcA, seval, vV, cmV]
  (with_reducible apply v_call); (· simp only [vcA, seval, vV, cmV]; with_reducible rfl); (· rfl); (· exact H2); (· first | rfl | (simp only [vcA, seval]; omega)); (· simp only [vcA, seval, vV, cmV]; with_reducible rfl)
  simp only [vcA, seval, vV, cmV]
  (with_reducible apply v_call); (· simp only [vcA, seval, vV, cmV]; with_reducible rfl); (· rfl); (· exact H3); (· first | rfl | (simp only [vcA, seval]; omega)); (· simp only [vcA, seval, vV, cmV]; with_reducible rfl)
  simp only [vcA, seval, vV, cmV]
  (with_reducible apply v_call); (· simp only [vcA, seval, vV, cmV]; with_reducible rfl); (· rfl); (· exact H4); (· first | rfl | (simp only [vcA, seval]; omega)); (· simp only [vcA, seval, vV, cmV]; with_reducible rfl)
  simp only [vcA, seval, vV, cmV]
def evalT (r : V × Int) : TV := if r.2 = 0 then .tuple [tv r.1, I 0] else .tuple [nv V.nil, I r.2]
theorem evEval_ok (m : Nat) (c : Cls) (e : V) (vals : List V) (hc : ClsOk c) (he : ESmall e) (hf : ∀ x ∈ vals, VFew x ∧ VOk x) (hl : vals.length ≤ 4611686018427387904) : SCalls Tryz.prog (glE m) 34 [tv e, clT c, .pv (.sl 4 (V.rows vals))] [] (evalT (evalA c vals e)) [] := by
 have H1 := evType_ok m c e hc he
 have H2 := sc_0E (classCheck_ok m c vals hc (fun x hx => ⟨(hf x hx).2, by have := (hf x hx).1.len; unfold maxLen; omega⟩) hl)
 have H3 := calls_ok (glE m)
 unfold evalA
 refine z7 hmix tf_22 rfl ?_
 unfold clT evalT typeT tyT checkT at *
 obtain ⟨t, ht⟩ : ∃ t, typeA c e = t := ⟨_, rfl⟩
 obtain ⟨k, hk⟩ : ∃ k, check c vals = k := ⟨_, rfl⟩
 rw [ht] at H1 ⊢
 rw [hk] at H2 ⊢
 by_cases h1 : t.2 = 0
 ·rw [if_neg (c := t.2 ≠ 0) (by omega)]
  by_cases h2 : k.2 = 0
  ·rw [if_neg (c := k.2 ≠ 0) (by omega)]
   obtain ⟨h3, h4⟩ : rightE e = true ∧ (typeV c.fs 8 e).2 = true := by
    unfold typeA at ht
    rw [← ht] at h1
    cases h5 : rightE e
    ·rw [h5] at h1; cases h1
    ·cases h6 : (typeV c.fs 8 e).2
     ·rw [h5, h6] at h1
      cases h7 : z26 c <;> rw [h7] at h1 <;> cases h1
     ·exact ⟨rfl, rfl⟩
   have H4 := worth_ok m c vals ⟨hc.len, check_fit (by rw [hk]; exact h2), fun v hv => (hf v hv).1⟩ 8 e (rightE_inv h3).1 he h4
   obtain ⟨r, hr⟩ : ∃ r, worthV c.fs vals 8 e = r := ⟨_, rfl⟩
   rw [hr] at H4 ⊢
   rw [if_pos rfl]
   unfold scp at H4
   unfold tv at *
   simp only [vcA, seval, vV, cmV]
   (with_reducible apply v_call); (· simp only [vcA, seval, vV, cmV]; with_reducible rfl); (· rfl); (· exact H1); (· first | rfl | (simp only [vcA, seval]; omega)); (· simp only [vcA, seval, vV, cmV]; with_reducible rfl)
   simp only [vcA, seval, vV, cmV, h1]
   (with_reducible apply v_call); (· simp only [vcA, seval, vV, cmV]; with_reducible rfl); (· rfl); (· exact H2); (· first | rfl | (simp only [vcA, seval]; omega)); (· simp only [vcA, seval, vV, cmV]; with_reducible rfl)
   simp only [vcA, seval, vV, cmV, h2]
   (with_reducible apply v_call); (· simp only [vcA, seval, vV, cmV]; with_reducible rfl); (· rfl); (· exact H3); (· first | rfl | (simp only [vcA, seval]; omega)); (· simp only [vcA, seval, vV, cmV]; with_reducible rfl)
   simp only [vcA, seval, vV, cmV]
   (with_reducible apply v_call); (· simp only [vcA, seval, vV, cmV]; with_reducible rfl); (· rfl); (· exact H4); (· first | rfl | (simp only [vcA, seval]; omega)); (· simp only [vcA, seval, vV, cmV]; with_reducible rfl)
   simp only [vcA, seval, vV, cmV]
  ·rw [if_pos (c := k.2 ≠ 0) h2, if_neg (c := k.2 = 0) h2]
   simp only [vcA, seval, vV, cmV]
   (with_reducible apply v_call); (· simp only [vcA, seval, vV, cmV]; with_reducible rfl); (· rfl); (· exact H1); (· first | rfl | (simp only [vcA, seval]; omega)); (· simp only [vcA, seval, vV, cmV]; with_reducible rfl)
   simp only [vcA, seval, vV, cmV, h1]
   (with_reducible apply v_call); (· simp only [vcA, seval, vV, cmV]; with_reducible rfl); (· rfl); (· exact H2); (· first | rfl | (simp only [vcA, seval]; omega)); (· simp only [vcA, seval, vV, cmV]; with_reducible rfl)
   simp only [vcA, seval, vV, cmV, h2]
   rfl
 ·rw [if_pos (c := t.2 ≠ 0) h1, if_neg (c := t.2 = 0) h1]
  simp only [vcA, seval, vV, cmV]
  (with_reducible apply v_call); (· simp only [vcA, seval, vV, cmV]; with_reducible rfl); (· rfl); (· exact H1); (· first | rfl | (simp only [vcA, seval]; omega)); (· simp only [vcA, seval, vV, cmV]; with_reducible rfl)
  simp only [vcA, seval, vV, cmV, h1]
  rfl
end Go.Proofs.YtmiokadmddjccaaGreatDoor
end
