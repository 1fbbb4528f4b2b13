/- Merged texts: CSJoins. No statement of the program is proved here. -/
import Derived.Test.YtmiokadmddjccaaGreatDoorM1
import Derived.Test.YtmiokadmddjccaaGreatDoorM2
import Derived.Test.YtmiokadmddjccaaGreatDoorM3
import Derived.Test.YtmiokadmddjccaaGreatDoorM4
import Derived.Test.YtmiokadmddjccaaGreatDoorM5
import Derived.Test.YtmiokadmddjccaaGreatDoorM6
import Derived.Test.YtmiokadmddjccaaGreatDoorM7
import Derived.Test.YtmiokadmddjccaaGreatDoorM8
import Derived.Test.YtmiokadmddjccaaGreatDoorEvalJoins9
set_option linter.unusedSimpArgs false
set_option linter.unusedVariables false
section
namespace Go.Proofs.YtmiokadmddjccaaGreatDoor.EvalJoins
open Go.ChangeShapes Go.WideShapes Go.ChangeAt Go.RowKit Go.Lib Go.Mor Go.Deep Go.Joins
open Go.ChangeMaps (open_string shut_string)
theorem EvalJoins_any (W : World) (x0 : List UInt8) (x1 : List UInt8) (x2 : List UInt8) (hx0 : x0.length ≤ 9223372036854775807) (hx1 : x1.length ≤ 9223372036854775807) (hx2 : x2.length ≤ 9223372036854775807) (hG : (glE W.heap.size).G W) :
  Calls Tryz.prog 10 #[.string (str x0), .string (str x1), .string (str x2)] W fun e w' => e = .returned (.bool true) ∧ Below W.heap.size W w' :=
 z116 (vs := [.string (str x0), .string (str x1), .string (str x2)]) (evalJoins_ok W.heap.size x0 x1 x2 hx0 hx1 hx2) hG rfl (fun j q u hq hu => by
  match j with
  | 0 => simp at hq hu; subst hq; subst hu; exact .pv (.v _)
  | 1 => simp at hq hu; subst hq; subst hu; exact .pv (.v _)
  | 2 => simp at hq hu; subst hq; subst hu; exact .pv (.v _)
  | j + 3 => simp at hq)
theorem z49 (os : Os) {H : Type} (enc : TypeId × Value → H) :
  (OpenSpec.ofChange Rows.evalJoinsSpec).preRow enc Tryz.prog Tryz.f10 Rows.evalJoinsRow.domain false Rows.evalJoinsRow.laid ((z30 os).forCall (fun _ _ => 0) ⟨#[], #[.string ⟨#[]⟩, .string ⟨#[]⟩, .string ⟨#[]⟩], []⟩).memory #[.string ⟨#[]⟩, .string ⟨#[]⟩, .string ⟨#[]⟩] := by
 have hw : (DataW.whole enc Tryz.prog ((z30 os).forCall (fun _ _ => 0) ⟨#[], #[.string ⟨#[]⟩, .string ⟨#[]⟩, .string ⟨#[]⟩], []⟩).memory Tryz.f10.params.toList Rows.evalJoinsSpec.vars false (#[.string ⟨#[]⟩, .string ⟨#[]⟩, .string ⟨#[]⟩] : Array Value).toList 8).map (fun x => (x.1, x.2.1)) =
   some ([.lit (.string []), .lit (.string []), .lit (.string [])], []) := by kernel_rfl
 obtain ⟨⟨x1, x2, x3⟩, hx, hx1⟩ := Option.map_eq_some_iff.1 hw
 simp only [Prod.mk.injEq] at hx1
 obtain ⟨rfl, rfl⟩ := hx1
 exact OpenSpec.preRow_of_cond 8 hx (by kernel_rfl) (fun k hk => by cases hk) (by kernel_rfl) (z118 os _)
set_option maxRecDepth 100000 in
set_option maxHeartbeats 2000000 in
theorem lifted (os : Os) (started : os.Started) (H : Type) (enc : TypeId × Value → H) (F : Stop.Interp) :
  ReturnsInHanded {} Tryz.checked os 10 .any ((OpenSpec.ofChange Rows.evalJoinsSpec).preRow enc Tryz.prog Tryz.f10 Rows.evalJoinsRow.domain false Rows.evalJoinsRow.laid) (((OpenSpec.ofChange Rows.evalJoinsSpec).at F).post enc Tryz.prog Tryz.f10 false true false false) := by
 refine returnsInHanded_of_row (C := Tryz.checked) (s := (OpenSpec.ofChange Rows.evalJoinsSpec)) own started (by kernel_rfl) Tryz.func10
  (witness_row_atRef (enc := enc) (C := Tryz.checked) false (z30 os) #[.string ⟨#[]⟩, .string ⟨#[]⟩, .string ⟨#[]⟩] rfl (by kernel_rfl) (by kernel_rfl) (by kernel_rfl) (z49 os enc)) ?_
 intro W base args ds gs before hval0 hW _ hcond _ hL hsh _
 have hval : ∀ (j : Nat) t v, Tryz.f10.params[j]? = some t → args[j]? = some v → Value.okWide Tryz.prog W .any base t v := hval0
 have hW' : DataW.Whole enc Tryz.prog Tryz.f10.params.toList Rows.evalJoinsSpec.vars false W args.toList ds gs before := hW
 obtain ⟨p, q, hA0, hV0, rfl, _, _⟩ := hW
 have hA : DataW.TrodAll enc Tryz.prog W 0 (fun _ => true) true Tryz.f10.params.toList args.toList ds p := hA0
 rw [Tryz.params10] at hA hval
 obtain ⟨rfl, rfl⟩ := trodVars_none hV0
 clear hA0 hV0 hval0
 have hG := z72 hL hsh
 obtain ⟨v0, vs0, d0, ds0, p0, q0, hargs, rfl, rfl, h0, r0⟩ := trodAll_cons hA
 obtain ⟨v1, vs1, d1, ds1, p1, q1, rfl, rfl, rfl, h1, r1⟩ := trodAll_cons r0
 obtain ⟨v2, vs2, d2, ds2, p2, q2, rfl, rfl, rfl, h2, r2⟩ := trodAll_cons r1
 obtain ⟨rfl, rfl, rfl⟩ := trodAll_nil r2
 obtain rfl : args = #[v0, v1, v2] := by cases args; simp_all
 obtain ⟨x0, rfl, rfl, rfl, wx0⟩ := open_string Tryz.underlying9 (hval 0 _ v0 rfl rfl) h0
 obtain ⟨x1, rfl, rfl, rfl, wx1⟩ := open_string Tryz.underlying9 (hval 1 _ v1 rfl rfl) h1
 obtain ⟨x2, rfl, rfl, rfl, wx2⟩ := open_string Tryz.underlying9 (hval 2 _ v2 rfl rfl) h2
 have hc := EvalJoins_any W x0.data.toList x1.data.toList x2.data.toList (str_len wx0) (str_len wx1) (str_len wx2) hG
 rw [str_of, str_of, str_of] at hc
 refine (hc).mono ?_
 rintro e W' ⟨rfl, hb⟩
 exact ⟨_, rfl, lifts 10 Tryz.f10 Rows.evalJoinsSpec rfl (by kernel_rfl) (by kernel_rfl) rfl hW' hb⟩
set_option maxHeartbeats 0 in
theorem closed : joinedFacts Tryz.pinned.checked.prog 10 Tryz.f10 (OpenSpec.ofChange Rows.evalJoinsSpec).bare Rows.evalJoinsRow = true := by
 unfold joinedFacts
 repeat' (with_reducible refine Bool.and_eq_true_iff.2 ⟨?_, ?_⟩)
 all_goals (as_aux_lemma => kernel_rfl)
theorem said : Rows.EvalJoinsSaid :=
 OpenClaim.holds_of_cond 10 Tryz.f10 rfl rfl rfl rfl rfl rfl rfl ⟨rfl, rfl, rfl, rfl, rfl⟩ rfl rfl rfl rfl rfl (by kernel_rfl) Tryz.func10 closed
  (of_decide_eq_true (by kernel_rfl)) (by unfold Func.isWrapper; rw [if_neg (of_decide_eq_false (by kernel_rfl))]; exact ⟨rfl, rfl⟩)
  (fun os started H enc _ F => by rw [OpenClaim.pre_eq_preRow]; exact lifted os started H enc F)
end Go.Proofs.YtmiokadmddjccaaGreatDoor.EvalJoins
end
