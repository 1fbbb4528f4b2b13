/- ValTells: for all two raw values, numbers, texts, types, the law returns true and leaves its arguments as they read. The listed package variables start as the program's text lays them (the tie is given). -/
import Derived.Test.YthjphllpkcnehaaGreatDoorM5
set_option linter.unusedSimpArgs false
set_option linter.unusedVariables false
namespace Go.Proofs.YthjphllpkcnehaaGreatDoor.ValTells
open Go.ChangeShapes Go.WideShapes Go.ChangeAt Go.RowKit Go.Lib Go.Mor Go.Deep Go.Joins
open Go.ChangeMaps (open_string shut_string)
open Go.Proofs.YthjphllpkcnehaaGreatDoor.Op3
theorem ValTells_any (a0 a1 : Addr) (W : World) (x0 : RawV) (x0v : Value) (x1 : RawV) (x1v : Value) (x2 : Int) (x3 : Int) (x4 : List UInt8) (x5 : Ty) (x5v : Value) (x6 : Int) (x7 : Int) (hx0 : x0.ok) (rx0 : ∀ r, Go.Sh.RelT W (envAll W) r x0.tv x0v) (hx1 : x1.ok) (rx1 : ∀ r, Go.Sh.RelT W (envAll W) r x1.tv x1v) (hx2 : I64 x2) (hx3 : I64 x3) (hx4 : x4.length ≤ 9223372036854775807) (rx5 : ∀ r, Go.Sh.RelT W (envAll W) r (tyT x5) x5v) (hx6 : I64 x6) (hx7 : I64 x7) (hG : (glA a0 a1 W.heap.size).G W) :
    Calls Tryz.prog 7 #[x0v, x1v, .int .i64 x2, .int .i64 x3, .string (str x4), x5v, .int .i64 x6, .int .i64 x7] W fun e w' => e = .returned (.bool true) ∧ Below W.heap.size W w' :=
  calls_of_sc (vs := [x0v, x1v, .int .i64 x2, .int .i64 x3, .string (str x4), x5v, .int .i64 x6, .int .i64 x7]) (valTells_ok a0 a1 W.heap.size x0 x1 x2 x3 x4 x5 x6 x7 hx0 hx1 hx2 hx3 hx4 hx6 hx7) hG rfl (fun j q u hq hu => by
    match j with
    | 0 => simp at hq hu; subst hq; subst hu; exact rx0 _
    | 1 => simp at hq hu; subst hq; subst hu; exact rx1 _
    | 2 => simp at hq hu; subst hq; subst hu; exact .pv (.v _)
    | 3 => simp at hq hu; subst hq; subst hu; exact .pv (.v _)
    | 4 => simp at hq hu; subst hq; subst hu; exact .pv (.v _)
    | 5 => simp at hq hu; subst hq; subst hu; exact rx5 _
    | 6 => simp at hq hu; subst hq; subst hu; exact .pv (.v _)
    | 7 => simp at hq hu; subst hq; subst hu; exact .pv (.v _)
    | j + 8 => simp at hq)
theorem witness_row (os : Os) {H : Type} (enc : TypeId × Value → H) :
    (OpenSpec.ofChange Rows.valTellsSpec).preRow enc Tryz.prog Tryz.f7 Rows.valTellsRow.domain false Rows.valTellsRow.laid ((laidWorld os).forCall (fun _ _ => 0) ⟨#[], #[.agg #[.int .i64 0, .int .i64 0, .string ⟨#[]⟩, .slice none 0 0], .agg #[.int .i64 0, .int .i64 0, .string ⟨#[]⟩, .slice none 0 0], .int .i64 0, .int .i64 0, .string ⟨#[]⟩, .agg #[.int .i64 0, .int .i64 0], .int .i64 0, .int .i64 0], []⟩).memory #[.agg #[.int .i64 0, .int .i64 0, .string ⟨#[]⟩, .slice none 0 0], .agg #[.int .i64 0, .int .i64 0, .string ⟨#[]⟩, .slice none 0 0], .int .i64 0, .int .i64 0, .string ⟨#[]⟩, .agg #[.int .i64 0, .int .i64 0], .int .i64 0, .int .i64 0] := by
  have hw : (DataW.whole enc Tryz.prog ((laidWorld os).forCall (fun _ _ => 0) ⟨#[], #[.agg #[.int .i64 0, .int .i64 0, .string ⟨#[]⟩, .slice none 0 0], .agg #[.int .i64 0, .int .i64 0, .string ⟨#[]⟩, .slice none 0 0], .int .i64 0, .int .i64 0, .string ⟨#[]⟩, .agg #[.int .i64 0, .int .i64 0], .int .i64 0, .int .i64 0], []⟩).memory Tryz.f7.params.toList Rows.valTellsSpec.vars false (#[.agg #[.int .i64 0, .int .i64 0, .string ⟨#[]⟩, .slice none 0 0], .agg #[.int .i64 0, .int .i64 0, .string ⟨#[]⟩, .slice none 0 0], .int .i64 0, .int .i64 0, .string ⟨#[]⟩, .agg #[.int .i64 0, .int .i64 0], .int .i64 0, .int .i64 0] : Array Value).toList 8).map (fun x => (x.1, x.2.1)) =
      some ([.agg [.lit (.int .i64 0), .lit (.int .i64 0), .lit (.string []), .nil], .agg [.lit (.int .i64 0), .lit (.int .i64 0), .lit (.string []), .nil], .lit (.int .i64 0), .lit (.int .i64 0), .lit (.string []), .agg [.lit (.int .i64 0), .lit (.int .i64 0)], .lit (.int .i64 0), .lit (.int .i64 0)], []) := by kernel_rfl
  obtain ⟨⟨x1, x2, x3⟩, hx, hx1⟩ := Option.map_eq_some_iff.1 hw
  simp only [Prod.mk.injEq] at hx1
  obtain ⟨rfl, rfl⟩ := hx1
  exact OpenSpec.preRow_of_cond 8 hx (by kernel_rfl) (fun k hk => by cases hk) (by kernel_rfl) (laid_metUTW os _)
set_option maxRecDepth 100000 in
set_option maxHeartbeats 2000000 in
theorem lifted (os : Os) (started : os.Started) (H : Type) (enc : TypeId × Value → H) (F : Stop.Interp) :
    ReturnsInHanded {} Tryz.checked os 7 .any ((OpenSpec.ofChange Rows.valTellsSpec).preRow enc Tryz.prog Tryz.f7 Rows.valTellsRow.domain false Rows.valTellsRow.laid) (((OpenSpec.ofChange Rows.valTellsSpec).at F).post enc Tryz.prog Tryz.f7 false true false false) := by
  refine returnsInHanded_of_row (C := Tryz.checked) (s := (OpenSpec.ofChange Rows.valTellsSpec)) own started (by kernel_rfl) Tryz.func7
    (witness_row_atRef (enc := enc) (C := Tryz.checked) false (laidWorld os) #[.agg #[.int .i64 0, .int .i64 0, .string ⟨#[]⟩, .slice none 0 0], .agg #[.int .i64 0, .int .i64 0, .string ⟨#[]⟩, .slice none 0 0], .int .i64 0, .int .i64 0, .string ⟨#[]⟩, .agg #[.int .i64 0, .int .i64 0], .int .i64 0, .int .i64 0] rfl (by kernel_rfl) (by kernel_rfl) (by kernel_rfl) (witness_row os enc)) ?_
  intro W base args ds gs before hval0 hW _ hcond _ hL hsh _
  have hval : ∀ (j : Nat) t v, Tryz.f7.params[j]? = some t → args[j]? = some v → Value.okWide Tryz.prog W .any base t v := hval0
  have hW' : DataW.Whole enc Tryz.prog Tryz.f7.params.toList Rows.valTellsSpec.vars false W args.toList ds gs before := hW
  obtain ⟨p, q, hA0, hV0, rfl, _, _⟩ := hW
  have hA : DataW.TrodAll enc Tryz.prog W 0 (fun _ => true) true Tryz.f7.params.toList args.toList ds p := hA0
  rw [Tryz.params7] at hA hval
  obtain ⟨rfl, rfl⟩ := trodVars_none hV0
  clear hA0 hV0 hval0
  obtain ⟨a0, a1, hG⟩ := glob_of_laidUTW hL hsh
  obtain ⟨v0, vs0, d0, ds0, p0, q0, hargs, rfl, rfl, h0, r0⟩ := trodAll_cons hA
  obtain ⟨v1, vs1, d1, ds1, p1, q1, rfl, rfl, rfl, h1, r1⟩ := trodAll_cons r0
  obtain ⟨v2, vs2, d2, ds2, p2, q2, rfl, rfl, rfl, h2, r2⟩ := trodAll_cons r1
  obtain ⟨v3, vs3, d3, ds3, p3, q3, rfl, rfl, rfl, h3, r3⟩ := trodAll_cons r2
  obtain ⟨v4, vs4, d4, ds4, p4, q4, rfl, rfl, rfl, h4, r4⟩ := trodAll_cons r3
  obtain ⟨v5, vs5, d5, ds5, p5, q5, rfl, rfl, rfl, h5, r5⟩ := trodAll_cons r4
  obtain ⟨v6, vs6, d6, ds6, p6, q6, rfl, rfl, rfl, h6, r6⟩ := trodAll_cons r5
  obtain ⟨v7, vs7, d7, ds7, p7, q7, rfl, rfl, rfl, h7, r7⟩ := trodAll_cons r6
  obtain ⟨rfl, rfl, rfl⟩ := trodAll_nil r7
  obtain rfl : args = #[v0, v1, v2, v3, v4, v5, v6, v7] := by cases args; simp_all
  obtain ⟨x0, hx0, rx0⟩ := open_raw3 (hval 0 _ v0 rfl rfl) h0
  obtain ⟨x1, hx1, rx1⟩ := open_raw3 (hval 1 _ v1 rfl rfl) h1
  obtain ⟨x2, rfl, rfl, rfl, wx2⟩ := open_int Tryz.underlying3 (hval 2 _ v2 rfl rfl) h2
  obtain ⟨x3, rfl, rfl, rfl, wx3⟩ := open_int Tryz.underlying3 (hval 3 _ v3 rfl rfl) h3
  obtain ⟨x4, rfl, rfl, rfl, wx4⟩ := open_string Tryz.underlying9 (hval 4 _ v4 rfl rfl) h4
  obtain ⟨x5, rx5⟩ := open_ty (hval 5 _ v5 rfl rfl) h5
  obtain ⟨x6, rfl, rfl, rfl, wx6⟩ := open_int Tryz.underlying3 (hval 6 _ v6 rfl rfl) h6
  obtain ⟨x7, rfl, rfl, rfl, wx7⟩ := open_int Tryz.underlying3 (hval 7 _ v7 rfl rfl) h7
  have hc := ValTells_any a0 a1 W x0 v0 x1 v1 x2 x3 x4.data.toList x5 v5 x6 x7 hx0 rx0 hx1 rx1 (bounds_i64 wx2) (bounds_i64 wx3) (str_len wx4) rx5 (bounds_i64 wx6) (bounds_i64 wx7) hG
  rw [str_of] at hc
  refine (hc).mono ?_
  rintro e W' ⟨rfl, hb⟩
  exact ⟨_, rfl, lifts 7 Tryz.f7 Rows.valTellsSpec rfl (by kernel_rfl) (by kernel_rfl) rfl hW' hb⟩
theorem said : Rows.ValTellsSaid :=
  OpenClaim.holds_of_cond 7 Tryz.f7 rfl rfl rfl rfl rfl rfl rfl ⟨rfl, rfl, rfl, rfl, rfl⟩ rfl rfl rfl rfl rfl (by kernel_rfl) Tryz.func7 (by kernel_rfl)
    (of_decide_eq_true (by kernel_rfl)) (by unfold Func.isWrapper; rw [if_neg (of_decide_eq_false (by kernel_rfl))]; exact ⟨rfl, rfl⟩)
    (fun os started H enc _ F => by rw [OpenClaim.pre_eq_preRow]; exact lifted os started H enc F)
theorem plain (f : FuncId) (fn : Func) (hf : Tryz.pinned.checked.prog.funcNamed "moraine/morainelaw03.ValTells" = some f) (hfn : Tryz.pinned.checked.prog.funcs[f]? = some fn) :
    true = Tryz.pinned.checked.prog.looks [] ∧ ∀ (j : Nat) t, fn.params[j]? = some t → Tryz.pinned.checked.prog.wantsStandIn t = false := by
  obtain rfl : f = 7 := Option.some.inj ((show Tryz.prog.funcNamed "moraine/morainelaw03.ValTells" = some 7 by kernel_rfl).symm.trans hf) |>.symm
  obtain rfl : fn = Tryz.f7 := (Option.some.inj (Tryz.func7.symm.trans hfn)).symm
  refine ⟨by kernel_rfl, fun j t ht => ?_⟩
  rw [Tryz.params7] at ht
  have hall : (Tryz.f7.params.all fun t => !Tryz.prog.wantsStandIn t) = true := by kernel_rfl
  rw [Tryz.params7, Array.all_eq_true] at hall
  obtain ⟨hj, rfl⟩ := Array.getElem?_eq_some_iff.1 ht
  have hj2 := hall j hj
  rw [Bool.not_eq_true'] at hj2
  exact hj2
theorem card : Rows.ValTellsCardSaid :=
  Claim7.holds_tied_plain_at .later [] _ _ _ _ said (fun _ h => by cases h) (by kernel_rfl) (fun _ h => by cases h) valTells_row_tie rfl ⟨rfl, rfl⟩ (by kernel_rfl) rfl plain (by kernel_rfl)
end Go.Proofs.YthjphllpkcnehaaGreatDoor.ValTells
