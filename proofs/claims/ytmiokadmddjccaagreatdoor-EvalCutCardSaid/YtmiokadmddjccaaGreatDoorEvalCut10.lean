/- Merged texts: CSCut. No statement of the program is proved here. -/
import Derived.Test.YtmiokadmddjccaaGreatDoorM1
import Derived.Test.YtmiokadmddjccaaGreatDoorM2
import Derived.Test.YtmiokadmddjccaaGreatDoorM3
import Derived.Test.YtmiokadmddjccaaGreatDoorM4
import Derived.Test.YtmiokadmddjccaaGreatDoorM5
import Derived.Test.YtmiokadmddjccaaGreatDoorM6
import Derived.Test.YtmiokadmddjccaaGreatDoorM7
import Derived.Test.YtmiokadmddjccaaGreatDoorM8
import Derived.Test.YtmiokadmddjccaaGreatDoorEvalCut9
set_option linter.unusedSimpArgs false
set_option linter.unusedVariables false
section
namespace Go.Proofs.YtmiokadmddjccaaGreatDoor.EvalCut
open Go.ChangeShapes Go.WideShapes Go.ChangeAt Go.RowKit Go.Lib Go.Mor Go.Deep Go.Joins
open Go.ChangeMaps (open_string shut_string)
theorem EvalCut_any(W:World)(x0:Int)(x1:List UInt8)(hx0:I64 x0)(hx1:x1.length≤9223372036854775807)(hG:(glE W.heap.size).G W):
  Calls Tryz.prog 12 #[.int .i64 x0,.string (str x1)] W fun e w'=>e=.returned (.bool true)∧Below W.heap.size W w':=
 z116 (vs:=[.int .i64 x0,.string (str x1)]) (evalCut_ok W.heap.size x0 x1 hx0 hx1) hG rfl (fun j q u hq hu=>by
  match j with
  |0=>simp at hq hu;subst hq;subst hu;exact .pv (.v _)
  |1=>simp at hq hu;subst hq;subst hu;exact .pv (.v _)
  |j+2=>simp at hq)
theorem z49(os:Os){H:Type}(enc:TypeId×Value→H):
  (OpenSpec.ofChange Rows.evalCutSpec).preRow enc Tryz.prog Tryz.f12 Rows.evalCutRow.domain false Rows.evalCutRow.laid ((z30 os).forCall (fun _ _=>0) ⟨#[],#[.int .i64 0,.string ⟨#[]⟩],[]⟩).memory #[.int .i64 0,.string ⟨#[]⟩]:=by
 have hw:(DataW.whole enc Tryz.prog ((z30 os).forCall (fun _ _=>0) ⟨#[],#[.int .i64 0,.string ⟨#[]⟩],[]⟩).memory Tryz.f12.params.toList Rows.evalCutSpec.vars false (#[.int .i64 0,.string ⟨#[]⟩]:Array Value).toList 8).map (fun x=>(x.1,x.2.1))=
   some ([.lit (.int .i64 0),.lit (.string [])],[]):=by kernel_rfl
 obtain⟨⟨x1,x2,x3⟩,hx,hx1⟩:=Option.map_eq_some_iff.1 hw;simp only[Prod.mk.injEq]at hx1;obtain⟨rfl,rfl⟩:=hx1;exact OpenSpec.preRow_of_cond 8 hx (by kernel_rfl) (fun k hk=>by cases hk) (by kernel_rfl) (z118 os _)
set_option maxRecDepth 100000 in
set_option maxHeartbeats 2000000 in
theorem lifted(os:Os)(started:os.Started)(H:Type)(enc:TypeId×Value→H)(F:Stop.Interp):
  ReturnsInHanded {} Tryz.checked os 12 .any ((OpenSpec.ofChange Rows.evalCutSpec).preRow enc Tryz.prog Tryz.f12 Rows.evalCutRow.domain false Rows.evalCutRow.laid) (((OpenSpec.ofChange Rows.evalCutSpec).at F).post enc Tryz.prog Tryz.f12 false true false false):=by
 refine returnsInHanded_of_row (C:=Tryz.checked) (s:=(OpenSpec.ofChange Rows.evalCutSpec)) own started (by kernel_rfl) Tryz.func12
  (witness_row_atRef (enc:=enc) (C:=Tryz.checked) false (z30 os) #[.int .i64 0,.string ⟨#[]⟩] rfl (by kernel_rfl) (by kernel_rfl) (by kernel_rfl) (z49 os enc)) ?_
 intro W base args ds gs before hval0 hW _ hcond _ hL hsh _;have hval:∀(j:Nat) t v,Tryz.f12.params[j]?=some t→args[j]?=some v→Value.okWide Tryz.prog W .any base t v:=hval0;have hW':DataW.Whole enc Tryz.prog Tryz.f12.params.toList Rows.evalCutSpec.vars false W args.toList ds gs before:=hW;obtain⟨p,q,hA0,hV0,rfl,_,_⟩:=hW;have hA:DataW.TrodAll enc Tryz.prog W 0 (fun _=>true) true Tryz.f12.params.toList args.toList ds p:=hA0;rw[Tryz.params12]at hA hval;obtain⟨rfl,rfl⟩:=trodVars_none hV0;clear hA0 hV0 hval0;have hG:=z72 hL hsh;obtain⟨v0,vs0,d0,ds0,p0,q0,hargs,rfl,rfl,h0,r0⟩:=trodAll_cons hA;obtain⟨v1,vs1,d1,ds1,p1,q1,rfl,rfl,rfl,h1,r1⟩:=trodAll_cons r0;obtain⟨rfl,rfl,rfl⟩:=trodAll_nil r1;obtain rfl:args= #[v0,v1]:=by cases args;simp_all
 obtain⟨x0,rfl,rfl,rfl,wx0⟩:=open_int Tryz.underlying3 (hval 0 _ v0 rfl rfl) h0;obtain⟨x1,rfl,rfl,rfl,wx1⟩:=open_string Tryz.underlying9 (hval 1 _ v1 rfl rfl) h1;have hc:=EvalCut_any W x0 x1.data.toList (bounds_i64 wx0) (str_len wx1) hG;rw[str_of]at hc;refine(hc).mono ?_;rintro e W' ⟨rfl,hb⟩;exact⟨_,rfl,lifts 12 Tryz.f12 Rows.evalCutSpec rfl (by kernel_rfl) (by kernel_rfl) rfl hW' hb⟩
set_option maxHeartbeats 0 in
theorem closed:joinedFacts Tryz.pinned.checked.prog 12 Tryz.f12 (OpenSpec.ofChange Rows.evalCutSpec).bare Rows.evalCutRow=true:=by
 unfold joinedFacts
 repeat' (with_reducible refine Bool.and_eq_true_iff.2 ⟨?_,?_⟩)
 all_goals(as_aux_lemma=>kernel_rfl)
theorem said:Rows.EvalCutSaid:=
 OpenClaim.holds_of_cond 12 Tryz.f12 rfl rfl rfl rfl rfl rfl rfl ⟨rfl,rfl,rfl,rfl,rfl⟩ rfl rfl rfl rfl rfl (by kernel_rfl) Tryz.func12 closed
  (of_decide_eq_true (by kernel_rfl)) (by unfold Func.isWrapper;rw[if_neg (of_decide_eq_false (by kernel_rfl))];exact⟨rfl,rfl⟩)
  (fun os started H enc _ F=>by rw[OpenClaim.pre_eq_preRow];exact lifted os started H enc F)
end Go.Proofs.YtmiokadmddjccaaGreatDoor.EvalCut
end
