/- Merged texts: CSScLimits. No statement of the program is proved here. -/
import Derived.Test.YthinnldeogflgaaGreatDoorQ34
set_option linter.unusedSimpArgs false
set_option linter.unusedVariables false
set_option maxRecDepth 100000
set_option maxHeartbeats 8000000
section
namespace Go.Proofs.YthinnldeogflgaaGreatDoor.SchemaLimits
open Go.ChangeShapes Go.WideShapes Go.ChangeAt Go.RowKit Go.Lib Go.Mor Go.Deep Go.Joins
open Go.ChangeMaps (open_string shut_string)
theorem z8l(W:World)(x0:Int)(x1:Int)(hx0:I64 x0)(hx1:I64 x1)(hG:(glE W.heap.size).G W):
  Calls Tryz.prog 4 #[.int .i64 x0,.int .i64 x1] W fun e w'=>e=.returned (.bool true)∧Below W.heap.size W w':=
 zdb (vs:=[.int .i64 x0,.int .i64 x1]) (z9G W.heap.size x0 x1 hx0 hx1) hG rfl (fun j q u hq hu=>by
  match j with
  |0=>simp at hq hu;subst hq;subst hu;exact .pv (.v _)
  |1=>simp at hq hu;subst hq;subst hu;exact .pv (.v _)
  |j+2=>simp at hq)
theorem zdu(os:Os){H:Type}(enc:TypeId×Value→H):
  (OpenSpec.ofChange Rows.schemaLimitsSpec).preRow enc Tryz.prog Tryz.f4 Rows.schemaLimitsRow.domain false Rows.schemaLimitsRow.laid ((z5b os).forCall (fun _ _=>0) ⟨#[],#[.int .i64 0,.int .i64 0],[]⟩).memory #[.int .i64 0,.int .i64 0]:=by
 have hw:(DataW.whole enc Tryz.prog ((z5b os).forCall (fun _ _=>0) ⟨#[],#[.int .i64 0,.int .i64 0],[]⟩).memory Tryz.f4.params.toList Rows.schemaLimitsSpec.vars false (#[.int .i64 0,.int .i64 0]:Array Value).toList 8).map (fun x=>(x.1,x.2.1))=
   some ([.lit (.int .i64 0),.lit (.int .i64 0)],[]):=by kernel_rfl
 obtain⟨⟨x1,x2,x3⟩,hx,hx1⟩:=gO hw;simp only[Prod.mk.injEq]at hx1;obtain⟨rfl,rfl⟩:=hx1;exact OpenSpec.preRow_of_cond 8 hx (by kernel_rfl) (fun k hk=>by cases hk) (by kernel_rfl) (zdj os _)
theorem zlG(os:Os)(started:os.Started)(H:Type)(enc:TypeId×Value→H)(F:Stop.Interp):
  ReturnsInHanded {} Tryz.checked os 4 .any ((OpenSpec.ofChange Rows.schemaLimitsSpec).preRow enc Tryz.prog Tryz.f4 Rows.schemaLimitsRow.domain false Rows.schemaLimitsRow.laid) (((OpenSpec.ofChange Rows.schemaLimitsSpec).at F).post enc Tryz.prog Tryz.f4 false true false false):=by
 refine returnsInHanded_of_row (C:=Tryz.checked) (s:=(OpenSpec.ofChange Rows.schemaLimitsSpec)) own started (by kernel_rfl) Tryz.func4
  (witness_row_atRef (enc:=enc) (C:=Tryz.checked) false (z5b os) #[.int .i64 0,.int .i64 0] rfl (by kernel_rfl) (by kernel_rfl) (by kernel_rfl) (zdu os enc)) ?_
 intro W base args ds gs before hval0 hW _ hcond _ hL hsh _;have hval:∀(j:Nat) t v,Tryz.f4.params[j]?=some t→args[j]?=some v→Value.okWide Tryz.prog W .any base t v:=hval0;have hW':DataW.Whole enc Tryz.prog Tryz.f4.params.toList Rows.schemaLimitsSpec.vars false W args.toList ds gs before:=hW;obtain⟨p,q,hA0,hV0,rfl,_,_⟩:=hW;have hA:DataW.TrodAll enc Tryz.prog W 0 (fun _=>true) true Tryz.f4.params.toList args.toList ds p:=hA0;rw[Tryz.params4]at hA hval;obtain⟨rfl,rfl⟩:=trodVars_none hV0;clear hA0 hV0 hval0;have hG:=z9b hL hsh;obtain⟨v0,vs0,d0,ds0,p0,q0,hargs,rfl,rfl,h0,r0⟩:=trodAll_cons hA;obtain⟨v1,vs1,d1,ds1,p1,q1,rfl,rfl,rfl,h1,r1⟩:=trodAll_cons r0;obtain⟨rfl,rfl,rfl⟩:=trodAll_nil r1;obtain rfl:args= #[v0,v1]:=by cases args;simp_all
 obtain⟨x0,rfl,rfl,rfl,wx0⟩:=open_int Tryz.underlying3 (hval 0 _ v0 rfl rfl) h0;obtain⟨x1,rfl,rfl,rfl,wx1⟩:=open_int Tryz.underlying3 (hval 1 _ v1 rfl rfl) h1;have hc:=z8l W x0 x1 (bounds_i64 wx0) (bounds_i64 wx1) hG;refine(hc).mono ?_;rintro e W' ⟨rfl,hb⟩;exact⟨_,rfl,zmz 4 Tryz.f4 Rows.schemaLimitsSpec rfl (by kernel_rfl) (by kernel_rfl) rfl hW' hb⟩
set_option maxHeartbeats 0 in
theorem zlf:joinedFacts Tryz.pinned.checked.prog 4 Tryz.f4 (OpenSpec.ofChange Rows.schemaLimitsSpec).bare Rows.schemaLimitsRow=true:=by
 unfold joinedFacts
 repeat' (with_reducible refine Bool.and_eq_true_iff.2 ⟨?_,?_⟩)
 all_goals(as_aux_lemma=>kernel_rfl)
theorem zn5:Rows.SchemaLimitsSaid:=
 OpenClaim.holds_of_cond 4 Tryz.f4 rfl rfl rfl rfl rfl rfl rfl ⟨rfl,rfl,rfl,rfl,rfl⟩ rfl rfl rfl rfl rfl (by kernel_rfl) Tryz.func4 zlf
  (of_decide_eq_true (by kernel_rfl)) (by unfold Func.isWrapper;rw[if_neg (of_decide_eq_false (by kernel_rfl))];exact⟨rfl,rfl⟩)
  (fun os started H enc _ F=>by rw[OpenClaim.pre_eq_preRow];exact zlG os started H enc F)
theorem plain(f:FuncId)(fn:Func)(hf:Tryz.pinned.checked.prog.funcNamed "moraine/morainelaw08.SchemaLimits" =some f)(hfn:Tryz.pinned.checked.prog.funcs[f]?=some fn):
  true=Tryz.pinned.checked.prog.looks []∧∀(j:Nat) t,fn.params[j]?=some t→Tryz.pinned.checked.prog.wantsStandIn t=false:=by
 obtain rfl:f=4:=Option.some.inj ((show Tryz.prog.funcNamed "moraine/morainelaw08.SchemaLimits" =some 4 by kernel_rfl).symm.trans hf)|>.symm;obtain rfl:fn=Tryz.f4:=(Option.some.inj (Tryz.func4.symm.trans hfn)).symm;refine⟨by kernel_rfl,fun j t ht=> ?_⟩;rw[Tryz.params4]at ht;have hall:(Tryz.f4.params.all fun t=> !Tryz.prog.wantsStandIn t)=true:=by kernel_rfl
 rw[Tryz.params4,Array.all_eq_true]at hall;obtain⟨hj,rfl⟩:=gA ht;have hj2:=hall j hj;rw[Bool.not_eq_true']at hj2;exact hj2
end Go.Proofs.YthinnldeogflgaaGreatDoor.SchemaLimits
end
