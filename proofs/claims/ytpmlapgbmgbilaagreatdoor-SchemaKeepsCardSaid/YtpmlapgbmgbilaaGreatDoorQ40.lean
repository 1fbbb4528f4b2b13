/- Merged texts: CSScKeeps. No statement of the program is proved here. -/
import Derived.Test.YtpmlapgbmgbilaaGreatDoorQ39
set_option linter.unusedSimpArgs false
set_option linter.unusedVariables false
set_option maxRecDepth 100000
set_option maxHeartbeats 8000000
section
namespace Go.Proofs.YtpmlapgbmgbilaaGreatDoor.SchemaKeeps
open Go.ChangeShapes Go.WideShapes Go.ChangeAt Go.RowKit Go.Lib Go.Mor Go.Deep Go.Joins
open Go.ChangeMaps (open_string shut_string)
theorem zan(W:World)(x0:List RawL)(x0v:Value)(x1:Raw)(x1v:Value)(x2:RawH)(x2v:Value)(x3:Int)(hx0:∀y∈x0,RawLOk y)(lx0:x0.length≤9223372036854775807)(rx0:∀r,Go.Sh.RelT W (z1i W) r (.pv (.sl 3 (rlR x0))) x0v)(hx1:RawOk x1)(rx1:∀r,Go.Sh.RelT W (z1i W) r (z5K x1) x1v)(hx2:RawHOk x2)(rx2:∀r,Go.Sh.RelT W (z1i W) r (z5m x2) x2v)(hx3:I64 x3)(hG:(glE W.heap.size).G W):
  Calls Tryz.prog 3 #[x0v,x1v,x2v,.int .i64 x3] W fun e w'=>e=.returned (.bool true)∧Below W.heap.size W w':=
 zfk (vs:=[x0v,x1v,x2v,.int .i64 x3]) (zbI W.heap.size x0 x1 x2 x3 hx0 lx0 hx1 hx2 hx3) hG rfl (fun j q u hq hu=>by
  match j with
  |0=>simp at hq hu;subst hq;subst hu;exact rx0 _
  |1=>simp at hq hu;subst hq;subst hu;exact rx1 _
  |2=>simp at hq hu;subst hq;subst hu;exact rx2 _
  |3=>simp at hq hu;subst hq;subst hu;exact .pv (.v _)
  |j+4=>simp at hq)
theorem zfR(os:Os){H:Type}(enc:TypeId×Value→H):
  (OpenSpec.ofChange Rows.schemaKeepsSpec).preRow enc Tryz.prog Tryz.f3 Rows.schemaKeepsRow.domain false Rows.schemaKeepsRow.laid ((z63 os).forCall (fun _ _=>0) ⟨#[],#[.slice none 0 0,.agg #[.int .i64 0,.slice none 0 0],.agg #[.int .i64 0,.int .i64 0,.int .i64 0,.int .i64 0,.int .i64 0,.int .i64 0,.int .i64 0,.int .i64 0],.int .i64 0],[]⟩).memory #[.slice none 0 0,.agg #[.int .i64 0,.slice none 0 0],.agg #[.int .i64 0,.int .i64 0,.int .i64 0,.int .i64 0,.int .i64 0,.int .i64 0,.int .i64 0,.int .i64 0],.int .i64 0]:=by
 have hw:(DataW.whole enc Tryz.prog ((z63 os).forCall (fun _ _=>0) ⟨#[],#[.slice none 0 0,.agg #[.int .i64 0,.slice none 0 0],.agg #[.int .i64 0,.int .i64 0,.int .i64 0,.int .i64 0,.int .i64 0,.int .i64 0,.int .i64 0,.int .i64 0],.int .i64 0],[]⟩).memory Tryz.f3.params.toList Rows.schemaKeepsSpec.vars false (#[.slice none 0 0,.agg #[.int .i64 0,.slice none 0 0],.agg #[.int .i64 0,.int .i64 0,.int .i64 0,.int .i64 0,.int .i64 0,.int .i64 0,.int .i64 0,.int .i64 0],.int .i64 0]:Array Value).toList 8).map (fun x=>(x.1,x.2.1))=
   some ([.nil,.agg [.lit (.int .i64 0),.nil],.agg [.lit (.int .i64 0),.lit (.int .i64 0),.lit (.int .i64 0),.lit (.int .i64 0),.agg [.lit (.int .i64 0),.lit (.int .i64 0)],.lit (.int .i64 0),.lit (.int .i64 0)],.lit (.int .i64 0)],[]):=by kernel_rfl
 obtain⟨⟨x1,x2,x3⟩,hx,hx1⟩:=gO hw;simp only[Prod.mk.injEq]at hx1;obtain⟨rfl,rfl⟩:=hx1;exact OpenSpec.preRow_of_cond 8 hx (by kernel_rfl) (fun k hk=>by cases hk) (by kernel_rfl) (zfu os _)
theorem zph(os:Os)(started:os.Started)(H:Type)(enc:TypeId×Value→H)(F:Stop.Interp):
  ReturnsInHanded {} Tryz.checked os 3 .any ((OpenSpec.ofChange Rows.schemaKeepsSpec).preRow enc Tryz.prog Tryz.f3 Rows.schemaKeepsRow.domain false Rows.schemaKeepsRow.laid) (((OpenSpec.ofChange Rows.schemaKeepsSpec).at F).post enc Tryz.prog Tryz.f3 false true false false):=by
 refine returnsInHanded_of_row (C:=Tryz.checked) (s:=(OpenSpec.ofChange Rows.schemaKeepsSpec)) own started (by kernel_rfl) Tryz.func3
  (witness_row_atRef (enc:=enc) (C:=Tryz.checked) false (z63 os) #[.slice none 0 0,.agg #[.int .i64 0,.slice none 0 0],.agg #[.int .i64 0,.int .i64 0,.int .i64 0,.int .i64 0,.int .i64 0,.int .i64 0,.int .i64 0,.int .i64 0],.int .i64 0] rfl (by kernel_rfl) (by kernel_rfl) (by kernel_rfl) (zfR os enc)) ?_
 intro W base args ds gs before hval0 hW _ hcond _ hL hsh _;have hval:∀(j:Nat) t v,Tryz.f3.params[j]?=some t→args[j]?=some v→Value.okWide Tryz.prog W .any base t v:=hval0;have hW':DataW.Whole enc Tryz.prog Tryz.f3.params.toList Rows.schemaKeepsSpec.vars false W args.toList ds gs before:=hW;obtain⟨p,q,hA0,hV0,rfl,_,_⟩:=hW;have hA:DataW.TrodAll enc Tryz.prog W 0 (fun _=>true) true Tryz.f3.params.toList args.toList ds p:=hA0;rw[Tryz.params3]at hA hval;obtain⟨rfl,rfl⟩:=trodVars_none hV0;clear hA0 hV0 hval0;have hG:=zaJ hL hsh;obtain⟨v0,vs0,d0,ds0,p0,q0,hargs,rfl,rfl,h0,r0⟩:=trodAll_cons hA;obtain⟨v1,vs1,d1,ds1,p1,q1,rfl,rfl,rfl,h1,r1⟩:=trodAll_cons r0;obtain⟨v2,vs2,d2,ds2,p2,q2,rfl,rfl,rfl,h2,r2⟩:=trodAll_cons r1;obtain⟨v3,vs3,d3,ds3,p3,q3,rfl,rfl,rfl,h3,r3⟩:=trodAll_cons r2;obtain⟨rfl,rfl,rfl⟩:=trodAll_nil r3;obtain rfl:args= #[v0,v1,v2,v3]:=by cases args;simp_all
 obtain⟨x0,hx0,lx0,rx0⟩:=zhK (hval 0 _ v0 rfl rfl) h0;obtain⟨x1,hx1,rx1⟩:=zjX (hval 1 _ v1 rfl rfl) h1;obtain⟨x2,hx2,rx2⟩:=zjY (hval 2 _ v2 rfl rfl) h2;obtain⟨x3,rfl,rfl,rfl,wx3⟩:=open_int Tryz.underlying3 (hval 3 _ v3 rfl rfl) h3;have hc:=zan W x0 v0 x1 v1 x2 v2 x3 hx0 lx0 rx0 hx1 rx1 hx2 rx2 (bounds_i64 wx3) hG;refine(hc).mono ?_;rintro e W' ⟨rfl,hb⟩;exact⟨_,rfl,zqs 3 Tryz.f3 Rows.schemaKeepsSpec rfl (by kernel_rfl) (by kernel_rfl) rfl hW' hb⟩
set_option maxHeartbeats 0 in
theorem zoS:joinedFacts Tryz.pinned.checked.prog 3 Tryz.f3 (OpenSpec.ofChange Rows.schemaKeepsSpec).bare Rows.schemaKeepsRow=true:=by
 unfold joinedFacts
 repeat' (with_reducible refine Bool.and_eq_true_iff.2 ⟨?_,?_⟩)
 all_goals(as_aux_lemma=>kernel_rfl)
theorem zqU:Rows.SchemaKeepsSaid:=
 OpenClaim.holds_of_cond 3 Tryz.f3 rfl rfl rfl rfl rfl rfl rfl ⟨rfl,rfl,rfl,rfl,rfl⟩ rfl rfl rfl rfl rfl (by kernel_rfl) Tryz.func3 zoS
  (of_decide_eq_true (by kernel_rfl)) (by unfold Func.isWrapper;rw[if_neg (of_decide_eq_false (by kernel_rfl))];exact⟨rfl,rfl⟩)
  (fun os started H enc _ F=>by rw[OpenClaim.pre_eq_preRow];exact zph os started H enc F)
theorem plain(f:FuncId)(fn:Func)(hf:Tryz.pinned.checked.prog.funcNamed "moraine/morainelaw08.SchemaKeeps" =some f)(hfn:Tryz.pinned.checked.prog.funcs[f]?=some fn):
  true=Tryz.pinned.checked.prog.looks []∧∀(j:Nat) t,fn.params[j]?=some t→Tryz.pinned.checked.prog.wantsStandIn t=false:=by
 obtain rfl:f=3:=Option.some.inj ((show Tryz.prog.funcNamed "moraine/morainelaw08.SchemaKeeps" =some 3 by kernel_rfl).symm.trans hf)|>.symm;obtain rfl:fn=Tryz.f3:=(Option.some.inj (Tryz.func3.symm.trans hfn)).symm;refine⟨by kernel_rfl,fun j t ht=> ?_⟩;rw[Tryz.params3]at ht;have hall:(Tryz.f3.params.all fun t=> !Tryz.prog.wantsStandIn t)=true:=by kernel_rfl
 rw[Tryz.params3,Array.all_eq_true]at hall;obtain⟨hj,rfl⟩:=gA ht;have hj2:=hall j hj;rw[Bool.not_eq_true']at hj2;exact hj2
end Go.Proofs.YtpmlapgbmgbilaaGreatDoor.SchemaKeeps
end
