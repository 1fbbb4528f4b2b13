/- Merged texts: CSScTold. No statement of the program is proved here. -/
import Derived.Test.YtbkgnekfigknhaaGreatDoorR41
set_option linter.unusedSimpArgs false
set_option linter.unusedVariables false
set_option maxRecDepth 100000
set_option maxHeartbeats 8000000
section
namespace Go.Proofs.YtbkgnekfigknhaaGreatDoor.SchemaTold
open Go.ChangeShapes Go.WideShapes Go.ChangeAt Go.RowKit Go.Lib Go.Mor Go.Deep Go.Joins
open Go.ChangeMaps (open_string shut_string)
theorem zch(W:World)(x0:Raw)(x0v:Value)(x1:zB)(x1v:Value)(x2:Bool)(x3:List RawH)(x3v:Value)(x4:List Int)(x4v:Value)(hx0:RawOk x0)(rx0:∀r,Go.Sh.RelT W (z1e W) r (z8V x0) x0v)(hx1:x1.length≤9223372036854775807)(rx1:∀r,Go.Sh.RelT W (z1e W) r (zt5 x1) x1v)(hx3:∀y∈x3,RawHOk y)(lx3:x3.length≤9223372036854775807)(rx3:∀r,Go.Sh.RelT W (z1e W) r (.pv (.sl 8 (rhR x3))) x3v)(hx4:x4.length≤9223372036854775807)(rx4:∀r,Go.Sh.RelT W (z1e W) r (.pv (.sl 1 (iiR x4))) x4v)(hG:(glE W.heap.size).G W):
  Calls Tryz.prog 6 #[x0v,x1v,.bool x2,x3v,x4v] W fun e w'=>e=.returned (.bool true)∧Below W.heap.size W w':=
 zgD (vs:=[x0v,x1v,.bool x2,x3v,x4v]) (zed W.heap.size x0 x1 x2 x3 x4 hx0 hx1 hx3 lx3 hx4) hG rfl (fun j q u hq hu=>by
  match j with
  |0=>simp at hq hu;subst hq;subst hu;exact rx0 _
  |1=>simp at hq hu;subst hq;subst hu;exact rx1 _
  |2=>simp at hq hu;subst hq;subst hu;exact .pv (.v _)
  |3=>simp at hq hu;subst hq;subst hu;exact rx3 _
  |4=>simp at hq hu;subst hq;subst hu;exact rx4 _
  |j+5=>simp at hq)
theorem zh7(os:Os){H:Type}(enc:TypeId×Value→H):
  (OpenSpec.ofChange Rows.schemaToldSpec).preRow enc Tryz.prog Tryz.f6 Rows.schemaToldRow.domain false Rows.schemaToldRow.laid ((z6y os).forCall (fun _ _=>0) ⟨#[],#[.agg #[.int .i64 0,.slice none 0 0],.slice none 0 0,.bool false,.slice none 0 0,.slice none 0 0],[]⟩).memory #[.agg #[.int .i64 0,.slice none 0 0],.slice none 0 0,.bool false,.slice none 0 0,.slice none 0 0]:=by
 have hw:(DataW.whole enc Tryz.prog ((z6y os).forCall (fun _ _=>0) ⟨#[],#[.agg #[.int .i64 0,.slice none 0 0],.slice none 0 0,.bool false,.slice none 0 0,.slice none 0 0],[]⟩).memory Tryz.f6.params.toList Rows.schemaToldSpec.vars false (#[.agg #[.int .i64 0,.slice none 0 0],.slice none 0 0,.bool false,.slice none 0 0,.slice none 0 0]:Array Value).toList 8).map (fun x=>(x.1,x.2.1))=
   some ([.agg [.lit (.int .i64 0),.nil],.nil,.lit (.bool false),.nil,.nil],[]):=by kernel_rfl
 obtain⟨⟨x1,x2,x3⟩,hx,hx1⟩:=gO hw;simp only[Prod.mk.injEq]at hx1;obtain⟨rfl,rfl⟩:=hx1;exact OpenSpec.preRow_of_cond 8 hx (by kernel_rfl) (fun k hk=>by cases hk) (by kernel_rfl) (zgM os _)
theorem zro(os:Os)(started:os.Started)(H:Type)(enc:TypeId×Value→H)(F:Stop.Interp):
  ReturnsInHanded {} Tryz.checked os 6 .any ((OpenSpec.ofChange Rows.schemaToldSpec).preRow enc Tryz.prog Tryz.f6 Rows.schemaToldRow.domain false Rows.schemaToldRow.laid) (((OpenSpec.ofChange Rows.schemaToldSpec).at F).post enc Tryz.prog Tryz.f6 false true false false):=by
 refine returnsInHanded_of_row (C:=Tryz.checked) (s:=(OpenSpec.ofChange Rows.schemaToldSpec)) own started (by kernel_rfl) Tryz.func6
  (witness_row_atRef (enc:=enc) (C:=Tryz.checked) false (z6y os) #[.agg #[.int .i64 0,.slice none 0 0],.slice none 0 0,.bool false,.slice none 0 0,.slice none 0 0] rfl (by kernel_rfl) (by kernel_rfl) (by kernel_rfl) (zh7 os enc)) ?_
 intro W base args ds gs before hval0 hW _ hcond _ hL hsh _;have hval:∀(j:Nat) t v,Tryz.f6.params[j]?=some t→args[j]?=some v→Value.okWide Tryz.prog W .any base t v:=hval0;have hW':DataW.Whole enc Tryz.prog Tryz.f6.params.toList Rows.schemaToldSpec.vars false W args.toList ds gs before:=hW;obtain⟨p,q,hA0,hV0,rfl,_,_⟩:=hW;have hA:DataW.TrodAll enc Tryz.prog W 0 (fun _=>true) true Tryz.f6.params.toList args.toList ds p:=hA0;rw[Tryz.params6]at hA hval;obtain⟨rfl,rfl⟩:=trodVars_none hV0;clear hA0 hV0 hval0;have hG:=zbB hL hsh;obtain⟨v0,vs0,d0,ds0,p0,q0,hargs,rfl,rfl,h0,r0⟩:=trodAll_cons hA;obtain⟨v1,vs1,d1,ds1,p1,q1,rfl,rfl,rfl,h1,r1⟩:=trodAll_cons r0;obtain⟨v2,vs2,d2,ds2,p2,q2,rfl,rfl,rfl,h2,r2⟩:=trodAll_cons r1;obtain⟨v3,vs3,d3,ds3,p3,q3,rfl,rfl,rfl,h3,r3⟩:=trodAll_cons r2;obtain⟨v4,vs4,d4,ds4,p4,q4,rfl,rfl,rfl,h4,r4⟩:=trodAll_cons r3;obtain⟨rfl,rfl,rfl⟩:=trodAll_nil r4;obtain rfl:args= #[v0,v1,v2,v3,v4]:=by cases args;simp_all
 obtain⟨x0,hx0,rx0⟩:=zlg (hval 0 _ v0 rfl rfl) h0;obtain⟨x1,hx1,rx1⟩:=zj6 (hval 1 _ v1 rfl rfl) h1;obtain⟨x2,rfl,rfl,rfl⟩:=open_bool Tryz.underlying4 (hval 2 _ v2 rfl rfl) h2;obtain⟨x3,hx3,lx3,rx3⟩:=zj7 (hval 3 _ v3 rfl rfl) h3;obtain⟨x4,_,hx4,rx4⟩:=zdx Tryz.underlying24 Tryz.underlying3 (by kernel_rfl) (hval 4 _ v4 rfl rfl) h4;have hc:=zch W x0 v0 x1 v1 x2 x3 v3 x4 v4 hx0 rx0 hx1 rx1 hx3 lx3 rx3 hx4 rx4 hG;refine(hc).mono ?_;rintro e W' ⟨rfl,hb⟩;exact⟨_,rfl,zsI 6 Tryz.f6 Rows.schemaToldSpec rfl (by kernel_rfl) (by kernel_rfl) rfl hW' hb⟩
set_option maxHeartbeats 0 in
theorem zqW:joinedFacts Tryz.pinned.checked.prog 6 Tryz.f6 (OpenSpec.ofChange Rows.schemaToldSpec).bare Rows.schemaToldRow=true:=by
 unfold joinedFacts
 repeat' (with_reducible refine Bool.and_eq_true_iff.2 ⟨?_,?_⟩)
 all_goals(as_aux_lemma=>kernel_rfl)
theorem ztj:Rows.SchemaToldSaid:=
 OpenClaim.holds_of_cond 6 Tryz.f6 rfl rfl rfl rfl rfl rfl rfl ⟨rfl,rfl,rfl,rfl,rfl⟩ rfl rfl rfl rfl rfl (by kernel_rfl) Tryz.func6 zqW
  (of_decide_eq_true (by kernel_rfl)) (by unfold Func.isWrapper;rw[if_neg (of_decide_eq_false (by kernel_rfl))];exact⟨rfl,rfl⟩)
  (fun os started H enc _ F=>by rw[OpenClaim.pre_eq_preRow];exact zro os started H enc F)
theorem plain(f:FuncId)(fn:Func)(hf:Tryz.pinned.checked.prog.funcNamed "moraine/morainelaw08.SchemaTold" =some f)(hfn:Tryz.pinned.checked.prog.funcs[f]?=some fn):
  true=Tryz.pinned.checked.prog.looks []∧∀(j:Nat) t,fn.params[j]?=some t→Tryz.pinned.checked.prog.wantsStandIn t=false:=by
 obtain rfl:f=6:=Option.some.inj ((show Tryz.prog.funcNamed "moraine/morainelaw08.SchemaTold" =some 6 by kernel_rfl).symm.trans hf)|>.symm;obtain rfl:fn=Tryz.f6:=(Option.some.inj (Tryz.func6.symm.trans hfn)).symm;refine⟨by kernel_rfl,fun j t ht=> ?_⟩;rw[Tryz.params6]at ht;have hall:(Tryz.f6.params.all fun t=> !Tryz.prog.wantsStandIn t)=true:=by kernel_rfl
 rw[Tryz.params6,Array.all_eq_true]at hall;obtain⟨hj,rfl⟩:=gA ht;have hj2:=hall j hj;rw[Bool.not_eq_true']at hj2;exact hj2
end Go.Proofs.YtbkgnekfigknhaaGreatDoor.SchemaTold
end
