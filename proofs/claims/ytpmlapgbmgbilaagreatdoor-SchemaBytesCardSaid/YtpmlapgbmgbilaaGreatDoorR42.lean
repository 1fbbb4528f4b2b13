/- Merged texts: CSScBytes. No statement of the program is proved here. -/
import Derived.Test.YtpmlapgbmgbilaaGreatDoorR41
set_option linter.unusedSimpArgs false
set_option linter.unusedVariables false
set_option maxRecDepth 100000
set_option maxHeartbeats 8000000
section
namespace Go.Proofs.YtpmlapgbmgbilaaGreatDoor.SchemaBytes
open Go.ChangeShapes Go.WideShapes Go.ChangeAt Go.RowKit Go.Lib Go.Mor Go.Deep Go.Joins
open Go.ChangeMaps (open_string shut_string)
theorem zbm(a0 a1:Addr)(W:World)(x0:List RawL)(x0v:Value)(hx0:∀y∈x0,RawLOk y)(lx0:x0.length≤9223372036854775807)(rx0:∀r,Go.Sh.RelT W (z2N W) r (.pv (.sl 3 (rlR x0))) x0v)(hG:(glX a0 a1 W.heap.size).G W):
  Calls Tryz.prog 4 #[x0v] W fun e w'=>e=.returned (.bool true)∧Below W.heap.size W w':=
 zgL (vs:=[x0v]) (zcV a0 a1 W.heap.size x0 hx0 lx0) hG rfl (fun j q u hq hu=>by
  match j with
  |0=>simp at hq hu;subst hq;subst hu;exact rx0 _
  |j+1=>simp at hq)
theorem zhi(os:Os){H:Type}(enc:TypeId×Value→H):
  (OpenSpec.ofChange Rows.schemaBytesSpec).preRow enc Tryz.prog Tryz.f4 Rows.schemaBytesRow.domain false Rows.schemaBytesRow.laid ((z6v os).forCall (fun _ _=>0) ⟨#[],#[.slice none 0 0],[]⟩).memory #[.slice none 0 0]:=by
 have hw:(DataW.whole enc Tryz.prog ((z6v os).forCall (fun _ _=>0) ⟨#[],#[.slice none 0 0],[]⟩).memory Tryz.f4.params.toList Rows.schemaBytesSpec.vars false (#[.slice none 0 0]:Array Value).toList 8).map (fun x=>(x.1,x.2.1))=
   some ([.nil],[]):=by kernel_rfl
 obtain⟨⟨x1,x2,x3⟩,hx,hx1⟩:=gO hw;simp only[Prod.mk.injEq]at hx1;obtain⟨rfl,rfl⟩:=hx1;exact OpenSpec.preRow_of_cond 8 hx (by kernel_rfl) (fun k hk=>by cases hk) (by kernel_rfl) (zfu os _)
theorem zrG(os:Os)(started:os.Started)(H:Type)(enc:TypeId×Value→H)(F:Stop.Interp):
  ReturnsInHanded {} Tryz.checked os 4 .any ((OpenSpec.ofChange Rows.schemaBytesSpec).preRow enc Tryz.prog Tryz.f4 Rows.schemaBytesRow.domain false Rows.schemaBytesRow.laid) (((OpenSpec.ofChange Rows.schemaBytesSpec).at F).post enc Tryz.prog Tryz.f4 false true false false):=by
 refine returnsInHanded_of_row (C:=Tryz.checked) (s:=(OpenSpec.ofChange Rows.schemaBytesSpec)) own started (by kernel_rfl) Tryz.func4
  (witness_row_atRef (enc:=enc) (C:=Tryz.checked) false (z6v os) #[.slice none 0 0] rfl (by kernel_rfl) (by kernel_rfl) (by kernel_rfl) (zhi os enc)) ?_
 intro W base args ds gs before hval0 hW _ hcond _ hL hsh _;have hval:∀(j:Nat) t v,Tryz.f4.params[j]?=some t→args[j]?=some v→Value.okWide Tryz.prog W .any base t v:=hval0;have hW':DataW.Whole enc Tryz.prog Tryz.f4.params.toList Rows.schemaBytesSpec.vars false W args.toList ds gs before:=hW;obtain⟨p,q,hA0,hV0,rfl,_,_⟩:=hW;have hA:DataW.TrodAll enc Tryz.prog W 0 (fun _=>true) true Tryz.f4.params.toList args.toList ds p:=hA0;rw[Tryz.params4]at hA hval;obtain⟨rfl,rfl⟩:=trodVars_none hV0;clear hA0 hV0 hval0;obtain⟨a0,a1,hG⟩:=zaO hL hsh;obtain⟨v0,vs0,d0,ds0,p0,q0,hargs,rfl,rfl,h0,r0⟩:=trodAll_cons hA;obtain⟨rfl,rfl,rfl⟩:=trodAll_nil r0;obtain rfl:args= #[v0]:=by cases args;simp_all
 obtain⟨x0,hx0,lx0,rx0⟩:=zjt (hval 0 _ v0 rfl rfl) h0;have hc:=zbm a0 a1 W x0 v0 hx0 lx0 rx0 hG;refine(hc).mono ?_;rintro e W' ⟨rfl,hb⟩;exact⟨_,rfl,zsX 4 Tryz.f4 Rows.schemaBytesSpec rfl (by kernel_rfl) (by kernel_rfl) rfl hW' hb⟩
set_option maxHeartbeats 0 in
theorem zrg:joinedFacts Tryz.pinned.checked.prog 4 Tryz.f4 (OpenSpec.ofChange Rows.schemaBytesSpec).bare Rows.schemaBytesRow=true:=by
 unfold joinedFacts
 repeat' (with_reducible refine Bool.and_eq_true_iff.2 ⟨?_,?_⟩)
 all_goals(as_aux_lemma=>kernel_rfl)
theorem ztu:Rows.SchemaBytesSaid:=
 OpenClaim.holds_of_cond 4 Tryz.f4 rfl rfl rfl rfl rfl rfl rfl ⟨rfl,rfl,rfl,rfl,rfl⟩ rfl rfl rfl rfl rfl (by kernel_rfl) Tryz.func4 zrg
  (of_decide_eq_true (by kernel_rfl)) (by unfold Func.isWrapper;rw[if_neg (of_decide_eq_false (by kernel_rfl))];exact⟨rfl,rfl⟩)
  (fun os started H enc _ F=>by rw[OpenClaim.pre_eq_preRow];exact zrG os started H enc F)
theorem plain(f:FuncId)(fn:Func)(hf:Tryz.pinned.checked.prog.funcNamed "moraine/morainelaw08.SchemaBytes" =some f)(hfn:Tryz.pinned.checked.prog.funcs[f]?=some fn):
  true=Tryz.pinned.checked.prog.looks []∧∀(j:Nat) t,fn.params[j]?=some t→Tryz.pinned.checked.prog.wantsStandIn t=false:=by
 obtain rfl:f=4:=Option.some.inj ((show Tryz.prog.funcNamed "moraine/morainelaw08.SchemaBytes" =some 4 by kernel_rfl).symm.trans hf)|>.symm;obtain rfl:fn=Tryz.f4:=(Option.some.inj (Tryz.func4.symm.trans hfn)).symm;refine⟨by kernel_rfl,fun j t ht=> ?_⟩;rw[Tryz.params4]at ht;have hall:(Tryz.f4.params.all fun t=> !Tryz.prog.wantsStandIn t)=true:=by kernel_rfl
 rw[Tryz.params4,Array.all_eq_true]at hall;obtain⟨hj,rfl⟩:=gA ht;have hj2:=hall j hj;rw[Bool.not_eq_true']at hj2;exact hj2
end Go.Proofs.YtpmlapgbmgbilaaGreatDoor.SchemaBytes
end
