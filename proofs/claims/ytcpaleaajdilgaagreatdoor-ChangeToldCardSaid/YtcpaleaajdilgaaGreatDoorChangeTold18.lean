/- Merged texts: CSChTold. No statement of the program is proved here. -/
import Derived.Test.YtcpaleaajdilgaaGreatDoorM1
import Derived.Test.YtcpaleaajdilgaaGreatDoorM2
import Derived.Test.YtcpaleaajdilgaaGreatDoorM3
import Derived.Test.YtcpaleaajdilgaaGreatDoorM4
import Derived.Test.YtcpaleaajdilgaaGreatDoorM5
import Derived.Test.YtcpaleaajdilgaaGreatDoorM6
import Derived.Test.YtcpaleaajdilgaaGreatDoorM7
import Derived.Test.YtcpaleaajdilgaaGreatDoorM8
import Derived.Test.YtcpaleaajdilgaaGreatDoorM9
import Derived.Test.YtcpaleaajdilgaaGreatDoorM10
import Derived.Test.YtcpaleaajdilgaaGreatDoorM11
import Derived.Test.YtcpaleaajdilgaaGreatDoorM12
import Derived.Test.YtcpaleaajdilgaaGreatDoorM13
import Derived.Test.YtcpaleaajdilgaaGreatDoorM14
import Derived.Test.YtcpaleaajdilgaaGreatDoorM15
import Derived.Test.YtcpaleaajdilgaaGreatDoorM16
import Derived.Test.YtcpaleaajdilgaaGreatDoorChangeTold17
set_option linter.unusedSimpArgs false
set_option linter.unusedVariables false
set_option maxRecDepth 100000
set_option maxHeartbeats 8000000
section
namespace Go.Proofs.YtcpaleaajdilgaaGreatDoor.ChangeTold
open Go.ChangeShapes Go.WideShapes Go.ChangeAt Go.RowKit Go.Lib Go.Mor Go.Deep Go.Joins
open Go.ChangeMaps (open_string shut_string)
theorem ChangeTold_any(a0 a1:Addr)(W:World)(x0:Raw)(x0v:Value)(x1:List Int)(x1v:Value)(x2:RawH)(x2v:Value)(hx0:RawOk x0)(rx0:∀r,Go.Sh.RelT W (envAll W) r (rawT x0) x0v)(hx1:x1.length≤9223372036854775807)(rx1:∀r,Go.Sh.RelT W (envAll W) r (.pv (.sl 1 (iiR x1))) x1v)(hx2:RawHOk x2)(rx2:∀r,Go.Sh.RelT W (envAll W) r (rawHT x2) x2v)(hG:(glX a0 a1 W.heap.size).G W):
  Calls Tryz.prog 7 #[x0v,x1v,x2v] W fun e w'=>e=.returned (.bool true)∧Below W.heap.size W w':=
 calls_of_sc (vs:=[x0v,x1v,x2v]) (changeTold_ok a0 a1 W.heap.size x0 x1 x2 hx0 hx1 hx2) hG rfl (fun j q u hq hu=>by
  match j with
  |0=>simp at hq hu;subst hq;subst hu;exact rx0 _
  |1=>simp at hq hu;subst hq;subst hu;exact rx1 _
  |2=>simp at hq hu;subst hq;subst hu;exact rx2 _
  |j+3=>simp at hq)
theorem witness_row(os:Os){H:Type}(enc:TypeId×Value→H):
  (OpenSpec.ofChange Rows.changeToldSpec).preRow enc Tryz.prog Tryz.f7 Rows.changeToldRow.domain false Rows.changeToldRow.laid ((z123 os).forCall (fun _ _=>0) ⟨#[],#[.agg #[.int .i64 0,.slice none 0 0],.slice none 0 0,.agg #[.int .i64 0,.int .i64 0,.int .i64 0,.int .i64 0,.int .i64 0,.int .i64 0,.int .i64 0,.int .i64 0]],[]⟩).memory #[.agg #[.int .i64 0,.slice none 0 0],.slice none 0 0,.agg #[.int .i64 0,.int .i64 0,.int .i64 0,.int .i64 0,.int .i64 0,.int .i64 0,.int .i64 0,.int .i64 0]]:=by
 have hw:(DataW.whole enc Tryz.prog ((z123 os).forCall (fun _ _=>0) ⟨#[],#[.agg #[.int .i64 0,.slice none 0 0],.slice none 0 0,.agg #[.int .i64 0,.int .i64 0,.int .i64 0,.int .i64 0,.int .i64 0,.int .i64 0,.int .i64 0,.int .i64 0]],[]⟩).memory Tryz.f7.params.toList Rows.changeToldSpec.vars false (#[.agg #[.int .i64 0,.slice none 0 0],.slice none 0 0,.agg #[.int .i64 0,.int .i64 0,.int .i64 0,.int .i64 0,.int .i64 0,.int .i64 0,.int .i64 0,.int .i64 0]]:Array Value).toList 8).map (fun x=>(x.1,x.2.1))=
   some ([.agg [.lit (.int .i64 0),.nil],.nil,.agg [.lit (.int .i64 0),.lit (.int .i64 0),.lit (.int .i64 0),.lit (.int .i64 0),.agg [.lit (.int .i64 0),.lit (.int .i64 0)],.lit (.int .i64 0),.lit (.int .i64 0)]],[]):=by kernel_rfl
 obtain⟨⟨x1,x2,x3⟩,hx,hx1⟩:=gO hw;simp only[Prod.mk.injEq]at hx1;obtain⟨rfl,rfl⟩:=hx1;exact OpenSpec.preRow_of_cond 8 hx (by kernel_rfl) (fun k hk=>by cases hk) (by kernel_rfl) (laid_metUTEW os _)
theorem lifted(os:Os)(started:os.Started)(H:Type)(enc:TypeId×Value→H)(F:Stop.Interp):
  ReturnsInHanded {} Tryz.checked os 7 .any ((OpenSpec.ofChange Rows.changeToldSpec).preRow enc Tryz.prog Tryz.f7 Rows.changeToldRow.domain false Rows.changeToldRow.laid) (((OpenSpec.ofChange Rows.changeToldSpec).at F).post enc Tryz.prog Tryz.f7 false true false false):=by
 refine returnsInHanded_of_row (C:=Tryz.checked) (s:=(OpenSpec.ofChange Rows.changeToldSpec)) own started (by kernel_rfl) Tryz.func7
  (witness_row_atRef (enc:=enc) (C:=Tryz.checked) false (z123 os) #[.agg #[.int .i64 0,.slice none 0 0],.slice none 0 0,.agg #[.int .i64 0,.int .i64 0,.int .i64 0,.int .i64 0,.int .i64 0,.int .i64 0,.int .i64 0,.int .i64 0]] rfl (by kernel_rfl) (by kernel_rfl) (by kernel_rfl) (witness_row os enc)) ?_
 intro W base args ds gs before hval0 hW _ hcond _ hL hsh _;have hval:∀(j:Nat) t v,Tryz.f7.params[j]?=some t→args[j]?=some v→Value.okWide Tryz.prog W .any base t v:=hval0;have hW':DataW.Whole enc Tryz.prog Tryz.f7.params.toList Rows.changeToldSpec.vars false W args.toList ds gs before:=hW;obtain⟨p,q,hA0,hV0,rfl,_,_⟩:=hW;have hA:DataW.TrodAll enc Tryz.prog W 0 (fun _=>true) true Tryz.f7.params.toList args.toList ds p:=hA0;rw[Tryz.params7]at hA hval;obtain⟨rfl,rfl⟩:=trodVars_none hV0;clear hA0 hV0 hval0;obtain⟨a0,a1,hG⟩:=z189 hL hsh;obtain⟨v0,vs0,d0,ds0,p0,q0,hargs,rfl,rfl,h0,r0⟩:=trodAll_cons hA;obtain⟨v1,vs1,d1,ds1,p1,q1,rfl,rfl,rfl,h1,r1⟩:=trodAll_cons r0;obtain⟨v2,vs2,d2,ds2,p2,q2,rfl,rfl,rfl,h2,r2⟩:=trodAll_cons r1;obtain⟨rfl,rfl,rfl⟩:=trodAll_nil r2;obtain rfl:args= #[v0,v1,v2]:=by cases args;simp_all
 obtain⟨x0,hx0,rx0⟩:=open_raw4 (hval 0 _ v0 rfl rfl) h0;obtain⟨x1,_,hx1,rx1⟩:=open_nums Tryz.underlying25 Tryz.underlying3 (by kernel_rfl) (hval 1 _ v1 rfl rfl) h1;obtain⟨x2,hx2,rx2⟩:=open_rawH (hval 2 _ v2 rfl rfl) h2;have hc:=ChangeTold_any a0 a1 W x0 v0 x1 v1 x2 v2 hx0 rx0 hx1 rx1 hx2 rx2 hG;refine(hc).mono ?_;rintro e W' ⟨rfl,hb⟩;exact⟨_,rfl,lifts 7 Tryz.f7 Rows.changeToldSpec rfl (by kernel_rfl) (by kernel_rfl) rfl hW' hb⟩
set_option maxHeartbeats 0 in
theorem closed:joinedFacts Tryz.pinned.checked.prog 7 Tryz.f7 (OpenSpec.ofChange Rows.changeToldSpec).bare Rows.changeToldRow=true:=by
 unfold joinedFacts
 repeat' (with_reducible refine Bool.and_eq_true_iff.2 ⟨?_,?_⟩)
 all_goals(as_aux_lemma=>kernel_rfl)
theorem said:Rows.ChangeToldSaid:=
 OpenClaim.holds_of_cond 7 Tryz.f7 rfl rfl rfl rfl rfl rfl rfl ⟨rfl,rfl,rfl,rfl,rfl⟩ rfl rfl rfl rfl rfl (by kernel_rfl) Tryz.func7 closed
  (of_decide_eq_true (by kernel_rfl)) (by unfold Func.isWrapper;rw[if_neg (of_decide_eq_false (by kernel_rfl))];exact⟨rfl,rfl⟩)
  (fun os started H enc _ F=>by rw[OpenClaim.pre_eq_preRow];exact lifted os started H enc F)
end Go.Proofs.YtcpaleaajdilgaaGreatDoor.ChangeTold
end
