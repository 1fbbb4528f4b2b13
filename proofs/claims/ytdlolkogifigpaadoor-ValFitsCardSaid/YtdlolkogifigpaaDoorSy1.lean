/- Small functions of chapter 3's statements, as plain functions. No statement of the program is proved here. -/
import Derived.Test.YtdlolkogifigpaaDoorS17
import Derived.Test.YtdlolkogifigpaaDoorCd1
import Derived.Test.YtdlolkogifigpaaDoorPr1
import Derived.Test.YtdlolkogifigpaaDoorPSign
set_option linter.unusedSimpArgs false
set_option linter.unusedVariables false
namespace Go.Proofs.YtdlolkogifigpaaDoor
open Go Go.RowKit Go.Mor Go.Sh Go.Sh.Cd1
set_option maxRecDepth 100000
set_option maxHeartbeats 2000000
attribute [seval] I S bFT bTF regE1 runE ES.fgt List.map_cons List.map_nil fgt3 TV.m3 TV.m2 TV.m1 TV.m0 List.any_cons List.any_nil Bool.or_false Bool.false_or drp effG effF footOk SOp.foot eff Arg.get ES.fs lk Option.map_some Option.bind_some ES.after ES.upd ES.put sv ES.kill has nbeq nble nblt TV.val TV.val1 TV.int TV.str TV.cells TV.slen TV.toPV TV.pvs seqO bin_lss bin_gtr bin_leq bin_geq bin_eql bin_neq bin_add bin_sub bin_mul sbin_eql sbin_neq sbin_lss sbin_gtr un_neg un_not startE numT numB numR ansW resT SRes.get List.flatMap_nil List.flatMap_cons List.append_nil List.nil_append TV.ids3 TV.ids2 TV.ids1 TV.ids0 TV.ren3 TV.ren2 TV.ren1 TV.ren0 bound if_true if_false Bool.false_eq_true partsT fillT splice List.take_zero List.take_succ_cons List.drop_zero List.drop_succ_cons List.length_cons List.length_nil and_self and_true true_and List.cons_append List.getElem?_cons_zero List.getElem?_cons_succ Nat.zero_add Bool.not_true Bool.not_false Value.oneCell' str_toList str_size' Int.toNat_natCast decide_true decide_false beq_self_eq_true handI FS.mo MO.ren rhoIn pos rhoOut outs newId dstId putMem List.lookup moOk Nat.le_refl Int.natCast_nonneg
theorem hmix : Tryd.prog.follows .mixedOrders = true := by kernel_rfl
def ordI (a b : Int) : Int := if a < b then -1 else if b < a then 1 else 0
theorem order_ok (g : Sh.Glob) (a b : Int) : SCalls Tryd.prog g 91 [I a, I b] [] (I (ordI a b)) [] := by
  refine call_of0 hmix tf_moraineref03_Order rfl ?_
  unfold ordI
  by_cases h1 : a < b
  · have d1 := decide_T h1
    repeat (first | (with_reducible apply w_unr) | (with_reducible apply w_assoc) | (with_reducible apply w_skip) | (with_reducible apply w_ret) | (with_reducible apply w_retE) | (with_reducible apply w_skipE) | (with_reducible apply w_exit) | (with_reducible apply w_exitE) | (with_reducible apply w_block) | (with_reducible apply w_blockE) | ((with_reducible apply w_reg); · simp only [seval, d1]; with_reducible rfl) | ((with_reducible apply w_regE); · simp only [seval, d1]; with_reducible rfl) | ((with_reducible apply w_condT); · simp only [seval, d1]) | ((with_reducible apply w_condF); · simp only [seval, d1]) | ((with_reducible apply w_condTE); · simp only [seval, d1]) | ((with_reducible apply w_condFE); · simp only [seval, d1]) | (with_reducible apply q_then) | (with_reducible apply q_blockN) | (with_reducible apply q_blockR) | (with_reducible apply q_thenR) | (with_reducible apply q_thenX) | (with_reducible apply q_blockX) | ((with_reducible apply q_blockY); · rfl))
    simp [Post0, ansW, resT, SRes.get, ES.fs, ES.kill, has, drp, seqO, nbeq, lk, I, S, TV.ids3, TV.ids2, TV.ids1, TV.ids0, TV.ren3, TV.ren2, TV.ren1, TV.ren0, F_moraineref03_Order, h1]
  · have d1 := decide_F h1
    by_cases h2 : b < a
    · have d2 := decide_T h2
      repeat (first | (with_reducible apply w_unr) | (with_reducible apply w_assoc) | (with_reducible apply w_skip) | (with_reducible apply w_ret) | (with_reducible apply w_retE) | (with_reducible apply w_skipE) | (with_reducible apply w_exit) | (with_reducible apply w_exitE) | (with_reducible apply w_block) | (with_reducible apply w_blockE) | ((with_reducible apply w_reg); · simp only [seval, d1, d2]; with_reducible rfl) | ((with_reducible apply w_regE); · simp only [seval, d1, d2]; with_reducible rfl) | ((with_reducible apply w_condT); · simp only [seval, d1, d2]) | ((with_reducible apply w_condF); · simp only [seval, d1, d2]) | ((with_reducible apply w_condTE); · simp only [seval, d1, d2]) | ((with_reducible apply w_condFE); · simp only [seval, d1, d2]) | (with_reducible apply q_then) | (with_reducible apply q_blockN) | (with_reducible apply q_blockR) | (with_reducible apply q_thenR) | (with_reducible apply q_thenX) | (with_reducible apply q_blockX) | ((with_reducible apply q_blockY); · rfl))
      simp [Post0, ansW, resT, SRes.get, ES.fs, ES.kill, has, drp, seqO, nbeq, lk, I, S, TV.ids3, TV.ids2, TV.ids1, TV.ids0, TV.ren3, TV.ren2, TV.ren1, TV.ren0, F_moraineref03_Order, h1, h2]
    · have d2 := decide_F h2
      repeat (first | (with_reducible apply w_unr) | (with_reducible apply w_assoc) | (with_reducible apply w_skip) | (with_reducible apply w_ret) | (with_reducible apply w_retE) | (with_reducible apply w_skipE) | (with_reducible apply w_exit) | (with_reducible apply w_exitE) | (with_reducible apply w_block) | (with_reducible apply w_blockE) | ((with_reducible apply w_reg); · simp only [seval, d1, d2]; with_reducible rfl) | ((with_reducible apply w_regE); · simp only [seval, d1, d2]; with_reducible rfl) | ((with_reducible apply w_condT); · simp only [seval, d1, d2]) | ((with_reducible apply w_condF); · simp only [seval, d1, d2]) | ((with_reducible apply w_condTE); · simp only [seval, d1, d2]) | ((with_reducible apply w_condFE); · simp only [seval, d1, d2]) | (with_reducible apply q_then) | (with_reducible apply q_blockN) | (with_reducible apply q_blockR) | (with_reducible apply q_thenR) | (with_reducible apply q_thenX) | (with_reducible apply q_blockX) | ((with_reducible apply q_blockY); · rfl))
      simp [Post0, ansW, resT, SRes.get, ES.fs, ES.kill, has, drp, seqO, nbeq, lk, I, S, TV.ids3, TV.ids2, TV.ids1, TV.ids0, TV.ren3, TV.ren2, TV.ren1, TV.ren0, F_moraineref03_Order, h1, h2]
/-- Which of n things a raw number speaks of. -/
def pickI (c n : Int) : Int := (if c < 0 then -(c + 1) else c).tmod n
theorem pick_ok (g : Sh.Glob) (c n : Int) (hc0 : -9223372036854775808 ≤ c) (hc1 : c ≤ 9223372036854775807) (hn : n ≠ 0) : SCalls Tryd.prog g 34 [I c, I n] [] (I (pickI c n)) [] := by
  refine call_of0 hmix tf_morainelaw03_pick rfl ?_
  have hr := fun (a : Int) => bin_rem Tryd.prog 3 .i64 a n hn
  unfold pickI
  by_cases h : c < 0
  · have d1 := decide_T h
    have w1 : IntKind.i64.wrap (c + 1) = c + 1 := wrap64 (by omega) (by omega)
    have w2 : IntKind.i64.wrap (0 - (c + 1)) = -(c + 1) := by rw [wrap64 (by omega) (by omega)]; omega
    repeat (first | (with_reducible apply w_unr) | (with_reducible apply w_assoc) | (with_reducible apply w_skip) | (with_reducible apply w_ret) | (with_reducible apply w_retE) | (with_reducible apply w_skipE) | (with_reducible apply w_exit) | (with_reducible apply w_exitE) | (with_reducible apply w_block) | (with_reducible apply w_blockE) | ((with_reducible apply w_reg); · simp only [seval, d1, hr, w1, w2]; with_reducible rfl) | ((with_reducible apply w_regE); · simp only [seval, d1, hr, w1, w2]; with_reducible rfl) | ((with_reducible apply w_condT); · simp only [seval, d1, hr, w1, w2]) | ((with_reducible apply w_condF); · simp only [seval, d1, hr, w1, w2]) | ((with_reducible apply w_condTE); · simp only [seval, d1, hr, w1, w2]) | ((with_reducible apply w_condFE); · simp only [seval, d1, hr, w1, w2]) | (with_reducible apply q_then) | (with_reducible apply q_blockN) | (with_reducible apply q_blockR) | (with_reducible apply q_thenR) | (with_reducible apply q_thenX) | (with_reducible apply q_blockX) | ((with_reducible apply q_blockY); · rfl))
    simp [Post0, ansW, resT, SRes.get, ES.fs, ES.kill, has, drp, seqO, nbeq, lk, I, S, TV.ids3, TV.ids2, TV.ids1, TV.ids0, TV.ren3, TV.ren2, TV.ren1, TV.ren0, F_morainelaw03_pick, h]
  · have d1 := decide_F h
    repeat (first | (with_reducible apply w_unr) | (with_reducible apply w_assoc) | (with_reducible apply w_skip) | (with_reducible apply w_ret) | (with_reducible apply w_retE) | (with_reducible apply w_skipE) | (with_reducible apply w_exit) | (with_reducible apply w_exitE) | (with_reducible apply w_block) | (with_reducible apply w_blockE) | ((with_reducible apply w_reg); · simp only [seval, d1, hr]; with_reducible rfl) | ((with_reducible apply w_regE); · simp only [seval, d1, hr]; with_reducible rfl) | ((with_reducible apply w_condT); · simp only [seval, d1, hr]) | ((with_reducible apply w_condF); · simp only [seval, d1, hr]) | ((with_reducible apply w_condTE); · simp only [seval, d1, hr]) | ((with_reducible apply w_condFE); · simp only [seval, d1, hr]) | (with_reducible apply q_then) | (with_reducible apply q_blockN) | (with_reducible apply q_blockR) | (with_reducible apply q_thenR) | (with_reducible apply q_thenX) | (with_reducible apply q_blockX) | ((with_reducible apply q_blockY); · rfl))
    simp [Post0, ansW, resT, SRes.get, ES.fs, ES.kill, has, drp, seqO, nbeq, lk, I, S, TV.ids3, TV.ids2, TV.ids1, TV.ids0, TV.ren3, TV.ren2, TV.ren1, TV.ren0, F_morainelaw03_pick, h]
end Go.Proofs.YtdlolkogifigpaaDoor
