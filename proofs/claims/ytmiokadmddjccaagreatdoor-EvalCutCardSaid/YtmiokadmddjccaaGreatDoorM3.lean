/- Merged texts: Vc1 Zv1 Zv2 PWire PWire2 PWire3 PClass Px1 Ze1 Cd5 Px2 Ze2 Ze3 Ze4 By Cd4 Ze5 Sy1 S21 S22 S23 S24 Ze10 Px5 Ze11. No statement of the program is proved here. -/
import Derived.Test.YtmiokadmddjccaaGreatDoorM1
import Derived.Test.YtmiokadmddjccaaGreatDoorM2
import Derived.Lib.Join
import Derived.OrdersIn
import Derived.RangeFuncWrites
set_option linter.unusedSimpArgs false
set_option linter.unusedVariables false
section
namespace Go.Sh
open Go Go.RowKit Go.Mor
set_option maxRecDepth 100000
theorem vcA : (type_of% @bFT) ∧ (type_of% @bTF) ∧ (type_of% @ES.fgt.eq_1) ∧ (type_of% @List.map_cons.{0, 0}) ∧ (type_of% @List.map_nil.{0, 0}) ∧ (type_of% @fgt3.eq_1) ∧ (type_of% @TV.m3.eq_1) ∧ (type_of% @TV.m3.eq_2) ∧ (type_of% @TV.m2.eq_1) ∧ (type_of% @TV.m2.eq_2) ∧ (type_of% @TV.m1.eq_1) ∧ (type_of% @TV.m1.eq_2) ∧ (type_of% @TV.m0.eq_1) ∧ (type_of% @TV.m0.eq_2) ∧ (type_of% @TV.m0.eq_3) ∧ (type_of% @TV.m0.eq_4) ∧ (type_of% @TV.m0.eq_5) ∧ (type_of% @TV.m0.eq_6) ∧ (type_of% @TV.m0.eq_7) ∧ (type_of% @TV.mF.eq_1) ∧ (type_of% @TV.mF.eq_2) ∧ (type_of% @TV.mE.eq_1) ∧ (type_of% @TV.mE.eq_2) ∧ (type_of% @TV.idsF.eq_1) ∧ (type_of% @TV.idsF.eq_2) ∧ (type_of% @TV.idsE.eq_1) ∧ (type_of% @TV.idsE.eq_2) ∧ (type_of% @TV.renF.eq_1) ∧ (type_of% @TV.renF.eq_2) ∧ (type_of% @TV.renE.eq_1) ∧ (type_of% @TV.renE.eq_2) ∧ (type_of% @List.any_cons.{0}) ∧ (type_of% @List.any_nil.{0}) ∧ (type_of% @Bool.or_false) ∧ (type_of% @Bool.false_or) ∧ (type_of% @drp.eq_1) ∧ (type_of% @drp.eq_2) ∧ (type_of% @effG.eq_1) ∧ (type_of% @effF.eq_1) ∧ (type_of% @footOk.eq_1) ∧ (type_of% @SOp.foot.eq_1) ∧ (type_of% @SOp.foot.eq_2) ∧ (type_of% @SOp.foot.eq_3) ∧ (type_of% @SOp.foot.eq_4) ∧ (type_of% @only.eq_1) ∧ (type_of% @only.eq_2) ∧ (type_of% @isK.eq_1) ∧ (type_of% @isK.eq_2) ∧ (type_of% @eff.eq_1) ∧ (type_of% @eff.eq_2) ∧ (type_of% @eff.eq_3) ∧ (type_of% @eff.eq_4) ∧ (type_of% @eff.eq_5) ∧ (type_of% @eff.eq_6) ∧ (type_of% @eff.eq_7) ∧ (type_of% @eff.eq_8) ∧ (type_of% @eff.eq_9) ∧ (type_of% @eff.eq_11) ∧ (type_of% @eff.eq_12) ∧ (type_of% @eff.eq_13) ∧ (type_of% @eff.eq_14) ∧ (type_of% @eff.eq_15) ∧ (type_of% @eff.eq_16) ∧ (type_of% @eff.eq_17) ∧ (type_of% @eff.eq_18) ∧ (type_of% @eff.eq_19) ∧ (type_of% @eff.eq_20) ∧ (type_of% @eff.eq_21) ∧ (type_of% @eff.eq_22) ∧ (type_of% @eff.eq_23) ∧ (type_of% @eff.eq_25) ∧ (type_of% @eff.eq_28) ∧ (type_of% @eff.eq_31) ∧ (type_of% @eff.eq_32) ∧ (type_of% @eff.eq_33) ∧ (type_of% @eff.eq_34) ∧ (type_of% @eff.eq_35) ∧ (type_of% @eff.eq_44) ∧ (type_of% @eff.eq_45) ∧ (type_of% @Arg.get.eq_1) ∧ (type_of% @Arg.get.eq_2) ∧ (type_of% @ES.fs.eq_1) ∧ (type_of% @lk.eq_1) ∧ (type_of% @lk.eq_2) ∧ (type_of% @Option.map_some.{0, 0}) ∧ (type_of% @Option.bind_some.{0, 0}) ∧ (type_of% @ES.after.eq_1) ∧ (type_of% @ES.upd.eq_1) ∧ (type_of% @ES.upd.eq_2) ∧ (type_of% @ES.upd.eq_3) ∧ (type_of% @ES.upd.eq_4) ∧ (type_of% @ES.upd.eq_5) ∧ (type_of% @ES.upd.eq_6) ∧ (type_of% @ES.upd.eq_7) ∧ (type_of% @ES.put.eq_1) ∧ (type_of% @ES.put.eq_2) ∧ (type_of% @sv.eq_1) ∧ (type_of% @sv.eq_2) ∧ (type_of% @ES.kill.eq_1) ∧ (type_of% @ES.kill.eq_2) ∧ (type_of% @has.eq_1) ∧ (type_of% @has.eq_2) ∧ (type_of% @nbeq) ∧ (type_of% @nble) ∧ (type_of% @nblt) ∧ (type_of% @TV.val.eq_1) ∧ (type_of% @TV.val.eq_2) ∧ (type_of% @TV.val1.eq_1) ∧ (type_of% @TV.val1.eq_2) ∧ (type_of% @TV.int.eq_1) ∧ (type_of% @TV.int.eq_2) ∧ (type_of% @TV.str.eq_1) ∧ (type_of% @TV.str.eq_2) ∧ (type_of% @TV.cells.eq_1) ∧ (type_of% @TV.cells.eq_2) ∧ (type_of% @TV.cells.eq_3) ∧ (type_of% @TV.cells.eq_4) ∧ (type_of% @TV.cells.eq_5) ∧ (type_of% @TV.slen.eq_1) ∧ (type_of% @TV.slen.eq_2) ∧ (type_of% @TV.slen.eq_3) ∧ (type_of% @TV.slen.eq_4) ∧ (type_of% @TV.slen.eq_5) ∧ (type_of% @TV.toPV.eq_1) ∧ (type_of% @TV.toPV.eq_2) ∧ (type_of% @TV.toPV.eq_3) ∧ (type_of% @TV.pvs.eq_1) ∧ (type_of% @seqO.eq_1) ∧ (type_of% @seqO.eq_2) ∧ (type_of% @bin_lss) ∧ (type_of% @bin_gtr) ∧ (type_of% @bin_leq) ∧ (type_of% @bin_geq) ∧ (type_of% @bin_eql) ∧ (type_of% @bin_neq) ∧ (type_of% @bin_add) ∧ (type_of% @bin_sub) ∧ (type_of% @bin_mul) ∧ (type_of% @sbin_eql) ∧ (type_of% @sbin_neq) ∧ (type_of% @sbin_lss) ∧ (type_of% @sbin_gtr) ∧ (type_of% @un_neg) ∧ (type_of% @un_not) ∧ (type_of% @startE.eq_1) ∧ (type_of% @numT.eq_1) ∧ (type_of% @numT.eq_2) ∧ (type_of% @numB.eq_1) ∧ (type_of% @numB.eq_2) ∧ (type_of% @numB.eq_3) ∧ (type_of% @numR.eq_1) ∧ (type_of% @numR.eq_2) ∧ (type_of% @numR.eq_3) ∧ (type_of% @ansW.eq_1) ∧ (type_of% @ansW.eq_2) ∧ (type_of% @resT.eq_1) ∧ (type_of% @resT.eq_2) ∧ (type_of% @SRes.get.eq_1) ∧ (type_of% @SRes.get.eq_2) ∧ (type_of% @List.flatMap_nil.{0, 0}) ∧ (type_of% @List.flatMap_cons.{0, 0}) ∧ (type_of% @List.append_nil.{0}) ∧ (type_of% @List.nil_append.{0}) ∧ (type_of% @TV.ids3.eq_1) ∧ (type_of% @TV.ids3.eq_2) ∧ (type_of% @TV.ids2.eq_1) ∧ (type_of% @TV.ids2.eq_2) ∧ (type_of% @TV.ids1.eq_1) ∧ (type_of% @TV.ids1.eq_2) ∧ (type_of% @TV.ids0.eq_1) ∧ (type_of% @TV.ids0.eq_2) ∧ (type_of% @TV.ids0.eq_3) ∧ (type_of% @TV.ids0.eq_4) ∧ (type_of% @TV.ren3.eq_1) ∧ (type_of% @TV.ren3.eq_2) ∧ (type_of% @TV.ren2.eq_1) ∧ (type_of% @TV.ren2.eq_2) ∧ (type_of% @TV.ren1.eq_1) ∧ (type_of% @TV.ren1.eq_2) ∧ (type_of% @TV.ren0.eq_1) ∧ (type_of% @TV.ren0.eq_2) ∧ (type_of% @TV.ren0.eq_3) ∧ (type_of% @TV.ren0.eq_4) ∧ (type_of% @TV.ren0.eq_5) ∧ (type_of% @TV.ren0.eq_6) ∧ (type_of% @bound.eq_1) ∧ (type_of% @bound.eq_2) ∧ (type_of% @if_true.{1}) ∧ (type_of% @if_false.{1}) ∧ (type_of% @Bool.false_eq_true) ∧ (type_of% @partsT.eq_1) ∧ (type_of% @fillT.eq_1) ∧ (type_of% @fillT.eq_2) ∧ (type_of% @splice.eq_1) ∧ (type_of% @List.take_zero.{0}) ∧ (type_of% @List.take_succ_cons.{0}) ∧ (type_of% @List.drop_zero.{0}) ∧ (type_of% @List.drop_succ_cons.{0}) ∧ (type_of% @List.length_cons.{0}) ∧ (type_of% @List.length_nil.{0}) ∧ (type_of% @and_self) ∧ (type_of% @and_true) ∧ (type_of% @true_and) ∧ (type_of% @List.cons_append.{0}) ∧ (type_of% @List.getElem?_cons_zero.{0}) ∧ (type_of% @List.getElem?_cons_succ.{0}) ∧ (type_of% @Nat.zero_add) ∧ (type_of% @Bool.not_true) ∧ (type_of% @Bool.not_false) ∧ (type_of% @Go.Value.oneCell'.eq_1) ∧ (type_of% @Go.Value.oneCell'.eq_2) ∧ (type_of% @Go.Value.oneCell'.eq_3) ∧ (type_of% @Go.Mor.str_toList) ∧ (type_of% @Go.Mor.str_size') ∧ (type_of% @Int.toNat_natCast) ∧ (type_of% @decide_true) ∧ (type_of% @decide_false) ∧ (type_of% @beq_self_eq_true.{0}) ∧ (type_of% @handI.eq_1) ∧ (type_of% @FS.mo.eq_1) ∧ (type_of% @MO.ren.eq_1) ∧ (type_of% @MO.ren.eq_2) ∧ (type_of% @rhoIn.eq_1) ∧ (type_of% @pos.eq_1) ∧ (type_of% @pos.eq_2) ∧ (type_of% @rhoOut.eq_1) ∧ (type_of% @outs.eq_1) ∧ (type_of% @outs.eq_2) ∧ (type_of% @newId.eq_1) ∧ (type_of% @dstId.eq_1) ∧ (type_of% @dstId.eq_2) ∧ (type_of% @putMem.eq_1) ∧ (type_of% @putMem.eq_2) ∧ (type_of% @List.lookup.eq_1.{0, 0}) ∧ (type_of% @List.lookup.eq_2.{0, 0}) ∧ (type_of% @moOk.eq_1) ∧ (type_of% @moOk.eq_2) ∧ (type_of% @moOk.eq_3) ∧ (type_of% @moOk.eq_4) ∧ (type_of% @Nat.le_refl) ∧ (type_of% @Int.natCast_nonneg) ∧ (type_of% @v_skip) ∧ (type_of% @v_seq) ∧ (type_of% @v_exit) ∧ (type_of% @v_ret) ∧ (type_of% @v_block) ∧ (type_of% @v_cond) ∧ (type_of% @v_reg) ∧ (type_of% @v_reg2) ∧ (type_of% @v_nil) ∧ (type_of% @v_regK) ∧ (type_of% @v_skipK) ∧ (type_of% @v_op) ∧ (type_of% @v_guard) ∧ (type_of% @gW) ∧ (type_of% @gW_u) ∧ (type_of% @PostR.eq_1) ∧ (type_of% @PostR.eq_2) ∧ (type_of% @PostR.eq_3) ∧ (type_of% @PostR.eq_4) ∧ (type_of% @exitR.eq_1) ∧ (type_of% @exitF.eq_1) ∧ (type_of% @idsFrom.eq_1) ∧ (type_of% @idsFrom.eq_2) ∧ (type_of% @gW_undef) ∧ (type_of% @Nat.sub_zero) ∧ (type_of% @gW_i) ∧ (type_of% @gK_T1) ∧ (type_of% @gK_T0) ∧ (type_of% @gK_F1) ∧ (type_of% @gK_F0) ∧ (type_of% @gK_d1) ∧ (type_of% @gK_d0) ∧ (type_of% @gK_n1) ∧ (type_of% @gK_n0) ∧ (type_of% @v_then_n) ∧ (type_of% @v_then_r) ∧ (type_of% @v_then_x) ∧ (type_of% @v_blk_n) ∧ (type_of% @v_blk_r) ∧ (type_of% @v_blk_x) ∧ (type_of% @s_some) ∧ (type_of% @s_none) ∧ (type_of% @s_ite) ∧ (type_of% @s_get) ∧ (type_of% @bW_T) ∧ (type_of% @bW_F) ∧ (type_of% @bW_d) ∧ (type_of% @bW_n) ∧ (type_of% @bW_a) ∧ (type_of% @bW_o) ∧ (type_of% @bK) ∧ (type_of% @callIn.eq_1) ∧ (type_of% @callOut.eq_1) ∧ (type_of% @callvIn.eq_1) ∧ (type_of% @TV.callee.eq_1) ∧ (type_of% @TV.callee.eq_2) ∧ (type_of% @TV.callee.eq_3) ∧ (type_of% @TV.callee.eq_4) ∧ (type_of% @Post0.eq_1) ∧ (type_of% @Post0.eq_2) ∧ (type_of% @Post0.eq_3) ∧ (type_of% @Post0.eq_4) ∧ (type_of% @Post1.eq_1) ∧ (type_of% @Post1.eq_2) ∧ (type_of% @Post1.eq_3) ∧ (type_of% @Post1.eq_4) ∧ (type_of% @ansW1.eq_1) ∧ (type_of% @ansW1.eq_2) ∧ (type_of% @bin_quoI) ∧ (type_of% @bin_remI) ∧ (type_of% @sbin_addI) ∧ (type_of% @TV.elems.eq_1) ∧ (type_of% @TV.elems.eq_2) ∧ (type_of% @TV.elems.eq_3) ∧ (type_of% @TV.elems.eq_4) ∧ (type_of% @TV.isNil.eq_1) ∧ (type_of% @TV.isNil.eq_2) ∧ (type_of% @List.all_cons.{0}) ∧ (type_of% @List.all_nil.{0}) ∧ (type_of% @Bool.and_true) ∧ (type_of% @Bool.true_and) ∧ (type_of% @Bool.and_false) ∧ (type_of% @Bool.false_and) ∧ (type_of% @Bool.and_self) ∧ (type_of% @ne_eq.{1}) ∧ (type_of% @not_false_eq_true) ∧ (type_of% @not_true_eq_false) ∧ (type_of% @false_and) ∧ (type_of% @and_false) ∧ (type_of% @or_false) ∧ (type_of% @or_self) ∧ (type_of% @false_or) ∧ (type_of% @imp_self) ∧ (type_of% @forall_const.{0}) ∧ (type_of% @Option.isNone_none.{0}) ∧ (type_of% @List.getElem?_nil.{0}) ∧ (type_of% @decide_eq_true_eq) ∧ (type_of% @eq_self.{1}) ∧ (type_of% @Go.Mor.str_list) ∧ (type_of% @Go.Mor.str_append) ∧ (type_of% @Go.Mor.str_extract) ∧ (type_of% @List.getElem?_map.{0, 0}) ∧ (type_of% @Option.map_map.{0, 0, 0}) ∧ (type_of% @List.length_map.{0, 0}) ∧ (type_of% @Function.comp_apply.{1, 1, 1}) ∧ (type_of% @List.length_append.{0}) ∧ (type_of% @List.length_set.{0}) ∧ (type_of% @List.set_cons_zero.{0}) ∧ (type_of% @List.set_cons_succ.{0}) ∧ (type_of% @imp_false) ∧ (type_of% @Decidable.not_not) ∧ (type_of% @e_ssub) ∧ (type_of% @e_ssub1) ∧ (type_of% @e_ssub2) ∧ (type_of% @e_ssub3) ∧ (type_of% @e_ssub4) ∧ (type_of% @e_sub) ∧ (type_of% @e_sub1) ∧ (type_of% @e_sub2) ∧ (type_of% @e_sub3) ∧ (type_of% @e_sub4) ∧ (type_of% @e_subT1) ∧ (type_of% @e_subT2) ∧ (type_of% @e_subT3) ∧ (type_of% @e_appN) ∧ (type_of% @e_appN1) ∧ (type_of% @e_appN2) ∧ (type_of% @e_appNS) ∧ (type_of% @e_appNS1) ∧ (type_of% @e_appNS2) ∧ (type_of% @e_rng) ∧ (type_of% @e_rng1) ∧ (type_of% @e_mks) ∧ (type_of% @e_mks1) ∧ (type_of% @e_bslO) ∧ (type_of% @e_bslO1) ∧ (type_of% @e_nxt) ∧ (type_of% @e_nxt1) ∧ (type_of% @e_nxt2) ∧ (type_of% @s_ite2) ∧ (type_of% @reach_nil) ∧ (type_of% @reach_cons) ∧ (type_of% @reach_m1) ∧ (type_of% @reach_m2) ∧ (type_of% @reach_m3) ∧ (type_of% @reach_m4) ∧ (type_of% @Option.map_none.{0, 0}) ∧ (type_of% @Option.bind_none.{0, 0}) ∧ (type_of% @nc_mov) ∧ (type_of% @nc_pick) ∧ (type_of% @nc_bin) ∧ (type_of% @nc_un) ∧ (type_of% @nc_cvi) ∧ (type_of% @nc_cvs) ∧ (type_of% @nc_b2s) ∧ (type_of% @nc_imm) ∧ (type_of% @nc_sidx) ∧ (type_of% @nc_ssub) ∧ (type_of% @nc_slen) ∧ (type_of% @nc_new) ∧ (type_of% @nc_box) ∧ (type_of% @nc_build) ∧ (type_of% @nc_bsl) ∧ (type_of% @nc_bslO) ∧ (type_of% @nc_fld) ∧ (type_of% @nc_fldA) ∧ (type_of% @nc_ld) ∧ (type_of% @nc_st) ∧ (type_of% @nc_len) ∧ (type_of% @nc_idxA) ∧ (type_of% @nc_sub) ∧ (type_of% @nc_app) ∧ (type_of% @nc_appS) ∧ (type_of% @nc_appN) ∧ (type_of% @nc_appNS) ∧ (type_of% @nc_ext) ∧ (type_of% @nc_nchk) ∧ (type_of% @nc_mkf) ∧ (type_of% @nc_rng) ∧ (type_of% @nc_nxt) ∧ (type_of% @nc_mks) ∧ (type_of% @nc_lkp) ∧ (type_of% @nc_mkI) ∧ (type_of% @nc_pan) ∧ (type_of% @e_lkp) ∧ (type_of% @e_lkp1) ∧ (type_of% @e_lkp2) ∧ (type_of% @e_lkp3) ∧ (type_of% @findKs.eq_1) ∧ (type_of% @findKs.eq_2) ∧ (type_of% @kdOf.eq_1) ∧ (type_of% @zeroT.eq_1) ∧ (type_of% @zeroT.eq_2) ∧ (type_of% @v_then_p) ∧ (type_of% @v_blk_p) ∧ (type_of% @v_panK) ∧ (type_of% @sp_some) ∧ (type_of% @sp_get) ∧ (type_of% @sp_ite) ∧ (type_of% @dstOps.eq_1) ∧ (type_of% @List.filterMap_cons.{0, 0}) ∧ (type_of% @List.filterMap_nil.{0, 0}) ∧ (type_of% @PostP.eq_1) ∧ (type_of% @PostP.eq_2) ∧ (type_of% @vp_opE) ∧ (type_of% @vp_panE) ∧ (type_of% @panW1) ∧ (type_of% @np_mov) ∧ (type_of% @np_pick) ∧ (type_of% @np_bin) ∧ (type_of% @np_un) ∧ (type_of% @np_cvi) ∧ (type_of% @np_cvs) ∧ (type_of% @np_b2s) ∧ (type_of% @np_imm) ∧ (type_of% @np_sidx) ∧ (type_of% @np_ssub) ∧ (type_of% @np_slen) ∧ (type_of% @np_new) ∧ (type_of% @np_box) ∧ (type_of% @np_build) ∧ (type_of% @np_bsl) ∧ (type_of% @np_bslO) ∧ (type_of% @np_fld) ∧ (type_of% @np_fldA) ∧ (type_of% @np_ld) ∧ (type_of% @np_st) ∧ (type_of% @np_len) ∧ (type_of% @np_idxA) ∧ (type_of% @np_sub) ∧ (type_of% @np_app) ∧ (type_of% @np_appS) ∧ (type_of% @np_appN) ∧ (type_of% @np_appNS) ∧ (type_of% @np_ext) ∧ (type_of% @np_nchk) ∧ (type_of% @np_mkf) ∧ (type_of% @np_rng) ∧ (type_of% @np_nxt) ∧ (type_of% @np_mks) ∧ (type_of% @np_lkp) ∧ (type_of% @np_mkI) :=
 ⟨@bFT, @bTF, @ES.fgt.eq_1, @List.map_cons.{0, 0}, @List.map_nil.{0, 0}, @fgt3.eq_1, @TV.m3.eq_1, @TV.m3.eq_2, @TV.m2.eq_1, @TV.m2.eq_2, @TV.m1.eq_1, @TV.m1.eq_2, @TV.m0.eq_1, @TV.m0.eq_2, @TV.m0.eq_3, @TV.m0.eq_4, @TV.m0.eq_5, @TV.m0.eq_6, @TV.m0.eq_7, @TV.mF.eq_1, @TV.mF.eq_2, @TV.mE.eq_1, @TV.mE.eq_2, @TV.idsF.eq_1, @TV.idsF.eq_2, @TV.idsE.eq_1, @TV.idsE.eq_2, @TV.renF.eq_1, @TV.renF.eq_2, @TV.renE.eq_1, @TV.renE.eq_2, @List.any_cons.{0}, @List.any_nil.{0}, @Bool.or_false, @Bool.false_or, @drp.eq_1, @drp.eq_2, @effG.eq_1, @effF.eq_1, @footOk.eq_1, @SOp.foot.eq_1, @SOp.foot.eq_2, @SOp.foot.eq_3, @SOp.foot.eq_4, @only.eq_1, @only.eq_2, @isK.eq_1, @isK.eq_2, @eff.eq_1, @eff.eq_2, @eff.eq_3, @eff.eq_4, @eff.eq_5, @eff.eq_6, @eff.eq_7, @eff.eq_8, @eff.eq_9, @eff.eq_11, @eff.eq_12, @eff.eq_13, @eff.eq_14, @eff.eq_15, @eff.eq_16, @eff.eq_17, @eff.eq_18, @eff.eq_19, @eff.eq_20, @eff.eq_21, @eff.eq_22, @eff.eq_23, @eff.eq_25, @eff.eq_28, @eff.eq_31, @eff.eq_32, @eff.eq_33, @eff.eq_34, @eff.eq_35, @eff.eq_44, @eff.eq_45, @Arg.get.eq_1, @Arg.get.eq_2, @ES.fs.eq_1, @lk.eq_1, @lk.eq_2, @Option.map_some.{0, 0}, @Option.bind_some.{0, 0}, @ES.after.eq_1, @ES.upd.eq_1, @ES.upd.eq_2, @ES.upd.eq_3, @ES.upd.eq_4, @ES.upd.eq_5, @ES.upd.eq_6, @ES.upd.eq_7, @ES.put.eq_1, @ES.put.eq_2, @sv.eq_1, @sv.eq_2, @ES.kill.eq_1, @ES.kill.eq_2, @has.eq_1, @has.eq_2, @nbeq, @nble, @nblt, @TV.val.eq_1, @TV.val.eq_2, @TV.val1.eq_1, @TV.val1.eq_2, @TV.int.eq_1, @TV.int.eq_2, @TV.str.eq_1, @TV.str.eq_2, @TV.cells.eq_1, @TV.cells.eq_2, @TV.cells.eq_3, @TV.cells.eq_4, @TV.cells.eq_5, @TV.slen.eq_1, @TV.slen.eq_2, @TV.slen.eq_3, @TV.slen.eq_4, @TV.slen.eq_5, @TV.toPV.eq_1, @TV.toPV.eq_2, @TV.toPV.eq_3, @TV.pvs.eq_1, @seqO.eq_1, @seqO.eq_2, @bin_lss, @bin_gtr, @bin_leq, @bin_geq, @bin_eql, @bin_neq, @bin_add, @bin_sub, @bin_mul, @sbin_eql, @sbin_neq, @sbin_lss, @sbin_gtr, @un_neg, @un_not, @startE.eq_1, @numT.eq_1, @numT.eq_2, @numB.eq_1, @numB.eq_2, @numB.eq_3, @numR.eq_1, @numR.eq_2, @numR.eq_3, @ansW.eq_1, @ansW.eq_2, @resT.eq_1, @resT.eq_2, @SRes.get.eq_1, @SRes.get.eq_2, @List.flatMap_nil.{0, 0}, @List.flatMap_cons.{0, 0}, @List.append_nil.{0}, @List.nil_append.{0}, @TV.ids3.eq_1, @TV.ids3.eq_2, @TV.ids2.eq_1, @TV.ids2.eq_2, @TV.ids1.eq_1, @TV.ids1.eq_2, @TV.ids0.eq_1, @TV.ids0.eq_2, @TV.ids0.eq_3, @TV.ids0.eq_4, @TV.ren3.eq_1, @TV.ren3.eq_2, @TV.ren2.eq_1, @TV.ren2.eq_2, @TV.ren1.eq_1, @TV.ren1.eq_2, @TV.ren0.eq_1, @TV.ren0.eq_2, @TV.ren0.eq_3, @TV.ren0.eq_4, @TV.ren0.eq_5, @TV.ren0.eq_6, @bound.eq_1, @bound.eq_2, @if_true.{1}, @if_false.{1}, @Bool.false_eq_true, @partsT.eq_1, @fillT.eq_1, @fillT.eq_2, @splice.eq_1, @List.take_zero.{0}, @List.take_succ_cons.{0}, @List.drop_zero.{0}, @List.drop_succ_cons.{0}, @List.length_cons.{0}, @List.length_nil.{0}, @and_self, @and_true, @true_and, @List.cons_append.{0}, @List.getElem?_cons_zero.{0}, @List.getElem?_cons_succ.{0}, @Nat.zero_add, @Bool.not_true, @Bool.not_false, @Go.Value.oneCell'.eq_1, @Go.Value.oneCell'.eq_2, @Go.Value.oneCell'.eq_3, @Go.Mor.str_toList, @Go.Mor.str_size', @Int.toNat_natCast, @decide_true, @decide_false, @beq_self_eq_true.{0}, @handI.eq_1, @FS.mo.eq_1, @MO.ren.eq_1, @MO.ren.eq_2, @rhoIn.eq_1, @pos.eq_1, @pos.eq_2, @rhoOut.eq_1, @outs.eq_1, @outs.eq_2, @newId.eq_1, @dstId.eq_1, @dstId.eq_2, @putMem.eq_1, @putMem.eq_2, @List.lookup.eq_1.{0, 0}, @List.lookup.eq_2.{0, 0}, @moOk.eq_1, @moOk.eq_2, @moOk.eq_3, @moOk.eq_4, @Nat.le_refl, @Int.natCast_nonneg, @v_skip, @v_seq, @v_exit, @v_ret, @v_block, @v_cond, @v_reg, @v_reg2, @v_nil, @v_regK, @v_skipK, @v_op, @v_guard, @gW, @gW_u, @PostR.eq_1, @PostR.eq_2, @PostR.eq_3, @PostR.eq_4, @exitR.eq_1, @exitF.eq_1, @idsFrom.eq_1, @idsFrom.eq_2, @gW_undef, @Nat.sub_zero, @gW_i, @gK_T1, @gK_T0, @gK_F1, @gK_F0, @gK_d1, @gK_d0, @gK_n1, @gK_n0, @v_then_n, @v_then_r, @v_then_x, @v_blk_n, @v_blk_r, @v_blk_x, @s_some, @s_none, @s_ite, @s_get, @bW_T, @bW_F, @bW_d, @bW_n, @bW_a, @bW_o, @bK, @callIn.eq_1, @callOut.eq_1, @callvIn.eq_1, @TV.callee.eq_1, @TV.callee.eq_2, @TV.callee.eq_3, @TV.callee.eq_4, @Post0.eq_1, @Post0.eq_2, @Post0.eq_3, @Post0.eq_4, @Post1.eq_1, @Post1.eq_2, @Post1.eq_3, @Post1.eq_4, @ansW1.eq_1, @ansW1.eq_2, @bin_quoI, @bin_remI, @sbin_addI, @TV.elems.eq_1, @TV.elems.eq_2, @TV.elems.eq_3, @TV.elems.eq_4, @TV.isNil.eq_1, @TV.isNil.eq_2, @List.all_cons.{0}, @List.all_nil.{0}, @Bool.and_true, @Bool.true_and, @Bool.and_false, @Bool.false_and, @Bool.and_self, @ne_eq.{1}, @not_false_eq_true, @not_true_eq_false, @false_and, @and_false, @or_false, @or_self, @false_or, @imp_self, @forall_const.{0}, @Option.isNone_none.{0}, @List.getElem?_nil.{0}, @decide_eq_true_eq, @eq_self.{1}, @Go.Mor.str_list, @Go.Mor.str_append, @Go.Mor.str_extract, @List.getElem?_map.{0, 0}, @Option.map_map.{0, 0, 0}, @List.length_map.{0, 0}, @Function.comp_apply.{1, 1, 1}, @List.length_append.{0}, @List.length_set.{0}, @List.set_cons_zero.{0}, @List.set_cons_succ.{0}, @imp_false, @Decidable.not_not, @e_ssub, @e_ssub1, @e_ssub2, @e_ssub3, @e_ssub4, @e_sub, @e_sub1, @e_sub2, @e_sub3, @e_sub4, @e_subT1, @e_subT2, @e_subT3, @e_appN, @e_appN1, @e_appN2, @e_appNS, @e_appNS1, @e_appNS2, @e_rng, @e_rng1, @e_mks, @e_mks1, @e_bslO, @e_bslO1, @e_nxt, @e_nxt1, @e_nxt2, @s_ite2, @reach_nil, @reach_cons, @reach_m1, @reach_m2, @reach_m3, @reach_m4, @Option.map_none.{0, 0}, @Option.bind_none.{0, 0}, @nc_mov, @nc_pick, @nc_bin, @nc_un, @nc_cvi, @nc_cvs, @nc_b2s, @nc_imm, @nc_sidx, @nc_ssub, @nc_slen, @nc_new, @nc_box, @nc_build, @nc_bsl, @nc_bslO, @nc_fld, @nc_fldA, @nc_ld, @nc_st, @nc_len, @nc_idxA, @nc_sub, @nc_app, @nc_appS, @nc_appN, @nc_appNS, @nc_ext, @nc_nchk, @nc_mkf, @nc_rng, @nc_nxt, @nc_mks, @nc_lkp, @nc_mkI, @nc_pan, @e_lkp, @e_lkp1, @e_lkp2, @e_lkp3, @findKs.eq_1, @findKs.eq_2, @kdOf.eq_1, @zeroT.eq_1, @zeroT.eq_2, @v_then_p, @v_blk_p, @v_panK, @sp_some, @sp_get, @sp_ite, @dstOps.eq_1, @List.filterMap_cons.{0, 0}, @List.filterMap_nil.{0, 0}, @PostP.eq_1, @PostP.eq_2, @vp_opE, @vp_panE, @panW1, @np_mov, @np_pick, @np_bin, @np_un, @np_cvi, @np_cvs, @np_b2s, @np_imm, @np_sidx, @np_ssub, @np_slen, @np_new, @np_box, @np_build, @np_bsl, @np_bslO, @np_fld, @np_fldA, @np_ld, @np_st, @np_len, @np_idxA, @np_sub, @np_app, @np_appS, @np_appN, @np_appNS, @np_ext, @np_nchk, @np_mkf, @np_rng, @np_nxt, @np_mks, @np_lkp, @np_mkI⟩
end Go.Sh
end

section
namespace Go.Proofs.YtmiokadmddjccaaGreatDoor
open Go Go.RowKit Go.Mor Go.Sh Go.Sh.Cd1
set_option maxRecDepth 100000
set_option maxHeartbeats 4000000
theorem e0 : (⟨#[]⟩ : ByteArray) = str [] := rfl
theorem z109 (l : List UInt8) (p : Nat) : Utf8.decode (str l) p = Lib.decodeL (l.drop p) := by rw [← Lib.decodeL_drop, str_toList]
def B (b : Bool) : TV := .pv (.v (.bool b))
theorem plain_ok (g : Sh.Glob) (r : Nat) : SCalls Tryz.prog g 161 [.pv (.v (.int .i32 (r : Int)))] [] (B (plainR r)) [] := by
 refine z7 hmix tf_104 rfl ?_
 have h1 : decide ((32 : Int) ≤ (r : Int)) = decide (32 ≤ r) := by rw [Bool.eq_iff_iff]; simp; omega
 have h2 : decide ((r : Int) = 127) = (r == 127) := by rw [Bool.eq_iff_iff]; simp; omega
 unfold plainR B
 by_cases h : 32 ≤ r
 ·have d1 : (32 : Int) ≤ (r : Int) := by omega
  simp only [vcA, seval, vV, d1, h2, h]
  rfl
 ·have d1 : ¬ (32 : Int) ≤ (r : Int) := by omega
  simp only [vcA, seval, vV, d1, h]
theorem validString_ok (m : Nat) (l : List UInt8) (hl : l.length ≤ 9223372036854775807) : SCalls Tryz.prog (gl0 m) 160 [S (str l)] [] (B (Lib.validD l)) [] := by
 have := prim0_sound m 160 [S (str l)] [] (B (Lib.validD l)) [] (by simp [prim0, S, B, Nat.beq, str_size', hl, str_toList])
 exact this
theorem rightText_ok0 (m : Nat) (l : List UInt8) (hl : l.length ≤ 9223372036854775807) : SCalls Tryz.prog (gl0 m) 91 [S (str l)] [] (B (z8 l)) [] := by
 refine z7 hmix tf_110 rfl ?_
 have HV := validString_ok m l hl
 unfold z8 B at *
 by_cases h60 : (l.length : Int) ≤ 60
 ·have d1 : ¬ (60 : Int) < (l.length : Int) := by omega
  have h60' : l.length ≤ 60 := by omega
  simp only [vcA, seval, vV, d1]
  (with_reducible apply v_call); (· simp only [vcA, seval, vV]; with_reducible rfl); (· rfl); (· exact HV); (· first | rfl | (simp only [vcA, seval]; omega)); (· simp only [vcA, seval, vV]; with_reducible rfl)
  cases hv : Lib.validD l
  ·simp only [vcA, seval, vV]
  simp only [vcA, seval, vV]
  refine v_loop (σ := {p : Nat // p ≤ l.length ∧ plainD l = plainD (l.drop p)}) (fun p => ⟨[(14, .it 14)], [], [], [(14, (str l, p.1))]⟩) (fun p => l.length - p.1) ⟨0, Nat.zero_le _, rfl⟩ (lw_eq rfl) ?_
  rintro ⟨p, hp, hd⟩
  by_cases hlt : p < l.length
  ·have hne : l.drop p ≠ [] := by rw [Ne, List.drop_eq_nil_iff]; omega
   rw [z147 _ hne] at hd
   have hle := Lib.decodeL_le (l.drop p) hne
   have hw := Lib.decodeL_width (l.drop p)
   rw [List.length_drop] at hle
   have HP := plain_ok (gl0 m) (Lib.decodeL (l.drop p)).1
   unfold B at HP
   simp only [vcA, seval, vV, hlt, z109]
   (with_reducible apply v_call); (· simp only [vcA, seval, vV]; with_reducible rfl); (· rfl); (· exact HP); (· first | rfl | (simp only [vcA, seval]; omega)); (· simp only [vcA, seval, vV]; with_reducible rfl)
   cases hr : plainR (Lib.decodeL (l.drop p)).1
   ·rw [hr] at hd
    simp only [vcA, seval, vV]
    simp [hd]
   ·simp only [vcA, seval, vV]
    rw [hr, Bool.true_and, List.drop_drop] at hd
    refine z10 ⟨p + (Lib.decodeL (l.drop p)).2, by omega, hd⟩ (by show l.length - (p + _) < l.length - p; omega) ?_
    apply lw_of <;> simp [leL, lk, sv, Nat.beq, I, S, ES.kill, has, drp, nilT]
  ·simp only [vcA, seval, vV, hlt, h60']
   have hnil : l.drop p = [] := List.drop_eq_nil_of_le (by omega)
   rw [hnil] at hd
   rw [hd]; rfl
 ·have d1 : (60 : Int) < (l.length : Int) := by omega
  have h60' : ¬ l.length ≤ 60 := by omega
  simp only [vcA, seval, vV, d1]
  simp [h60']
theorem bare_ok (g : Sh.Glob) (x : V) : SCalls Tryz.prog g 90 [tv x] [] (B (bare x)) [] := by
 refine z7 hmix tf_98 rfl ?_
 have h1 : decide ((x.l.length : Int) = 0) = (x.l.length == 0) := by rw [Bool.eq_iff_iff]; simp
 unfold bare B
 cases h : x.s == []
 ·simp only [vcA, seval, vV, e0, h]
 ·simp only [vcA, seval, vV, e0, h, h1]
theorem rightID_ok (g : Sh.Glob) (n : Int) : SCalls Tryz.prog g 92 [I n] [] (B (rightID n)) [] := by
 refine z7 hmix tf_109 rfl ?_
 unfold B
 simp only [vcA, seval, vV]
 unfold rightID
 repeat' (first | (apply And.intro) | (intro _))
 all_goals (first | rfl | (simp; omega) | (simp_all; done) | (simp_all; omega))
theorem right1_mk (k n : Int) (s : List UInt8) (l : List V) : right1 (.mk k n s l) = if k = 0 then bare (.mk k n s l) && n == 0
 else if k = 1 then bare (.mk k n s l) && decide (-1000000000000000 ≤ n) && decide (n ≤ 1000000000000000)
 else if k = 2 then n == 0 && l.length == 0 && z8 s
 else if k = 3 ∨ k = 4 then bare (.mk k n s l) && rightID n
 else false := rfl
theorem right1_ok0 (m : Nat) (x : V) (hs : z78 x) (h5 : x.k ≠ 5) : SCalls Tryz.prog (gl0 m) 52 [tv x] [] (B (right1 x)) [] := by
 obtain ⟨k, n, s, l⟩ := x
 have HB := bare_ok (gl0 m) (.mk k n s l)
 have HI := rightID_ok (gl0 m) n
 have HT := rightText_ok0 m s hs
 have hln : decide ((l.length : Int) = 0) = (l.length == 0) := by rw [Bool.eq_iff_iff]; simp
 have k5 : ¬ k = 5 := h5
 clear h5 hs
 rw [right1_mk]
 generalize bare (.mk k n s l) = b at HB ⊢
 refine z7 hmix tf_97 rfl ?_
 unfold B at *
 by_cases k0 : k = 0
 ·subst k0
  have hn0 : decide (n = 0) = (n == 0) := by rw [Bool.eq_iff_iff]; simp
  simp only [vcA, seval, vV]
  (with_reducible apply v_call); (· simp only [vcA, seval, vV]; with_reducible rfl); (· rfl); (· exact HB); (· first | rfl | (simp only [vcA, seval]; omega)); (· simp only [vcA, seval, vV]; with_reducible rfl)
  cases b <;> simp only [vcA, seval, vV, hn0]
 rw [if_neg k0]
 by_cases k1 : k = 1
 ·subst k1
  simp only [vcA, seval, vV]
  (with_reducible apply v_call); (· simp only [vcA, seval, vV]; with_reducible rfl); (· rfl); (· exact HB); (· first | rfl | (simp only [vcA, seval]; omega)); (· simp only [vcA, seval, vV]; with_reducible rfl)
  cases b
  ·simp only [vcA, seval, vV]
  ·by_cases q1 : -1000000000000000 ≤ n <;> by_cases q2 : n ≤ 1000000000000000 <;> simp only [vcA, seval, vV, q1, q2]
 rw [if_neg k1]
 by_cases k2 : k = 2
 ·subst k2
  by_cases n0 : n = 0
  ·subst n0
   cases hl : l.length == 0
   ·simp only [vcA, seval, vV, hln, hl]
   ·simp only [vcA, seval, vV, hln, hl]
    (with_reducible apply v_call); (· simp only [vcA, seval, vV]; with_reducible rfl); (· rfl); (· exact HT); (· first | rfl | (simp only [vcA, seval]; omega)); (· simp only [vcA, seval, vV]; with_reducible rfl)
    simp only [vcA, seval, vV]
  ·have hn0 : (n == 0) = false := by simpa using n0
   simp only [vcA, seval, vV, n0, hn0]
 rw [if_neg k2]
 by_cases k3 : k = 3
 ·subst k3
  simp only [vcA, seval, vV]
  (with_reducible apply v_call); (· simp only [vcA, seval, vV]; with_reducible rfl); (· rfl); (· exact HB); (· first | rfl | (simp only [vcA, seval]; omega)); (· simp only [vcA, seval, vV]; with_reducible rfl)
  cases b
  ·simp only [vcA, seval, vV]
  ·simp only [vcA, seval, vV]
   (with_reducible apply v_call); (· simp only [vcA, seval, vV]; with_reducible rfl); (· rfl); (· exact HI); (· first | rfl | (simp only [vcA, seval]; omega)); (· simp only [vcA, seval, vV]; with_reducible rfl)
   simp only [vcA, seval, vV]
 by_cases k4 : k = 4
 ·subst k4
  simp only [vcA, seval, vV]
  (with_reducible apply v_call); (· simp only [vcA, seval, vV]; with_reducible rfl); (· rfl); (· exact HB); (· first | rfl | (simp only [vcA, seval]; omega)); (· simp only [vcA, seval, vV]; with_reducible rfl)
  cases b
  ·simp only [vcA, seval, vV]
  ·simp only [vcA, seval, vV]
   (with_reducible apply v_call); (· simp only [vcA, seval, vV]; with_reducible rfl); (· rfl); (· exact HI); (· first | rfl | (simp only [vcA, seval]; omega)); (· simp only [vcA, seval, vV]; with_reducible rfl)
   simp only [vcA, seval, vV]
 simp only [vcA, seval, vV, k0, k1, k2, k3, k4, k5]
theorem noItem_ok0 (m : Nat) (x : V) (hs : z78 x) : SCalls Tryz.prog (gl0 m) 94 [tv x] [] (B (noItem x)) [] := by
 refine z7 hmix tf_101 rfl ?_
 unfold noItem B
 by_cases k5 : x.k = 5
 ·have h : (x.k == 5) = true := by simp [k5]
  have d : decide (x.k = 5) = true := by simp [k5]
  simp only [vcA, seval, vV, d, h]
  rfl
 ·have HR := right1_ok0 m x hs k5
  have h : (x.k == 5) = false := by simpa using k5
  unfold B at HR
  simp only [vcA, seval, vV, k5, h]
  (with_reducible apply v_call); (· simp only [vcA, seval, vV]; with_reducible rfl); (· rfl); (· exact HR); (· first | rfl | (simp only [vcA, seval]; omega)); (· simp only [vcA, seval, vV]; with_reducible rfl)
  simp only [vcA, seval, vV]
theorem z98 {α : Type} (p : α → Bool) : ∀ (l : List α) (i : Nat), (∀ j x, j < i → l[j]? = some x → p x = false) → ∀ x, l[i]? = some x → p x = true → z43 p l = i
 | [], i, _, x, hx, _ => by simp at hx
 | a :: l, 0, _, x, hx, hp => by simp at hx; subst hx; simp [z43, List.findIdx?_cons, hp]
 | a :: l, i + 1, h, x, hx, hp => by
  have h0 := h 0 a (by omega) rfl
  have := z98 p l i (fun j y hj hy => h (j + 1) y (by omega) (by simpa using hy)) x (by simpa using hx) hp
  unfold z43 at this ⊢
  rw [List.findIdx?_cons, h0]
  cases hf : l.findIdx? p with
  | none => rw [hf] at this; simp only at this; omega
  | some q => rw [hf] at this; simp only at this ⊢; simp; omega
theorem z99 {α : Type} (p : α → Bool) (l : List α) (h : ∀ x ∈ l, p x = false) : z43 p l = -1 := by
 have : l.findIdx? p = none := List.findIdx?_eq_none_iff.2 h
 unfold z43; rw [this]
theorem firstAt_any {α : Type} (p : α → Bool) (l : List α) : decide (0 ≤ z43 p l) = l.any p := by
 rw [Bool.eq_iff_iff, decide_eq_true_eq, List.any_eq_true]
 constructor
 ·intro h
  by_cases hn : ∀ x ∈ l, p x = false
  ·rw [z99 p l hn] at h; omega
  ·obtain ⟨x, hx⟩ := Classical.not_forall.1 hn
   obtain ⟨hx, hp⟩ := Classical.not_imp.1 hx
   exact ⟨x, hx, by simpa using hp⟩
 ·rintro ⟨x, hx, hp⟩
  unfold z43
  cases hf : l.findIdx? p with
  | none => rw [List.findIdx?_eq_none_iff.1 hf x hx] at hp; cases hp
  | some i => simp
theorem indexNo_ok (m : Nat) (l : List V) (hl : l.length ≤ maxLen) (hs : ∀ x ∈ l, z78 x) : SCalls Tryz.prog (gl0 m) 162 [.pv (.sl 4 (V.rows l)), .pv (.v (.func (.func 94) #[] #[]))] [] (I (z43 noItem l)) [] := by
 refine z7 hmix tf_91 rfl ?_
 have hm : maxLen = 9223372036854775807 := rfl
 simp only [vcA, seval, vV]
 refine v_loop (σ := {i : Nat // i ≤ l.length ∧ ∀ j x, j < i → l[j]? = some x → noItem x = false}) (fun i => ⟨[(0, .pv (.sl 4 (V.rows l))), (1, .pv (.v (.func (.func 94) #[] #[]))), (7, I (l.length : Int)), (8, I (i.1 : Int))], [], [], []⟩) (fun i => l.length - i.1) ⟨0, Nat.zero_le _, fun j x hj => by omega⟩ (lw_eq (by simp [I])) ?_
 rintro ⟨i, hi, hno⟩
 by_cases hlt : i < l.length
 ·have d1 : (i : Int) < (l.length : Int) := by omega
  obtain ⟨x, ex⟩ : ∃ x, l[i]? = some x := ⟨_, List.getElem?_eq_getElem hlt⟩
  have HN := noItem_ok0 m x (hs x (List.mem_of_getElem? ex))
  have w1 : IntKind.i64.wrap ((i : Int) + 1) = ((i + 1 : Nat) : Int) := by rw [wrap64 (by omega) (by omega)]; omega
  unfold tv B at HN
  simp only [vcA, seval, vV, d1, ex]
  (with_reducible apply z22); (· simp only [vcA, seval, vV]; with_reducible rfl); (· exact HN); (· rfl); (· simp only [vcA, seval, vV]; with_reducible rfl)
  cases hp : noItem x
  ·simp only [vcA, seval, vV, w1]
   refine z10 ⟨i + 1, by omega, fun j y hj hy => ?_⟩ (by show l.length - (i + 1) < l.length - i; omega) ?_
   ·by_cases hji : j = i
    ·subst hji; rw [ex] at hy; cases hy; exact hp
    ·exact hno j y (by omega) hy
   ·apply lw_of <;> simp [leL, lk, sv, Nat.beq, I, S, ES.kill, has, drp, nilT]
  ·simp only [vcA, seval, vV]
   rw [z98 noItem l i hno x ex hp]
 ·have d1 : ¬ (i : Int) < (l.length : Int) := by omega
  simp only [vcA, seval, vV, d1]
  rw [z99 noItem l (fun x hx => by
   obtain ⟨j, hj⟩ := List.getElem?_of_mem hx
   exact hno j x (by have := (List.getElem?_eq_some_iff.1 hj).1; omega) hj)]
theorem containsNo_ok (m : Nat) (l : List V) (hl : l.length ≤ maxLen) (hs : ∀ x ∈ l, z78 x) : SCalls Tryz.prog (gl0 m) 93 [.pv (.sl 4 (V.rows l)), .pv (.v (.func (.func 94) #[] #[]))] [] (B (l.any noItem)) [] := by
 refine z7 hmix tf_89 rfl ?_
 have HI := indexNo_ok m l hl hs
 rw [← firstAt_any]
 unfold B
 simp only [vcA, seval, vV]
 (with_reducible apply v_call); (· simp only [vcA, seval, vV]; with_reducible rfl); (· rfl); (· exact HI); (· first | rfl | (simp only [vcA, seval]; omega)); (· simp only [vcA, seval, vV]; with_reducible rfl)
 simp only [vcA, seval, vV]
theorem rightV_ok0 (m : Nat) (x : V) (hx : VOk x) : SCalls Tryz.prog (gl0 m) 52 [tv x] [] (B (rightV x)) [] := by
 unfold rightV
 by_cases k5 : x.k = 5
 ·rw [if_pos k5]
  obtain ⟨k, n, s, l⟩ := x
  simp only [Vk] at k5
  subst k5
  simp only [Vn, Vs, Vl]
  refine z7 hmix tf_97 rfl ?_
  unfold B
  by_cases n0 : n = 0
  ·subst n0
   cases hs : s == []
   ·simp only [vcA, seval, vV, e0, hs]
   ·by_cases h12 : l.length ≤ 12
    ·have d1 : (l.length : Int) ≤ 12 := by omega
     have HC := containsNo_ok m l (by unfold maxLen; omega) (fun y hy => hx.2 y hy)
     unfold B at HC
     simp only [vcA, seval, vV, e0, hs, d1, h12]
     (with_reducible apply v_call); (· simp only [vcA, seval, vV]; with_reducible rfl); (· rfl); (· exact HC); (· first | rfl | (simp only [vcA, seval]; omega)); (· simp only [vcA, seval, vV]; with_reducible rfl)
     simp only [vcA, seval, vV]
    ·have d1 : ¬ (l.length : Int) ≤ 12 := by omega
     simp only [vcA, seval, vV, e0, hs, d1, h12]
  ·have hn0 : (n == 0) = false := by simpa using n0
   simp only [vcA, seval, vV, n0, hn0]
 ·rw [if_neg k5]
  exact right1_ok0 m x hx.1 k5
theorem rightType_ok (g : Sh.Glob) (t : Ty) : SCalls Tryz.prog g 96 [tyT t] [] (B (z54 t)) [] := by
 refine z7 hmix tf_111 rfl ?_
 obtain ⟨k, o⟩ := t
 unfold B
 simp only [vcA, seval, vV]
 unfold z54
 repeat' (first | (apply And.intro) | (intro _))
 all_goals (first | (simp_all; done) | (simp_all; omega))
theorem ofKind_ok (g : Sh.Glob) (x : V) (k : Int) : SCalls Tryz.prog g 97 [tv x, I k] [] (B (ofKind x k)) [] := by
 refine z7 hmix tf_103 rfl ?_
 unfold B
 simp only [vcA, seval, vV]
 unfold ofKind
 repeat' (first | (apply And.intro) | (intro _))
 all_goals (first | (simp_all; done) | (simp only [Option.some.injEq, TV.pv.injEq, PV.v.injEq, Value.bool.injEq]; rw [Bool.eq_iff_iff]; simp_all; done) | (simp only [Option.some.injEq, TV.pv.injEq, PV.v.injEq, Value.bool.injEq]; rw [Bool.eq_iff_iff]; simp_all; omega))
theorem fits1_ok (g : Sh.Glob) (x : V) (t : Ty) : SCalls Tryz.prog g 98 [tv x, .ptr 1000 0] [.box [I t.k, I t.o]] (B (!ofKind x t.o)) [.box [I t.k, I t.o]] := by
 refine z15 hmix tf_95 rfl rfl rfl ?_
 have HK := ofKind_ok g x t.o
 unfold B at *
 simp only [vcA, seval, vV]
 (with_reducible apply v_call); (· simp only [vcA, seval, vV]; with_reducible rfl); (· rfl); (· exact HK); (· first | rfl | (simp only [vcA, seval]; omega)); (· simp only [vcA, seval, vV]; with_reducible rfl)
 simp only [vcA, seval, vV]
theorem indexFits_ok (g : Sh.Glob) (l : List V) (t : Ty) (hl : l.length ≤ maxLen) : SCalls Tryz.prog g 162 [.pv (.sl 4 (V.rows l)), .fn (.func 98) [] [.ptr 1000 0]] [.box [I t.k, I t.o]] (I (z43 (fun y => !ofKind y t.o) l)) [.box [I t.k, I t.o]] := by
 refine z15 hmix tf_91 rfl rfl rfl ?_
 have hm : maxLen = 9223372036854775807 := rfl
 simp only [vcA, seval, vV]
 refine v_loop (σ := {i : Nat // i ≤ l.length ∧ ∀ j x, j < i → l[j]? = some x → (!ofKind x t.o) = false}) (fun i => ⟨[(0, .pv (.sl 4 (V.rows l))), (1, .fn (.func 98) [] [.ptr 1000 0]), (7, I (l.length : Int)), (8, I (i.1 : Int))], [(1000, [I t.k, I t.o])], [], []⟩) (fun i => l.length - i.1) ⟨0, Nat.zero_le _, fun j x hj => by omega⟩ (lw_eq (by simp [I])) ?_
 rintro ⟨i, hi, hno⟩
 by_cases hlt : i < l.length
 ·have d1 : (i : Int) < (l.length : Int) := by omega
  obtain ⟨x, ex⟩ : ∃ x, l[i]? = some x := ⟨_, List.getElem?_eq_getElem hlt⟩
  have HN := fits1_ok g x t
  have w1 : IntKind.i64.wrap ((i : Int) + 1) = ((i + 1 : Nat) : Int) := by rw [wrap64 (by omega) (by omega)]; omega
  unfold tv B at HN
  simp only [vcA, seval, vV, d1, ex]
  (with_reducible apply z22); (· simp only [vcA, seval, vV]; with_reducible rfl); (· exact HN); (· rfl); (· simp only [vcA, seval, vV]; with_reducible rfl)
  cases hp : ofKind x t.o
  ·simp only [vcA, seval, vV]
   rw [z98 (fun y => !ofKind y t.o) l i hno x ex (by simp [hp])]
  ·simp only [vcA, seval, vV, w1]
   refine z10 ⟨i + 1, by omega, fun j y hj hy => ?_⟩ (by show l.length - (i + 1) < l.length - i; omega) ?_
   ·by_cases hji : j = i
    ·subst hji; rw [ex] at hy; cases hy; simp [hp]
    ·exact hno j y (by omega) hy
   ·apply lw_of <;> simp [leL, lk, sv, Nat.beq, I, S, ES.kill, has, drp, nilT]
 ·have d1 : ¬ (i : Int) < (l.length : Int) := by omega
  simp only [vcA, seval, vV, d1]
  rw [z99 (fun y => !ofKind y t.o) l (fun x hx => by
   obtain ⟨j, hj⟩ := List.getElem?_of_mem hx
   exact hno j x (by have := (List.getElem?_eq_some_iff.1 hj).1; omega) hj)]
theorem containsFits_ok (g : Sh.Glob) (l : List V) (t : Ty) (hl : l.length ≤ maxLen) : SCalls Tryz.prog g 93 [.pv (.sl 4 (V.rows l)), .fn (.func 98) [] [.ptr 1000 0]] [.box [I t.k, I t.o]] (B (l.any fun y => !ofKind y t.o)) [.box [I t.k, I t.o]] := by
 refine z15 hmix tf_89 rfl rfl rfl ?_
 have HI := indexFits_ok g l t hl
 rw [← firstAt_any]
 unfold B
 simp only [vcA, seval, vV]
 (with_reducible apply v_call); (· simp only [vcA, seval, vV]; with_reducible rfl); (· rfl); (· exact HI); (· first | rfl | (simp only [vcA, seval]; omega)); (· simp only [vcA, seval, vV]; with_reducible rfl)
 simp only [vcA, seval, vV]
theorem fits_ok0 (m : Nat) (x : V) (t : Ty) (hx : VOk x) (hl : x.l.length ≤ maxLen) : SCalls Tryz.prog (gl0 m) 56 [tv x, tyT t] [] (B (fitsV x t)) [] := by
 refine z7 hmix tf_94 rfl ?_
 have HR := rightV_ok0 m x hx
 have HT := rightType_ok (gl0 m) t
 have HK := ofKind_ok (gl0 m) x t.k
 have HC := containsFits_ok (gl0 m) x.l t hl
 unfold fitsV B at *
 simp only [vcA, seval, vV]
 (with_reducible apply v_call); (· simp only [vcA, seval, vV]; with_reducible rfl); (· rfl); (· exact HR); (· first | rfl | (simp only [vcA, seval]; omega)); (· simp only [vcA, seval, vV]; with_reducible rfl)
 cases rightV x
 ·simp only [vcA, seval, vV]
 simp only [vcA, seval, vV]
 (with_reducible apply v_call); (· simp only [vcA, seval, vV]; with_reducible rfl); (· rfl); (· exact HT); (· first | rfl | (simp only [vcA, seval]; omega)); (· simp only [vcA, seval, vV]; with_reducible rfl)
 cases z54 t
 ·simp only [vcA, seval, vV]
 simp only [vcA, seval, vV]
 (with_reducible apply v_call); (· simp only [vcA, seval, vV]; with_reducible rfl); (· rfl); (· exact HK); (· first | rfl | (simp only [vcA, seval]; omega)); (· simp only [vcA, seval, vV]; with_reducible rfl)
 cases ofKind x t.k
 ·simp only [vcA, seval, vV]
 simp only [vcA, seval, vV]
 (with_reducible apply v_call); (· simp only [vcA, seval, vV]; with_reducible rfl); (· rfl); (· exact HC); (· first | rfl | (simp only [vcA, seval]; omega)); (· simp only [vcA, seval, vV]; with_reducible rfl)
 simp only [vcA, seval, vV]
end Go.Proofs.YtmiokadmddjccaaGreatDoor
end

section
namespace Go.Mor
def mag (n : Int) : Nat := if n < 0 then (-1 - n).toNat else n.toNat
def sgn (n : Int) : Nat := if n < 0 then 1 else 0
def tailN : Nat → Nat → List UInt8
 | 0, _ => []
 | f + 1, m => if m = 0 then [] else UInt8.ofNat (m % 128) :: tailN f (m / 128)
def groups (n : Int) : List UInt8 := UInt8.ofNat (mag n % 64 * 2 + sgn n) :: tailN 9 (mag n / 64)
def bump (l : List UInt8) : List UInt8 := l.dropLast ++ (l.getLast?.map (· + 128)).toList
def pack (l : List UInt8) : List UInt8 := l.foldl (fun acc g => bump acc ++ [g]) []
def num (n : Int) : List UInt8 := pack (groups n)
abbrev Ix : Type := Fin 1125899906842624
def rdGo : Nat → Nat × Nat → List UInt8 → Except Bool (Nat × Nat × Nat)
 | _, _, [] => .error false
 | k, st, b :: r =>
  if k ≠ 0 ∧ (b.toNat = 0 ∨ k = 9 ∧ 1 < b.toNat) then .error true else
  let g := b.toNat % 128
  let st' := if k = 0 then (g / 2, g % 2) else (st.1 + g * 2 ^ (7 * k - 1), st.2)
  if b.toNat < 128 then .ok (st'.1, st'.2, k + 1) else rdGo (k + 1) st' r
def stepM (st : Nat × Nat) (x : Ix × UInt8) : Nat × Nat :=
 if x.1.val = 0 then (x.2.toNat % 128 / 2, x.2.toNat % 128 % 2) else (st.1 + x.2.toNat % 128 * 2 ^ (7 * x.1.val - 1), st.2)
def stM (pre : List (Ix × UInt8)) : Nat × Nat := pre.foldl stepM (0, 0)
def pairs (s : List UInt8) (a : Nat) : List (Ix × UInt8) := (s.drop a).zipIdx.map fun p => (Fin.ofNat _ p.2, p.1)
theorem pairs_length (s : List UInt8) (a : Nat) : (pairs s a).length = s.length - a := by simp [pairs]
theorem pairs_get (s : List UInt8) (a k : Nat) (h : a + k < s.length) : (pairs s a)[k]? = some (Fin.ofNat _ k, s[a + k]) := by
 simp [pairs, List.getElem?_drop, List.getElem?_eq_getElem h]
def Begs (s : List UInt8) (a : Nat) (pre : List (Ix × UInt8)) : Prop := pre <+: pairs s a
theorem Begs.last {s : List UInt8} {a : Nat} {pre : List (Ix × UInt8)} {x : Ix × UInt8} (h : Begs s a (pre ++ [x])) (hs : s.length < 1125899906842624) :
  Begs s a pre ∧ x.1.val = pre.length ∧ ∃ hl : a + pre.length < s.length, x.2 = s[a + pre.length] := by
 have hg : Begs s a pre := (List.prefix_append pre [x]).trans h
 have hlen := h.length_le
 rw [pairs_length] at hlen
 simp at hlen
 have hl : a + pre.length < s.length := by omega
 have h1 : (pre ++ [x])[pre.length]? = some x := by simp
 have h2 := List.prefix_iff_getElem?.1 h pre.length (by simp)
 rw [pairs_get s a pre.length hl] at h2
 simp at h2
 subst h2
 exact ⟨hg, by simp [Fin.ofNat]; omega, hl, rfl⟩
structure Mid (s : List UInt8) (a : Nat) (pre : List (Ix × UInt8)) (m sg : Int) : Prop where
 m : m = (stM pre).1
 sg : sg = (stM pre).2
 go : rdGo 0 (0, 0) (s.drop a) = rdGo pre.length (stM pre) (s.drop (a + pre.length))
 lt : (stM pre).1 < 2 ^ (7 * pre.length - 1)
 le : pre.length ≤ 9
end Go.Mor
end

section
namespace Go.Mor
open Go
theorem z71 {s : List UInt8} {i : Nat} (h : i < s.length) : s.drop i = s[i] :: s.drop (i + 1) := List.drop_eq_getElem_cons h

theorem Mid.at {s : List UInt8} {a : Nat} {pre : List (Ix × UInt8)} {x : Ix × UInt8} {m sg : Int} (hs : s.length < 1125899906842624) (hM : Begs s a pre → Mid s a pre m sg) (hg : Begs s a (pre ++ [x])) :
  Mid s a pre m sg ∧ x.1.val = pre.length ∧ rdGo 0 (0, 0) (s.drop a) = rdGo pre.length (stM pre) (x.2 :: s.drop (a + (pre ++ [x]).length)) := by
 obtain ⟨hg', hx, hl, hb⟩ := hg.last hs
 have hm := hM hg'
 refine ⟨hm, hx, ?_⟩
 rw [hm.go, z71 hl, hb]
 simp [Nat.add_assoc]

theorem Mid.ok {s : List UInt8} {a : Nat} {pre : List (Ix × UInt8)} {x : Ix × UInt8} {m sg : Int} (hs : s.length < 1125899906842624) (hM : Begs s a pre → Mid s a pre m sg) (hbad : ¬ (x.1.val ≠ 0 ∧ (x.2.toNat = 0 ∨ x.1.val = 9 ∧ 1 < x.2.toNat)))
  (hlo : x.2.toNat < 128) (hg : Begs s a (pre ++ [x])) : rdGo 0 (0, 0) (s.drop a) = .ok ((stepM (stM pre) x).1, (stepM (stM pre) x).2, x.1.val + 1) := by
 obtain ⟨hm, hx, hr⟩ := Mid.at hs hM hg
 rw [hr, rdGo, if_neg (by rw [← hx]; exact hbad), ← hx]
 simp only [hlo, if_true, stepM]

end Go.Mor
end

section
namespace Go.Mor
def text (s : List UInt8) : List UInt8 := num s.length ++ s
end Go.Mor
end

section
namespace Go.Mor
open Go Go.RowKit
structure Fld where
 n : List UInt8
 t : Ty
 ix : Bool
structure Cls where
 n : List UInt8
 fs : List Fld

def small (b : UInt8) : Bool := decide (97 ≤ b.toNat ∧ b.toNat ≤ 122)
def nameB (b : UInt8) : Bool := small b || decide (48 ≤ b.toNat ∧ b.toNat ≤ 57) || b.toNat == 95
def z16 (s : List UInt8) : Bool := decide (1 ≤ s.length ∧ s.length ≤ 20) && small (s.headD 0) && s.all nameB
def z48 (f : Fld) : Bool := z16 f.n && z54 f.t && (!f.ix || decide (f.t.k ≤ 3))
def fieldAt (c : List Fld) (name : List UInt8) : Int := z43 (fun f => f.n == name) c
def onceGo (all : List Fld) : Nat → List Fld → Bool
 | _, [] => true
 | k, f :: r => z48 f && fieldAt all f.n == k && onceGo all (k + 1) r
def z26 (c : Cls) : Bool := z16 c.n && decide (c.fs.length ≤ 8) && onceGo c.fs 0 c.fs
def z81 : Nat → List Fld → List V → Int × Int
 | _, [], _ => (0, 0)
 | _, _, [] => (0, 0)
 | k, f :: fs, v :: vs => if fitsV v f.t then z81 (k + 1) fs vs else (k, 42)
def check (c : Cls) (vs : List V) : Int × Int :=
 if !z26 c then (0, 40) else if vs.length ≠ c.fs.length then ((min vs.length c.fs.length : Nat), 42) else z81 0 c.fs vs

def IsF (ok : Nat → Prop) (w : World) (l : List Fld) (c : Value) : Prop :=
 ∃ (b off cap : Nat) (p : Option Addr), c = .slice p l.length cap ∧ l.length ≤ cap ∧ cap ≤ maxLen ∧ (l ≠ [] → p = some ⟨b, off, none⟩ ∧ ok b) ∧
  ∀ (i : Nat) (f : Fld), l[i]? = some f → w.cell? ⟨b, off + i * 4, none⟩ = some (.string (str f.n)) ∧ w.cell? ⟨b, off + i * 4 + 1, none⟩ = some (.int .i64 f.t.k)
   ∧ w.cell? ⟨b, off + i * 4 + 2, none⟩ = some (.int .i64 f.t.o) ∧ w.cell? ⟨b, off + i * 4 + 3, none⟩ = some (.bool f.ix)
theorem IsF.keepBy {ok : Nat → Prop} {w w' : World} {l : List Fld} {c : Value} (h : IsF ok w l c) (hk : ∀ a v, ok a.block → w.cell? a = some v → w'.cell? a = some v) : IsF ok w' l c := by
 obtain ⟨b, off, cap, p, h1, h2, h3, h4, h5⟩ := h
 refine ⟨b, off, cap, p, h1, h2, h3, h4, fun i f hf => ?_⟩
 have hb : ok b := (h4 (by rintro rfl; simp at hf)).2
 obtain ⟨q0, q1, q2, q3⟩ := h5 i f hf
 exact ⟨hk _ _ hb q0, hk _ _ hb q1, hk _ _ hb q2, hk _ _ hb q3⟩
theorem IsF.ext {ok : Nat → Prop} {w w' : World} {l : List Fld} {c : Value} (h : IsF ok w l c) (hb : Below w.heap.size w w') : IsF ok w' l c :=
 h.keepBy fun _ _ _ hv => (hb.cell (cell_lt hv)).trans hv
theorem IsF.keep {ok : Nat → Prop} {w w' : World} {l : List Fld} {c : Value} (h : IsF ok w l c) (hk : ∀ b, ok b → w'.heap[b]? = w.heap[b]?) : IsF ok w' l c :=
 h.keepBy fun a _ ho hv => (World.cell?_of_block (w := w) (hk a.block ho)).trans hv
end Go.Mor
end

section
namespace Go.Mor
open Go
def bindsV (s : List UInt8) : Int :=
 if s = [42] ∨ s = [47] ∨ s = [37] then 4 else if s = [43] ∨ s = [45] then 3 else if s = [38] then 2
 else if s = [61] ∨ s = [60, 62] ∨ s = [60] ∨ s = [60, 61] ∨ s = [62] ∨ s = [62, 61] then 1 else 0
def takesV (s : List UInt8) : Int :=
 if s = [108, 101, 110] ∨ s = [116, 101, 120, 116] ∨ s = [110, 117, 109] then 1
 else if s = [108, 101, 102, 116] ∨ s = [114, 105, 103, 104, 116] ∨ s = [102, 114, 111, 109] ∨ s = [102, 105, 110, 100] ∨ s = [109, 105, 110] ∨ s = [109, 97, 120] then 2
 else if s = [105, 102] then 3 else 0
def nodeE (e : V) : Bool :=
 if e.k ≠ 1 ∧ e.n ≠ 0 then false
 else if e.k = 1 then decide (0 ≤ e.n) && decide (e.n ≤ 1000000000000000) && e.s == [] && e.l.length == 0
 else if e.k = 2 then z8 e.s && e.l.length == 0
 else if e.k = 3 then z16 e.s && e.l.length == 0
 else if e.k = 4 then decide (0 < bindsV e.s) && e.l.length == 2
 else if e.k = 5 then e.s == [45] && e.l.length == 1
 else if e.k = 6 then decide (0 < takesV e.s) && decide ((e.l.length : Int) = takesV e.s)
 else false
def okE : Nat → V → Bool
 | 0, _ => false
 | d + 1, e => nodeE e && e.l.all (okE d)
def szE : Nat → V → Nat
 | 0, _ => 1
 | d + 1, e => 1 + (e.l.map (szE d)).sum
def rightE (e : V) : Bool := okE 8 e && decide (szE 8 e ≤ 40)

structure Pc where
 k : Int
 n : Int
 s : List UInt8
 p : Nat
def digB (b : UInt8) : Bool := decide (48 ≤ b.toNat ∧ b.toNat ≤ 57)
def numG : List UInt8 → Int → Nat → Int × Nat
 | [], n, z => (n, z)
 | b :: r, n, z => if digB b then numG r (min (10 * n + ((b.toNat : Int) - 48)) 1000000000000001) (z + 1) else (n, z)
def nameZ : List UInt8 → Nat
 | [] => 0
 | b :: r => if nameB b then nameZ r + 1 else 0
def quoG : List UInt8 → List UInt8 → Nat → Option (List UInt8 × Nat)
 | [], _, _ => none
 | b :: r, acc, k => if b = 34 then (if z8 acc then some (acc, k + 1) else none)
  else if b = 92 then (match r with
   | [] => none
   | c :: r' => if c = 34 ∨ c = 92 then quoG r' (acc ++ [c]) (k + 2) else none)
  else quoG r (acc ++ [b]) (k + 1)
def signP : List UInt8 → List UInt8
 | [] => []
 | b :: r => if b = 60 then (if r.head? = some 62 then [60, 62] else if r.head? = some 61 then [60, 61] else [60])
  else if b = 62 then (if r.head? = some 61 then [62, 61] else [62])
  else if b = 61 ∨ b = 38 ∨ b = 43 ∨ b = 45 ∨ b = 42 ∨ b = 47 ∨ b = 37 ∨ b = 40 ∨ b = 41 ∨ b = 44 then [b] else []
def readP (l : List UInt8) (at_ : Nat) : Option (Pc × Nat) :=
 match l with
 | [] => none
 | b :: r =>
  if digB b then (if 1000000000000000 < (numG l 0 0).1 then none else some (⟨1, (numG l 0 0).1, [], at_⟩, (numG l 0 0).2))
  else if small b then (if z16 (l.take (nameZ l)) then some (⟨3, 0, l.take (nameZ l), at_⟩, nameZ l) else none)
  else if b = 34 then (match quoG r [] 1 with
   | some (t, k) => some (⟨2, 0, t, at_⟩, k)
   | none => none)
  else if signP l = [] then none else some (⟨4, 0, signP l, at_⟩, (signP l).length)
inductive Lx where
 | ok (L : List Pc)
 | bad (p : Nat)
def lexG : Nat → List UInt8 → Nat → List Pc → Option Lx
 | 0, _, _, _ => none
 | f + 1, l, at_, acc => match l with
  | [] => some (.ok acc)
  | b :: r => if b = 32 then lexG f r (at_ + 1) acc else match readP l at_ with
   | none => some (.bad at_)
   | some (q, z) => lexG f (l.drop z) (at_ + z) (acc ++ [q])
inductive Rs (α : Type) where
 | ok (e : α) (p : Nat)
 | bad (a p : Nat)
def pkP (L : List Pc) (sz p : Nat) : Pc := (L[p]?).getD ⟨0, 0, [], sz⟩
def isSg (q : Pc) (t : List UInt8) : Bool := q.k == 4 && q.s == t
mutual
def pE (L : List Pc) (sz : Nat) : Nat → Int → Nat → Option (Rs V)
 | 0, _, _ => none
 | f + 1, least, p => match pT L sz f p with
  | some (.ok e p') => pL L sz f least e p'
  | some (.bad a p') => some (.bad a p')
  | none => none
def pL (L : List Pc) (sz : Nat) : Nat → Int → V → Nat → Option (Rs V)
 | 0, _, _, _ => none
 | f + 1, least, e, p =>
  if (pkP L sz p).k ≠ 4 ∨ bindsV (pkP L sz p).s < least then some (.ok e p)
  else match pE L sz f (bindsV (pkP L sz p).s + 1) (p + 1) with
   | some (.ok e2 p2) => pL L sz f least (.mk 4 0 (pkP L sz p).s [e, e2]) p2
   | some (.bad a p') => some (.bad a p')
   | none => none
def pT (L : List Pc) (sz : Nat) : Nat → Nat → Option (Rs V)
 | 0, _ => none
 | f + 1, p =>
  if isSg (pkP L sz p) [40] then (match pE L sz f 1 (p + 1) with
   | some (.ok e p') => if isSg (pkP L sz p') [41] then some (.ok e (p' + 1)) else some (.bad (pkP L sz p').p p')
   | some (.bad a p') => some (.bad a p')
   | none => none)
  else if isSg (pkP L sz p) [45] then (match pT L sz f (p + 1) with
   | some (.ok e p') => some (.ok (.mk 5 0 [45] [e]) p')
   | some (.bad a p') => some (.bad a p')
   | none => none)
  else if (pkP L sz p).k = 1 then some (.ok (.mk 1 (pkP L sz p).n [] []) (p + 1))
  else if (pkP L sz p).k = 2 then some (.ok (.mk 2 0 (pkP L sz p).s []) (p + 1))
  else if (pkP L sz p).k = 3 then (if 0 < takesV (pkP L sz p).s ∧ isSg (pkP L sz (p + 1)) [40] = true then (match pH L sz f (takesV (pkP L sz p).s).toNat 0 (p + 2) [] with
    | some (.ok l p') => some (.ok (.mk 6 0 (pkP L sz p).s l) p')
    | some (.bad a p') => some (.bad a p')
    | none => none)
   else some (.ok (.mk 3 0 (pkP L sz p).s []) (p + 1)))
  else some (.bad (pkP L sz p).p (p + 1))
def pH (L : List Pc) (sz : Nat) : Nat → Nat → Nat → Nat → List V → Option (Rs (List V))
 | 0, _, _, _, _ => none
 | f + 1, n, k, p, acc =>
  if k < n then (if 0 < k ∧ isSg (pkP L sz p) [44] = false then some (.bad (pkP L sz p).p p)
   else match pE L sz f 1 (if 0 < k then p + 1 else p) with
    | some (.ok e p') => pH L sz f n (k + 1) p' (acc ++ [e])
    | some (.bad a p') => some (.bad a p')
    | none => none)
  else if isSg (pkP L sz p) [41] then some (.ok acc (p + 1)) else some (.bad (pkP L sz p).p p)
end
def parseV (f : Nat) (l : List UInt8) : Option (V × Int × Int) :=
 if 200 < l.length then some (V.nil, 200, 50)
 else match lexG (l.length + 1) l 0 [] with
  | none => none
  | some (.bad a) => some (V.nil, a, 50)
  | some (.ok L) => match pE L l.length f 1 0 with
   | some (.ok e p) => if p < L.length then some (V.nil, (pkP L l.length p).p, 50) else if rightE e then some (e, 0, 0) else some (V.nil, 0, 51)
   | some (.bad a _) => some (V.nil, a, 50)
   | none => none
end Go.Mor
end

section
namespace Go.Proofs.YtmiokadmddjccaaGreatDoor
open Go Go.RowKit Go.Mor Go.Sh
set_option maxRecDepth 100000
set_option maxHeartbeats 4000000
def bindL : List (List UInt8 × Int) := [([42], 4), ([47], 4), ([37], 4), ([43], 3), ([45], 3), ([38], 2), ([61], 1), ([60, 62], 1), ([60], 1), ([60, 61], 1), ([62], 1), ([62, 61], 1)]
def bindKs : List Value := bindL.map fun p => .string (str p.1)
def bindM : TV := .mp bindKs (bindL.map fun p => I p.2)
theorem bindings_ok (g : Sh.Glob) : SCalls Tryz.prog g 59 [] [] bindM [] := by
 refine ⟨z96 (by kernel_rfl), fun w E us hG hm hX hl hr => ?_⟩
 obtain rfl : us = [] := List.eq_nil_of_length_eq_zero hl.symm
 refine calls_of_wp Tryz.func59 rfl ?_
 refine wp_seq (wp_region ?_)
 show wpOps _ _ _ [0] _ _
 rw [wpOps_cons]
 refine z108 rfl rfl (v := .map none) (w' := w) rfl ?_
 show (Code.seq _ _).wp _ _ { tmps := #[.map none, undef, undef], defers := [] } _
 refine wp_seq (wp_region ?_)
 show wpOps _ _ _ (0 :: ([1, 2, 3, 4, 5, 6, 7, 8, 9, 10, 11, 12] ++ [13, 14])) _ _
 rw [wpOps_cons]
 refine z108 rfl rfl (v := .map (some w.heap.size)) (w' := w.alloc (.map #[] 0)) rfl ?_
 have hnew : (w.alloc (.map #[] 0)).heap[w.heap.size]? = some (.map #[] 0) := heap_alloc_new w _
 refine wp_insAll (t := 98) (m := 1) (kt := 9) (et := 3) (text := true) (b := w.heap.size) (by kernel_rfl) (by kernel_rfl) rfl _ _ _ _ #[] 0 rfl hnew (by rfl) ?_
 intro es clock w' hturn hb hks hvs
 show wpOps _ _ _ [13, 14] { tmps := #[.map none, .map (some w.heap.size), undef], defers := [] } _
 rw [wpOps_cons]
 refine z108 rfl rfl (v := .map (some w.heap.size)) (w' := w') rfl ?_
 rw [wpOps_cons]
 refine z108 rfl rfl (v := .map (some w.heap.size)) (w' := w') rfl ?_
 show Code.ret.wp _ _ { tmps := #[.map (some w.heap.size), .map (some w.heap.size), .map (some w.heap.size)], defers := [] } _
 refine wp_ret ?_
 have hbel : Below w.heap.size w w' := by
  refine ⟨hturn.os, hturn.tape, hturn.output, by rw [hturn.size]; exact (((Below.refl w.heap.size w)).alloc (Nat.le_refl _) (.map #[] 0)).size, fun k hk => ?_⟩
  rw [hturn.block k (by omega)]
  exact (((Below.refl w.heap.size w)).alloc (Nat.le_refl _) _).block k hk
 refine ⟨rfl, .map (some w.heap.size), by simp [results, Tryz.results59], .map (some w.heap.size), E, rfl, ?_, ?_, ⟨fun _ _ _ => rfl, fun _ _ _ _ => rfl, fun d e W n hd => by obtain ⟨j, _, hj⟩ := z18 hd; simp at hj⟩⟩
 ·exact MSim.ext (s := ⟨fun _ => none, objB [], objR [], fun _ => none⟩) hm hbel E (fun _ _ h => h) (fun _ _ h => .inl h) (fun _ _ => ⟨rfl, rfl⟩) (fun _ _ _ => rfl) (fun _ _ => ⟨rfl, rfl⟩)
 ·have hlen : es.toList.length = 12 := by have := congrArg List.length hks; simpa using this
  refine .mp bindKs _ w.heap.size es clock (fun j => (es.toList.map MapEntry.val).getD j undef) hb hks rfl (fun j e he => by simp [he]) (fun j x hx => ?_)
  rw [hvs]
  have hj : j < 12 := (List.getElem?_eq_some_iff.1 hx).1
  simp only [bindL, List.getElem?_map] at hx
  match j, hj with
  | 0, _ | 1, _ | 2, _ | 3, _ | 4, _ | 5, _ | 6, _ | 7, _ | 8, _ | 9, _ | 10, _ | 11, _ => cases hx; exact .pv (.v _)
theorem bm_m1 (ids : List Nat) : TV.m1 ids bindM = false := rfl
theorem bm_m2 (ids : List Nat) : TV.m2 ids bindM = false := rfl
theorem bm_m3 (ids : List Nat) : TV.m3 ids bindM = false := rfl
theorem bm_ids1 : TV.ids1 bindM = [] := rfl
theorem bm_ids2 : TV.ids2 bindM = [] := rfl
theorem bm_ids3 : TV.ids3 bindM = [] := rfl
theorem bm_ren1 (ρ : Nat → Option Nat) : TV.ren1 ρ bindM = some bindM := rfl
theorem bm_ren2 (ρ : Nat → Option Nat) : TV.ren2 ρ bindM = some bindM := rfl
theorem bm_ren3 (ρ : Nat → Option Nat) : TV.ren3 ρ bindM = some bindM := rfl
theorem bm_cells : TV.cells bindM = some [bindM] := rfl
theorem same_str (a b : List UInt8) : Instr.sameNow (kdOf true) (.string (str a)) (.string (str b)) = some (a == b) := by
 have : (str a == str b) = (a == b) := by
  show (a.toArray == b.toArray) = (a == b)
  simp
 first
  | (simp [Instr.sameNow, kdOf, this]; done)
  | (simp [Instr.sameNow, kdOf]; exact this)
theorem bm_find (s : List UInt8) : ∀ (l : List (List UInt8 × Int)) (i : Nat), findKs (kdOf true) (.string (str s)) (l.map fun p => .string (str p.1)) i = some ((l.findIdx? fun p => s == p.1).map (· + i))
 | [], i => rfl
 | p :: l, i => by
  rw [List.map_cons, findKs, same_str, List.findIdx?_cons]
  cases h : (s == p.1) with
  | true => simp
  | false =>
   simp only [Bool.false_eq_true, if_false, bm_find s l (i + 1), Option.map_map]
   congr 2
   funext j; simp; omega
theorem bm_lk (s : List UInt8) : lkpK true (.int .i64 0) (some bindM) (some (.string (str s))) = some (.pv (.v (.int .i64 (bindsV s))), .no) := by
 show lkpJ _ _ (findKs (kdOf true) (.string (str s)) bindKs 0) = _
 unfold bindKs
 rw [bm_find s bindL 0]
 simp only [bindL, List.findIdx?_cons, List.findIdx?_nil, bindsV]
 by_cases h1 : s = [42]; · subst h1; rfl
 by_cases h2 : s = [47]; · subst h2; rfl
 by_cases h3 : s = [37]; · subst h3; rfl
 by_cases h4 : s = [43]; · subst h4; rfl
 by_cases h5 : s = [45]; · subst h5; rfl
 by_cases h6 : s = [38]; · subst h6; rfl
 by_cases h7 : s = [61]; · subst h7; rfl
 by_cases h8 : s = [60, 62]; · subst h8; rfl
 by_cases h9 : s = [60]; · subst h9; rfl
 by_cases h10 : s = [60, 61]; · subst h10; rfl
 by_cases h11 : s = [62]; · subst h11; rfl
 by_cases h12 : s = [62, 61]; · subst h12; rfl
 simp [h1, h2, h3, h4, h5, h6, h7, h8, h9, h10, h11, h12, lkpJ, zeroT]
theorem bmV : (type_of% @bm_m1) ∧ (type_of% @bm_m2) ∧ (type_of% @bm_m3) ∧ (type_of% @bm_ids1) ∧ (type_of% @bm_ids2) ∧ (type_of% @bm_ids3) ∧ (type_of% @bm_ren1) ∧ (type_of% @bm_ren2) ∧ (type_of% @bm_ren3) ∧ (type_of% @bm_cells) ∧ (type_of% @bm_lk) := ⟨@bm_m1, @bm_m2, @bm_m3, @bm_ids1, @bm_ids2, @bm_ids3, @bm_ren1, @bm_ren2, @bm_ren3, @bm_cells, @bm_lk⟩
end Go.Proofs.YtmiokadmddjccaaGreatDoor
end

section
namespace Go.Sh.Cd5
open Go Go.Sh
set_option maxRecDepth 100000
abbrev c_50_0 : SCode := .reg [([2, 3, 4], [oD 2 (.new zV), oD 3 (.new [(.int .i64 0)]), oD 4 (.new [(.int .i64 0)])])] []
abbrev c_50_1 : SCode := .reg [([], [oM 10 0, oD 11 (.slen (.tmp 10)), oD 12 (.bin .gtr 3 (.tmp 11) (vI 200))])] [10, 11]
abbrev c_50_2 : SCode := .reg [([], [oD 13 (.build zV []), oN (.st 4 (.tmp 2) (.tmp 13)), oN (.st 1 (.tmp 3) (vI 200)), oN (.st 1 (.tmp 4) (vI 50))])] [0, 12, 13]
abbrev c_50_3 : SCode := .reg [([2068, 2069, 2070, 2071, 5], [oM 14 0, oD 15 (.slen (.tmp 14)), oD 16 (.build [(.slice none 0 0), (.int .i64 0), (.int .i64 0)] [(2, 1, (.tmp 15))]), oD 17 (.call 59 0 []), oD 18 (.build [(.slice none 0 0), (.int .i64 0), (.int .i64 0), (.map none)] [(0, 3, (.tmp 16)), (3, 1, (.tmp 17))]), oD 5 (.new [(.slice none 0 0), (.int .i64 0), (.int .i64 0), (.map none)]), oN (.st 4 (.tmp 5) (.tmp 18))])] [12, 14, 15, 16, 17, 18]
abbrev c_50_4 : SCode := .reg [([2080, 2081, 2082, 2083], [oM 19 0, oD 20 (.call 61 0 [.tmp 19])])] [0, 19]
abbrev c_50_5 : SCode := .reg [([2148, 2149, 2150, 2151, 7], [oD 37 (.call 62 1 [.tmp 5]), oM 36 37, oD 38 (.ext (.tmp 36) 0), oD 39 (.ext (.tmp 36) 1), oD 40 (.ext (.tmp 36) 2), oD 7 (.new zV), oN (.st 4 (.tmp 7) (.tmp 38)), oM 8 39, oM 9 40])] [5, 20, 36, 37, 38, 39, 40]
abbrev c_50_6 : SCode := .reg [([], [oM 41 9, oD 42 (.un .not (.tmp 41))])] [9, 41]
abbrev c_50_7 : SCode := .reg [([], [oD 43 (.build zV []), oM 44 8, oN (.st 4 (.tmp 2) (.tmp 43)), oN (.st 1 (.tmp 3) (.tmp 44)), oN (.st 1 (.tmp 4) (vI 50))])] [7, 8, 42, 43, 44]
abbrev c_50_8 : SCode := .reg [([2184, 2185, 2186, 2187], [oL 45 true 4 7, oD 46 (.call 18 0 [.tmp 45]), oD 47 (.un .not (.tmp 46))])] [8, 42, 45, 46]
abbrev c_50_9 : SCode := .reg [([], [oD 48 (.build zV []), oN (.st 4 (.tmp 2) (.tmp 48)), oN (.st 1 (.tmp 3) (vI 0)), oN (.st 1 (.tmp 4) (vI 51))])] [7, 47, 48]
abbrev c_50_10 : SCode := .reg [([], [oL 49 true 4 7, oN (.st 4 (.tmp 2) (.tmp 49)), oN (.st 1 (.tmp 3) (vI 0)), oN (.st 1 (.tmp 4) (vI 0))])] [7, 47, 49]
noncomputable abbrev F_50 : SFunc := ⟨50, (.seq c_50_0 (.seq (.seq c_50_1 (.cond (.tmp 12) (.seq c_50_2 .ret) .skip)) (.seq c_50_3 (.seq (.seq c_50_4 (.block 0 (.raw 50 (rawOf Go.Proofs.Tryz.prog 17 0)))) (.seq c_50_5 (.seq (.seq c_50_6 (.cond (.tmp 42) (.seq c_50_7 .ret) .skip)) (.seq (.seq c_50_8 (.cond (.tmp 47) (.seq c_50_9 .ret) .skip)) (.seq c_50_10 .ret)))))))), [.cell true 4 2, .cell false 1 3, .cell false 1 4], false⟩
theorem tf_50 : z6 Go.Proofs.Tryz.prog 17 (hintT [(17, 0), (20, 0), (32, 0), (37, 1), (46, 0)]) (fpT []) (killT [(1, [10, 11]), (2, [0, 12, 13]), (3, [12, 14, 15, 16, 17, 18]), (4, [0, 19]), (9, [5, 20, 36, 37, 38, 39, 40]), (10, [9, 41]), (11, [7, 8, 42, 43, 44]), (12, [8, 42, 45, 46]), (13, [7, 47, 48]), (14, [7, 47, 49])]) false = some F_50 := by kernel_rfl
abbrev c_51_0 : SCode := .reg [([1], [oD 1 (.box (.tmp 0)), oD 2 (.mov (.val (.bool false)))])] [0, 2]
abbrev c_51_1 : SCode := .reg [([2016, 2017, 2018, 2019, 3], [oD 4 (.call 59 0 []), oD 5 (.build [(.map none), (.int .i64 0)] [(0, 1, (.tmp 4))]), oD 3 (.new [(.map none), (.int .i64 0)]), oN (.st 2 (.tmp 3) (.tmp 5))])] [4, 5]
abbrev c_51_2 : SCode := .reg [([2028, 2029, 2030, 2031], [oL 6 true 4 1, oD 7 (.call 63 1 [.tmp 3, .tmp 6, vI 1]), oM 2 7])] [1, 3, 6, 7]
abbrev F_51 : SFunc := ⟨8, (.seq c_51_0 (.seq c_51_1 (.seq c_51_2 .ret))), [.tmp 2], false⟩
theorem tf_51 : z6 Go.Proofs.Tryz.prog 18 (hintT [(4, 0), (7, 1)]) (fpT []) (killT (klN 0 F_51.code.kl)) false = some F_51 := by kernel_rfl
abbrev c_53_0 : SCode := .reg [([1], [oD 1 (.box (.tmp 0)), oD 2 (.mov (.val .nilFunc))])] [0, 2]
abbrev c_53_1 : SCode := .reg [([], [oD 3 (.mkf (.func 107) [] [.tmp 1]), oM 2 3])] [1, 3]
abbrev F_53 : SFunc := ⟨4, (.seq c_53_0 (.seq c_53_1 .ret)), [.tmp 2], false⟩
theorem tf_53 : z6 Go.Proofs.Tryz.prog 61 (hintT []) (fpT []) (killT (klN 0 F_53.code.kl)) false = some F_53 := by kernel_rfl
abbrev c_3_0 : SCode := .reg [([4], [oD 4 (.box (.tmp 1)), oD 6 (.mov (.val (.bool false)))])] [1, 6]
abbrev c_3_1 : SCode := .reg [([], [oM 9 0, oD 10 (.nchk (.tmp 9)), oD 11 (.fldA 1 (.tmp 10)), oL 12 false 1 11, oD 13 (.bin .add 3 (.tmp 12) (vI 1)), oD 14 (.nchk (.tmp 9)), oD 15 (.fldA 1 (.tmp 14)), oN (.st 1 (.tmp 15) (.tmp 13))])] [9, 10, 11, 12, 13, 14, 15]
abbrev c_3_2 : SCode := .reg [([2112, 2113, 2114, 2115], [oM 16 2, oD 17 (.bin .gtr 3 (.tmp 16) (vI 8)), oM 18 17, oH 19 18 false 0, oG 20 18 false (.nchk (.tmp 19)), oG 21 18 false (.fldA 1 (.tmp 20)), oG 22 18 false (.ld false 1 (.tmp 21)), oG 23 18 false (.bin .gtr 3 (.tmp 22) (vI 40)), oQ 24 18 23 true, oM 25 24, oH 26 25 false 0, oG 27 25 false (.ld true 4 (.tmp 4)), oG 28 25 false (.call 112 1 [.tmp 26, .tmp 27]), oG 29 25 false (.un .not (.tmp 28)), oQ 30 25 29 true])] [16, 17, 18, 19, 20, 21, 22, 23, 24, 25, 26, 27, 28, 29]
abbrev c_3_3 : SCode := .reg [([], [oD 6 (.mov (.val (.bool false)))])] [0, 2, 4, 30]
abbrev c_3_4 : SCode := .reg [([], [oD 31 (.fldA 3 (.tmp 4)), oL 32 false 1 31, oD 33 (.len (.tmp 32)), oD 34 (.mov (vI 0))])] [4, 6, 30, 31]
abbrev c_3_5 : SCode := .reg [([], [oD 35 (.bin .lss 3 (.tmp 34) (.tmp 33))])] []
abbrev c_3_6 : SCode := .reg [([8], [oD 36 (.idxA 4 (.tmp 32) (.tmp 34)), oL 37 true 4 36, oD 8 (.new zV), oN (.st 4 (.tmp 8) (.tmp 37))])] [35, 36, 37]
abbrev c_3_7 : SCode := .reg [([2168, 2169, 2170, 2171], [oM 38 0, oL 39 true 4 8, oM 40 2, oD 41 (.bin .add 3 (.tmp 40) (vI 1)), oD 42 (.call 63 1 [.tmp 38, .tmp 39, .tmp 41]), oD 43 (.un .not (.tmp 42))])] [8, 38, 39, 40, 41, 42]
abbrev c_3_8 : SCode := .reg [([], [oD 6 (.mov (.val (.bool false)))])] [0, 2, 32, 33, 34, 43]
abbrev c_3_9 : SCode := .reg [([], [oD 44 (.bin .add 3 (.tmp 34) (vI 1)), oM 34 44])] [6, 43, 44]
abbrev c_3_10 : SCode := (.seq c_3_5 (.seq (.cond (.tmp 35) .skip (.exit 0)) (.seq (.block 1 (.seq c_3_6 (.seq c_3_7 (.cond (.tmp 43) (.seq c_3_8 .ret) .skip)))) c_3_9)))
abbrev c_3_11 : SCode := .reg [([], [oD 6 (.mov (.val (.bool true)))])] [0, 2, 32, 33, 34]
abbrev F_3 : SFunc := ⟨45, (.seq c_3_0 (.seq c_3_1 (.seq (.seq c_3_2 (.cond (.tmp 30) (.seq c_3_3 .ret) .skip)) (.seq (.seq c_3_4 (.block 0 (.loop c_3_10))) (.seq c_3_11 .ret))))), [.tmp 6], false⟩
theorem tf_3 : z6 Go.Proofs.Tryz.prog 63 (hintT [(28, 1), (42, 1)]) (fpT []) (killT (klN 0 F_3.code.kl)) false = some F_3 := by kernel_rfl
abbrev c_expr_pieces_1_0 : SCode := .reg [([], [oD 3 (.mov (vI 0))])] []
abbrev c_expr_pieces_1_1 : SCode := .reg [([], [oM 6 3, oL 7 false 1 1, oD 8 (.slen (.tmp 7)), oD 9 (.bin .lss 3 (.tmp 6) (.tmp 8)), oM 10 9, oG 11 10 true (.ld false 1 (.tmp 1)), oH 12 10 true 3, oG 13 10 true (.sidx (.tmp 11) (.tmp 12)), oG 14 10 true (.bin .eql 5 (.tmp 13) (.val (.int .u8 32))), oP 15 10 14 false])] [6, 7, 8, 9, 10, 11, 12, 13, 14]
abbrev c_expr_pieces_1_2 : SCode := .reg [([], [oM 16 3, oD 17 (.bin .add 3 (.tmp 16) (vI 1)), oM 3 17])] [15, 16, 17]
abbrev c_expr_pieces_1_3 : SCode := (.seq (.seq c_expr_pieces_1_1 (.cond (.tmp 15) .skip (.exit 2))) (.block 3 c_expr_pieces_1_2))
abbrev c_expr_pieces_1_4 : SCode := .reg [([], [oM 18 3, oL 19 false 1 1, oD 20 (.slen (.tmp 19)), oD 21 (.bin .eql 3 (.tmp 18) (.tmp 20))])] [18, 19, 20]
abbrev c_expr_pieces_1_5 : SCode := .reg [([2104, 2105, 2106, 2107, 4], [oL 23 false 1 1, oM 24 3, oD 25 (.ssub (.tmp 23) (some (.tmp 24)) none), oD 26 (.call 108 0 [.tmp 25]), oM 22 26, oD 27 (.ext (.tmp 22) 0), oD 28 (.ext (.tmp 22) 1), oD 4 (.new [(.int .i64 0), (.int .i64 0), (.string ⟨#[]⟩), (.int .i64 0)]), oN (.st 4 (.tmp 4) (.tmp 27)), oM 5 28])] [21, 22, 23, 24, 25, 26, 27, 28]
abbrev c_expr_pieces_1_6 : SCode := .reg [([], [oM 29 3, oD 30 (.fldA 3 (.tmp 4)), oN (.st 1 (.tmp 30) (.tmp 29))])] [29, 30]
abbrev c_expr_pieces_1_8 : SCode := .reg [([], [oM 39 3, oM 40 5, oD 41 (.bin .add 3 (.tmp 39) (.tmp 40)), oM 3 41])] [5, 38, 39, 40, 41]
abbrev c_54_0 : SCode := .reg [([2], [oD 2 (.new [(.int .i64 0), (.int .i64 0), (.string ⟨#[]⟩), (.int .i64 0)]), oD 3 (.mov (vI 0))])] [3]
abbrev c_54_1 : SCode := .reg [([], [oM 6 0, oD 7 (.sidx (.tmp 6) (vI 0)), oM 4 7])] [6, 7]
abbrev c_54_2 : SCode := .reg [([], [oM 9 4, oD 10 (.bin .geq 5 (.tmp 9) (.val (.int .u8 48))), oM 11 10, oH 12 11 true 4, oG 13 11 true (.bin .leq 5 (.tmp 12) (.val (.int .u8 57))), oP 14 11 13 false, oM 8 14])] [9, 10, 11, 12, 13, 14]
abbrev c_54_3 : SCode := .reg [([2064, 2065, 2066, 2067], [oM 15 0, oD 16 (.call 170 0 [.tmp 15]), oD 17 (.ext (.tmp 16) 0), oD 18 (.ext (.tmp 16) 1), oN (.st 4 (.tmp 2) (.tmp 17)), oM 3 18])] [0, 4, 8, 15, 16, 17, 18]
abbrev c_54_4 : SCode := .reg [([], [oM 20 4, oD 21 (.bin .geq 5 (.tmp 20) (.val (.int .u8 97))), oM 22 21, oH 23 22 true 4, oG 24 22 true (.bin .leq 5 (.tmp 23) (.val (.int .u8 122))), oP 25 22 24 false, oM 19 25])] [8, 20, 21, 22, 23, 24, 25]
abbrev c_54_5 : SCode := .reg [([2108, 2109, 2110, 2111], [oM 26 0, oD 27 (.call 171 0 [.tmp 26]), oD 28 (.ext (.tmp 27) 0), oD 29 (.ext (.tmp 27) 1), oN (.st 4 (.tmp 2) (.tmp 28)), oM 3 29])] [0, 4, 19, 26, 27, 28, 29]
abbrev c_54_6 : SCode := .reg [([], [oM 31 4, oD 32 (.bin .eql 5 (.tmp 31) (.val (.int .u8 34))), oM 30 32])] [4, 19, 31, 32]
abbrev c_54_7 : SCode := .reg [([2136, 2137, 2138, 2139], [oM 33 0, oD 34 (.call 172 0 [.tmp 33]), oD 35 (.ext (.tmp 34) 0), oD 36 (.ext (.tmp 34) 1), oN (.st 4 (.tmp 2) (.tmp 35)), oM 3 36])] [0, 30, 33, 34, 35, 36]
abbrev c_54_8 : SCode := .reg [([2156, 2157, 2158, 2159], [oM 37 0, oD 38 (.bsl 1 [.val (.string ⟨#[61]⟩), .val (.string ⟨#[60, 62]⟩), .val (.string ⟨#[60]⟩), .val (.string ⟨#[60, 61]⟩), .val (.string ⟨#[62]⟩), .val (.string ⟨#[62, 61]⟩), .val (.string ⟨#[38]⟩), .val (.string ⟨#[43]⟩), .val (.string ⟨#[45]⟩), .val (.string ⟨#[42]⟩), .val (.string ⟨#[47]⟩), .val (.string ⟨#[37]⟩), .val (.string ⟨#[40]⟩), .val (.string ⟨#[41]⟩), .val (.string ⟨#[44]⟩)]), oD 39 (.call 173 0 [.tmp 37, .tmp 38]), oM 5 39])] [0, 3, 30, 37, 38, 39]
abbrev c_54_9 : SCode := .reg [([], [oM 40 5, oD 41 (.bin .eql 9 (.tmp 40) (.val (.string ⟨#[]⟩)))])] [40]
abbrev c_54_10 : SCode := .reg [([], [oD 42 (.build [(.int .i64 0), (.int .i64 0), (.string ⟨#[]⟩), (.int .i64 0)] []), oN (.st 4 (.tmp 2) (.tmp 42)), oD 3 (.mov (vI 0))])] [5, 41, 42]
abbrev c_54_11 : SCode := .reg [([], [oM 43 5, oD 44 (.build [(.int .i64 0), (.int .i64 0), (.string ⟨#[]⟩), (.int .i64 0)] [(0, 1, (vI 4)), (2, 1, (.tmp 43))]), oM 45 5, oD 46 (.slen (.tmp 45)), oN (.st 4 (.tmp 2) (.tmp 44)), oM 3 46])] [5, 41, 43, 44, 45, 46]
abbrev F_54 : SFunc := ⟨47, (.seq c_54_0 (.seq (.seq c_54_1 (.block 0 (.seq c_54_2 (.cond (.tmp 8) (.seq c_54_3 .ret) (.seq c_54_4 (.cond (.tmp 19) (.seq c_54_5 .ret) (.seq c_54_6 (.cond (.tmp 30) (.seq c_54_7 .ret) .skip)))))))) (.seq c_54_8 (.seq (.seq c_54_9 (.cond (.tmp 41) (.seq c_54_10 .ret) .skip)) (.seq c_54_11 .ret))))), [.cell true 4 2, .tmp 3], false⟩
theorem tf_54 : z6 Go.Proofs.Tryz.prog 108 (hintT [(16, 0), (27, 0), (34, 0), (38, 0), (39, 0)]) (fpT []) (killT (klN 0 F_54.code.kl)) false = some F_54 := by kernel_rfl
abbrev c_4_0 : SCode := .reg [([4], [oD 4 (.new zV)])] []
abbrev c_4_1 : SCode := .regq [([2036, 2037, 2038, 2039, 5], [oM 8 0, oD 9 (.call 174 3 [.tmp 8]), oD 5 (.new zV), oN (.st 4 (.tmp 5) (.tmp 9))])] [8, 9, 9999]
abbrev c_4_2 : SCode := .reg [([2052, 2053, 2054, 2055, 6], [oM 10 0, oD 11 (.nchk (.tmp 10)), oD 12 (.fldA 0 (.tmp 11)), oD 13 (.call 111 1 [.tmp 12]), oD 6 (.new [(.int .i64 0), (.int .i64 0), (.string ⟨#[]⟩), (.int .i64 0)]), oN (.st 4 (.tmp 6) (.tmp 13))])] [10, 11, 12, 13]
abbrev c_4_3 : SCode := .reg [([], [oM 14 0, oD 15 (.nchk (.tmp 14)), oD 16 (.fldA 3 (.tmp 15)), oL 17 false 1 16, oD 18 (.fldA 2 (.tmp 6)), oL 19 false 1 18, oD 20 (.lkp true (.int .i64 0) (.tmp 17) (.tmp 19)), oM 7 20])] [14, 15, 16, 17, 18, 19, 20]
abbrev c_4_4 : SCode := .reg [([], [oD 21 (.fldA 0 (.tmp 6)), oL 22 false 1 21, oD 23 (.bin .neq 3 (.tmp 22) (vI 4)), oM 24 23, oH 25 24 false 7, oH 26 24 false 1, oG 27 24 false (.bin .lss 3 (.tmp 25) (.tmp 26)), oQ 28 24 27 true])] [21, 22, 23, 24, 25, 26, 27]
abbrev c_4_5 : SCode := .reg [([], [oL 29 true 4 5, oN (.st 4 (.tmp 4) (.tmp 29))])] [0, 1, 5, 6, 7, 28, 29]
abbrev c_4_6 : SCode := .reg [([], [oM 30 0, oD 31 (.nchk (.tmp 30)), oD 32 (.fldA 0 (.tmp 31)), oD 33 (.fldA 1 (.tmp 32)), oL 34 false 1 33, oD 35 (.bin .add 3 (.tmp 34) (vI 1)), oD 36 (.nchk (.tmp 30)), oD 37 (.fldA 0 (.tmp 36)), oD 38 (.fldA 1 (.tmp 37)), oN (.st 1 (.tmp 38) (.tmp 35))])] [28, 30, 31, 32, 33, 34, 35, 36, 37, 38]
abbrev c_4_7 : SCode := .regq [([2180, 2181, 2182, 2183], [oD 39 (.fldA 2 (.tmp 6)), ⟨(some 40), none, (some 6), .ld false 1 (.tmp 39)⟩, ⟨(some 41), none, (some 5), .ld true 4 (.tmp 5)⟩, oM 42 0, oM 43 7, oD 44 (.bin .add 3 (.tmp 43) (vI 1)), ⟨(some 45), none, (some 1000), .call 110 3 [.tmp 42, .tmp 44]⟩, oD 46 (.bsl 4 [.tmp 41, .tmp 45]), oD 47 (.build zV [(0, 1, (vI 4)), (2, 1, (.tmp 40)), (3, 1, (.tmp 46))]), ⟨none, none, (some 5), .st 4 (.tmp 5) (.tmp 47)⟩])] [6, 7, 39, 40, 41, 42, 43, 44, 45, 46, 47, 9999]
abbrev c_4_8 : SCode := (.block 1 (.seq c_4_2 (.seq c_4_3 (.seq (.seq c_4_4 (.cond (.tmp 28) (.seq c_4_5 .ret) .skip)) (.seq c_4_6 c_4_7)))))
abbrev F_4 : SFunc := ⟨48, (.seq c_4_0 (.seq c_4_1 (.block 0 (.loop c_4_8)))), [.cell true 4 4], false⟩
theorem tf_4 : z6 Go.Proofs.Tryz.prog 110 (hintT [(9, 3), (13, 1), (45, 3), (46, 0)]) (fpT [(7, [[(1, 6), (2, 5), (9, 5), (6, 1000)]])]) (killT (klN 0 F_4.code.kl)) false = some F_4 := by kernel_rfl
abbrev c_8_0 : SCode := .reg [([2], [oD 2 (.new [(.int .i64 0), (.int .i64 0), (.string ⟨#[]⟩), (.int .i64 0)])])] []
abbrev c_8_1 : SCode := .reg [([], [oM 3 0, oD 4 (.nchk (.tmp 3)), oD 5 (.fldA 1 (.tmp 4)), oL 6 false 1 5, oM 7 0, oD 8 (.nchk (.tmp 7)), oD 9 (.fldA 0 (.tmp 8)), oL 10 false 1 9, oD 11 (.len (.tmp 10)), oD 12 (.bin .lss 3 (.tmp 6) (.tmp 11))])] [3, 4, 5, 6, 7, 8, 9, 10, 11]
abbrev c_8_2 : SCode := .reg [([], [oM 13 0, oD 14 (.nchk (.tmp 13)), oD 15 (.fldA 0 (.tmp 14)), oL 16 false 1 15, oM 17 0, oD 18 (.nchk (.tmp 17)), oD 19 (.fldA 1 (.tmp 18)), oL 20 false 1 19, oD 21 (.idxA 4 (.tmp 16) (.tmp 20)), oL 22 true 4 21, oN (.st 4 (.tmp 2) (.tmp 22))])] [0, 12, 13, 14, 15, 16, 17, 18, 19, 20, 21, 22]
abbrev c_8_3 : SCode := .reg [([], [oM 23 0, oD 24 (.nchk (.tmp 23)), oD 25 (.fldA 2 (.tmp 24)), oL 26 false 1 25, oD 27 (.build [(.int .i64 0), (.int .i64 0), (.string ⟨#[]⟩), (.int .i64 0)] [(3, 1, (.tmp 26))]), oN (.st 4 (.tmp 2) (.tmp 27))])] [0, 12, 23, 24, 25, 26, 27]
abbrev F_8 : SFunc := ⟨28, (.seq c_8_0 (.seq (.seq c_8_1 (.cond (.tmp 12) (.seq c_8_2 .ret) .skip)) (.seq c_8_3 .ret))), [.cell true 4 2], false⟩
theorem tf_8 : z6 Go.Proofs.Tryz.prog 111 (hintT []) (fpT []) (killT (klN 0 F_8.code.kl)) false = some F_8 := by kernel_rfl
abbrev c_2_0 : SCode := .reg [([3], [oD 3 (.box (.tmp 1)), oD 4 (.mov (.val (.bool false)))])] [1, 4]
abbrev c_2_1 : SCode := .reg [([], [oD 5 (.fldA 0 (.tmp 3)), oL 6 false 1 5, oD 7 (.bin .neq 3 (.tmp 6) (vI 1)), oM 8 7, oG 9 8 true (.fldA 1 (.tmp 3)), oG 10 8 true (.ld false 1 (.tmp 9)), oG 11 8 true (.bin .neq 3 (.tmp 10) (vI 0)), oP 12 8 11 false])] [5, 6, 7, 8, 9, 10, 11]
abbrev c_2_2 : SCode := .reg [([], [oD 4 (.mov (.val (.bool false)))])] [0, 3, 12]
abbrev c_2_3 : SCode := .reg [([], [oD 13 (.fldA 0 (.tmp 3)), oL 14 false 1 13])] [4, 12, 13]
abbrev c_2_4 : SCode := .reg [([], [oD 16 (.bin .eql 3 (.tmp 14) (vI 1)), oM 15 16])] [16]
abbrev c_2_5 : SCode := .reg [([], [oD 17 (.fldA 1 (.tmp 3)), oL 18 false 1 17, oD 19 (.bin .geq 3 (.tmp 18) (vI 0)), oM 20 19, oG 21 20 true (.fldA 1 (.tmp 3)), oG 22 20 true (.ld false 1 (.tmp 21)), oG 23 20 true (.bin .leq 3 (.tmp 22) (vI 1000000000000000)), oP 24 20 23 false, oM 25 24, oG 26 25 true (.fldA 2 (.tmp 3)), oG 27 25 true (.ld false 1 (.tmp 26)), oG 28 25 true (.bin .eql 9 (.tmp 27) (.val (.string ⟨#[]⟩))), oP 29 25 28 false, oM 30 29, oG 31 30 true (.fldA 3 (.tmp 3)), oG 32 30 true (.ld false 1 (.tmp 31)), oG 33 30 true (.len (.tmp 32)), oG 34 30 true (.bin .eql 3 (.tmp 33) (vI 0)), oP 35 30 34 false, oM 4 35])] [0, 3, 14, 15, 17, 18, 19, 20, 21, 22, 23, 24, 25, 26, 27, 28, 29, 30, 31, 32, 33, 34, 35]
abbrev c_2_6 : SCode := .reg [([], [oD 37 (.bin .eql 3 (.tmp 14) (vI 2)), oM 36 37])] [15, 37]
abbrev c_2_7 : SCode := .reg [([2160, 2161, 2162, 2163], [oD 38 (.fldA 2 (.tmp 3)), oL 39 false 1 38, oD 40 (.call 175 0 [.tmp 39]), oM 41 40, oG 42 41 true (.fldA 3 (.tmp 3)), oG 43 41 true (.ld false 1 (.tmp 42)), oG 44 41 true (.len (.tmp 43)), oG 45 41 true (.bin .eql 3 (.tmp 44) (vI 0)), oP 46 41 45 false, oM 4 46])] [0, 3, 14, 36, 38, 39, 40, 41, 42, 43, 44, 45, 46]
abbrev c_2_8 : SCode := .reg [([], [oD 48 (.bin .eql 3 (.tmp 14) (vI 3)), oM 47 48])] [36, 48]
abbrev c_2_9 : SCode := .reg [([2204, 2205, 2206, 2207], [oD 49 (.fldA 2 (.tmp 3)), oL 50 false 1 49, oD 51 (.call 176 0 [.tmp 50]), oM 52 51, oG 53 52 true (.fldA 3 (.tmp 3)), oG 54 52 true (.ld false 1 (.tmp 53)), oG 55 52 true (.len (.tmp 54)), oG 56 52 true (.bin .eql 3 (.tmp 55) (vI 0)), oP 57 52 56 false, oM 4 57])] [0, 3, 14, 47, 49, 50, 51, 52, 53, 54, 55, 56, 57]
abbrev c_2_10 : SCode := .reg [([], [oD 59 (.bin .eql 3 (.tmp 14) (vI 4)), oM 58 59])] [47, 59]
abbrev c_2_11 : SCode := .reg [([], [oM 60 0, oD 61 (.nchk (.tmp 60)), oD 62 (.fldA 0 (.tmp 61)), oL 63 false 1 62, oD 64 (.fldA 2 (.tmp 3)), oL 65 false 1 64, oD 66 (.lkp true (.int .i64 0) (.tmp 63) (.tmp 65)), oD 67 (.bin .gtr 3 (.tmp 66) (vI 0)), oM 68 67, oG 69 68 true (.fldA 3 (.tmp 3)), oG 70 68 true (.ld false 1 (.tmp 69)), oG 71 68 true (.len (.tmp 70)), oG 72 68 true (.bin .eql 3 (.tmp 71) (vI 2)), oP 73 68 72 false, oM 4 73])] [0, 3, 14, 58, 60, 61, 62, 63, 64, 65, 66, 67, 68, 69, 70, 71, 72, 73]
abbrev c_2_12 : SCode := .reg [([], [oD 75 (.bin .eql 3 (.tmp 14) (vI 5)), oM 74 75])] [0, 58, 75]
abbrev c_2_13 : SCode := .reg [([], [oD 76 (.fldA 2 (.tmp 3)), oL 77 false 1 76, oD 78 (.bin .eql 9 (.tmp 77) (.val (.string ⟨#[45]⟩))), oM 79 78, oG 80 79 true (.fldA 3 (.tmp 3)), oG 81 79 true (.ld false 1 (.tmp 80)), oG 82 79 true (.len (.tmp 81)), oG 83 79 true (.bin .eql 3 (.tmp 82) (vI 1)), oP 84 79 83 false, oM 4 84])] [3, 14, 74, 76, 77, 78, 79, 80, 81, 82, 83, 84]
abbrev c_2_14 : SCode := .reg [([], [oD 86 (.bin .eql 3 (.tmp 14) (vI 6)), oM 85 86])] [14, 74, 86]
abbrev c_2_15 : SCode := .reg [([2356, 2357, 2358, 2359, 2388, 2389, 2390, 2391], [oD 87 (.fldA 2 (.tmp 3)), oL 88 false 1 87, oD 89 (.call 177 0 [.tmp 88]), oD 90 (.bin .gtr 3 (.tmp 89) (vI 0)), oM 91 90, oG 92 91 true (.fldA 3 (.tmp 3)), oG 93 91 true (.ld false 1 (.tmp 92)), oG 94 91 true (.len (.tmp 93)), oG 95 91 true (.fldA 2 (.tmp 3)), oG 96 91 true (.ld false 1 (.tmp 95)), oG 97 91 true (.call 177 0 [.tmp 96]), oG 98 91 true (.bin .eql 3 (.tmp 94) (.tmp 97)), oP 99 91 98 false, oM 4 99])] [3, 85, 87, 88, 89, 90, 91, 92, 93, 94, 95, 96, 97, 98, 99]
abbrev c_2_16 : SCode := .reg [([], [oD 4 (.mov (.val (.bool false)))])] [3, 85]
abbrev F_2 : SFunc := ⟨100, (.seq c_2_0 (.seq (.seq c_2_1 (.cond (.tmp 12) (.seq c_2_2 .ret) .skip)) (.seq (.seq c_2_3 (.block 0 (.seq c_2_4 (.cond (.tmp 15) (.seq c_2_5 .ret) (.seq c_2_6 (.cond (.tmp 36) (.seq c_2_7 .ret) (.seq c_2_8 (.cond (.tmp 47) (.seq c_2_9 .ret) (.seq c_2_10 (.cond (.tmp 58) (.seq c_2_11 .ret) (.seq c_2_12 (.cond (.tmp 74) (.seq c_2_13 .ret) (.seq c_2_14 (.cond (.tmp 85) (.seq c_2_15 .ret) .skip)))))))))))))) (.seq c_2_16 .ret)))), [.tmp 4], false⟩
theorem tf_2 : z6 Go.Proofs.Tryz.prog 112 (hintT [(40, 0), (51, 0), (89, 0), (97, 0)]) (fpT []) (killT (klN 0 F_2.code.kl)) false = some F_2 := by kernel_rfl
abbrev c_56_0 : SCode := .reg [([2], [oD 2 (.new [(.int .i64 0), (.int .i64 0), (.string ⟨#[]⟩), (.int .i64 0)]), oD 3 (.mov (vI 0))])] [3]
abbrev c_56_1 : SCode := .reg [([], [oD 4 (.mov (vI 0)), oD 5 (.mov (vI 0))])] []
abbrev c_56_2 : SCode := .reg [([], [oM 6 5, oM 7 0, oD 8 (.slen (.tmp 7)), oD 9 (.bin .lss 3 (.tmp 6) (.tmp 8)), oM 10 9, oH 11 10 true 0, oH 12 10 true 5, oG 13 10 true (.sidx (.tmp 11) (.tmp 12)), oG 14 10 true (.bin .geq 5 (.tmp 13) (.val (.int .u8 48))), oP 15 10 14 false, oM 16 15, oH 17 16 true 0, oH 18 16 true 5, oG 19 16 true (.sidx (.tmp 17) (.tmp 18)), oG 20 16 true (.bin .leq 5 (.tmp 19) (.val (.int .u8 57))), oP 21 16 20 false])] [6, 7, 8, 9, 10, 11, 12, 13, 14, 15, 16, 17, 18, 19, 20]
abbrev c_56_3 : SCode := .reg [([], [oM 22 4, oD 23 (.bin .mul 3 (vI 10) (.tmp 22)), oM 24 0, oM 25 5, oD 26 (.sidx (.tmp 24) (.tmp 25)), oD 27 (.bin .sub 5 (.tmp 26) (.val (.int .u8 48))), oD 28 (.cvi .i64 (.tmp 27)), oD 29 (.bin .add 3 (.tmp 23) (.tmp 28)), oD 30 (.imm false (.tmp 29) (vI 1000000000000001)), oM 4 30])] [21, 22, 23, 24, 25, 26, 27, 28, 29, 30]
abbrev c_56_4 : SCode := .reg [([], [oM 31 5, oD 32 (.bin .add 3 (.tmp 31) (vI 1)), oM 5 32])] [31, 32]
abbrev c_56_5 : SCode := (.seq (.seq c_56_2 (.cond (.tmp 21) .skip (.exit 0))) (.block 1 (.seq c_56_3 c_56_4)))
abbrev c_56_6 : SCode := .reg [([], [oM 33 4, oD 34 (.bin .gtr 3 (.tmp 33) (vI 1000000000000000))])] [0, 33]
abbrev c_56_7 : SCode := .reg [([], [oD 35 (.build [(.int .i64 0), (.int .i64 0), (.string ⟨#[]⟩), (.int .i64 0)] []), oN (.st 4 (.tmp 2) (.tmp 35)), oD 3 (.mov (vI 0))])] [4, 5, 34, 35]
abbrev c_56_8 : SCode := .reg [([], [oM 36 4, oD 37 (.build [(.int .i64 0), (.int .i64 0), (.string ⟨#[]⟩), (.int .i64 0)] [(0, 1, (vI 1)), (1, 1, (.tmp 36))]), oM 38 5, oN (.st 4 (.tmp 2) (.tmp 37)), oM 3 38])] [4, 5, 34, 36, 37, 38]
abbrev F_56 : SFunc := ⟨39, (.seq c_56_0 (.seq c_56_1 (.seq (.block 0 (.loop c_56_5)) (.seq (.seq c_56_6 (.cond (.tmp 34) (.seq c_56_7 .ret) .skip)) (.seq c_56_8 .ret))))), [.cell true 4 2, .tmp 3], false⟩
theorem tf_56 : z6 Go.Proofs.Tryz.prog 170 (hintT []) (fpT []) (killT (klN 0 F_56.code.kl)) false = some F_56 := by kernel_rfl
abbrev c_55_0 : SCode := .reg [([2], [oD 2 (.new [(.int .i64 0), (.int .i64 0), (.string ⟨#[]⟩), (.int .i64 0)]), oD 3 (.mov (vI 0))])] [3]
abbrev c_55_1 : SCode := .reg [([], [oD 4 (.mov (vI 0))])] []
abbrev c_55_2 : SCode := .reg [([], [oM 5 4, oM 6 0, oD 7 (.slen (.tmp 6)), oD 8 (.bin .lss 3 (.tmp 5) (.tmp 7)), oM 9 8, oH 10 9 true 0, oH 11 9 true 4, oG 12 9 true (.sidx (.tmp 10) (.tmp 11)), oG 13 9 true (.bin .geq 5 (.tmp 12) (.val (.int .u8 97))), oH 14 9 true 13, oH 15 14 true 0, oH 16 14 true 4, oG 17 14 true (.sidx (.tmp 15) (.tmp 16)), oG 18 14 true (.bin .leq 5 (.tmp 17) (.val (.int .u8 122))), oG 19 9 true (.pick (.tmp 14) (.tmp 18) (.val (.bool false))), oH 20 9 true 19, oH 21 20 false 0, oH 22 20 false 4, oG 23 20 false (.sidx (.tmp 21) (.tmp 22)), oG 24 20 false (.bin .geq 5 (.tmp 23) (.val (.int .u8 48))), oH 25 20 false 24, oH 26 25 true 0, oH 27 25 true 4, oG 28 25 true (.sidx (.tmp 26) (.tmp 27)), oG 29 25 true (.bin .leq 5 (.tmp 28) (.val (.int .u8 57))), oG 30 20 false (.pick (.tmp 25) (.tmp 29) (.val (.bool false))), oG 31 9 true (.pick (.tmp 20) (.val (.bool true)) (.tmp 30)), oH 32 9 true 31, oH 33 32 false 0, oH 34 32 false 4, oG 35 32 false (.sidx (.tmp 33) (.tmp 34)), oG 36 32 false (.bin .eql 5 (.tmp 35) (.val (.int .u8 95))), oG 37 9 true (.pick (.tmp 32) (.val (.bool true)) (.tmp 36)), oP 38 9 37 false])] [5, 6, 7, 8, 9, 10, 11, 12, 13, 14, 15, 16, 17, 18, 19, 20, 21, 22, 23, 24, 25, 26, 27, 28, 29, 30, 31, 32, 33, 34, 35, 36, 37]
abbrev c_55_3 : SCode := .reg [([], [oM 39 4, oD 40 (.bin .add 3 (.tmp 39) (vI 1)), oM 4 40])] [38, 39, 40]
abbrev c_55_4 : SCode := (.seq (.seq c_55_2 (.cond (.tmp 38) .skip (.exit 0))) (.block 1 c_55_3))
abbrev c_55_5 : SCode := .reg [([2176, 2177, 2178, 2179], [oM 41 0, oM 42 4, oD 43 (.ssub (.tmp 41) none (some (.tmp 42))), oD 44 (.call 176 0 [.tmp 43]), oD 45 (.un .not (.tmp 44))])] [41, 42, 43, 44]
abbrev c_55_6 : SCode := .reg [([], [oD 46 (.build [(.int .i64 0), (.int .i64 0), (.string ⟨#[]⟩), (.int .i64 0)] []), oN (.st 4 (.tmp 2) (.tmp 46)), oD 3 (.mov (vI 0))])] [0, 4, 45, 46]
abbrev c_55_7 : SCode := .reg [([], [oM 47 0, oM 48 4, oD 49 (.ssub (.tmp 47) none (some (.tmp 48))), oD 50 (.build [(.int .i64 0), (.int .i64 0), (.string ⟨#[]⟩), (.int .i64 0)] [(0, 1, (vI 3)), (2, 1, (.tmp 49))]), oM 51 4, oN (.st 4 (.tmp 2) (.tmp 50)), oM 3 51])] [0, 4, 45, 47, 48, 49, 50, 51]
abbrev F_55 : SFunc := ⟨52, (.seq c_55_0 (.seq c_55_1 (.seq (.block 0 (.loop c_55_4)) (.seq (.seq c_55_5 (.cond (.tmp 45) (.seq c_55_6 .ret) .skip)) (.seq c_55_7 .ret))))), [.cell true 4 2, .tmp 3], false⟩
theorem tf_55 : z6 Go.Proofs.Tryz.prog 171 (hintT [(44, 0)]) (fpT []) (killT (klN 0 F_55.code.kl)) false = some F_55 := by kernel_rfl
abbrev c_57_0 : SCode := .reg [([2], [oD 2 (.new [(.int .i64 0), (.int .i64 0), (.string ⟨#[]⟩), (.int .i64 0)]), oD 3 (.mov (vI 0))])] [3]
abbrev c_57_1 : SCode := .reg [([], [oD 4 (.mov (.val (.slice none 0 0)))])] []
abbrev c_57_2 : SCode := .reg [([], [oD 5 (.mov (vI 1))])] []
abbrev c_57_3 : SCode := .reg [([], [oM 6 5, oM 7 0, oD 8 (.slen (.tmp 7)), oD 9 (.bin .lss 3 (.tmp 6) (.tmp 8))])] [6, 7, 8]
abbrev c_57_4 : SCode := .reg [([], [oM 12 0, oM 13 5, oD 14 (.sidx (.tmp 12) (.tmp 13))])] [9, 12, 13]
abbrev c_57_5 : SCode := .reg [([], [oD 16 (.bin .eql 5 (.tmp 14) (.val (.int .u8 34))), oM 15 16])] [16]
abbrev c_57_6 : SCode := .reg [([2076, 2077, 2078, 2079], [oM 17 4, oD 18 (.b2s (.tmp 17)), oD 19 (.call 175 0 [.tmp 18]), oD 20 (.un .not (.tmp 19))])] [0, 14, 15, 17, 18, 19]
abbrev c_57_7 : SCode := .reg [([], [oD 21 (.build [(.int .i64 0), (.int .i64 0), (.string ⟨#[]⟩), (.int .i64 0)] []), oN (.st 4 (.tmp 2) (.tmp 21)), oD 3 (.mov (vI 0))])] [4, 5, 20, 21]
abbrev c_57_8 : SCode := .reg [([], [oM 22 4, oD 23 (.b2s (.tmp 22)), oD 24 (.build [(.int .i64 0), (.int .i64 0), (.string ⟨#[]⟩), (.int .i64 0)] [(0, 1, (vI 2)), (2, 1, (.tmp 23))]), oM 25 5, oD 26 (.bin .add 3 (.tmp 25) (vI 1)), oN (.st 4 (.tmp 2) (.tmp 24)), oM 3 26])] [4, 5, 20, 22, 23, 24, 25, 26]
abbrev c_57_9 : SCode := .reg [([], [oD 28 (.bin .eql 5 (.tmp 14) (.val (.int .u8 92))), oM 27 28])] [14, 15, 28]
abbrev c_57_10 : SCode := .reg [([], [oM 29 5, oD 30 (.bin .add 3 (.tmp 29) (vI 1)), oM 5 30])] [27, 29, 30]
abbrev c_57_11 : SCode := .reg [([], [oM 31 5, oM 32 0, oD 33 (.slen (.tmp 32)), oD 34 (.bin .eql 3 (.tmp 31) (.tmp 33)), oM 35 34, oH 36 35 false 0, oH 37 35 false 5, oG 38 35 false (.sidx (.tmp 36) (.tmp 37)), oG 39 35 false (.bin .neq 5 (.tmp 38) (.val (.int .u8 34))), oH 40 35 false 39, oH 41 40 true 0, oH 42 40 true 5, oG 43 40 true (.sidx (.tmp 41) (.tmp 42)), oG 44 40 true (.bin .neq 5 (.tmp 43) (.val (.int .u8 92))), oG 45 35 false (.pick (.tmp 40) (.tmp 44) (.val (.bool false))), oQ 46 35 45 true])] [31, 32, 33, 34, 35, 36, 37, 38, 39, 40, 41, 42, 43, 44, 45]
abbrev c_57_12 : SCode := .reg [([], [oD 47 (.build [(.int .i64 0), (.int .i64 0), (.string ⟨#[]⟩), (.int .i64 0)] []), oN (.st 4 (.tmp 2) (.tmp 47)), oD 3 (.mov (vI 0))])] [0, 4, 5, 46, 47]
abbrev c_57_13 : SCode := .reg [([], [oM 48 4, oM 49 0, oM 50 5, oD 51 (.sidx (.tmp 49) (.tmp 50)), oD 52 (.bsl 1 [.tmp 51]), oD 53 (.app 5 1 1 (.tmp 48) (.tmp 52)), oM 4 53]), ([53], [oM 48 4, oM 49 0, oM 50 5, oD 51 (.sidx (.tmp 49) (.tmp 50)), oD 52 (.bsl 1 [.tmp 51]), oD 53 (.appN 5 1 1 (.tmp 48) (.tmp 52)), oM 4 53])] [3, 27, 46, 48, 49, 50, 51, 52, 53]
abbrev c_57_14 : SCode := .reg [([], [oM 10 5, oD 11 (.bin .add 3 (.tmp 10) (vI 1)), oM 5 11])] [10, 11]
abbrev c_57_15 : SCode := (.seq (.seq c_57_3 (.cond (.tmp 9) .skip (.exit 0))) (.seq (.block 1 (.seq (.seq c_57_4 (.block 2 (.seq c_57_5 (.cond (.tmp 15) (.seq (.seq c_57_6 (.cond (.tmp 20) (.seq c_57_7 .ret) .skip)) (.seq c_57_8 .ret)) (.seq c_57_9 (.cond (.tmp 27) (.seq c_57_10 (.seq c_57_11 (.cond (.tmp 46) (.seq c_57_12 .ret) .skip))) .skip)))))) c_57_13)) c_57_14))
abbrev c_57_16 : SCode := .reg [([], [oD 54 (.build [(.int .i64 0), (.int .i64 0), (.string ⟨#[]⟩), (.int .i64 0)] []), oN (.st 4 (.tmp 2) (.tmp 54)), oD 3 (.mov (vI 0))])] [0, 4, 5, 54]
abbrev F_57 : SFunc := ⟨55, (.seq c_57_0 (.seq c_57_1 (.seq (.seq c_57_2 (.block 0 (.loop c_57_15))) (.seq c_57_16 .ret)))), [.cell true 4 2, .tmp 3], false⟩
theorem tf_57 : z6 Go.Proofs.Tryz.prog 172 (hintT [(19, 0), (52, 0)]) (fpT []) (killT [(0, [3]), (3, [6, 7, 8]), (5, [9, 12, 13]), (6, [16]), (7, [0, 14, 15, 17, 18, 19]), (8, [4, 5, 20, 21]), (9, [4, 5, 20, 22, 23, 24, 25, 26]), (10, [14, 15, 28]), (11, [27, 29, 30]), (12, [31, 32, 33, 34, 35, 36, 37, 38, 39, 40, 41, 42, 43, 44, 45]), (13, [0, 4, 5, 46, 47]), (14, [3, 27, 46, 48, 49, 50, 51, 52, 53]), (4, [10, 11]), (15, [0, 4, 5, 54])]) false = some F_57 := by kernel_rfl
abbrev c_52_0 : SCode := .reg [([], [oD 4 (.mov (.val (.string ⟨#[]⟩)))])] [4]
abbrev c_52_1 : SCode := .reg [([], [oD 5 (.mov (.val (.string ⟨#[]⟩)))])] []
abbrev c_52_2 : SCode := .reg [([], [oM 8 1, oD 9 (.len (.tmp 8)), oD 10 (.mov (vI 0))])] [1]
abbrev c_52_3 : SCode := .reg [([], [oD 11 (.bin .lss 3 (.tmp 10) (.tmp 9))])] []
abbrev c_52_4 : SCode := .reg [([], [oD 12 (.idxA 1 (.tmp 8) (.tmp 10)), oL 13 false 1 12, oM 7 13])] [11, 12, 13]
abbrev c_52_5 : SCode := .reg [([2064, 2065, 2066, 2067], [oM 14 0, oM 15 7, oD 16 (.call 203 0 [.tmp 14, .tmp 15]), oM 17 16, oH 18 17 true 7, oG 19 17 true (.slen (.tmp 18)), oH 20 17 true 5, oG 21 17 true (.slen (.tmp 20)), oG 22 17 true (.bin .gtr 3 (.tmp 19) (.tmp 21)), oP 23 17 22 false])] [14, 15, 16, 17, 18, 19, 20, 21, 22]
abbrev c_52_6 : SCode := .reg [([], [oM 24 7, oM 5 24])] [7, 23, 24]
abbrev c_52_7 : SCode := .reg [([], [oD 25 (.bin .add 3 (.tmp 10) (vI 1)), oM 10 25])] [7, 23, 25]
abbrev c_52_8 : SCode := (.seq c_52_3 (.seq (.cond (.tmp 11) .skip (.exit 0)) (.seq (.block 1 (.seq c_52_4 (.seq c_52_5 (.cond (.tmp 23) c_52_6 .skip)))) c_52_7)))
abbrev c_52_9 : SCode := .reg [([], [oM 26 5, oM 4 26])] [0, 5, 8, 9, 10, 26]
abbrev F_52 : SFunc := ⟨27, (.seq c_52_0 (.seq c_52_1 (.seq (.seq c_52_2 (.block 0 (.loop c_52_8))) (.seq c_52_9 .ret)))), [.tmp 4], false⟩
theorem tf_52 : z6 Go.Proofs.Tryz.prog 173 (hintT [(16, 0)]) (fpT []) (killT (klN 0 F_52.code.kl)) false = some F_52 := by kernel_rfl
abbrev c_6_0 : SCode := .reg [([2], [oD 2 (.new zV)])] []
abbrev c_6_1 : SCode := .reg [([2036, 2037, 2038, 2039], [oM 6 0, oD 7 (.nchk (.tmp 6)), oD 8 (.fldA 0 (.tmp 7)), oD 9 (.call 204 1 [.tmp 8, .val (.string ⟨#[40]⟩)])])] [6, 7, 8]
abbrev c_6_2 : SCode := .regq [([2044, 2045, 2046, 2047, 3], [oM 10 0, oD 11 (.call 110 3 [.tmp 10, vI 1]), oD 3 (.new zV), oN (.st 4 (.tmp 3) (.tmp 11))])] [9, 10, 11, 9999]
abbrev c_6_3 : SCode := .regq [([2060, 2061, 2062, 2063], [oM 12 0, oD 13 (.nchk (.tmp 12)), oD 14 (.fldA 0 (.tmp 13)), oD 15 (.call 205 3 [.tmp 14, .val (.string ⟨#[41]⟩)])])] [0, 12, 13, 14, 15, 9999]
abbrev c_6_4 : SCode := .reg [([], [oL 16 true 4 3, oN (.st 4 (.tmp 2) (.tmp 16))])] [3, 16]
abbrev c_6_5 : SCode := .reg [([2080, 2081, 2082, 2083], [oM 17 0, oD 18 (.nchk (.tmp 17)), oD 19 (.fldA 0 (.tmp 18)), oD 20 (.call 204 1 [.tmp 19, .val (.string ⟨#[45]⟩)])])] [9, 17, 18, 19]
abbrev c_6_6 : SCode := .regq [([2088, 2089, 2090, 2091], [oM 21 0, oD 22 (.call 174 3 [.tmp 21]), oD 23 (.bsl 4 [.tmp 22]), oD 24 (.build zV [(0, 1, (vI 5)), (2, 1, (.val (.string ⟨#[45]⟩))), (3, 1, (.tmp 23))]), oN (.st 4 (.tmp 2) (.tmp 24))])] [0, 20, 21, 22, 23, 24, 9999]
abbrev c_6_7 : SCode := .reg [([2112, 2113, 2114, 2115, 4], [oM 25 0, oD 26 (.nchk (.tmp 25)), oD 27 (.fldA 0 (.tmp 26)), oD 28 (.call 111 1 [.tmp 27]), oD 4 (.new [(.int .i64 0), (.int .i64 0), (.string ⟨#[]⟩), (.int .i64 0)]), oN (.st 4 (.tmp 4) (.tmp 28))])] [20, 25, 26, 27, 28]
abbrev c_6_8 : SCode := .reg [([], [oM 29 0, oD 30 (.nchk (.tmp 29)), oD 31 (.fldA 0 (.tmp 30)), oD 32 (.fldA 1 (.tmp 31)), oL 33 false 1 32, oD 34 (.bin .add 3 (.tmp 33) (vI 1)), oD 35 (.nchk (.tmp 29)), oD 36 (.fldA 0 (.tmp 35)), oD 37 (.fldA 1 (.tmp 36)), oN (.st 1 (.tmp 37) (.tmp 34))])] [29, 30, 31, 32, 33, 34, 35, 36, 37]
abbrev c_6_9 : SCode := .reg [([], [oD 38 (.fldA 0 (.tmp 4)), oL 39 false 1 38])] [38]
abbrev c_6_10 : SCode := .reg [([], [oD 41 (.bin .eql 3 (.tmp 39) (vI 1)), oM 40 41])] [41]
abbrev c_6_11 : SCode := .reg [([], [oD 42 (.fldA 1 (.tmp 4)), oL 43 false 1 42, oD 44 (.build zV [(0, 1, (vI 1)), (1, 1, (.tmp 43))]), oN (.st 4 (.tmp 2) (.tmp 44))])] [0, 4, 39, 40, 42, 43, 44]
abbrev c_6_12 : SCode := .reg [([], [oD 46 (.bin .eql 3 (.tmp 39) (vI 2)), oM 45 46])] [40, 46]
abbrev c_6_13 : SCode := .reg [([], [oD 47 (.fldA 2 (.tmp 4)), oL 48 false 1 47, oD 49 (.build zV [(0, 1, (vI 2)), (2, 1, (.tmp 48))]), oN (.st 4 (.tmp 2) (.tmp 49))])] [0, 4, 39, 45, 47, 48, 49]
abbrev c_6_14 : SCode := .reg [([], [oD 51 (.bin .eql 3 (.tmp 39) (vI 3)), oM 50 51])] [39, 45, 51]
abbrev c_6_15 : SCode := .reg [([2216, 2217, 2218, 2219], [oD 52 (.fldA 2 (.tmp 4)), oL 53 false 1 52, oD 54 (.call 177 0 [.tmp 53]), oM 5 54])] [50, 52, 53, 54]
abbrev c_6_16 : SCode := .reg [([2244, 2245, 2246, 2247], [oM 55 5, oD 56 (.bin .gtr 3 (.tmp 55) (vI 0)), oM 57 56, oH 58 57 true 0, oG 59 57 true (.nchk (.tmp 58)), oG 60 57 true (.fldA 0 (.tmp 59)), oG 61 57 true (.call 204 1 [.tmp 60, .val (.string ⟨#[40]⟩)]), oP 62 57 61 false])] [55, 56, 57, 58, 59, 60, 61]
abbrev c_6_17 : SCode := .regq [([2268, 2269, 2270, 2271], [oD 63 (.fldA 2 (.tmp 4)), ⟨(some 64), none, (some 4), .ld false 1 (.tmp 63)⟩, oM 65 0, oM 66 5, ⟨(some 67), none, (some 1000), .call 206 3 [.tmp 65, .tmp 66]⟩, oD 68 (.build zV [(0, 1, (vI 6)), (2, 1, (.tmp 64)), (3, 1, (.tmp 67))]), ⟨none, none, (some 2), .st 4 (.tmp 2) (.tmp 68)⟩])] [0, 4, 5, 62, 63, 64, 65, 66, 67, 68, 9999]
abbrev c_6_18 : SCode := .reg [([], [oD 69 (.fldA 2 (.tmp 4)), oL 70 false 1 69, oD 71 (.build zV [(0, 1, (vI 3)), (2, 1, (.tmp 70))]), oN (.st 4 (.tmp 2) (.tmp 71))])] [0, 4, 5, 62, 69, 70, 71]
abbrev c_6_19 : SCode := .regq [([], [oD 72 (.fldA 3 (.tmp 4)), oL 73 false 1 72, oD 74 (.mkI 168 (.tmp 73)), oN (.pan (.tmp 74))])] [0, 4, 50, 72, 73, 74, 9999]
abbrev F_6 : SFunc := ⟨75, (.seq c_6_0 (.seq (.seq c_6_1 (.cond (.tmp 9) (.seq c_6_2 (.seq c_6_3 (.seq c_6_4 .ret))) .skip)) (.seq (.seq c_6_5 (.cond (.tmp 20) (.seq c_6_6 .ret) .skip)) (.seq c_6_7 (.seq c_6_8 (.seq (.seq c_6_9 (.block 0 (.seq c_6_10 (.cond (.tmp 40) (.seq c_6_11 .ret) (.seq c_6_12 (.cond (.tmp 45) (.seq c_6_13 .ret) (.seq c_6_14 (.cond (.tmp 50) (.seq (.seq c_6_15 (.seq c_6_16 (.cond (.tmp 62) (.seq c_6_17 .ret) .skip))) (.seq c_6_18 .ret)) .skip)))))))) c_6_19)))))), [.cell true 4 2], false⟩
theorem tf_6 : z6 Go.Proofs.Tryz.prog 174 (hintT [(9, 1), (11, 3), (15, 3), (20, 1), (22, 3), (23, 0), (28, 1), (54, 0), (61, 1), (67, 3)]) (fpT [(17, [[(1, 4), (6, 2), (4, 1000)]])]) (killT (klN 0 F_6.code.kl)) false = some F_6 := by kernel_rfl
abbrev c_59_0 : SCode := .reg [([], [oD 2 (.mov (.val (.bool false)))])] [2]
abbrev c_59_1 : SCode := .reg [([2020, 2021, 2022, 2023], [oM 3 0, oD 4 (.build zV [(0, 1, (vI 2)), (2, 1, (.tmp 3))]), oD 5 (.call 52 0 [.tmp 4]), oM 2 5])] [0, 3, 4, 5]
abbrev F_59 : SFunc := ⟨6, (.seq c_59_0 (.seq c_59_1 .ret)), [.tmp 2], false⟩
theorem tf_59 : z6 Go.Proofs.Tryz.prog 175 (hintT [(5, 0)]) (fpT []) (killT (klN 0 F_59.code.kl)) false = some F_59 := by kernel_rfl
abbrev c_58_0 : SCode := .reg [([], [oD 2 (.mov (.val (.bool false)))])] [2]
abbrev c_58_1 : SCode := .reg [([2020, 2021, 2022, 2023], [oM 3 0, oD 4 (.build [(.string ⟨#[]⟩), (.slice none 0 0)] [(0, 1, (.tmp 3))]), oD 5 (.call 69 0 [.tmp 4]), oM 2 5])] [0, 3, 4, 5]
abbrev F_58 : SFunc := ⟨6, (.seq c_58_0 (.seq c_58_1 .ret)), [.tmp 2], false⟩
theorem tf_58 : z6 Go.Proofs.Tryz.prog 176 (hintT [(5, 0)]) (fpT []) (killT (klN 0 F_58.code.kl)) false = some F_58 := by kernel_rfl
abbrev c_60_0 : SCode := .reg [([], [oD 2 (.mov (vI 0))])] [2]
abbrev c_60_1 : SCode := .reg [([], [oM 3 0])] [0]
abbrev c_60_2 : SCode := .reg [([], [oD 5 (.bin .eql 9 (.tmp 3) (.val (.string ⟨#[108, 101, 110]⟩))), oM 4 5])] [5]
abbrev c_60_3 : SCode := .reg [([], [oD 6 (.bin .eql 9 (.tmp 3) (.val (.string ⟨#[116, 101, 120, 116]⟩))), oM 4 6])] [6]
abbrev c_60_4 : SCode := .reg [([], [oD 7 (.bin .eql 9 (.tmp 3) (.val (.string ⟨#[110, 117, 109]⟩))), oM 4 7])] [7]
abbrev c_60_5 : SCode := .reg [([], [oD 2 (.mov (vI 1))])] [3, 4]
abbrev c_60_6 : SCode := .reg [([], [oD 9 (.bin .eql 9 (.tmp 3) (.val (.string ⟨#[108, 101, 102, 116]⟩))), oM 8 9])] [4, 9]
abbrev c_60_7 : SCode := .reg [([], [oD 10 (.bin .eql 9 (.tmp 3) (.val (.string ⟨#[114, 105, 103, 104, 116]⟩))), oM 8 10])] [10]
abbrev c_60_8 : SCode := .reg [([], [oD 11 (.bin .eql 9 (.tmp 3) (.val (.string ⟨#[102, 114, 111, 109]⟩))), oM 8 11])] [11]
abbrev c_60_9 : SCode := .reg [([], [oD 12 (.bin .eql 9 (.tmp 3) (.val (.string ⟨#[102, 105, 110, 100]⟩))), oM 8 12])] [12]
abbrev c_60_10 : SCode := .reg [([], [oD 13 (.bin .eql 9 (.tmp 3) (.val (.string ⟨#[109, 105, 110]⟩))), oM 8 13])] [13]
abbrev c_60_11 : SCode := .reg [([], [oD 14 (.bin .eql 9 (.tmp 3) (.val (.string ⟨#[109, 97, 120]⟩))), oM 8 14])] [14]
abbrev c_60_12 : SCode := .reg [([], [oD 2 (.mov (vI 2))])] [3, 8]
abbrev c_60_13 : SCode := .reg [([], [oD 16 (.bin .eql 9 (.tmp 3) (.val (.string ⟨#[105, 102]⟩))), oM 15 16])] [3, 8, 16]
abbrev c_60_14 : SCode := .reg [([], [oD 2 (.mov (vI 3))])] [15]
abbrev c_60_15 : SCode := .reg [([], [oD 2 (.mov (vI 0))])] [15]
abbrev F_60 : SFunc := ⟨17, (.seq c_60_0 (.seq (.seq c_60_1 (.block 0 (.seq (.seq c_60_2 (.cond (.tmp 4) .skip (.seq c_60_3 (.cond (.tmp 4) .skip c_60_4)))) (.cond (.tmp 4) (.seq c_60_5 .ret) (.seq (.seq c_60_6 (.cond (.tmp 8) .skip (.seq c_60_7 (.cond (.tmp 8) .skip (.seq c_60_8 (.cond (.tmp 8) .skip (.seq c_60_9 (.cond (.tmp 8) .skip (.seq c_60_10 (.cond (.tmp 8) .skip c_60_11)))))))))) (.cond (.tmp 8) (.seq c_60_12 .ret) (.seq c_60_13 (.cond (.tmp 15) (.seq c_60_14 .ret) .skip)))))))) (.seq c_60_15 .ret))), [.tmp 2], false⟩
theorem tf_60 : z6 Go.Proofs.Tryz.prog 177 (hintT []) (fpT []) (killT (klN 0 F_60.code.kl)) false = some F_60 := by kernel_rfl
abbrev c_92_0 : SCode := .reg [([], [oD 4 (.mov (.val (.bool false)))])] [4]
abbrev c_92_1 : SCode := .reg [([2028, 2029, 2030, 2031], [oM 5 0, oM 6 1, oD 7 (.call 223 0 [.tmp 5, .tmp 6]), oM 4 7])] [0, 1, 5, 6, 7]
abbrev F_92 : SFunc := ⟨8, (.seq c_92_0 (.seq c_92_1 .ret)), [.tmp 4], false⟩
theorem tf_92 : z6 Go.Proofs.Tryz.prog 203 (hintT [(7, 0)]) (fpT []) (killT (klN 0 F_92.code.kl)) false = some F_92 := by kernel_rfl
abbrev c_9_0 : SCode := .reg [([], [oD 4 (.mov (.val (.bool false)))])] [4]
abbrev c_9_1 : SCode := .reg [([2028, 2029, 2030, 2031, 5], [oM 6 0, oD 7 (.call 111 1 [.tmp 6]), oD 5 (.new [(.int .i64 0), (.int .i64 0), (.string ⟨#[]⟩), (.int .i64 0)]), oN (.st 4 (.tmp 5) (.tmp 7))])] [6, 7]
abbrev c_9_2 : SCode := .reg [([], [oD 8 (.fldA 0 (.tmp 5)), oL 9 false 1 8, oD 10 (.bin .neq 3 (.tmp 9) (vI 4)), oM 11 10, oG 12 11 false (.fldA 2 (.tmp 5)), oG 13 11 false (.ld false 1 (.tmp 12)), oH 14 11 false 1, oG 15 11 false (.bin .neq 9 (.tmp 13) (.tmp 14)), oQ 16 11 15 true])] [1, 5, 8, 9, 10, 11, 12, 13, 14, 15]
abbrev c_9_3 : SCode := .reg [([], [oD 4 (.mov (.val (.bool false)))])] [0, 16]
abbrev c_9_4 : SCode := .reg [([], [oM 17 0, oD 18 (.nchk (.tmp 17)), oD 19 (.fldA 1 (.tmp 18)), oL 20 false 1 19, oD 21 (.bin .add 3 (.tmp 20) (vI 1)), oD 22 (.nchk (.tmp 17)), oD 23 (.fldA 1 (.tmp 22)), oN (.st 1 (.tmp 23) (.tmp 21))])] [0, 4, 16, 17, 18, 19, 20, 21, 22, 23]
abbrev c_9_5 : SCode := .reg [([], [oD 4 (.mov (.val (.bool true)))])] []
abbrev F_9 : SFunc := ⟨24, (.seq c_9_0 (.seq (.seq c_9_1 (.seq c_9_2 (.cond (.tmp 16) (.seq c_9_3 .ret) .skip))) (.seq c_9_4 (.seq c_9_5 .ret)))), [.tmp 4], false⟩
theorem tf_9 : z6 Go.Proofs.Tryz.prog 204 (hintT [(7, 1)]) (fpT []) (killT (klN 0 F_9.code.kl)) false = some F_9 := by kernel_rfl
abbrev c_7_0 : SCode := .reg [([2024, 2025, 2026, 2027], [oM 4 0, oM 5 1, oD 6 (.call 204 1 [.tmp 4, .tmp 5]), oD 7 (.un .not (.tmp 6))])] [1, 4, 5, 6]
abbrev c_7_1 : SCode := .regq [([2036, 2037, 2038, 2039], [oM 8 0, oD 9 (.call 111 1 [.tmp 8]), oD 10 (.fld false 3 1 (.tmp 9)), oD 11 (.mkI 168 (.tmp 10)), oN (.pan (.tmp 11))])] [0, 7, 8, 9, 10, 11, 9999]
abbrev F_7 : SFunc := ⟨12, (.seq c_7_0 (.cond (.tmp 7) c_7_1 .skip)), [], false⟩
theorem tf_7 : z6 Go.Proofs.Tryz.prog 205 (hintT [(6, 1), (9, 1)]) (fpT []) (killT (klN 0 F_7.code.kl)) false = some F_7 := by kernel_rfl
abbrev c_5_0 : SCode := .reg [([], [oD 4 (.mov (.val (.slice none 0 0)))])] [4]
abbrev c_5_1 : SCode := .reg [([], [oD 5 (.mov (.val (.slice none 0 0)))])] []
abbrev c_5_2 : SCode := .reg [([], [oM 7 1, oD 8 (.mov (vI 0))])] [1]
abbrev c_5_3 : SCode := .reg [([], [oD 9 (.bin .lss 3 (.tmp 8) (.tmp 7))])] []
abbrev c_5_4 : SCode := .reg [([], [oM 10 8, oM 6 10])] [9, 10]
abbrev c_5_5 : SCode := .reg [([], [oM 11 6, oD 12 (.bin .gtr 3 (.tmp 11) (vI 0))])] [6, 11]
abbrev c_5_6 : SCode := .regq [([2064, 2065, 2066, 2067], [oM 13 0, oD 14 (.nchk (.tmp 13)), oD 15 (.fldA 0 (.tmp 14)), oD 16 (.call 205 3 [.tmp 15, .val (.string ⟨#[44]⟩)])])] [12, 13, 14, 15, 16, 9999]
abbrev c_5_7 : SCode := .regq [([2076, 2077, 2078, 2079], [oM 17 5, oM 18 0, oD 19 (.call 110 3 [.tmp 18, vI 1]), oD 20 (.bsl 4 [.tmp 19]), oD 21 (.app 26 4 56 (.tmp 17) (.tmp 20)), oM 5 21]), ([2076, 2077, 2078, 2079, 21], [oM 17 5, oM 18 0, oD 19 (.call 110 3 [.tmp 18, vI 1]), oD 20 (.bsl 4 [.tmp 19]), oD 21 (.appN 26 4 56 (.tmp 17) (.tmp 20)), oM 5 21])] [12, 17, 18, 19, 20, 21, 9999]
abbrev c_5_8 : SCode := .reg [([], [oD 22 (.bin .add 3 (.tmp 8) (vI 1)), oM 8 22])] [22]
abbrev c_5_9 : SCode := (.seq c_5_3 (.seq (.cond (.tmp 9) .skip (.exit 0)) (.seq (.block 1 (.seq c_5_4 (.seq (.seq c_5_5 (.cond (.tmp 12) c_5_6 .skip)) c_5_7))) c_5_8)))
abbrev c_5_10 : SCode := .regq [([2104, 2105, 2106, 2107], [oM 23 0, oD 24 (.nchk (.tmp 23)), oD 25 (.fldA 0 (.tmp 24)), oD 26 (.call 205 3 [.tmp 25, .val (.string ⟨#[41]⟩)])])] [0, 7, 8, 23, 24, 25, 26, 9999]
abbrev c_5_11 : SCode := .reg [([], [oM 27 5, oM 4 27])] [5, 27]
abbrev F_5 : SFunc := ⟨28, (.seq c_5_0 (.seq c_5_1 (.seq (.seq c_5_2 (.block 0 (.loop c_5_9))) (.seq c_5_10 (.seq c_5_11 .ret))))), [.tmp 4], false⟩
theorem tf_5 : z6 Go.Proofs.Tryz.prog 206 (hintT [(16, 3), (19, 3), (20, 0), (26, 3)]) (fpT []) (killT (klN 0 F_5.code.kl)) false = some F_5 := by kernel_rfl
abbrev c_61_0 : SCode := .reg [([], [oD 4 (.mov (.val (.bool false)))])] [4]
abbrev c_61_1 : SCode := .reg [([], [oM 5 0, oD 6 (.slen (.tmp 5)), oM 7 1, oD 8 (.slen (.tmp 7)), oD 9 (.bin .geq 3 (.tmp 6) (.tmp 8)), oM 10 9, oH 11 10 true 0, oH 12 10 true 1, oG 13 10 true (.slen (.tmp 12)), oG 14 10 true (.ssub (.tmp 11) none (some (.tmp 13))), oH 15 10 true 1, oG 16 10 true (.bin .eql 9 (.tmp 14) (.tmp 15)), oP 17 10 16 false, oM 4 17])] [0, 1, 5, 6, 7, 8, 9, 10, 11, 12, 13, 14, 15, 16, 17]
abbrev F_61 : SFunc := ⟨18, (.seq c_61_0 (.seq c_61_1 .ret)), [.tmp 4], false⟩
theorem tf_61 : z6 Go.Proofs.Tryz.prog 223 (hintT []) (fpT []) (killT (klN 0 F_61.code.kl)) false = some F_61 := by kernel_rfl
end Go.Sh.Cd5
end

section
namespace Go.Mor
open Go
set_option maxHeartbeats 2000000
abbrev T3 := Int × Int × List UInt8
def er (q : Pc) : T3 := (q.k, q.n, q.s)
def sg (s : List UInt8) : T3 := (4, 0, s)
def LexP (t : List UInt8) (ts : List T3) (post : List UInt8) : Prop :=
 ∀ (f a : Nat) (acc : List Pc), t.length + post.length < f → ∃ f' L, post.length < f' ∧ L.map er = ts ∧ lexG f (t ++ post) a acc = lexG f' post (a + t.length) (acc ++ L)
theorem LexP.nil (post : List UInt8) : LexP [] [] post := fun f a acc h => ⟨f, [], by simpa using h, rfl, by simp⟩
theorem LexP.app {t1 t2 : List UInt8} {ts1 ts2 : List T3} {post : List UInt8} (h1 : LexP t1 ts1 (t2 ++ post)) (h2 : LexP t2 ts2 post) : LexP (t1 ++ t2) (ts1 ++ ts2) post := by
 intro f a acc hf
 obtain ⟨f1, L1, a1, a2, a3⟩ := h1 f a acc (by simp only [List.length_append] at hf ⊢; omega)
 obtain ⟨f2, L2, b1, b2, b3⟩ := h2 f1 (a + t1.length) (acc ++ L1) (by simpa using a1)
 refine ⟨f2, L1 ++ L2, b1, by rw [List.map_append, a2, b2], ?_⟩
 rw [List.append_assoc, a3, b3, List.append_assoc, List.length_append, Nat.add_assoc]
theorem LexP.one {t : List UInt8} {q : T3} {post : List UInt8} {b : UInt8} {r : List UInt8} (ht : t = b :: r) (hb : b ≠ 32) (h : ∀ a, ∃ p, readP (t ++ post) a = some (p, t.length) ∧ er p = q) : LexP t [q] post := by
 intro f a acc hf
 obtain ⟨f, rfl⟩ : ∃ g, f = g + 1 := ⟨f - 1, by omega⟩
 obtain ⟨p, h1, h2⟩ := h a
 refine ⟨f, [p], by subst ht; simp at hf; omega, by simp [h2], ?_⟩
 subst ht
 rw [List.cons_append] at h1 ⊢
 rw [lexG]
 simp only [if_neg hb, h1]
 congr 1
 rw [← List.cons_append, List.drop_left' rfl]
theorem digC (d : Nat) (hd : d < 10) : (UInt8.ofNat (48 + d)).toNat = 48 + d := by rw [UInt8.toNat_ofNat']; omega
theorem quoG_34 (post acc : List UInt8) (k : Nat) : quoG (34 :: post) acc k = if z8 acc then some (acc, k + 1) else none := by
 rw [quoG.eq_def]; rfl
theorem quoG_92 (c : UInt8) (r acc : List UInt8) (k : Nat) : quoG (92 :: c :: r) acc k = if c = 34 ∨ c = 92 then quoG r (acc ++ [c]) (k + 2) else none := by
 rw [quoG.eq_def]; rfl
theorem quoG_c {b : UInt8} (h1 : b ≠ 34) (h2 : b ≠ 92) (r acc : List UInt8) (k : Nat) : quoG (b :: r) acc k = quoG r (acc ++ [b]) (k + 1) := by
 rw [quoG.eq_def]; simp only [if_neg h1, if_neg h2]
theorem binds_cases {s : List UInt8} (h : 0 < bindsV s) : s = [42] ∨ s = [47] ∨ s = [37] ∨ s = [43] ∨ s = [45] ∨ s = [38] ∨ s = [61] ∨ s = [60, 62] ∨ s = [60] ∨ s = [60, 61] ∨ s = [62] ∨ s = [62, 61] := by
 unfold bindsV at h
 split at h
 ·rename_i h1; rcases h1 with h1 | h1 | h1 <;> simp [h1]
 split at h
 ·rename_i h1; rcases h1 with h1 | h1 <;> simp [h1]
 split at h
 ·rename_i h1; simp [h1]
 split at h
 ·rename_i h1; rcases h1 with h1 | h1 | h1 | h1 | h1 | h1 <;> simp [h1]
 ·omega
theorem ok_kids {d : Nat} {e : V} (h : okE (d + 1) e = true) : nodeE e = true ∧ ∀ x ∈ e.l, okE d x = true := by
 rw [okE, Bool.and_eq_true] at h
 exact ⟨h.1, fun x hx => List.all_eq_true.1 h.2 x hx⟩
theorem node1 {e : V} (h : nodeE e = true) (hk : e.k = 1) : 0 ≤ e.n ∧ e.n ≤ 1000000000000000 ∧ e.s = [] ∧ e.l = [] := by
 unfold nodeE at h
 rw [if_neg (by simp [hk]), if_pos hk] at h
 simp only [Bool.and_eq_true, decide_eq_true_eq, beq_iff_eq, List.length_eq_zero_iff] at h
 exact ⟨h.1.1.1, h.1.1.2, h.1.2, h.2⟩
theorem node0 {e : V} (h : nodeE e = true) (hk : e.k ≠ 1) : e.n = 0 := by
 unfold nodeE at h
 split at h
 ·cases h
 ·rename_i hh; simpa [hk] using hh
theorem node2 {e : V} (h : nodeE e = true) (hk : e.k = 2) : e.n = 0 ∧ z8 e.s = true ∧ e.l = [] := by
 have h0 := node0 h (by omega)
 unfold nodeE at h
 rw [if_neg (by simp [h0]), if_neg (by omega), if_pos hk] at h
 simp only [Bool.and_eq_true, beq_iff_eq, List.length_eq_zero_iff] at h
 exact ⟨h0, h⟩
theorem node3 {e : V} (h : nodeE e = true) (hk : e.k = 3) : e.n = 0 ∧ z16 e.s = true ∧ e.l = [] := by
 have h0 := node0 h (by omega)
 unfold nodeE at h
 rw [if_neg (by simp [h0]), if_neg (by omega), if_neg (by omega), if_pos hk] at h
 simp only [Bool.and_eq_true, beq_iff_eq, List.length_eq_zero_iff] at h
 exact ⟨h0, h⟩
theorem node4 {e : V} (h : nodeE e = true) (hk : e.k = 4) : e.n = 0 ∧ 0 < bindsV e.s ∧ ∃ a b, e.l = [a, b] := by
 have h0 := node0 h (by omega)
 unfold nodeE at h
 rw [if_neg (by simp [h0]), if_neg (by omega), if_neg (by omega), if_neg (by omega), if_pos hk] at h
 simp only [Bool.and_eq_true, decide_eq_true_eq, beq_iff_eq] at h
 refine ⟨h0, h.1, ?_⟩
 match hl : e.l, h.2 with
 | [a, b], _ => exact ⟨a, b, rfl⟩
theorem node5 {e : V} (h : nodeE e = true) (hk : e.k = 5) : e.n = 0 ∧ e.s = [45] ∧ ∃ a, e.l = [a] := by
 have h0 := node0 h (by omega)
 unfold nodeE at h
 rw [if_neg (by simp [h0]), if_neg (by omega), if_neg (by omega), if_neg (by omega), if_neg (by omega), if_pos hk] at h
 simp only [Bool.and_eq_true, beq_iff_eq] at h
 refine ⟨h0, h.1, ?_⟩
 match hl : e.l, h.2 with
 | [a], _ => exact ⟨a, rfl⟩
theorem node6 {e : V} (h : nodeE e = true) (hk : e.k = 6) : e.n = 0 ∧ 0 < takesV e.s ∧ (e.l.length : Int) = takesV e.s := by
 have h0 := node0 h (by omega)
 unfold nodeE at h
 rw [if_neg (by simp [h0]), if_neg (by omega), if_neg (by omega), if_neg (by omega), if_neg (by omega), if_neg (by omega), if_pos hk] at h
 simp only [Bool.and_eq_true, decide_eq_true_eq] at h
 exact ⟨h0, h⟩
theorem z128 {e : V} (h : nodeE e = true) : e.k = 1 ∨ e.k = 2 ∨ e.k = 3 ∨ e.k = 4 ∨ e.k = 5 ∨ e.k = 6 := by
 unfold nodeE at h
 split at h
 ·cases h
 repeat (split at h; · simp [*])
 cases h
end Go.Mor
end

section
namespace Go.Proofs.YtmiokadmddjccaaGreatDoor
open Go Go.RowKit Go.Mor Go.Sh Go.Sh.Cd1 Go.Sh.Cd5
set_option maxRecDepth 100000
set_option maxHeartbeats 4000000
def pcR (q : Pc) : List PV := [.v (.int .i64 q.k), .v (.int .i64 q.n), .v (.string (str q.s)), .v (.int .i64 (q.p : Int))]
def pcT (q : Pc) : TV := .agg [I q.k, I q.n, S (str q.s), I (q.p : Int)]
def pcs (L : List Pc) : TV := .pv (.sl 4 (L.map pcR))
def pB (L : List Pc) (p sz : Nat) : List TV := [pcs L, I (p : Int), I (sz : Int), bindM]
theorem peek_ok (g : Sh.Glob) (L : List Pc) (p sz : Nat) (hL : L.length ≤ maxLen) : SCalls Tryz.prog g 111 [.ptr 1000 0] [.box (pB L p sz)] (pcT (pkP L sz p)) [.box (pB L p sz)] := by
 refine z15 hmix tf_8 rfl rfl rfl ?_
 unfold pB pcs pcT
 by_cases hlt : p < L.length
 ·have d1 : (p : Int) < (L.length : Int) := by omega
  obtain ⟨q, eq⟩ : ∃ q, L[p]? = some q := ⟨_, List.getElem?_eq_getElem hlt⟩
  have hq : pkP L sz p = q := by simp [pkP, eq]
  rw [hq]
  simp only [vcA, seval, vV, d1, eq, pcR, bmV]
 ·have d1 : ¬ (p : Int) < (L.length : Int) := by omega
  have hq : pkP L sz p = ⟨0, 0, [], sz⟩ := by simp [pkP, List.getElem?_eq_none (Nat.le_of_not_lt hlt)]
  rw [hq]
  simp only [vcA, seval, vV, d1, bmV]
  rfl
theorem take_ok (g : Sh.Glob) (L : List Pc) (p sz : Nat) (t : List UInt8) (hL : L.length ≤ maxLen) (hp : p < maxLen) : SCalls Tryz.prog g 204 [.ptr 1000 0, S (str t)] [.box (pB L p sz)] (B (isSg (pkP L sz p) t)) [.box (pB L (if isSg (pkP L sz p) t then p + 1 else p) sz)] := by
 refine z15 hmix tf_9 rfl rfl rfl ?_
 have HP := peek_ok g L p sz hL
 have w1 : IntKind.i64.wrap ((p : Int) + 1) = ((p + 1 : Nat) : Int) := by unfold maxLen at hp; rw [wrap64 (by omega) (by omega)]; omega
 unfold isSg at *
 generalize pkP L sz p = q at *
 unfold pB pcs pcT B at *
 by_cases hk : q.k = 4
 ·have hb : (q.k == 4) = true := by simp [hk]
  cases ht : q.s == t
  ·simp only [vcA, seval, vV]
   (with_reducible apply v_call); (· simp only [vcA, seval, vV, bmV]; with_reducible rfl); (· rfl); (· exact HP); (· first | rfl | (simp only [vcA, seval]; omega)); (· simp only [vcA, seval, vV, bmV]; with_reducible rfl)
   simp only [vcA, seval, vV, bmV, hk, hb, ht]
  ·simp only [vcA, seval, vV]
   (with_reducible apply v_call); (· simp only [vcA, seval, vV, bmV]; with_reducible rfl); (· rfl); (· exact HP); (· first | rfl | (simp only [vcA, seval]; omega)); (· simp only [vcA, seval, vV, bmV]; with_reducible rfl)
   simp only [vcA, seval, vV, bmV, hk, hb, ht, w1]
 ·have hb : (q.k == 4) = false := by simp [hk]
  simp only [vcA, seval, vV]
  (with_reducible apply v_call); (· simp only [vcA, seval, vV, bmV]; with_reducible rfl); (· rfl); (· exact HP); (· first | rfl | (simp only [vcA, seval]; omega)); (· simp only [vcA, seval, vV, bmV]; with_reducible rfl)
  simp only [vcA, seval, vV, bmV, hk, hb]
def wrongV (a : Nat) : Value := .iface 168 (.int .i64 (a : Int))
theorem need_ok (g : Sh.Glob) (L : List Pc) (p sz : Nat) (t : List UInt8) (hL : L.length ≤ maxLen) (hp : p < maxLen) (h : isSg (pkP L sz p) t = true) : SCalls Tryz.prog g 205 [.ptr 1000 0, S (str t)] [.box (pB L p sz)] (.tuple []) [.box (pB L (p + 1) sz)] := by
 refine z15 hmix tf_7 rfl rfl rfl ?_
 have HT := take_ok g L p sz t hL hp
 rw [h, if_pos rfl] at HT
 unfold pB pcs B at *
 simp only [vcA, seval, vV]
 (with_reducible apply v_call); (· simp only [vcA, seval, vV, bmV]; with_reducible rfl); (· rfl); (· exact HT); (· first | rfl | (simp only [vcA, seval]; omega)); (· simp only [vcA, seval, vV, bmV]; with_reducible rfl)
 simp only [vcA, seval, vV, bmV]
theorem need_pan (g : Sh.Glob) (L : List Pc) (p sz : Nat) (t : List UInt8) (hL : L.length ≤ maxLen) (hp : p < maxLen) (h : isSg (pkP L sz p) t = false) : SPan Tryz.prog g 205 [.ptr 1000 0, S (str t)] [.box (pB L p sz)] (wrongV (pkP L sz p).p) [.box (pB L p sz)] := by
 refine pan_of hmix tf_7 rfl rfl rfl ?_
 have HT := take_ok g L p sz t hL hp
 have HP := peek_ok g L p sz hL
 rw [h, if_neg (by simp)] at HT
 unfold pB pcs B pcT wrongV at *
 simp only [vcA, seval, vV]
 (with_reducible apply v_call); (· simp only [vcA, seval, vV, bmV]; with_reducible rfl); (· rfl); (· exact HT); (· first | rfl | (simp only [vcA, seval]; omega)); (· simp only [vcA, seval, vV, bmV]; with_reducible rfl)
 simp only [vcA, seval, vV, bmV]
 (with_reducible apply vq_p)
 simp only [vcA, seval, vV]
 (with_reducible apply vp_ret); (· simp only [vcA, seval, vV, bmV]; with_reducible rfl); (· rfl); (· exact HP); (· first | rfl | (simp only [vcA, seval]; omega)); (· simp only [vcA, seval, vV, bmV]; with_reducible rfl); simp only [vcA, seval, vV, bmV]
theorem takes_ok (g : Sh.Glob) (s : List UInt8) : SCalls Tryz.prog g 177 [S (str s)] [] (I (takesV s)) [] := by
 refine z7 hmix tf_60 rfl ?_
 have q1 : (⟨#[108, 101, 110]⟩ : ByteArray) = str [108, 101, 110] := rfl
 have q2 : (⟨#[116, 101, 120, 116]⟩ : ByteArray) = str [116, 101, 120, 116] := rfl
 have q3 : (⟨#[110, 117, 109]⟩ : ByteArray) = str [110, 117, 109] := rfl
 have q4 : (⟨#[108, 101, 102, 116]⟩ : ByteArray) = str [108, 101, 102, 116] := rfl
 have q5 : (⟨#[114, 105, 103, 104, 116]⟩ : ByteArray) = str [114, 105, 103, 104, 116] := rfl
 have q6 : (⟨#[102, 114, 111, 109]⟩ : ByteArray) = str [102, 114, 111, 109] := rfl
 have q7 : (⟨#[102, 105, 110, 100]⟩ : ByteArray) = str [102, 105, 110, 100] := rfl
 have q8 : (⟨#[109, 105, 110]⟩ : ByteArray) = str [109, 105, 110] := rfl
 have q9 : (⟨#[109, 97, 120]⟩ : ByteArray) = str [109, 97, 120] := rfl
 have q10 : (⟨#[105, 102]⟩ : ByteArray) = str [105, 102] := rfl
 have hb : ∀ t : List UInt8, (s == t) = decide (s = t) := fun t => by rw [Bool.eq_iff_iff]; simp
 unfold takesV
 simp only [vcA, seval, vV, q1, q2, q3, q4, q5, q6, q7, q8, q9, q10, hb]
 repeat' (first | (apply And.intro) | (intro _))
 all_goals simp_all
section
variable (g : Sh.Glob) (L : List Pc) (sz : Nat)
def EOk (f : Nat) : Prop := ∀ (least : Int) (p : Nat) (e : V) (p' : Nat), 0 ≤ least → least ≤ 5 → p ≤ L.length → pE L sz f least p = some (.ok e p') → SCalls Tryz.prog g 110 [.ptr 1000 0, I least] [.box (pB L p sz)] (tv e) [.box (pB L p' sz)]
def EBad (f : Nat) : Prop := ∀ (least : Int) (p a p' : Nat), 0 ≤ least → least ≤ 5 → p ≤ L.length → pE L sz f least p = some (.bad a p') → SPan Tryz.prog g 110 [.ptr 1000 0, I least] [.box (pB L p sz)] (wrongV a) [.box (pB L p' sz)]
def TOk (f : Nat) : Prop := ∀ (p : Nat) (e : V) (p' : Nat), p ≤ L.length → pT L sz f p = some (.ok e p') → SCalls Tryz.prog g 174 [.ptr 1000 0] [.box (pB L p sz)] (tv e) [.box (pB L p' sz)]
def TBad (f : Nat) : Prop := ∀ (p a p' : Nat), p ≤ L.length → pT L sz f p = some (.bad a p') → SPan Tryz.prog g 174 [.ptr 1000 0] [.box (pB L p sz)] (wrongV a) [.box (pB L p' sz)]
theorem pk_in {q : Pc} {p : Nat} (h : pkP L sz p = q) (hk : q.k ≠ 0) : p < L.length := by
 rcases Nat.lt_or_ge p L.length with h1 | h1
 ·exact h1
 ·rw [pkP, List.getElem?_eq_none h1] at h; subst h; exact absurd rfl hk
theorem z45 {p : Nat} {t : List UInt8} (h : isSg (pkP L sz p) t = true) : p < L.length := by
 refine pk_in L sz rfl ?_
 unfold isSg at h
 simp only [Bool.and_eq_true, beq_iff_eq] at h
 rw [h.1]; decide
theorem binds_rng (s : List UInt8) : 0 ≤ bindsV s ∧ bindsV s ≤ 4 := by
 unfold bindsV
 repeat' split
 all_goals omega
theorem takes_rng (s : List UInt8) : 0 ≤ takesV s ∧ takesV s ≤ 3 := by
 unfold takesV
 repeat' split
 all_goals omega
theorem p_le : ∀ f, (∀ least p e p', p ≤ L.length → pE L sz f least p = some (.ok e p') → p' ≤ L.length) ∧ (∀ least e0 p e p', p ≤ L.length → pL L sz f least e0 p = some (.ok e p') → p' ≤ L.length) ∧
  (∀ p e p', p ≤ L.length → pT L sz f p = some (.ok e p') → p' ≤ L.length) ∧ (∀ n k p acc l p', p ≤ L.length → pH L sz f n k p acc = some (.ok l p') → p' ≤ L.length)
 | 0 => ⟨fun _ _ _ _ _ h => by simp [pE] at h, fun _ _ _ _ _ _ h => by simp [pL] at h, fun _ _ _ _ h => by simp [pT] at h, fun _ _ _ _ _ _ _ h => by simp [pH] at h⟩
 | f + 1 => by
  obtain ⟨h1, h2, h3, h4⟩ := p_le f
  refine ⟨fun least p e p' hp h => ?_, fun least e0 p e p' hp h => ?_, fun p e p' hp h => ?_, fun n k p acc l p' hp h => ?_⟩
  ·rw [pE] at h
   split at h
   ·rename_i e1 p1 ht; exact h2 _ _ _ _ _ (h3 _ _ _ hp ht) h
   ·cases h
   ·cases h
  ·rw [pL] at h
   split at h
   ·cases h; exact hp
   ·rename_i hk
    rw [not_or] at hk
    have hlt := pk_in L sz (p := p) rfl (by have := hk.1; simp only [ne_eq, Decidable.not_not] at this; rw [this]; decide)
    split at h
    ·rename_i e2 p2 he; exact h2 _ _ _ _ _ (h1 _ _ _ _ hlt he) h
    ·cases h
    ·cases h
  ·rw [pT] at h
   split at h
   ·rename_i hs
    have hlt := z45 L sz hs
    split at h
    ·rename_i e1 p1 he
     split at h
     ·rename_i hs2; cases h; exact z45 L sz hs2
     ·cases h
    ·cases h
    ·cases h
   split at h
   ·rename_i hs
    have hlt := z45 L sz hs
    split at h
    ·rename_i e1 p1 he; cases h; exact h3 _ _ _ hlt he
    ·cases h
    ·cases h
   split at h
   ·rename_i hk; cases h; exact pk_in L sz rfl (by rw [hk]; decide)
   split at h
   ·rename_i hk; cases h; exact pk_in L sz rfl (by rw [hk]; decide)
   split at h
   ·rename_i hk
    have hlt := pk_in L sz (p := p) rfl (by rw [hk]; decide)
    split at h
    ·rename_i ht
     have hlt2 := z45 L sz ht.2
     split at h
     ·rename_i l p1 he; cases h; exact h4 _ _ _ _ _ _ hlt2 he
     ·cases h
     ·cases h
    ·cases h; exact hlt
   ·cases h
  ·rw [pH] at h
   split at h
   ·split at h
    ·cases h
    ·rename_i hk hs
     have hp2 : (if 0 < k then p + 1 else p) ≤ L.length := by
      split
      ·rename_i h0
       refine z45 L sz (t := [44]) ?_
       cases hh : isSg (pkP L sz p) [44] with
       | true => rfl
       | false => exact absurd ⟨h0, hh⟩ hs
      ·exact hp
     split at h
     ·rename_i e1 p1 he; exact h4 _ _ _ _ _ _ (h1 _ _ _ _ hp2 he) h
     ·cases h
     ·cases h
   ·split at h
    ·rename_i hs; cases h; exact z45 L sz hs
    ·cases h
variable {g L sz}
theorem expr_ok_of {f : Nat} (hL : L.length ≤ 4611686018427387904) (ih : ∀ f', f' < f → EOk g L sz f' ∧ EBad g L sz f' ∧ TOk g L sz f' ∧ TBad g L sz f') : EOk g L sz f := by
 intro least p e p' h0 h5 hp h
 cases f with
 | zero => simp [pE] at h
 | succ f =>
 rw [pE] at h
 cases ht : pT L sz f p with
 | none => rw [ht] at h; cases h
 | some r =>
 cases r with
 | bad a q => rw [ht] at h; cases h
 | ok e1 p1 =>
 rw [ht] at h
 simp only at h
 have HT := (ih f (Nat.lt_succ_self f)).2.2.1 p e1 p1 hp ht
 have hp1 := (p_le L sz f).2.2.1 p e1 p1 hp ht
 refine z15 hmix tf_4 rfl rfl rfl ?_
 have hml : L.length ≤ maxLen := by unfold maxLen; omega
 unfold pB pcs at HT ⊢
 simp only [vcA, seval, vV, bmV]
 (with_reducible apply vq_n)
 simp only [vcA, seval, vV, bmV]
 (with_reducible apply v_call); (· simp only [vcA, seval, vV, bmV]; with_reducible rfl); (· rfl); (· exact HT); (· first | rfl | (simp only [vcA, seval]; omega)); (· simp only [vcA, seval, vV, bmV]; with_reducible rfl)
 simp only [vcA, seval, vV, bmV]
 refine v_loop (σ := {x : Nat × V × Nat // x.1 ≤ f ∧ x.2.2 ≤ L.length ∧ pL L sz x.1 least x.2.1 x.2.2 = some (.ok e p')})
  (fun x => ⟨[(0, .ptr 1000 0), (1, I least), (4, .ptr 4 0), (5, .ptr 5 0)], [(1000, [.pv (.sl 4 (L.map pcR)), I (x.1.2.2 : Int), I (sz : Int), bindM]), (4, [I 0, I 0, S ⟨#[]⟩, .pv (.v (.slice none 0 0))]),
   (5, [I x.1.2.1.k, I x.1.2.1.n, S (str x.1.2.1.s), .pv (.sl 4 (V.rows x.1.2.1.l))])], [], []⟩) (fun x => x.1.1) ⟨(f, e1, p1), Nat.le_refl _, hp1, h⟩ (lw_eq rfl) ?_
 rintro ⟨⟨f1, e2, p2⟩, hf1, hp2, hl⟩
 simp only at hf1 hp2 hl
 cases f1 with
 | zero => simp [pL] at hl
 | succ f1 =>
 have HP := peek_ok g L p2 sz hml
 rw [pL] at hl
 generalize hq : pkP L sz p2 = q at HP hl
 obtain ⟨b0, b4⟩ := binds_rng q.s
 unfold pB pcs pcT at HP
 simp only [vcA, seval, vV, bmV]
 (with_reducible apply v_call); (· simp only [vcA, seval, vV, bmV]; with_reducible rfl); (· rfl); (· exact HP); (· first | rfl | (simp only [vcA, seval]; omega)); (· simp only [vcA, seval, vV, bmV]; with_reducible rfl)
 by_cases hk : q.k = 4
 ·by_cases hb : bindsV q.s < least
  ·rw [if_pos (.inr hb)] at hl
   cases hl
   simp only [vcA, seval, vV, bmV, hk, hb]
  ·rw [if_neg (by rw [not_or]; exact ⟨by simpa using hk, hb⟩)] at hl
   have hlt := pk_in L sz hq (by rw [hk]; decide)
   cases he : pE L sz f1 (bindsV q.s + 1) (p2 + 1) with
   | none => rw [he] at hl; cases hl
   | some r =>
   cases r with
   | bad a q' => rw [he] at hl; cases hl
   | ok e3 p3 =>
   rw [he] at hl
   simp only at hl
   have HE := (ih f1 (by omega)).1 (bindsV q.s + 1) (p2 + 1) e3 p3 (by omega) (by omega) hlt he
   have hp3 := (p_le L sz f1).1 _ _ _ _ hlt he
   have w1 : IntKind.i64.wrap ((p2 : Int) + 1) = ((p2 + 1 : Nat) : Int) := by rw [wrap64 (by omega) (by omega)]; omega
   have w2 : IntKind.i64.wrap (bindsV q.s + 1) = bindsV q.s + 1 := wrap64 (by omega) (by omega)
   unfold pB pcs at HE
   simp only [vcA, seval, vV, bmV, hk, hb, w1]
   (with_reducible apply vq_n)
   simp only [vcA, seval, vV, bmV, w2]
   (with_reducible apply v_call); (· simp only [vcA, seval, vV, bmV, w2]; with_reducible rfl); (· rfl); (· exact HE); (· first | rfl | (simp only [vcA, seval]; omega)); (· simp only [vcA, seval, vV, bmV, w2]; with_reducible rfl)
   simp only [vcA, seval, vV, bmV]
   refine z10 ⟨(f1, .mk 4 0 q.s [e2, e3], p3), by omega, hp3, hl⟩ (Nat.lt_succ_self f1) ?_
   apply lw_of <;> simp [leL, lk, sv, Nat.beq, I, S, ES.kill, has, drp, nilT, bmV]
   exact ⟨rfl, rfl, rfl, by rw [Vl, show V.rows [e2, e3] = [V.row e2, V.row e3] from rfl, row4, row4]⟩
 ·rw [if_pos (.inl hk)] at hl
  cases hl
  simp only [vcA, seval, vV, bmV, hk]
theorem expr_bad_of {f : Nat} (hL : L.length ≤ 4611686018427387904) (ih : ∀ f', f' < f → EOk g L sz f' ∧ EBad g L sz f' ∧ TOk g L sz f' ∧ TBad g L sz f') : EBad g L sz f := by
 intro least p a p' h0 h5 hp h
 cases f with
 | zero => simp [pE] at h
 | succ f =>
 have hml : L.length ≤ maxLen := by unfold maxLen; omega
 rw [pE] at h
 cases ht : pT L sz f p with
 | none => rw [ht] at h; cases h
 | some r =>
 cases r with
 | bad a q =>
  rw [ht] at h; cases h
  have HT := (ih f (Nat.lt_succ_self f)).2.2.2 p a p' hp ht
  refine pan_of hmix tf_4 rfl rfl rfl ?_
  unfold pB pcs at HT ⊢
  unfold wrongV at *
  simp only [vcA, seval, vV, bmV]
  (with_reducible apply vq_p)
  simp only [vcA, seval, vV, bmV]
  (with_reducible apply z86); (· rfl); (· simp only [vcA, seval, vV, bmV]; with_reducible rfl); (· exact HT); (· first | rfl | (simp only [vcA, seval]; omega)); (· simp only [vcA, seval, vV, bmV]; with_reducible rfl); simp only [vcA, seval, vV, bmV]
 | ok e1 p1 =>
 rw [ht] at h
 simp only at h
 have HT := (ih f (Nat.lt_succ_self f)).2.2.1 p e1 p1 hp ht
 have hp1 := (p_le L sz f).2.2.1 p e1 p1 hp ht
 refine pan_of hmix tf_4 rfl rfl rfl ?_
 unfold pB pcs at HT ⊢
 unfold wrongV
 simp only [vcA, seval, vV, bmV]
 (with_reducible apply vq_n)
 simp only [vcA, seval, vV, bmV]
 (with_reducible apply v_call); (· simp only [vcA, seval, vV, bmV]; with_reducible rfl); (· rfl); (· exact HT); (· first | rfl | (simp only [vcA, seval]; omega)); (· simp only [vcA, seval, vV, bmV]; with_reducible rfl)
 simp only [vcA, seval, vV, bmV]
 refine v_loop (σ := {x : Nat × V × Nat // x.1 ≤ f ∧ x.2.2 ≤ L.length ∧ pL L sz x.1 least x.2.1 x.2.2 = some (.bad a p')})
  (fun x => ⟨[(0, .ptr 1000 0), (1, I least), (4, .ptr 4 0), (5, .ptr 5 0)], [(1000, [.pv (.sl 4 (L.map pcR)), I (x.1.2.2 : Int), I (sz : Int), bindM]), (4, [I 0, I 0, S ⟨#[]⟩, .pv (.v (.slice none 0 0))]),
   (5, [I x.1.2.1.k, I x.1.2.1.n, S (str x.1.2.1.s), .pv (.sl 4 (V.rows x.1.2.1.l))])], [], []⟩) (fun x => x.1.1) ⟨(f, e1, p1), Nat.le_refl _, hp1, h⟩ (lw_eq rfl) ?_
 rintro ⟨⟨f1, e2, p2⟩, hf1, hp2, hl⟩
 simp only at hf1 hp2 hl
 cases f1 with
 | zero => simp [pL] at hl
 | succ f1 =>
 have HP := peek_ok g L p2 sz hml
 rw [pL] at hl
 generalize hq : pkP L sz p2 = q at HP hl
 obtain ⟨b0, b4⟩ := binds_rng q.s
 unfold pB pcs pcT at HP
 simp only [vcA, seval, vV, bmV]
 (with_reducible apply v_call); (· simp only [vcA, seval, vV, bmV]; with_reducible rfl); (· rfl); (· exact HP); (· first | rfl | (simp only [vcA, seval]; omega)); (· simp only [vcA, seval, vV, bmV]; with_reducible rfl)
 by_cases hk : q.k = 4
 ·by_cases hb : bindsV q.s < least
  ·rw [if_pos (.inr hb)] at hl
   cases hl
  ·rw [if_neg (by rw [not_or]; exact ⟨by simpa using hk, hb⟩)] at hl
   have hlt := pk_in L sz hq (by rw [hk]; decide)
   have w1 : IntKind.i64.wrap ((p2 : Int) + 1) = ((p2 + 1 : Nat) : Int) := by rw [wrap64 (by omega) (by omega)]; omega
   have w2 : IntKind.i64.wrap (bindsV q.s + 1) = bindsV q.s + 1 := wrap64 (by omega) (by omega)
   cases he : pE L sz f1 (bindsV q.s + 1) (p2 + 1) with
   | none => rw [he] at hl; cases hl
   | some r =>
   cases r with
   | bad a2 q' =>
    rw [he] at hl; cases hl
    have HE := (ih f1 (by omega)).2.1 (bindsV q.s + 1) (p2 + 1) a p' (by omega) (by omega) hlt he
    unfold pB pcs wrongV at HE
    simp only [vcA, seval, vV, bmV, hk, hb, w1]
    (with_reducible apply vq_p)
    simp only [vcA, seval, vV, bmV, w2]
    (with_reducible apply z86); (· rfl); (· simp only [vcA, seval, vV, bmV, w2]; with_reducible rfl); (· exact HE); (· first | rfl | (simp only [vcA, seval]; omega)); (· simp only [vcA, seval, vV, bmV, w2]; with_reducible rfl); simp only [vcA, seval, vV, bmV, w2]
   | ok e3 p3 =>
   rw [he] at hl
   simp only at hl
   have HE := (ih f1 (by omega)).1 (bindsV q.s + 1) (p2 + 1) e3 p3 (by omega) (by omega) hlt he
   have hp3 := (p_le L sz f1).1 _ _ _ _ hlt he
   unfold pB pcs at HE
   simp only [vcA, seval, vV, bmV, hk, hb, w1]
   (with_reducible apply vq_n)
   simp only [vcA, seval, vV, bmV, w2]
   (with_reducible apply v_call); (· simp only [vcA, seval, vV, bmV, w2]; with_reducible rfl); (· rfl); (· exact HE); (· first | rfl | (simp only [vcA, seval]; omega)); (· simp only [vcA, seval, vV, bmV, w2]; with_reducible rfl)
   simp only [vcA, seval, vV, bmV]
   refine z10 ⟨(f1, .mk 4 0 q.s [e2, e3], p3), by omega, hp3, hl⟩ (Nat.lt_succ_self f1) ?_
   apply lw_of <;> simp [leL, lk, sv, Nat.beq, I, S, ES.kill, has, drp, nilT, bmV]
   exact ⟨rfl, rfl, rfl, by rw [Vl, show V.rows [e2, e3] = [V.row e2, V.row e3] from rfl, row4, row4]⟩
 ·rw [if_pos (.inl hk)] at hl
  cases hl
theorem rows_snoc (l : List V) (x : V) : V.rows (l ++ [x]) = V.rows l ++ [[.v (.int .i64 x.k), .v (.int .i64 x.n), .v (.string (str x.s)), .sl 4 (V.rows x.l)]] := by rw [rows_eq, rows_eq, List.map_append, List.map_cons, List.map_nil, row4]
theorem things_ok_of {f : Nat} (hL : L.length ≤ 4611686018427387904) (ih : ∀ f', f' < f → EOk g L sz f') (n p : Nat) (l : List V) (p' : Nat) (hn0 : 0 < n) (hn : n ≤ 3) (hp : p ≤ L.length) (h : pH L sz f n 0 p [] = some (.ok l p')) :
  SCalls Tryz.prog g 206 [.ptr 1000 0, I (n : Int)] [.box (pB L p sz)] (.pv (.sl 4 (V.rows l))) [.box (pB L p' sz)] := by
 have hml : L.length < maxLen := by unfold maxLen; omega
 refine z15 hmix tf_5 rfl rfl rfl ?_
 unfold pB pcs at *
 simp only [vcA, seval, vV, bmV]
 refine v_loop (σ := {x : Nat × Nat × Nat × List V // x.1 ≤ f ∧ x.2.1 ≤ n ∧ x.2.2.1 ≤ L.length ∧ x.2.2.2.length = x.2.1 ∧ pH L sz x.1 n x.2.1 x.2.2.1 x.2.2.2 = some (.ok l p')})
  (fun x => ⟨[(0, .ptr 1000 0), (5, .own 3000 4 (V.rows x.1.2.2.2)), (7, I (n : Int)), (8, I (x.1.2.1 : Int))], [(1000, [.pv (.sl 4 (L.map pcR)), I (x.1.2.2.1 : Int), I (sz : Int), bindM])], [(3000, (26, 4, x.1.2.1))], []⟩) (fun x => x.1.1) ⟨(f, 0, p, []), Nat.le_refl _, Nat.zero_le _, hp, rfl, h⟩ ?_ ?_
 ·refine ES.Lw.trans ?_ (adT_lw (k := 5) (d := 3000) (e := 26) (W := 4) (.inr (by decide)) rfl)
  exact lw_eq rfl
 rintro ⟨⟨f1, k, p1, acc⟩, hf1, hk, hp1, hacc, hl⟩
 simp only at hf1 hk hp1 hacc hl
 cases f1 with
 | zero => simp [pH] at hl
 | succ f1 =>
 rw [pH] at hl
 by_cases hkn : k < n
 ·rw [if_pos hkn] at hl
  have d1 : (k : Int) < (n : Int) := by omega
  split at hl
  ·cases hl
  rename_i hcom
  cases he : pE L sz f1 1 (if 0 < k then p1 + 1 else p1) with
  | none => rw [he] at hl; cases hl
  | some r =>
  cases r with
  | bad a q' => rw [he] at hl; cases hl
  | ok e3 p3 =>
  rw [he] at hl
  simp only at hl
  have wk : IntKind.i64.wrap ((k : Int) + 1) = ((k + 1 : Nat) : Int) := by rw [wrap64 (by omega) (by omega)]; omega
  have hacc' : (V.rows acc).length = k := by rw [rowsLen, hacc]
  by_cases h0 : 0 < k
  ·rw [if_pos h0] at he
   have hs : isSg (pkP L sz p1) [44] = true := by
    cases hh : isSg (pkP L sz p1) [44] with
    | true => rfl
    | false => exact absurd ⟨h0, hh⟩ hcom
   have hlt := z45 L sz hs
   have HN := need_ok g L p1 sz [44] (by omega) (by omega) hs
   have HE := ih f1 (by omega) 1 (p1 + 1) e3 p3 (by omega) (by omega) hlt he
   have hp3 := (p_le L sz f1).1 _ _ _ _ hlt he
   have d0 : (0 : Int) < (k : Int) := by omega
   have q44 : (⟨#[44]⟩ : ByteArray) = str [44] := rfl
   unfold pB pcs at HN HE
   simp only [vcA, seval, vV, bmV, d1, d0]
   (with_reducible apply vq_n)
   simp only [vcA, seval, vV, bmV, q44]
   (with_reducible apply v_call); (· simp only [vcA, seval, vV, bmV]; with_reducible rfl); (· rfl); (· exact HN); (· first | rfl | (simp only [vcA, seval]; omega)); (· simp only [vcA, seval, vV, bmV]; with_reducible rfl)
   simp only [vcA, seval, vV, bmV]
   (with_reducible apply vq_n)
   simp only [vcA, seval, vV, bmV]
   (with_reducible apply v_call); (· simp only [vcA, seval, vV, bmV]; with_reducible rfl); (· rfl); (· exact HE); (· first | rfl | (simp only [vcA, seval]; omega)); (· simp only [vcA, seval, vV, bmV]; with_reducible rfl)
   simp only [vcA, seval, vV, bmV, hacc', wk]
   refine ⟨⟨by omega, by unfold maxLen; omega⟩, z10 ⟨(f1, k + 1, p3, acc ++ [e3]), by omega, hkn, hp3, by simp [hacc], hl⟩ (Nat.lt_succ_self f1) ?_⟩
   refine lw_eq ?_
   simp only [rows_snoc, I]
  ·rw [if_neg h0] at he
   obtain rfl : k = 0 := by omega
   have HE := ih f1 (by omega) 1 p1 e3 p3 (by omega) (by omega) hp1 he
   have hp3 := (p_le L sz f1).1 _ _ _ _ hp1 he
   have d2 : (0 : Int) < (n : Int) := by omega
   have w01 : IntKind.i64.wrap 1 = 1 := by decide
   unfold pB pcs at HE
   simp only [vcA, seval, vV, bmV, d2]
   (with_reducible apply vq_n)
   simp only [vcA, seval, vV, bmV]
   (with_reducible apply v_call); (· simp only [vcA, seval, vV, bmV]; with_reducible rfl); (· rfl); (· exact HE); (· first | rfl | (simp only [vcA, seval]; omega)); (· simp only [vcA, seval, vV, bmV]; with_reducible rfl)
   simp only [vcA, seval, vV, bmV, hacc', w01]
   refine ⟨by unfold maxLen; omega, z10 ⟨(f1, 1, p3, acc ++ [e3]), by omega, hkn, hp3, by simp [hacc], hl⟩ (Nat.lt_succ_self f1) ?_⟩
   refine lw_eq ?_
   simp only [rows_snoc, I]; rfl
 ·rw [if_neg hkn] at hl
  have d1 : ¬ (k : Int) < (n : Int) := by omega
  split at hl
  ·rename_i hs
   cases hl
   have hlt := z45 L sz hs
   have HN := need_ok g L p1 sz [41] (by omega) (by omega) hs
   have q41 : (⟨#[41]⟩ : ByteArray) = str [41] := rfl
   unfold pB pcs at HN
   simp only [vcA, seval, vV, bmV, d1]
   (with_reducible apply vq_n)
   simp only [vcA, seval, vV, bmV, q41]
   (with_reducible apply v_call); (· simp only [vcA, seval, vV, bmV]; with_reducible rfl); (· rfl); (· exact HN); (· first | rfl | (simp only [vcA, seval]; omega)); (· simp only [vcA, seval, vV, bmV]; with_reducible rfl)
   simp only [vcA, seval, vV, bmV]
  ·cases hl
theorem things_bad_of {f : Nat} (hL : L.length ≤ 4611686018427387904) (ih : ∀ f', f' < f → EOk g L sz f') (ihb : ∀ f', f' < f → EBad g L sz f') (n p a p' : Nat) (hn0 : 0 < n) (hn : n ≤ 3) (hp : p ≤ L.length) (h : pH L sz f n 0 p [] = some (.bad a p')) :
  SPan Tryz.prog g 206 [.ptr 1000 0, I (n : Int)] [.box (pB L p sz)] (wrongV a) [.box (pB L p' sz)] := by
 have hml : L.length < maxLen := by unfold maxLen; omega
 refine pan_of hmix tf_5 rfl rfl rfl ?_
 unfold pB pcs wrongV at *
 simp only [vcA, seval, vV, bmV]
 refine v_loop (σ := {x : Nat × Nat × Nat × List V // x.1 ≤ f ∧ x.2.1 ≤ n ∧ x.2.2.1 ≤ L.length ∧ x.2.2.2.length = x.2.1 ∧ pH L sz x.1 n x.2.1 x.2.2.1 x.2.2.2 = some (.bad a p')})
  (fun x => ⟨[(0, .ptr 1000 0), (5, .own 3000 4 (V.rows x.1.2.2.2)), (7, I (n : Int)), (8, I (x.1.2.1 : Int))], [(1000, [.pv (.sl 4 (L.map pcR)), I (x.1.2.2.1 : Int), I (sz : Int), bindM])], [(3000, (26, 4, x.1.2.1))], []⟩) (fun x => x.1.1) ⟨(f, 0, p, []), Nat.le_refl _, Nat.zero_le _, hp, rfl, h⟩ ?_ ?_
 ·refine ES.Lw.trans ?_ (adT_lw (k := 5) (d := 3000) (e := 26) (W := 4) (.inr (by decide)) rfl)
  exact lw_eq rfl
 rintro ⟨⟨f1, k, p1, acc⟩, hf1, hk, hp1, hacc, hl⟩
 simp only at hf1 hk hp1 hacc hl
 cases f1 with
 | zero => simp [pH] at hl
 | succ f1 =>
 rw [pH] at hl
 by_cases hkn : k < n
 ·rw [if_pos hkn] at hl
  have d1 : (k : Int) < (n : Int) := by omega
  by_cases hcom : 0 < k ∧ isSg (pkP L sz p1) [44] = false
  ·rw [if_pos hcom] at hl
   cases hl
   have HN := need_pan g L p' sz [44] (by omega) (by omega) hcom.2
   have d0 : (0 : Int) < (k : Int) := by omega
   have q44 : (⟨#[44]⟩ : ByteArray) = str [44] := rfl
   unfold pB pcs wrongV at HN
   simp only [vcA, seval, vV, bmV, d1, d0]
   (with_reducible apply vq_p)
   simp only [vcA, seval, vV, bmV, q44]
   (with_reducible apply z86); (· rfl); (· simp only [vcA, seval, vV, bmV]; with_reducible rfl); (· exact HN); (· first | rfl | (simp only [vcA, seval]; omega)); (· simp only [vcA, seval, vV, bmV]; with_reducible rfl); simp only [vcA, seval, vV, bmV]
  rw [if_neg hcom] at hl
  have wk : IntKind.i64.wrap ((k : Int) + 1) = ((k + 1 : Nat) : Int) := by rw [wrap64 (by omega) (by omega)]; omega
  have hacc' : (V.rows acc).length = k := by rw [rowsLen, hacc]
  by_cases h0 : 0 < k
  ·rw [if_pos h0] at hl
   have hs : isSg (pkP L sz p1) [44] = true := by
    cases hh : isSg (pkP L sz p1) [44] with
    | true => rfl
    | false => exact absurd ⟨h0, hh⟩ hcom
   have hlt := z45 L sz hs
   have HN := need_ok g L p1 sz [44] (by omega) (by omega) hs
   have d0 : (0 : Int) < (k : Int) := by omega
   have q44 : (⟨#[44]⟩ : ByteArray) = str [44] := rfl
   unfold pB pcs at HN
   simp only [vcA, seval, vV, bmV, d1, d0]
   (with_reducible apply vq_n)
   simp only [vcA, seval, vV, bmV, q44]
   (with_reducible apply v_call); (· simp only [vcA, seval, vV, bmV]; with_reducible rfl); (· rfl); (· exact HN); (· first | rfl | (simp only [vcA, seval]; omega)); (· simp only [vcA, seval, vV, bmV]; with_reducible rfl)
   simp only [vcA, seval, vV, bmV]
   cases he : pE L sz f1 1 (p1 + 1) with
   | none => rw [he] at hl; cases hl
   | some r =>
   cases r with
   | bad a2 q' =>
    rw [he] at hl; cases hl
    have HE := ihb f1 (by omega) 1 (p1 + 1) a p' (by omega) (by omega) hlt he
    unfold pB pcs wrongV at HE
    (with_reducible apply vq_p)
    simp only [vcA, seval, vV, bmV]
    (with_reducible apply z86); (· rfl); (· simp only [vcA, seval, vV, bmV]; with_reducible rfl); (· exact HE); (· first | rfl | (simp only [vcA, seval]; omega)); (· simp only [vcA, seval, vV, bmV]; with_reducible rfl); simp only [vcA, seval, vV, bmV]
   | ok e3 p3 =>
   rw [he] at hl
   simp only at hl
   have HE := ih f1 (by omega) 1 (p1 + 1) e3 p3 (by omega) (by omega) hlt he
   have hp3 := (p_le L sz f1).1 _ _ _ _ hlt he
   unfold pB pcs at HE
   (with_reducible apply vq_n)
   simp only [vcA, seval, vV, bmV]
   (with_reducible apply v_call); (· simp only [vcA, seval, vV, bmV]; with_reducible rfl); (· rfl); (· exact HE); (· first | rfl | (simp only [vcA, seval]; omega)); (· simp only [vcA, seval, vV, bmV]; with_reducible rfl)
   simp only [vcA, seval, vV, bmV, hacc', wk]
   refine ⟨⟨by omega, by unfold maxLen; omega⟩, z10 ⟨(f1, k + 1, p3, acc ++ [e3]), by omega, hkn, hp3, by simp [hacc], hl⟩ (Nat.lt_succ_self f1) ?_⟩
   refine lw_eq ?_
   simp only [rows_snoc, I]
  ·rw [if_neg h0] at hl
   obtain rfl : k = 0 := by omega
   have d2 : (0 : Int) < (n : Int) := by omega
   have w01 : IntKind.i64.wrap 1 = 1 := by decide
   simp only [vcA, seval, vV, bmV, d2]
   cases he : pE L sz f1 1 p1 with
   | none => rw [he] at hl; cases hl
   | some r =>
   cases r with
   | bad a2 q' =>
    rw [he] at hl; cases hl
    have HE := ihb f1 (by omega) 1 p1 a p' (by omega) (by omega) hp1 he
    unfold pB pcs wrongV at HE
    (with_reducible apply vq_p)
    simp only [vcA, seval, vV, bmV]
    (with_reducible apply z86); (· rfl); (· simp only [vcA, seval, vV, bmV]; with_reducible rfl); (· exact HE); (· first | rfl | (simp only [vcA, seval]; omega)); (· simp only [vcA, seval, vV, bmV]; with_reducible rfl); simp only [vcA, seval, vV, bmV]
   | ok e3 p3 =>
   rw [he] at hl
   simp only at hl
   have HE := ih f1 (by omega) 1 p1 e3 p3 (by omega) (by omega) hp1 he
   have hp3 := (p_le L sz f1).1 _ _ _ _ hp1 he
   unfold pB pcs at HE
   (with_reducible apply vq_n)
   simp only [vcA, seval, vV, bmV]
   (with_reducible apply v_call); (· simp only [vcA, seval, vV, bmV]; with_reducible rfl); (· rfl); (· exact HE); (· first | rfl | (simp only [vcA, seval]; omega)); (· simp only [vcA, seval, vV, bmV]; with_reducible rfl)
   simp only [vcA, seval, vV, bmV, hacc', w01]
   refine ⟨by unfold maxLen; omega, z10 ⟨(f1, 1, p3, acc ++ [e3]), by omega, hkn, hp3, by simp [hacc], hl⟩ (Nat.lt_succ_self f1) ?_⟩
   refine lw_eq ?_
   simp only [rows_snoc, I]; rfl
 ·rw [if_neg hkn] at hl
  have d1 : ¬ (k : Int) < (n : Int) := by omega
  split at hl
  ·cases hl
  ·rename_i hs
   cases hl
   have HN := need_pan g L p' sz [41] (by omega) (by omega) (by simpa using hs)
   have q41 : (⟨#[41]⟩ : ByteArray) = str [41] := rfl
   unfold pB pcs wrongV at HN
   simp only [vcA, seval, vV, bmV, d1]
   (with_reducible apply vq_p)
   simp only [vcA, seval, vV, bmV, q41]
   (with_reducible apply z86); (· rfl); (· simp only [vcA, seval, vV, bmV]; with_reducible rfl); (· exact HN); (· first | rfl | (simp only [vcA, seval]; omega)); (· simp only [vcA, seval, vV, bmV]; with_reducible rfl); simp only [vcA, seval, vV, bmV]
theorem nv_out (k n : Int) (t : List UInt8) : Wk (nv (.mk k n t [])) (tv (.mk k n t [])) := nv_tv rfl
theorem tight_ok_of {f : Nat} (hL : L.length ≤ 4611686018427387904) (ih : ∀ f', f' < f → EOk g L sz f' ∧ EBad g L sz f' ∧ TOk g L sz f' ∧ TBad g L sz f') : TOk g L sz f := by
 intro p e p' hp h
 have hml : L.length < maxLen := by unfold maxLen; omega
 cases f with
 | zero => simp [pT] at h
 | succ f =>
 have T40 := take_ok g L p sz [40] (by omega) (by omega)
 have T45 := take_ok g L p sz [45] (by omega) (by omega)
 have q40 : (⟨#[40]⟩ : ByteArray) = str [40] := rfl
 have q41 : (⟨#[41]⟩ : ByteArray) = str [41] := rfl
 have q45 : (⟨#[45]⟩ : ByteArray) = str [45] := rfl
 rw [pT] at h
 by_cases h40 : isSg (pkP L sz p) [40] = true
 ·rw [if_pos h40] at h
  rw [h40, if_pos rfl] at T40
  have hlt := z45 L sz h40
  cases he : pE L sz f 1 (p + 1) with
  | none => rw [he] at h; cases h
  | some r =>
  cases r with
  | bad a q' => rw [he] at h; cases h
  | ok e1 p1 =>
  rw [he] at h
  simp only at h
  split at h
  ·rename_i h41
   cases h
   have HE := (ih f (Nat.lt_succ_self f)).1 1 (p + 1) e p1 (by omega) (by omega) hlt he
   have hp1 := (p_le L sz f).1 _ _ _ _ hlt he
   have HN := need_ok g L p1 sz [41] (by omega) (by omega) h41
   refine z15 hmix tf_6 rfl rfl rfl ?_
   unfold pB pcs B at *
   simp only [vcA, seval, vV, bmV, q40]
   (with_reducible apply v_call); (· simp only [vcA, seval, vV, bmV]; with_reducible rfl); (· rfl); (· exact T40); (· first | rfl | (simp only [vcA, seval]; omega)); (· simp only [vcA, seval, vV, bmV]; with_reducible rfl)
   simp only [vcA, seval, vV, bmV]
   (with_reducible apply vq_n)
   simp only [vcA, seval, vV, bmV]
   (with_reducible apply v_call); (· simp only [vcA, seval, vV, bmV]; with_reducible rfl); (· rfl); (· exact HE); (· first | rfl | (simp only [vcA, seval]; omega)); (· simp only [vcA, seval, vV, bmV]; with_reducible rfl)
   simp only [vcA, seval, vV, bmV]
   (with_reducible apply vq_n)
   simp only [vcA, seval, vV, bmV, q41]
   (with_reducible apply v_call); (· simp only [vcA, seval, vV, bmV]; with_reducible rfl); (· rfl); (· exact HN); (· first | rfl | (simp only [vcA, seval]; omega)); (· simp only [vcA, seval, vV, bmV]; with_reducible rfl)
   simp only [vcA, seval, vV, bmV]
  ·cases h
 have h40 : isSg (pkP L sz p) [40] = false := by simpa using h40
 rw [h40, if_neg (by simp)] at T40
 rw [if_neg (by simp [h40])] at h
 by_cases h45 : isSg (pkP L sz p) [45] = true
 ·rw [if_pos h45] at h
  rw [h45, if_pos rfl] at T45
  have hlt := z45 L sz h45
  cases he : pT L sz f (p + 1) with
  | none => rw [he] at h; cases h
  | some r =>
  cases r with
  | bad a q' => rw [he] at h; cases h
  | ok e1 p1 =>
  rw [he] at h
  cases h
  have HE := (ih f (Nat.lt_succ_self f)).2.2.1 (p + 1) e1 p' hlt he
  refine z15 hmix tf_6 rfl rfl rfl ?_
  unfold pB pcs B at *
  simp only [vcA, seval, vV, bmV, q40]
  (with_reducible apply v_call); (· simp only [vcA, seval, vV, bmV]; with_reducible rfl); (· rfl); (· exact T40); (· first | rfl | (simp only [vcA, seval]; omega)); (· simp only [vcA, seval, vV, bmV]; with_reducible rfl)
  simp only [vcA, seval, vV, bmV, q45]
  (with_reducible apply v_call); (· simp only [vcA, seval, vV, bmV]; with_reducible rfl); (· rfl); (· exact T45); (· first | rfl | (simp only [vcA, seval]; omega)); (· simp only [vcA, seval, vV, bmV]; with_reducible rfl)
  simp only [vcA, seval, vV, bmV]
  (with_reducible apply vq_n)
  simp only [vcA, seval, vV, bmV]
  (with_reducible apply v_call); (· simp only [vcA, seval, vV, bmV]; with_reducible rfl); (· rfl); (· exact HE); (· first | rfl | (simp only [vcA, seval]; omega)); (· simp only [vcA, seval, vV, bmV]; with_reducible rfl)
  simp only [vcA, seval, vV, bmV, q45]
  rw [show V.rows [e1] = [V.row e1] from rfl, row4]
 have h45 : isSg (pkP L sz p) [45] = false := by simpa using h45
 rw [h45, if_neg (by simp)] at T45
 rw [if_neg (by simp [h45])] at h
 have HP := peek_ok g L p sz (by omega)
 have w1 : IntKind.i64.wrap ((p : Int) + 1) = ((p + 1 : Nat) : Int) := by unfold maxLen at hml; rw [wrap64 (by omega) (by omega)]; omega
 have hin := fun hk => pk_in L sz (p := p) rfl hk
 generalize hq : pkP L sz p = q at *
 by_cases k1 : q.k = 1
 ·rw [if_pos k1] at h
  cases h
  refine SCalls.out ?_ (nv_out 1 q.n [])
  refine z15 hmix tf_6 rfl rfl rfl ?_
  unfold pB pcs B pcT at *
  simp only [vcA, seval, vV, bmV, q40]
  (with_reducible apply v_call); (· simp only [vcA, seval, vV, bmV]; with_reducible rfl); (· rfl); (· exact T40); (· first | rfl | (simp only [vcA, seval]; omega)); (· simp only [vcA, seval, vV, bmV]; with_reducible rfl)
  simp only [vcA, seval, vV, bmV, q45]
  (with_reducible apply v_call); (· simp only [vcA, seval, vV, bmV]; with_reducible rfl); (· rfl); (· exact T45); (· first | rfl | (simp only [vcA, seval]; omega)); (· simp only [vcA, seval, vV, bmV]; with_reducible rfl)
  simp only [vcA, seval, vV, bmV]
  (with_reducible apply v_call); (· simp only [vcA, seval, vV, bmV]; with_reducible rfl); (· rfl); (· exact HP); (· first | rfl | (simp only [vcA, seval]; omega)); (· simp only [vcA, seval, vV, bmV]; with_reducible rfl)
  simp only [vcA, seval, vV, bmV, k1, w1]
  rfl
 rw [if_neg k1] at h
 by_cases k2 : q.k = 2
 ·rw [if_pos k2] at h
  cases h
  refine SCalls.out ?_ (nv_out 2 0 q.s)
  refine z15 hmix tf_6 rfl rfl rfl ?_
  unfold pB pcs B pcT at *
  simp only [vcA, seval, vV, bmV, q40]
  (with_reducible apply v_call); (· simp only [vcA, seval, vV, bmV]; with_reducible rfl); (· rfl); (· exact T40); (· first | rfl | (simp only [vcA, seval]; omega)); (· simp only [vcA, seval, vV, bmV]; with_reducible rfl)
  simp only [vcA, seval, vV, bmV, q45]
  (with_reducible apply v_call); (· simp only [vcA, seval, vV, bmV]; with_reducible rfl); (· rfl); (· exact T45); (· first | rfl | (simp only [vcA, seval]; omega)); (· simp only [vcA, seval, vV, bmV]; with_reducible rfl)
  simp only [vcA, seval, vV, bmV]
  (with_reducible apply v_call); (· simp only [vcA, seval, vV, bmV]; with_reducible rfl); (· rfl); (· exact HP); (· first | rfl | (simp only [vcA, seval]; omega)); (· simp only [vcA, seval, vV, bmV]; with_reducible rfl)
  simp only [vcA, seval, vV, bmV, k2, w1]
 rw [if_neg k2] at h
 by_cases k3 : q.k = 3
 ·rw [if_pos k3] at h
  have hlt := hin (by rw [k3]; decide)
  have HK := takes_ok g q.s
  obtain ⟨t0, t3⟩ := takes_rng q.s
  have T2 := take_ok g L (p + 1) sz [40] (by omega) (by omega)
  have hin2 : isSg (pkP L sz (p + 1)) [40] = true → p + 1 < L.length := fun h => z45 L sz h
  generalize isSg (pkP L sz (p + 1)) [40] = b at *
  generalize ht : takesV q.s = t at *
  by_cases hc : 0 < t ∧ b = true
  ·rw [if_pos hc] at h
   obtain ⟨hc1, rfl⟩ := hc
   rw [if_pos rfl] at T2
   cases he : pH L sz f t.toNat 0 (p + 2) [] with
   | none => rw [he] at h; cases h
   | some r =>
   cases r with
   | bad a q' => rw [he] at h; cases h
   | ok l p1 =>
   rw [he] at h
   cases h
   have HH := things_ok_of hL (fun f' hf' => (ih f' (by omega)).1) t.toNat (p + 2) l p' (by omega) (by omega) (hin2 rfl) he
   have ht2 : ((t.toNat : Nat) : Int) = t := by omega
   rw [ht2] at HH
   refine z15 hmix tf_6 rfl rfl rfl ?_
   unfold pB pcs B pcT at *
   simp only [vcA, seval, vV, bmV, q40]
   (with_reducible apply v_call); (· simp only [vcA, seval, vV, bmV]; with_reducible rfl); (· rfl); (· exact T40); (· first | rfl | (simp only [vcA, seval]; omega)); (· simp only [vcA, seval, vV, bmV]; with_reducible rfl)
   simp only [vcA, seval, vV, bmV, q45]
   (with_reducible apply v_call); (· simp only [vcA, seval, vV, bmV]; with_reducible rfl); (· rfl); (· exact T45); (· first | rfl | (simp only [vcA, seval]; omega)); (· simp only [vcA, seval, vV, bmV]; with_reducible rfl)
   simp only [vcA, seval, vV, bmV]
   (with_reducible apply v_call); (· simp only [vcA, seval, vV, bmV]; with_reducible rfl); (· rfl); (· exact HP); (· first | rfl | (simp only [vcA, seval]; omega)); (· simp only [vcA, seval, vV, bmV]; with_reducible rfl)
   simp only [vcA, seval, vV, bmV, k3, w1]
   (with_reducible apply v_call); (· simp only [vcA, seval, vV]; with_reducible rfl); (· rfl); (· exact HK); (· first | rfl | (simp only [vcA, seval]; omega)); (· simp only [vcA, seval, vV]; with_reducible rfl)
   simp only [vcA, seval, vV, bmV, hc1, q40]
   (with_reducible apply v_call); (· simp only [vcA, seval, vV, bmV]; with_reducible rfl); (· rfl); (· exact T2); (· first | rfl | (simp only [vcA, seval]; omega)); (· simp only [vcA, seval, vV, bmV]; with_reducible rfl)
   simp only [vcA, seval, vV, bmV]
   (with_reducible apply vq_n)
   simp only [vcA, seval, vV, bmV]
   (with_reducible apply v_call); (· simp only [vcA, seval, vV, bmV]; with_reducible rfl); (· rfl); (· exact HH); (· first | rfl | (simp only [vcA, seval]; omega)); (· simp only [vcA, seval, vV, bmV]; with_reducible rfl)
   simp only [vcA, seval, vV, bmV]
  ·rw [if_neg hc] at h
   cases h
   refine SCalls.out ?_ (nv_out 3 0 q.s)
   refine z15 hmix tf_6 rfl rfl rfl ?_
   unfold pB pcs B pcT at *
   simp only [vcA, seval, vV, bmV, q40]
   (with_reducible apply v_call); (· simp only [vcA, seval, vV, bmV]; with_reducible rfl); (· rfl); (· exact T40); (· first | rfl | (simp only [vcA, seval]; omega)); (· simp only [vcA, seval, vV, bmV]; with_reducible rfl)
   simp only [vcA, seval, vV, bmV, q45]
   (with_reducible apply v_call); (· simp only [vcA, seval, vV, bmV]; with_reducible rfl); (· rfl); (· exact T45); (· first | rfl | (simp only [vcA, seval]; omega)); (· simp only [vcA, seval, vV, bmV]; with_reducible rfl)
   simp only [vcA, seval, vV, bmV]
   (with_reducible apply v_call); (· simp only [vcA, seval, vV, bmV]; with_reducible rfl); (· rfl); (· exact HP); (· first | rfl | (simp only [vcA, seval]; omega)); (· simp only [vcA, seval, vV, bmV]; with_reducible rfl)
   simp only [vcA, seval, vV, bmV, k3, w1]
   (with_reducible apply v_call); (· simp only [vcA, seval, vV]; with_reducible rfl); (· rfl); (· exact HK); (· first | rfl | (simp only [vcA, seval]; omega)); (· simp only [vcA, seval, vV]; with_reducible rfl)
   by_cases hc1 : 0 < t
   ·have hb : b = false := by simpa [hc1] using hc
    rw [hb, if_neg (by simp)] at T2
    simp only [vcA, seval, vV, bmV, hc1, q40]
    (with_reducible apply v_call); (· simp only [vcA, seval, vV, bmV]; with_reducible rfl); (· rfl); (· exact T2); (· first | rfl | (simp only [vcA, seval]; omega)); (· simp only [vcA, seval, vV, bmV]; with_reducible rfl)
    simp only [vcA, seval, vV, bmV]
   ·simp only [vcA, seval, vV, bmV, hc1]
 rw [if_neg k3] at h
 cases h
theorem tight_bad_of {f : Nat} (hL : L.length ≤ 4611686018427387904) (ih : ∀ f', f' < f → EOk g L sz f' ∧ EBad g L sz f' ∧ TOk g L sz f' ∧ TBad g L sz f') : TBad g L sz f := by
 intro p a p' hp h
 have hml : L.length < maxLen := by unfold maxLen; omega
 cases f with
 | zero => simp [pT] at h
 | succ f =>
 have T40 := take_ok g L p sz [40] (by omega) (by omega)
 have T45 := take_ok g L p sz [45] (by omega) (by omega)
 have q40 : (⟨#[40]⟩ : ByteArray) = str [40] := rfl
 have q41 : (⟨#[41]⟩ : ByteArray) = str [41] := rfl
 have q45 : (⟨#[45]⟩ : ByteArray) = str [45] := rfl
 rw [pT] at h
 refine pan_of hmix tf_6 rfl rfl rfl ?_
 by_cases h40 : isSg (pkP L sz p) [40] = true
 ·rw [if_pos h40] at h
  rw [h40, if_pos rfl] at T40
  have hlt := z45 L sz h40
  unfold pB pcs B wrongV at *
  simp only [vcA, seval, vV, bmV, q40]
  (with_reducible apply v_call); (· simp only [vcA, seval, vV, bmV]; with_reducible rfl); (· rfl); (· exact T40); (· first | rfl | (simp only [vcA, seval]; omega)); (· simp only [vcA, seval, vV, bmV]; with_reducible rfl)
  simp only [vcA, seval, vV, bmV]
  cases he : pE L sz f 1 (p + 1) with
  | none => rw [he] at h; cases h
  | some r =>
  cases r with
  | bad a q' =>
   rw [he] at h; cases h
   have HE := (ih f (Nat.lt_succ_self f)).2.1 1 (p + 1) a p' (by omega) (by omega) hlt he
   unfold pB pcs wrongV at HE
   (with_reducible apply vq_p)
   simp only [vcA, seval, vV, bmV]
   (with_reducible apply z86); (· rfl); (· simp only [vcA, seval, vV, bmV]; with_reducible rfl); (· exact HE); (· first | rfl | (simp only [vcA, seval]; omega)); (· simp only [vcA, seval, vV, bmV]; with_reducible rfl); simp only [vcA, seval, vV, bmV]
  | ok e1 p1 =>
  rw [he] at h
  simp only at h
  have HE := (ih f (Nat.lt_succ_self f)).1 1 (p + 1) e1 p1 (by omega) (by omega) hlt he
  have hp1 := (p_le L sz f).1 _ _ _ _ hlt he
  unfold pB pcs at HE
  (with_reducible apply vq_n)
  simp only [vcA, seval, vV, bmV]
  (with_reducible apply v_call); (· simp only [vcA, seval, vV, bmV]; with_reducible rfl); (· rfl); (· exact HE); (· first | rfl | (simp only [vcA, seval]; omega)); (· simp only [vcA, seval, vV, bmV]; with_reducible rfl)
  simp only [vcA, seval, vV, bmV]
  split at h
  ·cases h
  ·rename_i h41
   cases h
   have HN := need_pan g L p' sz [41] (by omega) (by omega) (by simpa using h41)
   unfold pB pcs wrongV at HN
   (with_reducible apply vq_p)
   simp only [vcA, seval, vV, bmV, q41]
   (with_reducible apply z86); (· rfl); (· simp only [vcA, seval, vV, bmV]; with_reducible rfl); (· exact HN); (· first | rfl | (simp only [vcA, seval]; omega)); (· simp only [vcA, seval, vV, bmV]; with_reducible rfl); simp only [vcA, seval, vV, bmV]
 have h40 : isSg (pkP L sz p) [40] = false := by simpa using h40
 rw [h40, if_neg (by simp)] at T40
 rw [if_neg (by simp [h40])] at h
 by_cases h45 : isSg (pkP L sz p) [45] = true
 ·rw [if_pos h45] at h
  rw [h45, if_pos rfl] at T45
  have hlt := z45 L sz h45
  unfold pB pcs B wrongV at *
  simp only [vcA, seval, vV, bmV, q40]
  (with_reducible apply v_call); (· simp only [vcA, seval, vV, bmV]; with_reducible rfl); (· rfl); (· exact T40); (· first | rfl | (simp only [vcA, seval]; omega)); (· simp only [vcA, seval, vV, bmV]; with_reducible rfl)
  simp only [vcA, seval, vV, bmV, q45]
  (with_reducible apply v_call); (· simp only [vcA, seval, vV, bmV]; with_reducible rfl); (· rfl); (· exact T45); (· first | rfl | (simp only [vcA, seval]; omega)); (· simp only [vcA, seval, vV, bmV]; with_reducible rfl)
  simp only [vcA, seval, vV, bmV]
  cases he : pT L sz f (p + 1) with
  | none => rw [he] at h; cases h
  | some r =>
  cases r with
  | ok e1 q' => rw [he] at h; cases h
  | bad a q' =>
  rw [he] at h
  cases h
  have HE := (ih f (Nat.lt_succ_self f)).2.2.2 (p + 1) a p' hlt he
  unfold pB pcs wrongV at HE
  (with_reducible apply vq_p)
  simp only [vcA, seval, vV, bmV]
  (with_reducible apply z86); (· rfl); (· simp only [vcA, seval, vV, bmV]; with_reducible rfl); (· exact HE); (· first | rfl | (simp only [vcA, seval]; omega)); (· simp only [vcA, seval, vV, bmV]; with_reducible rfl); simp only [vcA, seval, vV, bmV]
 have h45 : isSg (pkP L sz p) [45] = false := by simpa using h45
 rw [h45, if_neg (by simp)] at T45
 rw [if_neg (by simp [h45])] at h
 have HP := peek_ok g L p sz (by omega)
 have w1 : IntKind.i64.wrap ((p : Int) + 1) = ((p + 1 : Nat) : Int) := by unfold maxLen at hml; rw [wrap64 (by omega) (by omega)]; omega
 have hin := fun hk => pk_in L sz (p := p) rfl hk
 have HK := takes_ok g (pkP L sz p).s
 have T2 := take_ok g L (p + 1) sz [40] (by omega)
 have hin2 : isSg (pkP L sz (p + 1)) [40] = true → p + 1 < L.length := fun h => z45 L sz h
 generalize isSg (pkP L sz (p + 1)) [40] = b at *
 generalize hq : pkP L sz p = q at *
 unfold pB pcs B pcT wrongV at *
 simp only [vcA, seval, vV, bmV, q40]
 (with_reducible apply v_call); (· simp only [vcA, seval, vV, bmV]; with_reducible rfl); (· rfl); (· exact T40); (· first | rfl | (simp only [vcA, seval]; omega)); (· simp only [vcA, seval, vV, bmV]; with_reducible rfl)
 simp only [vcA, seval, vV, bmV, q45]
 (with_reducible apply v_call); (· simp only [vcA, seval, vV, bmV]; with_reducible rfl); (· rfl); (· exact T45); (· first | rfl | (simp only [vcA, seval]; omega)); (· simp only [vcA, seval, vV, bmV]; with_reducible rfl)
 simp only [vcA, seval, vV, bmV]
 (with_reducible apply v_call); (· simp only [vcA, seval, vV, bmV]; with_reducible rfl); (· rfl); (· exact HP); (· first | rfl | (simp only [vcA, seval]; omega)); (· simp only [vcA, seval, vV, bmV]; with_reducible rfl)
 by_cases k1 : q.k = 1
 ·rw [if_pos k1] at h; cases h
 rw [if_neg k1] at h
 by_cases k2 : q.k = 2
 ·rw [if_pos k2] at h; cases h
 rw [if_neg k2] at h
 by_cases k3 : q.k = 3
 ·rw [if_pos k3] at h
  have hlt := hin (by rw [k3]; decide)
  obtain ⟨t0, t3⟩ := takes_rng q.s
  have T2 := T2 (by omega)
  generalize ht : takesV q.s = t at *
  by_cases hc : 0 < t ∧ b = true
  ·rw [if_pos hc] at h
   obtain ⟨hc1, rfl⟩ := hc
   rw [if_pos rfl] at T2
   cases he : pH L sz f t.toNat 0 (p + 2) [] with
   | none => rw [he] at h; cases h
   | some r =>
   cases r with
   | ok l p1 => rw [he] at h; cases h
   | bad a q' =>
   rw [he] at h
   cases h
   have HH := things_bad_of hL (fun f' hf' => (ih f' (by omega)).1) (fun f' hf' => (ih f' (by omega)).2.1) t.toNat (p + 2) a p' (by omega) (by omega) (hin2 rfl) he
   have ht2 : ((t.toNat : Nat) : Int) = t := by omega
   rw [ht2] at HH
   unfold pB pcs wrongV at HH
   simp only [vcA, seval, vV, bmV, k3, w1]
   (with_reducible apply v_call); (· simp only [vcA, seval, vV]; with_reducible rfl); (· rfl); (· exact HK); (· first | rfl | (simp only [vcA, seval]; omega)); (· simp only [vcA, seval, vV]; with_reducible rfl)
   simp only [vcA, seval, vV, bmV, hc1, q40]
   (with_reducible apply v_call); (· simp only [vcA, seval, vV, bmV]; with_reducible rfl); (· rfl); (· exact T2); (· first | rfl | (simp only [vcA, seval]; omega)); (· simp only [vcA, seval, vV, bmV]; with_reducible rfl)
   simp only [vcA, seval, vV, bmV]
   (with_reducible apply vq_p)
   simp only [vcA, seval, vV, bmV]
   (with_reducible apply z86); (· rfl); (· simp only [vcA, seval, vV, bmV]; with_reducible rfl); (· exact HH); (· first | rfl | (simp only [vcA, seval]; omega)); (· simp only [vcA, seval, vV, bmV]; with_reducible rfl); simp only [vcA, seval, vV, bmV]
  ·rw [if_neg hc] at h
   cases h
 rw [if_neg k3] at h
 cases h
 simp only [vcA, seval, vV, bmV, k1, k2, k3, w1]
 (with_reducible apply vq_p)
 simp only [vcA, seval, vV, bmV]
theorem parser_ok (hL : L.length ≤ 4611686018427387904) (f : Nat) : EOk g L sz f ∧ EBad g L sz f ∧ TOk g L sz f ∧ TBad g L sz f := by
 induction f using Nat.strongRecOn with
 | _ f ih => exact ⟨expr_ok_of hL ih, expr_bad_of hL ih, tight_ok_of hL ih, tight_bad_of hL ih⟩
end
end Go.Proofs.YtmiokadmddjccaaGreatDoor
end

section
namespace Go.Proofs.YtmiokadmddjccaaGreatDoor
open Go Go.RowKit Go.Mor Go.Sh
def byR (l : List UInt8) : List (List PV) := l.map fun u => [.v (.int .u8 u.toNat)]
theorem byP (l : List UInt8) : bytesP (str l) = byR l := by simp [bytesP, byR, str]
theorem byApp (a b : List UInt8) : byR a ++ byR b = byR (a ++ b) := by simp [byR]
theorem byLen (a : List UInt8) : (byR a).length = a.length := by simp [byR]
theorem bySeq : ∀ (a : List UInt8), seqO Sh.byteOf (byR a) = some a
 | [] => rfl
 | u :: a => by
  have ih := bySeq a
  unfold byR at ih ⊢
  simp only [List.map_cons, seqO, ih, Sh.byteOf]
  simp
theorem strMk (l : List UInt8) : (⟨l.toArray⟩ : ByteArray) = str l := rfl
end Go.Proofs.YtmiokadmddjccaaGreatDoor
end

section
namespace Go.Sh.Cd4
open Go Go.Sh
set_option maxRecDepth 100000
abbrev c_10_0 : SCode := .reg [([2], [oD 2 (.box (.tmp 0)), oD 4 (.mov (vI 0)), oD 5 (.mov (vI 0))])] [0, 4, 5]
abbrev c_10_1 : SCode := .reg [([2036, 2037, 2038, 2039], [oL 8 true 2 2, oD 9 (.call 69 0 [.tmp 8]), oD 10 (.un .not (.tmp 9))])] [8, 9]
abbrev c_10_2 : SCode := .reg [([], [oD 4 (.mov (vI 0)), oD 5 (.mov (vI 40))])] [1, 2, 10]
abbrev c_10_3 : SCode := .reg [([], [oM 11 1, oD 12 (.len (.tmp 11)), oD 13 (.fldA 1 (.tmp 2)), oL 14 false 1 13, oD 15 (.len (.tmp 14)), oD 16 (.bin .neq 3 (.tmp 12) (.tmp 15))])] [4, 5, 10, 11, 12, 13, 14, 15]
abbrev c_10_4 : SCode := .reg [([], [oM 17 1, oD 18 (.len (.tmp 17)), oD 19 (.fldA 1 (.tmp 2)), oL 20 false 1 19, oD 21 (.len (.tmp 20)), oD 22 (.imm false (.tmp 18) (.tmp 21)), oM 4 22, oD 5 (.mov (vI 42))])] [1, 2, 16, 17, 18, 19, 20, 21, 22]
abbrev c_10_5 : SCode := .reg [([], [oD 23 (.fldA 1 (.tmp 2)), oL 24 false 1 23, oD 25 (.len (.tmp 24)), oD 26 (.mov (vI 0))])] [2, 4, 5, 16, 23]
abbrev c_10_6 : SCode := .reg [([], [oD 27 (.bin .lss 3 (.tmp 26) (.tmp 25))])] []
abbrev c_10_7 : SCode := .reg [([7], [oM 28 26, oD 29 (.idxA 4 (.tmp 24) (.tmp 26)), oL 30 true 4 29, oD 7 (.new [(.string ⟨#[]⟩), (.int .i64 0), (.int .i64 0), (.bool false)]), oM 6 28, oN (.st 4 (.tmp 7) (.tmp 30))])] [27, 28, 29, 30]
abbrev c_10_8 : SCode := .reg [([2148, 2149, 2150, 2151], [oM 31 1, oM 32 6, oD 33 (.idxA 4 (.tmp 31) (.tmp 32)), oL 34 true 4 33, oD 35 (.fldA 1 (.tmp 7)), oL 36 true 2 35, oD 37 (.call 56 0 [.tmp 34, .tmp 36]), oD 38 (.un .not (.tmp 37))])] [7, 31, 32, 33, 34, 35, 36, 37]
abbrev c_10_9 : SCode := .reg [([], [oM 39 6, oM 4 39, oD 5 (.mov (vI 42))])] [1, 6, 24, 25, 26, 38, 39]
abbrev c_10_10 : SCode := .reg [([], [oD 40 (.bin .add 3 (.tmp 26) (vI 1)), oM 26 40])] [4, 5, 6, 38, 40]
abbrev c_10_11 : SCode := (.seq c_10_6 (.seq (.cond (.tmp 27) .skip (.exit 0)) (.seq (.block 1 (.seq c_10_7 (.seq c_10_8 (.cond (.tmp 38) (.seq c_10_9 .ret) .skip)))) c_10_10)))
abbrev c_10_12 : SCode := .reg [([], [oD 4 (.mov (vI 0)), oD 5 (.mov (vI 0))])] [1, 24, 25, 26]
abbrev F_10 : SFunc := ⟨41, (.seq c_10_0 (.seq (.seq c_10_1 (.cond (.tmp 10) (.seq c_10_2 .ret) .skip)) (.seq (.seq c_10_3 (.cond (.tmp 16) (.seq c_10_4 .ret) .skip)) (.seq (.seq c_10_5 (.block 0 (.loop c_10_11))) (.seq c_10_12 .ret))))), [.tmp 4, .tmp 5], false⟩
theorem tf_10 : z6 Go.Proofs.Tryz.prog 28 (hintT [(9, 0), (37, 0)]) (fpT []) (killT (klN 0 F_10.code.kl)) false = some F_10 := by kernel_rfl
abbrev c_11_0 : SCode := .reg [([2, 3], [oD 2 (.box (.tmp 0)), oD 3 (.box (.tmp 1)), oD 4 (.mov (vI 0)), oD 5 (.mov (.val (.bool false)))])] [0, 1, 4, 5]
abbrev c_11_1 : SCode := .reg [([2040, 2041, 2042, 2043], [oD 7 (.fldA 1 (.tmp 2)), oL 8 false 1 7, oD 9 (.mkf (.func 119) [] [.tmp 3]), oD 10 (.call 118 1 [.tmp 8, .tmp 9]), oM 6 10])] [2, 3, 7, 8, 9, 10]
abbrev c_11_2 : SCode := .reg [([], [oM 11 6, oD 12 (.bin .lss 3 (.tmp 11) (vI 0))])] [11]
abbrev c_11_3 : SCode := .reg [([], [oD 4 (.mov (vI 0)), oD 5 (.mov (.val (.bool false)))])] [6, 12]
abbrev c_11_4 : SCode := .reg [([], [oM 13 6, oM 4 13, oD 5 (.mov (.val (.bool true)))])] [6, 12, 13]
abbrev F_11 : SFunc := ⟨14, (.seq c_11_0 (.seq c_11_1 (.seq (.seq c_11_2 (.cond (.tmp 12) (.seq c_11_3 .ret) .skip)) (.seq c_11_4 .ret)))), [.tmp 4, .tmp 5], false⟩
theorem tf_11 : z6 Go.Proofs.Tryz.prog 67 (hintT [(10, 1)]) (fpT []) (killT (klN 0 F_11.code.kl)) false = some F_11 := by kernel_rfl
abbrev c_13_0 : SCode := .reg [([1], [oD 1 (.box (.tmp 0)), oD 2 (.mov (.val (.bool false)))])] [0, 2]
abbrev c_13_1 : SCode := .reg [([2036, 2037, 2038, 2039], [oD 7 (.fldA 0 (.tmp 1)), oL 8 false 1 7, oD 9 (.call 120 0 [.tmp 8]), oD 10 (.un .not (.tmp 9)), oM 11 10, oG 12 11 false (.fldA 1 (.tmp 1)), oG 13 11 false (.ld false 1 (.tmp 12)), oG 14 11 false (.len (.tmp 13)), oG 15 11 false (.bin .gtr 3 (.tmp 14) (vI 8)), oQ 16 11 15 true])] [7, 8, 9, 10, 11, 12, 13, 14, 15]
abbrev c_13_2 : SCode := .reg [([], [oD 2 (.mov (.val (.bool false)))])] [1, 16]
abbrev c_13_3 : SCode := .reg [([], [oD 17 (.fldA 1 (.tmp 1)), oL 18 false 1 17, oD 19 (.len (.tmp 18)), oD 20 (.mov (vI 0))])] [2, 16, 17]
abbrev c_13_4 : SCode := .reg [([], [oD 21 (.bin .lss 3 (.tmp 20) (.tmp 19))])] []
abbrev c_13_5 : SCode := .reg [([4], [oM 22 20, oD 23 (.idxA 4 (.tmp 18) (.tmp 20)), oL 24 true 4 23, oD 4 (.new [(.string ⟨#[]⟩), (.int .i64 0), (.int .i64 0), (.bool false)]), oM 3 22, oN (.st 4 (.tmp 4) (.tmp 24))])] [21, 22, 23, 24]
abbrev c_13_6 : SCode := .reg [([2104, 2105, 2106, 2107], [oL 25 true 4 4, oD 26 (.call 121 0 [.tmp 25]), oD 27 (.un .not (.tmp 26))])] [25, 26]
abbrev c_13_7 : SCode := .reg [([], [oD 2 (.mov (.val (.bool false)))])] [1, 3, 4, 18, 19, 20, 27]
abbrev c_13_8 : SCode := .reg [([2128, 2129, 2130, 2131], [oL 29 true 2 1, oD 30 (.fldA 0 (.tmp 4)), oL 31 false 1 30, oD 32 (.call 67 0 [.tmp 29, .tmp 31]), oM 28 32, oD 33 (.ext (.tmp 28) 0), oD 34 (.ext (.tmp 28) 1), oM 5 33, oM 6 34])] [2, 4, 6, 27, 28, 29, 30, 31, 32, 33, 34]
abbrev c_13_9 : SCode := .reg [([], [oM 35 5, oM 36 3, oD 37 (.bin .neq 3 (.tmp 35) (.tmp 36))])] [3, 5, 35, 36]
abbrev c_13_10 : SCode := .reg [([], [oD 2 (.mov (.val (.bool false)))])] [1, 18, 19, 20, 37]
abbrev c_13_11 : SCode := .reg [([], [oD 38 (.bin .add 3 (.tmp 20) (vI 1)), oM 20 38])] [2, 37, 38]
abbrev c_13_12 : SCode := (.seq c_13_4 (.seq (.cond (.tmp 21) .skip (.exit 0)) (.seq (.block 1 (.seq c_13_5 (.seq (.seq c_13_6 (.cond (.tmp 27) (.seq c_13_7 .ret) .skip)) (.seq c_13_8 (.seq c_13_9 (.cond (.tmp 37) (.seq c_13_10 .ret) .skip)))))) c_13_11)))
abbrev c_13_13 : SCode := .reg [([], [oD 2 (.mov (.val (.bool true)))])] [1, 18, 19, 20]
abbrev F_13 : SFunc := ⟨39, (.seq c_13_0 (.seq (.seq c_13_1 (.cond (.tmp 16) (.seq c_13_2 .ret) .skip)) (.seq (.seq c_13_3 (.block 0 (.loop c_13_12))) (.seq c_13_13 .ret)))), [.tmp 2], false⟩
theorem tf_13 : z6 Go.Proofs.Tryz.prog 69 (hintT [(9, 0), (26, 0), (32, 0)]) (fpT []) (killT (klN 0 F_13.code.kl)) false = some F_13 := by kernel_rfl
abbrev c_14_0 : SCode := .reg [([1], [oD 1 (.box (.tmp 0)), oD 2 (.mov (.val (.bool false)))])] [0, 2]
abbrev c_14_1 : SCode := .reg [([], [oD 3 (.fldA 0 (.tmp 1)), oL 4 false 1 3, oD 5 (.bin .eql 3 (.tmp 4) (vI 5))])] [3, 4]
abbrev c_14_2 : SCode := .reg [([], [oD 6 (.fldA 1 (.tmp 1)), oL 7 false 1 6, oD 8 (.bin .geq 3 (.tmp 7) (vI 1)), oM 9 8, oG 10 9 true (.fldA 1 (.tmp 1)), oG 11 9 true (.ld false 1 (.tmp 10)), oG 12 9 true (.bin .leq 3 (.tmp 11) (vI 4)), oP 13 9 12 false, oM 2 13])] [1, 5, 6, 7, 8, 9, 10, 11, 12, 13]
abbrev c_14_3 : SCode := .reg [([], [oD 14 (.fldA 0 (.tmp 1)), oL 15 false 1 14, oD 16 (.bin .geq 3 (.tmp 15) (vI 1)), oM 17 16, oG 18 17 true (.fldA 0 (.tmp 1)), oG 19 17 true (.ld false 1 (.tmp 18)), oG 20 17 true (.bin .leq 3 (.tmp 19) (vI 4)), oP 21 17 20 false, oM 22 21, oG 23 22 true (.fldA 1 (.tmp 1)), oG 24 22 true (.ld false 1 (.tmp 23)), oG 25 22 true (.bin .eql 3 (.tmp 24) (vI 0)), oP 26 22 25 false, oM 2 26])] [1, 5, 14, 15, 16, 17, 18, 19, 20, 21, 22, 23, 24, 25, 26]
abbrev F_14 : SFunc := ⟨27, (.seq c_14_0 (.seq (.seq c_14_1 (.cond (.tmp 5) (.seq c_14_2 .ret) .skip)) (.seq c_14_3 .ret))), [.tmp 2], false⟩
theorem tf_14 : z6 Go.Proofs.Tryz.prog 70 (hintT []) (fpT []) (killT (klN 0 F_14.code.kl)) false = some F_14 := by kernel_rfl
abbrev c_90_0 : SCode := .reg [([], [oD 4 (.mov (vI 0))])] [4]
abbrev c_90_1 : SCode := .reg [([], [oM 6 0, oD 7 (.len (.tmp 6)), oD 8 (.mov (vI 0))])] [6]
abbrev c_90_2 : SCode := .reg [([], [oD 9 (.bin .lss 3 (.tmp 8) (.tmp 7))])] []
abbrev c_90_3 : SCode := .reg [([], [oM 10 8, oM 5 10])] [9, 10]
abbrev c_90_4 : SCode := .reg [([2064, 2065, 2066, 2067], [oM 11 1, oM 12 0, oM 13 5, oD 14 (.idxA 4 (.tmp 12) (.tmp 13)), oL 15 true 4 14, oD 16 (.callv (.tmp 11) 1 [.tmp 15])])] [11, 12, 13, 14, 15]
abbrev c_90_5 : SCode := .reg [([], [oM 17 5, oM 4 17])] [0, 1, 5, 7, 8, 16, 17]
abbrev c_90_6 : SCode := .reg [([], [oD 18 (.bin .add 3 (.tmp 8) (vI 1)), oM 8 18])] [4, 5, 16, 18]
abbrev c_90_7 : SCode := (.seq c_90_2 (.seq (.cond (.tmp 9) .skip (.exit 0)) (.seq (.block 1 (.seq c_90_3 (.seq c_90_4 (.cond (.tmp 16) (.seq c_90_5 .ret) .skip)))) c_90_6)))
abbrev c_90_8 : SCode := .reg [([], [oD 4 (.mov (.val (.int .i64 (-1))))])] [0, 1, 7, 8]
abbrev F_90 : SFunc := ⟨19, (.seq c_90_0 (.seq (.seq c_90_1 (.block 0 (.loop c_90_7))) (.seq c_90_8 .ret))), [.tmp 4], false⟩
theorem tf_90 : z6 Go.Proofs.Tryz.prog 118 (hintT [(16, 1)]) (fpT []) (killT (klN 0 F_90.code.kl)) false = some F_90 := by kernel_rfl
abbrev c_12_0 : SCode := .reg [([2], [oD 2 (.box (.tmp 0)), oD 3 (.mov (.val (.bool false)))])] [0, 3]
abbrev c_12_1 : SCode := .reg [([], [oD 4 (.fldA 0 (.tmp 2)), oL 5 false 1 4, oL 6 false 1 1, oD 7 (.bin .eql 9 (.tmp 5) (.tmp 6)), oM 3 7])] [1, 2, 4, 5, 6, 7]
abbrev F_12 : SFunc := ⟨8, (.seq c_12_0 (.seq c_12_1 .ret)), [.tmp 3], false⟩
theorem tf_12 : z6 Go.Proofs.Tryz.prog 119 (hintT []) (fpT []) (killT (klN 0 F_12.code.kl)) false = some F_12 := by kernel_rfl
abbrev c_16_0 : SCode := .reg [([], [oD 2 (.mov (.val (.bool false)))])] [2]
abbrev c_16_1 : SCode := .reg [([2060, 2061, 2062, 2063], [oM 4 0, oD 5 (.slen (.tmp 4)), oD 6 (.bin .lss 3 (.tmp 5) (vI 1)), oM 7 6, oH 8 7 false 0, oG 9 7 false (.slen (.tmp 8)), oG 10 7 false (.bin .gtr 3 (.tmp 9) (vI 20)), oQ 11 7 10 true, oM 12 11, oH 13 12 false 0, oG 14 12 false (.sidx (.tmp 13) (vI 0)), oG 15 12 false (.call 181 0 [.tmp 14]), oG 16 12 false (.un .not (.tmp 15)), oQ 17 12 16 true])] [4, 5, 6, 7, 8, 9, 10, 11, 12, 13, 14, 15, 16]
abbrev c_16_2 : SCode := .reg [([], [oD 2 (.mov (.val (.bool false)))])] [0, 17]
abbrev c_16_3 : SCode := .reg [([], [oM 18 0, oD 19 (.slen (.tmp 18)), oD 20 (.mov (vI 0))])] [2, 17, 18]
abbrev c_16_4 : SCode := .reg [([], [oD 21 (.bin .lss 3 (.tmp 20) (.tmp 19))])] []
abbrev c_16_5 : SCode := .reg [([], [oM 22 20, oM 3 22])] [21, 22]
abbrev c_16_6 : SCode := .reg [([2104, 2105, 2106, 2107], [oM 23 0, oM 24 3, oD 25 (.sidx (.tmp 23) (.tmp 24)), oD 26 (.call 181 0 [.tmp 25]), oD 27 (.un .not (.tmp 26)), oM 28 27, oH 29 28 true 0, oH 30 28 true 3, oG 31 28 true (.sidx (.tmp 29) (.tmp 30)), oG 32 28 true (.bin .lss 5 (.tmp 31) (.val (.int .u8 48))), oH 33 28 true 32, oH 34 33 false 0, oH 35 33 false 3, oG 36 33 false (.sidx (.tmp 34) (.tmp 35)), oG 37 33 false (.bin .gtr 5 (.tmp 36) (.val (.int .u8 57))), oG 38 28 true (.pick (.tmp 33) (.val (.bool true)) (.tmp 37)), oP 39 28 38 false, oM 40 39, oH 41 40 true 0, oH 42 40 true 3, oG 43 40 true (.sidx (.tmp 41) (.tmp 42)), oG 44 40 true (.bin .neq 5 (.tmp 43) (.val (.int .u8 95))), oP 45 40 44 false])] [3, 23, 24, 25, 26, 27, 28, 29, 30, 31, 32, 33, 34, 35, 36, 37, 38, 39, 40, 41, 42, 43, 44]
abbrev c_16_7 : SCode := .reg [([], [oD 2 (.mov (.val (.bool false)))])] [0, 19, 20, 45]
abbrev c_16_8 : SCode := .reg [([], [oD 46 (.bin .add 3 (.tmp 20) (vI 1)), oM 20 46])] [2, 45, 46]
abbrev c_16_9 : SCode := (.seq c_16_4 (.seq (.cond (.tmp 21) .skip (.exit 0)) (.seq (.block 1 (.seq c_16_5 (.seq c_16_6 (.cond (.tmp 45) (.seq c_16_7 .ret) .skip)))) c_16_8)))
abbrev c_16_10 : SCode := .reg [([], [oD 2 (.mov (.val (.bool true)))])] [0, 19, 20]
abbrev F_16 : SFunc := ⟨47, (.seq c_16_0 (.seq (.seq c_16_1 (.cond (.tmp 17) (.seq c_16_2 .ret) .skip)) (.seq (.seq c_16_3 (.block 0 (.loop c_16_9))) (.seq c_16_10 .ret)))), [.tmp 2], false⟩
theorem tf_16 : z6 Go.Proofs.Tryz.prog 120 (hintT [(15, 0), (26, 0)]) (fpT []) (killT (klN 0 F_16.code.kl)) false = some F_16 := by kernel_rfl
abbrev c_15_0 : SCode := .reg [([1], [oD 1 (.box (.tmp 0)), oD 2 (.mov (.val (.bool false)))])] [0, 2]
abbrev c_15_1 : SCode := .reg [([2020, 2021, 2022, 2023, 2040, 2041, 2042, 2043], [oD 3 (.fldA 0 (.tmp 1)), oL 4 false 1 3, oD 5 (.call 120 0 [.tmp 4]), oD 6 (.un .not (.tmp 5)), oM 7 6, oG 8 7 false (.fldA 1 (.tmp 1)), oG 9 7 false (.ld true 2 (.tmp 8)), oG 10 7 false (.call 70 0 [.tmp 9]), oG 11 7 false (.un .not (.tmp 10)), oQ 12 7 11 true])] [3, 4, 5, 6, 7, 8, 9, 10, 11]
abbrev c_15_2 : SCode := .reg [([], [oD 2 (.mov (.val (.bool false)))])] [1, 12]
abbrev c_15_3 : SCode := .reg [([], [oD 13 (.fldA 3 (.tmp 1)), oL 14 false 1 13, oD 15 (.un .not (.tmp 14)), oM 16 15, oG 17 16 false (.fldA 1 (.tmp 1)), oG 18 16 false (.fldA 0 (.tmp 17)), oG 19 16 false (.ld false 1 (.tmp 18)), oG 20 16 false (.bin .leq 3 (.tmp 19) (vI 3)), oQ 21 16 20 true, oM 2 21])] [1, 12, 13, 14, 15, 16, 17, 18, 19, 20, 21]
abbrev F_15 : SFunc := ⟨22, (.seq c_15_0 (.seq (.seq c_15_1 (.cond (.tmp 12) (.seq c_15_2 .ret) .skip)) (.seq c_15_3 .ret))), [.tmp 2], false⟩
theorem tf_15 : z6 Go.Proofs.Tryz.prog 121 (hintT [(5, 0), (10, 0)]) (fpT []) (killT (klN 0 F_15.code.kl)) false = some F_15 := by kernel_rfl
abbrev c_17_0 : SCode := .reg [([], [oD 2 (.mov (.val (.bool false)))])] [2]
abbrev c_17_1 : SCode := .reg [([], [oM 3 0, oD 4 (.bin .geq 5 (.tmp 3) (.val (.int .u8 97))), oM 5 4, oH 6 5 true 0, oG 7 5 true (.bin .leq 5 (.tmp 6) (.val (.int .u8 122))), oP 8 5 7 false, oM 2 8])] [0, 3, 4, 5, 6, 7, 8]
abbrev F_17 : SFunc := ⟨9, (.seq c_17_0 (.seq c_17_1 .ret)), [.tmp 2], false⟩
theorem tf_17 : z6 Go.Proofs.Tryz.prog 181 (hintT []) (fpT []) (killT (klN 0 F_17.code.kl)) false = some F_17 := by kernel_rfl
end Go.Sh.Cd4
end

section
namespace Go.Proofs.YtmiokadmddjccaaGreatDoor
open Go Go.RowKit Go.Mor Go.Sh Go.Sh.Cd1 Go.Sh.Cd4 Go.Sh.Cd5
set_option maxRecDepth 100000
set_option maxHeartbeats 4000000
theorem z71 {l : List UInt8} {k : Nat} {c : UInt8} (h : l[k]? = some c) : l.drop k = c :: l.drop (k + 1) := by
 obtain ⟨hk, he⟩ := List.getElem?_eq_some_iff.1 h
 rw [List.drop_eq_getElem_cons hk, he]
def p0T (r : Option (Pc × Nat)) : TV := match r with
 | some (q, z) => .tuple [.agg [I q.k, I q.n, S (str q.s), I 0], I (z : Int)]
 | none => .tuple [.agg [I 0, I 0, S (str []), I 0], I 0]
def numP (l : List UInt8) : Option (Pc × Nat) := if 1000000000000000 < (numG l 0 0).1 then none else some (⟨1, (numG l 0 0).1, [], 0⟩, (numG l 0 0).2)
theorem readNumber_ok (g : Sh.Glob) (l : List UInt8) (hl : l.length < 4611686018427387904) : SCalls Tryz.prog g 170 [S (str l)] [] (p0T (numP l)) [] := by
 unfold numP
 generalize hR : numG l 0 0 = R
 refine z7 hmix tf_56 rfl ?_
 simp only [vcA, seval, vV]
 refine v_loop (σ := { q : Int × Nat // 0 ≤ q.1 ∧ q.1 ≤ 1000000000000001 ∧ q.2 ≤ l.length ∧ numG (l.drop q.2) q.1 q.2 = R })
  (fun q => ⟨[(0, S (str l)), (2, .ptr 2 0), (4, I q.1.1), (5, I (q.1.2 : Int))], [(2, [I 0, I 0, S ⟨#[]⟩, I 0])], [], []⟩) (fun q => l.length - q.1.2) ⟨(0, 0), by decide, by decide, Nat.zero_le _, hR⟩ ?_ ?_
 ·apply lw_of <;> simp [leL, lk, sv, Nat.beq, I, S, ES.kill, has, drp, nilT]
 rintro ⟨⟨n, z⟩, h0, h1, hz, hd⟩
 simp only at h0 h1 hz hd
 by_cases hk : z < l.length
 ·have d1 : (z : Int) < (l.length : Int) := by omega
  obtain ⟨c, ec⟩ : ∃ c, l[z]? = some c := ⟨_, List.getElem?_eq_getElem hk⟩
  rw [z71 ec, numG] at hd
  have hc := c.toNat_lt
  by_cases q1 : 48 ≤ c.toNat
  ·have d2 : (48 : Int) ≤ (c.toNat : Int) := by omega
   by_cases q2 : c.toNat ≤ 57
   ·have d3 : (c.toNat : Int) ≤ 57 := by omega
    rw [if_pos (by unfold digB; simp [q1, q2])] at hd
    have w0 : IntKind.i64.wrap (10 * n) = 10 * n := wrap64 (by omega) (by omega)
    have w1 : IntKind.u8.wrap ((c.toNat : Int) - 48) = (c.toNat : Int) - 48 := by rw [IntKind.wrap_u8]; omega
    have w2 : IntKind.i64.wrap ((c.toNat : Int) - 48) = (c.toNat : Int) - 48 := wrap64 (by omega) (by omega)
    have w3 : IntKind.i64.wrap (10 * n + ((c.toNat : Int) - 48)) = 10 * n + ((c.toNat : Int) - 48) := wrap64 (by omega) (by omega)
    have w4 : IntKind.i64.wrap ((z : Int) + 1) = ((z + 1 : Nat) : Int) := by rw [wrap64 (by omega) (by omega)]; omega
    simp only [vcA, seval, vV, d1, d2, d3, ec, w0, w1, w2, w3, w4]
    refine z10 ⟨(min (10 * n + ((c.toNat : Int) - 48)) 1000000000000001, z + 1), by omega, by omega, hk, hd⟩ (by show l.length - (z + 1) < l.length - z; omega) ?_
    apply lw_of <;> simp [leL, lk, sv, Nat.beq, I, S, ES.kill, has, drp, nilT]
   ·have d3 : ¬ (c.toNat : Int) ≤ 57 := by omega
    rw [if_neg (by unfold digB; simp [q2])] at hd
    subst hd
    by_cases hn : 1000000000000000 < n
    ·simp only [vcA, seval, vV, d1, d2, d3, ec, hn, p0T]
     rfl
    ·simp only [vcA, seval, vV, d1, d2, d3, ec, hn, p0T]
     rfl
  ·have d2 : ¬ (48 : Int) ≤ (c.toNat : Int) := by omega
   rw [if_neg (by unfold digB; simp [q1])] at hd
   subst hd
   by_cases hn : 1000000000000000 < n
   ·simp only [vcA, seval, vV, d1, d2, ec, hn, p0T]
    rfl
   ·simp only [vcA, seval, vV, d1, d2, ec, hn, p0T]
    rfl
 ·have d1 : ¬ (z : Int) < (l.length : Int) := by omega
  rw [List.drop_eq_nil_of_le (by omega), numG] at hd
  subst hd
  by_cases hn : 1000000000000000 < n
  ·simp only [vcA, seval, vV, d1, hn, p0T]
   rfl
  ·simp only [vcA, seval, vV, d1, hn, p0T]
   rfl
theorem small_ok (g : Sh.Glob) (b : UInt8) : SCalls Tryz.prog g 181 [.pv (.v (.int .u8 (b.toNat : Int)))] [] (B (small b)) [] := by
 refine z7 hmix tf_17 rfl ?_
 unfold small B
 by_cases q1 : 97 ≤ b.toNat
 ·have d1 : (97 : Int) ≤ (b.toNat : Int) := by omega
  have q2 : decide ((b.toNat : Int) ≤ 122) = decide (b.toNat ≤ 122) := by rw [Bool.eq_iff_iff]; simp; omega
  simp only [vcA, seval, vV, d1, q2, q1]
  first | done | simp
 ·have d1 : ¬ (97 : Int) ≤ (b.toNat : Int) := by omega
  simp only [vcA, seval, vV, d1, q1]
  first | done | simp
theorem rightName_ok (g : Sh.Glob) (l : List UInt8) (hl : l.length < 4611686018427387904) : SCalls Tryz.prog g 120 [S (str l)] [] (B (z16 l)) [] := by
 refine z7 hmix tf_16 rfl ?_
 by_cases h1 : 1 ≤ l.length
 ·have d1 : ¬ (l.length : Int) < 1 := by omega
  by_cases h20 : l.length ≤ 20
  ·have d2 : ¬ (20 : Int) < (l.length : Int) := by omega
   obtain ⟨c, r, rfl⟩ : ∃ c r, l = c :: r := List.exists_cons_of_ne_nil (by rintro rfl; simp at h1)
   have HS := small_ok g c
   unfold B at HS ⊢
   have e0 : (c :: r)[0]? = some c := rfl
   have hR : z16 (c :: r) = (small c && (c :: r).all nameB) := by
    unfold z16
    rw [decide_eq_true ⟨h1, h20⟩]; simp
   rw [hR]
   generalize hL : c :: r = l at *
   simp only [vcA, seval, vV, d1, d2, e0]
   (with_reducible apply v_call); (· simp only [vcA, seval, vV]; with_reducible rfl); (· rfl); (· exact HS); (· first | rfl | (simp only [vcA, seval]; omega)); (· simp only [vcA, seval, vV]; with_reducible rfl)
   cases hs : small c
   ·simp only [vcA, seval, vV]
   simp only [vcA, seval, vV, d1, d2]
   refine v_loop (σ := { k : Nat // k ≤ l.length ∧ (l.drop k).all nameB = l.all nameB })
    (fun k => ⟨[(0, S (str l)), (19, I (l.length : Int)), (20, I (k.1 : Int))], [], [], []⟩) (fun k => l.length - k.1) ⟨0, Nat.zero_le _, rfl⟩ ?_ ?_
   ·apply lw_of <;> simp [leL, lk, sv, Nat.beq, I, S, ES.kill, has, drp, nilT]
   rintro ⟨k, hk, hd⟩
   by_cases hlt : k < l.length
   ·have d3 : (k : Int) < (l.length : Int) := by omega
    obtain ⟨b, eb⟩ : ∃ b, l[k]? = some b := ⟨_, List.getElem?_eq_getElem hlt⟩
    rw [z71 eb, List.all_cons] at hd
    have hbn := b.toNat_lt
    have HB := small_ok g b
    unfold B at HB
    have w4 : IntKind.i64.wrap ((k : Int) + 1) = ((k + 1 : Nat) : Int) := by rw [wrap64 (by omega) (by omega)]; omega
    simp only [vcA, seval, vV, d3, eb]
    (with_reducible apply v_call); (· simp only [vcA, seval, vV]; with_reducible rfl); (· rfl); (· exact HB); (· first | rfl | (simp only [vcA, seval]; omega)); (· simp only [vcA, seval, vV]; with_reducible rfl)
    cases hsb : small b
    ·by_cases q1 : b.toNat < 48
     ·have d4 : (b.toNat : Int) < 48 := by omega
      have d6 : ¬ (b.toNat : Int) = 95 := by omega
      have hn : nameB b = false := by unfold nameB; rw [hsb]; simp; omega
      rw [hn, Bool.false_and] at hd
      simp only [vcA, seval, vV, d3, eb, d4, d6]
      rw [← hd]
     ·have d4 : ¬ (b.toNat : Int) < 48 := by omega
      by_cases q2 : 57 < b.toNat
      ·have d5 : (57 : Int) < (b.toNat : Int) := by omega
       by_cases q3 : b.toNat = 95
       ·have d6 : (b.toNat : Int) = 95 := by omega
        have hn : nameB b = true := by unfold nameB; simp [q3]
        rw [hn, Bool.true_and] at hd
        simp only [vcA, seval, vV, d3, eb, d4, d5, d6, w4]
        refine z10 ⟨k + 1, hlt, hd⟩ (by show l.length - (k + 1) < l.length - k; omega) ?_
        apply lw_of <;> simp [leL, lk, sv, Nat.beq, I, S, ES.kill, has, drp, nilT]
       ·have d6 : ¬ (b.toNat : Int) = 95 := by omega
        have hn : nameB b = false := by unfold nameB; rw [hsb]; simp; omega
        rw [hn, Bool.false_and] at hd
        simp only [vcA, seval, vV, d3, eb, d4, d5, d6]
        rw [← hd]
      ·have d5 : ¬ (57 : Int) < (b.toNat : Int) := by omega
       have hn : nameB b = true := by unfold nameB; simp; omega
       rw [hn, Bool.true_and] at hd
       simp only [vcA, seval, vV, d3, eb, d4, d5, w4]
       refine z10 ⟨k + 1, hlt, hd⟩ (by show l.length - (k + 1) < l.length - k; omega) ?_
       apply lw_of <;> simp [leL, lk, sv, Nat.beq, I, S, ES.kill, has, drp, nilT]
    ·have hn : nameB b = true := by unfold nameB; rw [hsb]; rfl
     rw [hn, Bool.true_and] at hd
     simp only [vcA, seval, vV, d3, eb, w4]
     refine z10 ⟨k + 1, hlt, hd⟩ (by show l.length - (k + 1) < l.length - k; omega) ?_
     apply lw_of <;> simp [leL, lk, sv, Nat.beq, I, S, ES.kill, has, drp, nilT]
   ·have d3 : ¬ (k : Int) < (l.length : Int) := by omega
    rw [List.drop_eq_nil_of_le (by omega)] at hd
    simp only [vcA, seval, vV, d3]
    rw [← hd]; rfl
  ·have d2 : (20 : Int) < (l.length : Int) := by omega
   have hR : z16 l = false := by unfold z16; rw [decide_eq_false (by omega)]; rfl
   rw [hR]; unfold B
   simp only [vcA, seval, vV, d1, d2]
 ·have d1 : (l.length : Int) < 1 := by omega
  have hR : z16 l = false := by unfold z16; rw [decide_eq_false (by omega)]; rfl
  rw [hR]; unfold B
  simp only [vcA, seval, vV, d1]
theorem classRight0_ok (g : Sh.Glob) (l : List UInt8) (hl : l.length < 4611686018427387904) : SCalls Tryz.prog g 69 [.agg [S (str l), .pv (.v (.slice none 0 0))]] [] (B (z16 l)) [] := by
 refine z7 hmix tf_13 rfl ?_
 have HR := rightName_ok g l hl
 unfold B at *
 simp only [vcA, seval, vV]
 (with_reducible apply v_call); (· simp only [vcA, seval, vV]; with_reducible rfl); (· rfl); (· exact HR); (· first | rfl | (simp only [vcA, seval]; omega)); (· simp only [vcA, seval, vV]; with_reducible rfl)
 cases z16 l
 ·simp only [vcA, seval, vV]
 simp only [vcA, seval, vV]
 refine v_loop (σ := Unit) (fun _ => ⟨[(19, I 0), (20, I 0)], [], [], []⟩) (fun _ => 0) () ?_ ?_
 ·apply lw_of <;> simp [leL, lk, sv, Nat.beq, I, S, ES.kill, has, drp, nilT]
 rintro ⟨⟩
 simp only [vcA, seval, vV]
theorem eRightName_ok (g : Sh.Glob) (l : List UInt8) (hl : l.length < 4611686018427387904) : SCalls Tryz.prog g 176 [S (str l)] [] (B (z16 l)) [] := by
 refine z7 hmix tf_58 rfl ?_
 have HR := classRight0_ok g l hl
 unfold B at *
 simp only [vcA, seval, vV]
 (with_reducible apply v_call); (· simp only [vcA, seval, vV]; with_reducible rfl); (· rfl); (· exact HR); (· first | rfl | (simp only [vcA, seval]; omega)); (· simp only [vcA, seval, vV]; with_reducible rfl)
 simp only [vcA, seval, vV]
theorem eRightText_ok (m : Nat) (l : List UInt8) (hl : l.length < 4611686018427387904) : SCalls Tryz.prog (gl0 m) 175 [S (str l)] [] (B (z8 l)) [] := by
 refine z7 hmix tf_59 rfl ?_
 have HR := rightV_ok0 m (.mk 2 0 l []) ⟨by unfold z78 V.s; simp only; omega, by simp [V.l]⟩
 have hk : rightV (.mk 2 0 l []) = z8 l := by unfold rightV right1; simp [V.k, V.n, V.l, V.s]
 rw [hk] at HR
 have HR := HR.inp (xs := [nv (.mk 2 0 l [])]) rfl (fun j c d hc hd => by
  match j with
  | 0 => simp at hc hd; subst hc; subst hd; exact nv_tv rfl
  | j + 1 => simp at hc)
 unfold B nv at *
 simp only [vcA, seval, vV]
 (with_reducible apply v_call); (· simp only [vcA, seval, vV]; with_reducible rfl); (· rfl); (· exact HR); (· first | rfl | (simp only [vcA, seval]; omega)); (· simp only [vcA, seval, vV]; with_reducible rfl)
 simp only [vcA, seval, vV]
end Go.Proofs.YtmiokadmddjccaaGreatDoor
end

section
namespace Go.Proofs.YtmiokadmddjccaaGreatDoor
open Go Go.RowKit Go.Mor Go.Sh Go.Sh.Cd1
set_option maxRecDepth 100000
set_option maxHeartbeats 2000000
theorem order_ok (g : Sh.Glob) (a b : Int) : SCalls Tryz.prog g 159 [I a, I b] [] (I (ordI a b)) [] := by
 refine z7 hmix tf_83 rfl ?_
 unfold ordI
 by_cases h1 : a < b
 ·simp only [vcA, seval, vV, h1]
 ·by_cases h2 : b < a
  ·simp only [vcA, seval, vV, h1, h2]
  ·simp only [vcA, seval, vV, h1, h2]
end Go.Proofs.YtmiokadmddjccaaGreatDoor
end

section
namespace Go.Sh
open Go Go.RowKit
set_option maxHeartbeats 4000000
section
variable {P : Program} {g : Glob}
theorem start_sim {w : World} {E : Env} {os : List MO} {N : Nat} {xs : List TV} {vs : List Value} (hn : xs.length ≤ N) (hm : MSim (start w E os 0) (objB os) (objR os) w E) (hl : xs.length = vs.length) (hxs : ∀ (j : Nat) x v, xs[j]? = some x → vs[j]? = some v → RelT w E (objR os) x v) :
  Sim (start w E os N) (startE xs os).fs { tmps := vs.toArray ++ Array.replicate (N - vs.toArray.size) undef, defers := [] } w E := by
 have hmB : MSim (start w E os N) (objB os) (objR os) w E := ⟨hm.box, hm.row, hm.bb, hm.br, hm.rr, hm.lt, hm.low, hm.keep, hm.knew, ⟨hm.pas.β, hm.pas.γ, hm.pas.row⟩⟩
 have hfs : (startE xs os).fs = ⟨fun k => xs[k]?, objB os, objR os, fun _ => none⟩ := by
  refine FS.ext' (fun k => ?_) (fun k => ?_) (fun k => ?_) (fun k => rfl)
  ·show lk (numT 0 xs) k = _; rw [lk_numT]; simp
  ·show lk (numB 1000 os) k = _; rw [lk_numB]; rfl
  ·show lk (numR 1000 os) k = _; rw [lk_numR]; rfl
 have hsize : (vs.toArray ++ Array.replicate (N - vs.toArray.size) undef).size = N := by
  have : xs.length ≤ N := hn
  simp; omega
 rw [hfs]
 refine ⟨rfl, hsize, fun k x hx => ?_, hmB, fun d z p hd => (by cases hd), fun d d' q q' hd => (by cases hd)⟩
 have hk : k < xs.length := (List.getElem?_eq_some_iff.1 hx).1
 refine ⟨Nat.lt_of_lt_of_le hk hn, ?_⟩
 have hkv : k < vs.length := by omega
 have hv : (vs.toArray ++ Array.replicate (N - vs.toArray.size) undef).getD k undef = vs[k] := by
  rw [Array.getD_eq_getD_getElem?, Array.getElem?_append_left (by simpa using hkv)]
  simp [hkv]
 show RelT w E (objR os) x ((vs.toArray ++ Array.replicate (N - vs.toArray.size) undef).getD k undef)
 rw [hv]
 exact hxs k x _ hx (List.getElem?_eq_getElem hkv)

theorem fin_of {fn : Func} {rs : List SRes} {keep : Bool} {w w' : World} {E E' : Env} {os os' : List MO} {N : Nat} {ds : List Deferred} {a' : Act} {s' : ES} {y : TV} {F : SFunc} (hF1 : F.res = rs) (hF2 : F.keep = keep) (hrs : seqO (z59 P) fn.results.toList = some rs) (hmo : moOk os os' = true)
  (hS' : Sim { start w E os N with ds := ds } s'.fs a' w' E') (hex : exitF F os.length s' = some (y, os')) :
  ∃ v, (results fn a'.tmps).run P w' = .ok v w' ∧ (∃ v_1 E'_1, Ending.returned v = Ending.returned v_1 ∧ MSim (start w E os 0) (objB os') (objR os') w' E'_1 ∧ RelT w' E'_1 (objR os') y v_1 ∧ Left E os E'_1 os') := by
 subst hF1
 subst hF2
 unfold exitF at hex
 split at hex <;> try (cases hex; done)
 rename_i y0 hy0
 obtain ⟨v, hrun, hrel⟩ := results_run (fn := fn) hrs hS' hy0
 refine ⟨v, hrun, v, ?_⟩
 simp only [] at hex
 obtain ⟨i1, i2, i3⟩ := z121 os.length 1000
 generalize hal : reach s'.fs F.keep 64 (y0.ids3 ++ (idsFrom 1000 os.length).flatMap fun d => match s'.fs.b d with | some cs => cs.flatMap TV.ids1 | none => []) (idsFrom 1000 os.length) = al at hex
 obtain ⟨hnd, t, hpre⟩ := z52 (s := s'.fs) (rows := F.keep) 64 (y0.ids3 ++ (idsFrom 1000 os.length).flatMap fun d => match s'.fs.b d with | some cs => cs.flatMap TV.ids1 | none => []) _ i1
 rw [hal] at hnd hpre
 split at hex <;> try (cases hex; done)
 rename_i y1 os1 hren hmos
 cases hex
 have hpas : ∀ j, j < os.length → al[j]? = some (1000 + j) := fun j hj => by
  rw [hpre, List.getElem?_append_left (by omega), z117, if_pos hj]
 have hM := z89 hS' hnd hmos
 obtain ⟨hlen, hBx, hRx⟩ := handed hmos
 have hβ : ∀ {i j}, al[j]? = some i → (envIn E' al).β (1000 + j) = E'.β i := fun hj => by simp only [envIn]; rw [z28 hj]
 have hγ : ∀ {i j}, al[j]? = some i → (envIn E' al).γ (1000 + j) = E'.γ i := fun hj => by simp only [envIn]; rw [z28 hj]
 have hXs : ∀ {i j b}, al[j]? = some i → objX E os i b → objX E os (1000 + j) b := by
  intro i j b hj hx
  have hi : ∃ q, i = 1000 + q ∧ q < os.length := by
   rcases hx with ⟨cs, h1, _⟩ | ⟨⟨e, W, n⟩, cap, h1, _⟩
   ·obtain ⟨q, rfl, hq⟩ := z33 h1; exact ⟨q, rfl, (List.getElem?_eq_some_iff.1 hq).1⟩
   ·obtain ⟨q, rfl, hq⟩ := z18 h1; exact ⟨q, rfl, (List.getElem?_eq_some_iff.1 hq).1⟩
  obtain ⟨q, rfl, hq⟩ := hi
  have a1 := z55 hnd hj
  have a2 := z55 hnd (hpas q hq)
  rw [a1] at a2
  obtain rfl : j = q := Option.some.inj a2
  exact hx
 have hM' : MSim (start w E os 0) (objB os') (objR os') w' (envIn E' al) := by
  refine ⟨fun d cs' hd => ?_, fun d e W n hd => ?_, hM.bb, hM.br, hM.rr, hM.lt, hS'.mem.low, hS'.mem.keep, hS'.mem.knew, ⟨fun d ho => ?_, fun d ho h0 => ?_, fun d e W n ho hd => ?_⟩⟩
  ·refine ⟨(hM.box d cs' hd).1, ?_⟩
   obtain ⟨j, rfl, hj⟩ := z33 hd
   obtain ⟨i, cs, q1, q2, _⟩ := hBx j cs' hj
   rw [hβ q1]
   rcases (hS'.mem.box i cs q2).2 with h1 | h1
   ·exact .inl h1
   ·exact .inr (hXs q1 h1)
  ·obtain ⟨j, rfl, hj⟩ := z18 hd
   obtain ⟨i, q1, q2, q3⟩ := hRx j e W n hj
   rw [hγ q1]
   rcases hS'.mem.row i e W n q3 with h1 | ⟨k, cap, h1, h2, h3⟩
   ·exact .inl h1
   ·exact .inr ⟨k, cap, h1, h2.imp id (hXs q1), h3.cells, h3.le, h3.max, h3.out⟩
  ·obtain ⟨q, rfl⟩ : ∃ q, d = 1000 + q := ⟨d - 1000, by have := ho.1; omega⟩
   have hq : q < os.length := by have := ho.2; have h2 : 1000 + q < 1000 + os.length := this; omega
   rw [hβ (hpas q hq)]; exact hS'.mem.pas.β _ ho
  ·obtain ⟨q, rfl⟩ : ∃ q, d = 1000 + q := ⟨d - 1000, by have := ho.1; omega⟩
   have hq : q < os.length := by have := ho.2; have h2 : 1000 + q < 1000 + os.length := this; omega
   rw [hγ (hpas q hq)]; exact hS'.mem.pas.γ _ ho h0
  ·obtain ⟨q, rfl⟩ : ∃ q, d = 1000 + q := ⟨d - 1000, by have := ho.1; omega⟩
   have hq : q < os.length := by have := ho.2; have h2 : 1000 + q < 1000 + os.length := this; omega
   obtain ⟨j, hj0, hj⟩ := z18 hd
   obtain rfl : q = j := by omega
   obtain ⟨i, q1, q2, q3⟩ := hRx q e W n hj
   rw [hpas q hq] at q1; cases q1
   rw [hγ (hpas q hq)]
   exact hS'.mem.pas.row _ e W n ho q3
 refine ⟨envIn E' al, rfl, hM', z124 (renIn hmos) (fun _ _ _ h _ => h) hrel hren, ⟨fun d h1 h2 => hM'.pas.β d ⟨h1, h2⟩, fun d h1 h2 h0 => hM'.pas.γ d ⟨h1, h2⟩ h0, fun d e W n hd => ?_⟩⟩
 obtain ⟨q, rfl, hq⟩ := z18 hd
 have hql : q < os.length := (List.getElem?_eq_some_iff.1 hq).1
 obtain ⟨n', h1, h2⟩ := (z88 hmo).2.2.2 q e W n hq
 obtain ⟨n0, h3, h4, h5⟩ := hM'.pas.row (1000 + q) e W n' ⟨by omega, by show 1000 + q < 1000 + os.length; omega⟩ (z34 h1)
 have h3 : objR os (1000 + q) = some (e, W, n0) := h3
 rw [hd] at h3; cases h3
 exact ⟨n', z34 h1, h4, h5⟩

def exitY (y0 : TV) (keep : Bool) (n : Nat) (s : ES) : Option (TV × List MO) :=
 let I0 := idsFrom 1000 n
 let al := reach s.fs keep 64 (y0.ids3 ++ I0.flatMap fun d => match s.fs.b d with | some cs => cs.flatMap TV.ids1 | none => []) I0
 match y0.ren3 (rhoIn al), seqO (fun d => (s.fs.mo d).bind (MO.ren (rhoIn al))) al with
 | some y, some os' => some (y, os')
 | _, _ => none
theorem fin_y {keep : Bool} {w w' : World} {E E' : Env} {os os' : List MO} {N : Nat} {ds : List Deferred} {a' : Act} {s' : ES} {y0 y : TV} {v : Value} (hmo : moOk os os' = true)
  (hS' : Sim { start w E os N with ds := ds } s'.fs a' w' E') (hrel : RelT w' E' s'.fs.r y0 v) (hex : exitY y0 keep os.length s' = some (y, os')) :
  ∃ E'_1, MSim (start w E os 0) (objB os') (objR os') w' E'_1 ∧ RelT w' E'_1 (objR os') y v ∧ Left E os E'_1 os' := by
 unfold exitY at hex
 simp only [] at hex
 obtain ⟨i1, i2, i3⟩ := z121 os.length 1000
 generalize hal : reach s'.fs keep 64 (y0.ids3 ++ (idsFrom 1000 os.length).flatMap fun d => match s'.fs.b d with | some cs => cs.flatMap TV.ids1 | none => []) (idsFrom 1000 os.length) = al at hex
 obtain ⟨hnd, t, hpre⟩ := z52 (s := s'.fs) (rows := keep) 64 (y0.ids3 ++ (idsFrom 1000 os.length).flatMap fun d => match s'.fs.b d with | some cs => cs.flatMap TV.ids1 | none => []) _ i1
 rw [hal] at hnd hpre
 split at hex <;> try (cases hex; done)
 rename_i y1 os1 hren hmos
 cases hex
 have hpas : ∀ j, j < os.length → al[j]? = some (1000 + j) := fun j hj => by
  rw [hpre, List.getElem?_append_left (by omega), z117, if_pos hj]
 have hM := z89 hS' hnd hmos
 obtain ⟨hlen, hBx, hRx⟩ := handed hmos
 have hβ : ∀ {i j}, al[j]? = some i → (envIn E' al).β (1000 + j) = E'.β i := fun hj => by simp only [envIn]; rw [z28 hj]
 have hγ : ∀ {i j}, al[j]? = some i → (envIn E' al).γ (1000 + j) = E'.γ i := fun hj => by simp only [envIn]; rw [z28 hj]
 have hXs : ∀ {i j b}, al[j]? = some i → objX E os i b → objX E os (1000 + j) b := by
  intro i j b hj hx
  have hi : ∃ q, i = 1000 + q ∧ q < os.length := by
   rcases hx with ⟨cs, h1, _⟩ | ⟨⟨e, W, n⟩, cap, h1, _⟩
   ·obtain ⟨q, rfl, hq⟩ := z33 h1; exact ⟨q, rfl, (List.getElem?_eq_some_iff.1 hq).1⟩
   ·obtain ⟨q, rfl, hq⟩ := z18 h1; exact ⟨q, rfl, (List.getElem?_eq_some_iff.1 hq).1⟩
  obtain ⟨q, rfl, hq⟩ := hi
  have a1 := z55 hnd hj
  have a2 := z55 hnd (hpas q hq)
  rw [a1] at a2
  obtain rfl : j = q := Option.some.inj a2
  exact hx
 have hM' : MSim (start w E os 0) (objB os') (objR os') w' (envIn E' al) := by
  refine ⟨fun d cs' hd => ?_, fun d e W n hd => ?_, hM.bb, hM.br, hM.rr, hM.lt, hS'.mem.low, hS'.mem.keep, hS'.mem.knew, ⟨fun d ho => ?_, fun d ho h0 => ?_, fun d e W n ho hd => ?_⟩⟩
  ·refine ⟨(hM.box d cs' hd).1, ?_⟩
   obtain ⟨j, rfl, hj⟩ := z33 hd
   obtain ⟨i, cs, q1, q2, _⟩ := hBx j cs' hj
   rw [hβ q1]
   rcases (hS'.mem.box i cs q2).2 with h1 | h1
   ·exact .inl h1
   ·exact .inr (hXs q1 h1)
  ·obtain ⟨j, rfl, hj⟩ := z18 hd
   obtain ⟨i, q1, q2, q3⟩ := hRx j e W n hj
   rw [hγ q1]
   rcases hS'.mem.row i e W n q3 with h1 | ⟨k, cap, h1, h2, h3⟩
   ·exact .inl h1
   ·exact .inr ⟨k, cap, h1, h2.imp id (hXs q1), h3.cells, h3.le, h3.max, h3.out⟩
  ·obtain ⟨q, rfl⟩ : ∃ q, d = 1000 + q := ⟨d - 1000, by have := ho.1; omega⟩
   have hq : q < os.length := by have := ho.2; have h2 : 1000 + q < 1000 + os.length := this; omega
   rw [hβ (hpas q hq)]; exact hS'.mem.pas.β _ ho
  ·obtain ⟨q, rfl⟩ : ∃ q, d = 1000 + q := ⟨d - 1000, by have := ho.1; omega⟩
   have hq : q < os.length := by have := ho.2; have h2 : 1000 + q < 1000 + os.length := this; omega
   rw [hγ (hpas q hq)]; exact hS'.mem.pas.γ _ ho h0
  ·obtain ⟨q, rfl⟩ : ∃ q, d = 1000 + q := ⟨d - 1000, by have := ho.1; omega⟩
   have hq : q < os.length := by have := ho.2; have h2 : 1000 + q < 1000 + os.length := this; omega
   obtain ⟨j, hj0, hj⟩ := z18 hd
   obtain rfl : q = j := by omega
   obtain ⟨i, q1, q2, q3⟩ := hRx q e W n hj
   rw [hpas q hq] at q1; cases q1
   rw [hγ (hpas q hq)]
   exact hS'.mem.pas.row _ e W n ho q3
 refine ⟨envIn E' al, hM', z124 (renIn hmos) (fun _ _ _ h _ => h) hrel hren, ⟨fun d h1 h2 => hM'.pas.β d ⟨h1, h2⟩, fun d h1 h2 h0 => hM'.pas.γ d ⟨h1, h2⟩ h0, fun d e W n hd => ?_⟩⟩
 obtain ⟨q, rfl, hq⟩ := z18 hd
 have hql : q < os.length := (List.getElem?_eq_some_iff.1 hq).1
 obtain ⟨n', h1, h2⟩ := (z88 hmo).2.2.2 q e W n hq
 obtain ⟨n0, h3, h4, h5⟩ := hM'.pas.row (1000 + q) e W n' ⟨by omega, by show 1000 + q < 1000 + os.length; omega⟩ (z34 h1)
 have h3 : objR os (1000 + q) = some (e, W, n0) := h3
 rw [hd] at h3; cases h3
 exact ⟨n', z34 h1, h4, h5⟩

def boxIds (s : FS) (d : Nat) : List Nat := match s.b d with | some cs => cs.flatMap TV.ids1 | none => []
def backB (y0 : TV) (s : FS) (al : List Nat) : Option (TV × List MO) := match y0.ren3 (rhoIn al), seqO (fun d => (s.mo d).bind (MO.ren (rhoIn al))) al with
 | some y, some os' => some (y, os')
 | _, _ => none
def exitB (y0 : TV) (keep : Bool) (n : Nat) (s : FS) : Option (TV × List MO) := backB y0 s (reach s keep 64 (y0.ids3 ++ (idsFrom 1000 n).flatMap (boxIds s)) (idsFrom 1000 n))
theorem exitR_B {res : List SRes} {keep : Bool} {n : Nat} {s : ES} {y0 : TV} (h : resT s.fs res = some y0) : exitR res keep n s = exitB y0 keep n s.fs := by
 unfold exitR exitF
 rw [h]; rfl
end
abbrev Fw (ro : Option Nat) : Fence := { Fence.wide with round := ro }
section
variable {P : Program} {ops : Array Oper} {Q : Exit → Act → World → Prop} {ro : Option Nat} {n : Nat}
theorem opIn {o : Oper} (hd : ∀ c, o.op ≠ .defer c) {a : Act} {w : World} {K : Act → World → Prop} (h : o.wp P a w K Q) : o.wpIn (Fw ro) n P a w K Q := by
 unfold Oper.wpIn
 refine ⟨fun _ _ => trivial, ?_⟩
 rw [Oper.semAt_eq _ _ _ hd]
 unfold Oper.wp at h
 generalize (execOp a.eval o).run P w = r at *
 cases r with
 | ok x w' =>
  cases x with
  | value v => exact h
  | skip => exact h
  | defer d => exact h
  | enter f args => exact ⟨fun h => (by cases h), callsIn_wide.2 h⟩
  | row r args => exact ⟨fun h => (by cases h), fun c cs _ => let ⟨v, w', r, s⟩ := h c cs; ⟨v, w', r, stepsIn_wide.2 s⟩⟩
  | _ => exact (h : False).elim
 | halt x w' => cases x <;> first | exact h | exact (h : False).elim
theorem opsIn_one {i : Nat} (hd : ∀ o : Oper, ops[i]? = some o → ∀ c, o.op ≠ Op.defer c) (hQ : ¬ LetsOut Q) {a : Act} {w : World} {K : Act → World → Prop} (h : wpOp P ops Q i K a w) : wpOpIn (Fw ro) n P ops Q i K a w := by
 unfold wpOp at h
 unfold wpOpIn
 cases ho : ops[i]? with
 | none => rw [ho] at h; exact h
 | some o =>
  rw [ho] at h
  simp only [] at h ⊢
  split at h
  ·rename_i hw
   rw [if_pos hw]
   rcases h with h | h
   ·exact opIn (hd o ho) h
   ·exact absurd h.2 hQ
  ·rename_i hw
   rw [if_neg hw]
   exact ⟨fun _ _ => trivial, h⟩
theorem opsIn (hd : ∀ (i : Nat) (o : Oper), ops[i]? = some o → ∀ c, o.op ≠ Op.defer c) (hQ : ¬ LetsOut Q) : ∀ (is : List Nat) (a : Act) (w : World), wpOps P ops Q is a w → wpOpsIn (Fw ro) n P ops Q is a w
 | [], a, w, h => h
 | i :: is, a, w, h => by
  rw [wpOps_cons] at h
  rw [wpOpsIn_cons]
  refine wpOpIn_mono (fun a w h => opsIn hd hQ is a w h) (opsIn_one (hd i) hQ h)
theorem anyIn (hd : ∀ (i : Nat) (o : Oper), ops[i]? = some o → ∀ c, o.op ≠ Op.defer c) (hQ : ¬ LetsOut Q) : ∀ (fuel : Nat) (li : Array Bool) (a : Act) (w : World), wpAny P .any ops Q fuel li a w → wpAnyIn (Fw ro) n P .any ops Q fuel li a w
 | 0, li, a, w, h => h
 | fuel + 1, li, a, w, h => ⟨h.1, fun i hi => wpOpIn_mono (fun a w h => anyIn hd hQ fuel _ a w h) (opsIn_one (hd i) hQ (h.2 i hi))⟩
theorem noDefer {N : Nat} {H : Option Nat → Nat} {fp : Option Nat} {o : Oper} {so : SOper} (ht : z64 P N H fp ops o = some so) : ∀ c, o.op ≠ .defer c := by
 intro c hc
 unfold z64 at ht
 split at ht <;> try (cases ht; done)
 rename_i hop
 unfold z14 at hop
 rw [hc] at hop
 simp at hop
end
section
variable {P : Program} {H : Option Nat → Nat} {ops : Array Oper} {B : Base} {sops : List SOper} {g : Glob} {draw : Bool} {id : Nat} {ro : Option Nat} {n : Nat}
theorem region_soundIn (hmix : P.follows .mixedOrders = true) (hm0 : B.m ≤ 1000) (hN : B.N ≤ 1000) (hG : g.G B.w0) (hX : ∀ d b, B.X d b → g.n ≤ b) {fps : Nat → Option Nat} (htr : z27 P B.N H fps ops draw = some sops) {s : ES} {K : ES → Prop}
  (hf : ∀ d ∈ sops.flatMap SOper.news, Fresh s.fs d) (h : opsW P g sops K s) {a : Act} {w : World} {E : Env} (hS : Sim B s.fs a w E) {Q : Exit → Act → World → Prop} (hLO : ¬ LetsOut Q) (hQ : ∀ s' a' w' E', K s' → Sim B s'.fs a' w' E' → Q .normal a' w') :
  (Code.region id ops draw).wpIn (Fw ro) n P Q a w := by
 unfold z27 at htr
 split at htr <;> try (cases htr; done)
 rename_i sops' hseq
 split at htr <;> try (cases htr; done)
 rename_i hok
 cases htr
 obtain ⟨s', hrun, hK⟩ := z160 (sops := sops) (l := sops) (j := 0) rfl h
 obtain ⟨hlen, hspec⟩ := z58 hseq
 have hlen' : ops.size = sops.length := by simpa using hlen
 have hdf : ∀ (i : Nat) (o : Oper), ops[i]? = some o → ∀ c, o.op ≠ Op.defer c := fun i o ho => by
  obtain ⟨so, _, hto⟩ := hspec i o (by simpa using ho)
  exact noDefer hto
 have hfi : ∀ l, FreshI sops l s.fs := fun l i _ o ho d hd => hf d (List.mem_flatMap.2 ⟨o, List.mem_of_getElem? ho, hd⟩)
 have hmk := mkAll_of hok
 rw [← List.range_eq_range', ← hlen'] at hrun
 cases draw with
 | false =>
  refine wpIn_region (opsIn hdf hLO _ _ _ ?_)
  have key : ∀ (l : List Nat) (s : FS) (a : Act) (w : World) (E : Env), l.Nodup → Sim B s a w E → FreshI sops l s → RunI P g sops l s s'.fs → wpOps P ops Q l a w := by
   intro l
   induction l with
   | nil => intro s a w E _ hS _ hr; have hr : s = s'.fs := hr; subst hr; exact hQ s' a w E hK hS
   | cons i l ih =>
    intro s a w E hnd hS hf hr
    obtain ⟨o, s1, ho, ⟨C, hC, hst⟩, hr⟩ := hr
    have hil : i < ops.size := by rw [hlen']; exact (List.getElem?_eq_some_iff.1 ho).1
    have hoi : ops[i]? = some ops[i] := Array.getElem?_eq_getElem hil
    obtain ⟨so, hso, hto⟩ := hspec i ops[i] (by simp [hil])
    rw [ho] at hso; cases hso
    rw [wpOps_cons]
    refine sim_step hm0 hN hG hX hC hS hoi hto (hf i (List.mem_cons_self ..) o ho) hst (fun a' w' E' hS' => ?_)
    exact ih s1 a' w' E' (List.nodup_cons.1 hnd).2 hS' (z74 hmk ho (List.nodup_cons.1 hnd).1 (fun j hj => hf j (List.mem_cons_of_mem _ hj)) ⟨C, hC, hst⟩) hr
  exact key _ s.fs a w E List.nodup_range hS (hfi _) hrun
 | true =>
  refine wpIn_region_any hmix (anyIn hdf hLO _ _ _ _ ?_)
  have hrest : rest ops.size (Array.replicate ops.size false) = List.range ops.size := by
   unfold rest
   rw [List.filter_eq_self]
   intro i hi
   have : i < ops.size := by simpa using hi
   simp [Array.getD, this]
  refine any_sound hm0 hN hG hX hseq hok (sf := s'.fs) (fun a w E hS => hQ s' a w E hK hS) ops.size _ s.fs a _ E (by simp) (fun i o ho hl => ?_) (hS.same (Below.refl _ _).drew) (hfi _) (by rw [hrest]; exact hrun) (by rw [hrest]; simp)
  have hil := (Array.getElem?_eq_some_iff.1 ho).1
  simp [Array.getD, hil] at hl
theorem runI_of_opsW' {P : Program} {g : Glob} {sops : List SOper} {K : ES → Prop} : ∀ {l : List SOper} {j : Nat} {s : ES}, (∀ (i : Nat) o, l[i]? = some o → sops[j + i]? = some o) → opsW P g l K s → ∃ s', RunI P g sops (List.range' j l.length) s.fs s'.fs ∧ K s'
 | [], j, s, _, h => ⟨s, rfl, h⟩
 | o :: l, j, s, hd, h => by
  obtain ⟨C, hC, e, he, h⟩ := h
  have hj : sops[j]? = some o := hd 0 o rfl
  obtain ⟨s', h1, h2⟩ := runI_of_opsW' (j := j + 1) (fun i o ho => by rw [show j + 1 + i = j + (i + 1) by omega]; exact hd (i + 1) o ho) h
  refine ⟨s', ⟨o, s.fs.after o e, hj, ⟨C, hC, by unfold step; rw [he]; rfl⟩, ?_⟩, h2⟩
  rw [← ES.after_fs]; exact h1
theorem region_yield {N : Nat} {H : Option Nat → Nat} {fps : Nat → Option Nat} {ops : Array Oper} {sops : List SOper} (htr : z27 P N H fps ops false = some sops) (k : Nat) (hk : k < sops.length) (hm0 : B.m ≤ 1000) (hN : B.N = N) (hN2 : N ≤ 1000) (hG : g.G B.w0) (hX : ∀ d b, B.X d b → g.n ≤ b)
  {g2 : Glob} {s : ES} {K1 : ES → Prop} (hf : ∀ d ∈ sops.flatMap SOper.news, Fresh s.fs d) (h : opsW P g (sops.take k) K1 s) {a : Act} {w : World} {E : Env} (hS : Sim B s.fs a w E) {Q : Exit → Act → World → Prop} (hLO : ¬ LetsOut Q) (K2 : Act → World → Prop)
  (hmid : ∀ s1 a w E, K1 s1 → Sim B s1.fs a w E → wpOpIn (Fw ro) n P ops Q k K2 a w)
  (hpost : ∀ a w, K2 a w → ∃ (B2 : Base) (s2 : ES) (E2 : Env) (K3 : ES → Prop), B2.m ≤ 1000 ∧ B2.N = N ∧ g2.G B2.w0 ∧ (∀ d b, B2.X d b → g2.n ≤ b) ∧ Sim B2 s2.fs a w E2 ∧ (∀ d ∈ sops.flatMap SOper.news, Fresh s2.fs d) ∧ opsW P g2 (sops.drop (k + 1)) K3 s2 ∧ ∀ s3 a' w' E', K3 s3 → Sim B2 s3.fs a' w' E' → Q .normal a' w') :
  (Code.region id ops false).wpIn (Fw ro) n P Q a w := by
 unfold z27 at htr
 split at htr <;> try (cases htr; done)
 rename_i sops' hseq
 split at htr <;> try (cases htr; done)
 rename_i hok
 cases htr
 subst hN
 obtain ⟨hlen, hspec⟩ := z58 hseq
 have hlen' : ops.size = sops.length := by simpa using hlen
 have hdf : ∀ (i : Nat) (o : Oper), ops[i]? = some o → ∀ c, o.op ≠ Op.defer c := fun i o ho => by
  obtain ⟨so, _, hto⟩ := hspec i o (by simpa using ho)
  exact noDefer hto
 have hfi : ∀ l (s : ES), (∀ d ∈ sops.flatMap SOper.news, Fresh s.fs d) → FreshI sops l s.fs := fun l s hf i _ o ho d hd => hf d (List.mem_flatMap.2 ⟨o, List.mem_of_getElem? ho, hd⟩)
 have hmk := mkAll_of hok
 have key : ∀ (g : Glob) (B' : Base), B'.m ≤ 1000 → B'.N = B.N → g.G B'.w0 → (∀ d b, B'.X d b → g.n ≤ b) → ∀ (r : List Nat) (sf : FS), (∀ a w E, Sim B' sf a w E → wpOpsIn (Fw ro) n P ops Q r a w) → ∀ (l : List Nat) (s : FS) (a : Act) (w : World) (E : Env), l.Nodup → Sim B' s a w E → FreshI sops l s → RunI P g sops l s sf → wpOpsIn (Fw ro) n P ops Q (l ++ r) a w := by
  intro g B' hm' hN' hG' hX' r sf hr0 l
  induction l with
  | nil => intro s a w E _ hS _ hr; have hr : s = sf := hr; subst hr; exact hr0 a w E hS
  | cons i l ih =>
   intro s a w E hnd hS hf hr
   obtain ⟨o, s1, ho, ⟨C, hC, hst⟩, hr⟩ := hr
   have hil : i < ops.size := by rw [hlen']; exact (List.getElem?_eq_some_iff.1 ho).1
   have hoi : ops[i]? = some ops[i] := Array.getElem?_eq_getElem hil
   obtain ⟨so, hso, hto⟩ := hspec i ops[i] (by simp [hil])
   rw [ho] at hso; cases hso
   rw [← hN'] at hto
   rw [List.cons_append, wpOpsIn_cons]
   refine opsIn_one (hdf i) hLO (sim_step hm' (by rw [hN']; exact hN2) hG' hX' hC hS hoi hto (hf i (List.mem_cons_self ..) o ho) hst (fun a' w' E' hS' => ?_))
   exact ih s1 a' w' E' (List.nodup_cons.1 hnd).2 hS' (z74 hmk ho (List.nodup_cons.1 hnd).1 (fun j hj => hf j (List.mem_cons_of_mem _ hj)) ⟨C, hC, hst⟩) hr
 refine wpIn_region ?_
 have hsplit : List.range ops.size = List.range' 0 k ++ k :: List.range' (k + 1) (sops.length - (k + 1)) := by
  rw [hlen', List.range_eq_range', ← List.range'_succ, show sops.length = k + (sops.length - (k + 1) + 1) by omega, ← List.range'_append]
  simp
  omega
 rw [hsplit]
 have hrun1 : ∃ s', RunI P g sops (List.range' 0 k) s.fs s'.fs ∧ K1 s' := by
  have := runI_of_opsW' (sops := sops) (j := 0) (fun i o ho => by rw [Nat.zero_add]; rw [List.getElem?_take] at ho; split at ho; exact ho; cases ho) h
  rwa [List.length_take, Nat.min_eq_left (by omega)] at this
 obtain ⟨s1, hrun1, hK1⟩ := hrun1
 refine key g B hm0 rfl hG hX _ s1.fs (fun a1 w1 E1 hS1 => ?_) _ s.fs a w E List.nodup_range' hS (hfi _ s hf) hrun1
 rw [wpOpsIn_cons]
 refine wpOpIn_mono (fun a2 w2 h2 => ?_) (hmid s1 a1 w1 E1 hK1 hS1)
 obtain ⟨B2, s2, E2, K3, p1, p2, p3, p4, p5, p6, p7, p8⟩ := hpost a2 w2 h2
 have hrun3 : ∃ s', RunI P g2 sops (List.range' (k + 1) (sops.length - (k + 1))) s2.fs s'.fs ∧ K3 s' := by
  have := runI_of_opsW' (sops := sops) (j := k + 1) (fun i o ho => by rwa [List.getElem?_drop] at ho) p7
  rwa [List.length_drop] at this
 obtain ⟨s3, hrun3, hK3⟩ := hrun3
 have := key g2 B2 p1 p2 p3 p4 [] s3.fs (fun a3 w3 E3 hS3 => p8 s3 a3 w3 E3 hK3 hS3) _ s2.fs a2 w2 E2 List.nodup_range' p5 (hfi _ s2 p6) hrun3
 rwa [List.append_nil] at this
end
def noRaw : SCode → Bool
 | .skip | .ret | .exit _ | .reg _ _ => true
 | .seq a b => noRaw a && noRaw b
 | .cond _ a b => noRaw a && noRaw b
 | .block _ a => noRaw a
 | _ => false
section
variable {P : Program} {H : Nat → Option Nat → Nat} {Fp : Nat → List (Nat → Option Nat)} {K : Nat → List Nat} {B : Base} {g : Glob} {ro : Option Nat} {n : Nat}
theorem letsOut_not {B : Base} {Q : SExit → ES → Prop} : ¬ LetsOut (fun x a' w' => ∃ e s' E', x = SExit.to e ∧ Q e s' ∧ Sim B s'.fs a' w' E') := by
 rintro ⟨a, w, e, s', E', h, _⟩
 cases e <;> cases h
theorem swpIn_sound (hmix : P.follows .mixedOrders = true) (hm0 : B.m ≤ 1000) (hN : B.N ≤ 1000) (hG : g.G B.w0) (hX : ∀ d b, B.X d b → g.n ≤ b) : ∀ {c : Code} {sc : SCode}, z11 P B.N H Fp K c = some sc → noRaw sc = true → ∀ {Q : SExit → ES → Prop} {s : ES}, swp P g sc Q s → ∀ {a : Act} {w : World} {E : Env}, Sim B s.fs a w E →
  c.wpIn (Fw ro) n P (fun x a' w' => ∃ e s' E', x = SExit.to e ∧ Q e s' ∧ Sim B s'.fs a' w' E') a w := by
 intro c
 induction c with
 | skip =>
  intro sc h hnr Q s hs a w E hS
  simp only [z11] at h; cases h
  exact wpIn_skip ⟨.normal, s, E, rfl, hs, hS⟩
 | exit id =>
  intro sc h hnr Q s hs a w E hS
  simp only [z11] at h; cases h
  exact wpIn_exit ⟨.exit id, s, E, rfl, hs, hS⟩
 | ret =>
  intro sc h hnr Q s hs a w E hS
  simp only [z11] at h; cases h
  exact wpIn_ret ⟨.ret, s, E, rfl, hs, hS⟩
 | region id ops draw =>
  intro sc h hnr Q s hs a w E hS
  simp only [z11] at h
  split at h
  ·cases h; cases hnr
  ·split at h
   ·cases h; cases hnr
   cases h
   obtain ⟨al, hal, hs⟩ := hs
   have key : ∀ (Hs : List ((Option Nat → Nat) × (Nat → Option Nat))), al ∈ z73 P B.N ops draw Hs → ∃ H, ∃ F : Nat → Option Nat, z27 P B.N H F ops draw = some al.2 ∧ al.1 = al.2.flatMap SOper.news := by
    intro Hs
    induction Hs with
    | nil => simp [z73]
    | cons H r ih =>
     intro hm
     simp only [z73] at hm
     split at hm
     ·rename_i l hl
      rcases List.mem_cons.1 hm with rfl | hm
      ·exact ⟨H.1, H.2, hl, rfl⟩
      ·exact ih hm
     ·exact ih hm
   obtain ⟨H', F', htr, hn⟩ := key _ hal
   refine region_soundIn hmix hm0 hN hG hX htr (s := s.fgt al.1) (fun d hd => z40 s (by rw [hn]; exact hd)) hs (z61 hS al.1) letsOut_not (fun s' a' w' E' hK hS' => ⟨.normal, s'.kill _, E', rfl, hK, z157 hS' _⟩)
 | seq a b iha ihb =>
  intro sc h hnr Q s hs ac w E hS
  simp only [z11] at h
  split at h <;> try (cases h; done)
  rename_i a' b' ha hb
  cases h
  simp only [noRaw, Bool.and_eq_true] at hnr
  refine wpIn_seq (wpIn_mono (iha ha hnr.1 hs hS) ?_)
  rintro x a2 w2 ⟨e, s2, E2, rfl, hq, hS2⟩
  cases e with
  | normal => exact ihb hb hnr.2 hq hS2
  | exit id => exact ⟨.exit id, s2, E2, rfl, hq, hS2⟩
  | ret => exact ⟨.ret, s2, E2, rfl, hq, hS2⟩
  | pan z => exact ⟨.pan z, s2, E2, rfl, hq, hS2⟩
 | cond cnd a b iha ihb =>
  intro sc h hnr Q s hs ac w E hS
  simp only [z11] at h
  split at h <;> try (cases h; done)
  rename_i a' b' ha hb
  cases h
  simp only [noRaw, Bool.and_eq_true] at hnr
  obtain ⟨t, h1, h2⟩ := hs
  have hv := val_rel (y := .bool t) (z13 hS h1) rfl
  refine wpIn_cond hv ?_
  cases t with
  | true => exact iha ha hnr.1 h2 hS
  | false => exact ihb hb hnr.2 h2 hS
 | block id a ih =>
  intro sc h hnr Q s hs ac w E hS
  simp only [z11] at h
  obtain ⟨a', ha, rfl⟩ := Option.map_eq_some_iff.1 h
  refine wpIn_block (wpIn_mono (ih ha hnr hs hS) ?_)
  rintro x a2 w2 ⟨e, s2, E2, rfl, hq, hS2⟩
  cases e with
  | normal => exact ⟨.normal, s2, E2, rfl, hq, hS2⟩
  | ret => exact ⟨.ret, s2, E2, rfl, hq, hS2⟩
  | pan z => exact ⟨.pan z, s2, E2, rfl, hq, hS2⟩
  | exit j =>
   simp only [SExit.to, Exit.inBlock]
   simp only [blockW] at hq
   split
   ·rename_i hj; simp only [hj, if_true] at hq; exact ⟨.normal, s2, E2, rfl, hq, hS2⟩
   ·rename_i hj; simp only [hj, if_false] at hq; exact ⟨.exit j, s2, E2, rfl, hq, hS2⟩
 | loop a ih =>
  intro sc h hnr
  simp only [z11] at h
  obtain ⟨a', ha, rfl⟩ := Option.map_eq_some_iff.1 h
  cases hnr
 | rangeFunc x y c d ih1 ih2 =>
  intro sc h hnr
  simp only [z11] at h; cases h
  cases hnr
 | _ => intro sc h; simp [z11] at h
end
def TV.flat (x : TV) : Prop := (∃ p, x = .pv p) ∨ ∃ d W es, x = .own d W es
theorem RelT.still {w w' : World} {E : Env} {r : Rows} {x : TV} {v : Value} (hx : x.flat) (h : RelT w E r x v) (hk : ∀ b o u, E.K b o → w.cell? ⟨b, o, none⟩ = some u → E.K b o ∧ w'.cell? ⟨b, o, none⟩ = some u) : RelT w' E r x v := by
 rcases hx with ⟨p, rfl⟩ | ⟨d, W, es, rfl⟩
 ·cases h with | pv h => exact .pv (h.mono hk)
 ·cases h with | own _ _ _ _ h h2 => exact .own d W es v (h.mono hk) h2
theorem z163 {w w' : World} {b o : Nat} (h : w'.heap[b]? = w.heap[b]?) : w'.frozen? ⟨b, o, none⟩ = w.frozen? ⟨b, o, none⟩ := by
 simp only [World.frozen?, h]
theorem z70 {w : World} {b o : Nat} {u : Value} (h : w.cell? ⟨b, o, none⟩ = some u) : ∃ ob : Obj, w.heap[b]? = some ob ∧ ob.isCells = true := by
 unfold World.cell? at h
 simp only [] at h
 split at h
 ·rename_i c e z hb; exact ⟨_, hb, rfl⟩
 ·cases h
section
variable {B : Base} {b : Nat → Option (List TV)} {r : Rows} {w w' : World} {E : Env} {row : Option Nat}
theorem MSim.grown (h : MSim B b r w E) (hfl : ∀ d cs, b d = some cs → ∀ x ∈ cs, x.flat) (hg : w.grownBy w' row) (hr : ∀ k, row = some k → B.w0.heap.size ≤ k ∧ ∃ o : Obj, w.heap[k]? = some o ∧ o.isCells = false) : MSim B b r w' E := by
 have hcs : ∀ (k : Nat) (o : Obj), w.heap[k]? = some o → o.isCells = true → w'.heap[k]? = w.heap[k]? := fun k o hk ho => by
  refine hg.block k (Array.getElem?_eq_some_iff.1 hk).1 (fun he => ?_)
  obtain ⟨o', ho', hc⟩ := (hr k he.symm).2
  rw [hk] at ho'; cases ho'; rw [ho] at hc; cases hc
 have hce : ∀ (k o : Nat) (u : Value), w.cell? ⟨k, o, none⟩ = some u → w'.cell? ⟨k, o, none⟩ = some u := fun k o u hu => by
  obtain ⟨ob, h1, h2⟩ := z70 hu
  exact (World.cell?_of_block (w := w) (a := ⟨k, o, none⟩) (hcs k ob h1 h2)).trans hu
 have hk : ∀ b o u, E.K b o → w.cell? ⟨b, o, none⟩ = some u → E.K b o ∧ w'.cell? ⟨b, o, none⟩ = some u := fun b o u h1 h2 => ⟨h1, hce b o u h2⟩
 refine ⟨fun d cs hd => ?_, fun d e W n hd => ?_, h.bb, h.br, h.rr, fun k o hk => Nat.lt_of_lt_of_le (h.lt k o hk) hg.size, ?_, fun k o u h1 h2 => ⟨(h.keep k o u h1 h2).1, hce _ _ _ (h.keep k o u h1 h2).2⟩, h.knew, h.pas⟩
 ·obtain ⟨⟨lt, ⟨c, e, z, hob⟩, fz, cell, out⟩, hq⟩ := h.box d cs hd
  have hs := hcs _ _ hob rfl
  refine ⟨⟨Nat.lt_of_lt_of_le lt hg.size, ⟨c, e, z, hs.trans hob⟩, fun o => (z163 hs).trans (fz o), fun j c hj => ?_, out⟩, hq⟩
  obtain ⟨v, h1, h2, h3⟩ := cell j c hj
  exact ⟨v, hce _ _ _ h1, h2, h3.still (hfl d cs hd c (List.mem_of_getElem? hj)) hk⟩
 ·rcases h.row d e W n hd with h1 | ⟨k, cap, h1, h2, ⟨⟨cur, h3, h4⟩, h5, h6, h7⟩⟩
  ·exact .inl h1
  ·exact .inr ⟨k, cap, h1, h2, ⟨⟨cur, (hcs _ _ h3 rfl).trans h3, h4⟩, h5, h6, h7⟩⟩
 ·exact ⟨hg.os.trans h.low.os, hg.tape.trans h.low.tape, hg.output.trans h.low.output, Nat.le_trans h.low.size hg.size, fun k hk hX => (hg.block k (Nat.lt_of_lt_of_le hk h.low.size) (fun he => by have := (hr k he.symm).1; omega)).trans (h.low.block k hk hX)⟩
end
def EK (K : Nat → Nat → Prop) : Env := ⟨K, fun _ => 0, fun _ => none, fun _ => 0⟩
theorem simT {W : World} {K : Nat → Nat → Prop} (hK : ∀ b o, K b o → b < W.heap.size) {N : Nat} {a : Act} (hsz : a.tmps.size = N) (hd : a.defers = []) (ts : List (Nat × TV)) (ht : ∀ k x, (k, x) ∈ ts → k < N ∧ RelT W (EK K) (fun _ => none) x (a.tmps.getD k undef)) :
  Sim (start W (EK K) [] N) (ES.fs ⟨ts, [], [], []⟩) a W (EK K) := by
 have hmem : ∀ {k : Nat} {x : TV}, lk ts k = some x → (k, x) ∈ ts := by
  intro k x h
  clear ht
  induction ts with
  | nil => cases h
  | cons y l ih =>
   obtain ⟨j, y⟩ := y
   simp only [lk] at h
   split at h
   ·rename_i hb; rw [Nat.eq_of_beq_eq_true hb] at *; cases h; exact List.mem_cons_self ..
   ·exact List.mem_cons_of_mem _ (ih h)
 have ho : ∀ d, ¬ (start W (EK K) [] N).old d := fun d h => by have h1 := h.1; have h2 : d < 1000 + 0 := h.2; omega
 refine ⟨hd, hsz, fun k x hx => ht k x (hmem hx), ⟨fun d cs h => (by cases h), fun d e W n h => (by cases h), fun d d' cs cs' h => (by cases h), fun d d' cs q k cap h => (by cases h), fun d d' q q' k cap cap' h => (by cases h), fun k o h => hK k o h, ⟨rfl, rfl, rfl, Nat.le_refl _, fun _ _ _ => rfl⟩, fun k o u h1 h2 => ⟨h1, h2⟩, fun k o h => .inl h, ⟨fun d h => absurd h (ho d), fun d h => absurd h (ho d), fun d e W n h => absurd h (ho d)⟩⟩, fun d z p h => (by cases h), fun d d' q q' h => (by cases h)⟩
theorem grown_of {W W' : World} {K : Nat → Nat → Prop} {N : Nat} {s : FS} {a : Act} {E : Env} (h : Sim (start W (EK K) [] N) s a W' E) : W.grownBy W' none := by
 have hl := h.mem.low
 refine ⟨hl.os, hl.tape, hl.output, hl.size, fun k hk _ => hl.block k hk fun d hx => ?_⟩
 rcases hx with ⟨cs, h1, _⟩ | ⟨q, cap, h1, _⟩
 ·simp [objB] at h1
 ·simp [objR] at h1
def g00 : Glob := ⟨fun _ => True, 0, fun _ _ _ _ => trivial, fun _ _ => Nat.zero_le _⟩
theorem startX {W : World} {K : Nat → Nat → Prop} {N n : Nat} : ∀ d b, (start W (EK K) [] N).X d b → n ≤ b := by
 intro d b hx
 rcases hx with ⟨cs, h1, _⟩ | ⟨q, cap, h1, _⟩
 ·simp [objB] at h1
 ·simp [objR] at h1
def rbOf (β : Nat) (W : World) (k : Nat) : Prop := ∃ p n c, W.cell? ⟨β, 0, none⟩ = some (.slice (some p) n c) ∧ p.block = k
structure Kp (O : List Nat) (β n : Nat) (W W' : World) : Prop where
 size : W.heap.size ≤ W'.heap.size
 same : ∀ (k : Nat) (o : Obj), W.heap[k]? = some o → o.isCells = true → k ∉ O → ¬ rbOf β W k → W'.heap[k]? = some o
 rb : ∀ k, rbOf β W' k → rbOf β W k ∨ W.heap.size ≤ k
 lt : (∀ k, rbOf β W k → k < W.heap.size) → ∀ k, rbOf β W' k → k < W'.heap.size
 glob : ∀ k, k < n → W'.heap[k]? = W.heap[k]?
theorem Kp.refl {O : List Nat} {β n : Nat} (W : World) : Kp O β n W W := ⟨Nat.le_refl _, fun _ _ h _ _ _ => h, fun _ h => .inl h, fun h => h, fun _ _ => rfl⟩
theorem Kp.trans {O : List Nat} {β n : Nat} {A B C : World} (h : Kp O β n A B) (k : Kp O β n B C) : Kp O β n A C := by
 refine ⟨Nat.le_trans h.size k.size, fun j o h1 h2 h3 h4 => k.same j o (h.same j o h1 h2 h3 h4) h2 h3 (fun h5 => ?_), fun j h1 => ?_, fun h1 => k.lt (h.lt h1), fun j hj => (k.glob j hj).trans (h.glob j hj)⟩
 ·rcases h.rb j h5 with h6 | h6
  ·exact h4 h6
  ·have := (Array.getElem?_eq_some_iff.1 h1).1; omega
 ·rcases k.rb j h1 with h2 | h2
  ·exact h.rb j h2
  ·have := h.size; exact .inr (by omega)
theorem z102 {β : Nat} {W W' : World} (h : W'.heap[β]? = W.heap[β]?) (k : Nat) : rbOf β W' k ↔ rbOf β W k := by
 unfold rbOf
 rw [World.cell?_of_block (w := W) (w' := W') (a := ⟨β, 0, none⟩) h]
theorem Kp.put {O : List Nat} {β n m : Nat} (hβ : β < m) (hn : n ≤ m) (W : World) (l : Nat) (o o' : Obj) (hl : m ≤ l) (ho : W.heap[l]? = some o) (hc : o.isCells = false) : Kp O β n W (W.putObj l o') := by
 have hne : ∀ k, k ≠ l → (W.putObj l o').heap[k]? = W.heap[k]? := fun k hk => World.putObj_heap_other hk
 refine ⟨by simp, fun k ob h1 h2 _ _ => (hne k (fun he => ?_)).trans h1, fun k h => .inl ((z102 (hne β (by omega)) k).1 h), fun h k h1 => ?_, fun k hk => hne k (by omega)⟩
 ·rw [he, ho] at h1; cases h1; rw [hc] at h2; cases h2
 ·have := h k ((z102 (hne β (by omega)) k).1 h1)
  simpa using this
section
variable {B : Base} {s : FS} {a : Act} {w w' : World} {E : Env} {I : List Nat} {N : Nat}
theorem inner_sim (hS : Sim B s a w E) (hI : I.Nodup) {os : List MO} (hos : seqO (fun d => (s.mo d).bind (MO.ren (rhoIn I))) I = some os) {a2 : Act} {ds : List Deferred} (hsz : a2.tmps.size = N) (hd : a2.defers = ds) (ts : List (Nat × TV))
  (hts : ∀ k x', (k, x') ∈ ts → k < N ∧ ((∃ x, x.ren3 (rhoIn I) = some x' ∧ RelT w E s.r x (a2.tmps.getD k undef)) ∨ ∀ W E r, RelT W E r x' (a2.tmps.getD k undef))) :
  Sim { start w (envIn E I) os N with ds := ds } (ES.fs ⟨ts, numB 1000 os, numR 1000 os, []⟩) a2 w (envIn E I) := by
 have hMp := z89 hS hI hos
 have hb : (ES.fs ⟨ts, numB 1000 os, numR 1000 os, []⟩).b = objB os := by funext d; show lk (numB 1000 os) d = _; rw [lk_numB]; rfl
 have hr : (ES.fs ⟨ts, numB 1000 os, numR 1000 os, []⟩).r = objR os := by funext d; show lk (numR 1000 os) d = _; rw [lk_numR]; rfl
 have hmem : ∀ {k : Nat} {x : TV}, lk ts k = some x → (k, x) ∈ ts := by
  intro k x h
  clear hts hb hr
  induction ts with
  | nil => cases h
  | cons y l ih =>
   obtain ⟨j, y⟩ := y
   simp only [lk] at h
   split at h
   ·rename_i hb; rw [Nat.eq_of_beq_eq_true hb] at *; cases h; exact List.mem_cons_self ..
   ·exact List.mem_cons_of_mem _ (ih h)
 refine ⟨hd, hsz, fun k x hx => ?_, ?_, fun d z p h => (by cases h), fun d d' q q' h => (by cases h)⟩
 ·obtain ⟨h1, h2⟩ := hts k x (hmem hx)
  refine ⟨h1, ?_⟩
  rcases h2 with ⟨y, h4, h5⟩ | h2
  ·rw [hr]
   exact z124 (renIn hos) (fun _ _ _ h _ => h) h5 h4
  ·exact h2 _ _ _
 ·rw [hb, hr]
  exact ⟨hMp.box, hMp.row, hMp.bb, hMp.br, hMp.rr, hMp.lt, hMp.low, hMp.keep, hMp.knew, ⟨hMp.pas.β, hMp.pas.γ, hMp.pas.row⟩⟩
theorem inner_back (hS : Sim B s a w E) (hI : I.Nodup) (hIm : ∀ i ∈ I, s.ment i) (hm0 : B.m ≤ 1000) {k : Nat} (hfr : ∀ q < 4, Fresh s (newId k q)) {os os' : List MO} (hos : seqO (fun d => (s.mo d).bind (MO.ren (rhoIn I))) I = some os)
  (hok : moOk os os' = true) {us : List (Nat × MO)} (hus : outs (rhoOut I k) 0 os' = some us) {ds : List Deferred} {s' : ES} {a' : Act} {E' : Env} (hS' : Sim { start w (envIn E I) os N with ds := ds } s'.fs a' w' E') {y0 y y2 : TV} {v : Value} (hrel : RelT w' E' s'.fs.r y0 v)
  (hex : exitY y0 false os.length s' = some (y, os')) (hy2 : y.ren3 (rhoOut I k) = some y2) :
  ∃ E2, Sim B (s.upd none (.mem us)) a w' E2 ∧ RelT w' E2 (s.upd none (.mem us)).r y2 v := by
 obtain ⟨E1, m1, r1, l1⟩ := fin_y hok hS' hrel hex
 obtain ⟨h1, h2⟩ := z149 hS hI hIm hm0 hfr hos hok hus m1 l1 none
 exact ⟨_, h1, z124 h2 (fun _ _ _ h _ => h) r1 hy2⟩
theorem Sim.grown {row : Option Nat} (h : Sim B s a w E) (hts : ∀ k x, s.t k = some x → x.flat ∨ ∃ d o, x = .ptr d o) (hi : ∀ d, s.i d = none) (hfl : ∀ d cs, s.b d = some cs → ∀ x ∈ cs, x.flat) (hg : w.grownBy w' row) (hr : ∀ k, row = some k → B.w0.heap.size ≤ k ∧ ∃ o : Obj, w.heap[k]? = some o ∧ o.isCells = false) : Sim B s a w' E := by
 refine ⟨h.defers, h.size, fun k x hx => ⟨(h.tmp k x hx).1, ?_⟩, h.mem.grown hfl hg hr, fun d z p hd => (by rw [hi] at hd; cases hd), h.ii⟩
 rcases hts k x hx with hf | ⟨d, o, rfl⟩
 ·refine (h.tmp k x hx).2.still hf (fun b o u h1 h2 => ⟨h1, ?_⟩)
  obtain ⟨ob, e1, e2⟩ := z70 h2
  refine (World.cell?_of_block (w := w) (a := ⟨b, o, none⟩) (hg.block b (Array.getElem?_eq_some_iff.1 e1).1 (fun he => ?_))).trans h2
  obtain ⟨o', e3, e4⟩ := (hr b he.symm).2
  rw [e1] at e3; cases e3; rw [e2] at e4; cases e4
 ·have := (h.tmp k _ hx).2
  generalize a.tmps.getD k undef = v at this
  cases this
  exact .ptr d o
theorem Sim.freeze (h : Sim B s a w E) (hold : ∀ d, s.b d ≠ none → True) {d : Nat} {ps : List PV} (hd : s.b d = some (ps.map TV.pv)) (hnm : ∀ k x, s.t k = some x → ¬ Ment d x) (hnb : ∀ e cs x, s.b e = some cs → e ≠ d → x ∈ cs → ¬ Ment d x) :
  ∃ K', Sim B { s with b := fun e => if e = d then none else s.b e } a w { E with K := K' } ∧ RelT w { E with K := K' } s.r (.pv (.el ps)) (.pointer (some ⟨E.β d, 0, none⟩)) ∧ ∀ b o, E.K b o → K' b o := by
 obtain ⟨hbx, hq⟩ := h.mem.box d _ hd
 have hk : ∀ b o u, E.K b o → w.cell? ⟨b, o, none⟩ = some u → (E.K b o ∨ (b = E.β d ∧ o < ps.length)) ∧ w.cell? ⟨b, o, none⟩ = some u := fun b o u h1 h2 => ⟨.inl h1, h2⟩
 have hmono : ∀ {x : TV} {v : Value}, RelT w E s.r x v → RelT w { E with K := fun b o => E.K b o ∨ (b = E.β d ∧ o < ps.length) } s.r x v := fun hx => hx.mono hk (fun _ _ => ⟨rfl, rfl⟩) (fun _ _ _ _ _ hd => .inl ⟨hd, rfl⟩) (Maps.refl w)
 have hb' : ∀ {e : Nat} {cs : List TV}, (if e = d then none else s.b e) = some cs → e ≠ d ∧ s.b e = some cs := fun {e cs} he => by
  by_cases hed : e = d
  ·simp [hed] at he
  ·rw [if_neg hed] at he; exact ⟨hed, he⟩
 refine ⟨fun b o => E.K b o ∨ (b = E.β d ∧ o < ps.length), ⟨h.defers, h.size, fun k x hx => ⟨(h.tmp k x hx).1, hmono (h.tmp k x hx).2⟩, ⟨fun e cs he => ?_, fun e ty W n he => ?_, fun e e' c c' h1 h2 h3 => h.mem.bb e e' c c' (hb' h1).2 (hb' h2).2 h3, fun e e' c q k cap h1 h2 h3 => h.mem.br e e' c q k cap (hb' h1).2 h2 h3, h.mem.rr, fun k o ho => ?_, h.mem.low, fun k o u h1 h2 => ⟨.inl (h.mem.keep k o u h1 h2).1, (h.mem.keep k o u h1 h2).2⟩, fun k o ho => ?_, ⟨h.mem.pas.β, h.mem.pas.γ, h.mem.pas.row⟩⟩, h.itr, h.ii⟩, ?_, fun _ _ h => .inl h⟩
 ·obtain ⟨hed, he⟩ := hb' he
  obtain ⟨h1, h2⟩ := h.mem.box e cs he
  refine ⟨⟨h1.lt, h1.obj, h1.fz, fun j c hj => ?_, fun o ho => ?_⟩, h2⟩
  ·obtain ⟨v, c1, c2, c3⟩ := h1.cell j c hj
   exact ⟨v, c1, c2, hmono c3⟩
  ·rcases ho with ho | ⟨ho, _⟩
   ·exact h1.out o ho
   ·exact hed (h.mem.bb e d _ _ he hd ho)
 ·rcases h.mem.row e ty W n he with h1 | ⟨k, cap, h1, h2, h3⟩
  ·exact .inl h1
  ·refine .inr ⟨k, cap, h1, h2, ⟨h3.cells, h3.le, h3.max, fun o ho => ?_⟩⟩
   rcases ho with ho | ⟨ho, _⟩
   ·exact h3.out o ho
   ·exact absurd ho.symm (h.mem.br d e _ _ k cap hd he h1)
 ·rcases ho with ho | ⟨rfl, _⟩
  ·exact h.mem.lt k o ho
  ·exact hbx.lt
 ·rcases ho with ho | ⟨rfl, _⟩
  ·exact h.mem.knew k o ho
  ·rcases hq with hq | hq
   ·exact .inr (.inl hq)
   ·exact .inr (.inr ⟨d, hq⟩)
 ·have hcell : ∀ (j : Nat) c, ps[j]? = some c → ∃ v, w.cell? ⟨E.β d, j, none⟩ = some v ∧ one v ∧ RelV w E.K c v := fun j c hj => by
   obtain ⟨v, c1, c2, c3⟩ := hbx.cell j (.pv c) (by rw [List.getElem?_map, hj]; rfl)
   cases c3 with | pv c3 => exact ⟨v, c1, c2, c3⟩
  refine .pv (.el ps (E.β d) 0 (fun j => (w.cell? ⟨E.β d, j, none⟩).getD undef) (fun j c hj => ?_) (fun j c hj => ?_))
  ·obtain ⟨v, c1, c2, c3⟩ := hcell j c hj
   refine ⟨.inr ⟨rfl, ?_⟩, ?_, ?_⟩
   ·rw [Nat.zero_add]; exact (List.getElem?_eq_some_iff.1 hj).1
   ·rw [Nat.zero_add, c1]; rfl
   ·rw [c1]; exact c2
  ·obtain ⟨v, c1, c2, c3⟩ := hcell j c hj
   rw [c1]
   exact c3.mono hk
theorem inner_X {n : Nat} (hS : Sim B s a w E) {os : List MO} (hos : seqO (fun d => (s.mo d).bind (MO.ren (rhoIn I))) I = some os) (hn : n ≤ B.w0.heap.size) (hX : ∀ d b, B.X d b → n ≤ b) : ∀ d b, objX (envIn E I) os d b → n ≤ b := by
 intro d b hx
 obtain ⟨hlen, hB, hR⟩ := handed hos
 rcases hx with ⟨cs, e1, e2⟩ | ⟨⟨e, W, m⟩, cap, e1, e2⟩
 ·obtain ⟨j, rfl, hj⟩ := z33 e1
  obtain ⟨i, c, b1, b2, _⟩ := hB j cs hj
  have e3 : E.β i = b := by rw [← e2]; simp only [envIn]; rw [z28 b1]
  rcases (hS.mem.box i c b2).2 with e4 | e4
  ·rw [e3] at e4; exact Nat.le_trans hn e4
  ·rw [e3] at e4; exact hX _ _ e4
 ·obtain ⟨j, rfl, hj⟩ := z18 e1
  obtain ⟨i, b1, b2, b3⟩ := hR j e W m hj
  have e3 : E.γ i = some (b, cap) := by rw [← e2]; simp only [envIn]; rw [z28 b1]
  rcases hS.mem.row i e W m b3 with ⟨e4, _⟩ | ⟨k, cap', e4, e5, _⟩
  ·rw [e3] at e4; cases e4
  ·rw [e3] at e4; cases e4
   rcases e5 with e5 | e5
   ·exact Nat.le_trans hn e5
   ·exact hX _ _ e5
theorem Sim.act (h : Sim B s a w E) {a2 : Act} (hsz : a2.tmps.size = B.N) (hd : a2.defers = B.ds) (ht : ∀ k x, s.t k = some x → RelT w E s.r x (a2.tmps.getD k undef)) : Sim B s a2 w E :=
 ⟨hd, hsz, fun k x hx => ⟨(h.tmp k x hx).1, ht k x hx⟩, h.mem, h.itr, h.ii⟩
theorem inner_cells (hS : Sim B s a w E) (hI : I.Nodup) {os : List MO} (hos : seqO (fun d => (s.mo d).bind (MO.ren (rhoIn I))) I = some os) {d k : Nat} (hx : objX (envIn E I) os d k) : ∃ c e z, w.heap[k]? = some (.cells c e z) := by
 have hMp := z89 hS hI hos
 rcases hx with ⟨cs, e1, e2⟩ | ⟨⟨e, W, m⟩, cap, e1, e2⟩
 ·have := (hMp.box d cs e1).1.obj
  rwa [e2] at this
 ·rcases hMp.row d e W m e1 with ⟨e4, _⟩ | ⟨k', cap', e4, e5, h6⟩
  ·rw [e2] at e4; cases e4
  ·rw [e2] at e4; cases e4
   obtain ⟨cur, h7, _⟩ := h6.cells
   exact ⟨_, _, _, h7⟩
theorem inner_keeps (hS : Sim B s a w E) (hI : I.Nodup) {os : List MO} (hos : seqO (fun d => (s.mo d).bind (MO.ren (rhoIn I))) I = some os) {ds : List Deferred} {s' : FS} {a' : Act} {E' : Env} (hS' : Sim { start w (envIn E I) os N with ds := ds } s' a' w' E') : ∀ (k : Nat) (o : Obj), w.heap[k]? = some o → o.isCells = false → w'.heap[k]? = some o := by
 intro k o hk ho
 refine (hS'.mem.low.block k (Array.getElem?_eq_some_iff.1 hk).1 fun d hx => ?_).trans hk
 obtain ⟨c, e, z, hc⟩ := inner_cells hS hI hos hx
 rw [hk] at hc; cases hc; cases ho
end
end Go.Sh
end

section
namespace Go.Proofs.YtmiokadmddjccaaGreatDoor
open Go Go.RowKit Go.Mor Go.Sh Go.Sh.Cd1 Go.Sh.Cd4 Go.Sh.Cd5
set_option maxRecDepth 100000
set_option maxHeartbeats 4000000
inductive ESmall : V → Prop where
 | mk {k n : Int} {s : List UInt8} {l : List V} (h : l.length < 4611686018427387904) (ht : s.length < 4611686018427387904) (hs : ∀ y ∈ l, ESmall y) : ESmall (.mk k n s l)
theorem ESmall.len {x : V} (h : ESmall x) : x.l.length < 4611686018427387904 := by cases h; assumption
theorem ESmall.txt {x : V} (h : ESmall x) : x.s.length < 4611686018427387904 := by cases h; assumption
theorem ESmall.sub {x y : V} (h : ESmall x) (hy : y ∈ x.l) : ESmall y := by cases h with | mk _ _ hs => exact hs y hy
theorem beqL (s t : List UInt8) : (s == t) = decide (s = t) := by rw [Bool.eq_iff_iff]; simp
theorem node_ok (m : Nat) (e : V) (he : ESmall e) (n : Int) : SCalls Tryz.prog (gl0 m) 112 [.ptr 1000 0, tv e] [.box [bindM, I n]] (B (nodeE e)) [.box [bindM, I n]] := by
 refine z15 hmix tf_2 rfl rfl rfl ?_
 have HT := eRightText_ok m e.s he.txt
 have HN := eRightName_ok (gl0 m) e.s he.txt
 have HK := takes_ok (gl0 m) e.s
 have e0 : (⟨#[]⟩ : ByteArray) = str [] := rfl
 have hlen0 : decide ((e.l.length : Int) = 0) = (e.l.length == 0) := by rw [Bool.eq_iff_iff]; simp
 have hlen1 : decide ((e.l.length : Int) = 1) = (e.l.length == 1) := by rw [Bool.eq_iff_iff]; simp; omega
 have hlen2 : decide ((e.l.length : Int) = 2) = (e.l.length == 2) := by rw [Bool.eq_iff_iff]; simp; omega
 have e45 : (⟨#[45]⟩ : ByteArray) = str [45] := rfl
 unfold B at *
 unfold nodeE
 by_cases k1 : e.k = 1
 ·rw [if_neg (by simp [k1]), if_pos k1]
  simp only [vcA, seval, vV, bmV, k1, e0, beqL]
  repeat' (first | (apply And.intro) | (intro _))
  all_goals (first | (simp_all; done) | (simp only [Option.some.injEq, Prod.mk.injEq, TV.pv.injEq, PV.v.injEq, Value.bool.injEq]; rw [Bool.eq_iff_iff]; simp_all <;> omega))
 by_cases n0 : e.n = 0
 ·rw [if_neg (by simp [n0]), if_neg k1]
  by_cases k2 : e.k = 2
  ·rw [if_pos k2]
   simp only [vcA, seval, vV, bmV, k2, n0]
   (with_reducible apply v_call); (· simp only [vcA, seval, vV]; with_reducible rfl); (· rfl); (· exact HT); (· first | rfl | (simp only [vcA, seval]; omega)); (· simp only [vcA, seval, vV]; with_reducible rfl)
   cases z8 e.s
   ·simp only [vcA, seval, vV, bmV]
   ·simp only [vcA, seval, vV, bmV, hlen0, Bool.true_and]
  rw [if_neg k2]
  by_cases k3 : e.k = 3
  ·rw [if_pos k3]
   simp only [vcA, seval, vV, bmV, k3, n0]
   (with_reducible apply v_call); (· simp only [vcA, seval, vV]; with_reducible rfl); (· rfl); (· exact HN); (· first | rfl | (simp only [vcA, seval]; omega)); (· simp only [vcA, seval, vV]; with_reducible rfl)
   cases z16 e.s
   ·simp only [vcA, seval, vV, bmV]
   ·simp only [vcA, seval, vV, bmV, hlen0, Bool.true_and]
  rw [if_neg k3]
  by_cases k4 : e.k = 4
  ·rw [if_pos k4]
   simp only [vcA, seval, vV, bmV, k4, n0]
   refine ⟨fun h => ?_, fun h => ?_⟩
   ·rw [decide_eq_true h, hlen2, Bool.true_and]
   ·rw [decide_eq_false h, Bool.false_and]
  rw [if_neg k4]
  by_cases k5 : e.k = 5
  ·rw [if_pos k5]
   simp only [vcA, seval, vV, bmV, k5, n0, e45]
   cases e.s == [45]
   ·simp only [vcA, seval, vV, bmV]
   ·simp only [vcA, seval, vV, bmV, hlen1, Bool.true_and]
  rw [if_neg k5]
  by_cases k6 : e.k = 6
  ·rw [if_pos k6]
   simp only [vcA, seval, vV, bmV, k6, n0]
   (with_reducible apply v_call); (· simp only [vcA, seval, vV]; with_reducible rfl); (· rfl); (· exact HK); (· first | rfl | (simp only [vcA, seval]; omega)); (· simp only [vcA, seval, vV]; with_reducible rfl)
   simp only [vcA, seval, vV, bmV]
   refine ⟨fun h => ?_, fun h => ?_⟩
   ·(with_reducible apply v_call); (· simp only [vcA, seval, vV]; with_reducible rfl); (· rfl); (· exact HK); (· first | rfl | (simp only [vcA, seval]; omega)); (· simp only [vcA, seval, vV]; with_reducible rfl)
    simp only [vcA, seval, vV, bmV, h]
   ·rw [decide_eq_false h, Bool.false_and]
  ·rw [if_neg k6]
   simp only [vcA, seval, vV, bmV, k1, k2, k3, k4, k5, k6, n0]
 ·rw [if_pos ⟨k1, n0⟩]
  simp only [vcA, seval, vV, bmV, k1, n0]
end Go.Proofs.YtmiokadmddjccaaGreatDoor
end

section
namespace Go.Mor
open Go
set_option maxHeartbeats 2000000
theorem readP_txt {l : List UInt8} {p : Nat} {q : Pc} {z : Nat} (h : readP l p = some (q, z)) : q.s.length ≤ 60 := by
 have hq : ∀ (r acc : List UInt8) (k : Nat) (t : List UInt8) (z : Nat), quoG r acc k = some (t, z) → t.length ≤ 60 := by
  intro r
  induction r using (measure List.length).wf.induction with
  | _ r ih =>
   intro acc k t z h
   cases r with
   | nil => simp [quoG] at h
   | cons b r =>
    unfold quoG at h
    split at h
    ·split at h
     ·rename_i hr
      cases h
      unfold z8 at hr
      simp at hr
      exact hr.1
     ·cases h
    ·split at h
     ·split at h
      ·cases h
      ·rename_i c r'
       split at h
       ·exact ih r' (show r'.length < _ by simp; omega) _ _ _ _ h
       ·cases h
     ·exact ih r (show r.length < _ by simp) _ _ _ _ h
 cases l with
 | nil => simp [readP] at h
 | cons b r =>
  unfold readP at h
  simp only [] at h
  split at h
  ·split at h
   ·cases h
   ·cases h; simp
  ·split at h
   ·split at h
    ·rename_i hr
     cases h
     unfold z16 at hr
     simp only [Bool.and_eq_true, decide_eq_true_eq] at hr
     show (List.take _ _).length ≤ 60
     omega
    ·cases h
   ·split at h
    ·split at h
     ·rename_i t k hk
      cases h
      exact hq _ _ _ _ _ hk
     ·cases h
    ·split at h
     ·cases h
     ·cases h
      have : (signP (b :: r)).length ≤ 2 := by
       unfold signP
       repeat' split
       all_goals simp
      show (signP (b :: r)).length ≤ 60
      omega
theorem z158 : ∀ (f : Nat) (l : List UInt8) (a : Nat) (acc L : List Pc), (∀ q ∈ acc, q.s.length ≤ 60) → lexG f l a acc = some (.ok L) → (∀ q ∈ L, q.s.length ≤ 60) ∧ L.length ≤ acc.length + f
 | 0, l, a, acc, L, _, h => by simp [lexG] at h
 | f + 1, l, a, acc, L, ha, h => by
  unfold lexG at h
  split at h
  ·cases h; exact ⟨ha, by omega⟩
  ·split at h
   ·have := z158 f _ _ _ _ ha h
    exact ⟨this.1, by omega⟩
   ·split at h
    ·cases h
    ·rename_i q z hq
     have := z158 f _ _ _ _ (fun x hx => by
      rcases List.mem_append.1 hx with hx | hx
      ·exact ha x hx
      ·rw [List.mem_singleton] at hx; subst hx; exact readP_txt hq) h
     exact ⟨this.1, by have := this.2; simp only [List.length_append, List.length_singleton] at this; omega⟩
theorem pk_txt {L : List Pc} (h : ∀ q ∈ L, q.s.length ≤ 60) (sz p : Nat) : (pkP L sz p).s.length ≤ 60 := by
 unfold pkP
 cases hp : L[p]? with
 | none => simp
 | some q => exact h q (List.mem_of_getElem? hp)
theorem takes_3 (s : List UInt8) : 0 ≤ takesV s ∧ takesV s ≤ 3 := by
 unfold takesV
 repeat' split
 all_goals omega
end Go.Mor
end

section
namespace Go.Proofs.YtmiokadmddjccaaGreatDoor
open Go Go.RowKit Go.Mor Go.Sh Go.Sh.Cd1 Go.Sh.Cd4 Go.Sh.Cd5
set_option maxRecDepth 100000
set_option maxHeartbeats 4000000
def rtL (r : V → Nat → Bool × Nat) : List V → Nat → Bool × Nat
 | [], n => (true, n)
 | x :: l, n => match r x n with
  | (true, n') => rtL r l n'
  | (false, n') => (false, n')
def rt : Nat → V → Nat → Bool × Nat
 | 0, _, n => (false, n + 1)
 | d + 1, e, n => if n + 1 ≤ 40 ∧ nodeE e = true then rtL (rt d) e.l (n + 1) else (false, n + 1)
theorem rtL_eq {d : Nat} (ih : ∀ (e : V) (n : Nat), n ≤ 40 → ((rt d e n).1 = (okE d e && decide (n + szE d e ≤ 40)) ∧ ((rt d e n).1 = true → (rt d e n).2 = n + szE d e))) :
  ∀ (l : List V) (n : Nat), n ≤ 40 → ((rtL (rt d) l n).1 = (l.all (okE d) && decide (n + (l.map (szE d)).sum ≤ 40)) ∧ ((rtL (rt d) l n).1 = true → (rtL (rt d) l n).2 = n + (l.map (szE d)).sum)) := by
 intro l
 induction l with
 | nil => intro n hn; simp [rtL, hn]
 | cons x l il =>
  intro n hn
  have hx := ih x n hn
  unfold rtL
  rcases hr : rt d x n with ⟨b, n'⟩
  rw [hr] at hx
  simp only at hx
  cases b
  ·simp only [List.all_cons, List.map_cons, List.sum_cons]
   refine ⟨?_, fun h => by simp at h⟩
   have h1 := hx.1
   cases ho : okE d x
   ·simp
   ·rw [ho, Bool.true_and] at h1
    have h2 : ¬ n + szE d x ≤ 40 := by intro h; rw [decide_eq_true h] at h1; exact absurd h1 (by simp)
    rw [decide_eq_false (by omega)]; simp
  ·have h1 := hx.1
   have h2 := hx.2 rfl
   cases ho : okE d x
   ·rw [ho] at h1; simp at h1
   rw [ho, Bool.true_and] at h1
   have h3 : n + szE d x ≤ 40 := of_decide_eq_true h1.symm
   subst h2
   have := il (n + szE d x) h3
   simp only [List.all_cons, List.map_cons, List.sum_cons, ho, Bool.true_and]
   rw [← Nat.add_assoc]
   exact this
theorem rt_eq : ∀ (d : Nat) (e : V) (n : Nat), n ≤ 40 → ((rt d e n).1 = (okE d e && decide (n + szE d e ≤ 40)) ∧ ((rt d e n).1 = true → (rt d e n).2 = n + szE d e)) := by
 intro d
 induction d with
 | zero => intro e n hn; simp [rt, okE]
 | succ d ih =>
  intro e n hn
  unfold rt okE szE
  by_cases h1 : n + 1 ≤ 40
  ·cases h2 : nodeE e
   ·simp
   ·rw [if_pos ⟨h1, rfl⟩]
    have := rtL_eq ih e.l (n + 1) h1
    rw [Nat.add_assoc] at this
    simpa using this
  ·rw [if_neg (by omega), decide_eq_false (by omega)]; simp
theorem rt_right (e : V) : (rt 8 e 0).1 = rightE e := by
 have := (rt_eq 8 e 0 (by omega)).1
 rw [Nat.zero_add] at this
 exact this
theorem right_ok (m : Nat) : ∀ (d : Nat), d ≤ 8 → ∀ (e : V), ESmall e → ∀ (n : Nat), n ≤ 40 →
  SCalls Tryz.prog (gl0 m) 63 [.ptr 1000 0, tv e, I (9 - (d : Int))] [.box [bindM, I (n : Int)]] (B (rt d e n).1) [.box [bindM, I ((rt d e n).2 : Int)]] := by
 intro d
 induction d with
 | zero =>
  intro _ e he n hn
  refine z15 hmix tf_3 rfl rfl rfl ?_
  have w1 : IntKind.i64.wrap ((n : Int) + 1) = ((n + 1 : Nat) : Int) := by rw [wrap64 (by omega) (by omega)]; omega
  unfold rt B
  simp only [vcA, seval, vV, bmV, w1]
 | succ d ih =>
  intro hd e he n hn
  refine z15 hmix tf_3 rfl rfl rfl ?_
  have w1 : IntKind.i64.wrap ((n : Int) + 1) = ((n + 1 : Nat) : Int) := by rw [wrap64 (by omega) (by omega)]; omega
  have w2 : IntKind.i64.wrap (9 - ((d + 1 : Nat) : Int) + 1) = 9 - (d : Int) := by rw [wrap64 (by omega) (by omega)]; omega
  have d1 : ¬ (8 : Int) < 9 - ((d + 1 : Nat) : Int) := by omega
  have HN := node_ok m e he ((n + 1 : Nat) : Int)
  have HD := fun e he n hn => ih (by omega) e he n hn
  have hl := he.len
  unfold B at *
  generalize hR : rt (d + 1) e n = R
  unfold rt at hR
  by_cases d2 : (40 : Int) < ((n + 1 : Nat) : Int)
  ·rw [if_neg (by omega)] at hR
   subst hR
   simp only [vcA, seval, vV, bmV, w1, d1, d2]
  simp only [vcA, seval, vV, bmV, w1, d1, d2]
  (with_reducible apply v_call); (· simp only [vcA, seval, vV, bmV]; with_reducible rfl); (· rfl); (· exact HN); (· first | rfl | (simp only [vcA, seval]; omega)); (· simp only [vcA, seval, vV, bmV]; with_reducible rfl)
  cases hN : nodeE e
  ·rw [if_neg (by simp [hN])] at hR
   subst hR
   simp only [vcA, seval, vV, bmV]
  rw [if_pos ⟨by omega, hN⟩] at hR
  simp only [vcA, seval, vV, bmV]
  refine v_loop (σ := {x : Nat × Nat // x.1 ≤ e.l.length ∧ x.2 ≤ 40 ∧ rtL (rt d) (e.l.drop x.1) x.2 = R})
   (fun x => ⟨[(0, .ptr 1000 0), (2, I (9 - ((d + 1 : Nat) : Int))), (32, .pv (.sl 4 (V.rows e.l))), (33, I (e.l.length : Int)), (34, I (x.1.1 : Int))], [(1000, [bindM, I (x.1.2 : Int)])], [], []⟩)
   (fun x => e.l.length - x.1.1) ⟨(0, n + 1), by omega, by omega, by simpa using hR⟩ ?_ ?_
  ·apply lw_of <;> simp [leL, lk, sv, Nat.beq, I, S, ES.kill, has, drp, nilT]
  rintro ⟨⟨i, n⟩, hi, hn, hq⟩
  simp only at hi hn hq
  by_cases hlt : i < e.l.length
  ·have d1 : (i : Int) < (e.l.length : Int) := by omega
   obtain ⟨y, ey⟩ : ∃ y, e.l[i]? = some y := ⟨_, List.getElem?_eq_getElem hlt⟩
   have HY := HD y (he.sub (List.mem_of_getElem? ey)) n hn
   have w1 : IntKind.i64.wrap ((i : Int) + 1) = ((i + 1 : Nat) : Int) := by rw [wrap64 (by omega) (by omega)]; omega
   have hdr : e.l.drop i = y :: e.l.drop (i + 1) := by rw [List.drop_eq_getElem_cons hlt]; congr 1; exact (List.getElem?_eq_some_iff.1 ey).2
   rw [hdr] at hq
   unfold rtL at hq
   have hle := (rt_eq d y n hn)
   rcases hr : rt d y n with ⟨b, n'⟩
   rw [hr] at hq HY hle
   simp only at hq HY hle
   simp only [vcA, seval, vV, bmV, d1, ey, w2]
   (with_reducible apply v_call); (· simp only [vcA, seval, vV, bmV]; with_reducible rfl); (· rfl); (· exact HY); (· first | rfl | (simp only [vcA, seval]; omega)); (· simp only [vcA, seval, vV, bmV]; with_reducible rfl)
   cases b
   ·simp only at hq
    subst hq
    simp only [vcA, seval, vV, bmV]
   ·simp only at hq
    have h3 : n' ≤ 40 := by
     have h4 := hle.1
     have h5 := hle.2 rfl
     rw [eq_comm, Bool.and_eq_true] at h4
     have := of_decide_eq_true h4.2
     omega
    simp only [vcA, seval, vV, bmV, w1]
    refine z10 ⟨(i + 1, n'), by simp only; omega, h3, hq⟩ (by show e.l.length - (i + 1) < e.l.length - i; omega) ?_
    apply lw_of <;> simp [leL, lk, sv, Nat.beq, I, S, ES.kill, has, drp, nilT]
  ·have d1 : ¬ (i : Int) < (e.l.length : Int) := by omega
   obtain rfl : i = e.l.length := by omega
   rw [List.drop_length] at hq
   unfold rtL at hq
   subst hq
   simp only [vcA, seval, vV, bmV, d1]
theorem exprRight_ok (m : Nat) (e : V) (he : ESmall e) : SCalls Tryz.prog (gl0 m) 18 [tv e] [] (B (rightE e)) [] := by
 have HB := bindings_ok (gl0 m)
 have HR := right_ok m 8 (by omega) e he 0 (by omega)
 rw [rt_right] at HR
 unfold B at *
 refine z7 hmix tf_51 rfl ?_
 simp only [vcA, seval, vV, bmV]
 (with_reducible apply v_call); (· simp only [vcA, seval, vV, bmV]; with_reducible rfl); (· rfl); (· exact HB); (· first | rfl | (simp only [vcA, seval]; omega)); (· simp only [vcA, seval, vV, bmV]; with_reducible rfl)
 simp only [vcA, seval, vV, bmV]
 (with_reducible apply v_call); (· simp only [vcA, seval, vV, bmV]; with_reducible rfl); (· rfl); (· exact HR); (· first | rfl | (simp only [vcA, seval]; omega)); (· simp only [vcA, seval, vV, bmV]; with_reducible rfl)
 simp only [vcA, seval, vV, bmV]
end Go.Proofs.YtmiokadmddjccaaGreatDoor
end
