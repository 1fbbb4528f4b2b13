/- Merged texts: Vc1 Vk Zv1 Zv2 Cd4 Ze0 PSign Sy1 S20. No statement of the program is proved here. -/
import Derived.Test.YtcpaleaajdilgaaGreatDoorQ13
import Derived.Test.YtcpaleaajdilgaaGreatDoorQ14
set_option linter.unusedSimpArgs false
set_option linter.unusedVariables false
set_option maxRecDepth 100000
set_option maxHeartbeats 8000000
section
namespace Go.Sh
open Go Go.RowKit Go.Mor
theorem vcA:type_of%(wa8 (wa8 (wa8 @iOf @u8f @u8g @u8h @arO @bFT @bTF @ES.fgt.eq_1) (wa8 @List.map_cons.{0,0} @List.map_nil.{0,0} @fgt3.eq_1 @TV.m3.eq_1 @TV.m3.eq_2 @TV.m2.eq_1 @TV.m2.eq_2 @TV.m1.eq_1) (wa8 @TV.m1.eq_2 @TV.m0.eq_1 @TV.m0.eq_2 @TV.m0.eq_3 @TV.m0.eq_4 @TV.m0.eq_5 @TV.m0.eq_6 @TV.m0.eq_7) (wa8 @TV.mF.eq_1 @TV.mF.eq_2 @TV.mE.eq_1 @TV.mE.eq_2 @TV.idsF.eq_1 @TV.idsF.eq_2 @TV.idsE.eq_1 @TV.idsE.eq_2) (wa8 @TV.renF.eq_1 @TV.renF.eq_2 @TV.renE.eq_1 @TV.renE.eq_2 @List.any_cons.{0} @List.any_nil.{0} @Bool.or_false @Bool.false_or) (wa8 @drp.eq_1 @drp.eq_2 @effG.eq_1 @effF.eq_1 @footOk.eq_1 @SOp.foot.eq_1 @SOp.foot.eq_2 @SOp.foot.eq_3) (wa8 @SOp.foot.eq_4 @only.eq_1 @only.eq_2 @isK.eq_1 @isK.eq_2 @eff.eq_1 @eff.eq_2 @eff.eq_3) (wa8 @eff.eq_4 @eff.eq_5 @eff.eq_6 @eff.eq_7 @eff.eq_8 @eff.eq_9 @eff.eq_11 @eff.eq_12)) (wa8 (wa8 @eff.eq_13 @eff.eq_14 @eff.eq_15 @eff.eq_16 @eff.eq_17 @eff.eq_18 @eff.eq_19 @eff.eq_20) (wa8 @eff.eq_21 @eff.eq_22 @eff.eq_23 @eff.eq_25 @eff.eq_28 @eff.eq_31 @eff.eq_32 @eff.eq_33) (wa8 @eff.eq_34 @eff.eq_35 @eff.eq_44 @eff.eq_45 @Arg.get.eq_1 @Arg.get.eq_2 @ES.fs.eq_1 @lk.eq_1) (wa8 @lk.eq_2 @Option.map_some.{0,0} @Option.bind_some.{0,0} @ES.after.eq_1 @ES.upd.eq_1 @ES.upd.eq_2 @ES.upd.eq_3 @ES.upd.eq_4) (wa8 @ES.upd.eq_5 @ES.upd.eq_6 @ES.upd.eq_7 @ES.put.eq_1 @ES.put.eq_2 @sv.eq_1 @sv.eq_2 @ES.kill.eq_1) (wa8 @ES.kill.eq_2 @has.eq_1 @has.eq_2 @nbeq @nble @nblt @TV.val.eq_1 @TV.val.eq_2) (wa8 @TV.val1.eq_1 @TV.val1.eq_2 @TV.int.eq_1 @TV.int.eq_2 @TV.str.eq_1 @TV.str.eq_2 @TV.cells.eq_1 @TV.cells.eq_2) (wa8 @TV.cells.eq_3 @TV.cells.eq_4 @TV.cells.eq_5 @TV.slen.eq_1 @TV.slen.eq_2 @TV.slen.eq_3 @TV.slen.eq_4 @TV.slen.eq_5)) (wa8 (wa8 @TV.toPV.eq_1 @TV.toPV.eq_2 @TV.toPV.eq_3 @TV.pvs.eq_1 @seqO.eq_1 @seqO.eq_2 @bin_lss @bin_gtr) (wa8 @bin_leq @bin_geq @bin_eql @bin_neq @bin_add @bin_sub @bin_mul @sbin_eql) (wa8 @sbin_neq @sbin_lss @sbin_gtr @un_neg @un_not @startE.eq_1 @numT.eq_1 @numT.eq_2) (wa8 @numB.eq_1 @numB.eq_2 @numB.eq_3 @numR.eq_1 @numR.eq_2 @numR.eq_3 @ansW.eq_1 @ansW.eq_2) (wa8 @resT.eq_1 @resT.eq_2 @SRes.get.eq_1 @SRes.get.eq_2 @List.flatMap_nil.{0,0} @List.flatMap_cons.{0,0} @List.append_nil.{0} @List.nil_append.{0}) (wa8 @TV.ids3.eq_1 @TV.ids3.eq_2 @TV.ids2.eq_1 @TV.ids2.eq_2 @TV.ids1.eq_1 @TV.ids1.eq_2 @TV.ids0.eq_1 @TV.ids0.eq_2) (wa8 @TV.ids0.eq_3 @TV.ids0.eq_4 @TV.ren3.eq_1 @TV.ren3.eq_2 @TV.ren2.eq_1 @TV.ren2.eq_2 @TV.ren1.eq_1 @TV.ren1.eq_2) (wa8 @TV.ren0.eq_1 @TV.ren0.eq_2 @TV.ren0.eq_3 @TV.ren0.eq_4 @TV.ren0.eq_5 @TV.ren0.eq_6 @bound.eq_1 @bound.eq_2)) (wa8 (wa8 @if_true.{1} @if_false.{1} @Bool.false_eq_true @partsT.eq_1 @fillT.eq_1 @fillT.eq_2 @splice.eq_1 @List.take_zero.{0}) (wa8 @List.take_succ_cons.{0} @List.drop_zero.{0} @List.drop_succ_cons.{0} @List.length_cons.{0} @List.length_nil.{0} @and_self @and_true @true_and) (wa8 @List.cons_append.{0} @List.getElem?_cons_zero.{0} @List.getElem?_cons_succ.{0} @Nat.zero_add @Bool.not_true @Bool.not_false @Go.Value.oneCell'.eq_1 @Go.Value.oneCell'.eq_2) (wa8 @Go.Value.oneCell'.eq_3 @Go.Mor.str_toList @Go.Mor.str_size' @Int.toNat_natCast @decide_true @decide_false @beq_self_eq_true.{0} @handI.eq_1) (wa8 @FS.mo.eq_1 @MO.ren.eq_1 @MO.ren.eq_2 @rhoIn.eq_1 @pos.eq_1 @pos.eq_2 @rhoOut.eq_1 @outs.eq_1) (wa8 @outs.eq_2 @newId.eq_1 @dstId.eq_1 @dstId.eq_2 @putMem.eq_1 @putMem.eq_2 @List.lookup.eq_1.{0,0} @List.lookup.eq_2.{0,0}) (wa8 @moOk.eq_1 @moOk.eq_2 @moOk.eq_3 @moOk.eq_4 @Nat.le_refl @Int.natCast_nonneg @v_skip @v_seq) (wa8 @v_exit @v_ret @v_block @v_cond @v_reg @v_reg2 @v_nil @v_regK)) (wa8 (wa8 @v_skipK @v_op @v_guard @gW @gW_u @PostR.eq_1 @PostR.eq_2 @PostR.eq_3) (wa8 @PostR.eq_4 @exitR.eq_1 @exitF.eq_1 @idsFrom.eq_1 @idsFrom.eq_2 @gW_undef @Nat.sub_zero @gW_i) (wa8 @gK_T1 @gK_T0 @gK_F1 @gK_F0 @gK_d1 @gK_d0 @gK_n1 @gK_n0) (wa8 @v_then_n @v_then_r @v_then_x @v_blk_n @v_blk_r @v_blk_x @s_some @s_none) (wa8 @s_ite @s_get @bW_T @bW_F @bW_d @bW_n @bW_a @bW_o) (wa8 @bK @callIn.eq_1 @callOut.eq_1 @callvIn.eq_1 @TV.callee.eq_1 @TV.callee.eq_2 @TV.callee.eq_3 @TV.callee.eq_4) (wa8 @Post0.eq_1 @Post0.eq_2 @Post0.eq_3 @Post0.eq_4 @Post1.eq_1 @Post1.eq_2 @Post1.eq_3 @Post1.eq_4) (wa8 @ansW1.eq_1 @ansW1.eq_2 @bin_quoI @bin_remI @sbin_addI @TV.elems.eq_1 @TV.elems.eq_2 @TV.elems.eq_3)) (wa8 (wa8 @TV.elems.eq_4 @TV.isNil.eq_1 @TV.isNil.eq_2 @List.all_cons.{0} @List.all_nil.{0} @Bool.and_true @Bool.true_and @Bool.and_false) (wa8 @Bool.false_and @Bool.and_self @ne_eq.{1} @not_false_eq_true @not_true_eq_false @false_and @and_false @or_false) (wa8 @or_self @false_or @imp_self @forall_const.{0} @Option.isNone_none.{0} @List.getElem?_nil.{0} @decide_eq_true_eq @eq_self.{1}) (wa8 @Go.Mor.str_list @Go.Mor.str_append @Go.Mor.str_extract @List.getElem?_map.{0,0} @Option.map_map.{0,0,0} @List.length_map.{0,0} @Function.comp_apply.{1,1,1} @List.length_append.{0}) (wa8 @List.length_set.{0} @List.set_cons_zero.{0} @List.set_cons_succ.{0} @imp_false @Decidable.not_not @e_ssub @e_ssub1 @e_ssub2) (wa8 @e_ssub3 @e_ssub4 @e_sub @e_sub1 @e_sub2 @e_sub3 @e_sub4 @e_subT1) (wa8 @e_subT2 @e_subT3 @e_appB @e_appB1 @e_appN @e_appN1 @e_appN2 @e_appNS) (wa8 @e_appNS1 @e_appNS2 @e_rng @e_rng1 @e_mks @e_mks1 @e_bslO @e_bslO1)) (wa8 (wa8 @e_nxt @e_nxt1 @e_nxt2 @s_ite2 @reach_nil @reach_cons @reach_m1 @reach_m2) (wa8 @reach_m3 @reach_m4 @Option.map_none.{0,0} @Option.bind_none.{0,0} @nc_mov @nc_pick @nc_bin @nc_un) (wa8 @nc_cvi @nc_cvs @nc_b2s @nc_imm @nc_sidx @nc_ssub @nc_slen @nc_new) (wa8 @nc_box @nc_build @nc_bsl @nc_bslO @nc_fld @nc_fldA @nc_ld @nc_st) (wa8 @nc_len @nc_idxA @nc_sub @nc_app @nc_appS @nc_appN @nc_appNS @nc_appB) (wa8 @nc_ext @nc_nchk @nc_mkf @nc_rng @nc_nxt @nc_mks @nc_lkp @nc_mkI) (wa8 @nc_fnil @e_fnil @e_fnil1 @e_fnil2 @e_fnil3 @e_fnil4 @nc_pan @e_lkp) (wa8 @e_lkp1 @e_lkp2 @e_lkp3 @findKs.eq_1 @findKs.eq_2 @kdOf.eq_1 @zeroT.eq_1 @zeroT.eq_2)) (wa7 (wa8 @v_then_p @v_blk_p @v_panK @sp_some @sp_get @sp_ite @dstOps.eq_1 @List.filterMap_cons.{0,0}) (wa8 @List.filterMap_nil.{0,0} @PostP.eq_1 @PostP.eq_2 @vp_opE @vp_panE @panW1 @np_mov @np_pick) (wa8 @np_bin @np_un @np_cvi @np_cvs @np_b2s @np_imm @np_sidx @np_ssub) (wa8 @np_slen @np_new @np_box @np_build @np_bsl @np_bslO @np_fld @np_fldA) (wa8 @np_ld @np_st @np_len @np_idxA @np_sub @np_app @np_appS @np_appN) (wa8 @np_appNS @np_appB @np_ext @np_nchk @np_mkf @np_rng @np_nxt @np_mks) (wa3 @np_lkp @np_mkI @np_fnil))):=wa8 (wa8 (wa8 @iOf @u8f @u8g @u8h @arO @bFT @bTF @ES.fgt.eq_1) (wa8 @List.map_cons.{0,0} @List.map_nil.{0,0} @fgt3.eq_1 @TV.m3.eq_1 @TV.m3.eq_2 @TV.m2.eq_1 @TV.m2.eq_2 @TV.m1.eq_1) (wa8 @TV.m1.eq_2 @TV.m0.eq_1 @TV.m0.eq_2 @TV.m0.eq_3 @TV.m0.eq_4 @TV.m0.eq_5 @TV.m0.eq_6 @TV.m0.eq_7) (wa8 @TV.mF.eq_1 @TV.mF.eq_2 @TV.mE.eq_1 @TV.mE.eq_2 @TV.idsF.eq_1 @TV.idsF.eq_2 @TV.idsE.eq_1 @TV.idsE.eq_2) (wa8 @TV.renF.eq_1 @TV.renF.eq_2 @TV.renE.eq_1 @TV.renE.eq_2 @List.any_cons.{0} @List.any_nil.{0} @Bool.or_false @Bool.false_or) (wa8 @drp.eq_1 @drp.eq_2 @effG.eq_1 @effF.eq_1 @footOk.eq_1 @SOp.foot.eq_1 @SOp.foot.eq_2 @SOp.foot.eq_3) (wa8 @SOp.foot.eq_4 @only.eq_1 @only.eq_2 @isK.eq_1 @isK.eq_2 @eff.eq_1 @eff.eq_2 @eff.eq_3) (wa8 @eff.eq_4 @eff.eq_5 @eff.eq_6 @eff.eq_7 @eff.eq_8 @eff.eq_9 @eff.eq_11 @eff.eq_12)) (wa8 (wa8 @eff.eq_13 @eff.eq_14 @eff.eq_15 @eff.eq_16 @eff.eq_17 @eff.eq_18 @eff.eq_19 @eff.eq_20) (wa8 @eff.eq_21 @eff.eq_22 @eff.eq_23 @eff.eq_25 @eff.eq_28 @eff.eq_31 @eff.eq_32 @eff.eq_33) (wa8 @eff.eq_34 @eff.eq_35 @eff.eq_44 @eff.eq_45 @Arg.get.eq_1 @Arg.get.eq_2 @ES.fs.eq_1 @lk.eq_1) (wa8 @lk.eq_2 @Option.map_some.{0,0} @Option.bind_some.{0,0} @ES.after.eq_1 @ES.upd.eq_1 @ES.upd.eq_2 @ES.upd.eq_3 @ES.upd.eq_4) (wa8 @ES.upd.eq_5 @ES.upd.eq_6 @ES.upd.eq_7 @ES.put.eq_1 @ES.put.eq_2 @sv.eq_1 @sv.eq_2 @ES.kill.eq_1) (wa8 @ES.kill.eq_2 @has.eq_1 @has.eq_2 @nbeq @nble @nblt @TV.val.eq_1 @TV.val.eq_2) (wa8 @TV.val1.eq_1 @TV.val1.eq_2 @TV.int.eq_1 @TV.int.eq_2 @TV.str.eq_1 @TV.str.eq_2 @TV.cells.eq_1 @TV.cells.eq_2) (wa8 @TV.cells.eq_3 @TV.cells.eq_4 @TV.cells.eq_5 @TV.slen.eq_1 @TV.slen.eq_2 @TV.slen.eq_3 @TV.slen.eq_4 @TV.slen.eq_5)) (wa8 (wa8 @TV.toPV.eq_1 @TV.toPV.eq_2 @TV.toPV.eq_3 @TV.pvs.eq_1 @seqO.eq_1 @seqO.eq_2 @bin_lss @bin_gtr) (wa8 @bin_leq @bin_geq @bin_eql @bin_neq @bin_add @bin_sub @bin_mul @sbin_eql) (wa8 @sbin_neq @sbin_lss @sbin_gtr @un_neg @un_not @startE.eq_1 @numT.eq_1 @numT.eq_2) (wa8 @numB.eq_1 @numB.eq_2 @numB.eq_3 @numR.eq_1 @numR.eq_2 @numR.eq_3 @ansW.eq_1 @ansW.eq_2) (wa8 @resT.eq_1 @resT.eq_2 @SRes.get.eq_1 @SRes.get.eq_2 @List.flatMap_nil.{0,0} @List.flatMap_cons.{0,0} @List.append_nil.{0} @List.nil_append.{0}) (wa8 @TV.ids3.eq_1 @TV.ids3.eq_2 @TV.ids2.eq_1 @TV.ids2.eq_2 @TV.ids1.eq_1 @TV.ids1.eq_2 @TV.ids0.eq_1 @TV.ids0.eq_2) (wa8 @TV.ids0.eq_3 @TV.ids0.eq_4 @TV.ren3.eq_1 @TV.ren3.eq_2 @TV.ren2.eq_1 @TV.ren2.eq_2 @TV.ren1.eq_1 @TV.ren1.eq_2) (wa8 @TV.ren0.eq_1 @TV.ren0.eq_2 @TV.ren0.eq_3 @TV.ren0.eq_4 @TV.ren0.eq_5 @TV.ren0.eq_6 @bound.eq_1 @bound.eq_2)) (wa8 (wa8 @if_true.{1} @if_false.{1} @Bool.false_eq_true @partsT.eq_1 @fillT.eq_1 @fillT.eq_2 @splice.eq_1 @List.take_zero.{0}) (wa8 @List.take_succ_cons.{0} @List.drop_zero.{0} @List.drop_succ_cons.{0} @List.length_cons.{0} @List.length_nil.{0} @and_self @and_true @true_and) (wa8 @List.cons_append.{0} @List.getElem?_cons_zero.{0} @List.getElem?_cons_succ.{0} @Nat.zero_add @Bool.not_true @Bool.not_false @Go.Value.oneCell'.eq_1 @Go.Value.oneCell'.eq_2) (wa8 @Go.Value.oneCell'.eq_3 @Go.Mor.str_toList @Go.Mor.str_size' @Int.toNat_natCast @decide_true @decide_false @beq_self_eq_true.{0} @handI.eq_1) (wa8 @FS.mo.eq_1 @MO.ren.eq_1 @MO.ren.eq_2 @rhoIn.eq_1 @pos.eq_1 @pos.eq_2 @rhoOut.eq_1 @outs.eq_1) (wa8 @outs.eq_2 @newId.eq_1 @dstId.eq_1 @dstId.eq_2 @putMem.eq_1 @putMem.eq_2 @List.lookup.eq_1.{0,0} @List.lookup.eq_2.{0,0}) (wa8 @moOk.eq_1 @moOk.eq_2 @moOk.eq_3 @moOk.eq_4 @Nat.le_refl @Int.natCast_nonneg @v_skip @v_seq) (wa8 @v_exit @v_ret @v_block @v_cond @v_reg @v_reg2 @v_nil @v_regK)) (wa8 (wa8 @v_skipK @v_op @v_guard @gW @gW_u @PostR.eq_1 @PostR.eq_2 @PostR.eq_3) (wa8 @PostR.eq_4 @exitR.eq_1 @exitF.eq_1 @idsFrom.eq_1 @idsFrom.eq_2 @gW_undef @Nat.sub_zero @gW_i) (wa8 @gK_T1 @gK_T0 @gK_F1 @gK_F0 @gK_d1 @gK_d0 @gK_n1 @gK_n0) (wa8 @v_then_n @v_then_r @v_then_x @v_blk_n @v_blk_r @v_blk_x @s_some @s_none) (wa8 @s_ite @s_get @bW_T @bW_F @bW_d @bW_n @bW_a @bW_o) (wa8 @bK @callIn.eq_1 @callOut.eq_1 @callvIn.eq_1 @TV.callee.eq_1 @TV.callee.eq_2 @TV.callee.eq_3 @TV.callee.eq_4) (wa8 @Post0.eq_1 @Post0.eq_2 @Post0.eq_3 @Post0.eq_4 @Post1.eq_1 @Post1.eq_2 @Post1.eq_3 @Post1.eq_4) (wa8 @ansW1.eq_1 @ansW1.eq_2 @bin_quoI @bin_remI @sbin_addI @TV.elems.eq_1 @TV.elems.eq_2 @TV.elems.eq_3)) (wa8 (wa8 @TV.elems.eq_4 @TV.isNil.eq_1 @TV.isNil.eq_2 @List.all_cons.{0} @List.all_nil.{0} @Bool.and_true @Bool.true_and @Bool.and_false) (wa8 @Bool.false_and @Bool.and_self @ne_eq.{1} @not_false_eq_true @not_true_eq_false @false_and @and_false @or_false) (wa8 @or_self @false_or @imp_self @forall_const.{0} @Option.isNone_none.{0} @List.getElem?_nil.{0} @decide_eq_true_eq @eq_self.{1}) (wa8 @Go.Mor.str_list @Go.Mor.str_append @Go.Mor.str_extract @List.getElem?_map.{0,0} @Option.map_map.{0,0,0} @List.length_map.{0,0} @Function.comp_apply.{1,1,1} @List.length_append.{0}) (wa8 @List.length_set.{0} @List.set_cons_zero.{0} @List.set_cons_succ.{0} @imp_false @Decidable.not_not @e_ssub @e_ssub1 @e_ssub2) (wa8 @e_ssub3 @e_ssub4 @e_sub @e_sub1 @e_sub2 @e_sub3 @e_sub4 @e_subT1) (wa8 @e_subT2 @e_subT3 @e_appB @e_appB1 @e_appN @e_appN1 @e_appN2 @e_appNS) (wa8 @e_appNS1 @e_appNS2 @e_rng @e_rng1 @e_mks @e_mks1 @e_bslO @e_bslO1)) (wa8 (wa8 @e_nxt @e_nxt1 @e_nxt2 @s_ite2 @reach_nil @reach_cons @reach_m1 @reach_m2) (wa8 @reach_m3 @reach_m4 @Option.map_none.{0,0} @Option.bind_none.{0,0} @nc_mov @nc_pick @nc_bin @nc_un) (wa8 @nc_cvi @nc_cvs @nc_b2s @nc_imm @nc_sidx @nc_ssub @nc_slen @nc_new) (wa8 @nc_box @nc_build @nc_bsl @nc_bslO @nc_fld @nc_fldA @nc_ld @nc_st) (wa8 @nc_len @nc_idxA @nc_sub @nc_app @nc_appS @nc_appN @nc_appNS @nc_appB) (wa8 @nc_ext @nc_nchk @nc_mkf @nc_rng @nc_nxt @nc_mks @nc_lkp @nc_mkI) (wa8 @nc_fnil @e_fnil @e_fnil1 @e_fnil2 @e_fnil3 @e_fnil4 @nc_pan @e_lkp) (wa8 @e_lkp1 @e_lkp2 @e_lkp3 @findKs.eq_1 @findKs.eq_2 @kdOf.eq_1 @zeroT.eq_1 @zeroT.eq_2)) (wa7 (wa8 @v_then_p @v_blk_p @v_panK @sp_some @sp_get @sp_ite @dstOps.eq_1 @List.filterMap_cons.{0,0}) (wa8 @List.filterMap_nil.{0,0} @PostP.eq_1 @PostP.eq_2 @vp_opE @vp_panE @panW1 @np_mov @np_pick) (wa8 @np_bin @np_un @np_cvi @np_cvs @np_b2s @np_imm @np_sidx @np_ssub) (wa8 @np_slen @np_new @np_box @np_build @np_bsl @np_bslO @np_fld @np_fldA) (wa8 @np_ld @np_st @np_len @np_idxA @np_sub @np_app @np_appS @np_appN) (wa8 @np_appNS @np_appB @np_ext @np_nchk @np_mkf @np_rng @np_nxt @np_mks) (wa3 @np_lkp @np_mkI @np_fnil))
end Go.Sh
end

section
namespace Go.Proofs.YtcpaleaajdilgaaGreatDoor
open Go Go.RowKit Go.Mor Go.Sh
abbrev zC:=SCalls Tryz.prog
theorem vW:type_of%vcA∧type_of%vV:=⟨vcA,vV⟩
theorem bS(l:zB):(⟨l.toArray⟩:ByteArray)=str l:=rfl
theorem wG{x y:Int}(h:x=y:=by omega)(h0: -9223372036854775808≤x:=by omega)(h1:x≤9223372036854775807:=by omega):IntKind.i64.wrap x=y:=by rw[wrap64 h0 h1,h]
theorem wS(i:Nat)(h:(i:Int)≤9223372036854775806:=by omega):IntKind.i64.wrap ((i:Int)+1)=((i+1:Nat):Int):=wG
theorem lwA{s0 s:ES}(h:s0.Lw s:=by apply z06<;>simp[leL,lk,sv,Nat.beq,I,S,ES.kill,has,drp,zK]):s0.Lw s:=h
section
variable{g:Sh.Glob}{f:Nat}{H:Nat→Option Nat→Nat}{Fp:Nat→List (Nat→Option Nat)}{K:Nat→List Nat}{keep:Bool}{F:SFunc}{xs:List TV}{os os':List MO}{y:TV}{G:Prop}{c:SCode}
theorem za(hF:z0e Tryz.prog f H Fp K keep=some F)(h:swp Tryz.prog g c (Post0 F.res y) (startE xs []))(hn:Nat.ble xs.length F.N=true:=by rfl)(hc:F.code=c:=by conv=>lhs;reduce):zC g f xs [] y []:=
 z5C zf hF hn (hc▸h)
theorem z0s(hF:z0e Tryz.prog f H Fp K keep=some F)(h:G)(hn:Nat.ble xs.length F.N=true:=by rfl)(hc:F.code=c:=by conv=>lhs;reduce)(hr:swp Tryz.prog g c (Post0 F.res y) (startE xs [])=G:=by simp only[vW,seval];rfl):zC g f xs [] y []:=
 z5C zf hF hn (hc▸hr▸h)
theorem z2X(hF:z0e Tryz.prog f H Fp K false=some F)(h:swp Tryz.prog g c (Post1 F.res y) (startE xs []))(hk:F.keep=false:=by rfl)(hn:Nat.ble xs.length F.N=true:=by rfl)(hc:F.code=c:=by conv=>lhs;reduce):zC g f xs [] y []:=
 zdK zf hF hk hn (hc▸h)
theorem z9y(hF:z0e Tryz.prog f H Fp K false=some F)(h:G)(hk:F.keep=false:=by rfl)(hn:Nat.ble xs.length F.N=true:=by rfl)(hc:F.code=c:=by conv=>lhs;reduce)(hr:swp Tryz.prog g c (Post1 F.res y) (startE xs [])=G:=by simp only[vW,seval];rfl):zC g f xs [] y []:=
 zdK zf hF hk hn (hc▸hr▸h)
theorem zp(hF:z0e Tryz.prog f H Fp K keep=some F)(h:swp Tryz.prog g c (PostR F.res F.keep os.length y os') (startE xs os))(hn:Nat.ble xs.length F.N=true:=by rfl)(hos:Nat.ble os.length 1000=true:=by rfl)(hmo:moOk os os'=true:=by rfl)(hc:F.code=c:=by conv=>lhs;reduce):zC g f xs os y os':=
 z94 zf hF hn hos hmo (hc▸h)
theorem zgL(hF:z0e Tryz.prog f H Fp K keep=some F)(h:G)(hn:Nat.ble xs.length F.N=true:=by rfl)(hos:Nat.ble os.length 1000=true:=by rfl)(hmo:moOk os os'=true:=by rfl)(hc:F.code=c:=by conv=>lhs;reduce)(hr:swp Tryz.prog g c (PostR F.res F.keep os.length y os') (startE xs os)=G:=by simp only[vW,seval];rfl):zC g f xs os y os':=
 z94 zf hF hn hos hmo (hc▸hr▸h)
end
section
variable{g:Sh.Glob}{f m:Nat}{dst fp:Option Nat}{xs:List Arg}{xs':List TV}{I:List Nat}{os os':List MO}{y:TV}{l:List SOper}{K:ES→Prop}{s s':ES}{G:Prop}
theorem z7(hc:zC g f xs' os y os')(hk:zR Tryz.prog g l K s')(hx:callIn s m xs=some (xs',os,I):=by simp only[vW,seval];rfl)(hfp:z5b fp I=true:=by rfl)(hmo:moOk os os'=true:=by first|rfl|(simp only[vcA,seval];omega))(hs:callOut s dst I y os'=some s':=by simp only[vW,seval];rfl):
  zR Tryz.prog g (⟨dst,none,fp,.call f m xs⟩::l) K s:=z05 hx hfp hc hmo hs hk
theorem z8(hc:zC g f xs' os y os')(h:G)(hx:callIn s m xs=some (xs',os,I):=by simp only[vW,seval];rfl)(hfp:z5b fp I=true:=by rfl)(hmo:moOk os os'=true:=by first|rfl|(simp only[vcA,seval];omega))(hs:callOut s dst I y os'=some s':=by simp only[vW,seval];rfl)(hr:zR Tryz.prog g l K s'=G:=by simp only[vW,seval];rfl):
  zR Tryz.prog g (⟨dst,none,fp,.call f m xs⟩::l) K s:=z05 hx hfp hc hmo hs (hr▸h)
theorem zd(hc:zC g f xs' os y os')(hx:callIn s m xs=some (xs',os,I):=by simp only[vW,seval];rfl)(hfp:z5b fp I=true:=by rfl)(hmo:moOk os os'=true:=by first|rfl|(simp only[vcA,seval];omega))(hs:callOut s dst I y os'=some s':=by simp only[vW,seval];rfl)(hr:zR Tryz.prog g l K s':=by simp only[vW,seval]):
  zR Tryz.prog g (⟨dst,none,fp,.call f m xs⟩::l) K s:=z05 hx hfp hc hmo hs hr
end
end Go.Proofs.YtcpaleaajdilgaaGreatDoor
section
namespace Go.Proofs.YtcpaleaajdilgaaGreatDoor
open Go Go.Sh
theorem kv{α:Type}{a b:Option α}(h:a=b:=by simp only[vcA,seval,vV];rfl):a=b:=h
theorem km{a b:List MO}(h:moOk a b=true:=by first|rfl|(simp only[vcA,seval];omega)):moOk a b=true:=h
end Go.Proofs.YtcpaleaajdilgaaGreatDoor
end
end

section
namespace Go.Proofs.YtcpaleaajdilgaaGreatDoor
open Go Go.RowKit Go.Mor Go.Sh Go.Sh.Cd1
theorem e0:(⟨#[]⟩:ByteArray)=str []:=rfl
theorem z3i(l:zB)(p:Nat):Utf8.decode (str l) p=Lib.decodeL (l.drop p):=by rw[←Lib.decodeL_drop,str_toList]
def B(b:Bool):TV:=.pv (.v (.bool b))
theorem zm7(g:Sh.Glob)(r:Nat):zC g 159 [.pv (.v (.int .i32 (r:Int)))] [] (B (z3F r)) []:=by
 refine za tf_167 ?_;have h1:decide ((32:Int)≤(r:Int))=decide (32≤r):=by rw[Bool.eq_iff_iff];simp;omega
 have h2:decide ((r:Int)=127)=(r==127):=by rw[Bool.eq_iff_iff];simp;omega
 unfold z3F B;by_cases h:32≤r
 ·have d1:(32:Int)≤(r:Int):=by omega
  simp only[vW,seval,d1,h2,h];rfl
 ·have d1:¬(32:Int)≤(r:Int):=by omega
  simp only[vW,seval,d1,h]
theorem zc4(m:Nat)(l:zB)(hl:l.length≤9223372036854775807):zC (gl0 m) 158 [S (str l)] [] (B (Lib.validD l)) []:=by
 have:=z9T m 158 [S (str l)] [] (B (Lib.validD l)) [] (by simp[zdr,S,B,Nat.beq,str_size',hl,str_toList]);exact this
theorem zdc(m:Nat)(l:zB)(hl:l.length≤9223372036854775807):zC (gl0 m) 89 [S (str l)] [] (B (zh l)) []:=by
 refine za tf_169 ?_;have HV:=zc4 m l hl;unfold zh B at*;by_cases h60:(l.length:Int)≤60
 ·have d1:¬(60:Int)<(l.length:Int):=by omega
  have h60':l.length≤60:=by omega
  simp only[vW,seval,d1];refine z7 HV ?_;cases hv:Lib.validD l
  ·simp only[vW,seval]
  simp only[vW,seval];refine zw (σ:={p:Nat // p≤l.length∧z2V l=z2V (l.drop p)}) (fun p=>⟨[(14,.it 14)],[],[],[(14,(str l,p.1))]⟩) (fun p=>l.length-p.1) ⟨0,Nat.zero_le _,rfl⟩ (z0Y rfl) ?_;rintro⟨p,hp,hd⟩;by_cases hlt:p<l.length
  ·have hne:l.drop p≠[]:=by rw[Ne,List.drop_eq_nil_iff];omega
   rw[z4R _ hne]at hd;have hle:=Lib.decodeL_le (l.drop p) hne;have hw:=Lib.decodeL_width (l.drop p);rw[List.length_drop]at hle;have HP:=zm7 (gl0 m) (Lib.decodeL (l.drop p)).1;unfold B at HP;simp only[vW,seval,hlt,z3i];refine z7 HP ?_;cases hr:z3F (Lib.decodeL (l.drop p)).1
   ·rw[hr]at hd;simp only[vW,seval];simp[hd]
   ·simp only[vW,seval];rw[hr,Bool.true_and,List.drop_drop]at hd;refine zc ⟨p+(Lib.decodeL (l.drop p)).2,by omega,hd⟩ (by show l.length-(p+_)<l.length-p;omega) ?_;exact lwA
  ·simp only[vW,seval,hlt,h60'];have hnil:l.drop p=[]:=List.drop_eq_nil_of_le (by omega);rw[hnil]at hd;rw[hd];rfl
 ·have d1:(60:Int)<(l.length:Int):=by omega
  have h60':¬l.length≤60:=by omega
  simp only[vW,seval,d1];simp[h60']
theorem znk(g:Sh.Glob)(x:V):zC g 88 [tv x] [] (B (bare x)) []:=by
 refine za tf_163 ?_;have h1:decide ((x.l.length:Int)=0)=(x.l.length==0):=by rw[Bool.eq_iff_iff];simp
 unfold bare B;cases h:x.s==[]
 ·simp only[vW,seval,e0,h]
 ·simp only[vW,seval,e0,h,h1]
theorem zii(g:Sh.Glob)(n:Int):zC g 90 [I n] [] (B (z2A n)) []:=by
 refine za tf_168 ?_;unfold B;simp only[vW,seval];unfold z2A
 repeat' (first|(apply And.intro)|(intro _))
 all_goals(first|rfl|(simp;omega)|(simp_all;done)|(simp_all;omega))
theorem zcM(k n:Int)(s:zB)(l:List V):z0U (.mk k n s l)=if k=0 then bare (.mk k n s l)&&n==0
 else if k=1 then bare (.mk k n s l)&&decide (-1000000000000000≤n)&&decide (n≤1000000000000000)
 else if k=2 then n==0&&l.length==0&&zh s
 else if k=3∨k=4 then bare (.mk k n s l)&&z2A n
 else false:=rfl
theorem zbn(m:Nat)(x:V)(hs:z1P x)(h5:x.k≠5):zC (gl0 m) 48 [tv x] [] (B (z0U x)) []:=by
 obtain⟨k,n,s,l⟩:=x;have HB:=znk (gl0 m) (.mk k n s l);have HI:=zii (gl0 m) n;have HT:=zdc m s hs;have hln:decide ((l.length:Int)=0)=(l.length==0):=by rw[Bool.eq_iff_iff];simp
 have k5:¬k=5:=h5;clear h5 hs;rw[zcM];generalize bare (.mk k n s l)=b at HB ⊢;refine za tf_161 ?_;unfold B at*;by_cases k0:k=0
 ·subst k0;have hn0:decide (n=0)=(n==0):=by rw[Bool.eq_iff_iff];simp
  simp only[vW,seval];refine z7 HB ?_;cases b<;>simp only[vW,seval,hn0]
 rw[if_neg k0];by_cases k1:k=1
 ·subst k1;simp only[vW,seval];refine z7 HB ?_;cases b
  ·simp only[vW,seval]
  ·by_cases q1: -1000000000000000≤n<;>by_cases q2:n≤1000000000000000<;>simp only[vW,seval,q1,q2]
 rw[if_neg k1];by_cases k2:k=2
 ·subst k2;by_cases n0:n=0
  ·subst n0;cases hl:l.length==0
   ·simp only[vW,seval,hln,hl]
   ·simp only[vW,seval,hln,hl];exact zd HT
  ·have hn0:(n==0)=false:=by simpa using n0
   simp only[vW,seval,n0,hn0]
 rw[if_neg k2];by_cases k3:k=3
 ·subst k3;simp only[vW,seval];refine z7 HB ?_;cases b
  ·simp only[vW,seval]
  ·simp only[vW,seval];exact zd HI
 by_cases k4:k=4
 ·subst k4;simp only[vW,seval];refine z7 HB ?_;cases b
  ·simp only[vW,seval]
  ·simp only[vW,seval];exact zd HI
 simp only[vW,seval,k0,k1,k2,k3,k4,k5]
theorem zhK(m:Nat)(x:V)(hs:z1P x):zC (gl0 m) 92 [tv x] [] (B (z2T x)) []:=by
 refine za tf_165 ?_;unfold z2T B;by_cases k5:x.k=5
 ·have h:(x.k==5)=true:=by simp[k5]
  have d:decide (x.k=5)=true:=by simp[k5]
  simp only[vW,seval,d,h];rfl
 ·have HR:=zbn m x hs k5;have h:(x.k==5)=false:=by simpa using k5
  unfold B at HR;simp only[vW,seval,k5,h];exact zd HR
theorem z38{α:Type}(p:α→Bool):∀(l:List α) (i:Nat),(∀j x,j<i→l[j]?=some x→p x=false)→∀x,l[i]?=some x→p x=true→z0F p l=i
 |[],i,_,x,hx,_=>by simp at hx
 |a::l,0,_,x,hx,hp=>by simp at hx;subst hx;simp[z0F,List.findIdx?_cons,hp]
 |a::l,i+1,h,x,hx,hp=>by
  have h0:=h 0 a (by omega) rfl;have:=z38 p l i (fun j y hj hy=>h (j+1) y (by omega) (by simpa using hy)) x (by simpa using hx) hp;unfold z0F at this ⊢;rw[List.findIdx?_cons,h0];cases hf:l.findIdx? p with
  |none=>rw[hf]at this;simp only at this;omega
  |some q=>rw[hf]at this;simp only at this ⊢;simp;omega
theorem z39{α:Type}(p:α→Bool)(l:List α)(h:∀x∈l,p x=false):z0F p l= -1:=by
 have:l.findIdx? p=none:=List.findIdx?_eq_none_iff.2 h;unfold z0F;rw[this]
theorem z9O{α:Type}(p:α→Bool)(l:List α):decide (0≤z0F p l)=l.any p:=by
 rw[Bool.eq_iff_iff,decide_eq_true_eq,List.any_eq_true];constructor
 ·intro h;by_cases hn:∀x∈l,p x=false
  ·rw[z39 p l hn]at h;omega
  ·obtain⟨x,hx⟩:=Classical.not_forall.1 hn;obtain⟨hx,hp⟩:=Classical.not_imp.1 hx;exact⟨x,hx,by simpa using hp⟩
 ·rintro⟨x,hx,hp⟩;unfold z0F;cases hf:l.findIdx? p with
  |none=>rw[List.findIdx?_eq_none_iff.1 hf x hx]at hp;cases hp
  |some i=>simp
theorem zhA(m:Nat)(l:List V)(hl:l.length≤maxLen)(hs:∀x∈l,z1P x):zC (gl0 m) 160 [.pv (.sl 4 (V.rows l)),.pv (.v (.func (.func 92) #[] #[]))] [] (I (z0F z2T l)) []:=by
 refine za tf_156 ?_;have hm:maxLen=9223372036854775807:=rfl;simp only[vW,seval];refine zw (σ:={i:Nat // i≤l.length∧∀j x,j<i→l[j]?=some x→z2T x=false}) (fun i=>⟨[(0,.pv (.sl 4 (V.rows l))),(1,.pv (.v (.func (.func 92) #[] #[]))),(7,I (l.length:Int)),(8,I (i.1:Int))],[],[],[]⟩) (fun i=>l.length-i.1) ⟨0,Nat.zero_le _,fun j x hj=>by omega⟩ (z0Y (by simp[I])) ?_;rintro⟨i,hi,hno⟩;by_cases hlt:i<l.length
 ·have d1:(i:Int)<(l.length:Int):=by omega
  obtain⟨x,ex⟩:∃x,l[i]?=some x:=⟨_,gE hlt⟩
  have HN:=zhK m x (hs x (gM ex));have w1:=wS i;unfold tv B at HN;simp only[vW,seval,d1,ex];(with_reducible apply zJ);exact kv;exact HN;rfl;exact kv;cases hp:z2T x
  ·simp only[vW,seval,w1];refine zc ⟨i+1,by omega,fun j y hj hy=> ?_⟩ (by show l.length-(i+1)<l.length-i;omega) ?_
   ·by_cases hji:j=i
    ·subst hji;rw[ex]at hy;cases hy;exact hp
    ·exact hno j y (by omega) hy
   ·exact lwA
  ·simp only[vW,seval];rw[z38 z2T l i hno x ex hp]
 ·have d1:¬(i:Int)<(l.length:Int):=by omega
  simp only[vW,seval,d1];rw[z39 z2T l (fun x hx=>by
   obtain⟨j,hj⟩:=List.getElem?_of_mem hx;exact hno j x (by have:=(gJ hj).1;omega) hj)]
theorem zd1(m:Nat)(l:List V)(hl:l.length≤maxLen)(hs:∀x∈l,z1P x):zC (gl0 m) 91 [.pv (.sl 4 (V.rows l)),.pv (.v (.func (.func 92) #[] #[]))] [] (B (l.any z2T)) []:=by
 refine za tf_153 ?_;have HI:=zhA m l hl hs;rw[←z9O];unfold B;simp only[vW,seval];exact zd HI
theorem zbp(m:Nat)(x:V)(hx:VOk x):zC (gl0 m) 48 [tv x] [] (B (z14 x)) []:=by
 unfold z14;by_cases k5:x.k=5
 ·rw[if_pos k5];obtain⟨k,n,s,l⟩:=x;simp only[Vk]at k5;subst k5;simp only[Vn,Vs,Vl];refine za tf_161 ?_;unfold B;by_cases n0:n=0
  ·subst n0;cases hs:s==[]
   ·simp only[vW,seval,e0,hs]
   ·by_cases h12:l.length≤12
    ·have d1:(l.length:Int)≤12:=by omega
     have HC:=zd1 m l (by unfold maxLen;omega) (fun y hy=>hx.2 y hy);unfold B at HC;simp only[vW,seval,e0,hs,d1,h12];exact zd HC
    ·have d1:¬(l.length:Int)≤12:=by omega
     simp only[vW,seval,e0,hs,d1,h12]
  ·have hn0:(n==0)=false:=by simpa using n0
   simp only[vW,seval,n0,hn0]
 ·rw[if_neg k5];exact zbn m x hx.1 k5
theorem z8Q(g:Sh.Glob)(t:Ty):zC g 73 [tyT t] [] (B (zg t)) []:=by
 refine za tf_170 ?_;obtain⟨k,o⟩:=t;unfold B;simp only[vW,seval];unfold zg
 repeat' (first|(apply And.intro)|(intro _))
 all_goals(first|(simp_all;done)|(simp_all;omega))
theorem zcE(g:Sh.Glob)(x:V)(k:Int):zC g 109 [tv x,I k] [] (B (z0L x k)) []:=by
 refine za tf_166 ?_;unfold B;simp only[vW,seval];unfold z0L
 repeat' (first|(apply And.intro)|(intro _))
 all_goals(first|(simp_all;done)|(simp only[Option.some.injEq,TV.pv.injEq,PV.v.injEq,Value.bool.injEq];rw[Bool.eq_iff_iff];simp_all;done)|(simp only[Option.some.injEq,TV.pv.injEq,PV.v.injEq,Value.bool.injEq];rw[Bool.eq_iff_iff];simp_all;omega))
theorem zlu(g:Sh.Glob)(x:V)(t:Ty):zC g 110 [tv x,.ptr 1000 0] [.box [I t.k,I t.o]] (B (!z0L x t.o)) [.box [I t.k,I t.o]]:=by
 refine zp tf_160 ?_;have HK:=zcE g x t.o;unfold B at*;simp only[vW,seval];exact zd HK
theorem zef(g:Sh.Glob)(l:List V)(t:Ty)(hl:l.length≤maxLen):zC g 160 [.pv (.sl 4 (V.rows l)),.fn (.func 110) [] [.ptr 1000 0]] [.box [I t.k,I t.o]] (I (z0F (fun y=> !z0L y t.o) l)) [.box [I t.k,I t.o]]:=by
 refine zp tf_156 ?_;have hm:maxLen=9223372036854775807:=rfl;simp only[vW,seval];refine zw (σ:={i:Nat // i≤l.length∧∀j x,j<i→l[j]?=some x→(!z0L x t.o)=false}) (fun i=>⟨[(0,.pv (.sl 4 (V.rows l))),(1,.fn (.func 110) [] [.ptr 1000 0]),(7,I (l.length:Int)),(8,I (i.1:Int))],[(1000,[I t.k,I t.o])],[],[]⟩) (fun i=>l.length-i.1) ⟨0,Nat.zero_le _,fun j x hj=>by omega⟩ (z0Y (by simp[I])) ?_;rintro⟨i,hi,hno⟩;by_cases hlt:i<l.length
 ·have d1:(i:Int)<(l.length:Int):=by omega
  obtain⟨x,ex⟩:∃x,l[i]?=some x:=⟨_,gE hlt⟩
  have HN:=zlu g x t;have w1:=wS i;unfold tv B at HN;simp only[vW,seval,d1,ex];(with_reducible apply zJ);exact kv;exact HN;rfl;exact kv;cases hp:z0L x t.o
  ·simp only[vW,seval];rw[z38 (fun y=> !z0L y t.o) l i hno x ex (by simp[hp])]
  ·simp only[vW,seval,w1];refine zc ⟨i+1,by omega,fun j y hj hy=> ?_⟩ (by show l.length-(i+1)<l.length-i;omega) ?_
   ·by_cases hji:j=i
    ·subst hji;rw[ex]at hy;cases hy;simp[hp]
    ·exact hno j y (by omega) hy
   ·exact lwA
 ·have d1:¬(i:Int)<(l.length:Int):=by omega
  simp only[vW,seval,d1];rw[z39 (fun y=> !z0L y t.o) l (fun x hx=>by
   obtain⟨j,hj⟩:=List.getElem?_of_mem hx;exact hno j x (by have:=(gJ hj).1;omega) hj)]
theorem zaX(g:Sh.Glob)(l:List V)(t:Ty)(hl:l.length≤maxLen):zC g 91 [.pv (.sl 4 (V.rows l)),.fn (.func 110) [] [.ptr 1000 0]] [.box [I t.k,I t.o]] (B (l.any fun y=> !z0L y t.o)) [.box [I t.k,I t.o]]:=by
 refine zp tf_153 ?_;have HI:=zef g l t hl;rw[←z9O];unfold B;simp only[vW,seval];exact zd HI
theorem zlv(m:Nat)(x:V)(t:Ty)(hx:VOk x)(hl:x.l.length≤maxLen):zC (gl0 m) 56 [tv x,tyT t] [] (B (zD x t)) []:=by
 refine za tf_159 ?_;have HR:=zbp m x hx;have HT:=z8Q (gl0 m) t;have HK:=zcE (gl0 m) x t.k;have HC:=zaX (gl0 m) x.l t hl;unfold zD B at*;simp only[vW,seval];refine z7 HR ?_;cases z14 x
 ·simp only[vW,seval]
 simp only[vW,seval];refine z7 HT ?_;cases zg t
 ·simp only[vW,seval]
 simp only[vW,seval];refine z7 HK ?_;cases z0L x t.k
 ·simp only[vW,seval]
 simp only[vW,seval];exact zd HC
end Go.Proofs.YtcpaleaajdilgaaGreatDoor
end

section
namespace Go.Sh.Cd4
open Go Go.Sh
abbrev gQ(a:GA):Prop:=gT Go.Proofs.Tryz.prog a
theorem gK{a:GA}(h:gQ a:=by unfold gQ gT;kernel_rfl):gQ a:=h
theorem tf_108:gQ ⟨12,81,[(10,0),(11,0),(14,0),(37,0),(42,0),(52,0),(69,0),(77,0)],[],[[0],[10],[11017],[],[18025],[7,27028,73],[26,29033],[34045],[46048],[49055],[6,49,56064],[8,65071],[9,72],[7,73079],[1,3005,80]],[.cell true 2 2],false⟩:=gK
theorem tf_110:gQ ⟨13,43,[(39,0),(40,0)],[],[[0,6],[],[],[10013],[15016],[14,17],[18019],[20029],[9,20,30041],[1003,7008,42]],[.tmp 6],false⟩:=gK
theorem tf_54:gQ ⟨19,41,[],[],[[0,4005],[8009],[1002,10],[4005,10015],[1002,16022],[2,4005,16,23],[],[27030],[7,31037],[1,6,24026,38039],[4006,38,40],[1,24026]],[.tmp 4,.tmp 5],false⟩:=gK
theorem tf_57:gQ ⟨33,39,[],[],[[0,2],[7015],[1,16],[2,16017],[],[21024],[25026],[1,3004,18020,27],[2,4,6,27034],[3,5,35036],[1,18020,37],[2,37038],[1,18020]],[.tmp 2],false⟩:=gK
theorem tf_55:gQ ⟨34,14,[(10,1)],[],[[1000001,4005],[2003,7010],[11],[6,12],[6,12013]],[.tmp 4,.tmp 5],false⟩:=gK
theorem tf_59:gQ ⟨38,17,[],[],[[1000001,4],[2003,5016]],[.tmp 4],false⟩:=gK
theorem tf_128:gQ ⟨43,38,[],[],[[1000001,4],[6018],[2003,19],[4,19],[20023],[4,25026,37],[24,27036],[2003,5,37],[2003,5]],[.tmp 4],false⟩:=gK
theorem tf_58:gQ ⟨44,27,[],[],[[0,2],[3004],[1,5013],[1,5,14026]],[.tmp 2],false⟩:=gK
theorem tf_111:gQ ⟨45,13,[],[],[[4],[5],[6009],[1000001,6,10012]],[.tmp 4],false⟩:=gK
theorem tf_124:gQ ⟨46,23,[],[],[[0,4005],[],[7010],[4005,12013,21],[11,14020],[1002,6,21022],[1002,6]],[.tmp 4,.tmp 5],false⟩:=gK
theorem tf_109:gQ ⟨47,67,[(10,0),(16,0),(23,0),(34,0),(42,0),(48,0),(62,0),(63,0)],[],[[0],[10],[11],[14],[1003,7,12013,15018],[13,20],[1003,7,12,19,21026],[7,19,28],[12,29],[12,27,30035],[1003,36037],[1003,36,38044],[12,27,45],[],[46048],[50051],[49,52065],[1003,8009,66]],[.cell true 4 6],false⟩:=gK
theorem tf_61:gQ ⟨69,47,[],[],[[2],[4016],[0,17],[2,17018],[],[21022],[3,23044],[0,19020,45],[2,45046],[0,19020]],[.tmp 2],false⟩:=gK
theorem tf_60:gQ ⟨70,22,[],[],[[0,2],[3011],[1,12],[1,12021]],[.tmp 2],false⟩:=gK
theorem tf_155:gQ ⟨71,19,[(16,1)],[],[[4],[6],[],[9010],[11015],[1000001,5,7008,16017],[4005,16,18],[1000001,7008]],[.tmp 4],false⟩:=gK
theorem tf_56:gQ ⟨72,8,[],[],[[0,3],[1002,4007]],[.tmp 3],false⟩:=gK
theorem tf_154:gQ ⟨81,26,[],[],[[4],[6009],[1000001,10],[4,10011],[],[14015],[5,16023],[1000001,12013,24],[4,24025],[1000001,12013]],[.tmp 4],false⟩:=gK
theorem tf_126:gQ ⟨112,62,[],[],[[0,2],[6014],[1,15],[2,15],[16019],[4005,21022],[20,23027],[28046],[1,3004,47],[2,47],[48049],[2,51052,61],[50,53060],[1,3005,61],[1,3]],[.tmp 2],false⟩:=gK
theorem tf_62:gQ ⟨128,9,[],[],[[2],[0,3008]],[.tmp 2],false⟩:=gK
theorem tf_125:gQ ⟨170,56,[],[],[[2],[6012],[0,13],[2,13],[14016],[2,18019,55],[17,20029],[30045],[4005,46054],[0,3,55],[0,3]],[.tmp 2],false⟩:=gK
theorem tf_127:gQ ⟨171,21,[],[],[[0,2],[1,3020]],[.tmp 2],false⟩:=gK
theorem tf_129:gQ ⟨226,9,[],[],[[2],[0,3008]],[.tmp 2],false⟩:=gK
noncomputable def funcs:Nat→Option SFunc
 |11=>some (gD Go.Proofs.Tryz.prog ⟨11,176,[],[],[[0],[23028],[29],[3,30037],[5,38045],[46052],[2,53060],[61065],[66073],[16017,74079],[80084],[21,85089],[1,4,6015,18020,22,90175]],[.tmp 0],false⟩)
 |19=>some (gD Go.Proofs.Tryz.prog ⟨19,41,[],[],[[0,4005],[8009],[1002,10],[4005,10015],[1002,16022],[2,4005,16,23],[],[27030],[7,31037],[1,6,24026,38039],[4006,38,40],[1,24026]],[.tmp 4,.tmp 5],false⟩)
 |33=>some (gD Go.Proofs.Tryz.prog ⟨33,39,[],[],[[0,2],[7015],[1,16],[2,16017],[],[21024],[25026],[1,3004,18020,27],[2,4,6,27034],[3,5,35036],[1,18020,37],[2,37038],[1,18020]],[.tmp 2],false⟩)
 |34=>some (gD Go.Proofs.Tryz.prog ⟨34,14,[(10,1)],[],[[1000001,4005],[2003,7010],[11],[6,12],[6,12013]],[.tmp 4,.tmp 5],false⟩)
 |38=>some (gD Go.Proofs.Tryz.prog ⟨38,17,[],[],[[1000001,4],[2003,5016]],[.tmp 4],false⟩)
 |41=>some (gD Go.Proofs.Tryz.prog ⟨41,53,[(8,0),(12,2),(17,0),(29,2),(34,0),(40,0),(45,0),(48,0)],[],[[0,2003],[7008],[1,9],[2003,9012],[13018],[1,19],[],[23025],[26029],[30035],[36041],[6,42],[43046],[43,47049],[50],[4,20022,51052]],[.tmp 2,.tmp 3],false⟩)
 |42=>some (gD Go.Proofs.Tryz.prog ⟨42,55,[(15,1),(17,1),(31,1),(40,0),(48,0)],[(15,[[(0,8),(2,7),(3,4)]])],[[5006],[1000001,12014],[15016],[17],[18022],[7009,23024],[5006,9,23],[],[27033],[11,34],[7008,10,25026,35036],[5006,10,35,37042],[43],[25026,44049],[7008,50051],[7008,50,52054]],[.cell true 2 4,.tmp 5,.tmp 6],false⟩)
 |43=>some (gD Go.Proofs.Tryz.prog ⟨43,38,[],[],[[1000001,4],[6018],[2003,19],[4,19],[20023],[4,25026,37],[24,27036],[2003,5,37],[2003,5]],[.tmp 4],false⟩)
 |44=>some (gD Go.Proofs.Tryz.prog ⟨44,27,[],[],[[0,2],[3004],[1,5013],[1,5,14026]],[.tmp 2],false⟩)
 |69=>some (gD Go.Proofs.Tryz.prog ⟨69,47,[],[],[[2],[4016],[0,17],[2,17018],[],[21022],[3,23044],[0,19020,45],[2,45046],[0,19020]],[.tmp 2],false⟩)
 |70=>some (gD Go.Proofs.Tryz.prog ⟨70,22,[],[],[[0,2],[3011],[1,12],[1,12021]],[.tmp 2],false⟩)
 |71=>some (gD Go.Proofs.Tryz.prog ⟨71,19,[(16,1)],[],[[4],[6],[],[9010],[11015],[1000001,5,7008,16017],[4005,16,18],[1000001,7008]],[.tmp 4],false⟩)
 |72=>some (gD Go.Proofs.Tryz.prog ⟨72,8,[],[],[[0,3],[1002,4007]],[.tmp 3],false⟩)
 |81=>some (gD Go.Proofs.Tryz.prog ⟨81,26,[],[],[[4],[6009],[1000001,10],[4,10011],[],[14015],[5,16023],[1000001,12013,24],[4,24025],[1000001,12013]],[.tmp 4],false⟩)
 |84=>some (gD Go.Proofs.Tryz.prog ⟨84,15,[(9,0)],[],[[4],[1,6011],[0,5,12014]],[.tmp 4],true⟩)
 |85=>some (gD Go.Proofs.Tryz.prog ⟨85,35,[],[],[[2],[6018],[5,19025],[0,3004,26029],[],[0,2,4,26,30033],[3,34]],[.tmp 2],false⟩)
 |86=>some (gD Go.Proofs.Tryz.prog ⟨86,35,[],[],[[2],[6018],[5,19025],[0,3004,26029],[],[0,2,4,26,30033],[3,34]],[.tmp 2],false⟩)
 |87=>some (gD Go.Proofs.Tryz.prog ⟨87,31,[(9,1),(12,1),(16,1),(20,1)],[],[[5],[0,8010],[11014],[15018],[1,19020],[21023],[6007,24030]],[.cell true 4 4,.tmp 5],false⟩)
 |128=>some (gD Go.Proofs.Tryz.prog ⟨128,9,[],[],[[2],[0,3008]],[.tmp 2],false⟩)
 |_=>none
end Go.Sh.Cd4
end

section
namespace Go.Proofs.YtcpaleaajdilgaaGreatDoor
open Go Go.RowKit Go.Mor Go.Sh Go.Sh.Cd1 Go.Sh.Cd4
theorem z1M{l:zB}{k:Nat}{c:UInt8}(h:l[k]?=some c):l.drop k=c::l.drop (k+1):=by
 obtain⟨hk,he⟩:=gJ h;rw[List.drop_eq_getElem_cons hk,he]
theorem zf2(g:Sh.Glob)(b:UInt8):zC g 128 [.pv (.v (.int .u8 (b.toNat:Int)))] [] (B (small b)) []:=by
 refine za tf_62 ?_;unfold small B;by_cases q1:97≤b.toNat
 ·have d1:(97:Int)≤(b.toNat:Int):=by omega
  have q2:decide ((b.toNat:Int)≤122)=decide (b.toNat≤122):=by rw[Bool.eq_iff_iff];simp;omega
  simp only[vW,seval,d1,q2,q1];first|done|simp
 ·have d1:¬(97:Int)≤(b.toNat:Int):=by omega
  simp only[vW,seval,d1,q1];first|done|simp
theorem z5R(g:Sh.Glob)(l:zB)(hl:l.length<4611686018427387904):zC g 69 [S (str l)] [] (B (zb l)) []:=by
 refine za tf_61 ?_;by_cases h1:1≤l.length
 ·have d1:¬(l.length:Int)<1:=by omega
  by_cases h20:l.length≤20
  ·have d2:¬(20:Int)<(l.length:Int):=by omega
   obtain⟨c,r,rfl⟩:∃c r,l=c::r:=List.exists_cons_of_ne_nil (by rintro rfl;simp at h1);have HS:=zf2 g c;unfold B at HS ⊢;have e0:(c::r)[0]?=some c:=rfl;have hR:zb (c::r)=(small c&&(c::r).all zI):=by
    unfold zb;rw[decide_eq_true ⟨h1,h20⟩];simp
   rw[hR];generalize hL:c::r=l at*;simp only[vW,seval,d1,d2,e0];refine z7 HS ?_;cases hs:small c
   ·simp only[vW,seval]
   simp only[vW,seval,d1,d2];refine zw (σ:={ k:Nat // k≤l.length∧(l.drop k).all zI=l.all zI })
    (fun k=>⟨[(0,S (str l)),(19,I (l.length:Int)),(20,I (k.1:Int))],[],[],[]⟩) (fun k=>l.length-k.1) ⟨0,Nat.zero_le _,rfl⟩ ?_ ?_
   ·exact lwA
   rintro⟨k,hk,hd⟩;by_cases hlt:k<l.length
   ·have d3:(k:Int)<(l.length:Int):=by omega
    obtain⟨b,eb⟩:∃b,l[k]?=some b:=⟨_,gE hlt⟩
    rw[z1M eb,List.all_cons]at hd;have hbn:=b.toNat_lt;have HB:=zf2 g b;unfold B at HB;have w4:=wS k;simp only[vW,seval,d3,eb];refine z7 HB ?_;cases hsb:small b
    ·by_cases q1:b.toNat<48
     ·have d4:(b.toNat:Int)<48:=by omega
      have d6:¬(b.toNat:Int)=95:=by omega
      have hn:zI b=false:=by unfold zI;rw[hsb];simp;omega
      rw[hn,Bool.false_and]at hd;simp only[vW,seval,d3,eb,d4,d6];rw[←hd]
     ·have d4:¬(b.toNat:Int)<48:=by omega
      by_cases q2:57<b.toNat
      ·have d5:(57:Int)<(b.toNat:Int):=by omega
       by_cases q3:b.toNat=95
       ·have d6:(b.toNat:Int)=95:=by omega
        have hn:zI b=true:=by unfold zI;simp[q3]
        rw[hn,Bool.true_and]at hd;simp only[vW,seval,d3,eb,d4,d5,d6,w4];refine zc ⟨k+1,hlt,hd⟩ (by show l.length-(k+1)<l.length-k;omega) ?_;exact lwA
       ·have d6:¬(b.toNat:Int)=95:=by omega
        have hn:zI b=false:=by unfold zI;rw[hsb];simp;omega
        rw[hn,Bool.false_and]at hd;simp only[vW,seval,d3,eb,d4,d5,d6];rw[←hd]
      ·have d5:¬(57:Int)<(b.toNat:Int):=by omega
       have hn:zI b=true:=by unfold zI;simp;omega
       rw[hn,Bool.true_and]at hd;simp only[vW,seval,d3,eb,d4,d5,w4];refine zc ⟨k+1,hlt,hd⟩ (by show l.length-(k+1)<l.length-k;omega) ?_;exact lwA
    ·have hn:zI b=true:=by unfold zI;rw[hsb];rfl
     rw[hn,Bool.true_and]at hd;simp only[vW,seval,d3,eb,w4];refine zc ⟨k+1,hlt,hd⟩ (by show l.length-(k+1)<l.length-k;omega) ?_;exact lwA
   ·have d3:¬(k:Int)<(l.length:Int):=by omega
    rw[List.drop_eq_nil_of_le (by omega)]at hd;simp only[vW,seval,d3];rw[←hd];rfl
  ·have d2:(20:Int)<(l.length:Int):=by omega
   have hR:zb l=false:=by unfold zb;rw[decide_eq_false (by omega)];rfl
   rw[hR];unfold B;simp only[vW,seval,d1,d2]
 ·have d1:(l.length:Int)<1:=by omega
  have hR:zb l=false:=by unfold zb;rw[decide_eq_false (by omega)];rfl
  rw[hR];unfold B;simp only[vW,seval,d1]
theorem zbG(g:Sh.Glob)(l:zB)(hl:l.length<4611686018427387904):zC g 33 [.agg [S (str l),.pv (.v (.slice none 0 0))]] [] (B (zb l)) []:=by
 refine za tf_57 ?_;have HR:=z5R g l hl;unfold B at*;simp only[vW,seval];refine z7 HR ?_;cases zb l
 ·simp only[vW,seval]
 simp only[vW,seval];refine zw (σ:=Unit) (fun _=>⟨[(19,I 0),(20,I 0)],[],[],[]⟩) (fun _=>0) () ?_ ?_
 ·exact lwA
 rintro⟨⟩;simp only[vW,seval]
end Go.Proofs.YtcpaleaajdilgaaGreatDoor
end

section
namespace Go.Mor
open Go
def z02(n b0 b1 b2 b3:Nat):Nat:=
 if b0<128 then 1
 else if 194≤b0∧b0≤223 then(if n<2∨b1<128∨191<b1 then 0 else 2)
 else if 224≤b0∧b0≤239 then(if n<3∨b1<(if b0=224 then 160 else 128)∨(if b0=237 then 159 else 191)<b1∨b2<128∨191<b2 then 0 else 3)
 else if 240≤b0∧b0≤244 then(if n<4∨b1<(if b0=240 then 144 else 128)∨(if b0=244 then 143 else 191)<b1∨b2<128∨191<b2∨b3<128∨191<b3 then 0 else 4)
 else 0
def z2o(l:zB):Nat:=if l=[] then 0 else z02 l.length (l.getD 0 0).toNat (l.getD 1 0).toNat (l.getD 2 0).toNat (l.getD 3 0).toNat
theorem zeZ(n b0 b1 b2 b3:Nat)(h0:b0<256)(h1:b1<256)(h2:b2<256)(h3:b3<256):
  z02 n b0 b1 b2 b3=if(Lib.decodeN n b0 b1 b2 b3).1=65533∧(Lib.decodeN n b0 b1 b2 b3).2=1 then 0 else(Lib.decodeN n b0 b1 b2 b3).2:=by
 unfold z02 Lib.decodeN
 repeat' split
 all_goals(simp_all<;>omega)
end Go.Mor
end

section
namespace Go.Proofs.YtcpaleaajdilgaaGreatDoor
open Go Go.RowKit Go.Mor Go.Sh Go.Sh.Cd1
theorem z5L(g:Sh.Glob)(a b:Int):zC g 219 [I a,I b] [] (I (z25 a b)) []:=by
 refine za tf_120 ?_;unfold z25;by_cases h1:a<b
 ·simp only[vW,seval,h1]
 ·by_cases h2:b<a
  ·simp only[vW,seval,h1,h2]
  ·simp only[vW,seval,h1,h2]
end Go.Proofs.YtcpaleaajdilgaaGreatDoor
end

section
namespace Go.Sh
open Go Go.RowKit
section
def zdm(ops:Array Oper)(t m i:Nat):Option (Operand×Operand):=match ops[i]? with
 |some o=>match o.op,o.dst,o.guard with
  | .insert t' (.tmp m') k x,none,none=>if Nat.beq t t'&&Nat.beq m m' then some (k,x)else none
  |_,_,_=>none
 |none=>none
def zb8(ops:Array Oper)(t m:Nat):List Nat→Option (List (Operand×Operand))
 |[]=>some []
 |i::l=>match zdm ops t m i,zb8 ops t m l with
  |some p,some r=>some (p::r)
  |_,_=>none
def ze8(kd:TypeDesc):List Value→List Value→Bool
 |_,[]=>true
 |ks,k::l=>(match findKs kd k ks 0 with|some none=>true|_=>false)&&ze8 kd (ks++[k]) l
structure MapTurn(b:Nat)(w w':World):Prop where
 os:w'.os=w.os
 tape:w'.tape=w.tape
 output:w'.output=w.output
 size:w'.heap.size=w.heap.size
 block:∀k,k≠b→w'.heap[k]?=w.heap[k]?
theorem MapTurn.refl(b:Nat)(w:World):MapTurn b w w:=⟨rfl,rfl,rfl,rfl,fun _ _=>rfl⟩
theorem MapTurn.trans{b:Nat}{w w' w'':World}(h:MapTurn b w w')(h':MapTurn b w' w''):MapTurn b w w'':=
 ⟨h'.os.trans h.os,h'.tape.trans h.tape,h'.output.trans h.output,h'.size.trans h.size,fun k hk=>(h'.block k hk).trans (h.block k hk)⟩
section
variable{P:Program}{ops:Array Oper}{Q:Exit→Act→World→Prop}{a:Act}{w:World}{t kt et:TypeId}{text:Bool}{m b:Nat}
theorem zgH{es:Array MapEntry}{clock:Nat}{k v:Value}(ht:P.underlying t=some (.map kt et))(hk:P.underlying kt=some (kdOf text))(hb:w.heap[b]?=some (.map es clock))(hf:findKs (kdOf text) k (es.toList.map MapEntry.key) 0=some none):
  ∃w',(Instr.mapUpdate t (.map (some b)) k v).run P w=.ok () w'∧MapTurn b w w'∧w'.heap[b]?=some (.map (es.push { key:=k,val:=v,born:=clock }) (clock+1)):=by
 have hget:=Go.MapKept.run_getObj_map (P:=P) hb;have h1:=z6v _ _ hf;have hset:=fun o=>Go.MapKept.run_setObj_map (P:=P) o hb;refine⟨{ w with heap:=w.heap.setIfInBounds b (.map (es.push { key:=k,val:=v,born:=clock }) (clock+1)) },by simp[Instr.mapUpdate,run_underlying ht,hget,z6t text _ _ hk,Instr.findKey,run_underlying hk,h1,hset,Result.andThen],⟨rfl,rfl,rfl,by simp,fun j hj=> ?_⟩,?_⟩
 ·grind
 ·grind
theorem zcY(ht:P.underlying t=some (.map kt et))(hk:P.underlying kt=some (kdOf text))(hm:a.eval (.tmp m)=.map (some b)):∀(l:List Nat) (kvs:List (Operand×Operand)) (zy:List Nat) (w:World) (es:Array MapEntry) (clock:Nat),zb8 ops t m l=some kvs→w.heap[b]?=some (.map es clock)→ze8 (kdOf text) (es.toList.map MapEntry.key) (kvs.map fun p=>a.eval p.1)=true→
  (∀(es':Array MapEntry) (clock':Nat) (w':World),MapTurn b w w'→w'.heap[b]?=some (.map es' clock')→es'.toList.map MapEntry.key=es.toList.map MapEntry.key++(kvs.map fun p=>a.eval p.1)→es'.toList.map MapEntry.val=es.toList.map MapEntry.val++(kvs.map fun p=>a.eval p.2)→wpOps P ops Q zy a w')→
  wpOps P ops Q (l++zy) a w
 |[],kvs,zy,w,es,clock,h,hb,hf,hK=>by
  simp only[zb8,Option.some.injEq]at h;subst h;exact hK es clock w (.refl b w) hb (by simp) (by simp)
 |i::l,kvs,zy,w,es,clock,h,hb,hf,hK=>by
  simp only[zb8]at h;split at h<;>try(cases h;done)
  rename_i p r hp hr;cases h;simp only[List.map_cons,ze8,Bool.and_eq_true]at hf;have hf1:findKs (kdOf text) (a.eval p.1) (es.toList.map MapEntry.key) 0=some none:=by
   grind
  unfold zdm at hp;split at hp<;>try(cases hp;done)
  rename_i o ho;split at hp<;>try(cases hp;done)
  rename_i t' m' k x hop hdst hg;split at hp<;>try(cases hp;done)
  rename_i htm;rw[Bool.and_eq_true]at htm;obtain rfl:=Nat.eq_of_beq_eq_true htm.1;obtain rfl:=Nat.eq_of_beq_eq_true htm.2;cases hp;obtain⟨w1,hrun,hturn,hb1⟩:=zgH (P:=P) (v:=a.eval x) ht hk hb hf1;rw[List.cons_append,wpOps_cons];unfold wpOp;simp only[ho];rw[if_pos (by simp[Region.wanted,hg])];refine .inl ?_;unfold Oper.wp;have hex:(execOp a.eval o).run P w=.ok .skip w1:=by simp[execOp,hop,hm,hrun,Result.andThen]
  rw[hex];show wpOps P ops Q (l++zy) (a.put o.dst undef) w1;rw[hdst];refine zcY ht hk hm l r zy w1 _ _ hr hb1 (by grind) (fun es' clock' w' h1 h2 h3 h4=>hK es' clock' w' (hturn.trans h1) h2 (by grind) (by grind))
theorem z2i{i:Nat}{o:Oper}{v:Value}{w':World}{K:Act→World→Prop}(ho:ops[i]?=some o)(hg:o.guard=none)(hr:(execOp a.eval o).run P w=.ok (.value v) w')(hk:K (a.put o.dst v) w'):wpOp P ops Q i K a w:=by
 unfold wpOp;simp only[ho];rw[if_pos (by simp[Region.wanted,hg])];refine .inl ?_;unfold Oper.wp;rw[hr];exact hk
end
end
end Go.Sh
end
