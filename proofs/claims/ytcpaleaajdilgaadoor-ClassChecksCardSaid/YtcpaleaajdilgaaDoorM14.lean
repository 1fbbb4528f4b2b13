/- Merged texts: S33 Vc1 Vk Zv1 Zv2. No statement of the program is proved here. -/
import Derived.Test.YtcpaleaajdilgaaDoorM12
import Derived.Test.YtcpaleaajdilgaaDoorM13
set_option linter.unusedSimpArgs false
set_option linter.unusedVariables false
set_option maxRecDepth 100000
set_option maxHeartbeats 8000000
section
namespace Go.Sh
open Go Go.RowKit
def zbx(P:Program)(o:Oper)(h:Nat):Option SOp:=
 match o.op with
 | .move x| .assign x=>some (.mov (.of x))
 | .pick c a b=>some (.pick (.of c) (.of a) (.of b))
 | .alloc e=>match P.info? e with
  |some i=>match i.zero with
   |some z=>if true then some (.new z.cells.toList)else none
   |none=>none
  |none=>none
 | .box _ x=>some (.box (.of x))
 | .build t parts=>match P.info? t,P.underlying t with
  |some i,some (.struct fs)=>match i.zero with
   |some z=>if true then((seqO (fun p:Nat×Operand=>match fs[p.1]? with
     |some f=>(P.info? f.type).map fun j=>(f.offset,j.size,Arg.of p.2)
     |none=>none) parts.toList).map fun ps=> .build z.cells.toList ps)else none
   |none=>none
  |some i,some (.array _ e)=>match i.zero,P.info? e with
   |some z,some j=>if true then some (.build z.cells.toList (parts.toList.map fun p=>(p.1*j.size,j.size,Arg.of p.2)))else none
   |_,_=>none
  |_,_=>none
 | .buildSlice t len parts=>match P.underlying t with
  |some (.slice e)=>match P.info? e with
   |some i=>match i.zero with
    |some z=>if true then some (if Nat.beq h 1 then .bslO e i.size (parts.toList.map fun p=>Arg.of p.2)else .bsl i.size (parts.toList.map fun p=>Arg.of p.2))else none
    |none=>none
   |none=>none
  |_=>none
 | .load t x=>match P.underlying t,P.info? t with
  |some d,some i=>some (if d.isRow then .ld true i.size (.of x)else .ld false 1 (.of x))
  |_,_=>none
 | .store t x y=>match P.info? t with
  |some i=>some (.st i.size (.of x) (.of y))
  |none=>none
 | .nilCheck x=>some (.nchk (.of x))
 | .binOp op t x y _=>match y,op,P.underlying t with
  | .const .nilFunc,.eql,some (.func _ _ _)=>some (.fnil false (.of x))
  | .const .nilFunc,.neq,some (.func _ _ _)=>some (.fnil true (.of x))
  |_,_,_=>some (.bin op t (.of x) (.of y))
 | .unOp op _ x=>some (.un op (.of x))
 | .convert src dst x=>match P.underlying src,P.underlying dst with
  |some (.int _),some (.int k)=>some (.cvi k (.of x))
  |some .string,some .string=>some (.cvs (.of x))
  |some (.slice e),some .string=>match P.underlying e with
   |some (.int .u8)=>some (.b2s (.of x))
   |_=>none
  |_,_=>none
 | .slice t x lo hi none=>match P.underlying t with
  |some .string=>some (.ssub (.of x) (lo.map .of) (hi.map .of))
  |some (.slice e)=>match P.info? e with
   |some i=>some (.sub i.size (.of x) (lo.map .of) (hi.map .of))
   |none=>none
  |_=>none
 | .fieldAddr t x f=>match P.underlying t with
  |some (.struct fs)=>match fs[f]? with
   |some fd=>match P.info? fd.type with
    |some i=>if i.size=0 then none else some (.fldA fd.offset (.of x))
    |none=>none
   |none=>none
  |_=>none
 | .field t x f=>match P.underlying t with
  |some (.struct fs)=>match fs[f]? with
   |some fd=>match P.info? fd.type,P.underlying fd.type with
    |some i,some d=>some (.fld d.isRow fd.offset i.size (.of x))
    |_,_=>none
   |none=>none
  |_=>none
 | .indexAddr t x i=>match P.underlying t with
  |some (.slice e)=>match P.info? e with
   |some j=>some (.idxA j.size (.of x) (.of i))
   |none=>none
  |some (.array n e)=>match i,P.info? e with
   | .const (.int _ k),some j=>if 0≤k∧k<n then some (.fldA (k.toNat*j.size) (.of x))else none
   |_,_=>none
  |_=>none
 | .index t x i=>match P.underlying t with
  |some .string=>some (.sidx (.of x) (.of i))
  |_=>none
 | .lookup t x i false=>match P.underlying t with
  |some (.map k e)=>match P.info? e with
   |some j=>match j.zero with
    |some z=>if true then(match P.underlying k with
      |some .string=>some (.lkp true z (.of x) (.of i))
      |some (.int .i64)=>some (.lkp false z (.of x) (.of i))
      |_=>none)else none
    |none=>none
   |none=>none
  |_=>none
 | .makeInterface t x=>match P.underlying t with
  |some (.interface _)=>none
  |some _=>some (.mkI t (.of x))
  |none=>none
 | .panic x=>some (.pan (.of x))
 | .extract x i=>some (.ext (.of x) i)
 | .makeFunc f a b=>some (.mkf f (a.toList.map .of) (b.toList.map .of))
 | .range t x=>match P.underlying t with
  |some .string=>some (.rng (.of x))
  |_=>none
 | .next x true=>some (.nxt (.of x))
 | .makeSlice t l c=>match P.underlying t,l,c with
  |some (.slice e),.tmp a,.tmp b=>if Nat.beq a b then match P.info? e with
   |some i=>match i.zero with
    |some z=>if true then some (.mks i.bytes z.cells.toList (.tmp a))else none
    |none=>none
   |none=>none else none
  |_,_,_=>none
 | .call { callee:=.builtin .len,args,argTypes }=>match argTypes.toList,args.toList with
  |[t],[x]=>match P.underlying t with
   |some (.slice _)=>some (.len (.of x))
   |some .string=>some (.slen (.of x))
   |_=>none
  |_,_=>none
 | .call { callee:=.builtin .min,args,argTypes }=>match args.toList,argTypes.toList with
  |[x,y],[t,_]=>match P.underlying t with
   |some (.int .i64)=>some (.imm false (.of x) (.of y))
   |_=>none
  |_,_=>none
 | .call { callee:=.builtin .max,args,argTypes }=>match args.toList,argTypes.toList with
  |[x,y],[t,_]=>match P.underlying t with
   |some (.int .i64)=>some (.imm true (.of x) (.of y))
   |_=>none
  |_,_=>none
 | .call { callee:=.builtin .append,args,argTypes }=>match args.toList,argTypes.toList with
  |[x,y],[t,tx]=>match P.underlying t with
   |some (.slice e)=>match P.info? e with
    |some i=>match i.zero with
     |some z=>if true then
       match P.underlying tx with
       |some (.slice _)=>some (if Nat.beq h 2 then .appB e i.size i.bytes (.of x) (.of y)else if Nat.beq h 1 then .appN e i.size i.bytes (.of x) (.of y)else .app e i.size i.bytes (.of x) (.of y))
       |some .string=>if i.size=1 then some (if Nat.beq h 1 then .appNS e i.bytes (.of x) (.of y)else .appS e i.bytes (.of x) (.of y))else none
       |_=>none
      else none
     |none=>none
    |none=>none
   |_=>none
  |_,_=>none
 | .call { callee:=.value (.func f),args,argTypes:=_ }=>match P.funcs[f]? with
  |some fn=>if true then some (.call f h (args.toList.map .of))else none
  |none=>none
 | .call { callee:=.value (.tmp t),args,argTypes:=_ }=>some (.callv (.tmp t) h (args.toList.map .of))
 |_=>none
def z9x{α:Type}:List α→Nat→Option α
 |[],_=>none
 |x::_,0=>some x
 |_::l,n+1=>z9x l n
def z9r(ops:List Oper):Option (Nat×Bool)→Option (Nat×Bool)
 |none=>none
 |some (j,want)=>match z9x ops j with
  |some o=>match o.dst with
   |some d=>some (d,want)
   |none=>none
  |none=>none
def z1H(P:Program)(H:Option Nat→Nat)(fps:Nat→Option Nat)(ops:List Oper):Nat→List Oper→List SOper
 |_,[]=>[]
 |j,o::l=>match zbx P o (H o.dst)with
  |some op=>⟨o.dst,z9r ops o.guard,fps j,op⟩::z1H P H fps ops (j+1) l
  |none=>z1H P H fps ops (j+1) l
def z3J:List SOper→List Nat
 |[]=>[]
 |x::l=>x.news++z3J l
def z6a:List Oper→Bool
 |[]=>false
 |o::l=>match o.op with
  | .call { callee:=.builtin .append, .. }=>true
  |_=>z6a l
def z5U(P:Program)(H:Nat→Option Nat→Nat)(ops:List Oper)(app:Bool):List (Nat→Option Nat)→List (List Nat×List SOper)
 |[]=>[]
 |F::r=>match app with
  |true=>(z3J (z1H P (H 0) F ops 0 ops),z1H P (H 0) F ops 0 ops)::(z3J (z1H P (H 1) F ops 0 ops),z1H P (H 1) F ops 0 ops)::z5U P H ops app r
  |false=>(z3J (z1H P (H 0) F ops 0 ops),z1H P (H 0) F ops 0 ops)::z5U P H ops app r
def z1y(P:Program)(H:Nat→Option Nat→Nat)(Fp:Nat→List (Nat→Option Nat))(K:Nat→List Nat):Code→SCode
 | .skip=> .skip
 | .region id ops _=>match has (K id) 9999 with
  |true=> .regq (z5U P H ops.toList (z6a ops.toList) (Fp id)) (K id)
  |false=> .reg (z5U P H ops.toList (z6a ops.toList) (Fp id)) (K id)
 | .seq a b=> .seq (z1y P H Fp K a) (z1y P H Fp K b)
 | .cond c a b=> .cond (Arg.of c) (z1y P H Fp K a) (z1y P H Fp K b)
 | .block id a=> .block id (z1y P H Fp K a)
 | .loop a=> .loop (z1y P H Fp K a)
 | .exit id=> .exit id
 | .ret=> .ret
 |_=> .skip
def zbI(P:Program)(f:Nat)(H:Nat→Option Nat→Nat)(Fp:Nat→List (Nat→Option Nat))(K:Nat→List Nat):SCode:=match z9x P.funcs.toList f with
 |some fn=>match fn.body with
  |some c=>z1y P H Fp K c
  |none=> .skip
 |none=> .skip
def z9l:Nat→Nat→List Nat
 |_,0=>[]
 |a,n+1=>a::z9l (a+1) n
def exO(a:Nat):List Nat:=match Nat.ble 2000000 a with
 |true=>[a-2000000]
 |false=>match Nat.ble 1000 a with
  |true=>match Nat.ble 1000000 a with
   |true=>z9l 0 (a%1000+1)
   |false=>z9l (a / 1000) (a%1000+1-a / 1000)
  |false=>[a]
def exR:List Nat→List Nat
 |a::l=>exO a++exR l
 |_=>[]
def exK:Nat→List (List Nat)→List (Nat×List Nat)
 |_,[]=>[]
 |n,x::l=>(n,exR x)::exK (n+1) l
structure GA where
 f:Nat
 N:Nat
 h:List (Nat×Nat)
 p:List (Nat×List (List (Nat×Nat)))
 k:List (List Nat)
 r:List SRes
 e:Bool
abbrev gD(P:Program)(a:GA):SFunc:=⟨a.N,zbI P a.f (zj a.h) (fpT a.p) (zk (exK 0 a.k)),a.r,a.e⟩
abbrev gT(P:Program)(a:GA):Prop:=z7 P a.f (zj a.h) (fpT a.p) (zk (exK 0 a.k)) a.e=some (gD P a)
theorem iOf(n:Nat):Int.ofNat (no_index (OfNat.ofNat n))=OfNat.ofNat n:=rfl
theorem u8f(n:Nat)(h:n<2 ^ 8):UInt8.ofBitVec (BitVec.ofFin ⟨n,h⟩)=UInt8.ofNat n:=by
 apply UInt8.toNat_inj.1;show n=(UInt8.ofNat n).toNat
 grind [UInt8.toNat_ofNat',Nat.mod_eq_of_lt]
theorem u8h(n:Nat):UInt8.ofBitVec (BitVec.ofNat 8 n)=UInt8.ofNat n:=rfl
theorem u8g(n:Nat):UInt8.ofNat (no_index (OfNat.ofNat n))=OfNat.ofNat n:=rfl
theorem arO{α:Type}(l:List α):Array.mk l=l.toArray:=rfl
section
open Go.Mor
theorem vcA:type_of%(wa8 (wa8 (wa8 @iOf @u8f @u8g @u8h @arO @bFT @bTF @ES.fgt.eq_1) (wa8 @List.map_cons.{0,0} @List.map_nil.{0,0} @fgt3.eq_1 @TV.m3.eq_1 @TV.m3.eq_2 @TV.m2.eq_1 @TV.m2.eq_2 @TV.m1.eq_1) (wa8 @TV.m1.eq_2 @TV.m0.eq_1 @TV.m0.eq_2 @TV.m0.eq_3 @TV.m0.eq_4 @TV.m0.eq_5 @TV.m0.eq_6 @TV.m0.eq_7) (wa8 @TV.mF.eq_1 @TV.mF.eq_2 @TV.mE.eq_1 @TV.mE.eq_2 @TV.idsF.eq_1 @TV.idsF.eq_2 @TV.idsE.eq_1 @TV.idsE.eq_2) (wa8 @TV.renF.eq_1 @TV.renF.eq_2 @TV.renE.eq_1 @TV.renE.eq_2 @List.any_cons.{0} @List.any_nil.{0} @Bool.or_false @Bool.false_or) (wa8 @drp.eq_1 @drp.eq_2 @effG.eq_1 @effF.eq_1 @footOk.eq_1 @SOp.foot.eq_1 @SOp.foot.eq_2 @SOp.foot.eq_3) (wa8 @SOp.foot.eq_4 @only.eq_1 @only.eq_2 @isK.eq_1 @isK.eq_2 @eff.eq_1 @eff.eq_2 @eff.eq_3) (wa8 @eff.eq_4 @eff.eq_5 @eff.eq_6 @eff.eq_7 @eff.eq_8 @eff.eq_9 @eff.eq_11 @eff.eq_12)) (wa8 (wa8 @eff.eq_13 @eff.eq_14 @eff.eq_15 @eff.eq_16 @eff.eq_17 @eff.eq_18 @eff.eq_19 @eff.eq_20) (wa8 @eff.eq_21 @eff.eq_22 @eff.eq_23 @eff.eq_25 @eff.eq_28 @eff.eq_31 @eff.eq_32 @eff.eq_33) (wa8 @eff.eq_34 @eff.eq_35 @eff.eq_44 @eff.eq_45 @Arg.get.eq_1 @Arg.get.eq_2 @ES.fs.eq_1 @lk.eq_1) (wa8 @lk.eq_2 @Option.map_some.{0,0} @Option.bind_some.{0,0} @ES.after.eq_1 @ES.upd.eq_1 @ES.upd.eq_2 @ES.upd.eq_3 @ES.upd.eq_4) (wa8 @ES.upd.eq_5 @ES.upd.eq_6 @ES.upd.eq_7 @ES.put.eq_1 @ES.put.eq_2 @sv.eq_1 @sv.eq_2 @ES.kill.eq_1) (wa8 @ES.kill.eq_2 @has.eq_1 @has.eq_2 @nbeq @nble @nblt @TV.val.eq_1 @TV.val.eq_2) (wa8 @TV.val1.eq_1 @TV.val1.eq_2 @TV.int.eq_1 @TV.int.eq_2 @TV.str.eq_1 @TV.str.eq_2 @TV.cells.eq_1 @TV.cells.eq_2) (wa8 @TV.cells.eq_3 @TV.cells.eq_4 @TV.cells.eq_5 @TV.slen.eq_1 @TV.slen.eq_2 @TV.slen.eq_3 @TV.slen.eq_4 @TV.slen.eq_5)) (wa8 (wa8 @TV.toPV.eq_1 @TV.toPV.eq_2 @TV.toPV.eq_3 @TV.pvs.eq_1 @seqO.eq_1 @seqO.eq_2 @bin_lss @bin_gtr) (wa8 @bin_leq @bin_geq @bin_eql @bin_neq @bin_add @bin_sub @bin_mul @sbin_eql) (wa8 @sbin_neq @sbin_lss @sbin_gtr @un_neg @un_not @startE.eq_1 @numT.eq_1 @numT.eq_2) (wa8 @numB.eq_1 @numB.eq_2 @numB.eq_3 @numR.eq_1 @numR.eq_2 @numR.eq_3 @ansW.eq_1 @ansW.eq_2) (wa8 @resT.eq_1 @resT.eq_2 @SRes.get.eq_1 @SRes.get.eq_2 @List.flatMap_nil.{0,0} @List.flatMap_cons.{0,0} @List.append_nil.{0} @List.nil_append.{0}) (wa8 @TV.ids3.eq_1 @TV.ids3.eq_2 @TV.ids2.eq_1 @TV.ids2.eq_2 @TV.ids1.eq_1 @TV.ids1.eq_2 @TV.ids0.eq_1 @TV.ids0.eq_2) (wa8 @TV.ids0.eq_3 @TV.ids0.eq_4 @TV.ren3.eq_1 @TV.ren3.eq_2 @TV.ren2.eq_1 @TV.ren2.eq_2 @TV.ren1.eq_1 @TV.ren1.eq_2) (wa8 @TV.ren0.eq_1 @TV.ren0.eq_2 @TV.ren0.eq_3 @TV.ren0.eq_4 @TV.ren0.eq_5 @TV.ren0.eq_6 @bound.eq_1 @bound.eq_2)) (wa8 (wa8 @if_true.{1} @if_false.{1} @Bool.false_eq_true @partsT.eq_1 @fillT.eq_1 @fillT.eq_2 @splice.eq_1 @List.take_zero.{0}) (wa8 @List.take_succ_cons.{0} @List.drop_zero.{0} @List.drop_succ_cons.{0} @List.length_cons.{0} @List.length_nil.{0} @and_self @and_true @true_and) (wa8 @List.cons_append.{0} @List.getElem?_cons_zero.{0} @List.getElem?_cons_succ.{0} @Nat.zero_add @Bool.not_true @Bool.not_false @Go.Value.oneCell'.eq_1 @Go.Value.oneCell'.eq_2) (wa8 @Go.Value.oneCell'.eq_3 @Go.Mor.str_toList @Go.Mor.str_size' @Int.toNat_natCast @decide_true @decide_false @beq_self_eq_true.{0} @handI.eq_1) (wa8 @FS.mo.eq_1 @MO.ren.eq_1 @MO.ren.eq_2 @rhoIn.eq_1 @pos.eq_1 @pos.eq_2 @rhoOut.eq_1 @outs.eq_1) (wa8 @outs.eq_2 @newId.eq_1 @dstId.eq_1 @dstId.eq_2 @putMem.eq_1 @putMem.eq_2 @List.lookup.eq_1.{0,0} @List.lookup.eq_2.{0,0}) (wa8 @moOk.eq_1 @moOk.eq_2 @moOk.eq_3 @moOk.eq_4 @Nat.le_refl @Int.natCast_nonneg @v_skip @v_seq) (wa8 @v_exit @v_ret @v_block @v_cond @v_reg @v_reg2 @v_nil @v_regK)) (wa8 (wa8 @v_skipK @v_op @v_guard @gW @gW_u @PostR.eq_1 @PostR.eq_2 @PostR.eq_3) (wa8 @PostR.eq_4 @exitR.eq_1 @exitF.eq_1 @idsFrom.eq_1 @idsFrom.eq_2 @gW_undef @Nat.sub_zero @gW_i) (wa8 @gK_T1 @gK_T0 @gK_F1 @gK_F0 @gK_d1 @gK_d0 @gK_n1 @gK_n0) (wa8 @v_then_n @v_then_r @v_then_x @v_blk_n @v_blk_r @v_blk_x @s_some @s_none) (wa8 @s_ite @s_get @bW_T @bW_F @bW_d @bW_n @bW_a @bW_o) (wa8 @bK @callIn.eq_1 @callOut.eq_1 @callvIn.eq_1 @TV.callee.eq_1 @TV.callee.eq_2 @TV.callee.eq_3 @TV.callee.eq_4) (wa8 @Post0.eq_1 @Post0.eq_2 @Post0.eq_3 @Post0.eq_4 @Post1.eq_1 @Post1.eq_2 @Post1.eq_3 @Post1.eq_4) (wa8 @ansW1.eq_1 @ansW1.eq_2 @bin_quoI @bin_remI @sbin_addI @TV.elems.eq_1 @TV.elems.eq_2 @TV.elems.eq_3)) (wa8 (wa8 @TV.elems.eq_4 @TV.isNil.eq_1 @TV.isNil.eq_2 @List.all_cons.{0} @List.all_nil.{0} @Bool.and_true @Bool.true_and @Bool.and_false) (wa8 @Bool.false_and @Bool.and_self @ne_eq.{1} @not_false_eq_true @not_true_eq_false @false_and @and_false @or_false) (wa8 @or_self @false_or @imp_self @forall_const.{0} @Option.isNone_none.{0} @List.getElem?_nil.{0} @decide_eq_true_eq @eq_self.{1}) (wa8 @Go.Mor.str_list @Go.Mor.str_append @Go.Mor.str_extract @List.getElem?_map.{0,0} @Option.map_map.{0,0,0} @List.length_map.{0,0} @Function.comp_apply.{1,1,1} @List.length_append.{0}) (wa8 @List.length_set.{0} @List.set_cons_zero.{0} @List.set_cons_succ.{0} @imp_false @Decidable.not_not @e_ssub @e_ssub1 @e_ssub2) (wa8 @e_ssub3 @e_ssub4 @e_sub @e_sub1 @e_sub2 @e_sub3 @e_sub4 @e_subT1) (wa8 @e_subT2 @e_subT3 @e_appB @e_appB1 @e_appN @e_appN1 @e_appN2 @e_appNS) (wa8 @e_appNS1 @e_appNS2 @e_rng @e_rng1 @e_mks @e_mks1 @e_bslO @e_bslO1)) (wa8 (wa8 @e_nxt @e_nxt1 @e_nxt2 @s_ite2 @reach_nil @reach_cons @reach_m1 @reach_m2) (wa8 @reach_m3 @reach_m4 @Option.map_none.{0,0} @Option.bind_none.{0,0} @nc_mov @nc_pick @nc_bin @nc_un) (wa8 @nc_cvi @nc_cvs @nc_b2s @nc_imm @nc_sidx @nc_ssub @nc_slen @nc_new) (wa8 @nc_box @nc_build @nc_bsl @nc_bslO @nc_fld @nc_fldA @nc_ld @nc_st) (wa8 @nc_len @nc_idxA @nc_sub @nc_app @nc_appS @nc_appN @nc_appNS @nc_appB) (wa8 @nc_ext @nc_nchk @nc_mkf @nc_rng @nc_nxt @nc_mks @nc_lkp @nc_mkI) (wa8 @nc_fnil @e_fnil @e_fnil1 @e_fnil2 @e_fnil3 @e_fnil4 @nc_pan @e_lkp) (wa8 @e_lkp1 @e_lkp2 @e_lkp3 @findKs.eq_1 @findKs.eq_2 @kdOf.eq_1 @zeroT.eq_1 @zeroT.eq_2)) (wa7 (wa8 @v_then_p @v_blk_p @v_panK @sp_some @sp_get @sp_ite @dstOps.eq_1 @List.filterMap_cons.{0,0}) (wa8 @List.filterMap_nil.{0,0} @PostP.eq_1 @PostP.eq_2 @vp_opE @vp_panE @panW1 @np_mov @np_pick) (wa8 @np_bin @np_un @np_cvi @np_cvs @np_b2s @np_imm @np_sidx @np_ssub) (wa8 @np_slen @np_new @np_box @np_build @np_bsl @np_bslO @np_fld @np_fldA) (wa8 @np_ld @np_st @np_len @np_idxA @np_sub @np_app @np_appS @np_appN) (wa8 @np_appNS @np_appB @np_ext @np_nchk @np_mkf @np_rng @np_nxt @np_mks) (wa3 @np_lkp @np_mkI @np_fnil))):=wa8 (wa8 (wa8 @iOf @u8f @u8g @u8h @arO @bFT @bTF @ES.fgt.eq_1) (wa8 @List.map_cons.{0,0} @List.map_nil.{0,0} @fgt3.eq_1 @TV.m3.eq_1 @TV.m3.eq_2 @TV.m2.eq_1 @TV.m2.eq_2 @TV.m1.eq_1) (wa8 @TV.m1.eq_2 @TV.m0.eq_1 @TV.m0.eq_2 @TV.m0.eq_3 @TV.m0.eq_4 @TV.m0.eq_5 @TV.m0.eq_6 @TV.m0.eq_7) (wa8 @TV.mF.eq_1 @TV.mF.eq_2 @TV.mE.eq_1 @TV.mE.eq_2 @TV.idsF.eq_1 @TV.idsF.eq_2 @TV.idsE.eq_1 @TV.idsE.eq_2) (wa8 @TV.renF.eq_1 @TV.renF.eq_2 @TV.renE.eq_1 @TV.renE.eq_2 @List.any_cons.{0} @List.any_nil.{0} @Bool.or_false @Bool.false_or) (wa8 @drp.eq_1 @drp.eq_2 @effG.eq_1 @effF.eq_1 @footOk.eq_1 @SOp.foot.eq_1 @SOp.foot.eq_2 @SOp.foot.eq_3) (wa8 @SOp.foot.eq_4 @only.eq_1 @only.eq_2 @isK.eq_1 @isK.eq_2 @eff.eq_1 @eff.eq_2 @eff.eq_3) (wa8 @eff.eq_4 @eff.eq_5 @eff.eq_6 @eff.eq_7 @eff.eq_8 @eff.eq_9 @eff.eq_11 @eff.eq_12)) (wa8 (wa8 @eff.eq_13 @eff.eq_14 @eff.eq_15 @eff.eq_16 @eff.eq_17 @eff.eq_18 @eff.eq_19 @eff.eq_20) (wa8 @eff.eq_21 @eff.eq_22 @eff.eq_23 @eff.eq_25 @eff.eq_28 @eff.eq_31 @eff.eq_32 @eff.eq_33) (wa8 @eff.eq_34 @eff.eq_35 @eff.eq_44 @eff.eq_45 @Arg.get.eq_1 @Arg.get.eq_2 @ES.fs.eq_1 @lk.eq_1) (wa8 @lk.eq_2 @Option.map_some.{0,0} @Option.bind_some.{0,0} @ES.after.eq_1 @ES.upd.eq_1 @ES.upd.eq_2 @ES.upd.eq_3 @ES.upd.eq_4) (wa8 @ES.upd.eq_5 @ES.upd.eq_6 @ES.upd.eq_7 @ES.put.eq_1 @ES.put.eq_2 @sv.eq_1 @sv.eq_2 @ES.kill.eq_1) (wa8 @ES.kill.eq_2 @has.eq_1 @has.eq_2 @nbeq @nble @nblt @TV.val.eq_1 @TV.val.eq_2) (wa8 @TV.val1.eq_1 @TV.val1.eq_2 @TV.int.eq_1 @TV.int.eq_2 @TV.str.eq_1 @TV.str.eq_2 @TV.cells.eq_1 @TV.cells.eq_2) (wa8 @TV.cells.eq_3 @TV.cells.eq_4 @TV.cells.eq_5 @TV.slen.eq_1 @TV.slen.eq_2 @TV.slen.eq_3 @TV.slen.eq_4 @TV.slen.eq_5)) (wa8 (wa8 @TV.toPV.eq_1 @TV.toPV.eq_2 @TV.toPV.eq_3 @TV.pvs.eq_1 @seqO.eq_1 @seqO.eq_2 @bin_lss @bin_gtr) (wa8 @bin_leq @bin_geq @bin_eql @bin_neq @bin_add @bin_sub @bin_mul @sbin_eql) (wa8 @sbin_neq @sbin_lss @sbin_gtr @un_neg @un_not @startE.eq_1 @numT.eq_1 @numT.eq_2) (wa8 @numB.eq_1 @numB.eq_2 @numB.eq_3 @numR.eq_1 @numR.eq_2 @numR.eq_3 @ansW.eq_1 @ansW.eq_2) (wa8 @resT.eq_1 @resT.eq_2 @SRes.get.eq_1 @SRes.get.eq_2 @List.flatMap_nil.{0,0} @List.flatMap_cons.{0,0} @List.append_nil.{0} @List.nil_append.{0}) (wa8 @TV.ids3.eq_1 @TV.ids3.eq_2 @TV.ids2.eq_1 @TV.ids2.eq_2 @TV.ids1.eq_1 @TV.ids1.eq_2 @TV.ids0.eq_1 @TV.ids0.eq_2) (wa8 @TV.ids0.eq_3 @TV.ids0.eq_4 @TV.ren3.eq_1 @TV.ren3.eq_2 @TV.ren2.eq_1 @TV.ren2.eq_2 @TV.ren1.eq_1 @TV.ren1.eq_2) (wa8 @TV.ren0.eq_1 @TV.ren0.eq_2 @TV.ren0.eq_3 @TV.ren0.eq_4 @TV.ren0.eq_5 @TV.ren0.eq_6 @bound.eq_1 @bound.eq_2)) (wa8 (wa8 @if_true.{1} @if_false.{1} @Bool.false_eq_true @partsT.eq_1 @fillT.eq_1 @fillT.eq_2 @splice.eq_1 @List.take_zero.{0}) (wa8 @List.take_succ_cons.{0} @List.drop_zero.{0} @List.drop_succ_cons.{0} @List.length_cons.{0} @List.length_nil.{0} @and_self @and_true @true_and) (wa8 @List.cons_append.{0} @List.getElem?_cons_zero.{0} @List.getElem?_cons_succ.{0} @Nat.zero_add @Bool.not_true @Bool.not_false @Go.Value.oneCell'.eq_1 @Go.Value.oneCell'.eq_2) (wa8 @Go.Value.oneCell'.eq_3 @Go.Mor.str_toList @Go.Mor.str_size' @Int.toNat_natCast @decide_true @decide_false @beq_self_eq_true.{0} @handI.eq_1) (wa8 @FS.mo.eq_1 @MO.ren.eq_1 @MO.ren.eq_2 @rhoIn.eq_1 @pos.eq_1 @pos.eq_2 @rhoOut.eq_1 @outs.eq_1) (wa8 @outs.eq_2 @newId.eq_1 @dstId.eq_1 @dstId.eq_2 @putMem.eq_1 @putMem.eq_2 @List.lookup.eq_1.{0,0} @List.lookup.eq_2.{0,0}) (wa8 @moOk.eq_1 @moOk.eq_2 @moOk.eq_3 @moOk.eq_4 @Nat.le_refl @Int.natCast_nonneg @v_skip @v_seq) (wa8 @v_exit @v_ret @v_block @v_cond @v_reg @v_reg2 @v_nil @v_regK)) (wa8 (wa8 @v_skipK @v_op @v_guard @gW @gW_u @PostR.eq_1 @PostR.eq_2 @PostR.eq_3) (wa8 @PostR.eq_4 @exitR.eq_1 @exitF.eq_1 @idsFrom.eq_1 @idsFrom.eq_2 @gW_undef @Nat.sub_zero @gW_i) (wa8 @gK_T1 @gK_T0 @gK_F1 @gK_F0 @gK_d1 @gK_d0 @gK_n1 @gK_n0) (wa8 @v_then_n @v_then_r @v_then_x @v_blk_n @v_blk_r @v_blk_x @s_some @s_none) (wa8 @s_ite @s_get @bW_T @bW_F @bW_d @bW_n @bW_a @bW_o) (wa8 @bK @callIn.eq_1 @callOut.eq_1 @callvIn.eq_1 @TV.callee.eq_1 @TV.callee.eq_2 @TV.callee.eq_3 @TV.callee.eq_4) (wa8 @Post0.eq_1 @Post0.eq_2 @Post0.eq_3 @Post0.eq_4 @Post1.eq_1 @Post1.eq_2 @Post1.eq_3 @Post1.eq_4) (wa8 @ansW1.eq_1 @ansW1.eq_2 @bin_quoI @bin_remI @sbin_addI @TV.elems.eq_1 @TV.elems.eq_2 @TV.elems.eq_3)) (wa8 (wa8 @TV.elems.eq_4 @TV.isNil.eq_1 @TV.isNil.eq_2 @List.all_cons.{0} @List.all_nil.{0} @Bool.and_true @Bool.true_and @Bool.and_false) (wa8 @Bool.false_and @Bool.and_self @ne_eq.{1} @not_false_eq_true @not_true_eq_false @false_and @and_false @or_false) (wa8 @or_self @false_or @imp_self @forall_const.{0} @Option.isNone_none.{0} @List.getElem?_nil.{0} @decide_eq_true_eq @eq_self.{1}) (wa8 @Go.Mor.str_list @Go.Mor.str_append @Go.Mor.str_extract @List.getElem?_map.{0,0} @Option.map_map.{0,0,0} @List.length_map.{0,0} @Function.comp_apply.{1,1,1} @List.length_append.{0}) (wa8 @List.length_set.{0} @List.set_cons_zero.{0} @List.set_cons_succ.{0} @imp_false @Decidable.not_not @e_ssub @e_ssub1 @e_ssub2) (wa8 @e_ssub3 @e_ssub4 @e_sub @e_sub1 @e_sub2 @e_sub3 @e_sub4 @e_subT1) (wa8 @e_subT2 @e_subT3 @e_appB @e_appB1 @e_appN @e_appN1 @e_appN2 @e_appNS) (wa8 @e_appNS1 @e_appNS2 @e_rng @e_rng1 @e_mks @e_mks1 @e_bslO @e_bslO1)) (wa8 (wa8 @e_nxt @e_nxt1 @e_nxt2 @s_ite2 @reach_nil @reach_cons @reach_m1 @reach_m2) (wa8 @reach_m3 @reach_m4 @Option.map_none.{0,0} @Option.bind_none.{0,0} @nc_mov @nc_pick @nc_bin @nc_un) (wa8 @nc_cvi @nc_cvs @nc_b2s @nc_imm @nc_sidx @nc_ssub @nc_slen @nc_new) (wa8 @nc_box @nc_build @nc_bsl @nc_bslO @nc_fld @nc_fldA @nc_ld @nc_st) (wa8 @nc_len @nc_idxA @nc_sub @nc_app @nc_appS @nc_appN @nc_appNS @nc_appB) (wa8 @nc_ext @nc_nchk @nc_mkf @nc_rng @nc_nxt @nc_mks @nc_lkp @nc_mkI) (wa8 @nc_fnil @e_fnil @e_fnil1 @e_fnil2 @e_fnil3 @e_fnil4 @nc_pan @e_lkp) (wa8 @e_lkp1 @e_lkp2 @e_lkp3 @findKs.eq_1 @findKs.eq_2 @kdOf.eq_1 @zeroT.eq_1 @zeroT.eq_2)) (wa7 (wa8 @v_then_p @v_blk_p @v_panK @sp_some @sp_get @sp_ite @dstOps.eq_1 @List.filterMap_cons.{0,0}) (wa8 @List.filterMap_nil.{0,0} @PostP.eq_1 @PostP.eq_2 @vp_opE @vp_panE @panW1 @np_mov @np_pick) (wa8 @np_bin @np_un @np_cvi @np_cvs @np_b2s @np_imm @np_sidx @np_ssub) (wa8 @np_slen @np_new @np_box @np_build @np_bsl @np_bslO @np_fld @np_fldA) (wa8 @np_ld @np_st @np_len @np_idxA @np_sub @np_app @np_appS @np_appN) (wa8 @np_appNS @np_appB @np_ext @np_nchk @np_mkf @np_rng @np_nxt @np_mks) (wa3 @np_lkp @np_mkI @np_fnil))
end
end Go.Sh
end

section
namespace Go.Proofs.YtcpaleaajdilgaaDoor
open Go Go.RowKit Go.Mor Go.Sh
abbrev zC:=SCalls Tryd.prog
theorem vW:type_of%vcA∧type_of%vV:=⟨vcA,vV⟩
theorem wG{x y:Int}(h:x=y:=by omega)(h0: -9223372036854775808≤x:=by omega)(h1:x≤9223372036854775807:=by omega):IntKind.i64.wrap x=y:=by rw[z1c h0 h1,h]
theorem wS(i:Nat)(h:(i:Int)≤9223372036854775806:=by omega):IntKind.i64.wrap ((i:Int)+1)=((i+1:Nat):Int):=wG
theorem lwA{s0 s:ES}(h:s0.Lw s:=by apply z0l<;>simp[leL,lk,sv,Nat.beq,I,S,ES.kill,has,drp,zM]):s0.Lw s:=h
section
variable{g:Sh.Glob}{f:Nat}{H:Nat→Option Nat→Nat}{Fp:Nat→List (Nat→Option Nat)}{K:Nat→List Nat}{keep:Bool}{F:SFunc}{xs:List TV}{os os':List MO}{y:TV}{G:Prop}{c:SCode}
theorem za(hF:z7 Tryd.prog f H Fp K keep=some F)(h:swp Tryd.prog g c (Post0 F.res y) (startE xs []))(hn:Nat.ble xs.length F.N=true:=by rfl)(hc:F.code=c:=by conv=>lhs;reduce):zC g f xs [] y []:=
 z9c ze hF hn (hc▸h)
theorem z5a(hF:z7 Tryd.prog f H Fp K false=some F)(h:swp Tryd.prog g c (Post1 F.res y) (startE xs []))(hk:F.keep=false:=by rfl)(hn:Nat.ble xs.length F.N=true:=by rfl)(hc:F.code=c:=by conv=>lhs;reduce):zC g f xs [] y []:=
 z9d ze hF hk hn (hc▸h)
theorem z2E(hF:z7 Tryd.prog f H Fp K keep=some F)(h:swp Tryd.prog g c (PostR F.res F.keep os.length y os') (startE xs os))(hn:Nat.ble xs.length F.N=true:=by rfl)(hos:Nat.ble os.length 1000=true:=by rfl)(hmo:moOk os os'=true:=by rfl)(hc:F.code=c:=by conv=>lhs;reduce):zC g f xs os y os':=
 z50 ze hF hn hos hmo (hc▸h)
end
section
variable{g:Sh.Glob}{f m:Nat}{dst fp:Option Nat}{xs:List Arg}{xs':List TV}{I:List Nat}{os os':List MO}{y:TV}{l:List SOper}{K:ES→Prop}{s s':ES}{G:Prop}
theorem z6(hc:zC g f xs' os y os')(hk:zy Tryd.prog g l K s')(hx:callIn s m xs=some (xs',os,I):=by simp only[vW,seval];rfl)(hfp:z69 fp I=true:=by rfl)(hmo:moOk os os'=true:=by first|rfl|(simp only[vcA,seval];omega))(hs:callOut s dst I y os'=some s':=by simp only[vW,seval];rfl):
  zy Tryd.prog g (⟨dst,none,fp,.call f m xs⟩::l) K s:=z6E hx hfp hc hmo hs hk
theorem z2K(hc:zC g f xs' os y os')(h:G)(hx:callIn s m xs=some (xs',os,I):=by simp only[vW,seval];rfl)(hfp:z69 fp I=true:=by rfl)(hmo:moOk os os'=true:=by first|rfl|(simp only[vcA,seval];omega))(hs:callOut s dst I y os'=some s':=by simp only[vW,seval];rfl)(hr:zy Tryd.prog g l K s'=G:=by simp only[vW,seval];rfl):
  zy Tryd.prog g (⟨dst,none,fp,.call f m xs⟩::l) K s:=z6E hx hfp hc hmo hs (hr▸h)
theorem z0w(hc:zC g f xs' os y os')(hx:callIn s m xs=some (xs',os,I):=by simp only[vW,seval];rfl)(hfp:z69 fp I=true:=by rfl)(hmo:moOk os os'=true:=by first|rfl|(simp only[vcA,seval];omega))(hs:callOut s dst I y os'=some s':=by simp only[vW,seval];rfl)(hr:zy Tryd.prog g l K s':=by simp only[vW,seval]):
  zy Tryd.prog g (⟨dst,none,fp,.call f m xs⟩::l) K s:=z6E hx hfp hc hmo hs hr
end
end Go.Proofs.YtcpaleaajdilgaaDoor
section
namespace Go.Proofs.YtcpaleaajdilgaaDoor
open Go Go.Sh
theorem kv{α:Type}{a b:Option α}(h:a=b:=by simp only[vcA,seval,vV];rfl):a=b:=h
theorem km{a b:List MO}(h:moOk a b=true:=by first|rfl|(simp only[vcA,seval];omega)):moOk a b=true:=h
end Go.Proofs.YtcpaleaajdilgaaDoor
end
end

section
namespace Go.Proofs.YtcpaleaajdilgaaDoor
open Go Go.RowKit Go.Mor Go.Sh Go.Sh.Cd1
theorem e0:(⟨#[]⟩:ByteArray)=str []:=rfl
theorem z7B(l:zB)(p:Nat):Utf8.decode (str l) p=Lib.decodeL (l.drop p):=by rw[←Lib.decodeL_drop,str_toList]
def B(b:Bool):TV:=.pv (.v (.bool b))
theorem z9H(g:Sh.Glob)(r:Nat):zC g 62 [.pv (.v (.int .i32 (r:Int)))] [] (B (z25 r)) []:=by
 refine za tf_46 ?_;have h1:decide ((32:Int)≤(r:Int))=decide (32≤r):=by rw[Bool.eq_iff_iff];simp;omega
 have h2:decide ((r:Int)=127)=(r==127):=by rw[Bool.eq_iff_iff];simp;omega
 unfold z25 B;by_cases h:32≤r
 ·have d1:(32:Int)≤(r:Int):=by omega
  simp only[vW,seval,d1,h2,h];rfl
 ·have d1:¬(32:Int)≤(r:Int):=by omega
  simp only[vW,seval,d1,h]
theorem z5e(m:Nat)(l:zB)(hl:l.length≤9223372036854775807):zC (gl0 m) 61 [S (str l)] [] (B (Lib.validD l)) []:=by
 have:=z4b m 61 [S (str l)] [] (B (Lib.validD l)) [] (by simp[z5W,S,B,Nat.beq,str_size',hl,str_toList]);exact this
theorem z5O(m:Nat)(l:zB)(hl:l.length≤9223372036854775807):zC (gl0 m) 50 [S (str l)] [] (B (z0z l)) []:=by
 refine za tf_48 ?_;have HV:=z5e m l hl;unfold z0z B at*;by_cases h60:(l.length:Int)≤60
 ·have d1:¬(60:Int)<(l.length:Int):=by omega
  have h60':l.length≤60:=by omega
  simp only[vW,seval,d1];refine z6 HV ?_;cases hv:Lib.validD l
  ·simp only[vW,seval]
  simp only[vW,seval];refine zE (σ:={p:Nat // p≤l.length∧z19 l=z19 (l.drop p)}) (fun p=>⟨[(14,.it 14)],[],[],[(14,(str l,p.1))]⟩) (fun p=>l.length-p.1) ⟨0,Nat.zero_le _,rfl⟩ (z1C rfl) ?_;rintro⟨p,hp,hd⟩;by_cases hlt:p<l.length
  ·have hne:l.drop p≠[]:=by rw[Ne,List.drop_eq_nil_iff];omega
   rw[z4a _ hne]at hd;have hle:=Lib.decodeL_le (l.drop p) hne;have hw:=Lib.decodeL_width (l.drop p);rw[List.length_drop]at hle;have HP:=z9H (gl0 m) (Lib.decodeL (l.drop p)).1;unfold B at HP;simp only[vW,seval,hlt,z7B];refine z6 HP ?_;cases hr:z25 (Lib.decodeL (l.drop p)).1
   ·rw[hr]at hd;simp only[vW,seval];simp[hd]
   ·simp only[vW,seval];rw[hr,Bool.true_and,List.drop_drop]at hd;refine zc ⟨p+(Lib.decodeL (l.drop p)).2,by omega,hd⟩ (by show l.length-(p+_)<l.length-p;omega) ?_;exact lwA
  ·simp only[vW,seval,hlt,h60'];have hnil:l.drop p=[]:=List.drop_eq_nil_of_le (by omega);rw[hnil]at hd;rw[hd];rfl
 ·have d1:(60:Int)<(l.length:Int):=by omega
  have h60':¬l.length≤60:=by omega
  simp only[vW,seval,d1];simp[h60']
theorem za5(g:Sh.Glob)(x:V):zC g 49 [tv x] [] (B (bare x)) []:=by
 refine za tf_43 ?_;have h1:decide ((x.l.length:Int)=0)=(x.l.length==0):=by rw[Bool.eq_iff_iff];simp
 unfold bare B;cases h:x.s==[]
 ·simp only[vW,seval,e0,h]
 ·simp only[vW,seval,e0,h,h1]
theorem z7Y(g:Sh.Glob)(n:Int):zC g 51 [I n] [] (B (z1q n)) []:=by
 refine za tf_47 ?_;unfold B;simp only[vW,seval];unfold z1q
 repeat' (first|(apply And.intro)|(intro _))
 all_goals(first|rfl|(simp;omega)|(simp_all;done)|(simp_all;omega))
theorem z5x(k n:Int)(s:zB)(l:List V):z1a (.mk k n s l)=if k=0 then bare (.mk k n s l)&&n==0
 else if k=1 then bare (.mk k n s l)&&decide (-1000000000000000≤n)&&decide (n≤1000000000000000)
 else if k=2 then n==0&&l.length==0&&z0z s
 else if k=3∨k=4 then bare (.mk k n s l)&&z1q n
 else false:=rfl
theorem z4U(m:Nat)(x:V)(hs:z0t x)(h5:x.k≠5):zC (gl0 m) 34 [tv x] [] (B (z1a x)) []:=by
 obtain⟨k,n,s,l⟩:=x;have HB:=za5 (gl0 m) (.mk k n s l);have HI:=z7Y (gl0 m) n;have HT:=z5O m s hs;have hln:decide ((l.length:Int)=0)=(l.length==0):=by rw[Bool.eq_iff_iff];simp
 have k5:¬k=5:=h5;clear h5 hs;rw[z5x];generalize bare (.mk k n s l)=b at HB ⊢;refine za tf_42 ?_;unfold B at*;by_cases k0:k=0
 ·subst k0;have hn0:decide (n=0)=(n==0):=by rw[Bool.eq_iff_iff];simp
  simp only[vW,seval];refine z6 HB ?_;cases b<;>simp only[vW,seval,hn0]
 rw[if_neg k0];by_cases k1:k=1
 ·subst k1;simp only[vW,seval];refine z6 HB ?_;cases b
  ·simp only[vW,seval]
  ·by_cases q1: -1000000000000000≤n<;>by_cases q2:n≤1000000000000000<;>simp only[vW,seval,q1,q2]
 rw[if_neg k1];by_cases k2:k=2
 ·subst k2;by_cases n0:n=0
  ·subst n0;cases hl:l.length==0
   ·simp only[vW,seval,hln,hl]
   ·simp only[vW,seval,hln,hl];exact z0w HT
  ·have hn0:(n==0)=false:=by simpa using n0
   simp only[vW,seval,n0,hn0]
 rw[if_neg k2];by_cases k3:k=3
 ·subst k3;simp only[vW,seval];refine z6 HB ?_;cases b
  ·simp only[vW,seval]
  ·simp only[vW,seval];exact z0w HI
 by_cases k4:k=4
 ·subst k4;simp only[vW,seval];refine z6 HB ?_;cases b
  ·simp only[vW,seval]
  ·simp only[vW,seval];exact z0w HI
 simp only[vW,seval,k0,k1,k2,k3,k4,k5]
theorem z7M(m:Nat)(x:V)(hs:z0t x):zC (gl0 m) 52 [tv x] [] (B (zR x)) []:=by
 refine za tf_44 ?_;unfold zR B;by_cases k5:x.k=5
 ·have h:(x.k==5)=true:=by simp[k5]
  have d:decide (x.k=5)=true:=by simp[k5]
  simp only[vW,seval,d,h];rfl
 ·have HR:=z4U m x hs k5;have h:(x.k==5)=false:=by simpa using k5
  unfold B at HR;simp only[vW,seval,k5,h];exact z0w HR
theorem z0O{α:Type}(p:α→Bool):∀(l:List α) (i:Nat),(∀j x,j<i→l[j]?=some x→p x=false)→∀x,l[i]?=some x→p x=true→zU p l=i
 |[],i,_,x,hx,_=>by simp at hx
 |a::l,0,_,x,hx,hp=>by simp at hx;subst hx;simp[zU,List.findIdx?_cons,hp]
 |a::l,i+1,h,x,hx,hp=>by
  have h0:=h 0 a (by omega) rfl;have:=z0O p l i (fun j y hj hy=>h (j+1) y (by omega) (by simpa using hy)) x (by simpa using hx) hp;unfold zU at this ⊢;rw[List.findIdx?_cons,h0];cases hf:l.findIdx? p with
  |none=>rw[hf]at this;simp only at this;omega
  |some q=>rw[hf]at this;simp only at this ⊢;simp;omega
theorem z0P{α:Type}(p:α→Bool)(l:List α)(h:∀x∈l,p x=false):zU p l= -1:=by
 have:l.findIdx? p=none:=List.findIdx?_eq_none_iff.2 h;unfold zU;rw[this]
theorem z43{α:Type}(p:α→Bool)(l:List α):decide (0≤zU p l)=l.any p:=by
 rw[Bool.eq_iff_iff,decide_eq_true_eq,List.any_eq_true];constructor
 ·intro h;by_cases hn:∀x∈l,p x=false
  ·rw[z0P p l hn]at h;omega
  ·obtain⟨x,hx⟩:=Classical.not_forall.1 hn;obtain⟨hx,hp⟩:=Classical.not_imp.1 hx;exact⟨x,hx,by simpa using hp⟩
 ·rintro⟨x,hx,hp⟩;unfold zU;cases hf:l.findIdx? p with
  |none=>rw[List.findIdx?_eq_none_iff.1 hf x hx]at hp;cases hp
  |some i=>simp
theorem z7K(m:Nat)(l:List V)(hl:l.length≤maxLen)(hs:∀x∈l,z0t x):zC (gl0 m) 53 [.pv (.sl 4 (V.rows l)),.pv (.v (.func (.func 52) #[] #[]))] [] (I (zU zR l)) []:=by
 refine za tf_39 ?_;have hm:maxLen=9223372036854775807:=rfl;simp only[vW,seval];refine zE (σ:={i:Nat // i≤l.length∧∀j x,j<i→l[j]?=some x→zR x=false}) (fun i=>⟨[(0,.pv (.sl 4 (V.rows l))),(1,.pv (.v (.func (.func 52) #[] #[]))),(7,I (l.length:Int)),(8,I (i.1:Int))],[],[],[]⟩) (fun i=>l.length-i.1) ⟨0,Nat.zero_le _,fun j x hj=>by omega⟩ (z1C (by simp[I])) ?_;rintro⟨i,hi,hno⟩;by_cases hlt:i<l.length
 ·have d1:(i:Int)<(l.length:Int):=by omega
  obtain⟨x,ex⟩:∃x,l[i]?=some x:=⟨_,gE hlt⟩
  have HN:=z7M m x (hs x (gM ex));have w1:=wS i;unfold tv B at HN;simp only[vW,seval,d1,ex];(with_reducible apply z5d);exact kv;exact HN;rfl;exact kv;cases hp:zR x
  ·simp only[vW,seval,w1];refine zc ⟨i+1,by omega,fun j y hj hy=> ?_⟩ (by show l.length-(i+1)<l.length-i;omega) ?_
   ·by_cases hji:j=i
    ·subst hji;rw[ex]at hy;cases hy;exact hp
    ·exact hno j y (by omega) hy
   ·exact lwA
  ·simp only[vW,seval];rw[z0O zR l i hno x ex hp]
 ·have d1:¬(i:Int)<(l.length:Int):=by omega
  simp only[vW,seval,d1];rw[z0P zR l (fun x hx=>by
   obtain⟨j,hj⟩:=List.getElem?_of_mem hx;exact hno j x (by have:=(gJ hj).1;omega) hj)]
theorem z5F(m:Nat)(l:List V)(hl:l.length≤maxLen)(hs:∀x∈l,z0t x):zC (gl0 m) 37 [.pv (.sl 4 (V.rows l)),.pv (.v (.func (.func 52) #[] #[]))] [] (B (l.any zR)) []:=by
 refine za tf_36 ?_;have HI:=z7K m l hl hs;rw[←z43];unfold B;simp only[vW,seval];exact z0w HI
theorem z7Z(m:Nat)(x:V)(hx:VOk x):zC (gl0 m) 34 [tv x] [] (B (z1b x)) []:=by
 unfold z1b;by_cases k5:x.k=5
 ·rw[if_pos k5];obtain⟨k,n,s,l⟩:=x;simp only[Vk]at k5;subst k5;simp only[Vn,Vs,Vl];refine za tf_42 ?_;unfold B;by_cases n0:n=0
  ·subst n0;cases hs:s==[]
   ·simp only[vW,seval,e0,hs]
   ·by_cases h12:l.length≤12
    ·have d1:(l.length:Int)≤12:=by omega
     have HC:=z5F m l (by unfold maxLen;omega) (fun y hy=>hx.2 y hy);unfold B at HC;simp only[vW,seval,e0,hs,d1,h12];exact z0w HC
    ·have d1:¬(l.length:Int)≤12:=by omega
     simp only[vW,seval,e0,hs,d1,h12]
  ·have hn0:(n==0)=false:=by simpa using n0
   simp only[vW,seval,n0,hn0]
 ·rw[if_neg k5];exact z4U m x hx.1 k5
theorem z6v(g:Sh.Glob)(t:Ty):zC g 35 [tyT t] [] (B (zf t)) []:=by
 refine za tf_49 ?_;obtain⟨k,o⟩:=t;unfold B;simp only[vW,seval];unfold zf
 repeat' (first|(apply And.intro)|(intro _))
 all_goals(first|(simp_all;done)|(simp_all;omega))
theorem z5p(g:Sh.Glob)(x:V)(k:Int):zC g 36 [tv x,I k] [] (B (zA x k)) []:=by
 refine za tf_45 ?_;unfold B;simp only[vW,seval];unfold zA
 repeat' (first|(apply And.intro)|(intro _))
 all_goals(first|(simp_all;done)|(simp only[Option.some.injEq,TV.pv.injEq,PV.v.injEq,Value.bool.injEq];rw[Bool.eq_iff_iff];simp_all;done)|(simp only[Option.some.injEq,TV.pv.injEq,PV.v.injEq,Value.bool.injEq];rw[Bool.eq_iff_iff];simp_all;omega))
theorem z9n(g:Sh.Glob)(x:V)(t:Ty):zC g 38 [tv x,.ptr 1000 0] [.box [I t.k,I t.o]] (B (!zA x t.o)) [.box [I t.k,I t.o]]:=by
 refine z2E tf_41 ?_;have HK:=z5p g x t.o;unfold B at*;simp only[vW,seval];exact z0w HK
theorem z6e(g:Sh.Glob)(l:List V)(t:Ty)(hl:l.length≤maxLen):zC g 53 [.pv (.sl 4 (V.rows l)),.fn (.func 38) [] [.ptr 1000 0]] [.box [I t.k,I t.o]] (I (zU (fun y=> !zA y t.o) l)) [.box [I t.k,I t.o]]:=by
 refine z2E tf_39 ?_;have hm:maxLen=9223372036854775807:=rfl;simp only[vW,seval];refine zE (σ:={i:Nat // i≤l.length∧∀j x,j<i→l[j]?=some x→(!zA x t.o)=false}) (fun i=>⟨[(0,.pv (.sl 4 (V.rows l))),(1,.fn (.func 38) [] [.ptr 1000 0]),(7,I (l.length:Int)),(8,I (i.1:Int))],[(1000,[I t.k,I t.o])],[],[]⟩) (fun i=>l.length-i.1) ⟨0,Nat.zero_le _,fun j x hj=>by omega⟩ (z1C (by simp[I])) ?_;rintro⟨i,hi,hno⟩;by_cases hlt:i<l.length
 ·have d1:(i:Int)<(l.length:Int):=by omega
  obtain⟨x,ex⟩:∃x,l[i]?=some x:=⟨_,gE hlt⟩
  have HN:=z9n g x t;have w1:=wS i;unfold tv B at HN;simp only[vW,seval,d1,ex];(with_reducible apply z5d);exact kv;exact HN;rfl;exact kv;cases hp:zA x t.o
  ·simp only[vW,seval];rw[z0O (fun y=> !zA y t.o) l i hno x ex (by simp[hp])]
  ·simp only[vW,seval,w1];refine zc ⟨i+1,by omega,fun j y hj hy=> ?_⟩ (by show l.length-(i+1)<l.length-i;omega) ?_
   ·by_cases hji:j=i
    ·subst hji;rw[ex]at hy;cases hy;simp[hp]
    ·exact hno j y (by omega) hy
   ·exact lwA
 ·have d1:¬(i:Int)<(l.length:Int):=by omega
  simp only[vW,seval,d1];rw[z0P (fun y=> !zA y t.o) l (fun x hx=>by
   obtain⟨j,hj⟩:=List.getElem?_of_mem hx;exact hno j x (by have:=(gJ hj).1;omega) hj)]
theorem z4C(g:Sh.Glob)(l:List V)(t:Ty)(hl:l.length≤maxLen):zC g 37 [.pv (.sl 4 (V.rows l)),.fn (.func 38) [] [.ptr 1000 0]] [.box [I t.k,I t.o]] (B (l.any fun y=> !zA y t.o)) [.box [I t.k,I t.o]]:=by
 refine z2E tf_36 ?_;have HI:=z6e g l t hl;rw[←z43];unfold B;simp only[vW,seval];exact z0w HI
theorem z9o(m:Nat)(x:V)(t:Ty)(hx:VOk x)(hl:x.l.length≤maxLen):zC (gl0 m) 20 [tv x,tyT t] [] (B (z1d x t)) []:=by
 refine za tf_40 ?_;have HR:=z7Z m x hx;have HT:=z6v (gl0 m) t;have HK:=z5p (gl0 m) x t.k;have HC:=z4C (gl0 m) x.l t hl;unfold z1d B at*;simp only[vW,seval];refine z6 HR ?_;cases z1b x
 ·simp only[vW,seval]
 simp only[vW,seval];refine z6 HT ?_;cases zf t
 ·simp only[vW,seval]
 simp only[vW,seval];refine z6 HK ?_;cases zA x t.k
 ·simp only[vW,seval]
 simp only[vW,seval];exact z0w HC
end Go.Proofs.YtcpaleaajdilgaaDoor
end
