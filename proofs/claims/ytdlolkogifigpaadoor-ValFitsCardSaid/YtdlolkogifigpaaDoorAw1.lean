/- The code of Cd1 is the program's; the examples run. No statement of the program is proved here. -/
import Derived.Test.YtdlolkogifigpaaDoorCd1
import Derived.Test.YtdlolkogifigpaaDoorPr1
import Derived.Test.YtdlolkogifigpaaDoorS16
set_option linter.unusedSimpArgs false
set_option linter.unusedVariables false
namespace Go.Proofs.YtdlolkogifigpaaDoor
open Go Go.RowKit Go.Mor Go.Sh Go.Sh.Cd1
set_option maxRecDepth 100000
set_option maxHeartbeats 8000000

theorem funcs_ok : FuncsOk Tryd.prog funcs := by
  intro f G h
  unfold funcs at h
  split at h
  · cases h; exact ⟨_, _, _, _, tf_morainelaw03_ValBack⟩
  · cases h; exact ⟨_, _, _, _, tf_morainelaw03_ValOrder⟩
  · cases h; exact ⟨_, _, _, _, tf_morainelaw03_ValCut⟩
  · cases h; exact ⟨_, _, _, _, tf_morainelaw03_ValKinds⟩
  · cases h; exact ⟨_, _, _, _, tf_morainelaw03_ValFits⟩
  · cases h; exact ⟨_, _, _, _, tf_val_Zero⟩
  · cases h; exact ⟨_, _, _, _, tf_morainelaw03_awake⟩
  · cases h; exact ⟨_, _, _, _, tf_morainelaw03_ValOf⟩
  · cases h; exact ⟨_, _, _, _, tf_val_Encode⟩
  · cases h; exact ⟨_, _, _, _, tf_val_Decode⟩
  · cases h; exact ⟨_, _, _, _, tf_moraineref03_Same⟩
  · cases h; exact ⟨_, _, _, _, tf_morainelaw03_odd⟩
  · cases h; exact ⟨_, _, _, _, tf_val_Compare⟩
  · cases h; exact ⟨_, _, _, _, tf_val_Same⟩
  · cases h; exact ⟨_, _, _, _, tf_morainelaw03_pick⟩
  · cases h; exact ⟨_, _, _, _, tf_morainelaw03_ValType⟩
  · cases h; exact ⟨_, _, _, _, tf_morainelaw03_ValFit⟩
  · cases h; exact ⟨_, _, _, _, tf_val_Fits⟩
  · cases h; exact ⟨_, _, _, _, tf_val_rightType⟩
  · cases h; exact ⟨_, _, _, _, tf_val_Read⟩
  · cases h; exact ⟨_, _, _, _, tf_val_Right⟩
  · cases h; exact ⟨_, _, _, _, tf_morainelaw03_ValOne⟩
  · cases h; exact ⟨_, _, _, _, tf_val_lay⟩
  · cases h; exact ⟨_, _, _, _, tf___val_decoder__value⟩
  · cases h; exact ⟨_, _, _, _, tf_moraineref03_Compare⟩
  · cases h; exact ⟨_, _, _, _, tf_cmp_Compare_int_⟩
  · cases h; exact ⟨_, _, _, _, tf_cmp_Compare_string_⟩
  · cases h; exact ⟨_, _, _, _, tf_val_byItems_api_Val_⟩
  · cases h; exact ⟨_, _, _, _, tf_morainelaw03_fit⟩
  · cases h; exact ⟨_, _, _, _, tf_val_ofKind⟩
  · cases h; exact ⟨_, _, _, _, tf_slices_ContainsFunc___api_Val_api_Val_⟩
  · cases h; exact ⟨_, _, _, _, tf_val_Fits_1⟩
  · cases h; exact ⟨_, _, _, _, tf_moraineref03_IsText⟩
  · cases h; exact ⟨_, _, _, _, tf_val_reader⟩
  · cases h; exact ⟨_, _, _, _, tf_val_value⟩
  · cases h; exact ⟨_, _, _, _, tf_val_items⟩
  · cases h; exact ⟨_, _, _, _, tf_val_bare⟩
  · cases h; exact ⟨_, _, _, _, tf_val_rightText⟩
  · cases h; exact ⟨_, _, _, _, tf_val_rightID⟩
  · cases h; exact ⟨_, _, _, _, tf_val_noItem⟩
  · cases h; exact ⟨_, _, _, _, tf_morainelaw03_ValText⟩
  · cases h; exact ⟨_, _, _, _, tf___val_decoder__number⟩
  · cases h; exact ⟨_, _, _, _, tf___val_decoder__text⟩
  · cases h; exact ⟨_, _, _, _, tf___val_decoder__items⟩
  · cases h; exact ⟨_, _, _, _, tf_moraineref03_Order⟩
  · cases h; exact ⟨_, _, _, _, tf_cmp_isNaN_int_⟩
  · cases h; exact ⟨_, _, _, _, tf_cmp_isNaN_string_⟩
  · cases h; exact ⟨_, _, _, _, tf_slices_IndexFunc___api_Val_api_Val_⟩
  · cases h; exact ⟨_, _, _, _, tf_moraineref03_Sign⟩
  · cases h; exact ⟨_, _, _, _, tf_val_reader_1⟩
  · cases h; exact ⟨_, _, _, _, tf_val_first⟩
  · cases h; exact ⟨_, _, _, _, tf_val_quoted⟩
  · cases h; exact ⟨_, _, _, _, tf_val_reference⟩
  · cases h; exact ⟨_, _, _, _, tf_val_number⟩
  · cases h; exact ⟨_, _, _, _, tf_val_sign⟩
  · cases h; exact ⟨_, _, _, _, tf_val_plain⟩
  · cases h; exact ⟨_, _, _, _, tf_val_sign_1⟩
  · cases h
theorem hmix0 : Tryd.prog.follows .mixedOrders = true := by kernel_rfl
theorem awake_run : callF Tryd.prog funcs prim1 100 14 26 [] [] = some (.pv (.v (.bool true)), []) := by kernel_rfl
theorem awake_ok (a0 a1 : Addr) (n : Nat) : SCalls Tryd.prog (gl a0 a1 n) 26 [] [] (.pv (.v (.bool true))) [] :=
  callF_sound hmix0 funcs_ok (prim1_sound a0 a1 n) 14 _ _ _ _ _ awake_run
end Go.Proofs.YtdlolkogifigpaaDoor
