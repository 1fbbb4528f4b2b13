/-
  NARROWER THAN 'FOR EVERY INPUT', by the rows' own cells (each row's printed sentence says how): ExprBack: laid · ExprAround: laid · ValWritten: laid · ValRefs: laid · ValTells: laid · ClassValues: laid.
  DERIVED. THE GIVEN ROWS OF THIS SEAT. 6 by the template 'for every input the law returns true; each argument reads behind the call as it read before'; 0 by the template 'total and deterministic' (their statements: YthjphllpkcnehaaGreatDoorTotals.lean).
  GIVEN WITH THE SEED: the statements are not yours to turn. If you find one false, say at which input.
  Laid BY PROGRAM, IN A SANDBOX (cutbox-rows.mjs): the forced cells as the released guide's own fill.sh prints them over the translation 0579f0eda046badf… (all of the seat's roots in one cut). By AI agents, Wed Nov 11 2026. No macro, syntax, notation, axiom, sorry.
-/
import Derived.Test.YthjphllpkcnehaaGreatDoorChecked
import GoSem.PinnedTables
import GoSem.Claim
import GoSem.ClaimJoined
import GoSem.ClaimMapViews
import Derived.JoinedTies
import Derived.KernelRfl
namespace Go.Proofs.YthjphllpkcnehaaGreatDoor
/- THE CELL 'sum', in the pinned program and in every row, IS THE sha256 OF THE DUMP (.gsa) THAT YthjphllpkcnehaaGreatDoorProg.lean LOADS. Nothing in Lean hashes anything: it is a label: what it is worth is what the hold of that sum in a sandbox is worth. -/
noncomputable def Tryz.pinned : Pinned := { name := "ythjphllpkcnehaagreatdoor", sum := "0579f0eda046badf2237b4c7903428722ae2b36a248201dcbae84d9a2b7ff6e8", checked := Tryz.checked }
namespace Rows
def none {H : Type} : Left H := { results := [], args := [] }

/- WHAT THE LISTED PACKAGE-LEVEL VARIABLES READ AS WHEN THE CALL BEGINS. Each datum BY PROGRAM (the guide's laid-datum.mjs) off the statement by which the dump's own 'gosem.cut.vars' lays the variable. In a bare row this is a premise. The card (YthjphllpkcnehaaGreatDoorCards.lean) ties it to the program's text. -/
def laid_math_bits_deBruijn32tab {H : Type} : DataW H := .agg [.lit (.int .u8 0), .lit (.int .u8 1), .lit (.int .u8 28), .lit (.int .u8 2), .lit (.int .u8 29), .lit (.int .u8 14), .lit (.int .u8 24), .lit (.int .u8 3), .lit (.int .u8 30), .lit (.int .u8 22), .lit (.int .u8 20), .lit (.int .u8 15), .lit (.int .u8 25), .lit (.int .u8 17), .lit (.int .u8 4), .lit (.int .u8 8), .lit (.int .u8 31), .lit (.int .u8 27), .lit (.int .u8 13), .lit (.int .u8 23), .lit (.int .u8 21), .lit (.int .u8 19), .lit (.int .u8 16), .lit (.int .u8 7), .lit (.int .u8 26), .lit (.int .u8 12), .lit (.int .u8 18), .lit (.int .u8 6), .lit (.int .u8 11), .lit (.int .u8 5), .lit (.int .u8 10), .lit (.int .u8 9)]
def laid_math_bits_deBruijn64tab {H : Type} : DataW H := .agg [.lit (.int .u8 0), .lit (.int .u8 1), .lit (.int .u8 56), .lit (.int .u8 2), .lit (.int .u8 57), .lit (.int .u8 49), .lit (.int .u8 28), .lit (.int .u8 3), .lit (.int .u8 61), .lit (.int .u8 58), .lit (.int .u8 42), .lit (.int .u8 50), .lit (.int .u8 38), .lit (.int .u8 29), .lit (.int .u8 17), .lit (.int .u8 4), .lit (.int .u8 62), .lit (.int .u8 47), .lit (.int .u8 59), .lit (.int .u8 36), .lit (.int .u8 45), .lit (.int .u8 43), .lit (.int .u8 51), .lit (.int .u8 22), .lit (.int .u8 53), .lit (.int .u8 39), .lit (.int .u8 33), .lit (.int .u8 30), .lit (.int .u8 24), .lit (.int .u8 18), .lit (.int .u8 12), .lit (.int .u8 5), .lit (.int .u8 63), .lit (.int .u8 55), .lit (.int .u8 48), .lit (.int .u8 27), .lit (.int .u8 60), .lit (.int .u8 41), .lit (.int .u8 37), .lit (.int .u8 16), .lit (.int .u8 46), .lit (.int .u8 35), .lit (.int .u8 44), .lit (.int .u8 21), .lit (.int .u8 52), .lit (.int .u8 32), .lit (.int .u8 23), .lit (.int .u8 11), .lit (.int .u8 54), .lit (.int .u8 26), .lit (.int .u8 40), .lit (.int .u8 15), .lit (.int .u8 34), .lit (.int .u8 20), .lit (.int .u8 31), .lit (.int .u8 10), .lit (.int .u8 25), .lit (.int .u8 14), .lit (.int .u8 19), .lit (.int .u8 9), .lit (.int .u8 13), .lit (.int .u8 8), .lit (.int .u8 7), .lit (.int .u8 6)]
def laid_internal_strconv_uint64pow10 {H : Type} : DataW H := .agg [.lit (.int .u64 1), .lit (.int .u64 10), .lit (.int .u64 100), .lit (.int .u64 1000), .lit (.int .u64 10000), .lit (.int .u64 100000), .lit (.int .u64 1000000), .lit (.int .u64 10000000), .lit (.int .u64 100000000), .lit (.int .u64 1000000000), .lit (.int .u64 10000000000), .lit (.int .u64 100000000000), .lit (.int .u64 1000000000000), .lit (.int .u64 10000000000000), .lit (.int .u64 100000000000000), .lit (.int .u64 1000000000000000), .lit (.int .u64 10000000000000000), .lit (.int .u64 100000000000000000), .lit (.int .u64 1000000000000000000), .lit (.int .u64 10000000000000000000)]
def laid_unicode_utf8_acceptRanges {H : Type} : DataW H := .agg [.agg [.lit (.int .u8 128), .lit (.int .u8 191)], .agg [.lit (.int .u8 160), .lit (.int .u8 191)], .agg [.lit (.int .u8 128), .lit (.int .u8 159)], .agg [.lit (.int .u8 144), .lit (.int .u8 191)], .agg [.lit (.int .u8 128), .lit (.int .u8 143)], .agg [.lit (.int .u8 0), .lit (.int .u8 0)], .agg [.lit (.int .u8 0), .lit (.int .u8 0)], .agg [.lit (.int .u8 0), .lit (.int .u8 0)], .agg [.lit (.int .u8 0), .lit (.int .u8 0)], .agg [.lit (.int .u8 0), .lit (.int .u8 0)], .agg [.lit (.int .u8 0), .lit (.int .u8 0)], .agg [.lit (.int .u8 0), .lit (.int .u8 0)], .agg [.lit (.int .u8 0), .lit (.int .u8 0)], .agg [.lit (.int .u8 0), .lit (.int .u8 0)], .agg [.lit (.int .u8 0), .lit (.int .u8 0)], .agg [.lit (.int .u8 0), .lit (.int .u8 0)]]
/-- One of Go's own tables, pinned by name: the form's constant. -/
def laid_unicode_utf8_first : DataW Unit := Go.Pinned.utf8First
def laid_moraine_wire_errEnd {H : Type} : DataW H := .iface "*errors.errorString" (.ptr (.agg [.lit (.string [116, 104, 101, 32, 116, 101, 120, 116, 32, 101, 110, 100, 115, 32, 97, 104, 101, 97, 100, 32, 111, 102, 32, 119, 104, 97, 116, 32, 105, 115, 32, 116, 111, 32, 98, 101, 32, 114, 101, 97, 100])]))
def laid_moraine_wire_errForm {H : Type} : DataW H := .iface "*errors.errorString" (.ptr (.agg [.lit (.string [110, 111, 32, 110, 117, 109, 98, 101, 114, 32, 111, 114, 32, 116, 101, 120, 116, 32, 104, 97, 115, 32, 116, 104, 101, 115, 101, 32, 98, 121, 116, 101, 115])]))

/-- 'morainelaw05.ExprBack': WHATEVER THE INPUT: true; the input reads as it did. -/
def exprBackSpec : ChangeSpec := { name := "exprBack", fn := fun _ => fun
  | [d1, d2] => { results := [.lit (.bool true)], args := [d1, d2] }
  | _ => none }
def exprBackRow : OpenClaim := { program := "ythjphllpkcnehaagreatdoor", sum := "0579f0eda046badf2237b4c7903428722ae2b36a248201dcbae84d9a2b7ff6e8", func := "moraine/morainelaw05.ExprBack", spec := "exprBack", inPlace := ["internal/bytealg.CountString", "internal/bytealg.IndexByteString", "internal/bytealg.IndexString", "internal/abi.NoEscape", "internal/bytealg.MakeNoZero"], unfollowed := true, recurses := true, named := ["unicode/utf8.first", "unicode/utf8.acceptRanges", "internal/strconv.uint64pow10", "math/bits.deBruijn32tab", "math/bits.deBruijn64tab", "internal/bytealg.MaxLen"], apart := false, laid := [("math/bits.deBruijn32tab", laid_math_bits_deBruijn32tab), ("math/bits.deBruijn64tab", laid_math_bits_deBruijn64tab), ("internal/strconv.uint64pow10", laid_internal_strconv_uint64pow10), ("unicode/utf8.acceptRanges", laid_unicode_utf8_acceptRanges), ("unicode/utf8.first", laid_unicode_utf8_first)] }
def ExprBackSaid : Prop := exprBackRow.holds Tryz.pinned (OpenSpec.ofChange exprBackSpec)

/-- ITS FALSE NEIGHBOUR: 'it returns false'. Refute it at one input. -/
def exprBackWrong : ChangeSpec := { name := "exprBack", fn := fun _ => fun
  | [d1, d2] => { results := [.lit (.bool false)], args := [d1, d2] }
  | _ => none }
def ExprBackWrongFalsely : Prop := exprBackRow.holds Tryz.pinned (OpenSpec.ofChange exprBackWrong)

/-- 'morainelaw05.ExprAround': WHATEVER THE INPUT: true; the input reads as it did. -/
def exprAroundSpec : ChangeSpec := { name := "exprAround", fn := fun _ => fun
  | [d1, d2] => { results := [.lit (.bool true)], args := [d1, d2] }
  | _ => none }
def exprAroundRow : OpenClaim := { program := "ythjphllpkcnehaagreatdoor", sum := "0579f0eda046badf2237b4c7903428722ae2b36a248201dcbae84d9a2b7ff6e8", func := "moraine/morainelaw05.ExprAround", spec := "exprAround", inPlace := ["internal/bytealg.CountString", "internal/bytealg.IndexByteString", "internal/bytealg.IndexString", "internal/abi.NoEscape", "internal/bytealg.MakeNoZero"], unfollowed := true, recurses := true, named := ["unicode/utf8.first", "unicode/utf8.acceptRanges", "internal/strconv.uint64pow10", "math/bits.deBruijn32tab", "math/bits.deBruijn64tab", "internal/bytealg.MaxLen"], apart := false, laid := [("math/bits.deBruijn32tab", laid_math_bits_deBruijn32tab), ("math/bits.deBruijn64tab", laid_math_bits_deBruijn64tab), ("internal/strconv.uint64pow10", laid_internal_strconv_uint64pow10), ("unicode/utf8.acceptRanges", laid_unicode_utf8_acceptRanges), ("unicode/utf8.first", laid_unicode_utf8_first)] }
def ExprAroundSaid : Prop := exprAroundRow.holds Tryz.pinned (OpenSpec.ofChange exprAroundSpec)

/-- ITS FALSE NEIGHBOUR: 'it returns false'. Refute it at one input. -/
def exprAroundWrong : ChangeSpec := { name := "exprAround", fn := fun _ => fun
  | [d1, d2] => { results := [.lit (.bool false)], args := [d1, d2] }
  | _ => none }
def ExprAroundWrongFalsely : Prop := exprAroundRow.holds Tryz.pinned (OpenSpec.ofChange exprAroundWrong)

/-- 'morainelaw03.ValWritten': WHATEVER THE INPUT: true; the input reads as it did. -/
def valWrittenSpec : ChangeSpec := { name := "valWritten", fn := fun _ => fun
  | [d1, d2, d3, d4] => { results := [.lit (.bool true)], args := [d1, d2, d3, d4] }
  | _ => none }
def valWrittenRow : OpenClaim := { program := "ythjphllpkcnehaagreatdoor", sum := "0579f0eda046badf2237b4c7903428722ae2b36a248201dcbae84d9a2b7ff6e8", func := "moraine/morainelaw03.ValWritten", spec := "valWritten", inPlace := ["internal/reflectlite.TypeOf", "internal/bytealg.CountString", "internal/bytealg.IndexByteString", "internal/bytealg.IndexString", "internal/abi.NoEscape", "internal/bytealg.MakeNoZero"], unfollowed := true, recurses := true, named := ["unicode/utf8.first", "unicode/utf8.acceptRanges", "moraine/wire.errEnd", "moraine/wire.errForm", "internal/strconv.uint64pow10", "math/bits.deBruijn32tab", "math/bits.deBruijn64tab", "internal/bytealg.MaxLen"], apart := false, laid := [("math/bits.deBruijn32tab", laid_math_bits_deBruijn32tab), ("math/bits.deBruijn64tab", laid_math_bits_deBruijn64tab), ("internal/strconv.uint64pow10", laid_internal_strconv_uint64pow10), ("unicode/utf8.acceptRanges", laid_unicode_utf8_acceptRanges), ("moraine/wire.errEnd", laid_moraine_wire_errEnd), ("moraine/wire.errForm", laid_moraine_wire_errForm), ("unicode/utf8.first", laid_unicode_utf8_first)] }
def ValWrittenSaid : Prop := valWrittenRow.holds Tryz.pinned (OpenSpec.ofChange valWrittenSpec)

/-- ITS FALSE NEIGHBOUR: 'it returns false'. Refute it at one input. -/
def valWrittenWrong : ChangeSpec := { name := "valWritten", fn := fun _ => fun
  | [d1, d2, d3, d4] => { results := [.lit (.bool false)], args := [d1, d2, d3, d4] }
  | _ => none }
def ValWrittenWrongFalsely : Prop := valWrittenRow.holds Tryz.pinned (OpenSpec.ofChange valWrittenWrong)

/-- 'morainelaw03.ValRefs': WHATEVER THE INPUT: true; the input reads as it did. -/
def valRefsSpec : ChangeSpec := { name := "valRefs", fn := fun _ => fun
  | [d] => { results := [.lit (.bool true)], args := [d] }
  | _ => none }
def valRefsRow : OpenClaim := { program := "ythjphllpkcnehaagreatdoor", sum := "0579f0eda046badf2237b4c7903428722ae2b36a248201dcbae84d9a2b7ff6e8", func := "moraine/morainelaw03.ValRefs", spec := "valRefs", inPlace := ["internal/reflectlite.TypeOf", "internal/bytealg.CountString", "internal/bytealg.IndexByteString", "internal/bytealg.IndexString", "internal/abi.NoEscape", "internal/bytealg.MakeNoZero"], unfollowed := true, recurses := true, named := ["unicode/utf8.first", "unicode/utf8.acceptRanges", "moraine/wire.errEnd", "moraine/wire.errForm", "internal/strconv.uint64pow10", "math/bits.deBruijn32tab", "math/bits.deBruijn64tab", "internal/bytealg.MaxLen"], apart := false, laid := [("math/bits.deBruijn32tab", laid_math_bits_deBruijn32tab), ("math/bits.deBruijn64tab", laid_math_bits_deBruijn64tab), ("internal/strconv.uint64pow10", laid_internal_strconv_uint64pow10), ("unicode/utf8.acceptRanges", laid_unicode_utf8_acceptRanges), ("moraine/wire.errEnd", laid_moraine_wire_errEnd), ("moraine/wire.errForm", laid_moraine_wire_errForm), ("unicode/utf8.first", laid_unicode_utf8_first)] }
def ValRefsSaid : Prop := valRefsRow.holds Tryz.pinned (OpenSpec.ofChange valRefsSpec)

/-- ITS FALSE NEIGHBOUR: 'it returns false'. Refute it at one input. -/
def valRefsWrong : ChangeSpec := { name := "valRefs", fn := fun _ => fun
  | [d] => { results := [.lit (.bool false)], args := [d] }
  | _ => none }
def ValRefsWrongFalsely : Prop := valRefsRow.holds Tryz.pinned (OpenSpec.ofChange valRefsWrong)

/-- 'morainelaw03.ValTells': WHATEVER THE INPUT: true; the input reads as it did. -/
def valTellsSpec : ChangeSpec := { name := "valTells", fn := fun _ => fun
  | [d1, d2, d3, d4, d5, d6, d7, d8] => { results := [.lit (.bool true)], args := [d1, d2, d3, d4, d5, d6, d7, d8] }
  | _ => none }
def valTellsRow : OpenClaim := { program := "ythjphllpkcnehaagreatdoor", sum := "0579f0eda046badf2237b4c7903428722ae2b36a248201dcbae84d9a2b7ff6e8", func := "moraine/morainelaw03.ValTells", spec := "valTells", inPlace := ["internal/reflectlite.TypeOf", "internal/bytealg.CountString", "internal/bytealg.IndexByteString", "internal/bytealg.IndexString", "internal/abi.NoEscape", "internal/bytealg.MakeNoZero"], unfollowed := true, recurses := true, named := ["unicode/utf8.first", "unicode/utf8.acceptRanges", "moraine/wire.errEnd", "moraine/wire.errForm", "internal/strconv.uint64pow10", "math/bits.deBruijn32tab", "math/bits.deBruijn64tab", "internal/bytealg.MaxLen"], apart := false, laid := [("math/bits.deBruijn32tab", laid_math_bits_deBruijn32tab), ("math/bits.deBruijn64tab", laid_math_bits_deBruijn64tab), ("internal/strconv.uint64pow10", laid_internal_strconv_uint64pow10), ("unicode/utf8.acceptRanges", laid_unicode_utf8_acceptRanges), ("moraine/wire.errEnd", laid_moraine_wire_errEnd), ("moraine/wire.errForm", laid_moraine_wire_errForm), ("unicode/utf8.first", laid_unicode_utf8_first)] }
def ValTellsSaid : Prop := valTellsRow.holds Tryz.pinned (OpenSpec.ofChange valTellsSpec)

/-- ITS FALSE NEIGHBOUR: 'it returns false'. Refute it at one input. -/
def valTellsWrong : ChangeSpec := { name := "valTells", fn := fun _ => fun
  | [d1, d2, d3, d4, d5, d6, d7, d8] => { results := [.lit (.bool false)], args := [d1, d2, d3, d4, d5, d6, d7, d8] }
  | _ => none }
def ValTellsWrongFalsely : Prop := valTellsRow.holds Tryz.pinned (OpenSpec.ofChange valTellsWrong)

/-- 'morainelaw04.ClassValues': WHATEVER THE INPUT: true; the input reads as it did. -/
def classValuesSpec : ChangeSpec := { name := "classValues", fn := fun _ => fun
  | [d1, d2] => { results := [.lit (.bool true)], args := [d1, d2] }
  | _ => none }
def classValuesRow : OpenClaim := { program := "ythjphllpkcnehaagreatdoor", sum := "0579f0eda046badf2237b4c7903428722ae2b36a248201dcbae84d9a2b7ff6e8", func := "moraine/morainelaw04.ClassValues", spec := "classValues", inPlace := ["internal/reflectlite.TypeOf", "internal/bytealg.CountString", "internal/bytealg.IndexByteString", "internal/bytealg.IndexString", "internal/abi.NoEscape", "internal/bytealg.MakeNoZero"], unfollowed := true, recurses := true, named := ["unicode/utf8.first", "unicode/utf8.acceptRanges", "moraine/wire.errForm", "moraine/wire.errEnd", "internal/strconv.uint64pow10", "math/bits.deBruijn32tab", "math/bits.deBruijn64tab", "internal/bytealg.MaxLen"], apart := false, laid := [("math/bits.deBruijn32tab", laid_math_bits_deBruijn32tab), ("math/bits.deBruijn64tab", laid_math_bits_deBruijn64tab), ("internal/strconv.uint64pow10", laid_internal_strconv_uint64pow10), ("unicode/utf8.acceptRanges", laid_unicode_utf8_acceptRanges), ("moraine/wire.errEnd", laid_moraine_wire_errEnd), ("moraine/wire.errForm", laid_moraine_wire_errForm), ("unicode/utf8.first", laid_unicode_utf8_first)] }
def ClassValuesSaid : Prop := classValuesRow.holds Tryz.pinned (OpenSpec.ofChange classValuesSpec)

/-- ITS FALSE NEIGHBOUR: 'it returns false'. Refute it at one input. -/
def classValuesWrong : ChangeSpec := { name := "classValues", fn := fun _ => fun
  | [d1, d2] => { results := [.lit (.bool false)], args := [d1, d2] }
  | _ => none }
def ClassValuesWrongFalsely : Prop := classValuesRow.holds Tryz.pinned (OpenSpec.ofChange classValuesWrong)

/- THE SECOND FORM. 'bulk': how many values and letters a reading holds, each counted each time it is reached (what is shared counts as often as it is met; a slice's spare places count too). A statement '..UptoSaid' is the law's where the arguments, and the package variables that the reading takes, are together of bulk at most 1048576: NARROWER than '..Said'. Prove '..Said' where nothing that the law and all that it calls make is longer than what came in: it says more and counts as full. Else prove '..UptoSaid'. A law counts once. -/
mutual
def uptoBulk {H : Type} : DataW H → Nat
  | .lit (.string bytes) => bytes.length + 1
  | .lit _ => 1
  | .nil => 1
  | .ptr d => uptoBulk d + 1
  | .slice elems spare => uptoBulkAll elems + uptoBulkAll spare + 1
  | .agg parts => uptoBulkAll parts + 1
  | .iface _ d => uptoBulk d + 1
  | .map entries => uptoBulkEntries entries + 1
  | .held _ => 1
def uptoBulkAll {H : Type} : List (DataW H) → Nat
  | [] => 0
  | d :: r => uptoBulk d + uptoBulkAll r
def uptoBulkEntries {H : Type} : List (Lit × DataW H) → Nat
  | [] => 0
  | x :: r => uptoBulkEntry x + uptoBulkEntries r
def uptoBulkEntry {H : Type} : Lit × DataW H → Nat
  | (.string bytes, d) => bytes.length + uptoBulk d + 1
  | (_, d) => uptoBulk d + 1
 end
def uptoSmall : (H : Type) → List (DataW H) → Bool := fun _ ds => decide (uptoBulkAll ds ≤ 1048576)
def OpenSpec.upto (s : _root_.Go.ChangeSpec) : _root_.Go.OpenSpec := { _root_.Go.OpenSpec.ofChange s with cond := some uptoSmall }

/-- 'morainelaw05.ExprBack', WHERE WHAT IT READS IS OF BULK AT MOST 1048576: true; the input reads as it did. -/
def exprBackUptoRow : OpenClaim := { program := "ythjphllpkcnehaagreatdoor", sum := "0579f0eda046badf2237b4c7903428722ae2b36a248201dcbae84d9a2b7ff6e8", func := "moraine/morainelaw05.ExprBack", spec := "exprBack", inPlace := ["internal/bytealg.CountString", "internal/bytealg.IndexByteString", "internal/bytealg.IndexString", "internal/abi.NoEscape", "internal/bytealg.MakeNoZero"], unfollowed := true, recurses := true, named := ["unicode/utf8.first", "unicode/utf8.acceptRanges", "internal/strconv.uint64pow10", "math/bits.deBruijn32tab", "math/bits.deBruijn64tab", "internal/bytealg.MaxLen"], apart := false, laid := [("math/bits.deBruijn32tab", laid_math_bits_deBruijn32tab), ("math/bits.deBruijn64tab", laid_math_bits_deBruijn64tab), ("internal/strconv.uint64pow10", laid_internal_strconv_uint64pow10), ("unicode/utf8.acceptRanges", laid_unicode_utf8_acceptRanges), ("unicode/utf8.first", laid_unicode_utf8_first)], narrowed := true }
def ExprBackUptoSaid : Prop := exprBackUptoRow.holds Tryz.pinned (OpenSpec.upto exprBackSpec)

/-- 'morainelaw05.ExprAround', WHERE WHAT IT READS IS OF BULK AT MOST 1048576: true; the input reads as it did. -/
def exprAroundUptoRow : OpenClaim := { program := "ythjphllpkcnehaagreatdoor", sum := "0579f0eda046badf2237b4c7903428722ae2b36a248201dcbae84d9a2b7ff6e8", func := "moraine/morainelaw05.ExprAround", spec := "exprAround", inPlace := ["internal/bytealg.CountString", "internal/bytealg.IndexByteString", "internal/bytealg.IndexString", "internal/abi.NoEscape", "internal/bytealg.MakeNoZero"], unfollowed := true, recurses := true, named := ["unicode/utf8.first", "unicode/utf8.acceptRanges", "internal/strconv.uint64pow10", "math/bits.deBruijn32tab", "math/bits.deBruijn64tab", "internal/bytealg.MaxLen"], apart := false, laid := [("math/bits.deBruijn32tab", laid_math_bits_deBruijn32tab), ("math/bits.deBruijn64tab", laid_math_bits_deBruijn64tab), ("internal/strconv.uint64pow10", laid_internal_strconv_uint64pow10), ("unicode/utf8.acceptRanges", laid_unicode_utf8_acceptRanges), ("unicode/utf8.first", laid_unicode_utf8_first)], narrowed := true }
def ExprAroundUptoSaid : Prop := exprAroundUptoRow.holds Tryz.pinned (OpenSpec.upto exprAroundSpec)

/-- 'morainelaw03.ValWritten', WHERE WHAT IT READS IS OF BULK AT MOST 1048576: true; the input reads as it did. -/
def valWrittenUptoRow : OpenClaim := { program := "ythjphllpkcnehaagreatdoor", sum := "0579f0eda046badf2237b4c7903428722ae2b36a248201dcbae84d9a2b7ff6e8", func := "moraine/morainelaw03.ValWritten", spec := "valWritten", inPlace := ["internal/reflectlite.TypeOf", "internal/bytealg.CountString", "internal/bytealg.IndexByteString", "internal/bytealg.IndexString", "internal/abi.NoEscape", "internal/bytealg.MakeNoZero"], unfollowed := true, recurses := true, named := ["unicode/utf8.first", "unicode/utf8.acceptRanges", "moraine/wire.errEnd", "moraine/wire.errForm", "internal/strconv.uint64pow10", "math/bits.deBruijn32tab", "math/bits.deBruijn64tab", "internal/bytealg.MaxLen"], apart := false, laid := [("math/bits.deBruijn32tab", laid_math_bits_deBruijn32tab), ("math/bits.deBruijn64tab", laid_math_bits_deBruijn64tab), ("internal/strconv.uint64pow10", laid_internal_strconv_uint64pow10), ("unicode/utf8.acceptRanges", laid_unicode_utf8_acceptRanges), ("moraine/wire.errEnd", laid_moraine_wire_errEnd), ("moraine/wire.errForm", laid_moraine_wire_errForm), ("unicode/utf8.first", laid_unicode_utf8_first)], narrowed := true }
def ValWrittenUptoSaid : Prop := valWrittenUptoRow.holds Tryz.pinned (OpenSpec.upto valWrittenSpec)

/-- 'morainelaw03.ValRefs', WHERE WHAT IT READS IS OF BULK AT MOST 1048576: true; the input reads as it did. -/
def valRefsUptoRow : OpenClaim := { program := "ythjphllpkcnehaagreatdoor", sum := "0579f0eda046badf2237b4c7903428722ae2b36a248201dcbae84d9a2b7ff6e8", func := "moraine/morainelaw03.ValRefs", spec := "valRefs", inPlace := ["internal/reflectlite.TypeOf", "internal/bytealg.CountString", "internal/bytealg.IndexByteString", "internal/bytealg.IndexString", "internal/abi.NoEscape", "internal/bytealg.MakeNoZero"], unfollowed := true, recurses := true, named := ["unicode/utf8.first", "unicode/utf8.acceptRanges", "moraine/wire.errEnd", "moraine/wire.errForm", "internal/strconv.uint64pow10", "math/bits.deBruijn32tab", "math/bits.deBruijn64tab", "internal/bytealg.MaxLen"], apart := false, laid := [("math/bits.deBruijn32tab", laid_math_bits_deBruijn32tab), ("math/bits.deBruijn64tab", laid_math_bits_deBruijn64tab), ("internal/strconv.uint64pow10", laid_internal_strconv_uint64pow10), ("unicode/utf8.acceptRanges", laid_unicode_utf8_acceptRanges), ("moraine/wire.errEnd", laid_moraine_wire_errEnd), ("moraine/wire.errForm", laid_moraine_wire_errForm), ("unicode/utf8.first", laid_unicode_utf8_first)], narrowed := true }
def ValRefsUptoSaid : Prop := valRefsUptoRow.holds Tryz.pinned (OpenSpec.upto valRefsSpec)

/-- 'morainelaw03.ValTells', WHERE WHAT IT READS IS OF BULK AT MOST 1048576: true; the input reads as it did. -/
def valTellsUptoRow : OpenClaim := { program := "ythjphllpkcnehaagreatdoor", sum := "0579f0eda046badf2237b4c7903428722ae2b36a248201dcbae84d9a2b7ff6e8", func := "moraine/morainelaw03.ValTells", spec := "valTells", inPlace := ["internal/reflectlite.TypeOf", "internal/bytealg.CountString", "internal/bytealg.IndexByteString", "internal/bytealg.IndexString", "internal/abi.NoEscape", "internal/bytealg.MakeNoZero"], unfollowed := true, recurses := true, named := ["unicode/utf8.first", "unicode/utf8.acceptRanges", "moraine/wire.errEnd", "moraine/wire.errForm", "internal/strconv.uint64pow10", "math/bits.deBruijn32tab", "math/bits.deBruijn64tab", "internal/bytealg.MaxLen"], apart := false, laid := [("math/bits.deBruijn32tab", laid_math_bits_deBruijn32tab), ("math/bits.deBruijn64tab", laid_math_bits_deBruijn64tab), ("internal/strconv.uint64pow10", laid_internal_strconv_uint64pow10), ("unicode/utf8.acceptRanges", laid_unicode_utf8_acceptRanges), ("moraine/wire.errEnd", laid_moraine_wire_errEnd), ("moraine/wire.errForm", laid_moraine_wire_errForm), ("unicode/utf8.first", laid_unicode_utf8_first)], narrowed := true }
def ValTellsUptoSaid : Prop := valTellsUptoRow.holds Tryz.pinned (OpenSpec.upto valTellsSpec)

/-- 'morainelaw04.ClassValues', WHERE WHAT IT READS IS OF BULK AT MOST 1048576: true; the input reads as it did. -/
def classValuesUptoRow : OpenClaim := { program := "ythjphllpkcnehaagreatdoor", sum := "0579f0eda046badf2237b4c7903428722ae2b36a248201dcbae84d9a2b7ff6e8", func := "moraine/morainelaw04.ClassValues", spec := "classValues", inPlace := ["internal/reflectlite.TypeOf", "internal/bytealg.CountString", "internal/bytealg.IndexByteString", "internal/bytealg.IndexString", "internal/abi.NoEscape", "internal/bytealg.MakeNoZero"], unfollowed := true, recurses := true, named := ["unicode/utf8.first", "unicode/utf8.acceptRanges", "moraine/wire.errForm", "moraine/wire.errEnd", "internal/strconv.uint64pow10", "math/bits.deBruijn32tab", "math/bits.deBruijn64tab", "internal/bytealg.MaxLen"], apart := false, laid := [("math/bits.deBruijn32tab", laid_math_bits_deBruijn32tab), ("math/bits.deBruijn64tab", laid_math_bits_deBruijn64tab), ("internal/strconv.uint64pow10", laid_internal_strconv_uint64pow10), ("unicode/utf8.acceptRanges", laid_unicode_utf8_acceptRanges), ("moraine/wire.errEnd", laid_moraine_wire_errEnd), ("moraine/wire.errForm", laid_moraine_wire_errForm), ("unicode/utf8.first", laid_unicode_utf8_first)], narrowed := true }
def ClassValuesUptoSaid : Prop := classValuesUptoRow.holds Tryz.pinned (OpenSpec.upto classValuesSpec)

end Rows
end Go.Proofs.YthjphllpkcnehaaGreatDoor
