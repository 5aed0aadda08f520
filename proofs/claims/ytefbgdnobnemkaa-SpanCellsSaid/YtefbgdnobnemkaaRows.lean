/-
  No cell of these rows narrows 'for every input' (looked for: loops, veiled, ifaces, maps, wideKeys, modest, calm, conditions, laid).
  DERIVED. THE GIVEN ROWS OF THIS SEAT. 19 by the template 'for every input the law returns true; each argument reads behind the call as it read before'; 0 by the template 'total and deterministic' (their statements: YtefbgdnobnemkaaTotals.lean).
  GIVEN WITH THE SEED: the statements are not yours to turn. If you find one false, say at which input.
  Laid BY PROGRAM, IN A SANDBOX (cutbox-rows.mjs): the forced cells as the released guide's own fill.sh prints them over the translation b9532115a7a89f92… (all of the seat's roots in one cut). By AI agents, Wed Nov 11 2026. No macro, syntax, notation, axiom, sorry.
-/
import Derived.Test.YtefbgdnobnemkaaChecked
import GoSem.Claim
import GoSem.ClaimJoined
import GoSem.ClaimMapViews
import Derived.JoinedTies
import Derived.KernelRfl
namespace Go.Proofs.Ytefbgdnobnemkaa
/- THE CELL 'sum', in the pinned program and in every row, IS THE sha256 OF THE DUMP (.gsa) THAT YtefbgdnobnemkaaProg.lean LOADS. Nothing in Lean hashes anything: it is a label: what it is worth is what the hold of that sum in a sandbox is worth. -/
noncomputable def Try.pinned : Pinned := { name := "ytefbgdnobnemkaa", sum := "b9532115a7a89f92d5ff001a14fa693414e7a345fe321764b4a7af6eb51c531d", checked := Try.checked }
namespace Rows
def none {H : Type} : Left H := { results := [], args := [] }

/-- 'foolscaplaw6.SpanOrders': WHATEVER THE INPUT: true; the input reads as it did. -/
def spanOrdersSpec : ChangeSpec := { name := "spanOrders", fn := fun _ => fun
  | [d1, d2, d3] => { results := [.lit (.bool true)], args := [d1, d2, d3] }
  | _ => none }
def spanOrdersRow : OpenClaim := { program := "ytefbgdnobnemkaa", sum := "b9532115a7a89f92d5ff001a14fa693414e7a345fe321764b4a7af6eb51c531d", func := "foolscap/foolscaplaw6.SpanOrders", spec := "spanOrders", apart := false }
def SpanOrdersSaid : Prop := spanOrdersRow.holds Try.pinned (OpenSpec.ofChange spanOrdersSpec)

/-- ITS FALSE NEIGHBOUR: 'it returns false'. Refute it at one input. -/
def spanOrdersWrong : ChangeSpec := { name := "spanOrders", fn := fun _ => fun
  | [d1, d2, d3] => { results := [.lit (.bool false)], args := [d1, d2, d3] }
  | _ => none }
def SpanOrdersWrongFalsely : Prop := spanOrdersRow.holds Try.pinned (OpenSpec.ofChange spanOrdersWrong)

/-- 'foolscaplaw6.SpanParts': WHATEVER THE INPUT: true; the input reads as it did. -/
def spanPartsSpec : ChangeSpec := { name := "spanParts", fn := fun _ => fun
  | [d1, d2, d3, d4, d5, d6, d7] => { results := [.lit (.bool true)], args := [d1, d2, d3, d4, d5, d6, d7] }
  | _ => none }
def spanPartsRow : OpenClaim := { program := "ytefbgdnobnemkaa", sum := "b9532115a7a89f92d5ff001a14fa693414e7a345fe321764b4a7af6eb51c531d", func := "foolscap/foolscaplaw6.SpanParts", spec := "spanParts", apart := false }
def SpanPartsSaid : Prop := spanPartsRow.holds Try.pinned (OpenSpec.ofChange spanPartsSpec)

/-- ITS FALSE NEIGHBOUR: 'it returns false'. Refute it at one input. -/
def spanPartsWrong : ChangeSpec := { name := "spanParts", fn := fun _ => fun
  | [d1, d2, d3, d4, d5, d6, d7] => { results := [.lit (.bool false)], args := [d1, d2, d3, d4, d5, d6, d7] }
  | _ => none }
def SpanPartsWrongFalsely : Prop := spanPartsRow.holds Try.pinned (OpenSpec.ofChange spanPartsWrong)

/-- 'foolscaplaw6.SpanWhole': WHATEVER THE INPUT: true; the input reads as it did. -/
def spanWholeSpec : ChangeSpec := { name := "spanWhole", fn := fun _ => fun
  | [d] => { results := [.lit (.bool true)], args := [d] }
  | _ => none }
def spanWholeRow : OpenClaim := { program := "ytefbgdnobnemkaa", sum := "b9532115a7a89f92d5ff001a14fa693414e7a345fe321764b4a7af6eb51c531d", func := "foolscap/foolscaplaw6.SpanWhole", spec := "spanWhole", apart := false }
def SpanWholeSaid : Prop := spanWholeRow.holds Try.pinned (OpenSpec.ofChange spanWholeSpec)

/-- ITS FALSE NEIGHBOUR: 'it returns false'. Refute it at one input. -/
def spanWholeWrong : ChangeSpec := { name := "spanWhole", fn := fun _ => fun
  | [d] => { results := [.lit (.bool false)], args := [d] }
  | _ => none }
def SpanWholeWrongFalsely : Prop := spanWholeRow.holds Try.pinned (OpenSpec.ofChange spanWholeWrong)

/-- 'foolscaplaw6.SpanCells': WHATEVER THE INPUT: true; the input reads as it did. -/
def spanCellsSpec : ChangeSpec := { name := "spanCells", fn := fun _ => fun
  | [d1, d2] => { results := [.lit (.bool true)], args := [d1, d2] }
  | _ => none }
def spanCellsRow : OpenClaim := { program := "ytefbgdnobnemkaa", sum := "b9532115a7a89f92d5ff001a14fa693414e7a345fe321764b4a7af6eb51c531d", func := "foolscap/foolscaplaw6.SpanCells", spec := "spanCells", unfollowed := true, recurses := true, apart := false }
def SpanCellsSaid : Prop := spanCellsRow.holds Try.pinned (OpenSpec.ofChange spanCellsSpec)

/-- ITS FALSE NEIGHBOUR: 'it returns false'. Refute it at one input. -/
def spanCellsWrong : ChangeSpec := { name := "spanCells", fn := fun _ => fun
  | [d1, d2] => { results := [.lit (.bool false)], args := [d1, d2] }
  | _ => none }
def SpanCellsWrongFalsely : Prop := spanCellsRow.holds Try.pinned (OpenSpec.ofChange spanCellsWrong)

/-- 'foolscaplaw31.InsertTypes': WHATEVER THE INPUT: true; the input reads as it did. -/
def insertTypesSpec : ChangeSpec := { name := "insertTypes", fn := fun _ => fun
  | [d1, d2, d3, d4, d5, d6, d7, d8, d9] => { results := [.lit (.bool true)], args := [d1, d2, d3, d4, d5, d6, d7, d8, d9] }
  | _ => none }
def insertTypesRow : OpenClaim := { program := "ytefbgdnobnemkaa", sum := "b9532115a7a89f92d5ff001a14fa693414e7a345fe321764b4a7af6eb51c531d", func := "foolscap/foolscaplaw31.InsertTypes", spec := "insertTypes", apart := false }
def InsertTypesSaid : Prop := insertTypesRow.holds Try.pinned (OpenSpec.ofChange insertTypesSpec)

/-- ITS FALSE NEIGHBOUR: 'it returns false'. Refute it at one input. -/
def insertTypesWrong : ChangeSpec := { name := "insertTypes", fn := fun _ => fun
  | [d1, d2, d3, d4, d5, d6, d7, d8, d9] => { results := [.lit (.bool false)], args := [d1, d2, d3, d4, d5, d6, d7, d8, d9] }
  | _ => none }
def InsertTypesWrongFalsely : Prop := insertTypesRow.holds Try.pinned (OpenSpec.ofChange insertTypesWrong)

/-- 'foolscaplaw31.InsertNets': WHATEVER THE INPUT: true; the input reads as it did. -/
def insertNetsSpec : ChangeSpec := { name := "insertNets", fn := fun _ => fun
  | [d1, d2, d3, d4] => { results := [.lit (.bool true)], args := [d1, d2, d3, d4] }
  | _ => none }
def insertNetsRow : OpenClaim := { program := "ytefbgdnobnemkaa", sum := "b9532115a7a89f92d5ff001a14fa693414e7a345fe321764b4a7af6eb51c531d", func := "foolscap/foolscaplaw31.InsertNets", spec := "insertNets", apart := false }
def InsertNetsSaid : Prop := insertNetsRow.holds Try.pinned (OpenSpec.ofChange insertNetsSpec)

/-- ITS FALSE NEIGHBOUR: 'it returns false'. Refute it at one input. -/
def insertNetsWrong : ChangeSpec := { name := "insertNets", fn := fun _ => fun
  | [d1, d2, d3, d4] => { results := [.lit (.bool false)], args := [d1, d2, d3, d4] }
  | _ => none }
def InsertNetsWrongFalsely : Prop := insertNetsRow.holds Try.pinned (OpenSpec.ofChange insertNetsWrong)

/-- 'foolscaplaw31.InsertText': WHATEVER THE INPUT: true; the input reads as it did. -/
def insertTextSpec : ChangeSpec := { name := "insertText", fn := fun _ => fun
  | [d1, d2, d3, d4] => { results := [.lit (.bool true)], args := [d1, d2, d3, d4] }
  | _ => none }
def insertTextRow : OpenClaim := { program := "ytefbgdnobnemkaa", sum := "b9532115a7a89f92d5ff001a14fa693414e7a345fe321764b4a7af6eb51c531d", func := "foolscap/foolscaplaw31.InsertText", spec := "insertText", apart := false }
def InsertTextSaid : Prop := insertTextRow.holds Try.pinned (OpenSpec.ofChange insertTextSpec)

/-- ITS FALSE NEIGHBOUR: 'it returns false'. Refute it at one input. -/
def insertTextWrong : ChangeSpec := { name := "insertText", fn := fun _ => fun
  | [d1, d2, d3, d4] => { results := [.lit (.bool false)], args := [d1, d2, d3, d4] }
  | _ => none }
def InsertTextWrongFalsely : Prop := insertTextRow.holds Try.pinned (OpenSpec.ofChange insertTextWrong)

/-- 'foolscaplaw31.InsertOver': WHATEVER THE INPUT: true; the input reads as it did. -/
def insertOverSpec : ChangeSpec := { name := "insertOver", fn := fun _ => fun
  | [d1, d2, d3, d4] => { results := [.lit (.bool true)], args := [d1, d2, d3, d4] }
  | _ => none }
def insertOverRow : OpenClaim := { program := "ytefbgdnobnemkaa", sum := "b9532115a7a89f92d5ff001a14fa693414e7a345fe321764b4a7af6eb51c531d", func := "foolscap/foolscaplaw31.InsertOver", spec := "insertOver", apart := false }
def InsertOverSaid : Prop := insertOverRow.holds Try.pinned (OpenSpec.ofChange insertOverSpec)

/-- ITS FALSE NEIGHBOUR: 'it returns false'. Refute it at one input. -/
def insertOverWrong : ChangeSpec := { name := "insertOver", fn := fun _ => fun
  | [d1, d2, d3, d4] => { results := [.lit (.bool false)], args := [d1, d2, d3, d4] }
  | _ => none }
def InsertOverWrongFalsely : Prop := insertOverRow.holds Try.pinned (OpenSpec.ofChange insertOverWrong)

/-- 'foolscaplaw31.InsertBreaks': WHATEVER THE INPUT: true; the input reads as it did. -/
def insertBreaksSpec : ChangeSpec := { name := "insertBreaks", fn := fun _ => fun
  | [d1, d2, d3, d4] => { results := [.lit (.bool true)], args := [d1, d2, d3, d4] }
  | _ => none }
def insertBreaksRow : OpenClaim := { program := "ytefbgdnobnemkaa", sum := "b9532115a7a89f92d5ff001a14fa693414e7a345fe321764b4a7af6eb51c531d", func := "foolscap/foolscaplaw31.InsertBreaks", spec := "insertBreaks", apart := false }
def InsertBreaksSaid : Prop := insertBreaksRow.holds Try.pinned (OpenSpec.ofChange insertBreaksSpec)

/-- ITS FALSE NEIGHBOUR: 'it returns false'. Refute it at one input. -/
def insertBreaksWrong : ChangeSpec := { name := "insertBreaks", fn := fun _ => fun
  | [d1, d2, d3, d4] => { results := [.lit (.bool false)], args := [d1, d2, d3, d4] }
  | _ => none }
def InsertBreaksWrongFalsely : Prop := insertBreaksRow.holds Try.pinned (OpenSpec.ofChange insertBreaksWrong)

/-- 'foolscaplaw31.InsertKeys': WHATEVER THE INPUT: true; the input reads as it did. -/
def insertKeysSpec : ChangeSpec := { name := "insertKeys", fn := fun _ => fun
  | [d1, d2, d3, d4, d5] => { results := [.lit (.bool true)], args := [d1, d2, d3, d4, d5] }
  | _ => none }
def insertKeysRow : OpenClaim := { program := "ytefbgdnobnemkaa", sum := "b9532115a7a89f92d5ff001a14fa693414e7a345fe321764b4a7af6eb51c531d", func := "foolscap/foolscaplaw31.InsertKeys", spec := "insertKeys", apart := false }
def InsertKeysSaid : Prop := insertKeysRow.holds Try.pinned (OpenSpec.ofChange insertKeysSpec)

/-- ITS FALSE NEIGHBOUR: 'it returns false'. Refute it at one input. -/
def insertKeysWrong : ChangeSpec := { name := "insertKeys", fn := fun _ => fun
  | [d1, d2, d3, d4, d5] => { results := [.lit (.bool false)], args := [d1, d2, d3, d4, d5] }
  | _ => none }
def InsertKeysWrongFalsely : Prop := insertKeysRow.holds Try.pinned (OpenSpec.ofChange insertKeysWrong)

/-- 'foolscaplaw31.InsertBeside': WHATEVER THE INPUT: true; the input reads as it did. -/
def insertBesideSpec : ChangeSpec := { name := "insertBeside", fn := fun _ => fun
  | [d1, d2, d3, d4, d5, d6] => { results := [.lit (.bool true)], args := [d1, d2, d3, d4, d5, d6] }
  | _ => none }
def insertBesideRow : OpenClaim := { program := "ytefbgdnobnemkaa", sum := "b9532115a7a89f92d5ff001a14fa693414e7a345fe321764b4a7af6eb51c531d", func := "foolscap/foolscaplaw31.InsertBeside", spec := "insertBeside", inPlace := ["internal/bytealg.IndexByteString", "internal/bytealg.IndexString", "internal/abi.NoEscape", "internal/bytealg.MakeNoZero"], named := ["internal/bytealg.MaxLen"], apart := false }
def InsertBesideSaid : Prop := insertBesideRow.holds Try.pinned (OpenSpec.ofChange insertBesideSpec)

/-- ITS FALSE NEIGHBOUR: 'it returns false'. Refute it at one input. -/
def insertBesideWrong : ChangeSpec := { name := "insertBeside", fn := fun _ => fun
  | [d1, d2, d3, d4, d5, d6] => { results := [.lit (.bool false)], args := [d1, d2, d3, d4, d5, d6] }
  | _ => none }
def InsertBesideWrongFalsely : Prop := insertBesideRow.holds Try.pinned (OpenSpec.ofChange insertBesideWrong)

/-- 'foolscaplaw28.OpsCut': WHATEVER THE INPUT: true; the input reads as it did. -/
def opsCutSpec : ChangeSpec := { name := "opsCut", fn := fun _ => fun
  | [d1, d2, d3, d4, d5, d6] => { results := [.lit (.bool true)], args := [d1, d2, d3, d4, d5, d6] }
  | _ => none }
def opsCutRow : OpenClaim := { program := "ytefbgdnobnemkaa", sum := "b9532115a7a89f92d5ff001a14fa693414e7a345fe321764b4a7af6eb51c531d", func := "foolscap/foolscaplaw28.OpsCut", spec := "opsCut", inPlace := ["internal/abi.NoEscape", "internal/bytealg.MakeNoZero"], unfollowed := true, recurses := true, apart := false }
def OpsCutSaid : Prop := opsCutRow.holds Try.pinned (OpenSpec.ofChange opsCutSpec)

/-- ITS FALSE NEIGHBOUR: 'it returns false'. Refute it at one input. -/
def opsCutWrong : ChangeSpec := { name := "opsCut", fn := fun _ => fun
  | [d1, d2, d3, d4, d5, d6] => { results := [.lit (.bool false)], args := [d1, d2, d3, d4, d5, d6] }
  | _ => none }
def OpsCutWrongFalsely : Prop := opsCutRow.holds Try.pinned (OpenSpec.ofChange opsCutWrong)

/-- 'foolscaplaw28.OpsShifts': WHATEVER THE INPUT: true; the input reads as it did. -/
def opsShiftsSpec : ChangeSpec := { name := "opsShifts", fn := fun _ => fun
  | [d1, d2, d3, d4, d5, d6] => { results := [.lit (.bool true)], args := [d1, d2, d3, d4, d5, d6] }
  | _ => none }
def opsShiftsRow : OpenClaim := { program := "ytefbgdnobnemkaa", sum := "b9532115a7a89f92d5ff001a14fa693414e7a345fe321764b4a7af6eb51c531d", func := "foolscap/foolscaplaw28.OpsShifts", spec := "opsShifts", inPlace := ["internal/abi.NoEscape", "internal/bytealg.MakeNoZero"], unfollowed := true, recurses := true, apart := false }
def OpsShiftsSaid : Prop := opsShiftsRow.holds Try.pinned (OpenSpec.ofChange opsShiftsSpec)

/-- ITS FALSE NEIGHBOUR: 'it returns false'. Refute it at one input. -/
def opsShiftsWrong : ChangeSpec := { name := "opsShifts", fn := fun _ => fun
  | [d1, d2, d3, d4, d5, d6] => { results := [.lit (.bool false)], args := [d1, d2, d3, d4, d5, d6] }
  | _ => none }
def OpsShiftsWrongFalsely : Prop := opsShiftsRow.holds Try.pinned (OpenSpec.ofChange opsShiftsWrong)

/-- 'foolscaplaw28.OpsCases': WHATEVER THE INPUT: true; the input reads as it did. -/
def opsCasesSpec : ChangeSpec := { name := "opsCases", fn := fun _ => fun
  | [d1, d2, d3, d4, d5, d6, d7] => { results := [.lit (.bool true)], args := [d1, d2, d3, d4, d5, d6, d7] }
  | _ => none }
def opsCasesRow : OpenClaim := { program := "ytefbgdnobnemkaa", sum := "b9532115a7a89f92d5ff001a14fa693414e7a345fe321764b4a7af6eb51c531d", func := "foolscap/foolscaplaw28.OpsCases", spec := "opsCases", inPlace := ["internal/abi.NoEscape", "internal/bytealg.MakeNoZero"], unfollowed := true, recurses := true, apart := false }
def OpsCasesSaid : Prop := opsCasesRow.holds Try.pinned (OpenSpec.ofChange opsCasesSpec)

/-- ITS FALSE NEIGHBOUR: 'it returns false'. Refute it at one input. -/
def opsCasesWrong : ChangeSpec := { name := "opsCases", fn := fun _ => fun
  | [d1, d2, d3, d4, d5, d6, d7] => { results := [.lit (.bool false)], args := [d1, d2, d3, d4, d5, d6, d7] }
  | _ => none }
def OpsCasesWrongFalsely : Prop := opsCasesRow.holds Try.pinned (OpenSpec.ofChange opsCasesWrong)

/-- 'foolscaplaw29.PutBack': WHATEVER THE INPUT: true; the input reads as it did. -/
def putBackSpec : ChangeSpec := { name := "putBack", fn := fun _ => fun
  | [d1, d2, d3, d4, d5, d6] => { results := [.lit (.bool true)], args := [d1, d2, d3, d4, d5, d6] }
  | _ => none }
def putBackRow : OpenClaim := { program := "ytefbgdnobnemkaa", sum := "b9532115a7a89f92d5ff001a14fa693414e7a345fe321764b4a7af6eb51c531d", func := "foolscap/foolscaplaw29.PutBack", spec := "putBack", inPlace := ["internal/bytealg.IndexByteString", "internal/bytealg.IndexString", "internal/abi.NoEscape", "internal/bytealg.MakeNoZero"], unfollowed := true, recurses := true, named := ["internal/bytealg.MaxLen"], apart := false }
def PutBackSaid : Prop := putBackRow.holds Try.pinned (OpenSpec.ofChange putBackSpec)

/-- ITS FALSE NEIGHBOUR: 'it returns false'. Refute it at one input. -/
def putBackWrong : ChangeSpec := { name := "putBack", fn := fun _ => fun
  | [d1, d2, d3, d4, d5, d6] => { results := [.lit (.bool false)], args := [d1, d2, d3, d4, d5, d6] }
  | _ => none }
def PutBackWrongFalsely : Prop := putBackRow.holds Try.pinned (OpenSpec.ofChange putBackWrong)

/-- 'foolscaplaw29.PutLimits': WHATEVER THE INPUT: true; the input reads as it did. -/
def putLimitsSpec : ChangeSpec := { name := "putLimits", fn := fun _ => fun
  | [d1, d2, d3] => { results := [.lit (.bool true)], args := [d1, d2, d3] }
  | _ => none }
def putLimitsRow : OpenClaim := { program := "ytefbgdnobnemkaa", sum := "b9532115a7a89f92d5ff001a14fa693414e7a345fe321764b4a7af6eb51c531d", func := "foolscap/foolscaplaw29.PutLimits", spec := "putLimits", inPlace := ["internal/bytealg.IndexByteString", "internal/bytealg.IndexString", "internal/abi.NoEscape", "internal/bytealg.MakeNoZero"], unfollowed := true, recurses := true, named := ["internal/bytealg.MaxLen"], apart := false }
def PutLimitsSaid : Prop := putLimitsRow.holds Try.pinned (OpenSpec.ofChange putLimitsSpec)

/-- ITS FALSE NEIGHBOUR: 'it returns false'. Refute it at one input. -/
def putLimitsWrong : ChangeSpec := { name := "putLimits", fn := fun _ => fun
  | [d1, d2, d3] => { results := [.lit (.bool false)], args := [d1, d2, d3] }
  | _ => none }
def PutLimitsWrongFalsely : Prop := putLimitsRow.holds Try.pinned (OpenSpec.ofChange putLimitsWrong)

/-- 'foolscaplaw29.PutLines': WHATEVER THE INPUT: true; the input reads as it did. -/
def putLinesSpec : ChangeSpec := { name := "putLines", fn := fun _ => fun
  | [d1, d2, d3, d4, d5, d6] => { results := [.lit (.bool true)], args := [d1, d2, d3, d4, d5, d6] }
  | _ => none }
def putLinesRow : OpenClaim := { program := "ytefbgdnobnemkaa", sum := "b9532115a7a89f92d5ff001a14fa693414e7a345fe321764b4a7af6eb51c531d", func := "foolscap/foolscaplaw29.PutLines", spec := "putLines", inPlace := ["internal/bytealg.IndexByteString", "internal/bytealg.IndexString", "internal/abi.NoEscape", "internal/bytealg.MakeNoZero"], unfollowed := true, recurses := true, named := ["internal/bytealg.MaxLen"], apart := false }
def PutLinesSaid : Prop := putLinesRow.holds Try.pinned (OpenSpec.ofChange putLinesSpec)

/-- ITS FALSE NEIGHBOUR: 'it returns false'. Refute it at one input. -/
def putLinesWrong : ChangeSpec := { name := "putLines", fn := fun _ => fun
  | [d1, d2, d3, d4, d5, d6] => { results := [.lit (.bool false)], args := [d1, d2, d3, d4, d5, d6] }
  | _ => none }
def PutLinesWrongFalsely : Prop := putLinesRow.holds Try.pinned (OpenSpec.ofChange putLinesWrong)

/-- 'foolscaplaw29.PutBlocks': WHATEVER THE INPUT: true; the input reads as it did. -/
def putBlocksSpec : ChangeSpec := { name := "putBlocks", fn := fun _ => fun
  | [d1, d2, d3, d4, d5] => { results := [.lit (.bool true)], args := [d1, d2, d3, d4, d5] }
  | _ => none }
def putBlocksRow : OpenClaim := { program := "ytefbgdnobnemkaa", sum := "b9532115a7a89f92d5ff001a14fa693414e7a345fe321764b4a7af6eb51c531d", func := "foolscap/foolscaplaw29.PutBlocks", spec := "putBlocks", inPlace := ["internal/bytealg.IndexByteString", "internal/bytealg.IndexString", "internal/abi.NoEscape", "internal/bytealg.MakeNoZero"], unfollowed := true, recurses := true, named := ["internal/bytealg.MaxLen"], apart := false }
def PutBlocksSaid : Prop := putBlocksRow.holds Try.pinned (OpenSpec.ofChange putBlocksSpec)

/-- ITS FALSE NEIGHBOUR: 'it returns false'. Refute it at one input. -/
def putBlocksWrong : ChangeSpec := { name := "putBlocks", fn := fun _ => fun
  | [d1, d2, d3, d4, d5] => { results := [.lit (.bool false)], args := [d1, d2, d3, d4, d5] }
  | _ => none }
def PutBlocksWrongFalsely : Prop := putBlocksRow.holds Try.pinned (OpenSpec.ofChange putBlocksWrong)

/-- 'foolscaplaw29.PutWords': WHATEVER THE INPUT: true; the input reads as it did. -/
def putWordsSpec : ChangeSpec := { name := "putWords", fn := fun _ => fun
  | [d1, d2, d3, d4, d5] => { results := [.lit (.bool true)], args := [d1, d2, d3, d4, d5] }
  | _ => none }
def putWordsRow : OpenClaim := { program := "ytefbgdnobnemkaa", sum := "b9532115a7a89f92d5ff001a14fa693414e7a345fe321764b4a7af6eb51c531d", func := "foolscap/foolscaplaw29.PutWords", spec := "putWords", inPlace := ["internal/bytealg.IndexByteString", "internal/bytealg.IndexString", "internal/abi.NoEscape", "internal/bytealg.MakeNoZero"], unfollowed := true, recurses := true, named := ["internal/bytealg.MaxLen"], apart := false }
def PutWordsSaid : Prop := putWordsRow.holds Try.pinned (OpenSpec.ofChange putWordsSpec)

/-- ITS FALSE NEIGHBOUR: 'it returns false'. Refute it at one input. -/
def putWordsWrong : ChangeSpec := { name := "putWords", fn := fun _ => fun
  | [d1, d2, d3, d4, d5] => { results := [.lit (.bool false)], args := [d1, d2, d3, d4, d5] }
  | _ => none }
def PutWordsWrongFalsely : Prop := putWordsRow.holds Try.pinned (OpenSpec.ofChange putWordsWrong)

/- THE SECOND FORM. 'bulk': how many values and letters a reading holds, each counted each time it is reached (what is shared counts as often as it is met; a slice's spare places count too). A statement '..UptoSaid' is the law's where the arguments, and the package variables that the reading takes, are together of bulk at most 1048576: NARROWER than '..Said'. Prove '..Said' where nothing that the law and all that it calls make is longer than what came in: it says more and counts as full. Else prove '..UptoSaid'. A law counts once. -/
mutual
def uptoBulk {H : Type} : DataW H → Nat
  | .lit (.string bytes) => bytes.length + 1
  | .lit _ => 1
  | .nil => 1
  | .ptr d => uptoBulk d + 1
  | .slice elems spare => uptoBulkAll elems + uptoBulkAll spare + 1
  | .agg parts => uptoBulkAll parts + 1
  | .iface _ d => uptoBulk d + 1
  | .map entries => uptoBulkEntries entries + 1
  | .held _ => 1
def uptoBulkAll {H : Type} : List (DataW H) → Nat
  | [] => 0
  | d :: r => uptoBulk d + uptoBulkAll r
def uptoBulkEntries {H : Type} : List (Lit × DataW H) → Nat
  | [] => 0
  | x :: r => uptoBulkEntry x + uptoBulkEntries r
def uptoBulkEntry {H : Type} : Lit × DataW H → Nat
  | (.string bytes, d) => bytes.length + uptoBulk d + 1
  | (_, d) => uptoBulk d + 1
 end
def uptoSmall : (H : Type) → List (DataW H) → Bool := fun _ ds => decide (uptoBulkAll ds ≤ 1048576)
def OpenSpec.upto (s : _root_.Go.ChangeSpec) : _root_.Go.OpenSpec := { _root_.Go.OpenSpec.ofChange s with cond := some uptoSmall }

/-- 'foolscaplaw6.SpanOrders', WHERE WHAT IT READS IS OF BULK AT MOST 1048576: true; the input reads as it did. -/
def spanOrdersUptoRow : OpenClaim := { program := "ytefbgdnobnemkaa", sum := "b9532115a7a89f92d5ff001a14fa693414e7a345fe321764b4a7af6eb51c531d", func := "foolscap/foolscaplaw6.SpanOrders", spec := "spanOrders", apart := false, narrowed := true }
def SpanOrdersUptoSaid : Prop := spanOrdersUptoRow.holds Try.pinned (OpenSpec.upto spanOrdersSpec)

/-- 'foolscaplaw6.SpanParts', WHERE WHAT IT READS IS OF BULK AT MOST 1048576: true; the input reads as it did. -/
def spanPartsUptoRow : OpenClaim := { program := "ytefbgdnobnemkaa", sum := "b9532115a7a89f92d5ff001a14fa693414e7a345fe321764b4a7af6eb51c531d", func := "foolscap/foolscaplaw6.SpanParts", spec := "spanParts", apart := false, narrowed := true }
def SpanPartsUptoSaid : Prop := spanPartsUptoRow.holds Try.pinned (OpenSpec.upto spanPartsSpec)

/-- 'foolscaplaw6.SpanWhole', WHERE WHAT IT READS IS OF BULK AT MOST 1048576: true; the input reads as it did. -/
def spanWholeUptoRow : OpenClaim := { program := "ytefbgdnobnemkaa", sum := "b9532115a7a89f92d5ff001a14fa693414e7a345fe321764b4a7af6eb51c531d", func := "foolscap/foolscaplaw6.SpanWhole", spec := "spanWhole", apart := false, narrowed := true }
def SpanWholeUptoSaid : Prop := spanWholeUptoRow.holds Try.pinned (OpenSpec.upto spanWholeSpec)

/-- 'foolscaplaw6.SpanCells', WHERE WHAT IT READS IS OF BULK AT MOST 1048576: true; the input reads as it did. -/
def spanCellsUptoRow : OpenClaim := { program := "ytefbgdnobnemkaa", sum := "b9532115a7a89f92d5ff001a14fa693414e7a345fe321764b4a7af6eb51c531d", func := "foolscap/foolscaplaw6.SpanCells", spec := "spanCells", unfollowed := true, recurses := true, apart := false, narrowed := true }
def SpanCellsUptoSaid : Prop := spanCellsUptoRow.holds Try.pinned (OpenSpec.upto spanCellsSpec)

/-- 'foolscaplaw31.InsertTypes', WHERE WHAT IT READS IS OF BULK AT MOST 1048576: true; the input reads as it did. -/
def insertTypesUptoRow : OpenClaim := { program := "ytefbgdnobnemkaa", sum := "b9532115a7a89f92d5ff001a14fa693414e7a345fe321764b4a7af6eb51c531d", func := "foolscap/foolscaplaw31.InsertTypes", spec := "insertTypes", apart := false, narrowed := true }
def InsertTypesUptoSaid : Prop := insertTypesUptoRow.holds Try.pinned (OpenSpec.upto insertTypesSpec)

/-- 'foolscaplaw31.InsertNets', WHERE WHAT IT READS IS OF BULK AT MOST 1048576: true; the input reads as it did. -/
def insertNetsUptoRow : OpenClaim := { program := "ytefbgdnobnemkaa", sum := "b9532115a7a89f92d5ff001a14fa693414e7a345fe321764b4a7af6eb51c531d", func := "foolscap/foolscaplaw31.InsertNets", spec := "insertNets", apart := false, narrowed := true }
def InsertNetsUptoSaid : Prop := insertNetsUptoRow.holds Try.pinned (OpenSpec.upto insertNetsSpec)

/-- 'foolscaplaw31.InsertText', WHERE WHAT IT READS IS OF BULK AT MOST 1048576: true; the input reads as it did. -/
def insertTextUptoRow : OpenClaim := { program := "ytefbgdnobnemkaa", sum := "b9532115a7a89f92d5ff001a14fa693414e7a345fe321764b4a7af6eb51c531d", func := "foolscap/foolscaplaw31.InsertText", spec := "insertText", apart := false, narrowed := true }
def InsertTextUptoSaid : Prop := insertTextUptoRow.holds Try.pinned (OpenSpec.upto insertTextSpec)

/-- 'foolscaplaw31.InsertOver', WHERE WHAT IT READS IS OF BULK AT MOST 1048576: true; the input reads as it did. -/
def insertOverUptoRow : OpenClaim := { program := "ytefbgdnobnemkaa", sum := "b9532115a7a89f92d5ff001a14fa693414e7a345fe321764b4a7af6eb51c531d", func := "foolscap/foolscaplaw31.InsertOver", spec := "insertOver", apart := false, narrowed := true }
def InsertOverUptoSaid : Prop := insertOverUptoRow.holds Try.pinned (OpenSpec.upto insertOverSpec)

/-- 'foolscaplaw31.InsertBreaks', WHERE WHAT IT READS IS OF BULK AT MOST 1048576: true; the input reads as it did. -/
def insertBreaksUptoRow : OpenClaim := { program := "ytefbgdnobnemkaa", sum := "b9532115a7a89f92d5ff001a14fa693414e7a345fe321764b4a7af6eb51c531d", func := "foolscap/foolscaplaw31.InsertBreaks", spec := "insertBreaks", apart := false, narrowed := true }
def InsertBreaksUptoSaid : Prop := insertBreaksUptoRow.holds Try.pinned (OpenSpec.upto insertBreaksSpec)

/-- 'foolscaplaw31.InsertKeys', WHERE WHAT IT READS IS OF BULK AT MOST 1048576: true; the input reads as it did. -/
def insertKeysUptoRow : OpenClaim := { program := "ytefbgdnobnemkaa", sum := "b9532115a7a89f92d5ff001a14fa693414e7a345fe321764b4a7af6eb51c531d", func := "foolscap/foolscaplaw31.InsertKeys", spec := "insertKeys", apart := false, narrowed := true }
def InsertKeysUptoSaid : Prop := insertKeysUptoRow.holds Try.pinned (OpenSpec.upto insertKeysSpec)

/-- 'foolscaplaw31.InsertBeside', WHERE WHAT IT READS IS OF BULK AT MOST 1048576: true; the input reads as it did. -/
def insertBesideUptoRow : OpenClaim := { program := "ytefbgdnobnemkaa", sum := "b9532115a7a89f92d5ff001a14fa693414e7a345fe321764b4a7af6eb51c531d", func := "foolscap/foolscaplaw31.InsertBeside", spec := "insertBeside", inPlace := ["internal/bytealg.IndexByteString", "internal/bytealg.IndexString", "internal/abi.NoEscape", "internal/bytealg.MakeNoZero"], named := ["internal/bytealg.MaxLen"], apart := false, narrowed := true }
def InsertBesideUptoSaid : Prop := insertBesideUptoRow.holds Try.pinned (OpenSpec.upto insertBesideSpec)

/-- 'foolscaplaw28.OpsCut', WHERE WHAT IT READS IS OF BULK AT MOST 1048576: true; the input reads as it did. -/
def opsCutUptoRow : OpenClaim := { program := "ytefbgdnobnemkaa", sum := "b9532115a7a89f92d5ff001a14fa693414e7a345fe321764b4a7af6eb51c531d", func := "foolscap/foolscaplaw28.OpsCut", spec := "opsCut", inPlace := ["internal/abi.NoEscape", "internal/bytealg.MakeNoZero"], unfollowed := true, recurses := true, apart := false, narrowed := true }
def OpsCutUptoSaid : Prop := opsCutUptoRow.holds Try.pinned (OpenSpec.upto opsCutSpec)

/-- 'foolscaplaw28.OpsShifts', WHERE WHAT IT READS IS OF BULK AT MOST 1048576: true; the input reads as it did. -/
def opsShiftsUptoRow : OpenClaim := { program := "ytefbgdnobnemkaa", sum := "b9532115a7a89f92d5ff001a14fa693414e7a345fe321764b4a7af6eb51c531d", func := "foolscap/foolscaplaw28.OpsShifts", spec := "opsShifts", inPlace := ["internal/abi.NoEscape", "internal/bytealg.MakeNoZero"], unfollowed := true, recurses := true, apart := false, narrowed := true }
def OpsShiftsUptoSaid : Prop := opsShiftsUptoRow.holds Try.pinned (OpenSpec.upto opsShiftsSpec)

/-- 'foolscaplaw28.OpsCases', WHERE WHAT IT READS IS OF BULK AT MOST 1048576: true; the input reads as it did. -/
def opsCasesUptoRow : OpenClaim := { program := "ytefbgdnobnemkaa", sum := "b9532115a7a89f92d5ff001a14fa693414e7a345fe321764b4a7af6eb51c531d", func := "foolscap/foolscaplaw28.OpsCases", spec := "opsCases", inPlace := ["internal/abi.NoEscape", "internal/bytealg.MakeNoZero"], unfollowed := true, recurses := true, apart := false, narrowed := true }
def OpsCasesUptoSaid : Prop := opsCasesUptoRow.holds Try.pinned (OpenSpec.upto opsCasesSpec)

/-- 'foolscaplaw29.PutBack', WHERE WHAT IT READS IS OF BULK AT MOST 1048576: true; the input reads as it did. -/
def putBackUptoRow : OpenClaim := { program := "ytefbgdnobnemkaa", sum := "b9532115a7a89f92d5ff001a14fa693414e7a345fe321764b4a7af6eb51c531d", func := "foolscap/foolscaplaw29.PutBack", spec := "putBack", inPlace := ["internal/bytealg.IndexByteString", "internal/bytealg.IndexString", "internal/abi.NoEscape", "internal/bytealg.MakeNoZero"], unfollowed := true, recurses := true, named := ["internal/bytealg.MaxLen"], apart := false, narrowed := true }
def PutBackUptoSaid : Prop := putBackUptoRow.holds Try.pinned (OpenSpec.upto putBackSpec)

/-- 'foolscaplaw29.PutLimits', WHERE WHAT IT READS IS OF BULK AT MOST 1048576: true; the input reads as it did. -/
def putLimitsUptoRow : OpenClaim := { program := "ytefbgdnobnemkaa", sum := "b9532115a7a89f92d5ff001a14fa693414e7a345fe321764b4a7af6eb51c531d", func := "foolscap/foolscaplaw29.PutLimits", spec := "putLimits", inPlace := ["internal/bytealg.IndexByteString", "internal/bytealg.IndexString", "internal/abi.NoEscape", "internal/bytealg.MakeNoZero"], unfollowed := true, recurses := true, named := ["internal/bytealg.MaxLen"], apart := false, narrowed := true }
def PutLimitsUptoSaid : Prop := putLimitsUptoRow.holds Try.pinned (OpenSpec.upto putLimitsSpec)

/-- 'foolscaplaw29.PutLines', WHERE WHAT IT READS IS OF BULK AT MOST 1048576: true; the input reads as it did. -/
def putLinesUptoRow : OpenClaim := { program := "ytefbgdnobnemkaa", sum := "b9532115a7a89f92d5ff001a14fa693414e7a345fe321764b4a7af6eb51c531d", func := "foolscap/foolscaplaw29.PutLines", spec := "putLines", inPlace := ["internal/bytealg.IndexByteString", "internal/bytealg.IndexString", "internal/abi.NoEscape", "internal/bytealg.MakeNoZero"], unfollowed := true, recurses := true, named := ["internal/bytealg.MaxLen"], apart := false, narrowed := true }
def PutLinesUptoSaid : Prop := putLinesUptoRow.holds Try.pinned (OpenSpec.upto putLinesSpec)

/-- 'foolscaplaw29.PutBlocks', WHERE WHAT IT READS IS OF BULK AT MOST 1048576: true; the input reads as it did. -/
def putBlocksUptoRow : OpenClaim := { program := "ytefbgdnobnemkaa", sum := "b9532115a7a89f92d5ff001a14fa693414e7a345fe321764b4a7af6eb51c531d", func := "foolscap/foolscaplaw29.PutBlocks", spec := "putBlocks", inPlace := ["internal/bytealg.IndexByteString", "internal/bytealg.IndexString", "internal/abi.NoEscape", "internal/bytealg.MakeNoZero"], unfollowed := true, recurses := true, named := ["internal/bytealg.MaxLen"], apart := false, narrowed := true }
def PutBlocksUptoSaid : Prop := putBlocksUptoRow.holds Try.pinned (OpenSpec.upto putBlocksSpec)

/-- 'foolscaplaw29.PutWords', WHERE WHAT IT READS IS OF BULK AT MOST 1048576: true; the input reads as it did. -/
def putWordsUptoRow : OpenClaim := { program := "ytefbgdnobnemkaa", sum := "b9532115a7a89f92d5ff001a14fa693414e7a345fe321764b4a7af6eb51c531d", func := "foolscap/foolscaplaw29.PutWords", spec := "putWords", inPlace := ["internal/bytealg.IndexByteString", "internal/bytealg.IndexString", "internal/abi.NoEscape", "internal/bytealg.MakeNoZero"], unfollowed := true, recurses := true, named := ["internal/bytealg.MaxLen"], apart := false, narrowed := true }
def PutWordsUptoSaid : Prop := putWordsUptoRow.holds Try.pinned (OpenSpec.upto putWordsSpec)

end Rows
end Go.Proofs.Ytefbgdnobnemkaa
