/-
  NARROWER THAN 'FOR EVERY INPUT', by the rows' own cells (each row's printed sentence says how): AtomTells: laid · AtomTurns: laid · ValFields: laid · ValPuts: laid · ValSizes: laid · InclRefines: laid · InclExact: laid · InclOrder: laid · InclWide: laid · WitTells: laid · WitIn: laid · WitSmall: laid · WitParts: laid · WitMany: laid · EditTells: laid · EditDoes: laid · EditScript: laid · EditRight: laid · EditSmall: laid.
  DERIVED. THE GIVEN ROWS OF THIS SEAT. 19 by the template 'for every input the law returns true; each argument reads behind the call as it read before'; 0 by the template 'total and deterministic' (their statements: YtcememnoihgipaaGreatDoorTotals.lean).
  GIVEN WITH THE SEED: the statements are not yours to turn. If you find one false, say at which input.
  Laid BY PROGRAM, IN A SANDBOX (cutbox-rows.mjs): the forced cells as the released guide's own fill.sh prints them over the translation e6ab4ab5cc6bd1d0… (all of the seat's roots in one cut). By AI agents, Wed Nov 11 2026. No macro, syntax, notation, axiom, sorry.
-/
import Derived.Test.YtcememnoihgipaaGreatDoorChecked
import GoSem.PinnedTables
import GoSem.Claim
import GoSem.ClaimJoined
import GoSem.ClaimMapViews
import Derived.JoinedTies
import Derived.KernelRfl
namespace Go.Proofs.YtcememnoihgipaaGreatDoor
/- THE CELL 'sum', in the pinned program and in every row, IS THE sha256 OF THE DUMP (.gsa) THAT YtcememnoihgipaaGreatDoorProg.lean LOADS. Nothing in Lean hashes anything: it is a label: what it is worth is what the hold of that sum in a sandbox is worth. -/
noncomputable def Tryz.pinned : Pinned := { name := "ytcememnoihgipaagreatdoor", sum := "e6ab4ab5cc6bd1d0d6a1ac4cedf58cd41b7aa790506574a1169ac12b264ac430", checked := Tryz.checked }
namespace Rows
def none {H : Type} : Left H := { results := [], args := [] }

/- WHAT THE LISTED PACKAGE-LEVEL VARIABLES READ AS WHEN THE CALL BEGINS. Each datum BY PROGRAM (the guide's laid-datum.mjs) off the statement by which the dump's own 'gosem.cut.vars' lays the variable. In a bare row this is a premise. The card (YtcememnoihgipaaGreatDoorCards.lean) ties it to the program's text. -/
def laid_unicode_utf8_acceptRanges {H : Type} : DataW H := .agg [.agg [.lit (.int .u8 128), .lit (.int .u8 191)], .agg [.lit (.int .u8 160), .lit (.int .u8 191)], .agg [.lit (.int .u8 128), .lit (.int .u8 159)], .agg [.lit (.int .u8 144), .lit (.int .u8 191)], .agg [.lit (.int .u8 128), .lit (.int .u8 143)], .agg [.lit (.int .u8 0), .lit (.int .u8 0)], .agg [.lit (.int .u8 0), .lit (.int .u8 0)], .agg [.lit (.int .u8 0), .lit (.int .u8 0)], .agg [.lit (.int .u8 0), .lit (.int .u8 0)], .agg [.lit (.int .u8 0), .lit (.int .u8 0)], .agg [.lit (.int .u8 0), .lit (.int .u8 0)], .agg [.lit (.int .u8 0), .lit (.int .u8 0)], .agg [.lit (.int .u8 0), .lit (.int .u8 0)], .agg [.lit (.int .u8 0), .lit (.int .u8 0)], .agg [.lit (.int .u8 0), .lit (.int .u8 0)], .agg [.lit (.int .u8 0), .lit (.int .u8 0)]]
/-- One of Go's own tables, pinned by name: the form's constant. -/
def laid_unicode_utf8_first : DataW Unit := Go.Pinned.utf8First

/-- 'loupelaw11.AtomTells': WHATEVER THE INPUT: true; the input reads as it did. -/
def atomTellsSpec : ChangeSpec := { name := "atomTells", fn := fun _ => fun
  | [d1, d2, d3] => { results := [.lit (.bool true)], args := [d1, d2, d3] }
  | _ => none }
def atomTellsRow : OpenClaim := { program := "ytcememnoihgipaagreatdoor", sum := "e6ab4ab5cc6bd1d0d6a1ac4cedf58cd41b7aa790506574a1169ac12b264ac430", func := "loupe/loupelaw11.AtomTells", spec := "atomTells", inPlace := ["internal/bytealg.IndexByteString", "internal/bytealg.IndexString", "internal/abi.NoEscape", "internal/bytealg.MakeNoZero"], unfollowed := true, recurses := true, named := ["unicode/utf8.first", "unicode/utf8.acceptRanges", "internal/bytealg.MaxLen"], apart := false, laid := [("unicode/utf8.acceptRanges", laid_unicode_utf8_acceptRanges), ("unicode/utf8.first", laid_unicode_utf8_first)] }
def AtomTellsSaid : Prop := atomTellsRow.holds Tryz.pinned (OpenSpec.ofChange atomTellsSpec)

/-- ITS FALSE NEIGHBOUR: 'it returns false'. Refute it at one input. -/
def atomTellsWrong : ChangeSpec := { name := "atomTells", fn := fun _ => fun
  | [d1, d2, d3] => { results := [.lit (.bool false)], args := [d1, d2, d3] }
  | _ => none }
def AtomTellsWrongFalsely : Prop := atomTellsRow.holds Tryz.pinned (OpenSpec.ofChange atomTellsWrong)

/-- 'loupelaw11.AtomTurns': WHATEVER THE INPUT: true; the input reads as it did. -/
def atomTurnsSpec : ChangeSpec := { name := "atomTurns", fn := fun _ => fun
  | [d1, d2, d3] => { results := [.lit (.bool true)], args := [d1, d2, d3] }
  | _ => none }
def atomTurnsRow : OpenClaim := { program := "ytcememnoihgipaagreatdoor", sum := "e6ab4ab5cc6bd1d0d6a1ac4cedf58cd41b7aa790506574a1169ac12b264ac430", func := "loupe/loupelaw11.AtomTurns", spec := "atomTurns", inPlace := ["internal/bytealg.IndexByteString", "internal/bytealg.IndexString", "internal/abi.NoEscape", "internal/bytealg.MakeNoZero"], unfollowed := true, recurses := true, named := ["unicode/utf8.first", "unicode/utf8.acceptRanges", "internal/bytealg.MaxLen"], apart := false, laid := [("unicode/utf8.acceptRanges", laid_unicode_utf8_acceptRanges), ("unicode/utf8.first", laid_unicode_utf8_first)] }
def AtomTurnsSaid : Prop := atomTurnsRow.holds Tryz.pinned (OpenSpec.ofChange atomTurnsSpec)

/-- ITS FALSE NEIGHBOUR: 'it returns false'. Refute it at one input. -/
def atomTurnsWrong : ChangeSpec := { name := "atomTurns", fn := fun _ => fun
  | [d1, d2, d3] => { results := [.lit (.bool false)], args := [d1, d2, d3] }
  | _ => none }
def AtomTurnsWrongFalsely : Prop := atomTurnsRow.holds Tryz.pinned (OpenSpec.ofChange atomTurnsWrong)

/-- 'loupelaw02.ValFields': WHATEVER THE INPUT: true; the input reads as it did. -/
def valFieldsSpec : ChangeSpec := { name := "valFields", fn := fun _ => fun
  | [d1, d2, d3] => { results := [.lit (.bool true)], args := [d1, d2, d3] }
  | _ => none }
def valFieldsRow : OpenClaim := { program := "ytcememnoihgipaagreatdoor", sum := "e6ab4ab5cc6bd1d0d6a1ac4cedf58cd41b7aa790506574a1169ac12b264ac430", func := "loupe/loupelaw02.ValFields", spec := "valFields", inPlace := ["internal/bytealg.IndexByteString", "internal/bytealg.IndexString", "slices.overlaps[string]", "slices.overlaps[loupe/api.Val]"], unfollowed := true, recurses := true, named := ["unicode/utf8.first", "unicode/utf8.acceptRanges", "internal/bytealg.MaxLen"], apart := false, laid := [("unicode/utf8.acceptRanges", laid_unicode_utf8_acceptRanges), ("unicode/utf8.first", laid_unicode_utf8_first)] }
def ValFieldsSaid : Prop := valFieldsRow.holds Tryz.pinned (OpenSpec.ofChange valFieldsSpec)

/-- ITS FALSE NEIGHBOUR: 'it returns false'. Refute it at one input. -/
def valFieldsWrong : ChangeSpec := { name := "valFields", fn := fun _ => fun
  | [d1, d2, d3] => { results := [.lit (.bool false)], args := [d1, d2, d3] }
  | _ => none }
def ValFieldsWrongFalsely : Prop := valFieldsRow.holds Tryz.pinned (OpenSpec.ofChange valFieldsWrong)

/-- 'loupelaw02.ValPuts': WHATEVER THE INPUT: true; the input reads as it did. -/
def valPutsSpec : ChangeSpec := { name := "valPuts", fn := fun _ => fun
  | [d1, d2, d3] => { results := [.lit (.bool true)], args := [d1, d2, d3] }
  | _ => none }
def valPutsRow : OpenClaim := { program := "ytcememnoihgipaagreatdoor", sum := "e6ab4ab5cc6bd1d0d6a1ac4cedf58cd41b7aa790506574a1169ac12b264ac430", func := "loupe/loupelaw02.ValPuts", spec := "valPuts", inPlace := ["internal/bytealg.IndexByteString", "internal/bytealg.IndexString", "slices.overlaps[string]", "slices.overlaps[loupe/api.Val]"], unfollowed := true, recurses := true, named := ["unicode/utf8.first", "unicode/utf8.acceptRanges", "internal/bytealg.MaxLen"], apart := false, laid := [("unicode/utf8.acceptRanges", laid_unicode_utf8_acceptRanges), ("unicode/utf8.first", laid_unicode_utf8_first)] }
def ValPutsSaid : Prop := valPutsRow.holds Tryz.pinned (OpenSpec.ofChange valPutsSpec)

/-- ITS FALSE NEIGHBOUR: 'it returns false'. Refute it at one input. -/
def valPutsWrong : ChangeSpec := { name := "valPuts", fn := fun _ => fun
  | [d1, d2, d3] => { results := [.lit (.bool false)], args := [d1, d2, d3] }
  | _ => none }
def ValPutsWrongFalsely : Prop := valPutsRow.holds Tryz.pinned (OpenSpec.ofChange valPutsWrong)

/-- 'loupelaw02.ValSizes': WHATEVER THE INPUT: true; the input reads as it did. -/
def valSizesSpec : ChangeSpec := { name := "valSizes", fn := fun _ => fun
  | [d1, d2, d3] => { results := [.lit (.bool true)], args := [d1, d2, d3] }
  | _ => none }
def valSizesRow : OpenClaim := { program := "ytcememnoihgipaagreatdoor", sum := "e6ab4ab5cc6bd1d0d6a1ac4cedf58cd41b7aa790506574a1169ac12b264ac430", func := "loupe/loupelaw02.ValSizes", spec := "valSizes", inPlace := ["internal/bytealg.IndexByteString", "internal/bytealg.IndexString", "slices.overlaps[string]", "slices.overlaps[loupe/api.Val]"], unfollowed := true, recurses := true, named := ["unicode/utf8.first", "unicode/utf8.acceptRanges", "internal/bytealg.MaxLen"], apart := false, laid := [("unicode/utf8.acceptRanges", laid_unicode_utf8_acceptRanges), ("unicode/utf8.first", laid_unicode_utf8_first)] }
def ValSizesSaid : Prop := valSizesRow.holds Tryz.pinned (OpenSpec.ofChange valSizesSpec)

/-- ITS FALSE NEIGHBOUR: 'it returns false'. Refute it at one input. -/
def valSizesWrong : ChangeSpec := { name := "valSizes", fn := fun _ => fun
  | [d1, d2, d3] => { results := [.lit (.bool false)], args := [d1, d2, d3] }
  | _ => none }
def ValSizesWrongFalsely : Prop := valSizesRow.holds Tryz.pinned (OpenSpec.ofChange valSizesWrong)

/-- 'loupelaw16.InclRefines': WHATEVER THE INPUT: true; the input reads as it did. -/
def inclRefinesSpec : ChangeSpec := { name := "inclRefines", fn := fun _ => fun
  | [d1, d2, d3] => { results := [.lit (.bool true)], args := [d1, d2, d3] }
  | _ => none }
def inclRefinesRow : OpenClaim := { program := "ytcememnoihgipaagreatdoor", sum := "e6ab4ab5cc6bd1d0d6a1ac4cedf58cd41b7aa790506574a1169ac12b264ac430", func := "loupe/loupelaw16.InclRefines", spec := "inclRefines", inPlace := ["slices.overlaps[loupe/api.Ty]", "internal/bytealg.IndexByteString", "internal/bytealg.IndexString", "internal/abi.NoEscape", "internal/bytealg.MakeNoZero"], unfollowed := true, recurses := true, named := ["unicode/utf8.first", "unicode/utf8.acceptRanges", "internal/bytealg.MaxLen"], apart := false, laid := [("unicode/utf8.acceptRanges", laid_unicode_utf8_acceptRanges), ("unicode/utf8.first", laid_unicode_utf8_first)] }
def InclRefinesSaid : Prop := inclRefinesRow.holds Tryz.pinned (OpenSpec.ofChange inclRefinesSpec)

/-- ITS FALSE NEIGHBOUR: 'it returns false'. Refute it at one input. -/
def inclRefinesWrong : ChangeSpec := { name := "inclRefines", fn := fun _ => fun
  | [d1, d2, d3] => { results := [.lit (.bool false)], args := [d1, d2, d3] }
  | _ => none }
def InclRefinesWrongFalsely : Prop := inclRefinesRow.holds Tryz.pinned (OpenSpec.ofChange inclRefinesWrong)

/-- 'loupelaw16.InclExact': WHATEVER THE INPUT: true; the input reads as it did. -/
def inclExactSpec : ChangeSpec := { name := "inclExact", fn := fun _ => fun
  | [d] => { results := [.lit (.bool true)], args := [d] }
  | _ => none }
def inclExactRow : OpenClaim := { program := "ytcememnoihgipaagreatdoor", sum := "e6ab4ab5cc6bd1d0d6a1ac4cedf58cd41b7aa790506574a1169ac12b264ac430", func := "loupe/loupelaw16.InclExact", spec := "inclExact", inPlace := ["slices.overlaps[loupe/api.Ty]", "internal/bytealg.IndexByteString", "internal/bytealg.IndexString", "internal/abi.NoEscape", "internal/bytealg.MakeNoZero"], unfollowed := true, recurses := true, named := ["unicode/utf8.first", "unicode/utf8.acceptRanges", "internal/bytealg.MaxLen"], apart := false, laid := [("unicode/utf8.acceptRanges", laid_unicode_utf8_acceptRanges), ("unicode/utf8.first", laid_unicode_utf8_first)] }
def InclExactSaid : Prop := inclExactRow.holds Tryz.pinned (OpenSpec.ofChange inclExactSpec)

/-- ITS FALSE NEIGHBOUR: 'it returns false'. Refute it at one input. -/
def inclExactWrong : ChangeSpec := { name := "inclExact", fn := fun _ => fun
  | [d] => { results := [.lit (.bool false)], args := [d] }
  | _ => none }
def InclExactWrongFalsely : Prop := inclExactRow.holds Tryz.pinned (OpenSpec.ofChange inclExactWrong)

/-- 'loupelaw16.InclOrder': WHATEVER THE INPUT: true; the input reads as it did. -/
def inclOrderSpec : ChangeSpec := { name := "inclOrder", fn := fun _ => fun
  | [d1, d2] => { results := [.lit (.bool true)], args := [d1, d2] }
  | _ => none }
def inclOrderRow : OpenClaim := { program := "ytcememnoihgipaagreatdoor", sum := "e6ab4ab5cc6bd1d0d6a1ac4cedf58cd41b7aa790506574a1169ac12b264ac430", func := "loupe/loupelaw16.InclOrder", spec := "inclOrder", inPlace := ["slices.overlaps[loupe/api.Ty]", "internal/bytealg.IndexByteString", "internal/bytealg.IndexString", "internal/abi.NoEscape", "internal/bytealg.MakeNoZero"], unfollowed := true, recurses := true, named := ["unicode/utf8.first", "unicode/utf8.acceptRanges", "internal/bytealg.MaxLen"], apart := false, laid := [("unicode/utf8.acceptRanges", laid_unicode_utf8_acceptRanges), ("unicode/utf8.first", laid_unicode_utf8_first)] }
def InclOrderSaid : Prop := inclOrderRow.holds Tryz.pinned (OpenSpec.ofChange inclOrderSpec)

/-- ITS FALSE NEIGHBOUR: 'it returns false'. Refute it at one input. -/
def inclOrderWrong : ChangeSpec := { name := "inclOrder", fn := fun _ => fun
  | [d1, d2] => { results := [.lit (.bool false)], args := [d1, d2] }
  | _ => none }
def InclOrderWrongFalsely : Prop := inclOrderRow.holds Tryz.pinned (OpenSpec.ofChange inclOrderWrong)

/-- 'loupelaw16.InclWide': WHATEVER THE INPUT: true; the input reads as it did. -/
def inclWideSpec : ChangeSpec := { name := "inclWide", fn := fun _ => fun
  | [d1, d2, d3] => { results := [.lit (.bool true)], args := [d1, d2, d3] }
  | _ => none }
def inclWideRow : OpenClaim := { program := "ytcememnoihgipaagreatdoor", sum := "e6ab4ab5cc6bd1d0d6a1ac4cedf58cd41b7aa790506574a1169ac12b264ac430", func := "loupe/loupelaw16.InclWide", spec := "inclWide", inPlace := ["slices.overlaps[loupe/api.Ty]", "internal/bytealg.IndexByteString", "internal/bytealg.IndexString", "internal/abi.NoEscape", "internal/bytealg.MakeNoZero"], unfollowed := true, recurses := true, named := ["unicode/utf8.first", "unicode/utf8.acceptRanges", "internal/bytealg.MaxLen"], apart := false, laid := [("unicode/utf8.acceptRanges", laid_unicode_utf8_acceptRanges), ("unicode/utf8.first", laid_unicode_utf8_first)] }
def InclWideSaid : Prop := inclWideRow.holds Tryz.pinned (OpenSpec.ofChange inclWideSpec)

/-- ITS FALSE NEIGHBOUR: 'it returns false'. Refute it at one input. -/
def inclWideWrong : ChangeSpec := { name := "inclWide", fn := fun _ => fun
  | [d1, d2, d3] => { results := [.lit (.bool false)], args := [d1, d2, d3] }
  | _ => none }
def InclWideWrongFalsely : Prop := inclWideRow.holds Tryz.pinned (OpenSpec.ofChange inclWideWrong)

/-- 'loupelaw15.WitTells': WHATEVER THE INPUT: true; the input reads as it did. -/
def witTellsSpec : ChangeSpec := { name := "witTells", fn := fun _ => fun
  | [d1, d2] => { results := [.lit (.bool true)], args := [d1, d2] }
  | _ => none }
def witTellsRow : OpenClaim := { program := "ytcememnoihgipaagreatdoor", sum := "e6ab4ab5cc6bd1d0d6a1ac4cedf58cd41b7aa790506574a1169ac12b264ac430", func := "loupe/loupelaw15.WitTells", spec := "witTells", inPlace := ["internal/bytealg.IndexByteString", "internal/bytealg.IndexString", "internal/abi.NoEscape", "internal/bytealg.MakeNoZero"], unfollowed := true, recurses := true, named := ["unicode/utf8.first", "unicode/utf8.acceptRanges", "internal/bytealg.MaxLen"], apart := false, laid := [("unicode/utf8.acceptRanges", laid_unicode_utf8_acceptRanges), ("unicode/utf8.first", laid_unicode_utf8_first)] }
def WitTellsSaid : Prop := witTellsRow.holds Tryz.pinned (OpenSpec.ofChange witTellsSpec)

/-- ITS FALSE NEIGHBOUR: 'it returns false'. Refute it at one input. -/
def witTellsWrong : ChangeSpec := { name := "witTells", fn := fun _ => fun
  | [d1, d2] => { results := [.lit (.bool false)], args := [d1, d2] }
  | _ => none }
def WitTellsWrongFalsely : Prop := witTellsRow.holds Tryz.pinned (OpenSpec.ofChange witTellsWrong)

/-- 'loupelaw15.WitIn': WHATEVER THE INPUT: true; the input reads as it did. -/
def witInSpec : ChangeSpec := { name := "witIn", fn := fun _ => fun
  | [d] => { results := [.lit (.bool true)], args := [d] }
  | _ => none }
def witInRow : OpenClaim := { program := "ytcememnoihgipaagreatdoor", sum := "e6ab4ab5cc6bd1d0d6a1ac4cedf58cd41b7aa790506574a1169ac12b264ac430", func := "loupe/loupelaw15.WitIn", spec := "witIn", inPlace := ["internal/bytealg.IndexByteString", "internal/bytealg.IndexString", "internal/abi.NoEscape", "internal/bytealg.MakeNoZero"], unfollowed := true, recurses := true, named := ["unicode/utf8.first", "unicode/utf8.acceptRanges", "internal/bytealg.MaxLen"], apart := false, laid := [("unicode/utf8.acceptRanges", laid_unicode_utf8_acceptRanges), ("unicode/utf8.first", laid_unicode_utf8_first)] }
def WitInSaid : Prop := witInRow.holds Tryz.pinned (OpenSpec.ofChange witInSpec)

/-- ITS FALSE NEIGHBOUR: 'it returns false'. Refute it at one input. -/
def witInWrong : ChangeSpec := { name := "witIn", fn := fun _ => fun
  | [d] => { results := [.lit (.bool false)], args := [d] }
  | _ => none }
def WitInWrongFalsely : Prop := witInRow.holds Tryz.pinned (OpenSpec.ofChange witInWrong)

/-- 'loupelaw15.WitSmall': WHATEVER THE INPUT: true; the input reads as it did. -/
def witSmallSpec : ChangeSpec := { name := "witSmall", fn := fun _ => fun
  | [d1, d2] => { results := [.lit (.bool true)], args := [d1, d2] }
  | _ => none }
def witSmallRow : OpenClaim := { program := "ytcememnoihgipaagreatdoor", sum := "e6ab4ab5cc6bd1d0d6a1ac4cedf58cd41b7aa790506574a1169ac12b264ac430", func := "loupe/loupelaw15.WitSmall", spec := "witSmall", inPlace := ["internal/bytealg.IndexByteString", "internal/bytealg.IndexString", "internal/abi.NoEscape", "internal/bytealg.MakeNoZero"], unfollowed := true, recurses := true, named := ["unicode/utf8.first", "unicode/utf8.acceptRanges", "internal/bytealg.MaxLen"], apart := false, laid := [("unicode/utf8.acceptRanges", laid_unicode_utf8_acceptRanges), ("unicode/utf8.first", laid_unicode_utf8_first)] }
def WitSmallSaid : Prop := witSmallRow.holds Tryz.pinned (OpenSpec.ofChange witSmallSpec)

/-- ITS FALSE NEIGHBOUR: 'it returns false'. Refute it at one input. -/
def witSmallWrong : ChangeSpec := { name := "witSmall", fn := fun _ => fun
  | [d1, d2] => { results := [.lit (.bool false)], args := [d1, d2] }
  | _ => none }
def WitSmallWrongFalsely : Prop := witSmallRow.holds Tryz.pinned (OpenSpec.ofChange witSmallWrong)

/-- 'loupelaw15.WitParts': WHATEVER THE INPUT: true; the input reads as it did. -/
def witPartsSpec : ChangeSpec := { name := "witParts", fn := fun _ => fun
  | [d] => { results := [.lit (.bool true)], args := [d] }
  | _ => none }
def witPartsRow : OpenClaim := { program := "ytcememnoihgipaagreatdoor", sum := "e6ab4ab5cc6bd1d0d6a1ac4cedf58cd41b7aa790506574a1169ac12b264ac430", func := "loupe/loupelaw15.WitParts", spec := "witParts", inPlace := ["internal/bytealg.IndexByteString", "internal/bytealg.IndexString", "internal/abi.NoEscape", "internal/bytealg.MakeNoZero"], unfollowed := true, recurses := true, named := ["unicode/utf8.first", "unicode/utf8.acceptRanges", "internal/bytealg.MaxLen"], apart := false, laid := [("unicode/utf8.acceptRanges", laid_unicode_utf8_acceptRanges), ("unicode/utf8.first", laid_unicode_utf8_first)] }
def WitPartsSaid : Prop := witPartsRow.holds Tryz.pinned (OpenSpec.ofChange witPartsSpec)

/-- ITS FALSE NEIGHBOUR: 'it returns false'. Refute it at one input. -/
def witPartsWrong : ChangeSpec := { name := "witParts", fn := fun _ => fun
  | [d] => { results := [.lit (.bool false)], args := [d] }
  | _ => none }
def WitPartsWrongFalsely : Prop := witPartsRow.holds Tryz.pinned (OpenSpec.ofChange witPartsWrong)

/-- 'loupelaw15.WitMany': WHATEVER THE INPUT: true; the input reads as it did. -/
def witManySpec : ChangeSpec := { name := "witMany", fn := fun _ => fun
  | [d1, d2, d3] => { results := [.lit (.bool true)], args := [d1, d2, d3] }
  | _ => none }
def witManyRow : OpenClaim := { program := "ytcememnoihgipaagreatdoor", sum := "e6ab4ab5cc6bd1d0d6a1ac4cedf58cd41b7aa790506574a1169ac12b264ac430", func := "loupe/loupelaw15.WitMany", spec := "witMany", inPlace := ["internal/bytealg.IndexByteString", "internal/bytealg.IndexString", "internal/abi.NoEscape", "internal/bytealg.MakeNoZero"], unfollowed := true, recurses := true, named := ["unicode/utf8.first", "unicode/utf8.acceptRanges", "internal/bytealg.MaxLen"], apart := false, laid := [("unicode/utf8.acceptRanges", laid_unicode_utf8_acceptRanges), ("unicode/utf8.first", laid_unicode_utf8_first)] }
def WitManySaid : Prop := witManyRow.holds Tryz.pinned (OpenSpec.ofChange witManySpec)

/-- ITS FALSE NEIGHBOUR: 'it returns false'. Refute it at one input. -/
def witManyWrong : ChangeSpec := { name := "witMany", fn := fun _ => fun
  | [d1, d2, d3] => { results := [.lit (.bool false)], args := [d1, d2, d3] }
  | _ => none }
def WitManyWrongFalsely : Prop := witManyRow.holds Tryz.pinned (OpenSpec.ofChange witManyWrong)

/-- 'loupelaw22.EditTells': WHATEVER THE INPUT: true; the input reads as it did. -/
def editTellsSpec : ChangeSpec := { name := "editTells", fn := fun _ => fun
  | [d1, d2] => { results := [.lit (.bool true)], args := [d1, d2] }
  | _ => none }
def editTellsRow : OpenClaim := { program := "ytcememnoihgipaagreatdoor", sum := "e6ab4ab5cc6bd1d0d6a1ac4cedf58cd41b7aa790506574a1169ac12b264ac430", func := "loupe/loupelaw22.EditTells", spec := "editTells", inPlace := ["maps.clone", "internal/bytealg.IndexByteString", "internal/bytealg.IndexString", "slices.overlaps[string]", "slices.overlaps[loupe/api.Val]"], unfollowed := true, recurses := true, named := ["unicode/utf8.first", "unicode/utf8.acceptRanges", "internal/bytealg.MaxLen"], apart := false, laid := [("unicode/utf8.acceptRanges", laid_unicode_utf8_acceptRanges), ("unicode/utf8.first", laid_unicode_utf8_first)] }
def EditTellsSaid : Prop := editTellsRow.holds Tryz.pinned (OpenSpec.ofChange editTellsSpec)

/-- ITS FALSE NEIGHBOUR: 'it returns false'. Refute it at one input. -/
def editTellsWrong : ChangeSpec := { name := "editTells", fn := fun _ => fun
  | [d1, d2] => { results := [.lit (.bool false)], args := [d1, d2] }
  | _ => none }
def EditTellsWrongFalsely : Prop := editTellsRow.holds Tryz.pinned (OpenSpec.ofChange editTellsWrong)

/-- 'loupelaw22.EditDoes': WHATEVER THE INPUT: true; the input reads as it did. -/
def editDoesSpec : ChangeSpec := { name := "editDoes", fn := fun _ => fun
  | [d1, d2] => { results := [.lit (.bool true)], args := [d1, d2] }
  | _ => none }
def editDoesRow : OpenClaim := { program := "ytcememnoihgipaagreatdoor", sum := "e6ab4ab5cc6bd1d0d6a1ac4cedf58cd41b7aa790506574a1169ac12b264ac430", func := "loupe/loupelaw22.EditDoes", spec := "editDoes", inPlace := ["maps.clone", "internal/bytealg.IndexByteString", "internal/bytealg.IndexString", "slices.overlaps[string]", "slices.overlaps[loupe/api.Val]"], unfollowed := true, recurses := true, named := ["unicode/utf8.first", "unicode/utf8.acceptRanges", "internal/bytealg.MaxLen"], apart := false, laid := [("unicode/utf8.acceptRanges", laid_unicode_utf8_acceptRanges), ("unicode/utf8.first", laid_unicode_utf8_first)] }
def EditDoesSaid : Prop := editDoesRow.holds Tryz.pinned (OpenSpec.ofChange editDoesSpec)

/-- ITS FALSE NEIGHBOUR: 'it returns false'. Refute it at one input. -/
def editDoesWrong : ChangeSpec := { name := "editDoes", fn := fun _ => fun
  | [d1, d2] => { results := [.lit (.bool false)], args := [d1, d2] }
  | _ => none }
def EditDoesWrongFalsely : Prop := editDoesRow.holds Tryz.pinned (OpenSpec.ofChange editDoesWrong)

/-- 'loupelaw22.EditScript': WHATEVER THE INPUT: true; the input reads as it did. -/
def editScriptSpec : ChangeSpec := { name := "editScript", fn := fun _ => fun
  | [d1, d2] => { results := [.lit (.bool true)], args := [d1, d2] }
  | _ => none }
def editScriptRow : OpenClaim := { program := "ytcememnoihgipaagreatdoor", sum := "e6ab4ab5cc6bd1d0d6a1ac4cedf58cd41b7aa790506574a1169ac12b264ac430", func := "loupe/loupelaw22.EditScript", spec := "editScript", inPlace := ["maps.clone", "internal/bytealg.IndexByteString", "internal/bytealg.IndexString", "slices.overlaps[string]", "slices.overlaps[loupe/api.Val]"], unfollowed := true, recurses := true, named := ["unicode/utf8.first", "unicode/utf8.acceptRanges", "internal/bytealg.MaxLen"], apart := false, laid := [("unicode/utf8.acceptRanges", laid_unicode_utf8_acceptRanges), ("unicode/utf8.first", laid_unicode_utf8_first)] }
def EditScriptSaid : Prop := editScriptRow.holds Tryz.pinned (OpenSpec.ofChange editScriptSpec)

/-- ITS FALSE NEIGHBOUR: 'it returns false'. Refute it at one input. -/
def editScriptWrong : ChangeSpec := { name := "editScript", fn := fun _ => fun
  | [d1, d2] => { results := [.lit (.bool false)], args := [d1, d2] }
  | _ => none }
def EditScriptWrongFalsely : Prop := editScriptRow.holds Tryz.pinned (OpenSpec.ofChange editScriptWrong)

/-- 'loupelaw22.EditRight': WHATEVER THE INPUT: true; the input reads as it did. -/
def editRightSpec : ChangeSpec := { name := "editRight", fn := fun _ => fun
  | [d1, d2] => { results := [.lit (.bool true)], args := [d1, d2] }
  | _ => none }
def editRightRow : OpenClaim := { program := "ytcememnoihgipaagreatdoor", sum := "e6ab4ab5cc6bd1d0d6a1ac4cedf58cd41b7aa790506574a1169ac12b264ac430", func := "loupe/loupelaw22.EditRight", spec := "editRight", inPlace := ["maps.clone", "internal/bytealg.IndexByteString", "internal/bytealg.IndexString", "slices.overlaps[string]", "slices.overlaps[loupe/api.Val]"], unfollowed := true, recurses := true, named := ["unicode/utf8.first", "unicode/utf8.acceptRanges", "internal/bytealg.MaxLen"], apart := false, laid := [("unicode/utf8.acceptRanges", laid_unicode_utf8_acceptRanges), ("unicode/utf8.first", laid_unicode_utf8_first)] }
def EditRightSaid : Prop := editRightRow.holds Tryz.pinned (OpenSpec.ofChange editRightSpec)

/-- ITS FALSE NEIGHBOUR: 'it returns false'. Refute it at one input. -/
def editRightWrong : ChangeSpec := { name := "editRight", fn := fun _ => fun
  | [d1, d2] => { results := [.lit (.bool false)], args := [d1, d2] }
  | _ => none }
def EditRightWrongFalsely : Prop := editRightRow.holds Tryz.pinned (OpenSpec.ofChange editRightWrong)

/-- 'loupelaw22.EditSmall': WHATEVER THE INPUT: true; the input reads as it did. -/
def editSmallSpec : ChangeSpec := { name := "editSmall", fn := fun _ => fun
  | [d1, d2, d3] => { results := [.lit (.bool true)], args := [d1, d2, d3] }
  | _ => none }
def editSmallRow : OpenClaim := { program := "ytcememnoihgipaagreatdoor", sum := "e6ab4ab5cc6bd1d0d6a1ac4cedf58cd41b7aa790506574a1169ac12b264ac430", func := "loupe/loupelaw22.EditSmall", spec := "editSmall", inPlace := ["maps.clone", "internal/bytealg.IndexByteString", "internal/bytealg.IndexString", "slices.overlaps[string]", "slices.overlaps[loupe/api.Val]"], unfollowed := true, recurses := true, named := ["unicode/utf8.first", "unicode/utf8.acceptRanges", "internal/bytealg.MaxLen"], apart := false, laid := [("unicode/utf8.acceptRanges", laid_unicode_utf8_acceptRanges), ("unicode/utf8.first", laid_unicode_utf8_first)] }
def EditSmallSaid : Prop := editSmallRow.holds Tryz.pinned (OpenSpec.ofChange editSmallSpec)

/-- ITS FALSE NEIGHBOUR: 'it returns false'. Refute it at one input. -/
def editSmallWrong : ChangeSpec := { name := "editSmall", fn := fun _ => fun
  | [d1, d2, d3] => { results := [.lit (.bool false)], args := [d1, d2, d3] }
  | _ => none }
def EditSmallWrongFalsely : Prop := editSmallRow.holds Tryz.pinned (OpenSpec.ofChange editSmallWrong)

/- THE SECOND FORM. 'bulk': how many values and letters a reading holds, each counted each time it is reached (what is shared counts as often as it is met; a slice's spare places count too). A statement '..UptoSaid' is the law's where the arguments, and the package variables that the reading takes, are together of bulk at most 1048576: NARROWER than '..Said'. Prove '..Said' where nothing that the law and all that it calls make is longer than what came in: it says more and counts as full. Else prove '..UptoSaid'. A law counts once. -/
mutual
def uptoBulk {H : Type} : DataW H → Nat
  | .lit (.string bytes) => bytes.length + 1
  | .lit _ => 1
  | .nil => 1
  | .ptr d => uptoBulk d + 1
  | .slice elems spare => uptoBulkAll elems + uptoBulkAll spare + 1
  | .agg parts => uptoBulkAll parts + 1
  | .iface _ d => uptoBulk d + 1
  | .map entries => uptoBulkEntries entries + 1
  | .held _ => 1
def uptoBulkAll {H : Type} : List (DataW H) → Nat
  | [] => 0
  | d :: r => uptoBulk d + uptoBulkAll r
def uptoBulkEntries {H : Type} : List (Lit × DataW H) → Nat
  | [] => 0
  | x :: r => uptoBulkEntry x + uptoBulkEntries r
def uptoBulkEntry {H : Type} : Lit × DataW H → Nat
  | (.string bytes, d) => bytes.length + uptoBulk d + 1
  | (_, d) => uptoBulk d + 1
 end
def uptoSmall : (H : Type) → List (DataW H) → Bool := fun _ ds => decide (uptoBulkAll ds ≤ 1048576)
def OpenSpec.upto (s : _root_.Go.ChangeSpec) : _root_.Go.OpenSpec := { _root_.Go.OpenSpec.ofChange s with cond := some uptoSmall }

/-- 'loupelaw11.AtomTells', WHERE WHAT IT READS IS OF BULK AT MOST 1048576: true; the input reads as it did. -/
def atomTellsUptoRow : OpenClaim := { program := "ytcememnoihgipaagreatdoor", sum := "e6ab4ab5cc6bd1d0d6a1ac4cedf58cd41b7aa790506574a1169ac12b264ac430", func := "loupe/loupelaw11.AtomTells", spec := "atomTells", inPlace := ["internal/bytealg.IndexByteString", "internal/bytealg.IndexString", "internal/abi.NoEscape", "internal/bytealg.MakeNoZero"], unfollowed := true, recurses := true, named := ["unicode/utf8.first", "unicode/utf8.acceptRanges", "internal/bytealg.MaxLen"], apart := false, laid := [("unicode/utf8.acceptRanges", laid_unicode_utf8_acceptRanges), ("unicode/utf8.first", laid_unicode_utf8_first)], narrowed := true }
def AtomTellsUptoSaid : Prop := atomTellsUptoRow.holds Tryz.pinned (OpenSpec.upto atomTellsSpec)

/-- 'loupelaw11.AtomTurns', WHERE WHAT IT READS IS OF BULK AT MOST 1048576: true; the input reads as it did. -/
def atomTurnsUptoRow : OpenClaim := { program := "ytcememnoihgipaagreatdoor", sum := "e6ab4ab5cc6bd1d0d6a1ac4cedf58cd41b7aa790506574a1169ac12b264ac430", func := "loupe/loupelaw11.AtomTurns", spec := "atomTurns", inPlace := ["internal/bytealg.IndexByteString", "internal/bytealg.IndexString", "internal/abi.NoEscape", "internal/bytealg.MakeNoZero"], unfollowed := true, recurses := true, named := ["unicode/utf8.first", "unicode/utf8.acceptRanges", "internal/bytealg.MaxLen"], apart := false, laid := [("unicode/utf8.acceptRanges", laid_unicode_utf8_acceptRanges), ("unicode/utf8.first", laid_unicode_utf8_first)], narrowed := true }
def AtomTurnsUptoSaid : Prop := atomTurnsUptoRow.holds Tryz.pinned (OpenSpec.upto atomTurnsSpec)

/-- 'loupelaw02.ValFields', WHERE WHAT IT READS IS OF BULK AT MOST 1048576: true; the input reads as it did. -/
def valFieldsUptoRow : OpenClaim := { program := "ytcememnoihgipaagreatdoor", sum := "e6ab4ab5cc6bd1d0d6a1ac4cedf58cd41b7aa790506574a1169ac12b264ac430", func := "loupe/loupelaw02.ValFields", spec := "valFields", inPlace := ["internal/bytealg.IndexByteString", "internal/bytealg.IndexString", "slices.overlaps[string]", "slices.overlaps[loupe/api.Val]"], unfollowed := true, recurses := true, named := ["unicode/utf8.first", "unicode/utf8.acceptRanges", "internal/bytealg.MaxLen"], apart := false, laid := [("unicode/utf8.acceptRanges", laid_unicode_utf8_acceptRanges), ("unicode/utf8.first", laid_unicode_utf8_first)], narrowed := true }
def ValFieldsUptoSaid : Prop := valFieldsUptoRow.holds Tryz.pinned (OpenSpec.upto valFieldsSpec)

/-- 'loupelaw02.ValPuts', WHERE WHAT IT READS IS OF BULK AT MOST 1048576: true; the input reads as it did. -/
def valPutsUptoRow : OpenClaim := { program := "ytcememnoihgipaagreatdoor", sum := "e6ab4ab5cc6bd1d0d6a1ac4cedf58cd41b7aa790506574a1169ac12b264ac430", func := "loupe/loupelaw02.ValPuts", spec := "valPuts", inPlace := ["internal/bytealg.IndexByteString", "internal/bytealg.IndexString", "slices.overlaps[string]", "slices.overlaps[loupe/api.Val]"], unfollowed := true, recurses := true, named := ["unicode/utf8.first", "unicode/utf8.acceptRanges", "internal/bytealg.MaxLen"], apart := false, laid := [("unicode/utf8.acceptRanges", laid_unicode_utf8_acceptRanges), ("unicode/utf8.first", laid_unicode_utf8_first)], narrowed := true }
def ValPutsUptoSaid : Prop := valPutsUptoRow.holds Tryz.pinned (OpenSpec.upto valPutsSpec)

/-- 'loupelaw02.ValSizes', WHERE WHAT IT READS IS OF BULK AT MOST 1048576: true; the input reads as it did. -/
def valSizesUptoRow : OpenClaim := { program := "ytcememnoihgipaagreatdoor", sum := "e6ab4ab5cc6bd1d0d6a1ac4cedf58cd41b7aa790506574a1169ac12b264ac430", func := "loupe/loupelaw02.ValSizes", spec := "valSizes", inPlace := ["internal/bytealg.IndexByteString", "internal/bytealg.IndexString", "slices.overlaps[string]", "slices.overlaps[loupe/api.Val]"], unfollowed := true, recurses := true, named := ["unicode/utf8.first", "unicode/utf8.acceptRanges", "internal/bytealg.MaxLen"], apart := false, laid := [("unicode/utf8.acceptRanges", laid_unicode_utf8_acceptRanges), ("unicode/utf8.first", laid_unicode_utf8_first)], narrowed := true }
def ValSizesUptoSaid : Prop := valSizesUptoRow.holds Tryz.pinned (OpenSpec.upto valSizesSpec)

/-- 'loupelaw16.InclRefines', WHERE WHAT IT READS IS OF BULK AT MOST 1048576: true; the input reads as it did. -/
def inclRefinesUptoRow : OpenClaim := { program := "ytcememnoihgipaagreatdoor", sum := "e6ab4ab5cc6bd1d0d6a1ac4cedf58cd41b7aa790506574a1169ac12b264ac430", func := "loupe/loupelaw16.InclRefines", spec := "inclRefines", inPlace := ["slices.overlaps[loupe/api.Ty]", "internal/bytealg.IndexByteString", "internal/bytealg.IndexString", "internal/abi.NoEscape", "internal/bytealg.MakeNoZero"], unfollowed := true, recurses := true, named := ["unicode/utf8.first", "unicode/utf8.acceptRanges", "internal/bytealg.MaxLen"], apart := false, laid := [("unicode/utf8.acceptRanges", laid_unicode_utf8_acceptRanges), ("unicode/utf8.first", laid_unicode_utf8_first)], narrowed := true }
def InclRefinesUptoSaid : Prop := inclRefinesUptoRow.holds Tryz.pinned (OpenSpec.upto inclRefinesSpec)

/-- 'loupelaw16.InclExact', WHERE WHAT IT READS IS OF BULK AT MOST 1048576: true; the input reads as it did. -/
def inclExactUptoRow : OpenClaim := { program := "ytcememnoihgipaagreatdoor", sum := "e6ab4ab5cc6bd1d0d6a1ac4cedf58cd41b7aa790506574a1169ac12b264ac430", func := "loupe/loupelaw16.InclExact", spec := "inclExact", inPlace := ["slices.overlaps[loupe/api.Ty]", "internal/bytealg.IndexByteString", "internal/bytealg.IndexString", "internal/abi.NoEscape", "internal/bytealg.MakeNoZero"], unfollowed := true, recurses := true, named := ["unicode/utf8.first", "unicode/utf8.acceptRanges", "internal/bytealg.MaxLen"], apart := false, laid := [("unicode/utf8.acceptRanges", laid_unicode_utf8_acceptRanges), ("unicode/utf8.first", laid_unicode_utf8_first)], narrowed := true }
def InclExactUptoSaid : Prop := inclExactUptoRow.holds Tryz.pinned (OpenSpec.upto inclExactSpec)

/-- 'loupelaw16.InclOrder', WHERE WHAT IT READS IS OF BULK AT MOST 1048576: true; the input reads as it did. -/
def inclOrderUptoRow : OpenClaim := { program := "ytcememnoihgipaagreatdoor", sum := "e6ab4ab5cc6bd1d0d6a1ac4cedf58cd41b7aa790506574a1169ac12b264ac430", func := "loupe/loupelaw16.InclOrder", spec := "inclOrder", inPlace := ["slices.overlaps[loupe/api.Ty]", "internal/bytealg.IndexByteString", "internal/bytealg.IndexString", "internal/abi.NoEscape", "internal/bytealg.MakeNoZero"], unfollowed := true, recurses := true, named := ["unicode/utf8.first", "unicode/utf8.acceptRanges", "internal/bytealg.MaxLen"], apart := false, laid := [("unicode/utf8.acceptRanges", laid_unicode_utf8_acceptRanges), ("unicode/utf8.first", laid_unicode_utf8_first)], narrowed := true }
def InclOrderUptoSaid : Prop := inclOrderUptoRow.holds Tryz.pinned (OpenSpec.upto inclOrderSpec)

/-- 'loupelaw16.InclWide', WHERE WHAT IT READS IS OF BULK AT MOST 1048576: true; the input reads as it did. -/
def inclWideUptoRow : OpenClaim := { program := "ytcememnoihgipaagreatdoor", sum := "e6ab4ab5cc6bd1d0d6a1ac4cedf58cd41b7aa790506574a1169ac12b264ac430", func := "loupe/loupelaw16.InclWide", spec := "inclWide", inPlace := ["slices.overlaps[loupe/api.Ty]", "internal/bytealg.IndexByteString", "internal/bytealg.IndexString", "internal/abi.NoEscape", "internal/bytealg.MakeNoZero"], unfollowed := true, recurses := true, named := ["unicode/utf8.first", "unicode/utf8.acceptRanges", "internal/bytealg.MaxLen"], apart := false, laid := [("unicode/utf8.acceptRanges", laid_unicode_utf8_acceptRanges), ("unicode/utf8.first", laid_unicode_utf8_first)], narrowed := true }
def InclWideUptoSaid : Prop := inclWideUptoRow.holds Tryz.pinned (OpenSpec.upto inclWideSpec)

/-- 'loupelaw15.WitTells', WHERE WHAT IT READS IS OF BULK AT MOST 1048576: true; the input reads as it did. -/
def witTellsUptoRow : OpenClaim := { program := "ytcememnoihgipaagreatdoor", sum := "e6ab4ab5cc6bd1d0d6a1ac4cedf58cd41b7aa790506574a1169ac12b264ac430", func := "loupe/loupelaw15.WitTells", spec := "witTells", inPlace := ["internal/bytealg.IndexByteString", "internal/bytealg.IndexString", "internal/abi.NoEscape", "internal/bytealg.MakeNoZero"], unfollowed := true, recurses := true, named := ["unicode/utf8.first", "unicode/utf8.acceptRanges", "internal/bytealg.MaxLen"], apart := false, laid := [("unicode/utf8.acceptRanges", laid_unicode_utf8_acceptRanges), ("unicode/utf8.first", laid_unicode_utf8_first)], narrowed := true }
def WitTellsUptoSaid : Prop := witTellsUptoRow.holds Tryz.pinned (OpenSpec.upto witTellsSpec)

/-- 'loupelaw15.WitIn', WHERE WHAT IT READS IS OF BULK AT MOST 1048576: true; the input reads as it did. -/
def witInUptoRow : OpenClaim := { program := "ytcememnoihgipaagreatdoor", sum := "e6ab4ab5cc6bd1d0d6a1ac4cedf58cd41b7aa790506574a1169ac12b264ac430", func := "loupe/loupelaw15.WitIn", spec := "witIn", inPlace := ["internal/bytealg.IndexByteString", "internal/bytealg.IndexString", "internal/abi.NoEscape", "internal/bytealg.MakeNoZero"], unfollowed := true, recurses := true, named := ["unicode/utf8.first", "unicode/utf8.acceptRanges", "internal/bytealg.MaxLen"], apart := false, laid := [("unicode/utf8.acceptRanges", laid_unicode_utf8_acceptRanges), ("unicode/utf8.first", laid_unicode_utf8_first)], narrowed := true }
def WitInUptoSaid : Prop := witInUptoRow.holds Tryz.pinned (OpenSpec.upto witInSpec)

/-- 'loupelaw15.WitSmall', WHERE WHAT IT READS IS OF BULK AT MOST 1048576: true; the input reads as it did. -/
def witSmallUptoRow : OpenClaim := { program := "ytcememnoihgipaagreatdoor", sum := "e6ab4ab5cc6bd1d0d6a1ac4cedf58cd41b7aa790506574a1169ac12b264ac430", func := "loupe/loupelaw15.WitSmall", spec := "witSmall", inPlace := ["internal/bytealg.IndexByteString", "internal/bytealg.IndexString", "internal/abi.NoEscape", "internal/bytealg.MakeNoZero"], unfollowed := true, recurses := true, named := ["unicode/utf8.first", "unicode/utf8.acceptRanges", "internal/bytealg.MaxLen"], apart := false, laid := [("unicode/utf8.acceptRanges", laid_unicode_utf8_acceptRanges), ("unicode/utf8.first", laid_unicode_utf8_first)], narrowed := true }
def WitSmallUptoSaid : Prop := witSmallUptoRow.holds Tryz.pinned (OpenSpec.upto witSmallSpec)

/-- 'loupelaw15.WitParts', WHERE WHAT IT READS IS OF BULK AT MOST 1048576: true; the input reads as it did. -/
def witPartsUptoRow : OpenClaim := { program := "ytcememnoihgipaagreatdoor", sum := "e6ab4ab5cc6bd1d0d6a1ac4cedf58cd41b7aa790506574a1169ac12b264ac430", func := "loupe/loupelaw15.WitParts", spec := "witParts", inPlace := ["internal/bytealg.IndexByteString", "internal/bytealg.IndexString", "internal/abi.NoEscape", "internal/bytealg.MakeNoZero"], unfollowed := true, recurses := true, named := ["unicode/utf8.first", "unicode/utf8.acceptRanges", "internal/bytealg.MaxLen"], apart := false, laid := [("unicode/utf8.acceptRanges", laid_unicode_utf8_acceptRanges), ("unicode/utf8.first", laid_unicode_utf8_first)], narrowed := true }
def WitPartsUptoSaid : Prop := witPartsUptoRow.holds Tryz.pinned (OpenSpec.upto witPartsSpec)

/-- 'loupelaw15.WitMany', WHERE WHAT IT READS IS OF BULK AT MOST 1048576: true; the input reads as it did. -/
def witManyUptoRow : OpenClaim := { program := "ytcememnoihgipaagreatdoor", sum := "e6ab4ab5cc6bd1d0d6a1ac4cedf58cd41b7aa790506574a1169ac12b264ac430", func := "loupe/loupelaw15.WitMany", spec := "witMany", inPlace := ["internal/bytealg.IndexByteString", "internal/bytealg.IndexString", "internal/abi.NoEscape", "internal/bytealg.MakeNoZero"], unfollowed := true, recurses := true, named := ["unicode/utf8.first", "unicode/utf8.acceptRanges", "internal/bytealg.MaxLen"], apart := false, laid := [("unicode/utf8.acceptRanges", laid_unicode_utf8_acceptRanges), ("unicode/utf8.first", laid_unicode_utf8_first)], narrowed := true }
def WitManyUptoSaid : Prop := witManyUptoRow.holds Tryz.pinned (OpenSpec.upto witManySpec)

/-- 'loupelaw22.EditTells', WHERE WHAT IT READS IS OF BULK AT MOST 1048576: true; the input reads as it did. -/
def editTellsUptoRow : OpenClaim := { program := "ytcememnoihgipaagreatdoor", sum := "e6ab4ab5cc6bd1d0d6a1ac4cedf58cd41b7aa790506574a1169ac12b264ac430", func := "loupe/loupelaw22.EditTells", spec := "editTells", inPlace := ["maps.clone", "internal/bytealg.IndexByteString", "internal/bytealg.IndexString", "slices.overlaps[string]", "slices.overlaps[loupe/api.Val]"], unfollowed := true, recurses := true, named := ["unicode/utf8.first", "unicode/utf8.acceptRanges", "internal/bytealg.MaxLen"], apart := false, laid := [("unicode/utf8.acceptRanges", laid_unicode_utf8_acceptRanges), ("unicode/utf8.first", laid_unicode_utf8_first)], narrowed := true }
def EditTellsUptoSaid : Prop := editTellsUptoRow.holds Tryz.pinned (OpenSpec.upto editTellsSpec)

/-- 'loupelaw22.EditDoes', WHERE WHAT IT READS IS OF BULK AT MOST 1048576: true; the input reads as it did. -/
def editDoesUptoRow : OpenClaim := { program := "ytcememnoihgipaagreatdoor", sum := "e6ab4ab5cc6bd1d0d6a1ac4cedf58cd41b7aa790506574a1169ac12b264ac430", func := "loupe/loupelaw22.EditDoes", spec := "editDoes", inPlace := ["maps.clone", "internal/bytealg.IndexByteString", "internal/bytealg.IndexString", "slices.overlaps[string]", "slices.overlaps[loupe/api.Val]"], unfollowed := true, recurses := true, named := ["unicode/utf8.first", "unicode/utf8.acceptRanges", "internal/bytealg.MaxLen"], apart := false, laid := [("unicode/utf8.acceptRanges", laid_unicode_utf8_acceptRanges), ("unicode/utf8.first", laid_unicode_utf8_first)], narrowed := true }
def EditDoesUptoSaid : Prop := editDoesUptoRow.holds Tryz.pinned (OpenSpec.upto editDoesSpec)

/-- 'loupelaw22.EditScript', WHERE WHAT IT READS IS OF BULK AT MOST 1048576: true; the input reads as it did. -/
def editScriptUptoRow : OpenClaim := { program := "ytcememnoihgipaagreatdoor", sum := "e6ab4ab5cc6bd1d0d6a1ac4cedf58cd41b7aa790506574a1169ac12b264ac430", func := "loupe/loupelaw22.EditScript", spec := "editScript", inPlace := ["maps.clone", "internal/bytealg.IndexByteString", "internal/bytealg.IndexString", "slices.overlaps[string]", "slices.overlaps[loupe/api.Val]"], unfollowed := true, recurses := true, named := ["unicode/utf8.first", "unicode/utf8.acceptRanges", "internal/bytealg.MaxLen"], apart := false, laid := [("unicode/utf8.acceptRanges", laid_unicode_utf8_acceptRanges), ("unicode/utf8.first", laid_unicode_utf8_first)], narrowed := true }
def EditScriptUptoSaid : Prop := editScriptUptoRow.holds Tryz.pinned (OpenSpec.upto editScriptSpec)

/-- 'loupelaw22.EditRight', WHERE WHAT IT READS IS OF BULK AT MOST 1048576: true; the input reads as it did. -/
def editRightUptoRow : OpenClaim := { program := "ytcememnoihgipaagreatdoor", sum := "e6ab4ab5cc6bd1d0d6a1ac4cedf58cd41b7aa790506574a1169ac12b264ac430", func := "loupe/loupelaw22.EditRight", spec := "editRight", inPlace := ["maps.clone", "internal/bytealg.IndexByteString", "internal/bytealg.IndexString", "slices.overlaps[string]", "slices.overlaps[loupe/api.Val]"], unfollowed := true, recurses := true, named := ["unicode/utf8.first", "unicode/utf8.acceptRanges", "internal/bytealg.MaxLen"], apart := false, laid := [("unicode/utf8.acceptRanges", laid_unicode_utf8_acceptRanges), ("unicode/utf8.first", laid_unicode_utf8_first)], narrowed := true }
def EditRightUptoSaid : Prop := editRightUptoRow.holds Tryz.pinned (OpenSpec.upto editRightSpec)

/-- 'loupelaw22.EditSmall', WHERE WHAT IT READS IS OF BULK AT MOST 1048576: true; the input reads as it did. -/
def editSmallUptoRow : OpenClaim := { program := "ytcememnoihgipaagreatdoor", sum := "e6ab4ab5cc6bd1d0d6a1ac4cedf58cd41b7aa790506574a1169ac12b264ac430", func := "loupe/loupelaw22.EditSmall", spec := "editSmall", inPlace := ["maps.clone", "internal/bytealg.IndexByteString", "internal/bytealg.IndexString", "slices.overlaps[string]", "slices.overlaps[loupe/api.Val]"], unfollowed := true, recurses := true, named := ["unicode/utf8.first", "unicode/utf8.acceptRanges", "internal/bytealg.MaxLen"], apart := false, laid := [("unicode/utf8.acceptRanges", laid_unicode_utf8_acceptRanges), ("unicode/utf8.first", laid_unicode_utf8_first)], narrowed := true }
def EditSmallUptoSaid : Prop := editSmallUptoRow.holds Tryz.pinned (OpenSpec.upto editSmallSpec)

end Rows
end Go.Proofs.YtcememnoihgipaaGreatDoor
