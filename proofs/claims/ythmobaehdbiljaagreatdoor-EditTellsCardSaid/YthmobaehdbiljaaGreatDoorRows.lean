/-
  NARROWER THAN 'FOR EVERY INPUT', by the rows' own cells (each row's printed sentence says how): EditTells: laid · EditDoes: laid · EditScript: laid · EditRight: laid · EditSmall: laid.
  DERIVED. THE GIVEN ROWS OF THIS SEAT. 5 by the template 'for every input the law returns true; each argument reads behind the call as it read before'; 0 by the template 'total and deterministic' (their statements: YthmobaehdbiljaaGreatDoorTotals.lean).
  GIVEN WITH THE SEED: the statements are not yours to turn. If you find one false, say at which input.
  Laid BY PROGRAM, IN A SANDBOX (cutbox-rows.mjs): the forced cells as the released guide's own fill.sh prints them over the translation dd7d4aa38919341c… (all of the seat's roots in one cut). By AI agents, Wed Nov 11 2026. No macro, syntax, notation, axiom, sorry.
-/
import Derived.Test.YthmobaehdbiljaaGreatDoorChecked
import GoSem.PinnedTables
import GoSem.Claim
import GoSem.ClaimJoined
import GoSem.ClaimMapViews
import Derived.JoinedTies
import Derived.KernelRfl
namespace Go.Proofs.YthmobaehdbiljaaGreatDoor
/- THE CELL 'sum', in the pinned program and in every row, IS THE sha256 OF THE DUMP (.gsa) THAT YthmobaehdbiljaaGreatDoorProg.lean LOADS. Nothing in Lean hashes anything: it is a label: what it is worth is what the hold of that sum in a sandbox is worth. -/
noncomputable def Tryz.pinned : Pinned := { name := "ythmobaehdbiljaagreatdoor", sum := "dd7d4aa38919341ccdced2ac3eb78d4ca5aaa2368a287494dba14f4049f6c1b2", checked := Tryz.checked }
namespace Rows
def none {H : Type} : Left H := { results := [], args := [] }

/- WHAT THE LISTED PACKAGE-LEVEL VARIABLES READ AS WHEN THE CALL BEGINS. Each datum BY PROGRAM (the guide's laid-datum.mjs) off the statement by which the dump's own 'gosem.cut.vars' lays the variable. In a bare row this is a premise. The card (YthmobaehdbiljaaGreatDoorCards.lean) ties it to the program's text. -/
def laid_unicode_utf8_acceptRanges {H : Type} : DataW H := .agg [.agg [.lit (.int .u8 128), .lit (.int .u8 191)], .agg [.lit (.int .u8 160), .lit (.int .u8 191)], .agg [.lit (.int .u8 128), .lit (.int .u8 159)], .agg [.lit (.int .u8 144), .lit (.int .u8 191)], .agg [.lit (.int .u8 128), .lit (.int .u8 143)], .agg [.lit (.int .u8 0), .lit (.int .u8 0)], .agg [.lit (.int .u8 0), .lit (.int .u8 0)], .agg [.lit (.int .u8 0), .lit (.int .u8 0)], .agg [.lit (.int .u8 0), .lit (.int .u8 0)], .agg [.lit (.int .u8 0), .lit (.int .u8 0)], .agg [.lit (.int .u8 0), .lit (.int .u8 0)], .agg [.lit (.int .u8 0), .lit (.int .u8 0)], .agg [.lit (.int .u8 0), .lit (.int .u8 0)], .agg [.lit (.int .u8 0), .lit (.int .u8 0)], .agg [.lit (.int .u8 0), .lit (.int .u8 0)], .agg [.lit (.int .u8 0), .lit (.int .u8 0)]]
/-- One of Go's own tables, pinned by name: the form's constant. -/
def laid_unicode_utf8_first : DataW Unit := Go.Pinned.utf8First

/-- 'loupelaw22.EditTells': WHATEVER THE INPUT: true; the input reads as it did. -/
def editTellsSpec : ChangeSpec := { name := "editTells", fn := fun _ => fun
  | [d1, d2] => { results := [.lit (.bool true)], args := [d1, d2] }
  | _ => none }
def editTellsRow : OpenClaim := { program := "ythmobaehdbiljaagreatdoor", sum := "dd7d4aa38919341ccdced2ac3eb78d4ca5aaa2368a287494dba14f4049f6c1b2", func := "loupe/loupelaw22.EditTells", spec := "editTells", inPlace := ["maps.clone", "internal/bytealg.IndexByteString", "internal/bytealg.IndexString", "slices.overlaps[string]", "slices.overlaps[loupe/api.Val]"], unfollowed := true, recurses := true, named := ["unicode/utf8.first", "unicode/utf8.acceptRanges", "internal/bytealg.MaxLen"], apart := false, laid := [("unicode/utf8.acceptRanges", laid_unicode_utf8_acceptRanges), ("unicode/utf8.first", laid_unicode_utf8_first)] }
def EditTellsSaid : Prop := editTellsRow.holds Tryz.pinned (OpenSpec.ofChange editTellsSpec)

/-- ITS FALSE NEIGHBOUR: 'it returns false'. Refute it at one input. -/
def editTellsWrong : ChangeSpec := { name := "editTells", fn := fun _ => fun
  | [d1, d2] => { results := [.lit (.bool false)], args := [d1, d2] }
  | _ => none }
def EditTellsWrongFalsely : Prop := editTellsRow.holds Tryz.pinned (OpenSpec.ofChange editTellsWrong)

/-- 'loupelaw22.EditDoes': WHATEVER THE INPUT: true; the input reads as it did. -/
def editDoesSpec : ChangeSpec := { name := "editDoes", fn := fun _ => fun
  | [d1, d2] => { results := [.lit (.bool true)], args := [d1, d2] }
  | _ => none }
def editDoesRow : OpenClaim := { program := "ythmobaehdbiljaagreatdoor", sum := "dd7d4aa38919341ccdced2ac3eb78d4ca5aaa2368a287494dba14f4049f6c1b2", func := "loupe/loupelaw22.EditDoes", spec := "editDoes", inPlace := ["maps.clone", "internal/bytealg.IndexByteString", "internal/bytealg.IndexString", "slices.overlaps[string]", "slices.overlaps[loupe/api.Val]"], unfollowed := true, recurses := true, named := ["unicode/utf8.first", "unicode/utf8.acceptRanges", "internal/bytealg.MaxLen"], apart := false, laid := [("unicode/utf8.acceptRanges", laid_unicode_utf8_acceptRanges), ("unicode/utf8.first", laid_unicode_utf8_first)] }
def EditDoesSaid : Prop := editDoesRow.holds Tryz.pinned (OpenSpec.ofChange editDoesSpec)

/-- ITS FALSE NEIGHBOUR: 'it returns false'. Refute it at one input. -/
def editDoesWrong : ChangeSpec := { name := "editDoes", fn := fun _ => fun
  | [d1, d2] => { results := [.lit (.bool false)], args := [d1, d2] }
  | _ => none }
def EditDoesWrongFalsely : Prop := editDoesRow.holds Tryz.pinned (OpenSpec.ofChange editDoesWrong)

/-- 'loupelaw22.EditScript': WHATEVER THE INPUT: true; the input reads as it did. -/
def editScriptSpec : ChangeSpec := { name := "editScript", fn := fun _ => fun
  | [d1, d2] => { results := [.lit (.bool true)], args := [d1, d2] }
  | _ => none }
def editScriptRow : OpenClaim := { program := "ythmobaehdbiljaagreatdoor", sum := "dd7d4aa38919341ccdced2ac3eb78d4ca5aaa2368a287494dba14f4049f6c1b2", func := "loupe/loupelaw22.EditScript", spec := "editScript", inPlace := ["maps.clone", "internal/bytealg.IndexByteString", "internal/bytealg.IndexString", "slices.overlaps[string]", "slices.overlaps[loupe/api.Val]"], unfollowed := true, recurses := true, named := ["unicode/utf8.first", "unicode/utf8.acceptRanges", "internal/bytealg.MaxLen"], apart := false, laid := [("unicode/utf8.acceptRanges", laid_unicode_utf8_acceptRanges), ("unicode/utf8.first", laid_unicode_utf8_first)] }
def EditScriptSaid : Prop := editScriptRow.holds Tryz.pinned (OpenSpec.ofChange editScriptSpec)

/-- ITS FALSE NEIGHBOUR: 'it returns false'. Refute it at one input. -/
def editScriptWrong : ChangeSpec := { name := "editScript", fn := fun _ => fun
  | [d1, d2] => { results := [.lit (.bool false)], args := [d1, d2] }
  | _ => none }
def EditScriptWrongFalsely : Prop := editScriptRow.holds Tryz.pinned (OpenSpec.ofChange editScriptWrong)

/-- 'loupelaw22.EditRight': WHATEVER THE INPUT: true; the input reads as it did. -/
def editRightSpec : ChangeSpec := { name := "editRight", fn := fun _ => fun
  | [d1, d2] => { results := [.lit (.bool true)], args := [d1, d2] }
  | _ => none }
def editRightRow : OpenClaim := { program := "ythmobaehdbiljaagreatdoor", sum := "dd7d4aa38919341ccdced2ac3eb78d4ca5aaa2368a287494dba14f4049f6c1b2", func := "loupe/loupelaw22.EditRight", spec := "editRight", inPlace := ["maps.clone", "internal/bytealg.IndexByteString", "internal/bytealg.IndexString", "slices.overlaps[string]", "slices.overlaps[loupe/api.Val]"], unfollowed := true, recurses := true, named := ["unicode/utf8.first", "unicode/utf8.acceptRanges", "internal/bytealg.MaxLen"], apart := false, laid := [("unicode/utf8.acceptRanges", laid_unicode_utf8_acceptRanges), ("unicode/utf8.first", laid_unicode_utf8_first)] }
def EditRightSaid : Prop := editRightRow.holds Tryz.pinned (OpenSpec.ofChange editRightSpec)

/-- ITS FALSE NEIGHBOUR: 'it returns false'. Refute it at one input. -/
def editRightWrong : ChangeSpec := { name := "editRight", fn := fun _ => fun
  | [d1, d2] => { results := [.lit (.bool false)], args := [d1, d2] }
  | _ => none }
def EditRightWrongFalsely : Prop := editRightRow.holds Tryz.pinned (OpenSpec.ofChange editRightWrong)

/-- 'loupelaw22.EditSmall': WHATEVER THE INPUT: true; the input reads as it did. -/
def editSmallSpec : ChangeSpec := { name := "editSmall", fn := fun _ => fun
  | [d1, d2, d3] => { results := [.lit (.bool true)], args := [d1, d2, d3] }
  | _ => none }
def editSmallRow : OpenClaim := { program := "ythmobaehdbiljaagreatdoor", sum := "dd7d4aa38919341ccdced2ac3eb78d4ca5aaa2368a287494dba14f4049f6c1b2", func := "loupe/loupelaw22.EditSmall", spec := "editSmall", inPlace := ["maps.clone", "internal/bytealg.IndexByteString", "internal/bytealg.IndexString", "slices.overlaps[string]", "slices.overlaps[loupe/api.Val]"], unfollowed := true, recurses := true, named := ["unicode/utf8.first", "unicode/utf8.acceptRanges", "internal/bytealg.MaxLen"], apart := false, laid := [("unicode/utf8.acceptRanges", laid_unicode_utf8_acceptRanges), ("unicode/utf8.first", laid_unicode_utf8_first)] }
def EditSmallSaid : Prop := editSmallRow.holds Tryz.pinned (OpenSpec.ofChange editSmallSpec)

/-- ITS FALSE NEIGHBOUR: 'it returns false'. Refute it at one input. -/
def editSmallWrong : ChangeSpec := { name := "editSmall", fn := fun _ => fun
  | [d1, d2, d3] => { results := [.lit (.bool false)], args := [d1, d2, d3] }
  | _ => none }
def EditSmallWrongFalsely : Prop := editSmallRow.holds Tryz.pinned (OpenSpec.ofChange editSmallWrong)

/- THE SECOND FORM. 'bulk': how many values and letters a reading holds, each counted each time it is reached (what is shared counts as often as it is met; a slice's spare places count too). A statement '..UptoSaid' is the law's where the arguments, and the package variables that the reading takes, are together of bulk at most 1048576: NARROWER than '..Said'. Prove '..Said' where nothing that the law and all that it calls make is longer than what came in: it says more and counts as full. Else prove '..UptoSaid'. A law counts once. -/
mutual
def uptoBulk {H : Type} : DataW H → Nat
  | .lit (.string bytes) => bytes.length + 1
  | .lit _ => 1
  | .nil => 1
  | .ptr d => uptoBulk d + 1
  | .slice elems spare => uptoBulkAll elems + uptoBulkAll spare + 1
  | .agg parts => uptoBulkAll parts + 1
  | .iface _ d => uptoBulk d + 1
  | .map entries => uptoBulkEntries entries + 1
  | .held _ => 1
def uptoBulkAll {H : Type} : List (DataW H) → Nat
  | [] => 0
  | d :: r => uptoBulk d + uptoBulkAll r
def uptoBulkEntries {H : Type} : List (Lit × DataW H) → Nat
  | [] => 0
  | x :: r => uptoBulkEntry x + uptoBulkEntries r
def uptoBulkEntry {H : Type} : Lit × DataW H → Nat
  | (.string bytes, d) => bytes.length + uptoBulk d + 1
  | (_, d) => uptoBulk d + 1
 end
def uptoSmall : (H : Type) → List (DataW H) → Bool := fun _ ds => decide (uptoBulkAll ds ≤ 1048576)
def OpenSpec.upto (s : _root_.Go.ChangeSpec) : _root_.Go.OpenSpec := { _root_.Go.OpenSpec.ofChange s with cond := some uptoSmall }

/-- 'loupelaw22.EditTells', WHERE WHAT IT READS IS OF BULK AT MOST 1048576: true; the input reads as it did. -/
def editTellsUptoRow : OpenClaim := { program := "ythmobaehdbiljaagreatdoor", sum := "dd7d4aa38919341ccdced2ac3eb78d4ca5aaa2368a287494dba14f4049f6c1b2", func := "loupe/loupelaw22.EditTells", spec := "editTells", inPlace := ["maps.clone", "internal/bytealg.IndexByteString", "internal/bytealg.IndexString", "slices.overlaps[string]", "slices.overlaps[loupe/api.Val]"], unfollowed := true, recurses := true, named := ["unicode/utf8.first", "unicode/utf8.acceptRanges", "internal/bytealg.MaxLen"], apart := false, laid := [("unicode/utf8.acceptRanges", laid_unicode_utf8_acceptRanges), ("unicode/utf8.first", laid_unicode_utf8_first)], narrowed := true }
def EditTellsUptoSaid : Prop := editTellsUptoRow.holds Tryz.pinned (OpenSpec.upto editTellsSpec)

/-- 'loupelaw22.EditDoes', WHERE WHAT IT READS IS OF BULK AT MOST 1048576: true; the input reads as it did. -/
def editDoesUptoRow : OpenClaim := { program := "ythmobaehdbiljaagreatdoor", sum := "dd7d4aa38919341ccdced2ac3eb78d4ca5aaa2368a287494dba14f4049f6c1b2", func := "loupe/loupelaw22.EditDoes", spec := "editDoes", inPlace := ["maps.clone", "internal/bytealg.IndexByteString", "internal/bytealg.IndexString", "slices.overlaps[string]", "slices.overlaps[loupe/api.Val]"], unfollowed := true, recurses := true, named := ["unicode/utf8.first", "unicode/utf8.acceptRanges", "internal/bytealg.MaxLen"], apart := false, laid := [("unicode/utf8.acceptRanges", laid_unicode_utf8_acceptRanges), ("unicode/utf8.first", laid_unicode_utf8_first)], narrowed := true }
def EditDoesUptoSaid : Prop := editDoesUptoRow.holds Tryz.pinned (OpenSpec.upto editDoesSpec)

/-- 'loupelaw22.EditScript', WHERE WHAT IT READS IS OF BULK AT MOST 1048576: true; the input reads as it did. -/
def editScriptUptoRow : OpenClaim := { program := "ythmobaehdbiljaagreatdoor", sum := "dd7d4aa38919341ccdced2ac3eb78d4ca5aaa2368a287494dba14f4049f6c1b2", func := "loupe/loupelaw22.EditScript", spec := "editScript", inPlace := ["maps.clone", "internal/bytealg.IndexByteString", "internal/bytealg.IndexString", "slices.overlaps[string]", "slices.overlaps[loupe/api.Val]"], unfollowed := true, recurses := true, named := ["unicode/utf8.first", "unicode/utf8.acceptRanges", "internal/bytealg.MaxLen"], apart := false, laid := [("unicode/utf8.acceptRanges", laid_unicode_utf8_acceptRanges), ("unicode/utf8.first", laid_unicode_utf8_first)], narrowed := true }
def EditScriptUptoSaid : Prop := editScriptUptoRow.holds Tryz.pinned (OpenSpec.upto editScriptSpec)

/-- 'loupelaw22.EditRight', WHERE WHAT IT READS IS OF BULK AT MOST 1048576: true; the input reads as it did. -/
def editRightUptoRow : OpenClaim := { program := "ythmobaehdbiljaagreatdoor", sum := "dd7d4aa38919341ccdced2ac3eb78d4ca5aaa2368a287494dba14f4049f6c1b2", func := "loupe/loupelaw22.EditRight", spec := "editRight", inPlace := ["maps.clone", "internal/bytealg.IndexByteString", "internal/bytealg.IndexString", "slices.overlaps[string]", "slices.overlaps[loupe/api.Val]"], unfollowed := true, recurses := true, named := ["unicode/utf8.first", "unicode/utf8.acceptRanges", "internal/bytealg.MaxLen"], apart := false, laid := [("unicode/utf8.acceptRanges", laid_unicode_utf8_acceptRanges), ("unicode/utf8.first", laid_unicode_utf8_first)], narrowed := true }
def EditRightUptoSaid : Prop := editRightUptoRow.holds Tryz.pinned (OpenSpec.upto editRightSpec)

/-- 'loupelaw22.EditSmall', WHERE WHAT IT READS IS OF BULK AT MOST 1048576: true; the input reads as it did. -/
def editSmallUptoRow : OpenClaim := { program := "ythmobaehdbiljaagreatdoor", sum := "dd7d4aa38919341ccdced2ac3eb78d4ca5aaa2368a287494dba14f4049f6c1b2", func := "loupe/loupelaw22.EditSmall", spec := "editSmall", inPlace := ["maps.clone", "internal/bytealg.IndexByteString", "internal/bytealg.IndexString", "slices.overlaps[string]", "slices.overlaps[loupe/api.Val]"], unfollowed := true, recurses := true, named := ["unicode/utf8.first", "unicode/utf8.acceptRanges", "internal/bytealg.MaxLen"], apart := false, laid := [("unicode/utf8.acceptRanges", laid_unicode_utf8_acceptRanges), ("unicode/utf8.first", laid_unicode_utf8_first)], narrowed := true }
def EditSmallUptoSaid : Prop := editSmallUptoRow.holds Tryz.pinned (OpenSpec.upto editSmallSpec)

end Rows
end Go.Proofs.YthmobaehdbiljaaGreatDoor
