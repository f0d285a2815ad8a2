/-
  NARROWER THAN 'FOR EVERY INPUT', by the rows' own cells (each row's printed sentence says how): WitTells: laid · WitIn: laid · WitSmall: laid · WitParts: laid · WitMany: laid.
  DERIVED. THE GIVEN ROWS OF THIS SEAT. 5 by the template 'for every input the law returns true; each argument reads behind the call as it read before'; 0 by the template 'total and deterministic' (their statements: YtfgfjbcoeakonaaGreatDoorTotals.lean).
  GIVEN WITH THE SEED: the statements are not yours to turn. If you find one false, say at which input.
  Laid BY PROGRAM, IN A SANDBOX (cutbox-rows.mjs): the forced cells as the released guide's own fill.sh prints them over the translation c5b0d01eafd209d4… (all of the seat's roots in one cut). By AI agents, Wed Nov 11 2026. No macro, syntax, notation, axiom, sorry.
-/
import Derived.Test.YtfgfjbcoeakonaaGreatDoorChecked
import GoSem.PinnedTables
import GoSem.Claim
import GoSem.ClaimJoined
import GoSem.ClaimMapViews
import Derived.JoinedTies
import Derived.KernelRfl
namespace Go.Proofs.YtfgfjbcoeakonaaGreatDoor
/- THE CELL 'sum', in the pinned program and in every row, IS THE sha256 OF THE DUMP (.gsa) THAT YtfgfjbcoeakonaaGreatDoorProg.lean LOADS. Nothing in Lean hashes anything: it is a label: what it is worth is what the hold of that sum in a sandbox is worth. -/
noncomputable def Tryz.pinned : Pinned := { name := "ytfgfjbcoeakonaagreatdoor", sum := "c5b0d01eafd209d4ead1852bd10a098473c38ae786c0caac97b8353953ad023e", checked := Tryz.checked }
namespace Rows
def none {H : Type} : Left H := { results := [], args := [] }

/- WHAT THE LISTED PACKAGE-LEVEL VARIABLES READ AS WHEN THE CALL BEGINS. Each datum BY PROGRAM (the guide's laid-datum.mjs) off the statement by which the dump's own 'gosem.cut.vars' lays the variable. In a bare row this is a premise. The card (YtfgfjbcoeakonaaGreatDoorCards.lean) ties it to the program's text. -/
def laid_unicode_utf8_acceptRanges {H : Type} : DataW H := .agg [.agg [.lit (.int .u8 128), .lit (.int .u8 191)], .agg [.lit (.int .u8 160), .lit (.int .u8 191)], .agg [.lit (.int .u8 128), .lit (.int .u8 159)], .agg [.lit (.int .u8 144), .lit (.int .u8 191)], .agg [.lit (.int .u8 128), .lit (.int .u8 143)], .agg [.lit (.int .u8 0), .lit (.int .u8 0)], .agg [.lit (.int .u8 0), .lit (.int .u8 0)], .agg [.lit (.int .u8 0), .lit (.int .u8 0)], .agg [.lit (.int .u8 0), .lit (.int .u8 0)], .agg [.lit (.int .u8 0), .lit (.int .u8 0)], .agg [.lit (.int .u8 0), .lit (.int .u8 0)], .agg [.lit (.int .u8 0), .lit (.int .u8 0)], .agg [.lit (.int .u8 0), .lit (.int .u8 0)], .agg [.lit (.int .u8 0), .lit (.int .u8 0)], .agg [.lit (.int .u8 0), .lit (.int .u8 0)], .agg [.lit (.int .u8 0), .lit (.int .u8 0)]]
/-- One of Go's own tables, pinned by name: the form's constant. -/
def laid_unicode_utf8_first : DataW Unit := Go.Pinned.utf8First

/-- 'loupelaw15.WitTells': WHATEVER THE INPUT: true; the input reads as it did. -/
def witTellsSpec : ChangeSpec := { name := "witTells", fn := fun _ => fun
  | [d1, d2] => { results := [.lit (.bool true)], args := [d1, d2] }
  | _ => none }
def witTellsRow : OpenClaim := { program := "ytfgfjbcoeakonaagreatdoor", sum := "c5b0d01eafd209d4ead1852bd10a098473c38ae786c0caac97b8353953ad023e", func := "loupe/loupelaw15.WitTells", spec := "witTells", inPlace := ["internal/bytealg.IndexByteString", "internal/bytealg.IndexString", "internal/abi.NoEscape", "internal/bytealg.MakeNoZero"], unfollowed := true, recurses := true, named := ["unicode/utf8.first", "unicode/utf8.acceptRanges", "internal/bytealg.MaxLen"], apart := false, laid := [("unicode/utf8.acceptRanges", laid_unicode_utf8_acceptRanges), ("unicode/utf8.first", laid_unicode_utf8_first)] }
def WitTellsSaid : Prop := witTellsRow.holds Tryz.pinned (OpenSpec.ofChange witTellsSpec)

/-- ITS FALSE NEIGHBOUR: 'it returns false'. Refute it at one input. -/
def witTellsWrong : ChangeSpec := { name := "witTells", fn := fun _ => fun
  | [d1, d2] => { results := [.lit (.bool false)], args := [d1, d2] }
  | _ => none }
def WitTellsWrongFalsely : Prop := witTellsRow.holds Tryz.pinned (OpenSpec.ofChange witTellsWrong)

/-- 'loupelaw15.WitIn': WHATEVER THE INPUT: true; the input reads as it did. -/
def witInSpec : ChangeSpec := { name := "witIn", fn := fun _ => fun
  | [d] => { results := [.lit (.bool true)], args := [d] }
  | _ => none }
def witInRow : OpenClaim := { program := "ytfgfjbcoeakonaagreatdoor", sum := "c5b0d01eafd209d4ead1852bd10a098473c38ae786c0caac97b8353953ad023e", func := "loupe/loupelaw15.WitIn", spec := "witIn", inPlace := ["internal/bytealg.IndexByteString", "internal/bytealg.IndexString", "internal/abi.NoEscape", "internal/bytealg.MakeNoZero"], unfollowed := true, recurses := true, named := ["unicode/utf8.first", "unicode/utf8.acceptRanges", "internal/bytealg.MaxLen"], apart := false, laid := [("unicode/utf8.acceptRanges", laid_unicode_utf8_acceptRanges), ("unicode/utf8.first", laid_unicode_utf8_first)] }
def WitInSaid : Prop := witInRow.holds Tryz.pinned (OpenSpec.ofChange witInSpec)

/-- ITS FALSE NEIGHBOUR: 'it returns false'. Refute it at one input. -/
def witInWrong : ChangeSpec := { name := "witIn", fn := fun _ => fun
  | [d] => { results := [.lit (.bool false)], args := [d] }
  | _ => none }
def WitInWrongFalsely : Prop := witInRow.holds Tryz.pinned (OpenSpec.ofChange witInWrong)

/-- 'loupelaw15.WitSmall': WHATEVER THE INPUT: true; the input reads as it did. -/
def witSmallSpec : ChangeSpec := { name := "witSmall", fn := fun _ => fun
  | [d1, d2] => { results := [.lit (.bool true)], args := [d1, d2] }
  | _ => none }
def witSmallRow : OpenClaim := { program := "ytfgfjbcoeakonaagreatdoor", sum := "c5b0d01eafd209d4ead1852bd10a098473c38ae786c0caac97b8353953ad023e", func := "loupe/loupelaw15.WitSmall", spec := "witSmall", inPlace := ["internal/bytealg.IndexByteString", "internal/bytealg.IndexString", "internal/abi.NoEscape", "internal/bytealg.MakeNoZero"], unfollowed := true, recurses := true, named := ["unicode/utf8.first", "unicode/utf8.acceptRanges", "internal/bytealg.MaxLen"], apart := false, laid := [("unicode/utf8.acceptRanges", laid_unicode_utf8_acceptRanges), ("unicode/utf8.first", laid_unicode_utf8_first)] }
def WitSmallSaid : Prop := witSmallRow.holds Tryz.pinned (OpenSpec.ofChange witSmallSpec)

/-- ITS FALSE NEIGHBOUR: 'it returns false'. Refute it at one input. -/
def witSmallWrong : ChangeSpec := { name := "witSmall", fn := fun _ => fun
  | [d1, d2] => { results := [.lit (.bool false)], args := [d1, d2] }
  | _ => none }
def WitSmallWrongFalsely : Prop := witSmallRow.holds Tryz.pinned (OpenSpec.ofChange witSmallWrong)

/-- 'loupelaw15.WitParts': WHATEVER THE INPUT: true; the input reads as it did. -/
def witPartsSpec : ChangeSpec := { name := "witParts", fn := fun _ => fun
  | [d] => { results := [.lit (.bool true)], args := [d] }
  | _ => none }
def witPartsRow : OpenClaim := { program := "ytfgfjbcoeakonaagreatdoor", sum := "c5b0d01eafd209d4ead1852bd10a098473c38ae786c0caac97b8353953ad023e", func := "loupe/loupelaw15.WitParts", spec := "witParts", inPlace := ["internal/bytealg.IndexByteString", "internal/bytealg.IndexString", "internal/abi.NoEscape", "internal/bytealg.MakeNoZero"], unfollowed := true, recurses := true, named := ["unicode/utf8.first", "unicode/utf8.acceptRanges", "internal/bytealg.MaxLen"], apart := false, laid := [("unicode/utf8.acceptRanges", laid_unicode_utf8_acceptRanges), ("unicode/utf8.first", laid_unicode_utf8_first)] }
def WitPartsSaid : Prop := witPartsRow.holds Tryz.pinned (OpenSpec.ofChange witPartsSpec)

/-- ITS FALSE NEIGHBOUR: 'it returns false'. Refute it at one input. -/
def witPartsWrong : ChangeSpec := { name := "witParts", fn := fun _ => fun
  | [d] => { results := [.lit (.bool false)], args := [d] }
  | _ => none }
def WitPartsWrongFalsely : Prop := witPartsRow.holds Tryz.pinned (OpenSpec.ofChange witPartsWrong)

/-- 'loupelaw15.WitMany': WHATEVER THE INPUT: true; the input reads as it did. -/
def witManySpec : ChangeSpec := { name := "witMany", fn := fun _ => fun
  | [d1, d2, d3] => { results := [.lit (.bool true)], args := [d1, d2, d3] }
  | _ => none }
def witManyRow : OpenClaim := { program := "ytfgfjbcoeakonaagreatdoor", sum := "c5b0d01eafd209d4ead1852bd10a098473c38ae786c0caac97b8353953ad023e", func := "loupe/loupelaw15.WitMany", spec := "witMany", inPlace := ["internal/bytealg.IndexByteString", "internal/bytealg.IndexString", "internal/abi.NoEscape", "internal/bytealg.MakeNoZero"], unfollowed := true, recurses := true, named := ["unicode/utf8.first", "unicode/utf8.acceptRanges", "internal/bytealg.MaxLen"], apart := false, laid := [("unicode/utf8.acceptRanges", laid_unicode_utf8_acceptRanges), ("unicode/utf8.first", laid_unicode_utf8_first)] }
def WitManySaid : Prop := witManyRow.holds Tryz.pinned (OpenSpec.ofChange witManySpec)

/-- ITS FALSE NEIGHBOUR: 'it returns false'. Refute it at one input. -/
def witManyWrong : ChangeSpec := { name := "witMany", fn := fun _ => fun
  | [d1, d2, d3] => { results := [.lit (.bool false)], args := [d1, d2, d3] }
  | _ => none }
def WitManyWrongFalsely : Prop := witManyRow.holds Tryz.pinned (OpenSpec.ofChange witManyWrong)

/- THE SECOND FORM. 'bulk': how many values and letters a reading holds, each counted each time it is reached (what is shared counts as often as it is met; a slice's spare places count too). A statement '..UptoSaid' is the law's where the arguments, and the package variables that the reading takes, are together of bulk at most 1048576: NARROWER than '..Said'. Prove '..Said' where nothing that the law and all that it calls make is longer than what came in: it says more and counts as full. Else prove '..UptoSaid'. A law counts once. -/
mutual
def uptoBulk {H : Type} : DataW H → Nat
  | .lit (.string bytes) => bytes.length + 1
  | .lit _ => 1
  | .nil => 1
  | .ptr d => uptoBulk d + 1
  | .slice elems spare => uptoBulkAll elems + uptoBulkAll spare + 1
  | .agg parts => uptoBulkAll parts + 1
  | .iface _ d => uptoBulk d + 1
  | .map entries => uptoBulkEntries entries + 1
  | .held _ => 1
def uptoBulkAll {H : Type} : List (DataW H) → Nat
  | [] => 0
  | d :: r => uptoBulk d + uptoBulkAll r
def uptoBulkEntries {H : Type} : List (Lit × DataW H) → Nat
  | [] => 0
  | x :: r => uptoBulkEntry x + uptoBulkEntries r
def uptoBulkEntry {H : Type} : Lit × DataW H → Nat
  | (.string bytes, d) => bytes.length + uptoBulk d + 1
  | (_, d) => uptoBulk d + 1
 end
def uptoSmall : (H : Type) → List (DataW H) → Bool := fun _ ds => decide (uptoBulkAll ds ≤ 1048576)
def OpenSpec.upto (s : _root_.Go.ChangeSpec) : _root_.Go.OpenSpec := { _root_.Go.OpenSpec.ofChange s with cond := some uptoSmall }

/-- 'loupelaw15.WitTells', WHERE WHAT IT READS IS OF BULK AT MOST 1048576: true; the input reads as it did. -/
def witTellsUptoRow : OpenClaim := { program := "ytfgfjbcoeakonaagreatdoor", sum := "c5b0d01eafd209d4ead1852bd10a098473c38ae786c0caac97b8353953ad023e", func := "loupe/loupelaw15.WitTells", spec := "witTells", inPlace := ["internal/bytealg.IndexByteString", "internal/bytealg.IndexString", "internal/abi.NoEscape", "internal/bytealg.MakeNoZero"], unfollowed := true, recurses := true, named := ["unicode/utf8.first", "unicode/utf8.acceptRanges", "internal/bytealg.MaxLen"], apart := false, laid := [("unicode/utf8.acceptRanges", laid_unicode_utf8_acceptRanges), ("unicode/utf8.first", laid_unicode_utf8_first)], narrowed := true }
def WitTellsUptoSaid : Prop := witTellsUptoRow.holds Tryz.pinned (OpenSpec.upto witTellsSpec)

/-- 'loupelaw15.WitIn', WHERE WHAT IT READS IS OF BULK AT MOST 1048576: true; the input reads as it did. -/
def witInUptoRow : OpenClaim := { program := "ytfgfjbcoeakonaagreatdoor", sum := "c5b0d01eafd209d4ead1852bd10a098473c38ae786c0caac97b8353953ad023e", func := "loupe/loupelaw15.WitIn", spec := "witIn", inPlace := ["internal/bytealg.IndexByteString", "internal/bytealg.IndexString", "internal/abi.NoEscape", "internal/bytealg.MakeNoZero"], unfollowed := true, recurses := true, named := ["unicode/utf8.first", "unicode/utf8.acceptRanges", "internal/bytealg.MaxLen"], apart := false, laid := [("unicode/utf8.acceptRanges", laid_unicode_utf8_acceptRanges), ("unicode/utf8.first", laid_unicode_utf8_first)], narrowed := true }
def WitInUptoSaid : Prop := witInUptoRow.holds Tryz.pinned (OpenSpec.upto witInSpec)

/-- 'loupelaw15.WitSmall', WHERE WHAT IT READS IS OF BULK AT MOST 1048576: true; the input reads as it did. -/
def witSmallUptoRow : OpenClaim := { program := "ytfgfjbcoeakonaagreatdoor", sum := "c5b0d01eafd209d4ead1852bd10a098473c38ae786c0caac97b8353953ad023e", func := "loupe/loupelaw15.WitSmall", spec := "witSmall", inPlace := ["internal/bytealg.IndexByteString", "internal/bytealg.IndexString", "internal/abi.NoEscape", "internal/bytealg.MakeNoZero"], unfollowed := true, recurses := true, named := ["unicode/utf8.first", "unicode/utf8.acceptRanges", "internal/bytealg.MaxLen"], apart := false, laid := [("unicode/utf8.acceptRanges", laid_unicode_utf8_acceptRanges), ("unicode/utf8.first", laid_unicode_utf8_first)], narrowed := true }
def WitSmallUptoSaid : Prop := witSmallUptoRow.holds Tryz.pinned (OpenSpec.upto witSmallSpec)

/-- 'loupelaw15.WitParts', WHERE WHAT IT READS IS OF BULK AT MOST 1048576: true; the input reads as it did. -/
def witPartsUptoRow : OpenClaim := { program := "ytfgfjbcoeakonaagreatdoor", sum := "c5b0d01eafd209d4ead1852bd10a098473c38ae786c0caac97b8353953ad023e", func := "loupe/loupelaw15.WitParts", spec := "witParts", inPlace := ["internal/bytealg.IndexByteString", "internal/bytealg.IndexString", "internal/abi.NoEscape", "internal/bytealg.MakeNoZero"], unfollowed := true, recurses := true, named := ["unicode/utf8.first", "unicode/utf8.acceptRanges", "internal/bytealg.MaxLen"], apart := false, laid := [("unicode/utf8.acceptRanges", laid_unicode_utf8_acceptRanges), ("unicode/utf8.first", laid_unicode_utf8_first)], narrowed := true }
def WitPartsUptoSaid : Prop := witPartsUptoRow.holds Tryz.pinned (OpenSpec.upto witPartsSpec)

/-- 'loupelaw15.WitMany', WHERE WHAT IT READS IS OF BULK AT MOST 1048576: true; the input reads as it did. -/
def witManyUptoRow : OpenClaim := { program := "ytfgfjbcoeakonaagreatdoor", sum := "c5b0d01eafd209d4ead1852bd10a098473c38ae786c0caac97b8353953ad023e", func := "loupe/loupelaw15.WitMany", spec := "witMany", inPlace := ["internal/bytealg.IndexByteString", "internal/bytealg.IndexString", "internal/abi.NoEscape", "internal/bytealg.MakeNoZero"], unfollowed := true, recurses := true, named := ["unicode/utf8.first", "unicode/utf8.acceptRanges", "internal/bytealg.MaxLen"], apart := false, laid := [("unicode/utf8.acceptRanges", laid_unicode_utf8_acceptRanges), ("unicode/utf8.first", laid_unicode_utf8_first)], narrowed := true }
def WitManyUptoSaid : Prop := witManyUptoRow.holds Tryz.pinned (OpenSpec.upto witManySpec)

end Rows
end Go.Proofs.YtfgfjbcoeakonaaGreatDoor
