/-
  No cell of these rows narrows 'for every input' (looked for: loops, veiled, ifaces, maps, wideKeys, modest, calm, conditions, laid).
  DERIVED. THE GIVEN ROWS OF THIS SEAT. 13 by the template 'for every input the law returns true; each argument reads behind the call as it read before'; 0 by the template 'total and deterministic' (their statements: YtodbjiolgapbfaaTotals.lean).
  GIVEN WITH THE SEED: the statements are not yours to turn. If you find one false, say at which input.
  Laid BY PROGRAM, IN A SANDBOX (cutbox-rows.mjs): the forced cells as the released guide's own fill.sh prints them over the translation 550d8e16be7b2920… (all of the seat's roots in one cut). By AI agents, Wed Nov 11 2026. No macro, syntax, notation, axiom, sorry.
-/
import Derived.Test.YtodbjiolgapbfaaChecked
import GoSem.Claim
import GoSem.ClaimJoined
import GoSem.ClaimMapViews
import Derived.JoinedTies
import Derived.KernelRfl
namespace Go.Proofs.Ytodbjiolgapbfaa
/- THE CELL 'sum', in the pinned program and in every row, IS THE sha256 OF THE DUMP (.gsa) THAT YtodbjiolgapbfaaProg.lean LOADS. Nothing in Lean hashes anything: it is a label: what it is worth is what the hold of that sum in a sandbox is worth. -/
noncomputable def Try.pinned : Pinned := { name := "ytodbjiolgapbfaa", sum := "550d8e16be7b29204d62048e727377dccb18988119a088d11eecfacfc9243a21", checked := Try.checked }
namespace Rows
def none {H : Type} : Left H := { results := [], args := [] }

/-- 'loupelaw05.OrderTells': WHATEVER THE INPUT: true; the input reads as it did. -/
def orderTellsSpec : ChangeSpec := { name := "orderTells", fn := fun _ => fun
  | [d1, d2, d3] => { results := [.lit (.bool true)], args := [d1, d2, d3] }
  | _ => none }
def orderTellsRow : OpenClaim := { program := "ytodbjiolgapbfaa", sum := "550d8e16be7b29204d62048e727377dccb18988119a088d11eecfacfc9243a21", func := "loupe/loupelaw05.OrderTells", spec := "orderTells", unfollowed := true, recurses := true, apart := false }
def OrderTellsSaid : Prop := orderTellsRow.holds Try.pinned (OpenSpec.ofChange orderTellsSpec)

/-- ITS FALSE NEIGHBOUR: 'it returns false'. Refute it at one input. -/
def orderTellsWrong : ChangeSpec := { name := "orderTells", fn := fun _ => fun
  | [d1, d2, d3] => { results := [.lit (.bool false)], args := [d1, d2, d3] }
  | _ => none }
def OrderTellsWrongFalsely : Prop := orderTellsRow.holds Try.pinned (OpenSpec.ofChange orderTellsWrong)

/-- 'loupelaw05.OrderGroups': WHATEVER THE INPUT: true; the input reads as it did. -/
def orderGroupsSpec : ChangeSpec := { name := "orderGroups", fn := fun _ => fun
  | [d] => { results := [.lit (.bool true)], args := [d] }
  | _ => none }
def orderGroupsRow : OpenClaim := { program := "ytodbjiolgapbfaa", sum := "550d8e16be7b29204d62048e727377dccb18988119a088d11eecfacfc9243a21", func := "loupe/loupelaw05.OrderGroups", spec := "orderGroups", unfollowed := true, recurses := true, apart := false }
def OrderGroupsSaid : Prop := orderGroupsRow.holds Try.pinned (OpenSpec.ofChange orderGroupsSpec)

/-- ITS FALSE NEIGHBOUR: 'it returns false'. Refute it at one input. -/
def orderGroupsWrong : ChangeSpec := { name := "orderGroups", fn := fun _ => fun
  | [d] => { results := [.lit (.bool false)], args := [d] }
  | _ => none }
def OrderGroupsWrongFalsely : Prop := orderGroupsRow.holds Try.pinned (OpenSpec.ofChange orderGroupsWrong)

/-- 'loupelaw05.OrderTotal': WHATEVER THE INPUT: true; the input reads as it did. -/
def orderTotalSpec : ChangeSpec := { name := "orderTotal", fn := fun _ => fun
  | [d1, d2, d3] => { results := [.lit (.bool true)], args := [d1, d2, d3] }
  | _ => none }
def orderTotalRow : OpenClaim := { program := "ytodbjiolgapbfaa", sum := "550d8e16be7b29204d62048e727377dccb18988119a088d11eecfacfc9243a21", func := "loupe/loupelaw05.OrderTotal", spec := "orderTotal", unfollowed := true, recurses := true, apart := false }
def OrderTotalSaid : Prop := orderTotalRow.holds Try.pinned (OpenSpec.ofChange orderTotalSpec)

/-- ITS FALSE NEIGHBOUR: 'it returns false'. Refute it at one input. -/
def orderTotalWrong : ChangeSpec := { name := "orderTotal", fn := fun _ => fun
  | [d1, d2, d3] => { results := [.lit (.bool false)], args := [d1, d2, d3] }
  | _ => none }
def OrderTotalWrongFalsely : Prop := orderTotalRow.holds Try.pinned (OpenSpec.ofChange orderTotalWrong)

/-- 'loupelaw05.OrderSorted': WHATEVER THE INPUT: true; the input reads as it did. -/
def orderSortedSpec : ChangeSpec := { name := "orderSorted", fn := fun _ => fun
  | [d] => { results := [.lit (.bool true)], args := [d] }
  | _ => none }
def orderSortedRow : OpenClaim := { program := "ytodbjiolgapbfaa", sum := "550d8e16be7b29204d62048e727377dccb18988119a088d11eecfacfc9243a21", func := "loupe/loupelaw05.OrderSorted", spec := "orderSorted", unfollowed := true, recurses := true, apart := false }
def OrderSortedSaid : Prop := orderSortedRow.holds Try.pinned (OpenSpec.ofChange orderSortedSpec)

/-- ITS FALSE NEIGHBOUR: 'it returns false'. Refute it at one input. -/
def orderSortedWrong : ChangeSpec := { name := "orderSorted", fn := fun _ => fun
  | [d] => { results := [.lit (.bool false)], args := [d] }
  | _ => none }
def OrderSortedWrongFalsely : Prop := orderSortedRow.holds Try.pinned (OpenSpec.ofChange orderSortedWrong)

/-- 'loupelaw05.OrderJoined': WHATEVER THE INPUT: true; the input reads as it did. -/
def orderJoinedSpec : ChangeSpec := { name := "orderJoined", fn := fun _ => fun
  | [d] => { results := [.lit (.bool true)], args := [d] }
  | _ => none }
def orderJoinedRow : OpenClaim := { program := "ytodbjiolgapbfaa", sum := "550d8e16be7b29204d62048e727377dccb18988119a088d11eecfacfc9243a21", func := "loupe/loupelaw05.OrderJoined", spec := "orderJoined", unfollowed := true, recurses := true, apart := false }
def OrderJoinedSaid : Prop := orderJoinedRow.holds Try.pinned (OpenSpec.ofChange orderJoinedSpec)

/-- ITS FALSE NEIGHBOUR: 'it returns false'. Refute it at one input. -/
def orderJoinedWrong : ChangeSpec := { name := "orderJoined", fn := fun _ => fun
  | [d] => { results := [.lit (.bool false)], args := [d] }
  | _ => none }
def OrderJoinedWrongFalsely : Prop := orderJoinedRow.holds Try.pinned (OpenSpec.ofChange orderJoinedWrong)

/-- 'loupelaw05.OrderNested': WHATEVER THE INPUT: true; the input reads as it did. -/
def orderNestedSpec : ChangeSpec := { name := "orderNested", fn := fun _ => fun
  | [d1, d2, d3] => { results := [.lit (.bool true)], args := [d1, d2, d3] }
  | _ => none }
def orderNestedRow : OpenClaim := { program := "ytodbjiolgapbfaa", sum := "550d8e16be7b29204d62048e727377dccb18988119a088d11eecfacfc9243a21", func := "loupe/loupelaw05.OrderNested", spec := "orderNested", unfollowed := true, recurses := true, apart := false }
def OrderNestedSaid : Prop := orderNestedRow.holds Try.pinned (OpenSpec.ofChange orderNestedSpec)

/-- ITS FALSE NEIGHBOUR: 'it returns false'. Refute it at one input. -/
def orderNestedWrong : ChangeSpec := { name := "orderNested", fn := fun _ => fun
  | [d1, d2, d3] => { results := [.lit (.bool false)], args := [d1, d2, d3] }
  | _ => none }
def OrderNestedWrongFalsely : Prop := orderNestedRow.holds Try.pinned (OpenSpec.ofChange orderNestedWrong)

/-- 'loupelaw23.FileTells': WHATEVER THE INPUT: true; the input reads as it did. -/
def fileTellsSpec : ChangeSpec := { name := "fileTells", fn := fun _ => fun
  | [d1, d2, d3] => { results := [.lit (.bool true)], args := [d1, d2, d3] }
  | _ => none }
def fileTellsRow : OpenClaim := { program := "ytodbjiolgapbfaa", sum := "550d8e16be7b29204d62048e727377dccb18988119a088d11eecfacfc9243a21", func := "loupe/loupelaw23.FileTells", spec := "fileTells", inPlace := ["sync/atomic.LoadInt64", "sync/atomic.AddInt64", "slices.overlaps[loupe/api.File]"], unfollowed := true, recurses := true, apart := false }
def FileTellsSaid : Prop := fileTellsRow.holds Try.pinned (OpenSpec.ofChange fileTellsSpec)

/-- ITS FALSE NEIGHBOUR: 'it returns false'. Refute it at one input. -/
def fileTellsWrong : ChangeSpec := { name := "fileTells", fn := fun _ => fun
  | [d1, d2, d3] => { results := [.lit (.bool false)], args := [d1, d2, d3] }
  | _ => none }
def FileTellsWrongFalsely : Prop := fileTellsRow.holds Try.pinned (OpenSpec.ofChange fileTellsWrong)

/-- 'loupelaw23.FileDoes': WHATEVER THE INPUT: true; the input reads as it did. -/
def fileDoesSpec : ChangeSpec := { name := "fileDoes", fn := fun _ => fun
  | [d1, d2, d3] => { results := [.lit (.bool true)], args := [d1, d2, d3] }
  | _ => none }
def fileDoesRow : OpenClaim := { program := "ytodbjiolgapbfaa", sum := "550d8e16be7b29204d62048e727377dccb18988119a088d11eecfacfc9243a21", func := "loupe/loupelaw23.FileDoes", spec := "fileDoes", inPlace := ["sync/atomic.LoadInt64", "sync/atomic.AddInt64", "slices.overlaps[loupe/api.File]"], unfollowed := true, recurses := true, apart := false }
def FileDoesSaid : Prop := fileDoesRow.holds Try.pinned (OpenSpec.ofChange fileDoesSpec)

/-- ITS FALSE NEIGHBOUR: 'it returns false'. Refute it at one input. -/
def fileDoesWrong : ChangeSpec := { name := "fileDoes", fn := fun _ => fun
  | [d1, d2, d3] => { results := [.lit (.bool false)], args := [d1, d2, d3] }
  | _ => none }
def FileDoesWrongFalsely : Prop := fileDoesRow.holds Try.pinned (OpenSpec.ofChange fileDoesWrong)

/-- 'loupelaw23.FileSaves': WHATEVER THE INPUT: true; the input reads as it did. -/
def fileSavesSpec : ChangeSpec := { name := "fileSaves", fn := fun _ => fun
  | [d] => { results := [.lit (.bool true)], args := [d] }
  | _ => none }
def fileSavesRow : OpenClaim := { program := "ytodbjiolgapbfaa", sum := "550d8e16be7b29204d62048e727377dccb18988119a088d11eecfacfc9243a21", func := "loupe/loupelaw23.FileSaves", spec := "fileSaves", inPlace := ["sync/atomic.LoadInt64", "sync/atomic.AddInt64", "slices.overlaps[loupe/api.File]"], unfollowed := true, recurses := true, apart := false }
def FileSavesSaid : Prop := fileSavesRow.holds Try.pinned (OpenSpec.ofChange fileSavesSpec)

/-- ITS FALSE NEIGHBOUR: 'it returns false'. Refute it at one input. -/
def fileSavesWrong : ChangeSpec := { name := "fileSaves", fn := fun _ => fun
  | [d] => { results := [.lit (.bool false)], args := [d] }
  | _ => none }
def FileSavesWrongFalsely : Prop := fileSavesRow.holds Try.pinned (OpenSpec.ofChange fileSavesWrong)

/-- 'loupelaw23.FileOneOr': WHATEVER THE INPUT: true; the input reads as it did. -/
def fileOneOrSpec : ChangeSpec := { name := "fileOneOr", fn := fun _ => fun
  | [d] => { results := [.lit (.bool true)], args := [d] }
  | _ => none }
def fileOneOrRow : OpenClaim := { program := "ytodbjiolgapbfaa", sum := "550d8e16be7b29204d62048e727377dccb18988119a088d11eecfacfc9243a21", func := "loupe/loupelaw23.FileOneOr", spec := "fileOneOr", inPlace := ["sync/atomic.LoadInt64", "sync/atomic.AddInt64", "slices.overlaps[loupe/api.File]"], unfollowed := true, recurses := true, apart := false }
def FileOneOrSaid : Prop := fileOneOrRow.holds Try.pinned (OpenSpec.ofChange fileOneOrSpec)

/-- ITS FALSE NEIGHBOUR: 'it returns false'. Refute it at one input. -/
def fileOneOrWrong : ChangeSpec := { name := "fileOneOr", fn := fun _ => fun
  | [d] => { results := [.lit (.bool false)], args := [d] }
  | _ => none }
def FileOneOrWrongFalsely : Prop := fileOneOrRow.holds Try.pinned (OpenSpec.ofChange fileOneOrWrong)

/-- 'loupelaw23.FileFlush': WHATEVER THE INPUT: true; the input reads as it did. -/
def fileFlushSpec : ChangeSpec := { name := "fileFlush", fn := fun _ => fun
  | [d1, d2, d3] => { results := [.lit (.bool true)], args := [d1, d2, d3] }
  | _ => none }
def fileFlushRow : OpenClaim := { program := "ytodbjiolgapbfaa", sum := "550d8e16be7b29204d62048e727377dccb18988119a088d11eecfacfc9243a21", func := "loupe/loupelaw23.FileFlush", spec := "fileFlush", inPlace := ["sync/atomic.LoadInt64", "sync/atomic.AddInt64", "slices.overlaps[loupe/api.File]"], unfollowed := true, recurses := true, apart := false }
def FileFlushSaid : Prop := fileFlushRow.holds Try.pinned (OpenSpec.ofChange fileFlushSpec)

/-- ITS FALSE NEIGHBOUR: 'it returns false'. Refute it at one input. -/
def fileFlushWrong : ChangeSpec := { name := "fileFlush", fn := fun _ => fun
  | [d1, d2, d3] => { results := [.lit (.bool false)], args := [d1, d2, d3] }
  | _ => none }
def FileFlushWrongFalsely : Prop := fileFlushRow.holds Try.pinned (OpenSpec.ofChange fileFlushWrong)

/-- 'loupelaw23.FileDeeds': WHATEVER THE INPUT: true; the input reads as it did. -/
def fileDeedsSpec : ChangeSpec := { name := "fileDeeds", fn := fun _ => fun
  | [d1, d2] => { results := [.lit (.bool true)], args := [d1, d2] }
  | _ => none }
def fileDeedsRow : OpenClaim := { program := "ytodbjiolgapbfaa", sum := "550d8e16be7b29204d62048e727377dccb18988119a088d11eecfacfc9243a21", func := "loupe/loupelaw23.FileDeeds", spec := "fileDeeds", inPlace := ["sync/atomic.LoadInt64", "sync/atomic.AddInt64", "slices.overlaps[loupe/api.File]"], unfollowed := true, recurses := true, apart := false }
def FileDeedsSaid : Prop := fileDeedsRow.holds Try.pinned (OpenSpec.ofChange fileDeedsSpec)

/-- ITS FALSE NEIGHBOUR: 'it returns false'. Refute it at one input. -/
def fileDeedsWrong : ChangeSpec := { name := "fileDeeds", fn := fun _ => fun
  | [d1, d2] => { results := [.lit (.bool false)], args := [d1, d2] }
  | _ => none }
def FileDeedsWrongFalsely : Prop := fileDeedsRow.holds Try.pinned (OpenSpec.ofChange fileDeedsWrong)

/-- 'loupelaw23.FileTwice': WHATEVER THE INPUT: true; the input reads as it did. -/
def fileTwiceSpec : ChangeSpec := { name := "fileTwice", fn := fun _ => fun
  | [d1, d2] => { results := [.lit (.bool true)], args := [d1, d2] }
  | _ => none }
def fileTwiceRow : OpenClaim := { program := "ytodbjiolgapbfaa", sum := "550d8e16be7b29204d62048e727377dccb18988119a088d11eecfacfc9243a21", func := "loupe/loupelaw23.FileTwice", spec := "fileTwice", inPlace := ["sync/atomic.LoadInt64", "sync/atomic.AddInt64", "slices.overlaps[loupe/api.File]"], unfollowed := true, recurses := true, apart := false }
def FileTwiceSaid : Prop := fileTwiceRow.holds Try.pinned (OpenSpec.ofChange fileTwiceSpec)

/-- ITS FALSE NEIGHBOUR: 'it returns false'. Refute it at one input. -/
def fileTwiceWrong : ChangeSpec := { name := "fileTwice", fn := fun _ => fun
  | [d1, d2] => { results := [.lit (.bool false)], args := [d1, d2] }
  | _ => none }
def FileTwiceWrongFalsely : Prop := fileTwiceRow.holds Try.pinned (OpenSpec.ofChange fileTwiceWrong)

/- THE SECOND FORM. 'bulk': how many values and letters a reading holds, each counted each time it is reached (what is shared counts as often as it is met; a slice's spare places count too). A statement '..UptoSaid' is the law's where the arguments, and the package variables that the reading takes, are together of bulk at most 1048576: NARROWER than '..Said'. Prove '..Said' where nothing that the law and all that it calls make is longer than what came in: it says more and counts as full. Else prove '..UptoSaid'. A law counts once. -/
mutual
def uptoBulk {H : Type} : DataW H → Nat
  | .lit (.string bytes) => bytes.length + 1
  | .lit _ => 1
  | .nil => 1
  | .ptr d => uptoBulk d + 1
  | .slice elems spare => uptoBulkAll elems + uptoBulkAll spare + 1
  | .agg parts => uptoBulkAll parts + 1
  | .iface _ d => uptoBulk d + 1
  | .map entries => uptoBulkEntries entries + 1
  | .held _ => 1
def uptoBulkAll {H : Type} : List (DataW H) → Nat
  | [] => 0
  | d :: r => uptoBulk d + uptoBulkAll r
def uptoBulkEntries {H : Type} : List (Lit × DataW H) → Nat
  | [] => 0
  | x :: r => uptoBulkEntry x + uptoBulkEntries r
def uptoBulkEntry {H : Type} : Lit × DataW H → Nat
  | (.string bytes, d) => bytes.length + uptoBulk d + 1
  | (_, d) => uptoBulk d + 1
 end
def uptoSmall : (H : Type) → List (DataW H) → Bool := fun _ ds => decide (uptoBulkAll ds ≤ 1048576)
def OpenSpec.upto (s : _root_.Go.ChangeSpec) : _root_.Go.OpenSpec := { _root_.Go.OpenSpec.ofChange s with cond := some uptoSmall }

/-- 'loupelaw05.OrderTells', WHERE WHAT IT READS IS OF BULK AT MOST 1048576: true; the input reads as it did. -/
def orderTellsUptoRow : OpenClaim := { program := "ytodbjiolgapbfaa", sum := "550d8e16be7b29204d62048e727377dccb18988119a088d11eecfacfc9243a21", func := "loupe/loupelaw05.OrderTells", spec := "orderTells", unfollowed := true, recurses := true, apart := false, narrowed := true }
def OrderTellsUptoSaid : Prop := orderTellsUptoRow.holds Try.pinned (OpenSpec.upto orderTellsSpec)

/-- 'loupelaw05.OrderGroups', WHERE WHAT IT READS IS OF BULK AT MOST 1048576: true; the input reads as it did. -/
def orderGroupsUptoRow : OpenClaim := { program := "ytodbjiolgapbfaa", sum := "550d8e16be7b29204d62048e727377dccb18988119a088d11eecfacfc9243a21", func := "loupe/loupelaw05.OrderGroups", spec := "orderGroups", unfollowed := true, recurses := true, apart := false, narrowed := true }
def OrderGroupsUptoSaid : Prop := orderGroupsUptoRow.holds Try.pinned (OpenSpec.upto orderGroupsSpec)

/-- 'loupelaw05.OrderTotal', WHERE WHAT IT READS IS OF BULK AT MOST 1048576: true; the input reads as it did. -/
def orderTotalUptoRow : OpenClaim := { program := "ytodbjiolgapbfaa", sum := "550d8e16be7b29204d62048e727377dccb18988119a088d11eecfacfc9243a21", func := "loupe/loupelaw05.OrderTotal", spec := "orderTotal", unfollowed := true, recurses := true, apart := false, narrowed := true }
def OrderTotalUptoSaid : Prop := orderTotalUptoRow.holds Try.pinned (OpenSpec.upto orderTotalSpec)

/-- 'loupelaw05.OrderSorted', WHERE WHAT IT READS IS OF BULK AT MOST 1048576: true; the input reads as it did. -/
def orderSortedUptoRow : OpenClaim := { program := "ytodbjiolgapbfaa", sum := "550d8e16be7b29204d62048e727377dccb18988119a088d11eecfacfc9243a21", func := "loupe/loupelaw05.OrderSorted", spec := "orderSorted", unfollowed := true, recurses := true, apart := false, narrowed := true }
def OrderSortedUptoSaid : Prop := orderSortedUptoRow.holds Try.pinned (OpenSpec.upto orderSortedSpec)

/-- 'loupelaw05.OrderJoined', WHERE WHAT IT READS IS OF BULK AT MOST 1048576: true; the input reads as it did. -/
def orderJoinedUptoRow : OpenClaim := { program := "ytodbjiolgapbfaa", sum := "550d8e16be7b29204d62048e727377dccb18988119a088d11eecfacfc9243a21", func := "loupe/loupelaw05.OrderJoined", spec := "orderJoined", unfollowed := true, recurses := true, apart := false, narrowed := true }
def OrderJoinedUptoSaid : Prop := orderJoinedUptoRow.holds Try.pinned (OpenSpec.upto orderJoinedSpec)

/-- 'loupelaw05.OrderNested', WHERE WHAT IT READS IS OF BULK AT MOST 1048576: true; the input reads as it did. -/
def orderNestedUptoRow : OpenClaim := { program := "ytodbjiolgapbfaa", sum := "550d8e16be7b29204d62048e727377dccb18988119a088d11eecfacfc9243a21", func := "loupe/loupelaw05.OrderNested", spec := "orderNested", unfollowed := true, recurses := true, apart := false, narrowed := true }
def OrderNestedUptoSaid : Prop := orderNestedUptoRow.holds Try.pinned (OpenSpec.upto orderNestedSpec)

/-- 'loupelaw23.FileTells', WHERE WHAT IT READS IS OF BULK AT MOST 1048576: true; the input reads as it did. -/
def fileTellsUptoRow : OpenClaim := { program := "ytodbjiolgapbfaa", sum := "550d8e16be7b29204d62048e727377dccb18988119a088d11eecfacfc9243a21", func := "loupe/loupelaw23.FileTells", spec := "fileTells", inPlace := ["sync/atomic.LoadInt64", "sync/atomic.AddInt64", "slices.overlaps[loupe/api.File]"], unfollowed := true, recurses := true, apart := false, narrowed := true }
def FileTellsUptoSaid : Prop := fileTellsUptoRow.holds Try.pinned (OpenSpec.upto fileTellsSpec)

/-- 'loupelaw23.FileDoes', WHERE WHAT IT READS IS OF BULK AT MOST 1048576: true; the input reads as it did. -/
def fileDoesUptoRow : OpenClaim := { program := "ytodbjiolgapbfaa", sum := "550d8e16be7b29204d62048e727377dccb18988119a088d11eecfacfc9243a21", func := "loupe/loupelaw23.FileDoes", spec := "fileDoes", inPlace := ["sync/atomic.LoadInt64", "sync/atomic.AddInt64", "slices.overlaps[loupe/api.File]"], unfollowed := true, recurses := true, apart := false, narrowed := true }
def FileDoesUptoSaid : Prop := fileDoesUptoRow.holds Try.pinned (OpenSpec.upto fileDoesSpec)

/-- 'loupelaw23.FileSaves', WHERE WHAT IT READS IS OF BULK AT MOST 1048576: true; the input reads as it did. -/
def fileSavesUptoRow : OpenClaim := { program := "ytodbjiolgapbfaa", sum := "550d8e16be7b29204d62048e727377dccb18988119a088d11eecfacfc9243a21", func := "loupe/loupelaw23.FileSaves", spec := "fileSaves", inPlace := ["sync/atomic.LoadInt64", "sync/atomic.AddInt64", "slices.overlaps[loupe/api.File]"], unfollowed := true, recurses := true, apart := false, narrowed := true }
def FileSavesUptoSaid : Prop := fileSavesUptoRow.holds Try.pinned (OpenSpec.upto fileSavesSpec)

/-- 'loupelaw23.FileOneOr', WHERE WHAT IT READS IS OF BULK AT MOST 1048576: true; the input reads as it did. -/
def fileOneOrUptoRow : OpenClaim := { program := "ytodbjiolgapbfaa", sum := "550d8e16be7b29204d62048e727377dccb18988119a088d11eecfacfc9243a21", func := "loupe/loupelaw23.FileOneOr", spec := "fileOneOr", inPlace := ["sync/atomic.LoadInt64", "sync/atomic.AddInt64", "slices.overlaps[loupe/api.File]"], unfollowed := true, recurses := true, apart := false, narrowed := true }
def FileOneOrUptoSaid : Prop := fileOneOrUptoRow.holds Try.pinned (OpenSpec.upto fileOneOrSpec)

/-- 'loupelaw23.FileFlush', WHERE WHAT IT READS IS OF BULK AT MOST 1048576: true; the input reads as it did. -/
def fileFlushUptoRow : OpenClaim := { program := "ytodbjiolgapbfaa", sum := "550d8e16be7b29204d62048e727377dccb18988119a088d11eecfacfc9243a21", func := "loupe/loupelaw23.FileFlush", spec := "fileFlush", inPlace := ["sync/atomic.LoadInt64", "sync/atomic.AddInt64", "slices.overlaps[loupe/api.File]"], unfollowed := true, recurses := true, apart := false, narrowed := true }
def FileFlushUptoSaid : Prop := fileFlushUptoRow.holds Try.pinned (OpenSpec.upto fileFlushSpec)

/-- 'loupelaw23.FileDeeds', WHERE WHAT IT READS IS OF BULK AT MOST 1048576: true; the input reads as it did. -/
def fileDeedsUptoRow : OpenClaim := { program := "ytodbjiolgapbfaa", sum := "550d8e16be7b29204d62048e727377dccb18988119a088d11eecfacfc9243a21", func := "loupe/loupelaw23.FileDeeds", spec := "fileDeeds", inPlace := ["sync/atomic.LoadInt64", "sync/atomic.AddInt64", "slices.overlaps[loupe/api.File]"], unfollowed := true, recurses := true, apart := false, narrowed := true }
def FileDeedsUptoSaid : Prop := fileDeedsUptoRow.holds Try.pinned (OpenSpec.upto fileDeedsSpec)

/-- 'loupelaw23.FileTwice', WHERE WHAT IT READS IS OF BULK AT MOST 1048576: true; the input reads as it did. -/
def fileTwiceUptoRow : OpenClaim := { program := "ytodbjiolgapbfaa", sum := "550d8e16be7b29204d62048e727377dccb18988119a088d11eecfacfc9243a21", func := "loupe/loupelaw23.FileTwice", spec := "fileTwice", inPlace := ["sync/atomic.LoadInt64", "sync/atomic.AddInt64", "slices.overlaps[loupe/api.File]"], unfollowed := true, recurses := true, apart := false, narrowed := true }
def FileTwiceUptoSaid : Prop := fileTwiceUptoRow.holds Try.pinned (OpenSpec.upto fileTwiceSpec)

end Rows
end Go.Proofs.Ytodbjiolgapbfaa
