/-
  DERIVED. GIVEN WITH THE SEED: THE CARDS: each row of YthmobaehdbiljaaGreatDoorRows.lean that lists a variable, with what it lists TIED to the program's text (the seventh form; the later family's looks); each row that meets fmt, with fmt's text TOLD by the authors' own Lean function (tested against real Go, not proved from fmt's source: count such statements apart). THE CARD IS WHAT COUNTS. Prove the row's statement (the work); the ties are given (YthmobaehdbiljaaGreatDoorTie.lean); close each card by the builder's one call (the guide's Derived/Test/ToyasCard.lean, 'card_holds'). Laid BY PROGRAM, IN A SANDBOX (cutbox-door.mjs). By AI agents, Wed Nov 11 2026. No macro, syntax, notation, axiom, sorry.
-/
import Derived.Test.YthmobaehdbiljaaGreatDoorRows
import GoSem.ClaimSeven
namespace Go.Proofs.YthmobaehdbiljaaGreatDoor
namespace Rows

/-- THE TIED CARD OF 'loupelaw22.EditTells'. -/
def editTellsCard : Claim7 := { stood := { row := editTellsRow, standIns := [], harness := (true, "98c2b7de904b7d4d9dcadfa6121005a955486571e5a77a28b6f24d210b194177"), looks := true }, kinds := [], alts := [], laidByText := true, laidKinds := [.data, .pinned], laidTests := true, laidLooks := .later }
def EditTellsCardSaid : Prop := Claim7.holds Tryz.pinned (.plain (OpenSpec.ofChange editTellsSpec)) editTellsCard

/-- THE TIED CARD OF 'loupelaw22.EditDoes'. -/
def editDoesCard : Claim7 := { stood := { row := editDoesRow, standIns := [], harness := (true, "98c2b7de904b7d4d9dcadfa6121005a955486571e5a77a28b6f24d210b194177"), looks := true }, kinds := [], alts := [], laidByText := true, laidKinds := [.data, .pinned], laidTests := true, laidLooks := .later }
def EditDoesCardSaid : Prop := Claim7.holds Tryz.pinned (.plain (OpenSpec.ofChange editDoesSpec)) editDoesCard

/-- THE TIED CARD OF 'loupelaw22.EditScript'. -/
def editScriptCard : Claim7 := { stood := { row := editScriptRow, standIns := [], harness := (true, "98c2b7de904b7d4d9dcadfa6121005a955486571e5a77a28b6f24d210b194177"), looks := true }, kinds := [], alts := [], laidByText := true, laidKinds := [.data, .pinned], laidTests := true, laidLooks := .later }
def EditScriptCardSaid : Prop := Claim7.holds Tryz.pinned (.plain (OpenSpec.ofChange editScriptSpec)) editScriptCard

/-- THE TIED CARD OF 'loupelaw22.EditRight'. -/
def editRightCard : Claim7 := { stood := { row := editRightRow, standIns := [], harness := (true, "98c2b7de904b7d4d9dcadfa6121005a955486571e5a77a28b6f24d210b194177"), looks := true }, kinds := [], alts := [], laidByText := true, laidKinds := [.data, .pinned], laidTests := true, laidLooks := .later }
def EditRightCardSaid : Prop := Claim7.holds Tryz.pinned (.plain (OpenSpec.ofChange editRightSpec)) editRightCard

/-- THE TIED CARD OF 'loupelaw22.EditSmall'. -/
def editSmallCard : Claim7 := { stood := { row := editSmallRow, standIns := [], harness := (true, "98c2b7de904b7d4d9dcadfa6121005a955486571e5a77a28b6f24d210b194177"), looks := true }, kinds := [], alts := [], laidByText := true, laidKinds := [.data, .pinned], laidTests := true, laidLooks := .later }
def EditSmallCardSaid : Prop := Claim7.holds Tryz.pinned (.plain (OpenSpec.ofChange editSmallSpec)) editSmallCard

/-- THE SECOND FORM's CARD OF 'loupelaw22.EditTells'. -/
def editTellsUptoCard : Claim7 := { stood := { row := editTellsUptoRow, standIns := [], harness := (true, "98c2b7de904b7d4d9dcadfa6121005a955486571e5a77a28b6f24d210b194177"), looks := true }, kinds := [], alts := [], laidByText := true, laidKinds := [.data, .pinned], laidTests := true, laidLooks := .later }
def EditTellsUptoCardSaid : Prop := Claim7.holds Tryz.pinned (.plain (OpenSpec.upto editTellsSpec)) editTellsUptoCard

/-- THE SECOND FORM's CARD OF 'loupelaw22.EditDoes'. -/
def editDoesUptoCard : Claim7 := { stood := { row := editDoesUptoRow, standIns := [], harness := (true, "98c2b7de904b7d4d9dcadfa6121005a955486571e5a77a28b6f24d210b194177"), looks := true }, kinds := [], alts := [], laidByText := true, laidKinds := [.data, .pinned], laidTests := true, laidLooks := .later }
def EditDoesUptoCardSaid : Prop := Claim7.holds Tryz.pinned (.plain (OpenSpec.upto editDoesSpec)) editDoesUptoCard

/-- THE SECOND FORM's CARD OF 'loupelaw22.EditScript'. -/
def editScriptUptoCard : Claim7 := { stood := { row := editScriptUptoRow, standIns := [], harness := (true, "98c2b7de904b7d4d9dcadfa6121005a955486571e5a77a28b6f24d210b194177"), looks := true }, kinds := [], alts := [], laidByText := true, laidKinds := [.data, .pinned], laidTests := true, laidLooks := .later }
def EditScriptUptoCardSaid : Prop := Claim7.holds Tryz.pinned (.plain (OpenSpec.upto editScriptSpec)) editScriptUptoCard

/-- THE SECOND FORM's CARD OF 'loupelaw22.EditRight'. -/
def editRightUptoCard : Claim7 := { stood := { row := editRightUptoRow, standIns := [], harness := (true, "98c2b7de904b7d4d9dcadfa6121005a955486571e5a77a28b6f24d210b194177"), looks := true }, kinds := [], alts := [], laidByText := true, laidKinds := [.data, .pinned], laidTests := true, laidLooks := .later }
def EditRightUptoCardSaid : Prop := Claim7.holds Tryz.pinned (.plain (OpenSpec.upto editRightSpec)) editRightUptoCard

/-- THE SECOND FORM's CARD OF 'loupelaw22.EditSmall'. -/
def editSmallUptoCard : Claim7 := { stood := { row := editSmallUptoRow, standIns := [], harness := (true, "98c2b7de904b7d4d9dcadfa6121005a955486571e5a77a28b6f24d210b194177"), looks := true }, kinds := [], alts := [], laidByText := true, laidKinds := [.data, .pinned], laidTests := true, laidLooks := .later }
def EditSmallUptoCardSaid : Prop := Claim7.holds Tryz.pinned (.plain (OpenSpec.upto editSmallSpec)) editSmallUptoCard
end Rows
end Go.Proofs.YthmobaehdbiljaaGreatDoor
