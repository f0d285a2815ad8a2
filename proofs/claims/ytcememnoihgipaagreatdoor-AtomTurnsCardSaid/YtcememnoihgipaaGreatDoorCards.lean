/-
  DERIVED. GIVEN WITH THE SEED: THE CARDS: each row of YtcememnoihgipaaGreatDoorRows.lean that lists a variable, with what it lists TIED to the program's text (the seventh form; the later family's looks); each row that meets fmt, with fmt's text TOLD by the authors' own Lean function (tested against real Go, not proved from fmt's source: count such statements apart). THE CARD IS WHAT COUNTS. Prove the row's statement (the work); the ties are given (YtcememnoihgipaaGreatDoorTie.lean); close each card by the builder's one call (the guide's Derived/Test/ToyasCard.lean, 'card_holds'). Laid BY PROGRAM, IN A SANDBOX (cutbox-door.mjs). By AI agents, Wed Nov 11 2026. No macro, syntax, notation, axiom, sorry.
-/
import Derived.Test.YtcememnoihgipaaGreatDoorRows
import GoSem.ClaimSeven
namespace Go.Proofs.YtcememnoihgipaaGreatDoor
namespace Rows

/-- THE TIED CARD OF 'loupelaw11.AtomTells'. -/
def atomTellsCard : Claim7 := { stood := { row := atomTellsRow, standIns := [], harness := (true, "e72485a34481c9af3caea48386f20d1b6f5dea03a4c16c0b11945e70a970f3e9"), looks := true }, kinds := [], alts := [], laidByText := true, laidKinds := [.data, .pinned], laidTests := true, laidLooks := .later }
def AtomTellsCardSaid : Prop := Claim7.holds Tryz.pinned (.plain (OpenSpec.ofChange atomTellsSpec)) atomTellsCard

/-- THE TIED CARD OF 'loupelaw11.AtomTurns'. -/
def atomTurnsCard : Claim7 := { stood := { row := atomTurnsRow, standIns := [], harness := (true, "e72485a34481c9af3caea48386f20d1b6f5dea03a4c16c0b11945e70a970f3e9"), looks := true }, kinds := [], alts := [], laidByText := true, laidKinds := [.data, .pinned], laidTests := true, laidLooks := .later }
def AtomTurnsCardSaid : Prop := Claim7.holds Tryz.pinned (.plain (OpenSpec.ofChange atomTurnsSpec)) atomTurnsCard

/-- THE TIED CARD OF 'loupelaw02.ValFields'. -/
def valFieldsCard : Claim7 := { stood := { row := valFieldsRow, standIns := [], harness := (true, "e72485a34481c9af3caea48386f20d1b6f5dea03a4c16c0b11945e70a970f3e9"), looks := true }, kinds := [], alts := [], laidByText := true, laidKinds := [.data, .pinned], laidTests := true, laidLooks := .later }
def ValFieldsCardSaid : Prop := Claim7.holds Tryz.pinned (.plain (OpenSpec.ofChange valFieldsSpec)) valFieldsCard

/-- THE TIED CARD OF 'loupelaw02.ValPuts'. -/
def valPutsCard : Claim7 := { stood := { row := valPutsRow, standIns := [], harness := (true, "e72485a34481c9af3caea48386f20d1b6f5dea03a4c16c0b11945e70a970f3e9"), looks := true }, kinds := [], alts := [], laidByText := true, laidKinds := [.data, .pinned], laidTests := true, laidLooks := .later }
def ValPutsCardSaid : Prop := Claim7.holds Tryz.pinned (.plain (OpenSpec.ofChange valPutsSpec)) valPutsCard

/-- THE TIED CARD OF 'loupelaw02.ValSizes'. -/
def valSizesCard : Claim7 := { stood := { row := valSizesRow, standIns := [], harness := (true, "e72485a34481c9af3caea48386f20d1b6f5dea03a4c16c0b11945e70a970f3e9"), looks := true }, kinds := [], alts := [], laidByText := true, laidKinds := [.data, .pinned], laidTests := true, laidLooks := .later }
def ValSizesCardSaid : Prop := Claim7.holds Tryz.pinned (.plain (OpenSpec.ofChange valSizesSpec)) valSizesCard

/-- THE TIED CARD OF 'loupelaw16.InclRefines'. -/
def inclRefinesCard : Claim7 := { stood := { row := inclRefinesRow, standIns := [], harness := (true, "e72485a34481c9af3caea48386f20d1b6f5dea03a4c16c0b11945e70a970f3e9"), looks := true }, kinds := [], alts := [], laidByText := true, laidKinds := [.data, .pinned], laidTests := true, laidLooks := .later }
def InclRefinesCardSaid : Prop := Claim7.holds Tryz.pinned (.plain (OpenSpec.ofChange inclRefinesSpec)) inclRefinesCard

/-- THE TIED CARD OF 'loupelaw16.InclExact'. -/
def inclExactCard : Claim7 := { stood := { row := inclExactRow, standIns := [], harness := (true, "e72485a34481c9af3caea48386f20d1b6f5dea03a4c16c0b11945e70a970f3e9"), looks := true }, kinds := [], alts := [], laidByText := true, laidKinds := [.data, .pinned], laidTests := true, laidLooks := .later }
def InclExactCardSaid : Prop := Claim7.holds Tryz.pinned (.plain (OpenSpec.ofChange inclExactSpec)) inclExactCard

/-- THE TIED CARD OF 'loupelaw16.InclOrder'. -/
def inclOrderCard : Claim7 := { stood := { row := inclOrderRow, standIns := [], harness := (true, "e72485a34481c9af3caea48386f20d1b6f5dea03a4c16c0b11945e70a970f3e9"), looks := true }, kinds := [], alts := [], laidByText := true, laidKinds := [.data, .pinned], laidTests := true, laidLooks := .later }
def InclOrderCardSaid : Prop := Claim7.holds Tryz.pinned (.plain (OpenSpec.ofChange inclOrderSpec)) inclOrderCard

/-- THE TIED CARD OF 'loupelaw16.InclWide'. -/
def inclWideCard : Claim7 := { stood := { row := inclWideRow, standIns := [], harness := (true, "e72485a34481c9af3caea48386f20d1b6f5dea03a4c16c0b11945e70a970f3e9"), looks := true }, kinds := [], alts := [], laidByText := true, laidKinds := [.data, .pinned], laidTests := true, laidLooks := .later }
def InclWideCardSaid : Prop := Claim7.holds Tryz.pinned (.plain (OpenSpec.ofChange inclWideSpec)) inclWideCard

/-- THE TIED CARD OF 'loupelaw15.WitTells'. -/
def witTellsCard : Claim7 := { stood := { row := witTellsRow, standIns := [], harness := (true, "e72485a34481c9af3caea48386f20d1b6f5dea03a4c16c0b11945e70a970f3e9"), looks := true }, kinds := [], alts := [], laidByText := true, laidKinds := [.data, .pinned], laidTests := true, laidLooks := .later }
def WitTellsCardSaid : Prop := Claim7.holds Tryz.pinned (.plain (OpenSpec.ofChange witTellsSpec)) witTellsCard

/-- THE TIED CARD OF 'loupelaw15.WitIn'. -/
def witInCard : Claim7 := { stood := { row := witInRow, standIns := [], harness := (true, "e72485a34481c9af3caea48386f20d1b6f5dea03a4c16c0b11945e70a970f3e9"), looks := true }, kinds := [], alts := [], laidByText := true, laidKinds := [.data, .pinned], laidTests := true, laidLooks := .later }
def WitInCardSaid : Prop := Claim7.holds Tryz.pinned (.plain (OpenSpec.ofChange witInSpec)) witInCard

/-- THE TIED CARD OF 'loupelaw15.WitSmall'. -/
def witSmallCard : Claim7 := { stood := { row := witSmallRow, standIns := [], harness := (true, "e72485a34481c9af3caea48386f20d1b6f5dea03a4c16c0b11945e70a970f3e9"), looks := true }, kinds := [], alts := [], laidByText := true, laidKinds := [.data, .pinned], laidTests := true, laidLooks := .later }
def WitSmallCardSaid : Prop := Claim7.holds Tryz.pinned (.plain (OpenSpec.ofChange witSmallSpec)) witSmallCard

/-- THE TIED CARD OF 'loupelaw15.WitParts'. -/
def witPartsCard : Claim7 := { stood := { row := witPartsRow, standIns := [], harness := (true, "e72485a34481c9af3caea48386f20d1b6f5dea03a4c16c0b11945e70a970f3e9"), looks := true }, kinds := [], alts := [], laidByText := true, laidKinds := [.data, .pinned], laidTests := true, laidLooks := .later }
def WitPartsCardSaid : Prop := Claim7.holds Tryz.pinned (.plain (OpenSpec.ofChange witPartsSpec)) witPartsCard

/-- THE TIED CARD OF 'loupelaw15.WitMany'. -/
def witManyCard : Claim7 := { stood := { row := witManyRow, standIns := [], harness := (true, "e72485a34481c9af3caea48386f20d1b6f5dea03a4c16c0b11945e70a970f3e9"), looks := true }, kinds := [], alts := [], laidByText := true, laidKinds := [.data, .pinned], laidTests := true, laidLooks := .later }
def WitManyCardSaid : Prop := Claim7.holds Tryz.pinned (.plain (OpenSpec.ofChange witManySpec)) witManyCard

/-- THE TIED CARD OF 'loupelaw22.EditTells'. -/
def editTellsCard : Claim7 := { stood := { row := editTellsRow, standIns := [], harness := (true, "e72485a34481c9af3caea48386f20d1b6f5dea03a4c16c0b11945e70a970f3e9"), looks := true }, kinds := [], alts := [], laidByText := true, laidKinds := [.data, .pinned], laidTests := true, laidLooks := .later }
def EditTellsCardSaid : Prop := Claim7.holds Tryz.pinned (.plain (OpenSpec.ofChange editTellsSpec)) editTellsCard

/-- THE TIED CARD OF 'loupelaw22.EditDoes'. -/
def editDoesCard : Claim7 := { stood := { row := editDoesRow, standIns := [], harness := (true, "e72485a34481c9af3caea48386f20d1b6f5dea03a4c16c0b11945e70a970f3e9"), looks := true }, kinds := [], alts := [], laidByText := true, laidKinds := [.data, .pinned], laidTests := true, laidLooks := .later }
def EditDoesCardSaid : Prop := Claim7.holds Tryz.pinned (.plain (OpenSpec.ofChange editDoesSpec)) editDoesCard

/-- THE TIED CARD OF 'loupelaw22.EditScript'. -/
def editScriptCard : Claim7 := { stood := { row := editScriptRow, standIns := [], harness := (true, "e72485a34481c9af3caea48386f20d1b6f5dea03a4c16c0b11945e70a970f3e9"), looks := true }, kinds := [], alts := [], laidByText := true, laidKinds := [.data, .pinned], laidTests := true, laidLooks := .later }
def EditScriptCardSaid : Prop := Claim7.holds Tryz.pinned (.plain (OpenSpec.ofChange editScriptSpec)) editScriptCard

/-- THE TIED CARD OF 'loupelaw22.EditRight'. -/
def editRightCard : Claim7 := { stood := { row := editRightRow, standIns := [], harness := (true, "e72485a34481c9af3caea48386f20d1b6f5dea03a4c16c0b11945e70a970f3e9"), looks := true }, kinds := [], alts := [], laidByText := true, laidKinds := [.data, .pinned], laidTests := true, laidLooks := .later }
def EditRightCardSaid : Prop := Claim7.holds Tryz.pinned (.plain (OpenSpec.ofChange editRightSpec)) editRightCard

/-- THE TIED CARD OF 'loupelaw22.EditSmall'. -/
def editSmallCard : Claim7 := { stood := { row := editSmallRow, standIns := [], harness := (true, "e72485a34481c9af3caea48386f20d1b6f5dea03a4c16c0b11945e70a970f3e9"), looks := true }, kinds := [], alts := [], laidByText := true, laidKinds := [.data, .pinned], laidTests := true, laidLooks := .later }
def EditSmallCardSaid : Prop := Claim7.holds Tryz.pinned (.plain (OpenSpec.ofChange editSmallSpec)) editSmallCard

/-- THE SECOND FORM's CARD OF 'loupelaw11.AtomTells'. -/
def atomTellsUptoCard : Claim7 := { stood := { row := atomTellsUptoRow, standIns := [], harness := (true, "e72485a34481c9af3caea48386f20d1b6f5dea03a4c16c0b11945e70a970f3e9"), looks := true }, kinds := [], alts := [], laidByText := true, laidKinds := [.data, .pinned], laidTests := true, laidLooks := .later }
def AtomTellsUptoCardSaid : Prop := Claim7.holds Tryz.pinned (.plain (OpenSpec.upto atomTellsSpec)) atomTellsUptoCard

/-- THE SECOND FORM's CARD OF 'loupelaw11.AtomTurns'. -/
def atomTurnsUptoCard : Claim7 := { stood := { row := atomTurnsUptoRow, standIns := [], harness := (true, "e72485a34481c9af3caea48386f20d1b6f5dea03a4c16c0b11945e70a970f3e9"), looks := true }, kinds := [], alts := [], laidByText := true, laidKinds := [.data, .pinned], laidTests := true, laidLooks := .later }
def AtomTurnsUptoCardSaid : Prop := Claim7.holds Tryz.pinned (.plain (OpenSpec.upto atomTurnsSpec)) atomTurnsUptoCard

/-- THE SECOND FORM's CARD OF 'loupelaw02.ValFields'. -/
def valFieldsUptoCard : Claim7 := { stood := { row := valFieldsUptoRow, standIns := [], harness := (true, "e72485a34481c9af3caea48386f20d1b6f5dea03a4c16c0b11945e70a970f3e9"), looks := true }, kinds := [], alts := [], laidByText := true, laidKinds := [.data, .pinned], laidTests := true, laidLooks := .later }
def ValFieldsUptoCardSaid : Prop := Claim7.holds Tryz.pinned (.plain (OpenSpec.upto valFieldsSpec)) valFieldsUptoCard

/-- THE SECOND FORM's CARD OF 'loupelaw02.ValPuts'. -/
def valPutsUptoCard : Claim7 := { stood := { row := valPutsUptoRow, standIns := [], harness := (true, "e72485a34481c9af3caea48386f20d1b6f5dea03a4c16c0b11945e70a970f3e9"), looks := true }, kinds := [], alts := [], laidByText := true, laidKinds := [.data, .pinned], laidTests := true, laidLooks := .later }
def ValPutsUptoCardSaid : Prop := Claim7.holds Tryz.pinned (.plain (OpenSpec.upto valPutsSpec)) valPutsUptoCard

/-- THE SECOND FORM's CARD OF 'loupelaw02.ValSizes'. -/
def valSizesUptoCard : Claim7 := { stood := { row := valSizesUptoRow, standIns := [], harness := (true, "e72485a34481c9af3caea48386f20d1b6f5dea03a4c16c0b11945e70a970f3e9"), looks := true }, kinds := [], alts := [], laidByText := true, laidKinds := [.data, .pinned], laidTests := true, laidLooks := .later }
def ValSizesUptoCardSaid : Prop := Claim7.holds Tryz.pinned (.plain (OpenSpec.upto valSizesSpec)) valSizesUptoCard

/-- THE SECOND FORM's CARD OF 'loupelaw16.InclRefines'. -/
def inclRefinesUptoCard : Claim7 := { stood := { row := inclRefinesUptoRow, standIns := [], harness := (true, "e72485a34481c9af3caea48386f20d1b6f5dea03a4c16c0b11945e70a970f3e9"), looks := true }, kinds := [], alts := [], laidByText := true, laidKinds := [.data, .pinned], laidTests := true, laidLooks := .later }
def InclRefinesUptoCardSaid : Prop := Claim7.holds Tryz.pinned (.plain (OpenSpec.upto inclRefinesSpec)) inclRefinesUptoCard

/-- THE SECOND FORM's CARD OF 'loupelaw16.InclExact'. -/
def inclExactUptoCard : Claim7 := { stood := { row := inclExactUptoRow, standIns := [], harness := (true, "e72485a34481c9af3caea48386f20d1b6f5dea03a4c16c0b11945e70a970f3e9"), looks := true }, kinds := [], alts := [], laidByText := true, laidKinds := [.data, .pinned], laidTests := true, laidLooks := .later }
def InclExactUptoCardSaid : Prop := Claim7.holds Tryz.pinned (.plain (OpenSpec.upto inclExactSpec)) inclExactUptoCard

/-- THE SECOND FORM's CARD OF 'loupelaw16.InclOrder'. -/
def inclOrderUptoCard : Claim7 := { stood := { row := inclOrderUptoRow, standIns := [], harness := (true, "e72485a34481c9af3caea48386f20d1b6f5dea03a4c16c0b11945e70a970f3e9"), looks := true }, kinds := [], alts := [], laidByText := true, laidKinds := [.data, .pinned], laidTests := true, laidLooks := .later }
def InclOrderUptoCardSaid : Prop := Claim7.holds Tryz.pinned (.plain (OpenSpec.upto inclOrderSpec)) inclOrderUptoCard

/-- THE SECOND FORM's CARD OF 'loupelaw16.InclWide'. -/
def inclWideUptoCard : Claim7 := { stood := { row := inclWideUptoRow, standIns := [], harness := (true, "e72485a34481c9af3caea48386f20d1b6f5dea03a4c16c0b11945e70a970f3e9"), looks := true }, kinds := [], alts := [], laidByText := true, laidKinds := [.data, .pinned], laidTests := true, laidLooks := .later }
def InclWideUptoCardSaid : Prop := Claim7.holds Tryz.pinned (.plain (OpenSpec.upto inclWideSpec)) inclWideUptoCard

/-- THE SECOND FORM's CARD OF 'loupelaw15.WitTells'. -/
def witTellsUptoCard : Claim7 := { stood := { row := witTellsUptoRow, standIns := [], harness := (true, "e72485a34481c9af3caea48386f20d1b6f5dea03a4c16c0b11945e70a970f3e9"), looks := true }, kinds := [], alts := [], laidByText := true, laidKinds := [.data, .pinned], laidTests := true, laidLooks := .later }
def WitTellsUptoCardSaid : Prop := Claim7.holds Tryz.pinned (.plain (OpenSpec.upto witTellsSpec)) witTellsUptoCard

/-- THE SECOND FORM's CARD OF 'loupelaw15.WitIn'. -/
def witInUptoCard : Claim7 := { stood := { row := witInUptoRow, standIns := [], harness := (true, "e72485a34481c9af3caea48386f20d1b6f5dea03a4c16c0b11945e70a970f3e9"), looks := true }, kinds := [], alts := [], laidByText := true, laidKinds := [.data, .pinned], laidTests := true, laidLooks := .later }
def WitInUptoCardSaid : Prop := Claim7.holds Tryz.pinned (.plain (OpenSpec.upto witInSpec)) witInUptoCard

/-- THE SECOND FORM's CARD OF 'loupelaw15.WitSmall'. -/
def witSmallUptoCard : Claim7 := { stood := { row := witSmallUptoRow, standIns := [], harness := (true, "e72485a34481c9af3caea48386f20d1b6f5dea03a4c16c0b11945e70a970f3e9"), looks := true }, kinds := [], alts := [], laidByText := true, laidKinds := [.data, .pinned], laidTests := true, laidLooks := .later }
def WitSmallUptoCardSaid : Prop := Claim7.holds Tryz.pinned (.plain (OpenSpec.upto witSmallSpec)) witSmallUptoCard

/-- THE SECOND FORM's CARD OF 'loupelaw15.WitParts'. -/
def witPartsUptoCard : Claim7 := { stood := { row := witPartsUptoRow, standIns := [], harness := (true, "e72485a34481c9af3caea48386f20d1b6f5dea03a4c16c0b11945e70a970f3e9"), looks := true }, kinds := [], alts := [], laidByText := true, laidKinds := [.data, .pinned], laidTests := true, laidLooks := .later }
def WitPartsUptoCardSaid : Prop := Claim7.holds Tryz.pinned (.plain (OpenSpec.upto witPartsSpec)) witPartsUptoCard

/-- THE SECOND FORM's CARD OF 'loupelaw15.WitMany'. -/
def witManyUptoCard : Claim7 := { stood := { row := witManyUptoRow, standIns := [], harness := (true, "e72485a34481c9af3caea48386f20d1b6f5dea03a4c16c0b11945e70a970f3e9"), looks := true }, kinds := [], alts := [], laidByText := true, laidKinds := [.data, .pinned], laidTests := true, laidLooks := .later }
def WitManyUptoCardSaid : Prop := Claim7.holds Tryz.pinned (.plain (OpenSpec.upto witManySpec)) witManyUptoCard

/-- THE SECOND FORM's CARD OF 'loupelaw22.EditTells'. -/
def editTellsUptoCard : Claim7 := { stood := { row := editTellsUptoRow, standIns := [], harness := (true, "e72485a34481c9af3caea48386f20d1b6f5dea03a4c16c0b11945e70a970f3e9"), looks := true }, kinds := [], alts := [], laidByText := true, laidKinds := [.data, .pinned], laidTests := true, laidLooks := .later }
def EditTellsUptoCardSaid : Prop := Claim7.holds Tryz.pinned (.plain (OpenSpec.upto editTellsSpec)) editTellsUptoCard

/-- THE SECOND FORM's CARD OF 'loupelaw22.EditDoes'. -/
def editDoesUptoCard : Claim7 := { stood := { row := editDoesUptoRow, standIns := [], harness := (true, "e72485a34481c9af3caea48386f20d1b6f5dea03a4c16c0b11945e70a970f3e9"), looks := true }, kinds := [], alts := [], laidByText := true, laidKinds := [.data, .pinned], laidTests := true, laidLooks := .later }
def EditDoesUptoCardSaid : Prop := Claim7.holds Tryz.pinned (.plain (OpenSpec.upto editDoesSpec)) editDoesUptoCard

/-- THE SECOND FORM's CARD OF 'loupelaw22.EditScript'. -/
def editScriptUptoCard : Claim7 := { stood := { row := editScriptUptoRow, standIns := [], harness := (true, "e72485a34481c9af3caea48386f20d1b6f5dea03a4c16c0b11945e70a970f3e9"), looks := true }, kinds := [], alts := [], laidByText := true, laidKinds := [.data, .pinned], laidTests := true, laidLooks := .later }
def EditScriptUptoCardSaid : Prop := Claim7.holds Tryz.pinned (.plain (OpenSpec.upto editScriptSpec)) editScriptUptoCard

/-- THE SECOND FORM's CARD OF 'loupelaw22.EditRight'. -/
def editRightUptoCard : Claim7 := { stood := { row := editRightUptoRow, standIns := [], harness := (true, "e72485a34481c9af3caea48386f20d1b6f5dea03a4c16c0b11945e70a970f3e9"), looks := true }, kinds := [], alts := [], laidByText := true, laidKinds := [.data, .pinned], laidTests := true, laidLooks := .later }
def EditRightUptoCardSaid : Prop := Claim7.holds Tryz.pinned (.plain (OpenSpec.upto editRightSpec)) editRightUptoCard

/-- THE SECOND FORM's CARD OF 'loupelaw22.EditSmall'. -/
def editSmallUptoCard : Claim7 := { stood := { row := editSmallUptoRow, standIns := [], harness := (true, "e72485a34481c9af3caea48386f20d1b6f5dea03a4c16c0b11945e70a970f3e9"), looks := true }, kinds := [], alts := [], laidByText := true, laidKinds := [.data, .pinned], laidTests := true, laidLooks := .later }
def EditSmallUptoCardSaid : Prop := Claim7.holds Tryz.pinned (.plain (OpenSpec.upto editSmallSpec)) editSmallUptoCard
end Rows
end Go.Proofs.YtcememnoihgipaaGreatDoor
