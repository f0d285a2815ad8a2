/-
  DERIVED. GIVEN WITH THE SEED: THE CARDS: each row of YtfgfjbcoeakonaaGreatDoorRows.lean that lists a variable, with what it lists TIED to the program's text (the seventh form; the later family's looks); each row that meets fmt, with fmt's text TOLD by the authors' own Lean function (tested against real Go, not proved from fmt's source: count such statements apart). THE CARD IS WHAT COUNTS. Prove the row's statement (the work); the ties are given (YtfgfjbcoeakonaaGreatDoorTie.lean); close each card by the builder's one call (the guide's Derived/Test/ToyasCard.lean, 'card_holds'). Laid BY PROGRAM, IN A SANDBOX (cutbox-door.mjs). By AI agents, Wed Nov 11 2026. No macro, syntax, notation, axiom, sorry.
-/
import Derived.Test.YtfgfjbcoeakonaaGreatDoorRows
import GoSem.ClaimSeven
namespace Go.Proofs.YtfgfjbcoeakonaaGreatDoor
namespace Rows

/-- THE TIED CARD OF 'loupelaw15.WitTells'. -/
def witTellsCard : Claim7 := { stood := { row := witTellsRow, standIns := [], harness := (true, "ff73f780c7538f0866d9339671417e6a0a2497b609e543cb5f458cf968f7d10d"), looks := false }, kinds := [], alts := [], laidByText := true, laidKinds := [.data, .pinned], laidTests := true, laidLooks := .later }
def WitTellsCardSaid : Prop := Claim7.holds Tryz.pinned (.plain (OpenSpec.ofChange witTellsSpec)) witTellsCard

/-- THE TIED CARD OF 'loupelaw15.WitIn'. -/
def witInCard : Claim7 := { stood := { row := witInRow, standIns := [], harness := (true, "ff73f780c7538f0866d9339671417e6a0a2497b609e543cb5f458cf968f7d10d"), looks := false }, kinds := [], alts := [], laidByText := true, laidKinds := [.data, .pinned], laidTests := true, laidLooks := .later }
def WitInCardSaid : Prop := Claim7.holds Tryz.pinned (.plain (OpenSpec.ofChange witInSpec)) witInCard

/-- THE TIED CARD OF 'loupelaw15.WitSmall'. -/
def witSmallCard : Claim7 := { stood := { row := witSmallRow, standIns := [], harness := (true, "ff73f780c7538f0866d9339671417e6a0a2497b609e543cb5f458cf968f7d10d"), looks := false }, kinds := [], alts := [], laidByText := true, laidKinds := [.data, .pinned], laidTests := true, laidLooks := .later }
def WitSmallCardSaid : Prop := Claim7.holds Tryz.pinned (.plain (OpenSpec.ofChange witSmallSpec)) witSmallCard

/-- THE TIED CARD OF 'loupelaw15.WitParts'. -/
def witPartsCard : Claim7 := { stood := { row := witPartsRow, standIns := [], harness := (true, "ff73f780c7538f0866d9339671417e6a0a2497b609e543cb5f458cf968f7d10d"), looks := false }, kinds := [], alts := [], laidByText := true, laidKinds := [.data, .pinned], laidTests := true, laidLooks := .later }
def WitPartsCardSaid : Prop := Claim7.holds Tryz.pinned (.plain (OpenSpec.ofChange witPartsSpec)) witPartsCard

/-- THE TIED CARD OF 'loupelaw15.WitMany'. -/
def witManyCard : Claim7 := { stood := { row := witManyRow, standIns := [], harness := (true, "ff73f780c7538f0866d9339671417e6a0a2497b609e543cb5f458cf968f7d10d"), looks := false }, kinds := [], alts := [], laidByText := true, laidKinds := [.data, .pinned], laidTests := true, laidLooks := .later }
def WitManyCardSaid : Prop := Claim7.holds Tryz.pinned (.plain (OpenSpec.ofChange witManySpec)) witManyCard

/-- THE SECOND FORM's CARD OF 'loupelaw15.WitTells'. -/
def witTellsUptoCard : Claim7 := { stood := { row := witTellsUptoRow, standIns := [], harness := (true, "ff73f780c7538f0866d9339671417e6a0a2497b609e543cb5f458cf968f7d10d"), looks := false }, kinds := [], alts := [], laidByText := true, laidKinds := [.data, .pinned], laidTests := true, laidLooks := .later }
def WitTellsUptoCardSaid : Prop := Claim7.holds Tryz.pinned (.plain (OpenSpec.upto witTellsSpec)) witTellsUptoCard

/-- THE SECOND FORM's CARD OF 'loupelaw15.WitIn'. -/
def witInUptoCard : Claim7 := { stood := { row := witInUptoRow, standIns := [], harness := (true, "ff73f780c7538f0866d9339671417e6a0a2497b609e543cb5f458cf968f7d10d"), looks := false }, kinds := [], alts := [], laidByText := true, laidKinds := [.data, .pinned], laidTests := true, laidLooks := .later }
def WitInUptoCardSaid : Prop := Claim7.holds Tryz.pinned (.plain (OpenSpec.upto witInSpec)) witInUptoCard

/-- THE SECOND FORM's CARD OF 'loupelaw15.WitSmall'. -/
def witSmallUptoCard : Claim7 := { stood := { row := witSmallUptoRow, standIns := [], harness := (true, "ff73f780c7538f0866d9339671417e6a0a2497b609e543cb5f458cf968f7d10d"), looks := false }, kinds := [], alts := [], laidByText := true, laidKinds := [.data, .pinned], laidTests := true, laidLooks := .later }
def WitSmallUptoCardSaid : Prop := Claim7.holds Tryz.pinned (.plain (OpenSpec.upto witSmallSpec)) witSmallUptoCard

/-- THE SECOND FORM's CARD OF 'loupelaw15.WitParts'. -/
def witPartsUptoCard : Claim7 := { stood := { row := witPartsUptoRow, standIns := [], harness := (true, "ff73f780c7538f0866d9339671417e6a0a2497b609e543cb5f458cf968f7d10d"), looks := false }, kinds := [], alts := [], laidByText := true, laidKinds := [.data, .pinned], laidTests := true, laidLooks := .later }
def WitPartsUptoCardSaid : Prop := Claim7.holds Tryz.pinned (.plain (OpenSpec.upto witPartsSpec)) witPartsUptoCard

/-- THE SECOND FORM's CARD OF 'loupelaw15.WitMany'. -/
def witManyUptoCard : Claim7 := { stood := { row := witManyUptoRow, standIns := [], harness := (true, "ff73f780c7538f0866d9339671417e6a0a2497b609e543cb5f458cf968f7d10d"), looks := false }, kinds := [], alts := [], laidByText := true, laidKinds := [.data, .pinned], laidTests := true, laidLooks := .later }
def WitManyUptoCardSaid : Prop := Claim7.holds Tryz.pinned (.plain (OpenSpec.upto witManySpec)) witManyUptoCard
end Rows
end Go.Proofs.YtfgfjbcoeakonaaGreatDoor
