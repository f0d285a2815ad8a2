/-
  DERIVED. GIVEN WITH THE SEED: THE CARDS: each row of YtcememnoihgipaaDoorRows.lean that lists a variable, with what it lists TIED to the program's text (the seventh form; the later family's looks); each row that meets fmt, with fmt's text TOLD by the authors' own Lean function (tested against real Go, not proved from fmt's source: count such statements apart). THE CARD IS WHAT COUNTS. Prove the row's statement (the work); the ties are given (YtcememnoihgipaaDoorTie.lean); close each card by the builder's one call (the guide's Derived/Test/ToyasCard.lean, 'card_holds'). Laid BY PROGRAM, IN A SANDBOX (cutbox-door.mjs). By AI agents, Wed Nov 11 2026. No macro, syntax, notation, axiom, sorry.
-/
import Derived.Test.YtcememnoihgipaaDoorRows
import GoSem.ClaimSeven
namespace Go.Proofs.YtcememnoihgipaaDoor
namespace Rows

/-- THE TIED CARD OF 'loupelaw02.ValMakes'. -/
def valMakesCard : Claim7 := { stood := { row := valMakesRow, standIns := [], harness := (true, "e73431e219a2f42a010fae13e0125a68f194169b185bdb3a6a95c1a0d8a68558"), looks := false }, kinds := [], alts := [], laidByText := true, laidKinds := [.data, .pinned], laidTests := true, laidLooks := .later }
def ValMakesCardSaid : Prop := Claim7.holds Tryd.pinned (.plain (OpenSpec.ofChange valMakesSpec)) valMakesCard

/-- THE TIED CARD OF 'loupelaw02.ValOrder'. -/
def valOrderCard : Claim7 := { stood := { row := valOrderRow, standIns := [], harness := (true, "e73431e219a2f42a010fae13e0125a68f194169b185bdb3a6a95c1a0d8a68558"), looks := false }, kinds := [], alts := [], laidByText := true, laidKinds := [.data, .pinned], laidTests := true, laidLooks := .later }
def ValOrderCardSaid : Prop := Claim7.holds Tryd.pinned (.plain (OpenSpec.ofChange valOrderSpec)) valOrderCard

/-- THE TIED CARD OF 'loupelaw02.ValTells'. -/
def valTellsCard : Claim7 := { stood := { row := valTellsRow, standIns := [], harness := (true, "e73431e219a2f42a010fae13e0125a68f194169b185bdb3a6a95c1a0d8a68558"), looks := false }, kinds := [], alts := [], laidByText := true, laidKinds := [.data, .pinned], laidTests := true, laidLooks := .later }
def ValTellsCardSaid : Prop := Claim7.holds Tryd.pinned (.plain (OpenSpec.ofChange valTellsSpec)) valTellsCard

/-- THE TIED CARD OF 'loupelaw02.ValBack'. -/
def valBackCard : Claim7 := { stood := { row := valBackRow, standIns := [], harness := (true, "e73431e219a2f42a010fae13e0125a68f194169b185bdb3a6a95c1a0d8a68558"), looks := false }, kinds := [], alts := [], laidByText := true, laidKinds := [.data, .pinned], laidTests := true, laidLooks := .later }
def ValBackCardSaid : Prop := Claim7.holds Tryd.pinned (.plain (OpenSpec.ofChange valBackSpec)) valBackCard

/-- THE SECOND FORM's CARD OF 'loupelaw02.ValMakes'. -/
def valMakesUptoCard : Claim7 := { stood := { row := valMakesUptoRow, standIns := [], harness := (true, "e73431e219a2f42a010fae13e0125a68f194169b185bdb3a6a95c1a0d8a68558"), looks := false }, kinds := [], alts := [], laidByText := true, laidKinds := [.data, .pinned], laidTests := true, laidLooks := .later }
def ValMakesUptoCardSaid : Prop := Claim7.holds Tryd.pinned (.plain (OpenSpec.upto valMakesSpec)) valMakesUptoCard

/-- THE SECOND FORM's CARD OF 'loupelaw02.ValOrder'. -/
def valOrderUptoCard : Claim7 := { stood := { row := valOrderUptoRow, standIns := [], harness := (true, "e73431e219a2f42a010fae13e0125a68f194169b185bdb3a6a95c1a0d8a68558"), looks := false }, kinds := [], alts := [], laidByText := true, laidKinds := [.data, .pinned], laidTests := true, laidLooks := .later }
def ValOrderUptoCardSaid : Prop := Claim7.holds Tryd.pinned (.plain (OpenSpec.upto valOrderSpec)) valOrderUptoCard

/-- THE SECOND FORM's CARD OF 'loupelaw02.ValTells'. -/
def valTellsUptoCard : Claim7 := { stood := { row := valTellsUptoRow, standIns := [], harness := (true, "e73431e219a2f42a010fae13e0125a68f194169b185bdb3a6a95c1a0d8a68558"), looks := false }, kinds := [], alts := [], laidByText := true, laidKinds := [.data, .pinned], laidTests := true, laidLooks := .later }
def ValTellsUptoCardSaid : Prop := Claim7.holds Tryd.pinned (.plain (OpenSpec.upto valTellsSpec)) valTellsUptoCard

/-- THE SECOND FORM's CARD OF 'loupelaw02.ValBack'. -/
def valBackUptoCard : Claim7 := { stood := { row := valBackUptoRow, standIns := [], harness := (true, "e73431e219a2f42a010fae13e0125a68f194169b185bdb3a6a95c1a0d8a68558"), looks := false }, kinds := [], alts := [], laidByText := true, laidKinds := [.data, .pinned], laidTests := true, laidLooks := .later }
def ValBackUptoCardSaid : Prop := Claim7.holds Tryd.pinned (.plain (OpenSpec.upto valBackSpec)) valBackUptoCard
end Rows
end Go.Proofs.YtcememnoihgipaaDoor
