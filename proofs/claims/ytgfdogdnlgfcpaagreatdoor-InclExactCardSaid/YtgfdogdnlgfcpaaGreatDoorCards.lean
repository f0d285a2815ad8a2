/-
  DERIVED. GIVEN WITH THE SEED: THE CARDS: each row of YtgfdogdnlgfcpaaGreatDoorRows.lean that lists a variable, with what it lists TIED to the program's text (the seventh form; the later family's looks); each row that meets fmt, with fmt's text TOLD by the authors' own Lean function (tested against real Go, not proved from fmt's source: count such statements apart). THE CARD IS WHAT COUNTS. Prove the row's statement (the work); the ties are given (YtgfdogdnlgfcpaaGreatDoorTie.lean); close each card by the builder's one call (the guide's Derived/Test/ToyasCard.lean, 'card_holds'). Laid BY PROGRAM, IN A SANDBOX (cutbox-door.mjs). By AI agents, Wed Nov 11 2026. No macro, syntax, notation, axiom, sorry.
-/
import Derived.Test.YtgfdogdnlgfcpaaGreatDoorRows
import GoSem.ClaimSeven
namespace Go.Proofs.YtgfdogdnlgfcpaaGreatDoor
namespace Rows

/-- THE TIED CARD OF 'loupelaw16.InclRefines'. -/
def inclRefinesCard : Claim7 := { stood := { row := inclRefinesRow, standIns := [], harness := (true, "8381f30e633e0d7317f6c5999a06f8589083a5cc0e7a2d17ab385dd6225734d1"), looks := false }, kinds := [], alts := [], laidByText := true, laidKinds := [.data, .pinned], laidTests := true, laidLooks := .later }
def InclRefinesCardSaid : Prop := Claim7.holds Tryz.pinned (.plain (OpenSpec.ofChange inclRefinesSpec)) inclRefinesCard

/-- THE TIED CARD OF 'loupelaw16.InclExact'. -/
def inclExactCard : Claim7 := { stood := { row := inclExactRow, standIns := [], harness := (true, "8381f30e633e0d7317f6c5999a06f8589083a5cc0e7a2d17ab385dd6225734d1"), looks := false }, kinds := [], alts := [], laidByText := true, laidKinds := [.data, .pinned], laidTests := true, laidLooks := .later }
def InclExactCardSaid : Prop := Claim7.holds Tryz.pinned (.plain (OpenSpec.ofChange inclExactSpec)) inclExactCard

/-- THE TIED CARD OF 'loupelaw16.InclOrder'. -/
def inclOrderCard : Claim7 := { stood := { row := inclOrderRow, standIns := [], harness := (true, "8381f30e633e0d7317f6c5999a06f8589083a5cc0e7a2d17ab385dd6225734d1"), looks := false }, kinds := [], alts := [], laidByText := true, laidKinds := [.data, .pinned], laidTests := true, laidLooks := .later }
def InclOrderCardSaid : Prop := Claim7.holds Tryz.pinned (.plain (OpenSpec.ofChange inclOrderSpec)) inclOrderCard

/-- THE TIED CARD OF 'loupelaw16.InclWide'. -/
def inclWideCard : Claim7 := { stood := { row := inclWideRow, standIns := [], harness := (true, "8381f30e633e0d7317f6c5999a06f8589083a5cc0e7a2d17ab385dd6225734d1"), looks := false }, kinds := [], alts := [], laidByText := true, laidKinds := [.data, .pinned], laidTests := true, laidLooks := .later }
def InclWideCardSaid : Prop := Claim7.holds Tryz.pinned (.plain (OpenSpec.ofChange inclWideSpec)) inclWideCard

/-- THE SECOND FORM's CARD OF 'loupelaw16.InclRefines'. -/
def inclRefinesUptoCard : Claim7 := { stood := { row := inclRefinesUptoRow, standIns := [], harness := (true, "8381f30e633e0d7317f6c5999a06f8589083a5cc0e7a2d17ab385dd6225734d1"), looks := false }, kinds := [], alts := [], laidByText := true, laidKinds := [.data, .pinned], laidTests := true, laidLooks := .later }
def InclRefinesUptoCardSaid : Prop := Claim7.holds Tryz.pinned (.plain (OpenSpec.upto inclRefinesSpec)) inclRefinesUptoCard

/-- THE SECOND FORM's CARD OF 'loupelaw16.InclExact'. -/
def inclExactUptoCard : Claim7 := { stood := { row := inclExactUptoRow, standIns := [], harness := (true, "8381f30e633e0d7317f6c5999a06f8589083a5cc0e7a2d17ab385dd6225734d1"), looks := false }, kinds := [], alts := [], laidByText := true, laidKinds := [.data, .pinned], laidTests := true, laidLooks := .later }
def InclExactUptoCardSaid : Prop := Claim7.holds Tryz.pinned (.plain (OpenSpec.upto inclExactSpec)) inclExactUptoCard

/-- THE SECOND FORM's CARD OF 'loupelaw16.InclOrder'. -/
def inclOrderUptoCard : Claim7 := { stood := { row := inclOrderUptoRow, standIns := [], harness := (true, "8381f30e633e0d7317f6c5999a06f8589083a5cc0e7a2d17ab385dd6225734d1"), looks := false }, kinds := [], alts := [], laidByText := true, laidKinds := [.data, .pinned], laidTests := true, laidLooks := .later }
def InclOrderUptoCardSaid : Prop := Claim7.holds Tryz.pinned (.plain (OpenSpec.upto inclOrderSpec)) inclOrderUptoCard

/-- THE SECOND FORM's CARD OF 'loupelaw16.InclWide'. -/
def inclWideUptoCard : Claim7 := { stood := { row := inclWideUptoRow, standIns := [], harness := (true, "8381f30e633e0d7317f6c5999a06f8589083a5cc0e7a2d17ab385dd6225734d1"), looks := false }, kinds := [], alts := [], laidByText := true, laidKinds := [.data, .pinned], laidTests := true, laidLooks := .later }
def InclWideUptoCardSaid : Prop := Claim7.holds Tryz.pinned (.plain (OpenSpec.upto inclWideSpec)) inclWideUptoCard
end Rows
end Go.Proofs.YtgfdogdnlgfcpaaGreatDoor
