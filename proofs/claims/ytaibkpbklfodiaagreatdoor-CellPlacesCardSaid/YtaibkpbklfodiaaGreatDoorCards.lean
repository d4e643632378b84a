/-
  DERIVED. GIVEN WITH THE SEED: THE CARDS: each row of YtaibkpbklfodiaaGreatDoorRows.lean that lists a variable, with what it lists TIED to the program's text (the seventh form; the later family's looks); each row that meets fmt, with fmt's text TOLD by the authors' own Lean function (tested against real Go, not proved from fmt's source: count such statements apart). THE CARD IS WHAT COUNTS. Prove the row's statement (the work); the ties are given (YtaibkpbklfodiaaGreatDoorTie.lean); close each card by the builder's one call (the guide's Derived/Test/ToyasCard.lean, 'card_holds'). Laid BY PROGRAM, IN A SANDBOX (cutbox-door.mjs). By AI agents, Wed Nov 11 2026. No macro, syntax, notation, axiom, sorry.
-/
import Derived.Test.YtaibkpbklfodiaaGreatDoorRows
import GoSem.ClaimSeven
namespace Go.Proofs.YtaibkpbklfodiaaGreatDoor
namespace Rows

/-- THE TIED CARD OF 'dowellaw09.CellChecks'. -/
def cellChecksCard : Claim7 := { stood := { row := cellChecksRow, standIns := [], harness := (true, "6c65cc7416c67665389b7af0e84806a2ebd9a42af6f1548673da5a11f68942ee"), looks := true }, kinds := [], alts := [], laidByText := true, laidKinds := [.data, .data, .data], laidTests := true, laidLooks := .later }
def CellChecksCardSaid : Prop := Claim7.holds Tryz.pinned (.plain (OpenSpec.ofChange cellChecksSpec)) cellChecksCard

/-- THE TIED CARD OF 'dowellaw09.CellLocates'. -/
def cellLocatesCard : Claim7 := { stood := { row := cellLocatesRow, standIns := [], harness := (true, "6c65cc7416c67665389b7af0e84806a2ebd9a42af6f1548673da5a11f68942ee"), looks := true }, kinds := [], alts := [], laidByText := true, laidKinds := [.data, .data, .data], laidTests := true, laidLooks := .later }
def CellLocatesCardSaid : Prop := Claim7.holds Tryz.pinned (.plain (OpenSpec.ofChange cellLocatesSpec)) cellLocatesCard

/-- THE TIED CARD OF 'dowellaw09.CellInside'. -/
def cellInsideCard : Claim7 := { stood := { row := cellInsideRow, standIns := [], harness := (true, "6c65cc7416c67665389b7af0e84806a2ebd9a42af6f1548673da5a11f68942ee"), looks := true }, kinds := [], alts := [], laidByText := true, laidKinds := [.data, .data, .data], laidTests := true, laidLooks := .later }
def CellInsideCardSaid : Prop := Claim7.holds Tryz.pinned (.plain (OpenSpec.ofChange cellInsideSpec)) cellInsideCard

/-- THE TIED CARD OF 'dowellaw09.CellExtents'. -/
def cellExtentsCard : Claim7 := { stood := { row := cellExtentsRow, standIns := [], harness := (true, "6c65cc7416c67665389b7af0e84806a2ebd9a42af6f1548673da5a11f68942ee"), looks := true }, kinds := [], alts := [], laidByText := true, laidKinds := [.data, .data, .data], laidTests := true, laidLooks := .later }
def CellExtentsCardSaid : Prop := Claim7.holds Tryz.pinned (.plain (OpenSpec.ofChange cellExtentsSpec)) cellExtentsCard

/-- THE TIED CARD OF 'dowellaw09.CellHulls'. -/
def cellHullsCard : Claim7 := { stood := { row := cellHullsRow, standIns := [], harness := (true, "6c65cc7416c67665389b7af0e84806a2ebd9a42af6f1548673da5a11f68942ee"), looks := true }, kinds := [], alts := [], laidByText := true, laidKinds := [.data, .data, .data], laidTests := true, laidLooks := .later }
def CellHullsCardSaid : Prop := Claim7.holds Tryz.pinned (.plain (OpenSpec.ofChange cellHullsSpec)) cellHullsCard

/-- THE TIED CARD OF 'dowellaw09.CellVolumes'. -/
def cellVolumesCard : Claim7 := { stood := { row := cellVolumesRow, standIns := [], harness := (true, "6c65cc7416c67665389b7af0e84806a2ebd9a42af6f1548673da5a11f68942ee"), looks := true }, kinds := [], alts := [], laidByText := true, laidKinds := [.data, .data, .data], laidTests := true, laidLooks := .later }
def CellVolumesCardSaid : Prop := Claim7.holds Tryz.pinned (.plain (OpenSpec.ofChange cellVolumesSpec)) cellVolumesCard

/-- THE TIED CARD OF 'dowellaw09.CellPlaces'. -/
def cellPlacesCard : Claim7 := { stood := { row := cellPlacesRow, standIns := [], harness := (true, "6c65cc7416c67665389b7af0e84806a2ebd9a42af6f1548673da5a11f68942ee"), looks := true }, kinds := [], alts := [], laidByText := true, laidKinds := [.data, .data, .data, .data, .sentinel, .sentinel, .pinned], laidTests := true, laidLooks := .later }
def CellPlacesCardSaid : Prop := Claim7.holds Tryz.pinned (.plain (OpenSpec.ofChange cellPlacesSpec)) cellPlacesCard

/-- THE SECOND FORM's CARD OF 'dowellaw09.CellChecks'. -/
def cellChecksUptoCard : Claim7 := { stood := { row := cellChecksUptoRow, standIns := [], harness := (true, "6c65cc7416c67665389b7af0e84806a2ebd9a42af6f1548673da5a11f68942ee"), looks := true }, kinds := [], alts := [], laidByText := true, laidKinds := [.data, .data, .data], laidTests := true, laidLooks := .later }
def CellChecksUptoCardSaid : Prop := Claim7.holds Tryz.pinned (.plain (OpenSpec.upto cellChecksSpec)) cellChecksUptoCard

/-- THE SECOND FORM's CARD OF 'dowellaw09.CellLocates'. -/
def cellLocatesUptoCard : Claim7 := { stood := { row := cellLocatesUptoRow, standIns := [], harness := (true, "6c65cc7416c67665389b7af0e84806a2ebd9a42af6f1548673da5a11f68942ee"), looks := true }, kinds := [], alts := [], laidByText := true, laidKinds := [.data, .data, .data], laidTests := true, laidLooks := .later }
def CellLocatesUptoCardSaid : Prop := Claim7.holds Tryz.pinned (.plain (OpenSpec.upto cellLocatesSpec)) cellLocatesUptoCard

/-- THE SECOND FORM's CARD OF 'dowellaw09.CellInside'. -/
def cellInsideUptoCard : Claim7 := { stood := { row := cellInsideUptoRow, standIns := [], harness := (true, "6c65cc7416c67665389b7af0e84806a2ebd9a42af6f1548673da5a11f68942ee"), looks := true }, kinds := [], alts := [], laidByText := true, laidKinds := [.data, .data, .data], laidTests := true, laidLooks := .later }
def CellInsideUptoCardSaid : Prop := Claim7.holds Tryz.pinned (.plain (OpenSpec.upto cellInsideSpec)) cellInsideUptoCard

/-- THE SECOND FORM's CARD OF 'dowellaw09.CellExtents'. -/
def cellExtentsUptoCard : Claim7 := { stood := { row := cellExtentsUptoRow, standIns := [], harness := (true, "6c65cc7416c67665389b7af0e84806a2ebd9a42af6f1548673da5a11f68942ee"), looks := true }, kinds := [], alts := [], laidByText := true, laidKinds := [.data, .data, .data], laidTests := true, laidLooks := .later }
def CellExtentsUptoCardSaid : Prop := Claim7.holds Tryz.pinned (.plain (OpenSpec.upto cellExtentsSpec)) cellExtentsUptoCard

/-- THE SECOND FORM's CARD OF 'dowellaw09.CellHulls'. -/
def cellHullsUptoCard : Claim7 := { stood := { row := cellHullsUptoRow, standIns := [], harness := (true, "6c65cc7416c67665389b7af0e84806a2ebd9a42af6f1548673da5a11f68942ee"), looks := true }, kinds := [], alts := [], laidByText := true, laidKinds := [.data, .data, .data], laidTests := true, laidLooks := .later }
def CellHullsUptoCardSaid : Prop := Claim7.holds Tryz.pinned (.plain (OpenSpec.upto cellHullsSpec)) cellHullsUptoCard

/-- THE SECOND FORM's CARD OF 'dowellaw09.CellVolumes'. -/
def cellVolumesUptoCard : Claim7 := { stood := { row := cellVolumesUptoRow, standIns := [], harness := (true, "6c65cc7416c67665389b7af0e84806a2ebd9a42af6f1548673da5a11f68942ee"), looks := true }, kinds := [], alts := [], laidByText := true, laidKinds := [.data, .data, .data], laidTests := true, laidLooks := .later }
def CellVolumesUptoCardSaid : Prop := Claim7.holds Tryz.pinned (.plain (OpenSpec.upto cellVolumesSpec)) cellVolumesUptoCard

/-- THE SECOND FORM's CARD OF 'dowellaw09.CellPlaces'. -/
def cellPlacesUptoCard : Claim7 := { stood := { row := cellPlacesUptoRow, standIns := [], harness := (true, "6c65cc7416c67665389b7af0e84806a2ebd9a42af6f1548673da5a11f68942ee"), looks := true }, kinds := [], alts := [], laidByText := true, laidKinds := [.data, .data, .data, .data, .sentinel, .sentinel, .pinned], laidTests := true, laidLooks := .later }
def CellPlacesUptoCardSaid : Prop := Claim7.holds Tryz.pinned (.plain (OpenSpec.upto cellPlacesSpec)) cellPlacesUptoCard
end Rows
end Go.Proofs.YtaibkpbklfodiaaGreatDoor
