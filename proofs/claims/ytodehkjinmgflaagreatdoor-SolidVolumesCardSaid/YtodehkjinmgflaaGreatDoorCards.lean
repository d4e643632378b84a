/-
  DERIVED. GIVEN WITH THE SEED: THE CARDS: each row of YtodehkjinmgflaaGreatDoorRows.lean that lists a variable, with what it lists TIED to the program's text (the seventh form; the later family's looks); each row that meets fmt, with fmt's text TOLD by the authors' own Lean function (tested against real Go, not proved from fmt's source: count such statements apart). THE CARD IS WHAT COUNTS. Prove the row's statement (the work); the ties are given (YtodehkjinmgflaaGreatDoorTie.lean); close each card by the builder's one call (the guide's Derived/Test/ToyasCard.lean, 'card_holds'). Laid BY PROGRAM, IN A SANDBOX (cutbox-door.mjs). By AI agents, Wed Nov 11 2026. No macro, syntax, notation, axiom, sorry.
-/
import Derived.Test.YtodehkjinmgflaaGreatDoorRows
import GoSem.ClaimSeven
namespace Go.Proofs.YtodehkjinmgflaaGreatDoor
namespace Rows

/-- THE TIED CARD OF 'dowellaw11.SolidLocates'. -/
def solidLocatesCard : Claim7 := { stood := { row := solidLocatesRow, standIns := [], harness := (true, "10bb324ee293b3b36d2ddd027ec3b0bea130319021d3e5a28c270bd09d56b5d9"), looks := true }, kinds := [], alts := [], laidByText := true, laidKinds := [.data, .data, .data, .data, .sentinel, .sentinel, .pinned], laidTests := true, laidLooks := .later }
def SolidLocatesCardSaid : Prop := Claim7.holds Tryz.pinned (.plain (OpenSpec.ofChange solidLocatesSpec)) solidLocatesCard

/-- THE TIED CARD OF 'dowellaw11.SolidExtents'. -/
def solidExtentsCard : Claim7 := { stood := { row := solidExtentsRow, standIns := [], harness := (true, "10bb324ee293b3b36d2ddd027ec3b0bea130319021d3e5a28c270bd09d56b5d9"), looks := true }, kinds := [], alts := [], laidByText := true, laidKinds := [.data, .data, .data, .data, .sentinel, .sentinel, .pinned], laidTests := true, laidLooks := .later }
def SolidExtentsCardSaid : Prop := Claim7.holds Tryz.pinned (.plain (OpenSpec.ofChange solidExtentsSpec)) solidExtentsCard

/-- THE TIED CARD OF 'dowellaw11.SolidVolumes'. -/
def solidVolumesCard : Claim7 := { stood := { row := solidVolumesRow, standIns := [], harness := (true, "10bb324ee293b3b36d2ddd027ec3b0bea130319021d3e5a28c270bd09d56b5d9"), looks := true }, kinds := [], alts := [], laidByText := true, laidKinds := [.data, .data, .data, .data, .sentinel, .sentinel, .pinned], laidTests := true, laidLooks := .later }
def SolidVolumesCardSaid : Prop := Claim7.holds Tryz.pinned (.plain (OpenSpec.ofChange solidVolumesSpec)) solidVolumesCard

/-- THE TIED CARD OF 'dowellaw11.SolidMoves'. -/
def solidMovesCard : Claim7 := { stood := { row := solidMovesRow, standIns := [], harness := (true, "10bb324ee293b3b36d2ddd027ec3b0bea130319021d3e5a28c270bd09d56b5d9"), looks := true }, kinds := [], alts := [], laidByText := true, laidKinds := [.data, .data, .data, .data, .sentinel, .sentinel, .pinned], laidTests := true, laidLooks := .later }
def SolidMovesCardSaid : Prop := Claim7.holds Tryz.pinned (.plain (OpenSpec.ofChange solidMovesSpec)) solidMovesCard

/-- THE SECOND FORM's CARD OF 'dowellaw11.SolidLocates'. -/
def solidLocatesUptoCard : Claim7 := { stood := { row := solidLocatesUptoRow, standIns := [], harness := (true, "10bb324ee293b3b36d2ddd027ec3b0bea130319021d3e5a28c270bd09d56b5d9"), looks := true }, kinds := [], alts := [], laidByText := true, laidKinds := [.data, .data, .data, .data, .sentinel, .sentinel, .pinned], laidTests := true, laidLooks := .later }
def SolidLocatesUptoCardSaid : Prop := Claim7.holds Tryz.pinned (.plain (OpenSpec.upto solidLocatesSpec)) solidLocatesUptoCard

/-- THE SECOND FORM's CARD OF 'dowellaw11.SolidExtents'. -/
def solidExtentsUptoCard : Claim7 := { stood := { row := solidExtentsUptoRow, standIns := [], harness := (true, "10bb324ee293b3b36d2ddd027ec3b0bea130319021d3e5a28c270bd09d56b5d9"), looks := true }, kinds := [], alts := [], laidByText := true, laidKinds := [.data, .data, .data, .data, .sentinel, .sentinel, .pinned], laidTests := true, laidLooks := .later }
def SolidExtentsUptoCardSaid : Prop := Claim7.holds Tryz.pinned (.plain (OpenSpec.upto solidExtentsSpec)) solidExtentsUptoCard

/-- THE SECOND FORM's CARD OF 'dowellaw11.SolidVolumes'. -/
def solidVolumesUptoCard : Claim7 := { stood := { row := solidVolumesUptoRow, standIns := [], harness := (true, "10bb324ee293b3b36d2ddd027ec3b0bea130319021d3e5a28c270bd09d56b5d9"), looks := true }, kinds := [], alts := [], laidByText := true, laidKinds := [.data, .data, .data, .data, .sentinel, .sentinel, .pinned], laidTests := true, laidLooks := .later }
def SolidVolumesUptoCardSaid : Prop := Claim7.holds Tryz.pinned (.plain (OpenSpec.upto solidVolumesSpec)) solidVolumesUptoCard

/-- THE SECOND FORM's CARD OF 'dowellaw11.SolidMoves'. -/
def solidMovesUptoCard : Claim7 := { stood := { row := solidMovesUptoRow, standIns := [], harness := (true, "10bb324ee293b3b36d2ddd027ec3b0bea130319021d3e5a28c270bd09d56b5d9"), looks := true }, kinds := [], alts := [], laidByText := true, laidKinds := [.data, .data, .data, .data, .sentinel, .sentinel, .pinned], laidTests := true, laidLooks := .later }
def SolidMovesUptoCardSaid : Prop := Claim7.holds Tryz.pinned (.plain (OpenSpec.upto solidMovesSpec)) solidMovesUptoCard
end Rows
end Go.Proofs.YtodehkjinmgflaaGreatDoor
