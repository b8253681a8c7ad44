/-
  DERIVED. GIVEN WITH THE SEED: THE CARDS: each row of YtbdlbajodgoneaaGreatDoorRows.lean that lists a variable, with what it lists TIED to the program's text (the seventh form; the later family's looks); each row that meets fmt, with fmt's text TOLD by the authors' own Lean function (tested against real Go, not proved from fmt's source: count such statements apart). THE CARD IS WHAT COUNTS. Prove the row's statement (the work); the ties are given (YtbdlbajodgoneaaGreatDoorTie.lean); close each card by the builder's one call (the guide's Derived/Test/ToyasCard.lean, 'card_holds'). Laid BY PROGRAM, IN A SANDBOX (cutbox-door.mjs). By AI agents, Wed Nov 11 2026. No macro, syntax, notation, axiom, sorry.
-/
import Derived.Test.YtbdlbajodgoneaaGreatDoorRows
import GoSem.ClaimSeven
namespace Go.Proofs.YtbdlbajodgoneaaGreatDoor
namespace Rows

/-- THE TIED CARD OF 'bspregionlaw22.BoundarySides'. -/
def boundarySidesCard : Claim7 := { stood := { row := boundarySidesRow, standIns := [], harness := (true, "66f1460855c1843597f9a1cded66cd93d64cec0af9964a03a45efbee653d4726"), looks := false }, kinds := [], alts := [], laidByText := true, laidKinds := [.sentinel, .sentinel], laidTests := true, laidLooks := .later }
def BoundarySidesCardSaid : Prop := Claim7.holds Tryz.pinned (.plain (OpenSpec.ofChange boundarySidesSpec)) boundarySidesCard

/-- THE SECOND FORM's CARD OF 'bspregionlaw22.BoundarySides'. -/
def boundarySidesUptoCard : Claim7 := { stood := { row := boundarySidesUptoRow, standIns := [], harness := (true, "66f1460855c1843597f9a1cded66cd93d64cec0af9964a03a45efbee653d4726"), looks := false }, kinds := [], alts := [], laidByText := true, laidKinds := [.sentinel, .sentinel], laidTests := true, laidLooks := .later }
def BoundarySidesUptoCardSaid : Prop := Claim7.holds Tryz.pinned (.plain (OpenSpec.upto boundarySidesSpec)) boundarySidesUptoCard
end Rows
end Go.Proofs.YtbdlbajodgoneaaGreatDoor
