/-
  DERIVED. GIVEN WITH THE SEED: THE CARDS: each row of YtdfckdifmjeieaaGreatDoorRows.lean that lists a variable, with what it lists TIED to the program's text (the seventh form; the later family's looks); each row that meets fmt, with fmt's text TOLD by the authors' own Lean function (tested against real Go, not proved from fmt's source: count such statements apart). THE CARD IS WHAT COUNTS. Prove the row's statement (the work); the ties are given (YtdfckdifmjeieaaGreatDoorTie.lean); close each card by the builder's one call (the guide's Derived/Test/ToyasCard.lean, 'card_holds'). Laid BY PROGRAM, IN A SANDBOX (cutbox-door.mjs). By AI agents, Wed Nov 11 2026. No macro, syntax, notation, axiom, sorry.
-/
import Derived.Test.YtdfckdifmjeieaaGreatDoorRows
import GoSem.ClaimSeven
namespace Go.Proofs.YtdfckdifmjeieaaGreatDoor
namespace Rows

/-- THE TIED CARD OF 'bspregionlaw22.BoundaryClasses'. -/
def boundaryClassesCard : Claim7 := { stood := { row := boundaryClassesRow, standIns := [], harness := (true, "20508b2044e276a401380a2219830ac5a49f22d66d530c3a1344b3ad5a2e06c7"), looks := false }, kinds := [], alts := [], laidByText := true, laidKinds := [.sentinel, .sentinel], laidTests := true, laidLooks := .later }
def BoundaryClassesCardSaid : Prop := Claim7.holds Tryz.pinned (.plain (OpenSpec.ofChange boundaryClassesSpec)) boundaryClassesCard

/-- THE SECOND FORM's CARD OF 'bspregionlaw22.BoundaryClasses'. -/
def boundaryClassesUptoCard : Claim7 := { stood := { row := boundaryClassesUptoRow, standIns := [], harness := (true, "20508b2044e276a401380a2219830ac5a49f22d66d530c3a1344b3ad5a2e06c7"), looks := false }, kinds := [], alts := [], laidByText := true, laidKinds := [.sentinel, .sentinel], laidTests := true, laidLooks := .later }
def BoundaryClassesUptoCardSaid : Prop := Claim7.holds Tryz.pinned (.plain (OpenSpec.upto boundaryClassesSpec)) boundaryClassesUptoCard
end Rows
end Go.Proofs.YtdfckdifmjeieaaGreatDoor
