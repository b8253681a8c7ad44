/-
  DERIVED. GIVEN WITH THE SEED: THE CARDS: each row of YtmamnfmhdcahmaaGreatDoorRows.lean that lists a variable, with what it lists TIED to the program's text (the seventh form; the later family's looks); each row that meets fmt, with fmt's text TOLD by the authors' own Lean function (tested against real Go, not proved from fmt's source: count such statements apart). THE CARD IS WHAT COUNTS. Prove the row's statement (the work); the ties are given (YtmamnfmhdcahmaaGreatDoorTie.lean); close each card by the builder's one call (the guide's Derived/Test/ToyasCard.lean, 'card_holds'). Laid BY PROGRAM, IN A SANDBOX (cutbox-door.mjs). By AI agents, Wed Nov 11 2026. No macro, syntax, notation, axiom, sorry.
-/
import Derived.Test.YtmamnfmhdcahmaaGreatDoorRows
import GoSem.ClaimSeven
namespace Go.Proofs.YtmamnfmhdcahmaaGreatDoor
namespace Rows

/-- THE TIED CARD OF 'bspregionlaw22.BoundaryBalances'. -/
def boundaryBalancesCard : Claim7 := { stood := { row := boundaryBalancesRow, standIns := [], harness := (true, "07db9e5485be2811bbe399674f57c69c97c5c535d991366faadc730d16d2c934"), looks := false }, kinds := [], alts := [], laidByText := true, laidKinds := [.sentinel, .sentinel], laidTests := true, laidLooks := .later }
def BoundaryBalancesCardSaid : Prop := Claim7.holds Tryz.pinned (.plain (OpenSpec.ofChange boundaryBalancesSpec)) boundaryBalancesCard

/-- THE SECOND FORM's CARD OF 'bspregionlaw22.BoundaryBalances'. -/
def boundaryBalancesUptoCard : Claim7 := { stood := { row := boundaryBalancesUptoRow, standIns := [], harness := (true, "07db9e5485be2811bbe399674f57c69c97c5c535d991366faadc730d16d2c934"), looks := false }, kinds := [], alts := [], laidByText := true, laidKinds := [.sentinel, .sentinel], laidTests := true, laidLooks := .later }
def BoundaryBalancesUptoCardSaid : Prop := Claim7.holds Tryz.pinned (.plain (OpenSpec.upto boundaryBalancesSpec)) boundaryBalancesUptoCard
end Rows
end Go.Proofs.YtmamnfmhdcahmaaGreatDoor
