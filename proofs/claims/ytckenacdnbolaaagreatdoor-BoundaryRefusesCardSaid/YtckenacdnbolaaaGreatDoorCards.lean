/-
  DERIVED. GIVEN WITH THE SEED: THE CARDS: each row of YtckenacdnbolaaaGreatDoorRows.lean that lists a variable, with what it lists TIED to the program's text (the seventh form; the later family's looks); each row that meets fmt, with fmt's text TOLD by the authors' own Lean function (tested against real Go, not proved from fmt's source: count such statements apart). THE CARD IS WHAT COUNTS. Prove the row's statement (the work); the ties are given (YtckenacdnbolaaaGreatDoorTie.lean); close each card by the builder's one call (the guide's Derived/Test/ToyasCard.lean, 'card_holds'). Laid BY PROGRAM, IN A SANDBOX (cutbox-door.mjs). By AI agents, Wed Nov 11 2026. No macro, syntax, notation, axiom, sorry.
-/
import Derived.Test.YtckenacdnbolaaaGreatDoorRows
import GoSem.ClaimSeven
namespace Go.Proofs.YtckenacdnbolaaaGreatDoor
namespace Rows

/-- THE TIED CARD OF 'bspregionlaw22.BoundaryLines'. -/
def boundaryLinesCard : Claim7 := { stood := { row := boundaryLinesRow, standIns := [], harness := (true, "499e75bb0e94eff782cf17a83f7f362fffe4550d6bea31f8c2e44acef38f5241"), looks := true }, kinds := [], alts := [], laidByText := true, laidKinds := [.sentinel, .sentinel], laidTests := true, laidLooks := .later }
def BoundaryLinesCardSaid : Prop := Claim7.holds Tryz.pinned (.plain (OpenSpec.ofChange boundaryLinesSpec)) boundaryLinesCard

/-- THE TIED CARD OF 'bspregionlaw22.BoundaryRefuses'. -/
def boundaryRefusesCard : Claim7 := { stood := { row := boundaryRefusesRow, standIns := [], harness := (true, "499e75bb0e94eff782cf17a83f7f362fffe4550d6bea31f8c2e44acef38f5241"), looks := true }, kinds := [], alts := [], laidByText := true, laidKinds := [.sentinel, .sentinel], laidTests := true, laidLooks := .later }
def BoundaryRefusesCardSaid : Prop := Claim7.holds Tryz.pinned (.plain (OpenSpec.ofChange boundaryRefusesSpec)) boundaryRefusesCard

/-- THE SECOND FORM's CARD OF 'bspregionlaw22.BoundaryLines'. -/
def boundaryLinesUptoCard : Claim7 := { stood := { row := boundaryLinesUptoRow, standIns := [], harness := (true, "499e75bb0e94eff782cf17a83f7f362fffe4550d6bea31f8c2e44acef38f5241"), looks := true }, kinds := [], alts := [], laidByText := true, laidKinds := [.sentinel, .sentinel], laidTests := true, laidLooks := .later }
def BoundaryLinesUptoCardSaid : Prop := Claim7.holds Tryz.pinned (.plain (OpenSpec.upto boundaryLinesSpec)) boundaryLinesUptoCard

/-- THE SECOND FORM's CARD OF 'bspregionlaw22.BoundaryRefuses'. -/
def boundaryRefusesUptoCard : Claim7 := { stood := { row := boundaryRefusesUptoRow, standIns := [], harness := (true, "499e75bb0e94eff782cf17a83f7f362fffe4550d6bea31f8c2e44acef38f5241"), looks := true }, kinds := [], alts := [], laidByText := true, laidKinds := [.sentinel, .sentinel], laidTests := true, laidLooks := .later }
def BoundaryRefusesUptoCardSaid : Prop := Claim7.holds Tryz.pinned (.plain (OpenSpec.upto boundaryRefusesSpec)) boundaryRefusesUptoCard
end Rows
end Go.Proofs.YtckenacdnbolaaaGreatDoor
