/-
  DERIVED. GIVEN WITH THE SEED: THE CARDS: each row of YtlhmddanbgcbjaaGreatDoorRows.lean that lists a variable, with what it lists TIED to the program's text (the seventh form; the later family's looks); each row that meets fmt, with fmt's text TOLD by the authors' own Lean function (tested against real Go, not proved from fmt's source: count such statements apart). THE CARD IS WHAT COUNTS. Prove the row's statement (the work); the ties are given (YtlhmddanbgcbjaaGreatDoorTie.lean); close each card by the builder's one call (the guide's Derived/Test/ToyasCard.lean, 'card_holds'). Laid BY PROGRAM, IN A SANDBOX (cutbox-door.mjs). By AI agents, Wed Nov 11 2026. No macro, syntax, notation, axiom, sorry.
-/
import Derived.Test.YtlhmddanbgcbjaaGreatDoorRows
import GoSem.ClaimSeven
namespace Go.Proofs.YtlhmddanbgcbjaaGreatDoor
namespace Rows

/-- THE TIED CARD OF 'bspregionlaw22.BoundaryLines'. -/
def boundaryLinesCard : Claim7 := { stood := { row := boundaryLinesRow, standIns := [], harness := (true, "cf8eb3ae6d4601e95abec9baae0aac03549d482bbb22770717bf38f062d49656"), looks := false }, kinds := [], alts := [], laidByText := true, laidKinds := [.sentinel, .sentinel], laidTests := true, laidLooks := .later }
def BoundaryLinesCardSaid : Prop := Claim7.holds Tryz.pinned (.plain (OpenSpec.ofChange boundaryLinesSpec)) boundaryLinesCard

/-- THE TIED CARD OF 'bspregionlaw22.BoundaryForms'. -/
def boundaryFormsCard : Claim7 := { stood := { row := boundaryFormsRow, standIns := [], harness := (true, "cf8eb3ae6d4601e95abec9baae0aac03549d482bbb22770717bf38f062d49656"), looks := false }, kinds := [], alts := [], laidByText := true, laidKinds := [.sentinel, .sentinel], laidTests := true, laidLooks := .later }
def BoundaryFormsCardSaid : Prop := Claim7.holds Tryz.pinned (.plain (OpenSpec.ofChange boundaryFormsSpec)) boundaryFormsCard

/-- THE SECOND FORM's CARD OF 'bspregionlaw22.BoundaryLines'. -/
def boundaryLinesUptoCard : Claim7 := { stood := { row := boundaryLinesUptoRow, standIns := [], harness := (true, "cf8eb3ae6d4601e95abec9baae0aac03549d482bbb22770717bf38f062d49656"), looks := false }, kinds := [], alts := [], laidByText := true, laidKinds := [.sentinel, .sentinel], laidTests := true, laidLooks := .later }
def BoundaryLinesUptoCardSaid : Prop := Claim7.holds Tryz.pinned (.plain (OpenSpec.upto boundaryLinesSpec)) boundaryLinesUptoCard

/-- THE SECOND FORM's CARD OF 'bspregionlaw22.BoundaryForms'. -/
def boundaryFormsUptoCard : Claim7 := { stood := { row := boundaryFormsUptoRow, standIns := [], harness := (true, "cf8eb3ae6d4601e95abec9baae0aac03549d482bbb22770717bf38f062d49656"), looks := false }, kinds := [], alts := [], laidByText := true, laidKinds := [.sentinel, .sentinel], laidTests := true, laidLooks := .later }
def BoundaryFormsUptoCardSaid : Prop := Claim7.holds Tryz.pinned (.plain (OpenSpec.upto boundaryFormsSpec)) boundaryFormsUptoCard
end Rows
end Go.Proofs.YtlhmddanbgcbjaaGreatDoor
