/-
  DERIVED. GIVEN WITH THE SEED: THE CARDS: each row of YtdhlkpfmlimjfaaGreatDoorRows.lean that lists a variable, with what it lists TIED to the program's text (the seventh form; the later family's looks); each row that meets fmt, with fmt's text TOLD by the authors' own Lean function (tested against real Go, not proved from fmt's source: count such statements apart). THE CARD IS WHAT COUNTS. Prove the row's statement (the work); the ties are given (YtdhlkpfmlimjfaaGreatDoorTie.lean); close each card by the builder's one call (the guide's Derived/Test/ToyasCard.lean, 'card_holds'). Laid BY PROGRAM, IN A SANDBOX (cutbox-door.mjs). By AI agents, Wed Nov 11 2026. No macro, syntax, notation, axiom, sorry.
-/
import Derived.Test.YtdhlkpfmlimjfaaGreatDoorRows
import GoSem.ClaimSeven
namespace Go.Proofs.YtdhlkpfmlimjfaaGreatDoor
namespace Rows

/-- THE TIED CARD OF 'bspregionlaw16.CellsLists'. -/
def cellsListsCard : Claim7 := { stood := { row := cellsListsRow, standIns := [], harness := (true, "094a7889159c536ef93e92bf3f1203102d406efd0c4635906fdd0f3a38757bd7"), looks := true }, kinds := [], alts := [], laidByText := true, laidKinds := [.sentinel, .sentinel], laidTests := true, laidLooks := .later }
def CellsListsCardSaid : Prop := Claim7.holds Tryz.pinned (.plain (OpenSpec.ofChange cellsListsSpec)) cellsListsCard

/-- THE TIED CARD OF 'bspregionlaw16.CellsFinds'. -/
def cellsFindsCard : Claim7 := { stood := { row := cellsFindsRow, standIns := [], harness := (true, "094a7889159c536ef93e92bf3f1203102d406efd0c4635906fdd0f3a38757bd7"), looks := true }, kinds := [], alts := [], laidByText := true, laidKinds := [.sentinel, .sentinel], laidTests := true, laidLooks := .later }
def CellsFindsCardSaid : Prop := Claim7.holds Tryz.pinned (.plain (OpenSpec.ofChange cellsFindsSpec)) cellsFindsCard

/-- THE TIED CARD OF 'bspregionlaw16.CellsRefuses'. -/
def cellsRefusesCard : Claim7 := { stood := { row := cellsRefusesRow, standIns := [], harness := (true, "094a7889159c536ef93e92bf3f1203102d406efd0c4635906fdd0f3a38757bd7"), looks := true }, kinds := [], alts := [], laidByText := true, laidKinds := [.sentinel, .sentinel], laidTests := true, laidLooks := .later }
def CellsRefusesCardSaid : Prop := Claim7.holds Tryz.pinned (.plain (OpenSpec.ofChange cellsRefusesSpec)) cellsRefusesCard

/-- THE TIED CARD OF 'bspregionlaw16.CellsNeighbors'. -/
def cellsNeighborsCard : Claim7 := { stood := { row := cellsNeighborsRow, standIns := [], harness := (true, "094a7889159c536ef93e92bf3f1203102d406efd0c4635906fdd0f3a38757bd7"), looks := true }, kinds := [], alts := [], laidByText := true, laidKinds := [.sentinel, .sentinel], laidTests := true, laidLooks := .later }
def CellsNeighborsCardSaid : Prop := Claim7.holds Tryz.pinned (.plain (OpenSpec.ofChange cellsNeighborsSpec)) cellsNeighborsCard

/-- THE TIED CARD OF 'bspregionlaw16.CellsConnected'. -/
def cellsConnectedCard : Claim7 := { stood := { row := cellsConnectedRow, standIns := [], harness := (true, "094a7889159c536ef93e92bf3f1203102d406efd0c4635906fdd0f3a38757bd7"), looks := true }, kinds := [], alts := [], laidByText := true, laidKinds := [.sentinel, .sentinel], laidTests := true, laidLooks := .later }
def CellsConnectedCardSaid : Prop := Claim7.holds Tryz.pinned (.plain (OpenSpec.ofChange cellsConnectedSpec)) cellsConnectedCard

/-- THE TIED CARD OF 'bspregionlaw16.CellsCover'. -/
def cellsCoverCard : Claim7 := { stood := { row := cellsCoverRow, standIns := [], harness := (true, "094a7889159c536ef93e92bf3f1203102d406efd0c4635906fdd0f3a38757bd7"), looks := true }, kinds := [], alts := [], laidByText := true, laidKinds := [.sentinel, .sentinel], laidTests := true, laidLooks := .later }
def CellsCoverCardSaid : Prop := Claim7.holds Tryz.pinned (.plain (OpenSpec.ofChange cellsCoverSpec)) cellsCoverCard

/-- THE SECOND FORM's CARD OF 'bspregionlaw16.CellsLists'. -/
def cellsListsUptoCard : Claim7 := { stood := { row := cellsListsUptoRow, standIns := [], harness := (true, "094a7889159c536ef93e92bf3f1203102d406efd0c4635906fdd0f3a38757bd7"), looks := true }, kinds := [], alts := [], laidByText := true, laidKinds := [.sentinel, .sentinel], laidTests := true, laidLooks := .later }
def CellsListsUptoCardSaid : Prop := Claim7.holds Tryz.pinned (.plain (OpenSpec.upto cellsListsSpec)) cellsListsUptoCard

/-- THE SECOND FORM's CARD OF 'bspregionlaw16.CellsFinds'. -/
def cellsFindsUptoCard : Claim7 := { stood := { row := cellsFindsUptoRow, standIns := [], harness := (true, "094a7889159c536ef93e92bf3f1203102d406efd0c4635906fdd0f3a38757bd7"), looks := true }, kinds := [], alts := [], laidByText := true, laidKinds := [.sentinel, .sentinel], laidTests := true, laidLooks := .later }
def CellsFindsUptoCardSaid : Prop := Claim7.holds Tryz.pinned (.plain (OpenSpec.upto cellsFindsSpec)) cellsFindsUptoCard

/-- THE SECOND FORM's CARD OF 'bspregionlaw16.CellsRefuses'. -/
def cellsRefusesUptoCard : Claim7 := { stood := { row := cellsRefusesUptoRow, standIns := [], harness := (true, "094a7889159c536ef93e92bf3f1203102d406efd0c4635906fdd0f3a38757bd7"), looks := true }, kinds := [], alts := [], laidByText := true, laidKinds := [.sentinel, .sentinel], laidTests := true, laidLooks := .later }
def CellsRefusesUptoCardSaid : Prop := Claim7.holds Tryz.pinned (.plain (OpenSpec.upto cellsRefusesSpec)) cellsRefusesUptoCard

/-- THE SECOND FORM's CARD OF 'bspregionlaw16.CellsNeighbors'. -/
def cellsNeighborsUptoCard : Claim7 := { stood := { row := cellsNeighborsUptoRow, standIns := [], harness := (true, "094a7889159c536ef93e92bf3f1203102d406efd0c4635906fdd0f3a38757bd7"), looks := true }, kinds := [], alts := [], laidByText := true, laidKinds := [.sentinel, .sentinel], laidTests := true, laidLooks := .later }
def CellsNeighborsUptoCardSaid : Prop := Claim7.holds Tryz.pinned (.plain (OpenSpec.upto cellsNeighborsSpec)) cellsNeighborsUptoCard

/-- THE SECOND FORM's CARD OF 'bspregionlaw16.CellsConnected'. -/
def cellsConnectedUptoCard : Claim7 := { stood := { row := cellsConnectedUptoRow, standIns := [], harness := (true, "094a7889159c536ef93e92bf3f1203102d406efd0c4635906fdd0f3a38757bd7"), looks := true }, kinds := [], alts := [], laidByText := true, laidKinds := [.sentinel, .sentinel], laidTests := true, laidLooks := .later }
def CellsConnectedUptoCardSaid : Prop := Claim7.holds Tryz.pinned (.plain (OpenSpec.upto cellsConnectedSpec)) cellsConnectedUptoCard

/-- THE SECOND FORM's CARD OF 'bspregionlaw16.CellsCover'. -/
def cellsCoverUptoCard : Claim7 := { stood := { row := cellsCoverUptoRow, standIns := [], harness := (true, "094a7889159c536ef93e92bf3f1203102d406efd0c4635906fdd0f3a38757bd7"), looks := true }, kinds := [], alts := [], laidByText := true, laidKinds := [.sentinel, .sentinel], laidTests := true, laidLooks := .later }
def CellsCoverUptoCardSaid : Prop := Claim7.holds Tryz.pinned (.plain (OpenSpec.upto cellsCoverSpec)) cellsCoverUptoCard
end Rows
end Go.Proofs.YtdhlkpfmlimjfaaGreatDoor
