/-
  DERIVED. GIVEN WITH THE SEED: THE CARDS: each row of YtimkdinmcbepnaaGreatDoorRows.lean that lists a variable, with what it lists TIED to the program's text (the seventh form; the later family's looks); each row that meets fmt, with fmt's text TOLD by the authors' own Lean function (tested against real Go, not proved from fmt's source: count such statements apart). THE CARD IS WHAT COUNTS. Prove the row's statement (the work); the ties are given (YtimkdinmcbepnaaGreatDoorTie.lean); close each card by the builder's one call (the guide's Derived/Test/ToyasCard.lean, 'card_holds'). Laid BY PROGRAM, IN A SANDBOX (cutbox-door.mjs). By AI agents, Wed Nov 11 2026. No macro, syntax, notation, axiom, sorry.
-/
import Derived.Test.YtimkdinmcbepnaaGreatDoorRows
import GoSem.ClaimSeven
namespace Go.Proofs.YtimkdinmcbepnaaGreatDoor
namespace Rows

/-- THE TIED CARD OF 'bspregionlaw06.SpanAlgebra'. -/
def spanAlgebraCard : Claim7 := { stood := { row := spanAlgebraRow, standIns := [], harness := (true, "0f229cb3bad3f2fd3dce253912d9746d118bcb6feec0b948b3d7f8d62f51c7ae"), looks := true }, kinds := [], alts := [], laidByText := true, laidKinds := [.sentinel], laidTests := true, laidLooks := .later }
def SpanAlgebraCardSaid : Prop := Claim7.holds Tryz.pinned (.plain (OpenSpec.ofChange spanAlgebraSpec)) spanAlgebraCard

/-- THE TIED CARD OF 'bspregionlaw06.SpanAdds'. -/
def spanAddsCard : Claim7 := { stood := { row := spanAddsRow, standIns := [], harness := (true, "0f229cb3bad3f2fd3dce253912d9746d118bcb6feec0b948b3d7f8d62f51c7ae"), looks := true }, kinds := [], alts := [], laidByText := true, laidKinds := [.sentinel, .sentinel], laidTests := true, laidLooks := .later }
def SpanAddsCardSaid : Prop := Claim7.holds Tryz.pinned (.plain (OpenSpec.ofChange spanAddsSpec)) spanAddsCard

/-- THE TIED CARD OF 'bspregionlaw06.SpanCombines'. -/
def spanCombinesCard : Claim7 := { stood := { row := spanCombinesRow, standIns := [], harness := (true, "0f229cb3bad3f2fd3dce253912d9746d118bcb6feec0b948b3d7f8d62f51c7ae"), looks := true }, kinds := [], alts := [], laidByText := true, laidKinds := [.sentinel], laidTests := true, laidLooks := .later }
def SpanCombinesCardSaid : Prop := Claim7.holds Tryz.pinned (.plain (OpenSpec.ofChange spanCombinesSpec)) spanCombinesCard

/-- THE TIED CARD OF 'bspregionlaw06.SpanPoints'. -/
def spanPointsCard : Claim7 := { stood := { row := spanPointsRow, standIns := [], harness := (true, "0f229cb3bad3f2fd3dce253912d9746d118bcb6feec0b948b3d7f8d62f51c7ae"), looks := true }, kinds := [], alts := [], laidByText := true, laidKinds := [.sentinel], laidTests := true, laidLooks := .later }
def SpanPointsCardSaid : Prop := Claim7.holds Tryz.pinned (.plain (OpenSpec.ofChange spanPointsSpec)) spanPointsCard

/-- THE TIED CARD OF 'bspregionlaw06.SpanMeasures'. -/
def spanMeasuresCard : Claim7 := { stood := { row := spanMeasuresRow, standIns := [], harness := (true, "0f229cb3bad3f2fd3dce253912d9746d118bcb6feec0b948b3d7f8d62f51c7ae"), looks := true }, kinds := [], alts := [], laidByText := true, laidKinds := [.sentinel, .sentinel], laidTests := true, laidLooks := .later }
def SpanMeasuresCardSaid : Prop := Claim7.holds Tryz.pinned (.plain (OpenSpec.ofChange spanMeasuresSpec)) spanMeasuresCard

/-- THE TIED CARD OF 'bspregionlaw06.SpanValid'. -/
def spanValidCard : Claim7 := { stood := { row := spanValidRow, standIns := [], harness := (true, "0f229cb3bad3f2fd3dce253912d9746d118bcb6feec0b948b3d7f8d62f51c7ae"), looks := true }, kinds := [], alts := [], laidByText := true, laidKinds := [.sentinel], laidTests := true, laidLooks := .later }
def SpanValidCardSaid : Prop := Claim7.holds Tryz.pinned (.plain (OpenSpec.ofChange spanValidSpec)) spanValidCard

/-- THE TIED CARD OF 'bspregionlaw14.TreeCounts'. -/
def treeCountsCard : Claim7 := { stood := { row := treeCountsRow, standIns := [], harness := (true, "0f229cb3bad3f2fd3dce253912d9746d118bcb6feec0b948b3d7f8d62f51c7ae"), looks := true }, kinds := [], alts := [], laidByText := true, laidKinds := [.sentinel, .sentinel], laidTests := true, laidLooks := .later }
def TreeCountsCardSaid : Prop := Claim7.holds Tryz.pinned (.plain (OpenSpec.ofChange treeCountsSpec)) treeCountsCard

/-- THE SECOND FORM's CARD OF 'bspregionlaw06.SpanAlgebra'. -/
def spanAlgebraUptoCard : Claim7 := { stood := { row := spanAlgebraUptoRow, standIns := [], harness := (true, "0f229cb3bad3f2fd3dce253912d9746d118bcb6feec0b948b3d7f8d62f51c7ae"), looks := true }, kinds := [], alts := [], laidByText := true, laidKinds := [.sentinel], laidTests := true, laidLooks := .later }
def SpanAlgebraUptoCardSaid : Prop := Claim7.holds Tryz.pinned (.plain (OpenSpec.upto spanAlgebraSpec)) spanAlgebraUptoCard

/-- THE SECOND FORM's CARD OF 'bspregionlaw06.SpanAdds'. -/
def spanAddsUptoCard : Claim7 := { stood := { row := spanAddsUptoRow, standIns := [], harness := (true, "0f229cb3bad3f2fd3dce253912d9746d118bcb6feec0b948b3d7f8d62f51c7ae"), looks := true }, kinds := [], alts := [], laidByText := true, laidKinds := [.sentinel, .sentinel], laidTests := true, laidLooks := .later }
def SpanAddsUptoCardSaid : Prop := Claim7.holds Tryz.pinned (.plain (OpenSpec.upto spanAddsSpec)) spanAddsUptoCard

/-- THE SECOND FORM's CARD OF 'bspregionlaw06.SpanCombines'. -/
def spanCombinesUptoCard : Claim7 := { stood := { row := spanCombinesUptoRow, standIns := [], harness := (true, "0f229cb3bad3f2fd3dce253912d9746d118bcb6feec0b948b3d7f8d62f51c7ae"), looks := true }, kinds := [], alts := [], laidByText := true, laidKinds := [.sentinel], laidTests := true, laidLooks := .later }
def SpanCombinesUptoCardSaid : Prop := Claim7.holds Tryz.pinned (.plain (OpenSpec.upto spanCombinesSpec)) spanCombinesUptoCard

/-- THE SECOND FORM's CARD OF 'bspregionlaw06.SpanPoints'. -/
def spanPointsUptoCard : Claim7 := { stood := { row := spanPointsUptoRow, standIns := [], harness := (true, "0f229cb3bad3f2fd3dce253912d9746d118bcb6feec0b948b3d7f8d62f51c7ae"), looks := true }, kinds := [], alts := [], laidByText := true, laidKinds := [.sentinel], laidTests := true, laidLooks := .later }
def SpanPointsUptoCardSaid : Prop := Claim7.holds Tryz.pinned (.plain (OpenSpec.upto spanPointsSpec)) spanPointsUptoCard

/-- THE SECOND FORM's CARD OF 'bspregionlaw06.SpanMeasures'. -/
def spanMeasuresUptoCard : Claim7 := { stood := { row := spanMeasuresUptoRow, standIns := [], harness := (true, "0f229cb3bad3f2fd3dce253912d9746d118bcb6feec0b948b3d7f8d62f51c7ae"), looks := true }, kinds := [], alts := [], laidByText := true, laidKinds := [.sentinel, .sentinel], laidTests := true, laidLooks := .later }
def SpanMeasuresUptoCardSaid : Prop := Claim7.holds Tryz.pinned (.plain (OpenSpec.upto spanMeasuresSpec)) spanMeasuresUptoCard

/-- THE SECOND FORM's CARD OF 'bspregionlaw06.SpanValid'. -/
def spanValidUptoCard : Claim7 := { stood := { row := spanValidUptoRow, standIns := [], harness := (true, "0f229cb3bad3f2fd3dce253912d9746d118bcb6feec0b948b3d7f8d62f51c7ae"), looks := true }, kinds := [], alts := [], laidByText := true, laidKinds := [.sentinel], laidTests := true, laidLooks := .later }
def SpanValidUptoCardSaid : Prop := Claim7.holds Tryz.pinned (.plain (OpenSpec.upto spanValidSpec)) spanValidUptoCard

/-- THE SECOND FORM's CARD OF 'bspregionlaw14.TreeCounts'. -/
def treeCountsUptoCard : Claim7 := { stood := { row := treeCountsUptoRow, standIns := [], harness := (true, "0f229cb3bad3f2fd3dce253912d9746d118bcb6feec0b948b3d7f8d62f51c7ae"), looks := true }, kinds := [], alts := [], laidByText := true, laidKinds := [.sentinel, .sentinel], laidTests := true, laidLooks := .later }
def TreeCountsUptoCardSaid : Prop := Claim7.holds Tryz.pinned (.plain (OpenSpec.upto treeCountsSpec)) treeCountsUptoCard
end Rows
end Go.Proofs.YtimkdinmcbepnaaGreatDoor
