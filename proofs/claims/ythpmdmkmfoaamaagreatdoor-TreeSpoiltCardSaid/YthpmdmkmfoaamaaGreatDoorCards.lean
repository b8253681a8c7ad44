/-
  DERIVED. GIVEN WITH THE SEED: THE CARDS: each row of YthpmdmkmfoaamaaGreatDoorRows.lean that lists a variable, with what it lists TIED to the program's text (the seventh form; the later family's looks); each row that meets fmt, with fmt's text TOLD by the authors' own Lean function (tested against real Go, not proved from fmt's source: count such statements apart). THE CARD IS WHAT COUNTS. Prove the row's statement (the work); the ties are given (YthpmdmkmfoaamaaGreatDoorTie.lean); close each card by the builder's one call (the guide's Derived/Test/ToyasCard.lean, 'card_holds'). Laid BY PROGRAM, IN A SANDBOX (cutbox-door.mjs). By AI agents, Wed Nov 11 2026. No macro, syntax, notation, axiom, sorry.
-/
import Derived.Test.YthpmdmkmfoaamaaGreatDoorRows
import GoSem.ClaimSeven
namespace Go.Proofs.YthpmdmkmfoaamaaGreatDoor
namespace Rows

/-- THE TIED CARD OF 'bspregionlaw15.LocateClasses'. -/
def locateClassesCard : Claim7 := { stood := { row := locateClassesRow, standIns := [], harness := (true, "a914c1b87adea1f4af76f355aff3fe652f31e8782ee19c29a24cad24ec5a4197"), looks := true }, kinds := [], alts := [], laidByText := true, laidKinds := [.sentinel], laidTests := true, laidLooks := .later }
def LocateClassesCardSaid : Prop := Claim7.holds Tryz.pinned (.plain (OpenSpec.ofChange locateClassesSpec)) locateClassesCard

/-- THE TIED CARD OF 'bspregionlaw15.LocateNear'. -/
def locateNearCard : Claim7 := { stood := { row := locateNearRow, standIns := [], harness := (true, "a914c1b87adea1f4af76f355aff3fe652f31e8782ee19c29a24cad24ec5a4197"), looks := true }, kinds := [], alts := [], laidByText := true, laidKinds := [.sentinel], laidTests := true, laidLooks := .later }
def LocateNearCardSaid : Prop := Claim7.holds Tryz.pinned (.plain (OpenSpec.ofChange locateNearSpec)) locateNearCard

/-- THE TIED CARD OF 'bspregionlaw15.LocateIndependent'. -/
def locateIndependentCard : Claim7 := { stood := { row := locateIndependentRow, standIns := [], harness := (true, "a914c1b87adea1f4af76f355aff3fe652f31e8782ee19c29a24cad24ec5a4197"), looks := true }, kinds := [], alts := [], laidByText := true, laidKinds := [.sentinel], laidTests := true, laidLooks := .later }
def LocateIndependentCardSaid : Prop := Claim7.holds Tryz.pinned (.plain (OpenSpec.ofChange locateIndependentSpec)) locateIndependentCard

/-- THE TIED CARD OF 'bspregionlaw15.LocateAgrees'. -/
def locateAgreesCard : Claim7 := { stood := { row := locateAgreesRow, standIns := [], harness := (true, "a914c1b87adea1f4af76f355aff3fe652f31e8782ee19c29a24cad24ec5a4197"), looks := true }, kinds := [], alts := [], laidByText := true, laidKinds := [.sentinel], laidTests := true, laidLooks := .later }
def LocateAgreesCardSaid : Prop := Claim7.holds Tryz.pinned (.plain (OpenSpec.ofChange locateAgreesSpec)) locateAgreesCard

/-- THE TIED CARD OF 'bspregionlaw15.LocateRefuses'. -/
def locateRefusesCard : Claim7 := { stood := { row := locateRefusesRow, standIns := [], harness := (true, "a914c1b87adea1f4af76f355aff3fe652f31e8782ee19c29a24cad24ec5a4197"), looks := true }, kinds := [], alts := [], laidByText := true, laidKinds := [.sentinel], laidTests := true, laidLooks := .later }
def LocateRefusesCardSaid : Prop := Claim7.holds Tryz.pinned (.plain (OpenSpec.ofChange locateRefusesSpec)) locateRefusesCard

/-- THE TIED CARD OF 'bspregionlaw14.TreeValid'. -/
def treeValidCard : Claim7 := { stood := { row := treeValidRow, standIns := [], harness := (true, "a914c1b87adea1f4af76f355aff3fe652f31e8782ee19c29a24cad24ec5a4197"), looks := true }, kinds := [], alts := [], laidByText := true, laidKinds := [.sentinel, .sentinel], laidTests := true, laidLooks := .later }
def TreeValidCardSaid : Prop := Claim7.holds Tryz.pinned (.plain (OpenSpec.ofChange treeValidSpec)) treeValidCard

/-- THE TIED CARD OF 'bspregionlaw14.TreeSpoilt'. -/
def treeSpoiltCard : Claim7 := { stood := { row := treeSpoiltRow, standIns := [], harness := (true, "a914c1b87adea1f4af76f355aff3fe652f31e8782ee19c29a24cad24ec5a4197"), looks := true }, kinds := [], alts := [], laidByText := true, laidKinds := [.sentinel, .sentinel], laidTests := true, laidLooks := .later }
def TreeSpoiltCardSaid : Prop := Claim7.holds Tryz.pinned (.plain (OpenSpec.ofChange treeSpoiltSpec)) treeSpoiltCard

/-- THE SECOND FORM's CARD OF 'bspregionlaw15.LocateClasses'. -/
def locateClassesUptoCard : Claim7 := { stood := { row := locateClassesUptoRow, standIns := [], harness := (true, "a914c1b87adea1f4af76f355aff3fe652f31e8782ee19c29a24cad24ec5a4197"), looks := true }, kinds := [], alts := [], laidByText := true, laidKinds := [.sentinel], laidTests := true, laidLooks := .later }
def LocateClassesUptoCardSaid : Prop := Claim7.holds Tryz.pinned (.plain (OpenSpec.upto locateClassesSpec)) locateClassesUptoCard

/-- THE SECOND FORM's CARD OF 'bspregionlaw15.LocateNear'. -/
def locateNearUptoCard : Claim7 := { stood := { row := locateNearUptoRow, standIns := [], harness := (true, "a914c1b87adea1f4af76f355aff3fe652f31e8782ee19c29a24cad24ec5a4197"), looks := true }, kinds := [], alts := [], laidByText := true, laidKinds := [.sentinel], laidTests := true, laidLooks := .later }
def LocateNearUptoCardSaid : Prop := Claim7.holds Tryz.pinned (.plain (OpenSpec.upto locateNearSpec)) locateNearUptoCard

/-- THE SECOND FORM's CARD OF 'bspregionlaw15.LocateIndependent'. -/
def locateIndependentUptoCard : Claim7 := { stood := { row := locateIndependentUptoRow, standIns := [], harness := (true, "a914c1b87adea1f4af76f355aff3fe652f31e8782ee19c29a24cad24ec5a4197"), looks := true }, kinds := [], alts := [], laidByText := true, laidKinds := [.sentinel], laidTests := true, laidLooks := .later }
def LocateIndependentUptoCardSaid : Prop := Claim7.holds Tryz.pinned (.plain (OpenSpec.upto locateIndependentSpec)) locateIndependentUptoCard

/-- THE SECOND FORM's CARD OF 'bspregionlaw15.LocateAgrees'. -/
def locateAgreesUptoCard : Claim7 := { stood := { row := locateAgreesUptoRow, standIns := [], harness := (true, "a914c1b87adea1f4af76f355aff3fe652f31e8782ee19c29a24cad24ec5a4197"), looks := true }, kinds := [], alts := [], laidByText := true, laidKinds := [.sentinel], laidTests := true, laidLooks := .later }
def LocateAgreesUptoCardSaid : Prop := Claim7.holds Tryz.pinned (.plain (OpenSpec.upto locateAgreesSpec)) locateAgreesUptoCard

/-- THE SECOND FORM's CARD OF 'bspregionlaw15.LocateRefuses'. -/
def locateRefusesUptoCard : Claim7 := { stood := { row := locateRefusesUptoRow, standIns := [], harness := (true, "a914c1b87adea1f4af76f355aff3fe652f31e8782ee19c29a24cad24ec5a4197"), looks := true }, kinds := [], alts := [], laidByText := true, laidKinds := [.sentinel], laidTests := true, laidLooks := .later }
def LocateRefusesUptoCardSaid : Prop := Claim7.holds Tryz.pinned (.plain (OpenSpec.upto locateRefusesSpec)) locateRefusesUptoCard

/-- THE SECOND FORM's CARD OF 'bspregionlaw14.TreeValid'. -/
def treeValidUptoCard : Claim7 := { stood := { row := treeValidUptoRow, standIns := [], harness := (true, "a914c1b87adea1f4af76f355aff3fe652f31e8782ee19c29a24cad24ec5a4197"), looks := true }, kinds := [], alts := [], laidByText := true, laidKinds := [.sentinel, .sentinel], laidTests := true, laidLooks := .later }
def TreeValidUptoCardSaid : Prop := Claim7.holds Tryz.pinned (.plain (OpenSpec.upto treeValidSpec)) treeValidUptoCard

/-- THE SECOND FORM's CARD OF 'bspregionlaw14.TreeSpoilt'. -/
def treeSpoiltUptoCard : Claim7 := { stood := { row := treeSpoiltUptoRow, standIns := [], harness := (true, "a914c1b87adea1f4af76f355aff3fe652f31e8782ee19c29a24cad24ec5a4197"), looks := true }, kinds := [], alts := [], laidByText := true, laidKinds := [.sentinel, .sentinel], laidTests := true, laidLooks := .later }
def TreeSpoiltUptoCardSaid : Prop := Claim7.holds Tryz.pinned (.plain (OpenSpec.upto treeSpoiltSpec)) treeSpoiltUptoCard
end Rows
end Go.Proofs.YthpmdmkmfoaamaaGreatDoor
