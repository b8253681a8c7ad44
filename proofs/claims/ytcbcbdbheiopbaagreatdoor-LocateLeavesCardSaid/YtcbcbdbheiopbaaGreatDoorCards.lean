/-
  DERIVED. GIVEN WITH THE SEED: THE CARDS: each row of YtcbcbdbheiopbaaGreatDoorRows.lean that lists a variable, with what it lists TIED to the program's text (the seventh form; the later family's looks); each row that meets fmt, with fmt's text TOLD by the authors' own Lean function (tested against real Go, not proved from fmt's source: count such statements apart). THE CARD IS WHAT COUNTS. Prove the row's statement (the work); the ties are given (YtcbcbdbheiopbaaGreatDoorTie.lean); close each card by the builder's one call (the guide's Derived/Test/ToyasCard.lean, 'card_holds'). Laid BY PROGRAM, IN A SANDBOX (cutbox-door.mjs). By AI agents, Wed Nov 11 2026. No macro, syntax, notation, axiom, sorry.
-/
import Derived.Test.YtcbcbdbheiopbaaGreatDoorRows
import GoSem.ClaimSeven
namespace Go.Proofs.YtcbcbdbheiopbaaGreatDoor
namespace Rows

/-- THE TIED CARD OF 'bspregionlaw15.LocateClasses'. -/
def locateClassesCard : Claim7 := { stood := { row := locateClassesRow, standIns := [], harness := (true, "a3d81f109e2c4826ce9600c4edd4510352075174eafb723e62f00472132d5c52"), looks := true }, kinds := [], alts := [], laidByText := true, laidKinds := [.sentinel], laidTests := true, laidLooks := .later }
def LocateClassesCardSaid : Prop := Claim7.holds Tryz.pinned (.plain (OpenSpec.ofChange locateClassesSpec)) locateClassesCard

/-- THE TIED CARD OF 'bspregionlaw15.LocateLeaves'. -/
def locateLeavesCard : Claim7 := { stood := { row := locateLeavesRow, standIns := [], harness := (true, "a3d81f109e2c4826ce9600c4edd4510352075174eafb723e62f00472132d5c52"), looks := true }, kinds := [], alts := [], laidByText := true, laidKinds := [.sentinel], laidTests := true, laidLooks := .later }
def LocateLeavesCardSaid : Prop := Claim7.holds Tryz.pinned (.plain (OpenSpec.ofChange locateLeavesSpec)) locateLeavesCard

/-- THE TIED CARD OF 'bspregionlaw15.LocateAgrees'. -/
def locateAgreesCard : Claim7 := { stood := { row := locateAgreesRow, standIns := [], harness := (true, "a3d81f109e2c4826ce9600c4edd4510352075174eafb723e62f00472132d5c52"), looks := true }, kinds := [], alts := [], laidByText := true, laidKinds := [.sentinel], laidTests := true, laidLooks := .later }
def LocateAgreesCardSaid : Prop := Claim7.holds Tryz.pinned (.plain (OpenSpec.ofChange locateAgreesSpec)) locateAgreesCard

/-- THE TIED CARD OF 'bspregionlaw15.LocateNear'. -/
def locateNearCard : Claim7 := { stood := { row := locateNearRow, standIns := [], harness := (true, "a3d81f109e2c4826ce9600c4edd4510352075174eafb723e62f00472132d5c52"), looks := true }, kinds := [], alts := [], laidByText := true, laidKinds := [.sentinel], laidTests := true, laidLooks := .later }
def LocateNearCardSaid : Prop := Claim7.holds Tryz.pinned (.plain (OpenSpec.ofChange locateNearSpec)) locateNearCard

/-- THE TIED CARD OF 'bspregionlaw15.LocateIndependent'. -/
def locateIndependentCard : Claim7 := { stood := { row := locateIndependentRow, standIns := [], harness := (true, "a3d81f109e2c4826ce9600c4edd4510352075174eafb723e62f00472132d5c52"), looks := true }, kinds := [], alts := [], laidByText := true, laidKinds := [.sentinel], laidTests := true, laidLooks := .later }
def LocateIndependentCardSaid : Prop := Claim7.holds Tryz.pinned (.plain (OpenSpec.ofChange locateIndependentSpec)) locateIndependentCard

/-- THE TIED CARD OF 'bspregionlaw15.LocateRefuses'. -/
def locateRefusesCard : Claim7 := { stood := { row := locateRefusesRow, standIns := [], harness := (true, "a3d81f109e2c4826ce9600c4edd4510352075174eafb723e62f00472132d5c52"), looks := true }, kinds := [], alts := [], laidByText := true, laidKinds := [.sentinel], laidTests := true, laidLooks := .later }
def LocateRefusesCardSaid : Prop := Claim7.holds Tryz.pinned (.plain (OpenSpec.ofChange locateRefusesSpec)) locateRefusesCard

/-- THE TIED CARD OF 'bspregionlaw14.TreeValid'. -/
def treeValidCard : Claim7 := { stood := { row := treeValidRow, standIns := [], harness := (true, "a3d81f109e2c4826ce9600c4edd4510352075174eafb723e62f00472132d5c52"), looks := true }, kinds := [], alts := [], laidByText := true, laidKinds := [.sentinel, .sentinel], laidTests := true, laidLooks := .later }
def TreeValidCardSaid : Prop := Claim7.holds Tryz.pinned (.plain (OpenSpec.ofChange treeValidSpec)) treeValidCard

/-- THE TIED CARD OF 'bspregionlaw14.TreeSpoilt'. -/
def treeSpoiltCard : Claim7 := { stood := { row := treeSpoiltRow, standIns := [], harness := (true, "a3d81f109e2c4826ce9600c4edd4510352075174eafb723e62f00472132d5c52"), looks := true }, kinds := [], alts := [], laidByText := true, laidKinds := [.sentinel, .sentinel], laidTests := true, laidLooks := .later }
def TreeSpoiltCardSaid : Prop := Claim7.holds Tryz.pinned (.plain (OpenSpec.ofChange treeSpoiltSpec)) treeSpoiltCard

/-- THE TIED CARD OF 'bspregionlaw07.FragmentSplits'. -/
def fragmentSplitsCard : Claim7 := { stood := { row := fragmentSplitsRow, standIns := [], harness := (true, "a3d81f109e2c4826ce9600c4edd4510352075174eafb723e62f00472132d5c52"), looks := true }, kinds := [], alts := [], laidByText := true, laidKinds := [.sentinel], laidTests := true, laidLooks := .later }
def FragmentSplitsCardSaid : Prop := Claim7.holds Tryz.pinned (.plain (OpenSpec.ofChange fragmentSplitsSpec)) fragmentSplitsCard

/-- THE TIED CARD OF 'bspregionlaw07.FragmentJoins'. -/
def fragmentJoinsCard : Claim7 := { stood := { row := fragmentJoinsRow, standIns := [], harness := (true, "a3d81f109e2c4826ce9600c4edd4510352075174eafb723e62f00472132d5c52"), looks := true }, kinds := [], alts := [], laidByText := true, laidKinds := [.sentinel], laidTests := true, laidLooks := .later }
def FragmentJoinsCardSaid : Prop := Claim7.holds Tryz.pinned (.plain (OpenSpec.ofChange fragmentJoinsSpec)) fragmentJoinsCard

/-- THE TIED CARD OF 'bspregionlaw07.FragmentPoints'. -/
def fragmentPointsCard : Claim7 := { stood := { row := fragmentPointsRow, standIns := [], harness := (true, "a3d81f109e2c4826ce9600c4edd4510352075174eafb723e62f00472132d5c52"), looks := true }, kinds := [], alts := [], laidByText := true, laidKinds := [.sentinel], laidTests := true, laidLooks := .later }
def FragmentPointsCardSaid : Prop := Claim7.holds Tryz.pinned (.plain (OpenSpec.ofChange fragmentPointsSpec)) fragmentPointsCard

/-- THE TIED CARD OF 'bspregionlaw07.FragmentParts'. -/
def fragmentPartsCard : Claim7 := { stood := { row := fragmentPartsRow, standIns := [], harness := (true, "a3d81f109e2c4826ce9600c4edd4510352075174eafb723e62f00472132d5c52"), looks := true }, kinds := [], alts := [], laidByText := true, laidKinds := [.sentinel], laidTests := true, laidLooks := .later }
def FragmentPartsCardSaid : Prop := Claim7.holds Tryz.pinned (.plain (OpenSpec.ofChange fragmentPartsSpec)) fragmentPartsCard

/-- THE SECOND FORM's CARD OF 'bspregionlaw15.LocateClasses'. -/
def locateClassesUptoCard : Claim7 := { stood := { row := locateClassesUptoRow, standIns := [], harness := (true, "a3d81f109e2c4826ce9600c4edd4510352075174eafb723e62f00472132d5c52"), looks := true }, kinds := [], alts := [], laidByText := true, laidKinds := [.sentinel], laidTests := true, laidLooks := .later }
def LocateClassesUptoCardSaid : Prop := Claim7.holds Tryz.pinned (.plain (OpenSpec.upto locateClassesSpec)) locateClassesUptoCard

/-- THE SECOND FORM's CARD OF 'bspregionlaw15.LocateLeaves'. -/
def locateLeavesUptoCard : Claim7 := { stood := { row := locateLeavesUptoRow, standIns := [], harness := (true, "a3d81f109e2c4826ce9600c4edd4510352075174eafb723e62f00472132d5c52"), looks := true }, kinds := [], alts := [], laidByText := true, laidKinds := [.sentinel], laidTests := true, laidLooks := .later }
def LocateLeavesUptoCardSaid : Prop := Claim7.holds Tryz.pinned (.plain (OpenSpec.upto locateLeavesSpec)) locateLeavesUptoCard

/-- THE SECOND FORM's CARD OF 'bspregionlaw15.LocateAgrees'. -/
def locateAgreesUptoCard : Claim7 := { stood := { row := locateAgreesUptoRow, standIns := [], harness := (true, "a3d81f109e2c4826ce9600c4edd4510352075174eafb723e62f00472132d5c52"), looks := true }, kinds := [], alts := [], laidByText := true, laidKinds := [.sentinel], laidTests := true, laidLooks := .later }
def LocateAgreesUptoCardSaid : Prop := Claim7.holds Tryz.pinned (.plain (OpenSpec.upto locateAgreesSpec)) locateAgreesUptoCard

/-- THE SECOND FORM's CARD OF 'bspregionlaw15.LocateNear'. -/
def locateNearUptoCard : Claim7 := { stood := { row := locateNearUptoRow, standIns := [], harness := (true, "a3d81f109e2c4826ce9600c4edd4510352075174eafb723e62f00472132d5c52"), looks := true }, kinds := [], alts := [], laidByText := true, laidKinds := [.sentinel], laidTests := true, laidLooks := .later }
def LocateNearUptoCardSaid : Prop := Claim7.holds Tryz.pinned (.plain (OpenSpec.upto locateNearSpec)) locateNearUptoCard

/-- THE SECOND FORM's CARD OF 'bspregionlaw15.LocateIndependent'. -/
def locateIndependentUptoCard : Claim7 := { stood := { row := locateIndependentUptoRow, standIns := [], harness := (true, "a3d81f109e2c4826ce9600c4edd4510352075174eafb723e62f00472132d5c52"), looks := true }, kinds := [], alts := [], laidByText := true, laidKinds := [.sentinel], laidTests := true, laidLooks := .later }
def LocateIndependentUptoCardSaid : Prop := Claim7.holds Tryz.pinned (.plain (OpenSpec.upto locateIndependentSpec)) locateIndependentUptoCard

/-- THE SECOND FORM's CARD OF 'bspregionlaw15.LocateRefuses'. -/
def locateRefusesUptoCard : Claim7 := { stood := { row := locateRefusesUptoRow, standIns := [], harness := (true, "a3d81f109e2c4826ce9600c4edd4510352075174eafb723e62f00472132d5c52"), looks := true }, kinds := [], alts := [], laidByText := true, laidKinds := [.sentinel], laidTests := true, laidLooks := .later }
def LocateRefusesUptoCardSaid : Prop := Claim7.holds Tryz.pinned (.plain (OpenSpec.upto locateRefusesSpec)) locateRefusesUptoCard

/-- THE SECOND FORM's CARD OF 'bspregionlaw14.TreeValid'. -/
def treeValidUptoCard : Claim7 := { stood := { row := treeValidUptoRow, standIns := [], harness := (true, "a3d81f109e2c4826ce9600c4edd4510352075174eafb723e62f00472132d5c52"), looks := true }, kinds := [], alts := [], laidByText := true, laidKinds := [.sentinel, .sentinel], laidTests := true, laidLooks := .later }
def TreeValidUptoCardSaid : Prop := Claim7.holds Tryz.pinned (.plain (OpenSpec.upto treeValidSpec)) treeValidUptoCard

/-- THE SECOND FORM's CARD OF 'bspregionlaw14.TreeSpoilt'. -/
def treeSpoiltUptoCard : Claim7 := { stood := { row := treeSpoiltUptoRow, standIns := [], harness := (true, "a3d81f109e2c4826ce9600c4edd4510352075174eafb723e62f00472132d5c52"), looks := true }, kinds := [], alts := [], laidByText := true, laidKinds := [.sentinel, .sentinel], laidTests := true, laidLooks := .later }
def TreeSpoiltUptoCardSaid : Prop := Claim7.holds Tryz.pinned (.plain (OpenSpec.upto treeSpoiltSpec)) treeSpoiltUptoCard

/-- THE SECOND FORM's CARD OF 'bspregionlaw07.FragmentSplits'. -/
def fragmentSplitsUptoCard : Claim7 := { stood := { row := fragmentSplitsUptoRow, standIns := [], harness := (true, "a3d81f109e2c4826ce9600c4edd4510352075174eafb723e62f00472132d5c52"), looks := true }, kinds := [], alts := [], laidByText := true, laidKinds := [.sentinel], laidTests := true, laidLooks := .later }
def FragmentSplitsUptoCardSaid : Prop := Claim7.holds Tryz.pinned (.plain (OpenSpec.upto fragmentSplitsSpec)) fragmentSplitsUptoCard

/-- THE SECOND FORM's CARD OF 'bspregionlaw07.FragmentJoins'. -/
def fragmentJoinsUptoCard : Claim7 := { stood := { row := fragmentJoinsUptoRow, standIns := [], harness := (true, "a3d81f109e2c4826ce9600c4edd4510352075174eafb723e62f00472132d5c52"), looks := true }, kinds := [], alts := [], laidByText := true, laidKinds := [.sentinel], laidTests := true, laidLooks := .later }
def FragmentJoinsUptoCardSaid : Prop := Claim7.holds Tryz.pinned (.plain (OpenSpec.upto fragmentJoinsSpec)) fragmentJoinsUptoCard

/-- THE SECOND FORM's CARD OF 'bspregionlaw07.FragmentPoints'. -/
def fragmentPointsUptoCard : Claim7 := { stood := { row := fragmentPointsUptoRow, standIns := [], harness := (true, "a3d81f109e2c4826ce9600c4edd4510352075174eafb723e62f00472132d5c52"), looks := true }, kinds := [], alts := [], laidByText := true, laidKinds := [.sentinel], laidTests := true, laidLooks := .later }
def FragmentPointsUptoCardSaid : Prop := Claim7.holds Tryz.pinned (.plain (OpenSpec.upto fragmentPointsSpec)) fragmentPointsUptoCard

/-- THE SECOND FORM's CARD OF 'bspregionlaw07.FragmentParts'. -/
def fragmentPartsUptoCard : Claim7 := { stood := { row := fragmentPartsUptoRow, standIns := [], harness := (true, "a3d81f109e2c4826ce9600c4edd4510352075174eafb723e62f00472132d5c52"), looks := true }, kinds := [], alts := [], laidByText := true, laidKinds := [.sentinel], laidTests := true, laidLooks := .later }
def FragmentPartsUptoCardSaid : Prop := Claim7.holds Tryz.pinned (.plain (OpenSpec.upto fragmentPartsSpec)) fragmentPartsUptoCard
end Rows
end Go.Proofs.YtcbcbdbheiopbaaGreatDoor
