/-
  DERIVED. GIVEN WITH THE SEED: THE CARDS: each row of YtapnijmlbakblaaGreatDoorRows.lean that lists a variable, with what it lists TIED to the program's text (the seventh form; the later family's looks); each row that meets fmt, with fmt's text TOLD by the authors' own Lean function (tested against real Go, not proved from fmt's source: count such statements apart). THE CARD IS WHAT COUNTS. Prove the row's statement (the work); the ties are given (YtapnijmlbakblaaGreatDoorTie.lean); close each card by the builder's one call (the guide's Derived/Test/ToyasCard.lean, 'card_holds'). Laid BY PROGRAM, IN A SANDBOX (cutbox-door.mjs). By AI agents, Wed Nov 11 2026. No macro, syntax, notation, axiom, sorry.
-/
import Derived.Test.YtapnijmlbakblaaGreatDoorRows
import GoSem.ClaimSeven
namespace Go.Proofs.YtapnijmlbakblaaGreatDoor
namespace Rows

/-- THE TIED CARD OF 'bspregionlaw07.FragmentSplits'. -/
def fragmentSplitsCard : Claim7 := { stood := { row := fragmentSplitsRow, standIns := [], harness := (true, "d646af1891dd08120ac130b7555c366439bc816d3e6f84e92c1ce695d99feb76"), looks := false }, kinds := [], alts := [], laidByText := true, laidKinds := [.sentinel], laidTests := true, laidLooks := .later }
def FragmentSplitsCardSaid : Prop := Claim7.holds Tryz.pinned (.plain (OpenSpec.ofChange fragmentSplitsSpec)) fragmentSplitsCard

/-- THE TIED CARD OF 'bspregionlaw07.FragmentJoins'. -/
def fragmentJoinsCard : Claim7 := { stood := { row := fragmentJoinsRow, standIns := [], harness := (true, "d646af1891dd08120ac130b7555c366439bc816d3e6f84e92c1ce695d99feb76"), looks := false }, kinds := [], alts := [], laidByText := true, laidKinds := [.sentinel], laidTests := true, laidLooks := .later }
def FragmentJoinsCardSaid : Prop := Claim7.holds Tryz.pinned (.plain (OpenSpec.ofChange fragmentJoinsSpec)) fragmentJoinsCard

/-- THE TIED CARD OF 'bspregionlaw07.FragmentPoints'. -/
def fragmentPointsCard : Claim7 := { stood := { row := fragmentPointsRow, standIns := [], harness := (true, "d646af1891dd08120ac130b7555c366439bc816d3e6f84e92c1ce695d99feb76"), looks := false }, kinds := [], alts := [], laidByText := true, laidKinds := [.sentinel], laidTests := true, laidLooks := .later }
def FragmentPointsCardSaid : Prop := Claim7.holds Tryz.pinned (.plain (OpenSpec.ofChange fragmentPointsSpec)) fragmentPointsCard

/-- THE TIED CARD OF 'bspregionlaw07.FragmentParts'. -/
def fragmentPartsCard : Claim7 := { stood := { row := fragmentPartsRow, standIns := [], harness := (true, "d646af1891dd08120ac130b7555c366439bc816d3e6f84e92c1ce695d99feb76"), looks := false }, kinds := [], alts := [], laidByText := true, laidKinds := [.sentinel], laidTests := true, laidLooks := .later }
def FragmentPartsCardSaid : Prop := Claim7.holds Tryz.pinned (.plain (OpenSpec.ofChange fragmentPartsSpec)) fragmentPartsCard

/-- THE SECOND FORM's CARD OF 'bspregionlaw07.FragmentSplits'. -/
def fragmentSplitsUptoCard : Claim7 := { stood := { row := fragmentSplitsUptoRow, standIns := [], harness := (true, "d646af1891dd08120ac130b7555c366439bc816d3e6f84e92c1ce695d99feb76"), looks := false }, kinds := [], alts := [], laidByText := true, laidKinds := [.sentinel], laidTests := true, laidLooks := .later }
def FragmentSplitsUptoCardSaid : Prop := Claim7.holds Tryz.pinned (.plain (OpenSpec.upto fragmentSplitsSpec)) fragmentSplitsUptoCard

/-- THE SECOND FORM's CARD OF 'bspregionlaw07.FragmentJoins'. -/
def fragmentJoinsUptoCard : Claim7 := { stood := { row := fragmentJoinsUptoRow, standIns := [], harness := (true, "d646af1891dd08120ac130b7555c366439bc816d3e6f84e92c1ce695d99feb76"), looks := false }, kinds := [], alts := [], laidByText := true, laidKinds := [.sentinel], laidTests := true, laidLooks := .later }
def FragmentJoinsUptoCardSaid : Prop := Claim7.holds Tryz.pinned (.plain (OpenSpec.upto fragmentJoinsSpec)) fragmentJoinsUptoCard

/-- THE SECOND FORM's CARD OF 'bspregionlaw07.FragmentPoints'. -/
def fragmentPointsUptoCard : Claim7 := { stood := { row := fragmentPointsUptoRow, standIns := [], harness := (true, "d646af1891dd08120ac130b7555c366439bc816d3e6f84e92c1ce695d99feb76"), looks := false }, kinds := [], alts := [], laidByText := true, laidKinds := [.sentinel], laidTests := true, laidLooks := .later }
def FragmentPointsUptoCardSaid : Prop := Claim7.holds Tryz.pinned (.plain (OpenSpec.upto fragmentPointsSpec)) fragmentPointsUptoCard

/-- THE SECOND FORM's CARD OF 'bspregionlaw07.FragmentParts'. -/
def fragmentPartsUptoCard : Claim7 := { stood := { row := fragmentPartsUptoRow, standIns := [], harness := (true, "d646af1891dd08120ac130b7555c366439bc816d3e6f84e92c1ce695d99feb76"), looks := false }, kinds := [], alts := [], laidByText := true, laidKinds := [.sentinel], laidTests := true, laidLooks := .later }
def FragmentPartsUptoCardSaid : Prop := Claim7.holds Tryz.pinned (.plain (OpenSpec.upto fragmentPartsSpec)) fragmentPartsUptoCard
end Rows
end Go.Proofs.YtapnijmlbakblaaGreatDoor
