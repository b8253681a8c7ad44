/-
  DERIVED. GIVEN WITH THE SEED: THE CARDS: each row of YtalijajeenhebaaGreatDoorRows.lean that lists a variable, with what it lists TIED to the program's text (the seventh form; the later family's looks); each row that meets fmt, with fmt's text TOLD by the authors' own Lean function (tested against real Go, not proved from fmt's source: count such statements apart). THE CARD IS WHAT COUNTS. Prove the row's statement (the work); the ties are given (YtalijajeenhebaaGreatDoorTie.lean); close each card by the builder's one call (the guide's Derived/Test/ToyasCard.lean, 'card_holds'). Laid BY PROGRAM, IN A SANDBOX (cutbox-door.mjs). By AI agents, Wed Nov 11 2026. No macro, syntax, notation, axiom, sorry.
-/
import Derived.Test.YtalijajeenhebaaGreatDoorRows
import GoSem.ClaimSeven
namespace Go.Proofs.YtalijajeenhebaaGreatDoor
namespace Rows

/-- THE TIED CARD OF 'bspregionlaw07.FragmentEnds'. -/
def fragmentEndsCard : Claim7 := { stood := { row := fragmentEndsRow, standIns := [], harness := (true, "e502c6f087d5b8a92ef478006fed7bc88d92212033869db912cd393827698c9a"), looks := true }, kinds := [], alts := [], laidByText := true, laidKinds := [.sentinel], laidTests := true, laidLooks := .later }
def FragmentEndsCardSaid : Prop := Claim7.holds Tryz.pinned (.plain (OpenSpec.ofChange fragmentEndsSpec)) fragmentEndsCard

/-- THE TIED CARD OF 'bspregionlaw07.FragmentValid'. -/
def fragmentValidCard : Claim7 := { stood := { row := fragmentValidRow, standIns := [], harness := (true, "e502c6f087d5b8a92ef478006fed7bc88d92212033869db912cd393827698c9a"), looks := true }, kinds := [], alts := [], laidByText := true, laidKinds := [.sentinel], laidTests := true, laidLooks := .later }
def FragmentValidCardSaid : Prop := Claim7.holds Tryz.pinned (.plain (OpenSpec.ofChange fragmentValidSpec)) fragmentValidCard

/-- THE TIED CARD OF 'bspregionlaw07.FragmentMeets'. -/
def fragmentMeetsCard : Claim7 := { stood := { row := fragmentMeetsRow, standIns := [], harness := (true, "e502c6f087d5b8a92ef478006fed7bc88d92212033869db912cd393827698c9a"), looks := true }, kinds := [], alts := [], laidByText := true, laidKinds := [.sentinel], laidTests := true, laidLooks := .later }
def FragmentMeetsCardSaid : Prop := Claim7.holds Tryz.pinned (.plain (OpenSpec.ofChange fragmentMeetsSpec)) fragmentMeetsCard

/-- THE TIED CARD OF 'bspregionlaw07.FragmentSides'. -/
def fragmentSidesCard : Claim7 := { stood := { row := fragmentSidesRow, standIns := [], harness := (true, "e502c6f087d5b8a92ef478006fed7bc88d92212033869db912cd393827698c9a"), looks := true }, kinds := [], alts := [], laidByText := true, laidKinds := [.sentinel], laidTests := true, laidLooks := .later }
def FragmentSidesCardSaid : Prop := Claim7.holds Tryz.pinned (.plain (OpenSpec.ofChange fragmentSidesSpec)) fragmentSidesCard

/-- THE SECOND FORM's CARD OF 'bspregionlaw07.FragmentEnds'. -/
def fragmentEndsUptoCard : Claim7 := { stood := { row := fragmentEndsUptoRow, standIns := [], harness := (true, "e502c6f087d5b8a92ef478006fed7bc88d92212033869db912cd393827698c9a"), looks := true }, kinds := [], alts := [], laidByText := true, laidKinds := [.sentinel], laidTests := true, laidLooks := .later }
def FragmentEndsUptoCardSaid : Prop := Claim7.holds Tryz.pinned (.plain (OpenSpec.upto fragmentEndsSpec)) fragmentEndsUptoCard

/-- THE SECOND FORM's CARD OF 'bspregionlaw07.FragmentValid'. -/
def fragmentValidUptoCard : Claim7 := { stood := { row := fragmentValidUptoRow, standIns := [], harness := (true, "e502c6f087d5b8a92ef478006fed7bc88d92212033869db912cd393827698c9a"), looks := true }, kinds := [], alts := [], laidByText := true, laidKinds := [.sentinel], laidTests := true, laidLooks := .later }
def FragmentValidUptoCardSaid : Prop := Claim7.holds Tryz.pinned (.plain (OpenSpec.upto fragmentValidSpec)) fragmentValidUptoCard

/-- THE SECOND FORM's CARD OF 'bspregionlaw07.FragmentMeets'. -/
def fragmentMeetsUptoCard : Claim7 := { stood := { row := fragmentMeetsUptoRow, standIns := [], harness := (true, "e502c6f087d5b8a92ef478006fed7bc88d92212033869db912cd393827698c9a"), looks := true }, kinds := [], alts := [], laidByText := true, laidKinds := [.sentinel], laidTests := true, laidLooks := .later }
def FragmentMeetsUptoCardSaid : Prop := Claim7.holds Tryz.pinned (.plain (OpenSpec.upto fragmentMeetsSpec)) fragmentMeetsUptoCard

/-- THE SECOND FORM's CARD OF 'bspregionlaw07.FragmentSides'. -/
def fragmentSidesUptoCard : Claim7 := { stood := { row := fragmentSidesUptoRow, standIns := [], harness := (true, "e502c6f087d5b8a92ef478006fed7bc88d92212033869db912cd393827698c9a"), looks := true }, kinds := [], alts := [], laidByText := true, laidKinds := [.sentinel], laidTests := true, laidLooks := .later }
def FragmentSidesUptoCardSaid : Prop := Claim7.holds Tryz.pinned (.plain (OpenSpec.upto fragmentSidesSpec)) fragmentSidesUptoCard
end Rows
end Go.Proofs.YtalijajeenhebaaGreatDoor
