/-
  DERIVED. GIVEN WITH THE SEED: THE CARDS: each row of YtnnbfoejafcdlaaGreatDoorRows.lean that lists a variable, with what it lists TIED to the program's text (the seventh form; the later family's looks); each row that meets fmt, with fmt's text TOLD by the authors' own Lean function (tested against real Go, not proved from fmt's source: count such statements apart). THE CARD IS WHAT COUNTS. Prove the row's statement (the work); the ties are given (YtnnbfoejafcdlaaGreatDoorTie.lean); close each card by the builder's one call (the guide's Derived/Test/ToyasCard.lean, 'card_holds'). Laid BY PROGRAM, IN A SANDBOX (cutbox-door.mjs). By AI agents, Wed Nov 11 2026. No macro, syntax, notation, axiom, sorry.
-/
import Derived.Test.YtnnbfoejafcdlaaGreatDoorRows
import GoSem.ClaimSeven
namespace Go.Proofs.YtnnbfoejafcdlaaGreatDoor
namespace Rows

/-- THE TIED CARD OF 'bspregionlaw08.ConvexLimit'. -/
def convexLimitCard : Claim7 := { stood := { row := convexLimitRow, standIns := [], harness := (true, "3f358c064a695717f1f06bc8db18b50b2f65d9360132aa35c80b63e5a705a810"), looks := true }, kinds := [], alts := [], laidByText := true, laidKinds := [.sentinel, .sentinel, .sentinel], laidTests := true, laidLooks := .later }
def ConvexLimitCardSaid : Prop := Claim7.holds Tryz.pinned (.plain (OpenSpec.ofChange convexLimitSpec)) convexLimitCard

/-- THE TIED CARD OF 'bspregionlaw08.ConvexNeeded'. -/
def convexNeededCard : Claim7 := { stood := { row := convexNeededRow, standIns := [], harness := (true, "3f358c064a695717f1f06bc8db18b50b2f65d9360132aa35c80b63e5a705a810"), looks := true }, kinds := [], alts := [], laidByText := true, laidKinds := [.sentinel, .sentinel, .sentinel], laidTests := true, laidLooks := .later }
def ConvexNeededCardSaid : Prop := Claim7.holds Tryz.pinned (.plain (OpenSpec.ofChange convexNeededSpec)) convexNeededCard

/-- THE TIED CARD OF 'bspregionlaw08.ConvexMeasures'. -/
def convexMeasuresCard : Claim7 := { stood := { row := convexMeasuresRow, standIns := [], harness := (true, "3f358c064a695717f1f06bc8db18b50b2f65d9360132aa35c80b63e5a705a810"), looks := true }, kinds := [], alts := [], laidByText := true, laidKinds := [.sentinel, .sentinel, .sentinel], laidTests := true, laidLooks := .later }
def ConvexMeasuresCardSaid : Prop := Claim7.holds Tryz.pinned (.plain (OpenSpec.ofChange convexMeasuresSpec)) convexMeasuresCard

/-- THE TIED CARD OF 'bspregionlaw08.ConvexClips'. -/
def convexClipsCard : Claim7 := { stood := { row := convexClipsRow, standIns := [], harness := (true, "3f358c064a695717f1f06bc8db18b50b2f65d9360132aa35c80b63e5a705a810"), looks := true }, kinds := [], alts := [], laidByText := true, laidKinds := [.sentinel, .sentinel, .sentinel, .sentinel], laidTests := true, laidLooks := .later }
def ConvexClipsCardSaid : Prop := Claim7.holds Tryz.pinned (.plain (OpenSpec.ofChange convexClipsSpec)) convexClipsCard

/-- THE TIED CARD OF 'bspregionlaw08.ConvexCanon'. -/
def convexCanonCard : Claim7 := { stood := { row := convexCanonRow, standIns := [], harness := (true, "3f358c064a695717f1f06bc8db18b50b2f65d9360132aa35c80b63e5a705a810"), looks := true }, kinds := [], alts := [], laidByText := true, laidKinds := [.sentinel, .sentinel, .sentinel, .sentinel], laidTests := true, laidLooks := .later }
def ConvexCanonCardSaid : Prop := Claim7.holds Tryz.pinned (.plain (OpenSpec.ofChange convexCanonSpec)) convexCanonCard

/-- THE TIED CARD OF 'bspregionlaw08.ConvexValid'. -/
def convexValidCard : Claim7 := { stood := { row := convexValidRow, standIns := [], harness := (true, "3f358c064a695717f1f06bc8db18b50b2f65d9360132aa35c80b63e5a705a810"), looks := true }, kinds := [], alts := [], laidByText := true, laidKinds := [.sentinel, .sentinel, .sentinel], laidTests := true, laidLooks := .later }
def ConvexValidCardSaid : Prop := Claim7.holds Tryz.pinned (.plain (OpenSpec.ofChange convexValidSpec)) convexValidCard

/-- THE TIED CARD OF 'bspregionlaw08.ConvexPlaces'. -/
def convexPlacesCard : Claim7 := { stood := { row := convexPlacesRow, standIns := [], harness := (true, "3f358c064a695717f1f06bc8db18b50b2f65d9360132aa35c80b63e5a705a810"), looks := true }, kinds := [], alts := [], laidByText := true, laidKinds := [.sentinel, .sentinel, .sentinel], laidTests := true, laidLooks := .later }
def ConvexPlacesCardSaid : Prop := Claim7.holds Tryz.pinned (.plain (OpenSpec.ofChange convexPlacesSpec)) convexPlacesCard

/-- THE TIED CARD OF 'bspregionlaw08.ConvexInner'. -/
def convexInnerCard : Claim7 := { stood := { row := convexInnerRow, standIns := [], harness := (true, "3f358c064a695717f1f06bc8db18b50b2f65d9360132aa35c80b63e5a705a810"), looks := true }, kinds := [], alts := [], laidByText := true, laidKinds := [.sentinel, .sentinel, .sentinel], laidTests := true, laidLooks := .later }
def ConvexInnerCardSaid : Prop := Claim7.holds Tryz.pinned (.plain (OpenSpec.ofChange convexInnerSpec)) convexInnerCard

/-- THE SECOND FORM's CARD OF 'bspregionlaw08.ConvexLimit'. -/
def convexLimitUptoCard : Claim7 := { stood := { row := convexLimitUptoRow, standIns := [], harness := (true, "3f358c064a695717f1f06bc8db18b50b2f65d9360132aa35c80b63e5a705a810"), looks := true }, kinds := [], alts := [], laidByText := true, laidKinds := [.sentinel, .sentinel, .sentinel], laidTests := true, laidLooks := .later }
def ConvexLimitUptoCardSaid : Prop := Claim7.holds Tryz.pinned (.plain (OpenSpec.upto convexLimitSpec)) convexLimitUptoCard

/-- THE SECOND FORM's CARD OF 'bspregionlaw08.ConvexNeeded'. -/
def convexNeededUptoCard : Claim7 := { stood := { row := convexNeededUptoRow, standIns := [], harness := (true, "3f358c064a695717f1f06bc8db18b50b2f65d9360132aa35c80b63e5a705a810"), looks := true }, kinds := [], alts := [], laidByText := true, laidKinds := [.sentinel, .sentinel, .sentinel], laidTests := true, laidLooks := .later }
def ConvexNeededUptoCardSaid : Prop := Claim7.holds Tryz.pinned (.plain (OpenSpec.upto convexNeededSpec)) convexNeededUptoCard

/-- THE SECOND FORM's CARD OF 'bspregionlaw08.ConvexMeasures'. -/
def convexMeasuresUptoCard : Claim7 := { stood := { row := convexMeasuresUptoRow, standIns := [], harness := (true, "3f358c064a695717f1f06bc8db18b50b2f65d9360132aa35c80b63e5a705a810"), looks := true }, kinds := [], alts := [], laidByText := true, laidKinds := [.sentinel, .sentinel, .sentinel], laidTests := true, laidLooks := .later }
def ConvexMeasuresUptoCardSaid : Prop := Claim7.holds Tryz.pinned (.plain (OpenSpec.upto convexMeasuresSpec)) convexMeasuresUptoCard

/-- THE SECOND FORM's CARD OF 'bspregionlaw08.ConvexClips'. -/
def convexClipsUptoCard : Claim7 := { stood := { row := convexClipsUptoRow, standIns := [], harness := (true, "3f358c064a695717f1f06bc8db18b50b2f65d9360132aa35c80b63e5a705a810"), looks := true }, kinds := [], alts := [], laidByText := true, laidKinds := [.sentinel, .sentinel, .sentinel, .sentinel], laidTests := true, laidLooks := .later }
def ConvexClipsUptoCardSaid : Prop := Claim7.holds Tryz.pinned (.plain (OpenSpec.upto convexClipsSpec)) convexClipsUptoCard

/-- THE SECOND FORM's CARD OF 'bspregionlaw08.ConvexCanon'. -/
def convexCanonUptoCard : Claim7 := { stood := { row := convexCanonUptoRow, standIns := [], harness := (true, "3f358c064a695717f1f06bc8db18b50b2f65d9360132aa35c80b63e5a705a810"), looks := true }, kinds := [], alts := [], laidByText := true, laidKinds := [.sentinel, .sentinel, .sentinel, .sentinel], laidTests := true, laidLooks := .later }
def ConvexCanonUptoCardSaid : Prop := Claim7.holds Tryz.pinned (.plain (OpenSpec.upto convexCanonSpec)) convexCanonUptoCard

/-- THE SECOND FORM's CARD OF 'bspregionlaw08.ConvexValid'. -/
def convexValidUptoCard : Claim7 := { stood := { row := convexValidUptoRow, standIns := [], harness := (true, "3f358c064a695717f1f06bc8db18b50b2f65d9360132aa35c80b63e5a705a810"), looks := true }, kinds := [], alts := [], laidByText := true, laidKinds := [.sentinel, .sentinel, .sentinel], laidTests := true, laidLooks := .later }
def ConvexValidUptoCardSaid : Prop := Claim7.holds Tryz.pinned (.plain (OpenSpec.upto convexValidSpec)) convexValidUptoCard

/-- THE SECOND FORM's CARD OF 'bspregionlaw08.ConvexPlaces'. -/
def convexPlacesUptoCard : Claim7 := { stood := { row := convexPlacesUptoRow, standIns := [], harness := (true, "3f358c064a695717f1f06bc8db18b50b2f65d9360132aa35c80b63e5a705a810"), looks := true }, kinds := [], alts := [], laidByText := true, laidKinds := [.sentinel, .sentinel, .sentinel], laidTests := true, laidLooks := .later }
def ConvexPlacesUptoCardSaid : Prop := Claim7.holds Tryz.pinned (.plain (OpenSpec.upto convexPlacesSpec)) convexPlacesUptoCard

/-- THE SECOND FORM's CARD OF 'bspregionlaw08.ConvexInner'. -/
def convexInnerUptoCard : Claim7 := { stood := { row := convexInnerUptoRow, standIns := [], harness := (true, "3f358c064a695717f1f06bc8db18b50b2f65d9360132aa35c80b63e5a705a810"), looks := true }, kinds := [], alts := [], laidByText := true, laidKinds := [.sentinel, .sentinel, .sentinel], laidTests := true, laidLooks := .later }
def ConvexInnerUptoCardSaid : Prop := Claim7.holds Tryz.pinned (.plain (OpenSpec.upto convexInnerSpec)) convexInnerUptoCard
end Rows
end Go.Proofs.YtnnbfoejafcdlaaGreatDoor
