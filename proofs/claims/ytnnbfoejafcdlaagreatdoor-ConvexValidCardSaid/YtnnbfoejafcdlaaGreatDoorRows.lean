/-
  NARROWER THAN 'FOR EVERY INPUT', by the rows' own cells (each row's printed sentence says how): ConvexLimit: laid · ConvexNeeded: laid · ConvexMeasures: laid · ConvexClips: laid · ConvexCanon: laid · ConvexValid: laid · ConvexPlaces: laid · ConvexInner: laid.
  DERIVED. THE GIVEN ROWS OF THIS SEAT. 8 by the template 'for every input the law returns true; each argument reads behind the call as it read before'; 0 by the template 'total and deterministic' (their statements: YtnnbfoejafcdlaaGreatDoorTotals.lean).
  GIVEN WITH THE SEED: the statements are not yours to turn. If you find one false, say at which input.
  Laid BY PROGRAM, IN A SANDBOX (cutbox-rows.mjs): the forced cells as the released guide's own fill.sh prints them over the translation 04e44c26205cd054… (all of the seat's roots in one cut). By AI agents, Wed Nov 11 2026. No macro, syntax, notation, axiom, sorry.
-/
import Derived.Test.YtnnbfoejafcdlaaGreatDoorChecked
import GoSem.Claim
import GoSem.ClaimJoined
import GoSem.ClaimMapViews
import Derived.JoinedTies
import Derived.KernelRfl
namespace Go.Proofs.YtnnbfoejafcdlaaGreatDoor
/- THE CELL 'sum', in the pinned program and in every row, IS THE sha256 OF THE DUMP (.gsa) THAT YtnnbfoejafcdlaaGreatDoorProg.lean LOADS. Nothing in Lean hashes anything: it is a label: what it is worth is what the hold of that sum in a sandbox is worth. -/
noncomputable def Tryz.pinned : Pinned := { name := "ytnnbfoejafcdlaagreatdoor", sum := "04e44c26205cd05482db80c2395c7a54849523d5492bddaec6e53a71066da278", checked := Tryz.checked }
namespace Rows
def none {H : Type} : Left H := { results := [], args := [] }

/- WHAT THE LISTED PACKAGE-LEVEL VARIABLES READ AS WHEN THE CALL BEGINS. Each datum BY PROGRAM (the guide's laid-datum.mjs) off the statement by which the dump's own 'gosem.cut.vars' lays the variable. In a bare row this is a premise. The card (YtnnbfoejafcdlaaGreatDoorCards.lean) ties it to the program's text. -/
def laid_bspregion_api_ErrInvalid {H : Type} : DataW H := .iface "*errors.errorString" (.ptr (.agg [.lit (.string [105, 110, 118, 97, 108, 105, 100, 32, 118, 97, 108, 117, 101])]))
def laid_bspregion_api_ErrUnbounded {H : Type} : DataW H := .iface "*errors.errorString" (.ptr (.agg [.lit (.string [110, 111, 116, 32, 98, 111, 117, 110, 100, 101, 100])]))
def laid_bspregion_api_ErrEmpty {H : Type} : DataW H := .iface "*errors.errorString" (.ptr (.agg [.lit (.string [101, 109, 112, 116, 121])]))
def laid_bspregion_api_ErrLimit {H : Type} : DataW H := .iface "*errors.errorString" (.ptr (.agg [.lit (.string [108, 105, 109, 105, 116, 32, 101, 120, 99, 101, 101, 100, 101, 100])]))

/-- 'bspregionlaw08.ConvexLimit': WHATEVER THE INPUT: true; the input reads as it did. -/
def convexLimitSpec : ChangeSpec := { name := "convexLimit", fn := fun _ => fun
  | [d] => { results := [.lit (.bool true)], args := [d] }
  | _ => none }
def convexLimitRow : OpenClaim := { program := "ytnnbfoejafcdlaagreatdoor", sum := "04e44c26205cd05482db80c2395c7a54849523d5492bddaec6e53a71066da278", func := "bspregion/bspregionlaw08.ConvexLimit", spec := "convexLimit", inPlace := ["slices.overlaps[bspregion/geo.Fr]", "internal/reflectlite.TypeOf"], unfollowed := true, recurses := true, named := ["bspregion/api.ErrInvalid", "math/bits.overflowError", "bspregion/api.ErrUnbounded", "bspregion/api.ErrEmpty"], apart := false, laid := [("bspregion/api.ErrInvalid", laid_bspregion_api_ErrInvalid), ("bspregion/api.ErrUnbounded", laid_bspregion_api_ErrUnbounded), ("bspregion/api.ErrEmpty", laid_bspregion_api_ErrEmpty)] }
def ConvexLimitSaid : Prop := convexLimitRow.holds Tryz.pinned (OpenSpec.ofChange convexLimitSpec)

/-- ITS FALSE NEIGHBOUR: 'it returns false'. Refute it at one input. -/
def convexLimitWrong : ChangeSpec := { name := "convexLimit", fn := fun _ => fun
  | [d] => { results := [.lit (.bool false)], args := [d] }
  | _ => none }
def ConvexLimitWrongFalsely : Prop := convexLimitRow.holds Tryz.pinned (OpenSpec.ofChange convexLimitWrong)

/-- 'bspregionlaw08.ConvexNeeded': WHATEVER THE INPUT: true; the input reads as it did. -/
def convexNeededSpec : ChangeSpec := { name := "convexNeeded", fn := fun _ => fun
  | [d] => { results := [.lit (.bool true)], args := [d] }
  | _ => none }
def convexNeededRow : OpenClaim := { program := "ytnnbfoejafcdlaagreatdoor", sum := "04e44c26205cd05482db80c2395c7a54849523d5492bddaec6e53a71066da278", func := "bspregion/bspregionlaw08.ConvexNeeded", spec := "convexNeeded", inPlace := ["slices.overlaps[bspregion/geo.Fr]", "internal/reflectlite.TypeOf"], unfollowed := true, recurses := true, named := ["bspregion/api.ErrEmpty", "math/bits.overflowError", "bspregion/api.ErrInvalid", "bspregion/api.ErrUnbounded"], apart := false, laid := [("bspregion/api.ErrInvalid", laid_bspregion_api_ErrInvalid), ("bspregion/api.ErrUnbounded", laid_bspregion_api_ErrUnbounded), ("bspregion/api.ErrEmpty", laid_bspregion_api_ErrEmpty)] }
def ConvexNeededSaid : Prop := convexNeededRow.holds Tryz.pinned (OpenSpec.ofChange convexNeededSpec)

/-- ITS FALSE NEIGHBOUR: 'it returns false'. Refute it at one input. -/
def convexNeededWrong : ChangeSpec := { name := "convexNeeded", fn := fun _ => fun
  | [d] => { results := [.lit (.bool false)], args := [d] }
  | _ => none }
def ConvexNeededWrongFalsely : Prop := convexNeededRow.holds Tryz.pinned (OpenSpec.ofChange convexNeededWrong)

/-- 'bspregionlaw08.ConvexMeasures': WHATEVER THE INPUT: true; the input reads as it did. -/
def convexMeasuresSpec : ChangeSpec := { name := "convexMeasures", fn := fun _ => fun
  | [d] => { results := [.lit (.bool true)], args := [d] }
  | _ => none }
def convexMeasuresRow : OpenClaim := { program := "ytnnbfoejafcdlaagreatdoor", sum := "04e44c26205cd05482db80c2395c7a54849523d5492bddaec6e53a71066da278", func := "bspregion/bspregionlaw08.ConvexMeasures", spec := "convexMeasures", inPlace := ["slices.overlaps[bspregion/geo.Fr]", "internal/reflectlite.TypeOf"], unfollowed := true, recurses := true, named := ["bspregion/api.ErrEmpty", "bspregion/api.ErrUnbounded", "math/bits.overflowError", "bspregion/api.ErrInvalid"], apart := false, laid := [("bspregion/api.ErrInvalid", laid_bspregion_api_ErrInvalid), ("bspregion/api.ErrUnbounded", laid_bspregion_api_ErrUnbounded), ("bspregion/api.ErrEmpty", laid_bspregion_api_ErrEmpty)] }
def ConvexMeasuresSaid : Prop := convexMeasuresRow.holds Tryz.pinned (OpenSpec.ofChange convexMeasuresSpec)

/-- ITS FALSE NEIGHBOUR: 'it returns false'. Refute it at one input. -/
def convexMeasuresWrong : ChangeSpec := { name := "convexMeasures", fn := fun _ => fun
  | [d] => { results := [.lit (.bool false)], args := [d] }
  | _ => none }
def ConvexMeasuresWrongFalsely : Prop := convexMeasuresRow.holds Tryz.pinned (OpenSpec.ofChange convexMeasuresWrong)

/-- 'bspregionlaw08.ConvexClips': WHATEVER THE INPUT: true; the input reads as it did. -/
def convexClipsSpec : ChangeSpec := { name := "convexClips", fn := fun _ => fun
  | [d] => { results := [.lit (.bool true)], args := [d] }
  | _ => none }
def convexClipsRow : OpenClaim := { program := "ytnnbfoejafcdlaagreatdoor", sum := "04e44c26205cd05482db80c2395c7a54849523d5492bddaec6e53a71066da278", func := "bspregion/bspregionlaw08.ConvexClips", spec := "convexClips", inPlace := ["slices.overlaps[bspregion/geo.Fr]", "internal/reflectlite.TypeOf"], unfollowed := true, recurses := true, named := ["bspregion/api.ErrEmpty", "math/bits.overflowError", "bspregion/api.ErrInvalid", "bspregion/api.ErrUnbounded", "bspregion/api.ErrLimit"], apart := false, laid := [("bspregion/api.ErrInvalid", laid_bspregion_api_ErrInvalid), ("bspregion/api.ErrUnbounded", laid_bspregion_api_ErrUnbounded), ("bspregion/api.ErrEmpty", laid_bspregion_api_ErrEmpty), ("bspregion/api.ErrLimit", laid_bspregion_api_ErrLimit)] }
def ConvexClipsSaid : Prop := convexClipsRow.holds Tryz.pinned (OpenSpec.ofChange convexClipsSpec)

/-- ITS FALSE NEIGHBOUR: 'it returns false'. Refute it at one input. -/
def convexClipsWrong : ChangeSpec := { name := "convexClips", fn := fun _ => fun
  | [d] => { results := [.lit (.bool false)], args := [d] }
  | _ => none }
def ConvexClipsWrongFalsely : Prop := convexClipsRow.holds Tryz.pinned (OpenSpec.ofChange convexClipsWrong)

/-- 'bspregionlaw08.ConvexCanon': WHATEVER THE INPUT: true; the input reads as it did. -/
def convexCanonSpec : ChangeSpec := { name := "convexCanon", fn := fun _ => fun
  | [d] => { results := [.lit (.bool true)], args := [d] }
  | _ => none }
def convexCanonRow : OpenClaim := { program := "ytnnbfoejafcdlaagreatdoor", sum := "04e44c26205cd05482db80c2395c7a54849523d5492bddaec6e53a71066da278", func := "bspregion/bspregionlaw08.ConvexCanon", spec := "convexCanon", inPlace := ["slices.overlaps[bspregion/geo.Fr]", "internal/reflectlite.TypeOf"], unfollowed := true, recurses := true, named := ["bspregion/api.ErrEmpty", "math/bits.overflowError", "bspregion/api.ErrInvalid", "bspregion/api.ErrLimit", "bspregion/api.ErrUnbounded"], apart := false, laid := [("bspregion/api.ErrInvalid", laid_bspregion_api_ErrInvalid), ("bspregion/api.ErrUnbounded", laid_bspregion_api_ErrUnbounded), ("bspregion/api.ErrEmpty", laid_bspregion_api_ErrEmpty), ("bspregion/api.ErrLimit", laid_bspregion_api_ErrLimit)] }
def ConvexCanonSaid : Prop := convexCanonRow.holds Tryz.pinned (OpenSpec.ofChange convexCanonSpec)

/-- ITS FALSE NEIGHBOUR: 'it returns false'. Refute it at one input. -/
def convexCanonWrong : ChangeSpec := { name := "convexCanon", fn := fun _ => fun
  | [d] => { results := [.lit (.bool false)], args := [d] }
  | _ => none }
def ConvexCanonWrongFalsely : Prop := convexCanonRow.holds Tryz.pinned (OpenSpec.ofChange convexCanonWrong)

/-- 'bspregionlaw08.ConvexValid': WHATEVER THE INPUT: true; the input reads as it did. -/
def convexValidSpec : ChangeSpec := { name := "convexValid", fn := fun _ => fun
  | [d1, d2] => { results := [.lit (.bool true)], args := [d1, d2] }
  | _ => none }
def convexValidRow : OpenClaim := { program := "ytnnbfoejafcdlaagreatdoor", sum := "04e44c26205cd05482db80c2395c7a54849523d5492bddaec6e53a71066da278", func := "bspregion/bspregionlaw08.ConvexValid", spec := "convexValid", inPlace := ["slices.overlaps[bspregion/geo.Fr]", "internal/reflectlite.TypeOf"], unfollowed := true, recurses := true, named := ["bspregion/api.ErrInvalid", "math/bits.overflowError", "bspregion/api.ErrUnbounded", "bspregion/api.ErrEmpty"], apart := false, laid := [("bspregion/api.ErrInvalid", laid_bspregion_api_ErrInvalid), ("bspregion/api.ErrUnbounded", laid_bspregion_api_ErrUnbounded), ("bspregion/api.ErrEmpty", laid_bspregion_api_ErrEmpty)] }
def ConvexValidSaid : Prop := convexValidRow.holds Tryz.pinned (OpenSpec.ofChange convexValidSpec)

/-- ITS FALSE NEIGHBOUR: 'it returns false'. Refute it at one input. -/
def convexValidWrong : ChangeSpec := { name := "convexValid", fn := fun _ => fun
  | [d1, d2] => { results := [.lit (.bool false)], args := [d1, d2] }
  | _ => none }
def ConvexValidWrongFalsely : Prop := convexValidRow.holds Tryz.pinned (OpenSpec.ofChange convexValidWrong)

/-- 'bspregionlaw08.ConvexPlaces': WHATEVER THE INPUT: true; the input reads as it did. -/
def convexPlacesSpec : ChangeSpec := { name := "convexPlaces", fn := fun _ => fun
  | [d] => { results := [.lit (.bool true)], args := [d] }
  | _ => none }
def convexPlacesRow : OpenClaim := { program := "ytnnbfoejafcdlaagreatdoor", sum := "04e44c26205cd05482db80c2395c7a54849523d5492bddaec6e53a71066da278", func := "bspregion/bspregionlaw08.ConvexPlaces", spec := "convexPlaces", inPlace := ["slices.overlaps[bspregion/geo.Fr]", "internal/reflectlite.TypeOf"], unfollowed := true, recurses := true, named := ["bspregion/api.ErrEmpty", "math/bits.overflowError", "bspregion/api.ErrInvalid", "bspregion/api.ErrUnbounded"], apart := false, laid := [("bspregion/api.ErrInvalid", laid_bspregion_api_ErrInvalid), ("bspregion/api.ErrUnbounded", laid_bspregion_api_ErrUnbounded), ("bspregion/api.ErrEmpty", laid_bspregion_api_ErrEmpty)] }
def ConvexPlacesSaid : Prop := convexPlacesRow.holds Tryz.pinned (OpenSpec.ofChange convexPlacesSpec)

/-- ITS FALSE NEIGHBOUR: 'it returns false'. Refute it at one input. -/
def convexPlacesWrong : ChangeSpec := { name := "convexPlaces", fn := fun _ => fun
  | [d] => { results := [.lit (.bool false)], args := [d] }
  | _ => none }
def ConvexPlacesWrongFalsely : Prop := convexPlacesRow.holds Tryz.pinned (OpenSpec.ofChange convexPlacesWrong)

/-- 'bspregionlaw08.ConvexInner': WHATEVER THE INPUT: true; the input reads as it did. -/
def convexInnerSpec : ChangeSpec := { name := "convexInner", fn := fun _ => fun
  | [d] => { results := [.lit (.bool true)], args := [d] }
  | _ => none }
def convexInnerRow : OpenClaim := { program := "ytnnbfoejafcdlaagreatdoor", sum := "04e44c26205cd05482db80c2395c7a54849523d5492bddaec6e53a71066da278", func := "bspregion/bspregionlaw08.ConvexInner", spec := "convexInner", inPlace := ["slices.overlaps[bspregion/geo.Fr]", "internal/reflectlite.TypeOf"], unfollowed := true, recurses := true, named := ["bspregion/api.ErrEmpty", "math/bits.overflowError", "bspregion/api.ErrInvalid", "bspregion/api.ErrUnbounded"], apart := false, laid := [("bspregion/api.ErrInvalid", laid_bspregion_api_ErrInvalid), ("bspregion/api.ErrUnbounded", laid_bspregion_api_ErrUnbounded), ("bspregion/api.ErrEmpty", laid_bspregion_api_ErrEmpty)] }
def ConvexInnerSaid : Prop := convexInnerRow.holds Tryz.pinned (OpenSpec.ofChange convexInnerSpec)

/-- ITS FALSE NEIGHBOUR: 'it returns false'. Refute it at one input. -/
def convexInnerWrong : ChangeSpec := { name := "convexInner", fn := fun _ => fun
  | [d] => { results := [.lit (.bool false)], args := [d] }
  | _ => none }
def ConvexInnerWrongFalsely : Prop := convexInnerRow.holds Tryz.pinned (OpenSpec.ofChange convexInnerWrong)

/- THE SECOND FORM. 'bulk': how many values and letters a reading holds, each counted each time it is reached (what is shared counts as often as it is met; a slice's spare places count too). A statement '..UptoSaid' is the law's where the arguments, and the package variables that the reading takes, are together of bulk at most 1048576: NARROWER than '..Said'. Prove '..Said' where nothing that the law and all that it calls make is longer than what came in: it says more and counts as full. Else prove '..UptoSaid'. A law counts once. -/
mutual
def uptoBulk {H : Type} : DataW H → Nat
  | .lit (.string bytes) => bytes.length + 1
  | .lit _ => 1
  | .nil => 1
  | .ptr d => uptoBulk d + 1
  | .slice elems spare => uptoBulkAll elems + uptoBulkAll spare + 1
  | .agg parts => uptoBulkAll parts + 1
  | .iface _ d => uptoBulk d + 1
  | .map entries => uptoBulkEntries entries + 1
  | .held _ => 1
def uptoBulkAll {H : Type} : List (DataW H) → Nat
  | [] => 0
  | d :: r => uptoBulk d + uptoBulkAll r
def uptoBulkEntries {H : Type} : List (Lit × DataW H) → Nat
  | [] => 0
  | x :: r => uptoBulkEntry x + uptoBulkEntries r
def uptoBulkEntry {H : Type} : Lit × DataW H → Nat
  | (.string bytes, d) => bytes.length + uptoBulk d + 1
  | (_, d) => uptoBulk d + 1
 end
def uptoSmall : (H : Type) → List (DataW H) → Bool := fun _ ds => decide (uptoBulkAll ds ≤ 1048576)
def OpenSpec.upto (s : _root_.Go.ChangeSpec) : _root_.Go.OpenSpec := { _root_.Go.OpenSpec.ofChange s with cond := some uptoSmall }

/-- 'bspregionlaw08.ConvexLimit', WHERE WHAT IT READS IS OF BULK AT MOST 1048576: true; the input reads as it did. -/
def convexLimitUptoRow : OpenClaim := { program := "ytnnbfoejafcdlaagreatdoor", sum := "04e44c26205cd05482db80c2395c7a54849523d5492bddaec6e53a71066da278", func := "bspregion/bspregionlaw08.ConvexLimit", spec := "convexLimit", inPlace := ["slices.overlaps[bspregion/geo.Fr]", "internal/reflectlite.TypeOf"], unfollowed := true, recurses := true, named := ["bspregion/api.ErrInvalid", "math/bits.overflowError", "bspregion/api.ErrUnbounded", "bspregion/api.ErrEmpty"], apart := false, laid := [("bspregion/api.ErrInvalid", laid_bspregion_api_ErrInvalid), ("bspregion/api.ErrUnbounded", laid_bspregion_api_ErrUnbounded), ("bspregion/api.ErrEmpty", laid_bspregion_api_ErrEmpty)], narrowed := true }
def ConvexLimitUptoSaid : Prop := convexLimitUptoRow.holds Tryz.pinned (OpenSpec.upto convexLimitSpec)

/-- 'bspregionlaw08.ConvexNeeded', WHERE WHAT IT READS IS OF BULK AT MOST 1048576: true; the input reads as it did. -/
def convexNeededUptoRow : OpenClaim := { program := "ytnnbfoejafcdlaagreatdoor", sum := "04e44c26205cd05482db80c2395c7a54849523d5492bddaec6e53a71066da278", func := "bspregion/bspregionlaw08.ConvexNeeded", spec := "convexNeeded", inPlace := ["slices.overlaps[bspregion/geo.Fr]", "internal/reflectlite.TypeOf"], unfollowed := true, recurses := true, named := ["bspregion/api.ErrEmpty", "math/bits.overflowError", "bspregion/api.ErrInvalid", "bspregion/api.ErrUnbounded"], apart := false, laid := [("bspregion/api.ErrInvalid", laid_bspregion_api_ErrInvalid), ("bspregion/api.ErrUnbounded", laid_bspregion_api_ErrUnbounded), ("bspregion/api.ErrEmpty", laid_bspregion_api_ErrEmpty)], narrowed := true }
def ConvexNeededUptoSaid : Prop := convexNeededUptoRow.holds Tryz.pinned (OpenSpec.upto convexNeededSpec)

/-- 'bspregionlaw08.ConvexMeasures', WHERE WHAT IT READS IS OF BULK AT MOST 1048576: true; the input reads as it did. -/
def convexMeasuresUptoRow : OpenClaim := { program := "ytnnbfoejafcdlaagreatdoor", sum := "04e44c26205cd05482db80c2395c7a54849523d5492bddaec6e53a71066da278", func := "bspregion/bspregionlaw08.ConvexMeasures", spec := "convexMeasures", inPlace := ["slices.overlaps[bspregion/geo.Fr]", "internal/reflectlite.TypeOf"], unfollowed := true, recurses := true, named := ["bspregion/api.ErrEmpty", "bspregion/api.ErrUnbounded", "math/bits.overflowError", "bspregion/api.ErrInvalid"], apart := false, laid := [("bspregion/api.ErrInvalid", laid_bspregion_api_ErrInvalid), ("bspregion/api.ErrUnbounded", laid_bspregion_api_ErrUnbounded), ("bspregion/api.ErrEmpty", laid_bspregion_api_ErrEmpty)], narrowed := true }
def ConvexMeasuresUptoSaid : Prop := convexMeasuresUptoRow.holds Tryz.pinned (OpenSpec.upto convexMeasuresSpec)

/-- 'bspregionlaw08.ConvexClips', WHERE WHAT IT READS IS OF BULK AT MOST 1048576: true; the input reads as it did. -/
def convexClipsUptoRow : OpenClaim := { program := "ytnnbfoejafcdlaagreatdoor", sum := "04e44c26205cd05482db80c2395c7a54849523d5492bddaec6e53a71066da278", func := "bspregion/bspregionlaw08.ConvexClips", spec := "convexClips", inPlace := ["slices.overlaps[bspregion/geo.Fr]", "internal/reflectlite.TypeOf"], unfollowed := true, recurses := true, named := ["bspregion/api.ErrEmpty", "math/bits.overflowError", "bspregion/api.ErrInvalid", "bspregion/api.ErrUnbounded", "bspregion/api.ErrLimit"], apart := false, laid := [("bspregion/api.ErrInvalid", laid_bspregion_api_ErrInvalid), ("bspregion/api.ErrUnbounded", laid_bspregion_api_ErrUnbounded), ("bspregion/api.ErrEmpty", laid_bspregion_api_ErrEmpty), ("bspregion/api.ErrLimit", laid_bspregion_api_ErrLimit)], narrowed := true }
def ConvexClipsUptoSaid : Prop := convexClipsUptoRow.holds Tryz.pinned (OpenSpec.upto convexClipsSpec)

/-- 'bspregionlaw08.ConvexCanon', WHERE WHAT IT READS IS OF BULK AT MOST 1048576: true; the input reads as it did. -/
def convexCanonUptoRow : OpenClaim := { program := "ytnnbfoejafcdlaagreatdoor", sum := "04e44c26205cd05482db80c2395c7a54849523d5492bddaec6e53a71066da278", func := "bspregion/bspregionlaw08.ConvexCanon", spec := "convexCanon", inPlace := ["slices.overlaps[bspregion/geo.Fr]", "internal/reflectlite.TypeOf"], unfollowed := true, recurses := true, named := ["bspregion/api.ErrEmpty", "math/bits.overflowError", "bspregion/api.ErrInvalid", "bspregion/api.ErrLimit", "bspregion/api.ErrUnbounded"], apart := false, laid := [("bspregion/api.ErrInvalid", laid_bspregion_api_ErrInvalid), ("bspregion/api.ErrUnbounded", laid_bspregion_api_ErrUnbounded), ("bspregion/api.ErrEmpty", laid_bspregion_api_ErrEmpty), ("bspregion/api.ErrLimit", laid_bspregion_api_ErrLimit)], narrowed := true }
def ConvexCanonUptoSaid : Prop := convexCanonUptoRow.holds Tryz.pinned (OpenSpec.upto convexCanonSpec)

/-- 'bspregionlaw08.ConvexValid', WHERE WHAT IT READS IS OF BULK AT MOST 1048576: true; the input reads as it did. -/
def convexValidUptoRow : OpenClaim := { program := "ytnnbfoejafcdlaagreatdoor", sum := "04e44c26205cd05482db80c2395c7a54849523d5492bddaec6e53a71066da278", func := "bspregion/bspregionlaw08.ConvexValid", spec := "convexValid", inPlace := ["slices.overlaps[bspregion/geo.Fr]", "internal/reflectlite.TypeOf"], unfollowed := true, recurses := true, named := ["bspregion/api.ErrInvalid", "math/bits.overflowError", "bspregion/api.ErrUnbounded", "bspregion/api.ErrEmpty"], apart := false, laid := [("bspregion/api.ErrInvalid", laid_bspregion_api_ErrInvalid), ("bspregion/api.ErrUnbounded", laid_bspregion_api_ErrUnbounded), ("bspregion/api.ErrEmpty", laid_bspregion_api_ErrEmpty)], narrowed := true }
def ConvexValidUptoSaid : Prop := convexValidUptoRow.holds Tryz.pinned (OpenSpec.upto convexValidSpec)

/-- 'bspregionlaw08.ConvexPlaces', WHERE WHAT IT READS IS OF BULK AT MOST 1048576: true; the input reads as it did. -/
def convexPlacesUptoRow : OpenClaim := { program := "ytnnbfoejafcdlaagreatdoor", sum := "04e44c26205cd05482db80c2395c7a54849523d5492bddaec6e53a71066da278", func := "bspregion/bspregionlaw08.ConvexPlaces", spec := "convexPlaces", inPlace := ["slices.overlaps[bspregion/geo.Fr]", "internal/reflectlite.TypeOf"], unfollowed := true, recurses := true, named := ["bspregion/api.ErrEmpty", "math/bits.overflowError", "bspregion/api.ErrInvalid", "bspregion/api.ErrUnbounded"], apart := false, laid := [("bspregion/api.ErrInvalid", laid_bspregion_api_ErrInvalid), ("bspregion/api.ErrUnbounded", laid_bspregion_api_ErrUnbounded), ("bspregion/api.ErrEmpty", laid_bspregion_api_ErrEmpty)], narrowed := true }
def ConvexPlacesUptoSaid : Prop := convexPlacesUptoRow.holds Tryz.pinned (OpenSpec.upto convexPlacesSpec)

/-- 'bspregionlaw08.ConvexInner', WHERE WHAT IT READS IS OF BULK AT MOST 1048576: true; the input reads as it did. -/
def convexInnerUptoRow : OpenClaim := { program := "ytnnbfoejafcdlaagreatdoor", sum := "04e44c26205cd05482db80c2395c7a54849523d5492bddaec6e53a71066da278", func := "bspregion/bspregionlaw08.ConvexInner", spec := "convexInner", inPlace := ["slices.overlaps[bspregion/geo.Fr]", "internal/reflectlite.TypeOf"], unfollowed := true, recurses := true, named := ["bspregion/api.ErrEmpty", "math/bits.overflowError", "bspregion/api.ErrInvalid", "bspregion/api.ErrUnbounded"], apart := false, laid := [("bspregion/api.ErrInvalid", laid_bspregion_api_ErrInvalid), ("bspregion/api.ErrUnbounded", laid_bspregion_api_ErrUnbounded), ("bspregion/api.ErrEmpty", laid_bspregion_api_ErrEmpty)], narrowed := true }
def ConvexInnerUptoSaid : Prop := convexInnerUptoRow.holds Tryz.pinned (OpenSpec.upto convexInnerSpec)

end Rows
end Go.Proofs.YtnnbfoejafcdlaaGreatDoor
