/-
  NARROWER THAN 'FOR EVERY INPUT', by the rows' own cells (each row's printed sentence says how): LocateClasses: laid · LocateLeaves: laid · LocateAgrees: laid · LocateNear: laid · LocateIndependent: laid · LocateRefuses: laid · TreeValid: laid · TreeSpoilt: laid · FragmentSplits: laid · FragmentJoins: laid · FragmentPoints: laid · FragmentParts: laid.
  DERIVED. THE GIVEN ROWS OF THIS SEAT. 12 by the template 'for every input the law returns true; each argument reads behind the call as it read before'; 0 by the template 'total and deterministic' (their statements: YtcbcbdbheiopbaaGreatDoorTotals.lean).
  GIVEN WITH THE SEED: the statements are not yours to turn. If you find one false, say at which input.
  Laid BY PROGRAM, IN A SANDBOX (cutbox-rows.mjs): the forced cells as the released guide's own fill.sh prints them over the translation 7fc0b295eb0b7001… (all of the seat's roots in one cut). By AI agents, Wed Nov 11 2026. No macro, syntax, notation, axiom, sorry.
-/
import Derived.Test.YtcbcbdbheiopbaaGreatDoorChecked
import GoSem.Claim
import GoSem.ClaimJoined
import GoSem.ClaimMapViews
import Derived.JoinedTies
import Derived.KernelRfl
namespace Go.Proofs.YtcbcbdbheiopbaaGreatDoor
/- THE CELL 'sum', in the pinned program and in every row, IS THE sha256 OF THE DUMP (.gsa) THAT YtcbcbdbheiopbaaGreatDoorProg.lean LOADS. Nothing in Lean hashes anything: it is a label: what it is worth is what the hold of that sum in a sandbox is worth. -/
noncomputable def Tryz.pinned : Pinned := { name := "ytcbcbdbheiopbaagreatdoor", sum := "7fc0b295eb0b7001b08a05788a676121a53eb7515d42bbfdbf5bbd66c57f4581", checked := Tryz.checked }
namespace Rows
def none {H : Type} : Left H := { results := [], args := [] }

/- WHAT THE LISTED PACKAGE-LEVEL VARIABLES READ AS WHEN THE CALL BEGINS. Each datum BY PROGRAM (the guide's laid-datum.mjs) off the statement by which the dump's own 'gosem.cut.vars' lays the variable. In a bare row this is a premise. The card (YtcbcbdbheiopbaaGreatDoorCards.lean) ties it to the program's text. -/
def laid_bspregion_api_ErrInvalid {H : Type} : DataW H := .iface "*errors.errorString" (.ptr (.agg [.lit (.string [105, 110, 118, 97, 108, 105, 100, 32, 118, 97, 108, 117, 101])]))
def laid_bspregion_api_ErrLimit {H : Type} : DataW H := .iface "*errors.errorString" (.ptr (.agg [.lit (.string [108, 105, 109, 105, 116, 32, 101, 120, 99, 101, 101, 100, 101, 100])]))

/-- 'bspregionlaw15.LocateClasses': WHATEVER THE INPUT: true; the input reads as it did. -/
def locateClassesSpec : ChangeSpec := { name := "locateClasses", fn := fun _ => fun
  | [d] => { results := [.lit (.bool true)], args := [d] }
  | _ => none }
def locateClassesRow : OpenClaim := { program := "ytcbcbdbheiopbaagreatdoor", sum := "7fc0b295eb0b7001b08a05788a676121a53eb7515d42bbfdbf5bbd66c57f4581", func := "bspregion/bspregionlaw15.LocateClasses", spec := "locateClasses", unfollowed := true, recurses := true, named := ["math/bits.overflowError", "bspregion/api.ErrInvalid"], apart := false, laid := [("bspregion/api.ErrInvalid", laid_bspregion_api_ErrInvalid)] }
def LocateClassesSaid : Prop := locateClassesRow.holds Tryz.pinned (OpenSpec.ofChange locateClassesSpec)

/-- ITS FALSE NEIGHBOUR: 'it returns false'. Refute it at one input. -/
def locateClassesWrong : ChangeSpec := { name := "locateClasses", fn := fun _ => fun
  | [d] => { results := [.lit (.bool false)], args := [d] }
  | _ => none }
def LocateClassesWrongFalsely : Prop := locateClassesRow.holds Tryz.pinned (OpenSpec.ofChange locateClassesWrong)

/-- 'bspregionlaw15.LocateLeaves': WHATEVER THE INPUT: true; the input reads as it did. -/
def locateLeavesSpec : ChangeSpec := { name := "locateLeaves", fn := fun _ => fun
  | [d] => { results := [.lit (.bool true)], args := [d] }
  | _ => none }
def locateLeavesRow : OpenClaim := { program := "ytcbcbdbheiopbaagreatdoor", sum := "7fc0b295eb0b7001b08a05788a676121a53eb7515d42bbfdbf5bbd66c57f4581", func := "bspregion/bspregionlaw15.LocateLeaves", spec := "locateLeaves", unfollowed := true, recurses := true, named := ["math/bits.overflowError", "bspregion/api.ErrInvalid"], apart := false, laid := [("bspregion/api.ErrInvalid", laid_bspregion_api_ErrInvalid)] }
def LocateLeavesSaid : Prop := locateLeavesRow.holds Tryz.pinned (OpenSpec.ofChange locateLeavesSpec)

/-- ITS FALSE NEIGHBOUR: 'it returns false'. Refute it at one input. -/
def locateLeavesWrong : ChangeSpec := { name := "locateLeaves", fn := fun _ => fun
  | [d] => { results := [.lit (.bool false)], args := [d] }
  | _ => none }
def LocateLeavesWrongFalsely : Prop := locateLeavesRow.holds Tryz.pinned (OpenSpec.ofChange locateLeavesWrong)

/-- 'bspregionlaw15.LocateAgrees': WHATEVER THE INPUT: true; the input reads as it did. -/
def locateAgreesSpec : ChangeSpec := { name := "locateAgrees", fn := fun _ => fun
  | [d] => { results := [.lit (.bool true)], args := [d] }
  | _ => none }
def locateAgreesRow : OpenClaim := { program := "ytcbcbdbheiopbaagreatdoor", sum := "7fc0b295eb0b7001b08a05788a676121a53eb7515d42bbfdbf5bbd66c57f4581", func := "bspregion/bspregionlaw15.LocateAgrees", spec := "locateAgrees", unfollowed := true, recurses := true, named := ["math/bits.overflowError", "bspregion/api.ErrInvalid"], apart := false, laid := [("bspregion/api.ErrInvalid", laid_bspregion_api_ErrInvalid)] }
def LocateAgreesSaid : Prop := locateAgreesRow.holds Tryz.pinned (OpenSpec.ofChange locateAgreesSpec)

/-- ITS FALSE NEIGHBOUR: 'it returns false'. Refute it at one input. -/
def locateAgreesWrong : ChangeSpec := { name := "locateAgrees", fn := fun _ => fun
  | [d] => { results := [.lit (.bool false)], args := [d] }
  | _ => none }
def LocateAgreesWrongFalsely : Prop := locateAgreesRow.holds Tryz.pinned (OpenSpec.ofChange locateAgreesWrong)

/-- 'bspregionlaw15.LocateNear': WHATEVER THE INPUT: true; the input reads as it did. -/
def locateNearSpec : ChangeSpec := { name := "locateNear", fn := fun _ => fun
  | [d] => { results := [.lit (.bool true)], args := [d] }
  | _ => none }
def locateNearRow : OpenClaim := { program := "ytcbcbdbheiopbaagreatdoor", sum := "7fc0b295eb0b7001b08a05788a676121a53eb7515d42bbfdbf5bbd66c57f4581", func := "bspregion/bspregionlaw15.LocateNear", spec := "locateNear", unfollowed := true, recurses := true, named := ["math/bits.overflowError", "bspregion/api.ErrInvalid"], apart := false, laid := [("bspregion/api.ErrInvalid", laid_bspregion_api_ErrInvalid)] }
def LocateNearSaid : Prop := locateNearRow.holds Tryz.pinned (OpenSpec.ofChange locateNearSpec)

/-- ITS FALSE NEIGHBOUR: 'it returns false'. Refute it at one input. -/
def locateNearWrong : ChangeSpec := { name := "locateNear", fn := fun _ => fun
  | [d] => { results := [.lit (.bool false)], args := [d] }
  | _ => none }
def LocateNearWrongFalsely : Prop := locateNearRow.holds Tryz.pinned (OpenSpec.ofChange locateNearWrong)

/-- 'bspregionlaw15.LocateIndependent': WHATEVER THE INPUT: true; the input reads as it did. -/
def locateIndependentSpec : ChangeSpec := { name := "locateIndependent", fn := fun _ => fun
  | [d] => { results := [.lit (.bool true)], args := [d] }
  | _ => none }
def locateIndependentRow : OpenClaim := { program := "ytcbcbdbheiopbaagreatdoor", sum := "7fc0b295eb0b7001b08a05788a676121a53eb7515d42bbfdbf5bbd66c57f4581", func := "bspregion/bspregionlaw15.LocateIndependent", spec := "locateIndependent", unfollowed := true, recurses := true, named := ["math/bits.overflowError", "bspregion/api.ErrInvalid"], apart := false, laid := [("bspregion/api.ErrInvalid", laid_bspregion_api_ErrInvalid)] }
def LocateIndependentSaid : Prop := locateIndependentRow.holds Tryz.pinned (OpenSpec.ofChange locateIndependentSpec)

/-- ITS FALSE NEIGHBOUR: 'it returns false'. Refute it at one input. -/
def locateIndependentWrong : ChangeSpec := { name := "locateIndependent", fn := fun _ => fun
  | [d] => { results := [.lit (.bool false)], args := [d] }
  | _ => none }
def LocateIndependentWrongFalsely : Prop := locateIndependentRow.holds Tryz.pinned (OpenSpec.ofChange locateIndependentWrong)

/-- 'bspregionlaw15.LocateRefuses': WHATEVER THE INPUT: true; the input reads as it did. -/
def locateRefusesSpec : ChangeSpec := { name := "locateRefuses", fn := fun _ => fun
  | [d1, d2, d3] => { results := [.lit (.bool true)], args := [d1, d2, d3] }
  | _ => none }
def locateRefusesRow : OpenClaim := { program := "ytcbcbdbheiopbaagreatdoor", sum := "7fc0b295eb0b7001b08a05788a676121a53eb7515d42bbfdbf5bbd66c57f4581", func := "bspregion/bspregionlaw15.LocateRefuses", spec := "locateRefuses", inPlace := ["internal/reflectlite.TypeOf"], unfollowed := true, recurses := true, named := ["bspregion/api.ErrInvalid", "math/bits.overflowError"], apart := false, laid := [("bspregion/api.ErrInvalid", laid_bspregion_api_ErrInvalid)] }
def LocateRefusesSaid : Prop := locateRefusesRow.holds Tryz.pinned (OpenSpec.ofChange locateRefusesSpec)

/-- ITS FALSE NEIGHBOUR: 'it returns false'. Refute it at one input. -/
def locateRefusesWrong : ChangeSpec := { name := "locateRefuses", fn := fun _ => fun
  | [d1, d2, d3] => { results := [.lit (.bool false)], args := [d1, d2, d3] }
  | _ => none }
def LocateRefusesWrongFalsely : Prop := locateRefusesRow.holds Tryz.pinned (OpenSpec.ofChange locateRefusesWrong)

/-- 'bspregionlaw14.TreeValid': WHATEVER THE INPUT: true; the input reads as it did. -/
def treeValidSpec : ChangeSpec := { name := "treeValid", fn := fun _ => fun
  | [d] => { results := [.lit (.bool true)], args := [d] }
  | _ => none }
def treeValidRow : OpenClaim := { program := "ytcbcbdbheiopbaagreatdoor", sum := "7fc0b295eb0b7001b08a05788a676121a53eb7515d42bbfdbf5bbd66c57f4581", func := "bspregion/bspregionlaw14.TreeValid", spec := "treeValid", inPlace := ["internal/reflectlite.TypeOf"], unfollowed := true, recurses := true, named := ["bspregion/api.ErrInvalid", "math/bits.overflowError", "bspregion/api.ErrLimit"], apart := false, laid := [("bspregion/api.ErrInvalid", laid_bspregion_api_ErrInvalid), ("bspregion/api.ErrLimit", laid_bspregion_api_ErrLimit)] }
def TreeValidSaid : Prop := treeValidRow.holds Tryz.pinned (OpenSpec.ofChange treeValidSpec)

/-- ITS FALSE NEIGHBOUR: 'it returns false'. Refute it at one input. -/
def treeValidWrong : ChangeSpec := { name := "treeValid", fn := fun _ => fun
  | [d] => { results := [.lit (.bool false)], args := [d] }
  | _ => none }
def TreeValidWrongFalsely : Prop := treeValidRow.holds Tryz.pinned (OpenSpec.ofChange treeValidWrong)

/-- 'bspregionlaw14.TreeSpoilt': WHATEVER THE INPUT: true; the input reads as it did. -/
def treeSpoiltSpec : ChangeSpec := { name := "treeSpoilt", fn := fun _ => fun
  | [d1, d2, d3] => { results := [.lit (.bool true)], args := [d1, d2, d3] }
  | _ => none }
def treeSpoiltRow : OpenClaim := { program := "ytcbcbdbheiopbaagreatdoor", sum := "7fc0b295eb0b7001b08a05788a676121a53eb7515d42bbfdbf5bbd66c57f4581", func := "bspregion/bspregionlaw14.TreeSpoilt", spec := "treeSpoilt", inPlace := ["internal/reflectlite.TypeOf"], unfollowed := true, recurses := true, named := ["math/bits.overflowError", "bspregion/api.ErrInvalid", "bspregion/api.ErrLimit"], apart := false, laid := [("bspregion/api.ErrInvalid", laid_bspregion_api_ErrInvalid), ("bspregion/api.ErrLimit", laid_bspregion_api_ErrLimit)] }
def TreeSpoiltSaid : Prop := treeSpoiltRow.holds Tryz.pinned (OpenSpec.ofChange treeSpoiltSpec)

/-- ITS FALSE NEIGHBOUR: 'it returns false'. Refute it at one input. -/
def treeSpoiltWrong : ChangeSpec := { name := "treeSpoilt", fn := fun _ => fun
  | [d1, d2, d3] => { results := [.lit (.bool false)], args := [d1, d2, d3] }
  | _ => none }
def TreeSpoiltWrongFalsely : Prop := treeSpoiltRow.holds Tryz.pinned (OpenSpec.ofChange treeSpoiltWrong)

/-- 'bspregionlaw07.FragmentSplits': WHATEVER THE INPUT: true; the input reads as it did. -/
def fragmentSplitsSpec : ChangeSpec := { name := "fragmentSplits", fn := fun _ => fun
  | [d] => { results := [.lit (.bool true)], args := [d] }
  | _ => none }
def fragmentSplitsRow : OpenClaim := { program := "ytcbcbdbheiopbaagreatdoor", sum := "7fc0b295eb0b7001b08a05788a676121a53eb7515d42bbfdbf5bbd66c57f4581", func := "bspregion/bspregionlaw07.FragmentSplits", spec := "fragmentSplits", unfollowed := true, recurses := true, named := ["math/bits.overflowError", "bspregion/api.ErrInvalid"], apart := false, laid := [("bspregion/api.ErrInvalid", laid_bspregion_api_ErrInvalid)] }
def FragmentSplitsSaid : Prop := fragmentSplitsRow.holds Tryz.pinned (OpenSpec.ofChange fragmentSplitsSpec)

/-- ITS FALSE NEIGHBOUR: 'it returns false'. Refute it at one input. -/
def fragmentSplitsWrong : ChangeSpec := { name := "fragmentSplits", fn := fun _ => fun
  | [d] => { results := [.lit (.bool false)], args := [d] }
  | _ => none }
def FragmentSplitsWrongFalsely : Prop := fragmentSplitsRow.holds Tryz.pinned (OpenSpec.ofChange fragmentSplitsWrong)

/-- 'bspregionlaw07.FragmentJoins': WHATEVER THE INPUT: true; the input reads as it did. -/
def fragmentJoinsSpec : ChangeSpec := { name := "fragmentJoins", fn := fun _ => fun
  | [d] => { results := [.lit (.bool true)], args := [d] }
  | _ => none }
def fragmentJoinsRow : OpenClaim := { program := "ytcbcbdbheiopbaagreatdoor", sum := "7fc0b295eb0b7001b08a05788a676121a53eb7515d42bbfdbf5bbd66c57f4581", func := "bspregion/bspregionlaw07.FragmentJoins", spec := "fragmentJoins", unfollowed := true, recurses := true, named := ["math/bits.overflowError", "bspregion/api.ErrInvalid"], apart := false, laid := [("bspregion/api.ErrInvalid", laid_bspregion_api_ErrInvalid)] }
def FragmentJoinsSaid : Prop := fragmentJoinsRow.holds Tryz.pinned (OpenSpec.ofChange fragmentJoinsSpec)

/-- ITS FALSE NEIGHBOUR: 'it returns false'. Refute it at one input. -/
def fragmentJoinsWrong : ChangeSpec := { name := "fragmentJoins", fn := fun _ => fun
  | [d] => { results := [.lit (.bool false)], args := [d] }
  | _ => none }
def FragmentJoinsWrongFalsely : Prop := fragmentJoinsRow.holds Tryz.pinned (OpenSpec.ofChange fragmentJoinsWrong)

/-- 'bspregionlaw07.FragmentPoints': WHATEVER THE INPUT: true; the input reads as it did. -/
def fragmentPointsSpec : ChangeSpec := { name := "fragmentPoints", fn := fun _ => fun
  | [d] => { results := [.lit (.bool true)], args := [d] }
  | _ => none }
def fragmentPointsRow : OpenClaim := { program := "ytcbcbdbheiopbaagreatdoor", sum := "7fc0b295eb0b7001b08a05788a676121a53eb7515d42bbfdbf5bbd66c57f4581", func := "bspregion/bspregionlaw07.FragmentPoints", spec := "fragmentPoints", unfollowed := true, recurses := true, named := ["math/bits.overflowError", "bspregion/api.ErrInvalid"], apart := false, laid := [("bspregion/api.ErrInvalid", laid_bspregion_api_ErrInvalid)] }
def FragmentPointsSaid : Prop := fragmentPointsRow.holds Tryz.pinned (OpenSpec.ofChange fragmentPointsSpec)

/-- ITS FALSE NEIGHBOUR: 'it returns false'. Refute it at one input. -/
def fragmentPointsWrong : ChangeSpec := { name := "fragmentPoints", fn := fun _ => fun
  | [d] => { results := [.lit (.bool false)], args := [d] }
  | _ => none }
def FragmentPointsWrongFalsely : Prop := fragmentPointsRow.holds Tryz.pinned (OpenSpec.ofChange fragmentPointsWrong)

/-- 'bspregionlaw07.FragmentParts': WHATEVER THE INPUT: true; the input reads as it did. -/
def fragmentPartsSpec : ChangeSpec := { name := "fragmentParts", fn := fun _ => fun
  | [d] => { results := [.lit (.bool true)], args := [d] }
  | _ => none }
def fragmentPartsRow : OpenClaim := { program := "ytcbcbdbheiopbaagreatdoor", sum := "7fc0b295eb0b7001b08a05788a676121a53eb7515d42bbfdbf5bbd66c57f4581", func := "bspregion/bspregionlaw07.FragmentParts", spec := "fragmentParts", unfollowed := true, recurses := true, named := ["math/bits.overflowError", "bspregion/api.ErrInvalid"], apart := false, laid := [("bspregion/api.ErrInvalid", laid_bspregion_api_ErrInvalid)] }
def FragmentPartsSaid : Prop := fragmentPartsRow.holds Tryz.pinned (OpenSpec.ofChange fragmentPartsSpec)

/-- ITS FALSE NEIGHBOUR: 'it returns false'. Refute it at one input. -/
def fragmentPartsWrong : ChangeSpec := { name := "fragmentParts", fn := fun _ => fun
  | [d] => { results := [.lit (.bool false)], args := [d] }
  | _ => none }
def FragmentPartsWrongFalsely : Prop := fragmentPartsRow.holds Tryz.pinned (OpenSpec.ofChange fragmentPartsWrong)

/- THE SECOND FORM. 'bulk': how many values and letters a reading holds, each counted each time it is reached (what is shared counts as often as it is met; a slice's spare places count too). A statement '..UptoSaid' is the law's where the arguments, and the package variables that the reading takes, are together of bulk at most 1048576: NARROWER than '..Said'. Prove '..Said' where nothing that the law and all that it calls make is longer than what came in: it says more and counts as full. Else prove '..UptoSaid'. A law counts once. -/
mutual
def uptoBulk {H : Type} : DataW H → Nat
  | .lit (.string bytes) => bytes.length + 1
  | .lit _ => 1
  | .nil => 1
  | .ptr d => uptoBulk d + 1
  | .slice elems spare => uptoBulkAll elems + uptoBulkAll spare + 1
  | .agg parts => uptoBulkAll parts + 1
  | .iface _ d => uptoBulk d + 1
  | .map entries => uptoBulkEntries entries + 1
  | .held _ => 1
def uptoBulkAll {H : Type} : List (DataW H) → Nat
  | [] => 0
  | d :: r => uptoBulk d + uptoBulkAll r
def uptoBulkEntries {H : Type} : List (Lit × DataW H) → Nat
  | [] => 0
  | x :: r => uptoBulkEntry x + uptoBulkEntries r
def uptoBulkEntry {H : Type} : Lit × DataW H → Nat
  | (.string bytes, d) => bytes.length + uptoBulk d + 1
  | (_, d) => uptoBulk d + 1
 end
def uptoSmall : (H : Type) → List (DataW H) → Bool := fun _ ds => decide (uptoBulkAll ds ≤ 1048576)
def OpenSpec.upto (s : _root_.Go.ChangeSpec) : _root_.Go.OpenSpec := { _root_.Go.OpenSpec.ofChange s with cond := some uptoSmall }

/-- 'bspregionlaw15.LocateClasses', WHERE WHAT IT READS IS OF BULK AT MOST 1048576: true; the input reads as it did. -/
def locateClassesUptoRow : OpenClaim := { program := "ytcbcbdbheiopbaagreatdoor", sum := "7fc0b295eb0b7001b08a05788a676121a53eb7515d42bbfdbf5bbd66c57f4581", func := "bspregion/bspregionlaw15.LocateClasses", spec := "locateClasses", unfollowed := true, recurses := true, named := ["math/bits.overflowError", "bspregion/api.ErrInvalid"], apart := false, laid := [("bspregion/api.ErrInvalid", laid_bspregion_api_ErrInvalid)], narrowed := true }
def LocateClassesUptoSaid : Prop := locateClassesUptoRow.holds Tryz.pinned (OpenSpec.upto locateClassesSpec)

/-- 'bspregionlaw15.LocateLeaves', WHERE WHAT IT READS IS OF BULK AT MOST 1048576: true; the input reads as it did. -/
def locateLeavesUptoRow : OpenClaim := { program := "ytcbcbdbheiopbaagreatdoor", sum := "7fc0b295eb0b7001b08a05788a676121a53eb7515d42bbfdbf5bbd66c57f4581", func := "bspregion/bspregionlaw15.LocateLeaves", spec := "locateLeaves", unfollowed := true, recurses := true, named := ["math/bits.overflowError", "bspregion/api.ErrInvalid"], apart := false, laid := [("bspregion/api.ErrInvalid", laid_bspregion_api_ErrInvalid)], narrowed := true }
def LocateLeavesUptoSaid : Prop := locateLeavesUptoRow.holds Tryz.pinned (OpenSpec.upto locateLeavesSpec)

/-- 'bspregionlaw15.LocateAgrees', WHERE WHAT IT READS IS OF BULK AT MOST 1048576: true; the input reads as it did. -/
def locateAgreesUptoRow : OpenClaim := { program := "ytcbcbdbheiopbaagreatdoor", sum := "7fc0b295eb0b7001b08a05788a676121a53eb7515d42bbfdbf5bbd66c57f4581", func := "bspregion/bspregionlaw15.LocateAgrees", spec := "locateAgrees", unfollowed := true, recurses := true, named := ["math/bits.overflowError", "bspregion/api.ErrInvalid"], apart := false, laid := [("bspregion/api.ErrInvalid", laid_bspregion_api_ErrInvalid)], narrowed := true }
def LocateAgreesUptoSaid : Prop := locateAgreesUptoRow.holds Tryz.pinned (OpenSpec.upto locateAgreesSpec)

/-- 'bspregionlaw15.LocateNear', WHERE WHAT IT READS IS OF BULK AT MOST 1048576: true; the input reads as it did. -/
def locateNearUptoRow : OpenClaim := { program := "ytcbcbdbheiopbaagreatdoor", sum := "7fc0b295eb0b7001b08a05788a676121a53eb7515d42bbfdbf5bbd66c57f4581", func := "bspregion/bspregionlaw15.LocateNear", spec := "locateNear", unfollowed := true, recurses := true, named := ["math/bits.overflowError", "bspregion/api.ErrInvalid"], apart := false, laid := [("bspregion/api.ErrInvalid", laid_bspregion_api_ErrInvalid)], narrowed := true }
def LocateNearUptoSaid : Prop := locateNearUptoRow.holds Tryz.pinned (OpenSpec.upto locateNearSpec)

/-- 'bspregionlaw15.LocateIndependent', WHERE WHAT IT READS IS OF BULK AT MOST 1048576: true; the input reads as it did. -/
def locateIndependentUptoRow : OpenClaim := { program := "ytcbcbdbheiopbaagreatdoor", sum := "7fc0b295eb0b7001b08a05788a676121a53eb7515d42bbfdbf5bbd66c57f4581", func := "bspregion/bspregionlaw15.LocateIndependent", spec := "locateIndependent", unfollowed := true, recurses := true, named := ["math/bits.overflowError", "bspregion/api.ErrInvalid"], apart := false, laid := [("bspregion/api.ErrInvalid", laid_bspregion_api_ErrInvalid)], narrowed := true }
def LocateIndependentUptoSaid : Prop := locateIndependentUptoRow.holds Tryz.pinned (OpenSpec.upto locateIndependentSpec)

/-- 'bspregionlaw15.LocateRefuses', WHERE WHAT IT READS IS OF BULK AT MOST 1048576: true; the input reads as it did. -/
def locateRefusesUptoRow : OpenClaim := { program := "ytcbcbdbheiopbaagreatdoor", sum := "7fc0b295eb0b7001b08a05788a676121a53eb7515d42bbfdbf5bbd66c57f4581", func := "bspregion/bspregionlaw15.LocateRefuses", spec := "locateRefuses", inPlace := ["internal/reflectlite.TypeOf"], unfollowed := true, recurses := true, named := ["bspregion/api.ErrInvalid", "math/bits.overflowError"], apart := false, laid := [("bspregion/api.ErrInvalid", laid_bspregion_api_ErrInvalid)], narrowed := true }
def LocateRefusesUptoSaid : Prop := locateRefusesUptoRow.holds Tryz.pinned (OpenSpec.upto locateRefusesSpec)

/-- 'bspregionlaw14.TreeValid', WHERE WHAT IT READS IS OF BULK AT MOST 1048576: true; the input reads as it did. -/
def treeValidUptoRow : OpenClaim := { program := "ytcbcbdbheiopbaagreatdoor", sum := "7fc0b295eb0b7001b08a05788a676121a53eb7515d42bbfdbf5bbd66c57f4581", func := "bspregion/bspregionlaw14.TreeValid", spec := "treeValid", inPlace := ["internal/reflectlite.TypeOf"], unfollowed := true, recurses := true, named := ["bspregion/api.ErrInvalid", "math/bits.overflowError", "bspregion/api.ErrLimit"], apart := false, laid := [("bspregion/api.ErrInvalid", laid_bspregion_api_ErrInvalid), ("bspregion/api.ErrLimit", laid_bspregion_api_ErrLimit)], narrowed := true }
def TreeValidUptoSaid : Prop := treeValidUptoRow.holds Tryz.pinned (OpenSpec.upto treeValidSpec)

/-- 'bspregionlaw14.TreeSpoilt', WHERE WHAT IT READS IS OF BULK AT MOST 1048576: true; the input reads as it did. -/
def treeSpoiltUptoRow : OpenClaim := { program := "ytcbcbdbheiopbaagreatdoor", sum := "7fc0b295eb0b7001b08a05788a676121a53eb7515d42bbfdbf5bbd66c57f4581", func := "bspregion/bspregionlaw14.TreeSpoilt", spec := "treeSpoilt", inPlace := ["internal/reflectlite.TypeOf"], unfollowed := true, recurses := true, named := ["math/bits.overflowError", "bspregion/api.ErrInvalid", "bspregion/api.ErrLimit"], apart := false, laid := [("bspregion/api.ErrInvalid", laid_bspregion_api_ErrInvalid), ("bspregion/api.ErrLimit", laid_bspregion_api_ErrLimit)], narrowed := true }
def TreeSpoiltUptoSaid : Prop := treeSpoiltUptoRow.holds Tryz.pinned (OpenSpec.upto treeSpoiltSpec)

/-- 'bspregionlaw07.FragmentSplits', WHERE WHAT IT READS IS OF BULK AT MOST 1048576: true; the input reads as it did. -/
def fragmentSplitsUptoRow : OpenClaim := { program := "ytcbcbdbheiopbaagreatdoor", sum := "7fc0b295eb0b7001b08a05788a676121a53eb7515d42bbfdbf5bbd66c57f4581", func := "bspregion/bspregionlaw07.FragmentSplits", spec := "fragmentSplits", unfollowed := true, recurses := true, named := ["math/bits.overflowError", "bspregion/api.ErrInvalid"], apart := false, laid := [("bspregion/api.ErrInvalid", laid_bspregion_api_ErrInvalid)], narrowed := true }
def FragmentSplitsUptoSaid : Prop := fragmentSplitsUptoRow.holds Tryz.pinned (OpenSpec.upto fragmentSplitsSpec)

/-- 'bspregionlaw07.FragmentJoins', WHERE WHAT IT READS IS OF BULK AT MOST 1048576: true; the input reads as it did. -/
def fragmentJoinsUptoRow : OpenClaim := { program := "ytcbcbdbheiopbaagreatdoor", sum := "7fc0b295eb0b7001b08a05788a676121a53eb7515d42bbfdbf5bbd66c57f4581", func := "bspregion/bspregionlaw07.FragmentJoins", spec := "fragmentJoins", unfollowed := true, recurses := true, named := ["math/bits.overflowError", "bspregion/api.ErrInvalid"], apart := false, laid := [("bspregion/api.ErrInvalid", laid_bspregion_api_ErrInvalid)], narrowed := true }
def FragmentJoinsUptoSaid : Prop := fragmentJoinsUptoRow.holds Tryz.pinned (OpenSpec.upto fragmentJoinsSpec)

/-- 'bspregionlaw07.FragmentPoints', WHERE WHAT IT READS IS OF BULK AT MOST 1048576: true; the input reads as it did. -/
def fragmentPointsUptoRow : OpenClaim := { program := "ytcbcbdbheiopbaagreatdoor", sum := "7fc0b295eb0b7001b08a05788a676121a53eb7515d42bbfdbf5bbd66c57f4581", func := "bspregion/bspregionlaw07.FragmentPoints", spec := "fragmentPoints", unfollowed := true, recurses := true, named := ["math/bits.overflowError", "bspregion/api.ErrInvalid"], apart := false, laid := [("bspregion/api.ErrInvalid", laid_bspregion_api_ErrInvalid)], narrowed := true }
def FragmentPointsUptoSaid : Prop := fragmentPointsUptoRow.holds Tryz.pinned (OpenSpec.upto fragmentPointsSpec)

/-- 'bspregionlaw07.FragmentParts', WHERE WHAT IT READS IS OF BULK AT MOST 1048576: true; the input reads as it did. -/
def fragmentPartsUptoRow : OpenClaim := { program := "ytcbcbdbheiopbaagreatdoor", sum := "7fc0b295eb0b7001b08a05788a676121a53eb7515d42bbfdbf5bbd66c57f4581", func := "bspregion/bspregionlaw07.FragmentParts", spec := "fragmentParts", unfollowed := true, recurses := true, named := ["math/bits.overflowError", "bspregion/api.ErrInvalid"], apart := false, laid := [("bspregion/api.ErrInvalid", laid_bspregion_api_ErrInvalid)], narrowed := true }
def FragmentPartsUptoSaid : Prop := fragmentPartsUptoRow.holds Tryz.pinned (OpenSpec.upto fragmentPartsSpec)

end Rows
end Go.Proofs.YtcbcbdbheiopbaaGreatDoor
