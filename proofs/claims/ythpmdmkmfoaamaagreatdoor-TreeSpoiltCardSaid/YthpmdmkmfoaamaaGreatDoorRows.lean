/-
  NARROWER THAN 'FOR EVERY INPUT', by the rows' own cells (each row's printed sentence says how): LocateClasses: laid · LocateNear: laid · LocateIndependent: laid · LocateAgrees: laid · LocateRefuses: laid · TreeValid: laid · TreeSpoilt: laid.
  DERIVED. THE GIVEN ROWS OF THIS SEAT. 7 by the template 'for every input the law returns true; each argument reads behind the call as it read before'; 0 by the template 'total and deterministic' (their statements: YthpmdmkmfoaamaaGreatDoorTotals.lean).
  GIVEN WITH THE SEED: the statements are not yours to turn. If you find one false, say at which input.
  Laid BY PROGRAM, IN A SANDBOX (cutbox-rows.mjs): the forced cells as the released guide's own fill.sh prints them over the translation 28e67a57ca4e4d9b… (all of the seat's roots in one cut). By AI agents, Wed Nov 11 2026. No macro, syntax, notation, axiom, sorry.
-/
import Derived.Test.YthpmdmkmfoaamaaGreatDoorChecked
import GoSem.Claim
import GoSem.ClaimJoined
import GoSem.ClaimMapViews
import Derived.JoinedTies
import Derived.KernelRfl
namespace Go.Proofs.YthpmdmkmfoaamaaGreatDoor
/- THE CELL 'sum', in the pinned program and in every row, IS THE sha256 OF THE DUMP (.gsa) THAT YthpmdmkmfoaamaaGreatDoorProg.lean LOADS. Nothing in Lean hashes anything: it is a label: what it is worth is what the hold of that sum in a sandbox is worth. -/
noncomputable def Tryz.pinned : Pinned := { name := "ythpmdmkmfoaamaagreatdoor", sum := "28e67a57ca4e4d9b8fd0f09b4d918fc97633de25f6bac1d9d0526adfbae30d6d", checked := Tryz.checked }
namespace Rows
def none {H : Type} : Left H := { results := [], args := [] }

/- WHAT THE LISTED PACKAGE-LEVEL VARIABLES READ AS WHEN THE CALL BEGINS. Each datum BY PROGRAM (the guide's laid-datum.mjs) off the statement by which the dump's own 'gosem.cut.vars' lays the variable. In a bare row this is a premise. The card (YthpmdmkmfoaamaaGreatDoorCards.lean) ties it to the program's text. -/
def laid_bspregion_api_ErrInvalid {H : Type} : DataW H := .iface "*errors.errorString" (.ptr (.agg [.lit (.string [105, 110, 118, 97, 108, 105, 100, 32, 118, 97, 108, 117, 101])]))
def laid_bspregion_api_ErrLimit {H : Type} : DataW H := .iface "*errors.errorString" (.ptr (.agg [.lit (.string [108, 105, 109, 105, 116, 32, 101, 120, 99, 101, 101, 100, 101, 100])]))

/-- 'bspregionlaw15.LocateClasses': WHATEVER THE INPUT: true; the input reads as it did. -/
def locateClassesSpec : ChangeSpec := { name := "locateClasses", fn := fun _ => fun
  | [d] => { results := [.lit (.bool true)], args := [d] }
  | _ => none }
def locateClassesRow : OpenClaim := { program := "ythpmdmkmfoaamaagreatdoor", sum := "28e67a57ca4e4d9b8fd0f09b4d918fc97633de25f6bac1d9d0526adfbae30d6d", func := "bspregion/bspregionlaw15.LocateClasses", spec := "locateClasses", unfollowed := true, recurses := true, named := ["math/bits.overflowError", "bspregion/api.ErrInvalid"], apart := false, laid := [("bspregion/api.ErrInvalid", laid_bspregion_api_ErrInvalid)] }
def LocateClassesSaid : Prop := locateClassesRow.holds Tryz.pinned (OpenSpec.ofChange locateClassesSpec)

/-- ITS FALSE NEIGHBOUR: 'it returns false'. Refute it at one input. -/
def locateClassesWrong : ChangeSpec := { name := "locateClasses", fn := fun _ => fun
  | [d] => { results := [.lit (.bool false)], args := [d] }
  | _ => none }
def LocateClassesWrongFalsely : Prop := locateClassesRow.holds Tryz.pinned (OpenSpec.ofChange locateClassesWrong)

/-- 'bspregionlaw15.LocateNear': WHATEVER THE INPUT: true; the input reads as it did. -/
def locateNearSpec : ChangeSpec := { name := "locateNear", fn := fun _ => fun
  | [d] => { results := [.lit (.bool true)], args := [d] }
  | _ => none }
def locateNearRow : OpenClaim := { program := "ythpmdmkmfoaamaagreatdoor", sum := "28e67a57ca4e4d9b8fd0f09b4d918fc97633de25f6bac1d9d0526adfbae30d6d", func := "bspregion/bspregionlaw15.LocateNear", spec := "locateNear", unfollowed := true, recurses := true, named := ["math/bits.overflowError", "bspregion/api.ErrInvalid"], apart := false, laid := [("bspregion/api.ErrInvalid", laid_bspregion_api_ErrInvalid)] }
def LocateNearSaid : Prop := locateNearRow.holds Tryz.pinned (OpenSpec.ofChange locateNearSpec)

/-- ITS FALSE NEIGHBOUR: 'it returns false'. Refute it at one input. -/
def locateNearWrong : ChangeSpec := { name := "locateNear", fn := fun _ => fun
  | [d] => { results := [.lit (.bool false)], args := [d] }
  | _ => none }
def LocateNearWrongFalsely : Prop := locateNearRow.holds Tryz.pinned (OpenSpec.ofChange locateNearWrong)

/-- 'bspregionlaw15.LocateIndependent': WHATEVER THE INPUT: true; the input reads as it did. -/
def locateIndependentSpec : ChangeSpec := { name := "locateIndependent", fn := fun _ => fun
  | [d] => { results := [.lit (.bool true)], args := [d] }
  | _ => none }
def locateIndependentRow : OpenClaim := { program := "ythpmdmkmfoaamaagreatdoor", sum := "28e67a57ca4e4d9b8fd0f09b4d918fc97633de25f6bac1d9d0526adfbae30d6d", func := "bspregion/bspregionlaw15.LocateIndependent", spec := "locateIndependent", unfollowed := true, recurses := true, named := ["math/bits.overflowError", "bspregion/api.ErrInvalid"], apart := false, laid := [("bspregion/api.ErrInvalid", laid_bspregion_api_ErrInvalid)] }
def LocateIndependentSaid : Prop := locateIndependentRow.holds Tryz.pinned (OpenSpec.ofChange locateIndependentSpec)

/-- ITS FALSE NEIGHBOUR: 'it returns false'. Refute it at one input. -/
def locateIndependentWrong : ChangeSpec := { name := "locateIndependent", fn := fun _ => fun
  | [d] => { results := [.lit (.bool false)], args := [d] }
  | _ => none }
def LocateIndependentWrongFalsely : Prop := locateIndependentRow.holds Tryz.pinned (OpenSpec.ofChange locateIndependentWrong)

/-- 'bspregionlaw15.LocateAgrees': WHATEVER THE INPUT: true; the input reads as it did. -/
def locateAgreesSpec : ChangeSpec := { name := "locateAgrees", fn := fun _ => fun
  | [d] => { results := [.lit (.bool true)], args := [d] }
  | _ => none }
def locateAgreesRow : OpenClaim := { program := "ythpmdmkmfoaamaagreatdoor", sum := "28e67a57ca4e4d9b8fd0f09b4d918fc97633de25f6bac1d9d0526adfbae30d6d", func := "bspregion/bspregionlaw15.LocateAgrees", spec := "locateAgrees", unfollowed := true, recurses := true, named := ["math/bits.overflowError", "bspregion/api.ErrInvalid"], apart := false, laid := [("bspregion/api.ErrInvalid", laid_bspregion_api_ErrInvalid)] }
def LocateAgreesSaid : Prop := locateAgreesRow.holds Tryz.pinned (OpenSpec.ofChange locateAgreesSpec)

/-- ITS FALSE NEIGHBOUR: 'it returns false'. Refute it at one input. -/
def locateAgreesWrong : ChangeSpec := { name := "locateAgrees", fn := fun _ => fun
  | [d] => { results := [.lit (.bool false)], args := [d] }
  | _ => none }
def LocateAgreesWrongFalsely : Prop := locateAgreesRow.holds Tryz.pinned (OpenSpec.ofChange locateAgreesWrong)

/-- 'bspregionlaw15.LocateRefuses': WHATEVER THE INPUT: true; the input reads as it did. -/
def locateRefusesSpec : ChangeSpec := { name := "locateRefuses", fn := fun _ => fun
  | [d1, d2, d3] => { results := [.lit (.bool true)], args := [d1, d2, d3] }
  | _ => none }
def locateRefusesRow : OpenClaim := { program := "ythpmdmkmfoaamaagreatdoor", sum := "28e67a57ca4e4d9b8fd0f09b4d918fc97633de25f6bac1d9d0526adfbae30d6d", func := "bspregion/bspregionlaw15.LocateRefuses", spec := "locateRefuses", inPlace := ["internal/reflectlite.TypeOf"], unfollowed := true, recurses := true, named := ["bspregion/api.ErrInvalid", "math/bits.overflowError"], apart := false, laid := [("bspregion/api.ErrInvalid", laid_bspregion_api_ErrInvalid)] }
def LocateRefusesSaid : Prop := locateRefusesRow.holds Tryz.pinned (OpenSpec.ofChange locateRefusesSpec)

/-- ITS FALSE NEIGHBOUR: 'it returns false'. Refute it at one input. -/
def locateRefusesWrong : ChangeSpec := { name := "locateRefuses", fn := fun _ => fun
  | [d1, d2, d3] => { results := [.lit (.bool false)], args := [d1, d2, d3] }
  | _ => none }
def LocateRefusesWrongFalsely : Prop := locateRefusesRow.holds Tryz.pinned (OpenSpec.ofChange locateRefusesWrong)

/-- 'bspregionlaw14.TreeValid': WHATEVER THE INPUT: true; the input reads as it did. -/
def treeValidSpec : ChangeSpec := { name := "treeValid", fn := fun _ => fun
  | [d] => { results := [.lit (.bool true)], args := [d] }
  | _ => none }
def treeValidRow : OpenClaim := { program := "ythpmdmkmfoaamaagreatdoor", sum := "28e67a57ca4e4d9b8fd0f09b4d918fc97633de25f6bac1d9d0526adfbae30d6d", func := "bspregion/bspregionlaw14.TreeValid", spec := "treeValid", inPlace := ["internal/reflectlite.TypeOf"], unfollowed := true, recurses := true, named := ["bspregion/api.ErrInvalid", "math/bits.overflowError", "bspregion/api.ErrLimit"], apart := false, laid := [("bspregion/api.ErrInvalid", laid_bspregion_api_ErrInvalid), ("bspregion/api.ErrLimit", laid_bspregion_api_ErrLimit)] }
def TreeValidSaid : Prop := treeValidRow.holds Tryz.pinned (OpenSpec.ofChange treeValidSpec)

/-- ITS FALSE NEIGHBOUR: 'it returns false'. Refute it at one input. -/
def treeValidWrong : ChangeSpec := { name := "treeValid", fn := fun _ => fun
  | [d] => { results := [.lit (.bool false)], args := [d] }
  | _ => none }
def TreeValidWrongFalsely : Prop := treeValidRow.holds Tryz.pinned (OpenSpec.ofChange treeValidWrong)

/-- 'bspregionlaw14.TreeSpoilt': WHATEVER THE INPUT: true; the input reads as it did. -/
def treeSpoiltSpec : ChangeSpec := { name := "treeSpoilt", fn := fun _ => fun
  | [d1, d2, d3] => { results := [.lit (.bool true)], args := [d1, d2, d3] }
  | _ => none }
def treeSpoiltRow : OpenClaim := { program := "ythpmdmkmfoaamaagreatdoor", sum := "28e67a57ca4e4d9b8fd0f09b4d918fc97633de25f6bac1d9d0526adfbae30d6d", func := "bspregion/bspregionlaw14.TreeSpoilt", spec := "treeSpoilt", inPlace := ["internal/reflectlite.TypeOf"], unfollowed := true, recurses := true, named := ["math/bits.overflowError", "bspregion/api.ErrInvalid", "bspregion/api.ErrLimit"], apart := false, laid := [("bspregion/api.ErrInvalid", laid_bspregion_api_ErrInvalid), ("bspregion/api.ErrLimit", laid_bspregion_api_ErrLimit)] }
def TreeSpoiltSaid : Prop := treeSpoiltRow.holds Tryz.pinned (OpenSpec.ofChange treeSpoiltSpec)

/-- ITS FALSE NEIGHBOUR: 'it returns false'. Refute it at one input. -/
def treeSpoiltWrong : ChangeSpec := { name := "treeSpoilt", fn := fun _ => fun
  | [d1, d2, d3] => { results := [.lit (.bool false)], args := [d1, d2, d3] }
  | _ => none }
def TreeSpoiltWrongFalsely : Prop := treeSpoiltRow.holds Tryz.pinned (OpenSpec.ofChange treeSpoiltWrong)

/- THE SECOND FORM. 'bulk': how many values and letters a reading holds, each counted each time it is reached (what is shared counts as often as it is met; a slice's spare places count too). A statement '..UptoSaid' is the law's where the arguments, and the package variables that the reading takes, are together of bulk at most 1048576: NARROWER than '..Said'. Prove '..Said' where nothing that the law and all that it calls make is longer than what came in: it says more and counts as full. Else prove '..UptoSaid'. A law counts once. -/
mutual
def uptoBulk {H : Type} : DataW H → Nat
  | .lit (.string bytes) => bytes.length + 1
  | .lit _ => 1
  | .nil => 1
  | .ptr d => uptoBulk d + 1
  | .slice elems spare => uptoBulkAll elems + uptoBulkAll spare + 1
  | .agg parts => uptoBulkAll parts + 1
  | .iface _ d => uptoBulk d + 1
  | .map entries => uptoBulkEntries entries + 1
  | .held _ => 1
def uptoBulkAll {H : Type} : List (DataW H) → Nat
  | [] => 0
  | d :: r => uptoBulk d + uptoBulkAll r
def uptoBulkEntries {H : Type} : List (Lit × DataW H) → Nat
  | [] => 0
  | x :: r => uptoBulkEntry x + uptoBulkEntries r
def uptoBulkEntry {H : Type} : Lit × DataW H → Nat
  | (.string bytes, d) => bytes.length + uptoBulk d + 1
  | (_, d) => uptoBulk d + 1
 end
def uptoSmall : (H : Type) → List (DataW H) → Bool := fun _ ds => decide (uptoBulkAll ds ≤ 1048576)
def OpenSpec.upto (s : _root_.Go.ChangeSpec) : _root_.Go.OpenSpec := { _root_.Go.OpenSpec.ofChange s with cond := some uptoSmall }

/-- 'bspregionlaw15.LocateClasses', WHERE WHAT IT READS IS OF BULK AT MOST 1048576: true; the input reads as it did. -/
def locateClassesUptoRow : OpenClaim := { program := "ythpmdmkmfoaamaagreatdoor", sum := "28e67a57ca4e4d9b8fd0f09b4d918fc97633de25f6bac1d9d0526adfbae30d6d", func := "bspregion/bspregionlaw15.LocateClasses", spec := "locateClasses", unfollowed := true, recurses := true, named := ["math/bits.overflowError", "bspregion/api.ErrInvalid"], apart := false, laid := [("bspregion/api.ErrInvalid", laid_bspregion_api_ErrInvalid)], narrowed := true }
def LocateClassesUptoSaid : Prop := locateClassesUptoRow.holds Tryz.pinned (OpenSpec.upto locateClassesSpec)

/-- 'bspregionlaw15.LocateNear', WHERE WHAT IT READS IS OF BULK AT MOST 1048576: true; the input reads as it did. -/
def locateNearUptoRow : OpenClaim := { program := "ythpmdmkmfoaamaagreatdoor", sum := "28e67a57ca4e4d9b8fd0f09b4d918fc97633de25f6bac1d9d0526adfbae30d6d", func := "bspregion/bspregionlaw15.LocateNear", spec := "locateNear", unfollowed := true, recurses := true, named := ["math/bits.overflowError", "bspregion/api.ErrInvalid"], apart := false, laid := [("bspregion/api.ErrInvalid", laid_bspregion_api_ErrInvalid)], narrowed := true }
def LocateNearUptoSaid : Prop := locateNearUptoRow.holds Tryz.pinned (OpenSpec.upto locateNearSpec)

/-- 'bspregionlaw15.LocateIndependent', WHERE WHAT IT READS IS OF BULK AT MOST 1048576: true; the input reads as it did. -/
def locateIndependentUptoRow : OpenClaim := { program := "ythpmdmkmfoaamaagreatdoor", sum := "28e67a57ca4e4d9b8fd0f09b4d918fc97633de25f6bac1d9d0526adfbae30d6d", func := "bspregion/bspregionlaw15.LocateIndependent", spec := "locateIndependent", unfollowed := true, recurses := true, named := ["math/bits.overflowError", "bspregion/api.ErrInvalid"], apart := false, laid := [("bspregion/api.ErrInvalid", laid_bspregion_api_ErrInvalid)], narrowed := true }
def LocateIndependentUptoSaid : Prop := locateIndependentUptoRow.holds Tryz.pinned (OpenSpec.upto locateIndependentSpec)

/-- 'bspregionlaw15.LocateAgrees', WHERE WHAT IT READS IS OF BULK AT MOST 1048576: true; the input reads as it did. -/
def locateAgreesUptoRow : OpenClaim := { program := "ythpmdmkmfoaamaagreatdoor", sum := "28e67a57ca4e4d9b8fd0f09b4d918fc97633de25f6bac1d9d0526adfbae30d6d", func := "bspregion/bspregionlaw15.LocateAgrees", spec := "locateAgrees", unfollowed := true, recurses := true, named := ["math/bits.overflowError", "bspregion/api.ErrInvalid"], apart := false, laid := [("bspregion/api.ErrInvalid", laid_bspregion_api_ErrInvalid)], narrowed := true }
def LocateAgreesUptoSaid : Prop := locateAgreesUptoRow.holds Tryz.pinned (OpenSpec.upto locateAgreesSpec)

/-- 'bspregionlaw15.LocateRefuses', WHERE WHAT IT READS IS OF BULK AT MOST 1048576: true; the input reads as it did. -/
def locateRefusesUptoRow : OpenClaim := { program := "ythpmdmkmfoaamaagreatdoor", sum := "28e67a57ca4e4d9b8fd0f09b4d918fc97633de25f6bac1d9d0526adfbae30d6d", func := "bspregion/bspregionlaw15.LocateRefuses", spec := "locateRefuses", inPlace := ["internal/reflectlite.TypeOf"], unfollowed := true, recurses := true, named := ["bspregion/api.ErrInvalid", "math/bits.overflowError"], apart := false, laid := [("bspregion/api.ErrInvalid", laid_bspregion_api_ErrInvalid)], narrowed := true }
def LocateRefusesUptoSaid : Prop := locateRefusesUptoRow.holds Tryz.pinned (OpenSpec.upto locateRefusesSpec)

/-- 'bspregionlaw14.TreeValid', WHERE WHAT IT READS IS OF BULK AT MOST 1048576: true; the input reads as it did. -/
def treeValidUptoRow : OpenClaim := { program := "ythpmdmkmfoaamaagreatdoor", sum := "28e67a57ca4e4d9b8fd0f09b4d918fc97633de25f6bac1d9d0526adfbae30d6d", func := "bspregion/bspregionlaw14.TreeValid", spec := "treeValid", inPlace := ["internal/reflectlite.TypeOf"], unfollowed := true, recurses := true, named := ["bspregion/api.ErrInvalid", "math/bits.overflowError", "bspregion/api.ErrLimit"], apart := false, laid := [("bspregion/api.ErrInvalid", laid_bspregion_api_ErrInvalid), ("bspregion/api.ErrLimit", laid_bspregion_api_ErrLimit)], narrowed := true }
def TreeValidUptoSaid : Prop := treeValidUptoRow.holds Tryz.pinned (OpenSpec.upto treeValidSpec)

/-- 'bspregionlaw14.TreeSpoilt', WHERE WHAT IT READS IS OF BULK AT MOST 1048576: true; the input reads as it did. -/
def treeSpoiltUptoRow : OpenClaim := { program := "ythpmdmkmfoaamaagreatdoor", sum := "28e67a57ca4e4d9b8fd0f09b4d918fc97633de25f6bac1d9d0526adfbae30d6d", func := "bspregion/bspregionlaw14.TreeSpoilt", spec := "treeSpoilt", inPlace := ["internal/reflectlite.TypeOf"], unfollowed := true, recurses := true, named := ["math/bits.overflowError", "bspregion/api.ErrInvalid", "bspregion/api.ErrLimit"], apart := false, laid := [("bspregion/api.ErrInvalid", laid_bspregion_api_ErrInvalid), ("bspregion/api.ErrLimit", laid_bspregion_api_ErrLimit)], narrowed := true }
def TreeSpoiltUptoSaid : Prop := treeSpoiltUptoRow.holds Tryz.pinned (OpenSpec.upto treeSpoiltSpec)

end Rows
end Go.Proofs.YthpmdmkmfoaamaaGreatDoor
