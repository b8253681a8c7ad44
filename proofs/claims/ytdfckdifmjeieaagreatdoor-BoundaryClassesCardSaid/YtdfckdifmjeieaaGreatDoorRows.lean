/-
  NARROWER THAN 'FOR EVERY INPUT', by the rows' own cells (each row's printed sentence says how): BoundaryClasses: laid.
  DERIVED. THE GIVEN ROWS OF THIS SEAT. 1 by the template 'for every input the law returns true; each argument reads behind the call as it read before'; 0 by the template 'total and deterministic' (their statements: YtdfckdifmjeieaaGreatDoorTotals.lean).
  GIVEN WITH THE SEED: the statements are not yours to turn. If you find one false, say at which input.
  Laid BY PROGRAM, IN A SANDBOX (cutbox-rows.mjs): the forced cells as the released guide's own fill.sh prints them over the translation 8ec3d9e4bbb7f75c… (all of the seat's roots in one cut). By AI agents, Wed Nov 11 2026. No macro, syntax, notation, axiom, sorry.
-/
import Derived.Test.YtdfckdifmjeieaaGreatDoorChecked
import GoSem.Claim
import GoSem.ClaimJoined
import GoSem.ClaimMapViews
import Derived.JoinedTies
import Derived.KernelRfl
namespace Go.Proofs.YtdfckdifmjeieaaGreatDoor
/- THE CELL 'sum', in the pinned program and in every row, IS THE sha256 OF THE DUMP (.gsa) THAT YtdfckdifmjeieaaGreatDoorProg.lean LOADS. Nothing in Lean hashes anything: it is a label: what it is worth is what the hold of that sum in a sandbox is worth. -/
noncomputable def Tryz.pinned : Pinned := { name := "ytdfckdifmjeieaagreatdoor", sum := "8ec3d9e4bbb7f75ce41d477c84f79f90e4a0968ad3dbd2f433cf8a2c054e6f2c", checked := Tryz.checked }
namespace Rows
def none {H : Type} : Left H := { results := [], args := [] }

/- WHAT THE LISTED PACKAGE-LEVEL VARIABLES READ AS WHEN THE CALL BEGINS. Each datum BY PROGRAM (the guide's laid-datum.mjs) off the statement by which the dump's own 'gosem.cut.vars' lays the variable. In a bare row this is a premise. The card (YtdfckdifmjeieaaGreatDoorCards.lean) ties it to the program's text. -/
def laid_bspregion_api_ErrInvalid {H : Type} : DataW H := .iface "*errors.errorString" (.ptr (.agg [.lit (.string [105, 110, 118, 97, 108, 105, 100, 32, 118, 97, 108, 117, 101])]))
def laid_bspregion_api_ErrLimit {H : Type} : DataW H := .iface "*errors.errorString" (.ptr (.agg [.lit (.string [108, 105, 109, 105, 116, 32, 101, 120, 99, 101, 101, 100, 101, 100])]))

/-- 'bspregionlaw22.BoundaryClasses': WHATEVER THE INPUT: true; the input reads as it did. -/
def boundaryClassesSpec : ChangeSpec := { name := "boundaryClasses", fn := fun _ => fun
  | [d] => { results := [.lit (.bool true)], args := [d] }
  | _ => none }
def boundaryClassesRow : OpenClaim := { program := "ytdfckdifmjeieaagreatdoor", sum := "8ec3d9e4bbb7f75ce41d477c84f79f90e4a0968ad3dbd2f433cf8a2c054e6f2c", func := "bspregion/bspregionlaw22.BoundaryClasses", spec := "boundaryClasses", unfollowed := true, recurses := true, named := ["math/bits.overflowError", "bspregion/api.ErrInvalid", "bspregion/api.ErrLimit"], apart := false, laid := [("bspregion/api.ErrInvalid", laid_bspregion_api_ErrInvalid), ("bspregion/api.ErrLimit", laid_bspregion_api_ErrLimit)] }
def BoundaryClassesSaid : Prop := boundaryClassesRow.holds Tryz.pinned (OpenSpec.ofChange boundaryClassesSpec)

/-- ITS FALSE NEIGHBOUR: 'it returns false'. Refute it at one input. -/
def boundaryClassesWrong : ChangeSpec := { name := "boundaryClasses", fn := fun _ => fun
  | [d] => { results := [.lit (.bool false)], args := [d] }
  | _ => none }
def BoundaryClassesWrongFalsely : Prop := boundaryClassesRow.holds Tryz.pinned (OpenSpec.ofChange boundaryClassesWrong)

/- THE SECOND FORM. 'bulk': how many values and letters a reading holds, each counted each time it is reached (what is shared counts as often as it is met; a slice's spare places count too). A statement '..UptoSaid' is the law's where the arguments, and the package variables that the reading takes, are together of bulk at most 1048576: NARROWER than '..Said'. Prove '..Said' where nothing that the law and all that it calls make is longer than what came in: it says more and counts as full. Else prove '..UptoSaid'. A law counts once. -/
mutual
def uptoBulk {H : Type} : DataW H → Nat
  | .lit (.string bytes) => bytes.length + 1
  | .lit _ => 1
  | .nil => 1
  | .ptr d => uptoBulk d + 1
  | .slice elems spare => uptoBulkAll elems + uptoBulkAll spare + 1
  | .agg parts => uptoBulkAll parts + 1
  | .iface _ d => uptoBulk d + 1
  | .map entries => uptoBulkEntries entries + 1
  | .held _ => 1
def uptoBulkAll {H : Type} : List (DataW H) → Nat
  | [] => 0
  | d :: r => uptoBulk d + uptoBulkAll r
def uptoBulkEntries {H : Type} : List (Lit × DataW H) → Nat
  | [] => 0
  | x :: r => uptoBulkEntry x + uptoBulkEntries r
def uptoBulkEntry {H : Type} : Lit × DataW H → Nat
  | (.string bytes, d) => bytes.length + uptoBulk d + 1
  | (_, d) => uptoBulk d + 1
 end
def uptoSmall : (H : Type) → List (DataW H) → Bool := fun _ ds => decide (uptoBulkAll ds ≤ 1048576)
def OpenSpec.upto (s : _root_.Go.ChangeSpec) : _root_.Go.OpenSpec := { _root_.Go.OpenSpec.ofChange s with cond := some uptoSmall }

/-- 'bspregionlaw22.BoundaryClasses', WHERE WHAT IT READS IS OF BULK AT MOST 1048576: true; the input reads as it did. -/
def boundaryClassesUptoRow : OpenClaim := { program := "ytdfckdifmjeieaagreatdoor", sum := "8ec3d9e4bbb7f75ce41d477c84f79f90e4a0968ad3dbd2f433cf8a2c054e6f2c", func := "bspregion/bspregionlaw22.BoundaryClasses", spec := "boundaryClasses", unfollowed := true, recurses := true, named := ["math/bits.overflowError", "bspregion/api.ErrInvalid", "bspregion/api.ErrLimit"], apart := false, laid := [("bspregion/api.ErrInvalid", laid_bspregion_api_ErrInvalid), ("bspregion/api.ErrLimit", laid_bspregion_api_ErrLimit)], narrowed := true }
def BoundaryClassesUptoSaid : Prop := boundaryClassesUptoRow.holds Tryz.pinned (OpenSpec.upto boundaryClassesSpec)

end Rows
end Go.Proofs.YtdfckdifmjeieaaGreatDoor
