/-
  NARROWER THAN 'FOR EVERY INPUT', by the rows' own cells (each row's printed sentence says how): BoundaryLines: laid · BoundaryForms: laid.
  DERIVED. THE GIVEN ROWS OF THIS SEAT. 2 by the template 'for every input the law returns true; each argument reads behind the call as it read before'; 0 by the template 'total and deterministic' (their statements: YtlhmddanbgcbjaaGreatDoorTotals.lean).
  GIVEN WITH THE SEED: the statements are not yours to turn. If you find one false, say at which input.
  Laid BY PROGRAM, IN A SANDBOX (cutbox-rows.mjs): the forced cells as the released guide's own fill.sh prints them over the translation 2c653fa60190ecb8… (all of the seat's roots in one cut). By AI agents, Wed Nov 11 2026. No macro, syntax, notation, axiom, sorry.
-/
import Derived.Test.YtlhmddanbgcbjaaGreatDoorChecked
import GoSem.Claim
import GoSem.ClaimJoined
import GoSem.ClaimMapViews
import Derived.JoinedTies
import Derived.KernelRfl
namespace Go.Proofs.YtlhmddanbgcbjaaGreatDoor
/- THE CELL 'sum', in the pinned program and in every row, IS THE sha256 OF THE DUMP (.gsa) THAT YtlhmddanbgcbjaaGreatDoorProg.lean LOADS. Nothing in Lean hashes anything: it is a label: what it is worth is what the hold of that sum in a sandbox is worth. -/
noncomputable def Tryz.pinned : Pinned := { name := "ytlhmddanbgcbjaagreatdoor", sum := "2c653fa60190ecb8297334845cc0fce3d55596ea0f7b3fbf4bcded35ecfee001", checked := Tryz.checked }
namespace Rows
def none {H : Type} : Left H := { results := [], args := [] }

/- WHAT THE LISTED PACKAGE-LEVEL VARIABLES READ AS WHEN THE CALL BEGINS. Each datum BY PROGRAM (the guide's laid-datum.mjs) off the statement by which the dump's own 'gosem.cut.vars' lays the variable. In a bare row this is a premise. The card (YtlhmddanbgcbjaaGreatDoorCards.lean) ties it to the program's text. -/
def laid_bspregion_api_ErrInvalid {H : Type} : DataW H := .iface "*errors.errorString" (.ptr (.agg [.lit (.string [105, 110, 118, 97, 108, 105, 100, 32, 118, 97, 108, 117, 101])]))
def laid_bspregion_api_ErrLimit {H : Type} : DataW H := .iface "*errors.errorString" (.ptr (.agg [.lit (.string [108, 105, 109, 105, 116, 32, 101, 120, 99, 101, 101, 100, 101, 100])]))

/-- 'bspregionlaw22.BoundaryLines': WHATEVER THE INPUT: true; the input reads as it did. -/
def boundaryLinesSpec : ChangeSpec := { name := "boundaryLines", fn := fun _ => fun
  | [d] => { results := [.lit (.bool true)], args := [d] }
  | _ => none }
def boundaryLinesRow : OpenClaim := { program := "ytlhmddanbgcbjaagreatdoor", sum := "2c653fa60190ecb8297334845cc0fce3d55596ea0f7b3fbf4bcded35ecfee001", func := "bspregion/bspregionlaw22.BoundaryLines", spec := "boundaryLines", unfollowed := true, recurses := true, named := ["math/bits.overflowError", "bspregion/api.ErrInvalid", "bspregion/api.ErrLimit"], apart := false, laid := [("bspregion/api.ErrInvalid", laid_bspregion_api_ErrInvalid), ("bspregion/api.ErrLimit", laid_bspregion_api_ErrLimit)] }
def BoundaryLinesSaid : Prop := boundaryLinesRow.holds Tryz.pinned (OpenSpec.ofChange boundaryLinesSpec)

/-- ITS FALSE NEIGHBOUR: 'it returns false'. Refute it at one input. -/
def boundaryLinesWrong : ChangeSpec := { name := "boundaryLines", fn := fun _ => fun
  | [d] => { results := [.lit (.bool false)], args := [d] }
  | _ => none }
def BoundaryLinesWrongFalsely : Prop := boundaryLinesRow.holds Tryz.pinned (OpenSpec.ofChange boundaryLinesWrong)

/-- 'bspregionlaw22.BoundaryForms': WHATEVER THE INPUT: true; the input reads as it did. -/
def boundaryFormsSpec : ChangeSpec := { name := "boundaryForms", fn := fun _ => fun
  | [d] => { results := [.lit (.bool true)], args := [d] }
  | _ => none }
def boundaryFormsRow : OpenClaim := { program := "ytlhmddanbgcbjaagreatdoor", sum := "2c653fa60190ecb8297334845cc0fce3d55596ea0f7b3fbf4bcded35ecfee001", func := "bspregion/bspregionlaw22.BoundaryForms", spec := "boundaryForms", unfollowed := true, recurses := true, named := ["math/bits.overflowError", "bspregion/api.ErrInvalid", "bspregion/api.ErrLimit"], apart := false, laid := [("bspregion/api.ErrInvalid", laid_bspregion_api_ErrInvalid), ("bspregion/api.ErrLimit", laid_bspregion_api_ErrLimit)] }
def BoundaryFormsSaid : Prop := boundaryFormsRow.holds Tryz.pinned (OpenSpec.ofChange boundaryFormsSpec)

/-- ITS FALSE NEIGHBOUR: 'it returns false'. Refute it at one input. -/
def boundaryFormsWrong : ChangeSpec := { name := "boundaryForms", fn := fun _ => fun
  | [d] => { results := [.lit (.bool false)], args := [d] }
  | _ => none }
def BoundaryFormsWrongFalsely : Prop := boundaryFormsRow.holds Tryz.pinned (OpenSpec.ofChange boundaryFormsWrong)

/- THE SECOND FORM. 'bulk': how many values and letters a reading holds, each counted each time it is reached (what is shared counts as often as it is met; a slice's spare places count too). A statement '..UptoSaid' is the law's where the arguments, and the package variables that the reading takes, are together of bulk at most 1048576: NARROWER than '..Said'. Prove '..Said' where nothing that the law and all that it calls make is longer than what came in: it says more and counts as full. Else prove '..UptoSaid'. A law counts once. -/
mutual
def uptoBulk {H : Type} : DataW H → Nat
  | .lit (.string bytes) => bytes.length + 1
  | .lit _ => 1
  | .nil => 1
  | .ptr d => uptoBulk d + 1
  | .slice elems spare => uptoBulkAll elems + uptoBulkAll spare + 1
  | .agg parts => uptoBulkAll parts + 1
  | .iface _ d => uptoBulk d + 1
  | .map entries => uptoBulkEntries entries + 1
  | .held _ => 1
def uptoBulkAll {H : Type} : List (DataW H) → Nat
  | [] => 0
  | d :: r => uptoBulk d + uptoBulkAll r
def uptoBulkEntries {H : Type} : List (Lit × DataW H) → Nat
  | [] => 0
  | x :: r => uptoBulkEntry x + uptoBulkEntries r
def uptoBulkEntry {H : Type} : Lit × DataW H → Nat
  | (.string bytes, d) => bytes.length + uptoBulk d + 1
  | (_, d) => uptoBulk d + 1
 end
def uptoSmall : (H : Type) → List (DataW H) → Bool := fun _ ds => decide (uptoBulkAll ds ≤ 1048576)
def OpenSpec.upto (s : _root_.Go.ChangeSpec) : _root_.Go.OpenSpec := { _root_.Go.OpenSpec.ofChange s with cond := some uptoSmall }

/-- 'bspregionlaw22.BoundaryLines', WHERE WHAT IT READS IS OF BULK AT MOST 1048576: true; the input reads as it did. -/
def boundaryLinesUptoRow : OpenClaim := { program := "ytlhmddanbgcbjaagreatdoor", sum := "2c653fa60190ecb8297334845cc0fce3d55596ea0f7b3fbf4bcded35ecfee001", func := "bspregion/bspregionlaw22.BoundaryLines", spec := "boundaryLines", unfollowed := true, recurses := true, named := ["math/bits.overflowError", "bspregion/api.ErrInvalid", "bspregion/api.ErrLimit"], apart := false, laid := [("bspregion/api.ErrInvalid", laid_bspregion_api_ErrInvalid), ("bspregion/api.ErrLimit", laid_bspregion_api_ErrLimit)], narrowed := true }
def BoundaryLinesUptoSaid : Prop := boundaryLinesUptoRow.holds Tryz.pinned (OpenSpec.upto boundaryLinesSpec)

/-- 'bspregionlaw22.BoundaryForms', WHERE WHAT IT READS IS OF BULK AT MOST 1048576: true; the input reads as it did. -/
def boundaryFormsUptoRow : OpenClaim := { program := "ytlhmddanbgcbjaagreatdoor", sum := "2c653fa60190ecb8297334845cc0fce3d55596ea0f7b3fbf4bcded35ecfee001", func := "bspregion/bspregionlaw22.BoundaryForms", spec := "boundaryForms", unfollowed := true, recurses := true, named := ["math/bits.overflowError", "bspregion/api.ErrInvalid", "bspregion/api.ErrLimit"], apart := false, laid := [("bspregion/api.ErrInvalid", laid_bspregion_api_ErrInvalid), ("bspregion/api.ErrLimit", laid_bspregion_api_ErrLimit)], narrowed := true }
def BoundaryFormsUptoSaid : Prop := boundaryFormsUptoRow.holds Tryz.pinned (OpenSpec.upto boundaryFormsSpec)

end Rows
end Go.Proofs.YtlhmddanbgcbjaaGreatDoor
