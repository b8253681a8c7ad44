/-
  NARROWER THAN 'FOR EVERY INPUT', by the rows' own cells (each row's printed sentence says how): FragmentEnds: laid · FragmentValid: laid · FragmentMeets: laid · FragmentSides: laid.
  DERIVED. THE GIVEN ROWS OF THIS SEAT. 4 by the template 'for every input the law returns true; each argument reads behind the call as it read before'; 0 by the template 'total and deterministic' (their statements: YtalijajeenhebaaGreatDoorTotals.lean).
  GIVEN WITH THE SEED: the statements are not yours to turn. If you find one false, say at which input.
  Laid BY PROGRAM, IN A SANDBOX (cutbox-rows.mjs): the forced cells as the released guide's own fill.sh prints them over the translation 5ccf043c39ae6c41… (all of the seat's roots in one cut). By AI agents, Wed Nov 11 2026. No macro, syntax, notation, axiom, sorry.
-/
import Derived.Test.YtalijajeenhebaaGreatDoorChecked
import GoSem.Claim
import GoSem.ClaimJoined
import GoSem.ClaimMapViews
import Derived.JoinedTies
import Derived.KernelRfl
namespace Go.Proofs.YtalijajeenhebaaGreatDoor
/- THE CELL 'sum', in the pinned program and in every row, IS THE sha256 OF THE DUMP (.gsa) THAT YtalijajeenhebaaGreatDoorProg.lean LOADS. Nothing in Lean hashes anything: it is a label: what it is worth is what the hold of that sum in a sandbox is worth. -/
noncomputable def Tryz.pinned : Pinned := { name := "ytalijajeenhebaagreatdoor", sum := "5ccf043c39ae6c41b315f0b5d94bff9a5103a80984885f7e29f3738dfbb59e0c", checked := Tryz.checked }
namespace Rows
def none {H : Type} : Left H := { results := [], args := [] }

/- WHAT THE LISTED PACKAGE-LEVEL VARIABLES READ AS WHEN THE CALL BEGINS. Each datum BY PROGRAM (the guide's laid-datum.mjs) off the statement by which the dump's own 'gosem.cut.vars' lays the variable. In a bare row this is a premise. The card (YtalijajeenhebaaGreatDoorCards.lean) ties it to the program's text. -/
def laid_bspregion_api_ErrInvalid {H : Type} : DataW H := .iface "*errors.errorString" (.ptr (.agg [.lit (.string [105, 110, 118, 97, 108, 105, 100, 32, 118, 97, 108, 117, 101])]))

/-- 'bspregionlaw07.FragmentEnds': WHATEVER THE INPUT: true; the input reads as it did. -/
def fragmentEndsSpec : ChangeSpec := { name := "fragmentEnds", fn := fun _ => fun
  | [d] => { results := [.lit (.bool true)], args := [d] }
  | _ => none }
def fragmentEndsRow : OpenClaim := { program := "ytalijajeenhebaagreatdoor", sum := "5ccf043c39ae6c41b315f0b5d94bff9a5103a80984885f7e29f3738dfbb59e0c", func := "bspregion/bspregionlaw07.FragmentEnds", spec := "fragmentEnds", unfollowed := true, recurses := true, named := ["math/bits.overflowError", "bspregion/api.ErrInvalid"], apart := false, laid := [("bspregion/api.ErrInvalid", laid_bspregion_api_ErrInvalid)] }
def FragmentEndsSaid : Prop := fragmentEndsRow.holds Tryz.pinned (OpenSpec.ofChange fragmentEndsSpec)

/-- ITS FALSE NEIGHBOUR: 'it returns false'. Refute it at one input. -/
def fragmentEndsWrong : ChangeSpec := { name := "fragmentEnds", fn := fun _ => fun
  | [d] => { results := [.lit (.bool false)], args := [d] }
  | _ => none }
def FragmentEndsWrongFalsely : Prop := fragmentEndsRow.holds Tryz.pinned (OpenSpec.ofChange fragmentEndsWrong)

/-- 'bspregionlaw07.FragmentValid': WHATEVER THE INPUT: true; the input reads as it did. -/
def fragmentValidSpec : ChangeSpec := { name := "fragmentValid", fn := fun _ => fun
  | [d1, d2] => { results := [.lit (.bool true)], args := [d1, d2] }
  | _ => none }
def fragmentValidRow : OpenClaim := { program := "ytalijajeenhebaagreatdoor", sum := "5ccf043c39ae6c41b315f0b5d94bff9a5103a80984885f7e29f3738dfbb59e0c", func := "bspregion/bspregionlaw07.FragmentValid", spec := "fragmentValid", inPlace := ["internal/reflectlite.TypeOf"], unfollowed := true, recurses := true, named := ["bspregion/api.ErrInvalid", "math/bits.overflowError"], apart := false, laid := [("bspregion/api.ErrInvalid", laid_bspregion_api_ErrInvalid)] }
def FragmentValidSaid : Prop := fragmentValidRow.holds Tryz.pinned (OpenSpec.ofChange fragmentValidSpec)

/-- ITS FALSE NEIGHBOUR: 'it returns false'. Refute it at one input. -/
def fragmentValidWrong : ChangeSpec := { name := "fragmentValid", fn := fun _ => fun
  | [d1, d2] => { results := [.lit (.bool false)], args := [d1, d2] }
  | _ => none }
def FragmentValidWrongFalsely : Prop := fragmentValidRow.holds Tryz.pinned (OpenSpec.ofChange fragmentValidWrong)

/-- 'bspregionlaw07.FragmentMeets': WHATEVER THE INPUT: true; the input reads as it did. -/
def fragmentMeetsSpec : ChangeSpec := { name := "fragmentMeets", fn := fun _ => fun
  | [d] => { results := [.lit (.bool true)], args := [d] }
  | _ => none }
def fragmentMeetsRow : OpenClaim := { program := "ytalijajeenhebaagreatdoor", sum := "5ccf043c39ae6c41b315f0b5d94bff9a5103a80984885f7e29f3738dfbb59e0c", func := "bspregion/bspregionlaw07.FragmentMeets", spec := "fragmentMeets", unfollowed := true, recurses := true, named := ["math/bits.overflowError", "bspregion/api.ErrInvalid"], apart := false, laid := [("bspregion/api.ErrInvalid", laid_bspregion_api_ErrInvalid)] }
def FragmentMeetsSaid : Prop := fragmentMeetsRow.holds Tryz.pinned (OpenSpec.ofChange fragmentMeetsSpec)

/-- ITS FALSE NEIGHBOUR: 'it returns false'. Refute it at one input. -/
def fragmentMeetsWrong : ChangeSpec := { name := "fragmentMeets", fn := fun _ => fun
  | [d] => { results := [.lit (.bool false)], args := [d] }
  | _ => none }
def FragmentMeetsWrongFalsely : Prop := fragmentMeetsRow.holds Tryz.pinned (OpenSpec.ofChange fragmentMeetsWrong)

/-- 'bspregionlaw07.FragmentSides': WHATEVER THE INPUT: true; the input reads as it did. -/
def fragmentSidesSpec : ChangeSpec := { name := "fragmentSides", fn := fun _ => fun
  | [d] => { results := [.lit (.bool true)], args := [d] }
  | _ => none }
def fragmentSidesRow : OpenClaim := { program := "ytalijajeenhebaagreatdoor", sum := "5ccf043c39ae6c41b315f0b5d94bff9a5103a80984885f7e29f3738dfbb59e0c", func := "bspregion/bspregionlaw07.FragmentSides", spec := "fragmentSides", unfollowed := true, recurses := true, named := ["math/bits.overflowError", "bspregion/api.ErrInvalid"], apart := false, laid := [("bspregion/api.ErrInvalid", laid_bspregion_api_ErrInvalid)] }
def FragmentSidesSaid : Prop := fragmentSidesRow.holds Tryz.pinned (OpenSpec.ofChange fragmentSidesSpec)

/-- ITS FALSE NEIGHBOUR: 'it returns false'. Refute it at one input. -/
def fragmentSidesWrong : ChangeSpec := { name := "fragmentSides", fn := fun _ => fun
  | [d] => { results := [.lit (.bool false)], args := [d] }
  | _ => none }
def FragmentSidesWrongFalsely : Prop := fragmentSidesRow.holds Tryz.pinned (OpenSpec.ofChange fragmentSidesWrong)

/- THE SECOND FORM. 'bulk': how many values and letters a reading holds, each counted each time it is reached (what is shared counts as often as it is met; a slice's spare places count too). A statement '..UptoSaid' is the law's where the arguments, and the package variables that the reading takes, are together of bulk at most 1048576: NARROWER than '..Said'. Prove '..Said' where nothing that the law and all that it calls make is longer than what came in: it says more and counts as full. Else prove '..UptoSaid'. A law counts once. -/
mutual
def uptoBulk {H : Type} : DataW H → Nat
  | .lit (.string bytes) => bytes.length + 1
  | .lit _ => 1
  | .nil => 1
  | .ptr d => uptoBulk d + 1
  | .slice elems spare => uptoBulkAll elems + uptoBulkAll spare + 1
  | .agg parts => uptoBulkAll parts + 1
  | .iface _ d => uptoBulk d + 1
  | .map entries => uptoBulkEntries entries + 1
  | .held _ => 1
def uptoBulkAll {H : Type} : List (DataW H) → Nat
  | [] => 0
  | d :: r => uptoBulk d + uptoBulkAll r
def uptoBulkEntries {H : Type} : List (Lit × DataW H) → Nat
  | [] => 0
  | x :: r => uptoBulkEntry x + uptoBulkEntries r
def uptoBulkEntry {H : Type} : Lit × DataW H → Nat
  | (.string bytes, d) => bytes.length + uptoBulk d + 1
  | (_, d) => uptoBulk d + 1
 end
def uptoSmall : (H : Type) → List (DataW H) → Bool := fun _ ds => decide (uptoBulkAll ds ≤ 1048576)
def OpenSpec.upto (s : _root_.Go.ChangeSpec) : _root_.Go.OpenSpec := { _root_.Go.OpenSpec.ofChange s with cond := some uptoSmall }

/-- 'bspregionlaw07.FragmentEnds', WHERE WHAT IT READS IS OF BULK AT MOST 1048576: true; the input reads as it did. -/
def fragmentEndsUptoRow : OpenClaim := { program := "ytalijajeenhebaagreatdoor", sum := "5ccf043c39ae6c41b315f0b5d94bff9a5103a80984885f7e29f3738dfbb59e0c", func := "bspregion/bspregionlaw07.FragmentEnds", spec := "fragmentEnds", unfollowed := true, recurses := true, named := ["math/bits.overflowError", "bspregion/api.ErrInvalid"], apart := false, laid := [("bspregion/api.ErrInvalid", laid_bspregion_api_ErrInvalid)], narrowed := true }
def FragmentEndsUptoSaid : Prop := fragmentEndsUptoRow.holds Tryz.pinned (OpenSpec.upto fragmentEndsSpec)

/-- 'bspregionlaw07.FragmentValid', WHERE WHAT IT READS IS OF BULK AT MOST 1048576: true; the input reads as it did. -/
def fragmentValidUptoRow : OpenClaim := { program := "ytalijajeenhebaagreatdoor", sum := "5ccf043c39ae6c41b315f0b5d94bff9a5103a80984885f7e29f3738dfbb59e0c", func := "bspregion/bspregionlaw07.FragmentValid", spec := "fragmentValid", inPlace := ["internal/reflectlite.TypeOf"], unfollowed := true, recurses := true, named := ["bspregion/api.ErrInvalid", "math/bits.overflowError"], apart := false, laid := [("bspregion/api.ErrInvalid", laid_bspregion_api_ErrInvalid)], narrowed := true }
def FragmentValidUptoSaid : Prop := fragmentValidUptoRow.holds Tryz.pinned (OpenSpec.upto fragmentValidSpec)

/-- 'bspregionlaw07.FragmentMeets', WHERE WHAT IT READS IS OF BULK AT MOST 1048576: true; the input reads as it did. -/
def fragmentMeetsUptoRow : OpenClaim := { program := "ytalijajeenhebaagreatdoor", sum := "5ccf043c39ae6c41b315f0b5d94bff9a5103a80984885f7e29f3738dfbb59e0c", func := "bspregion/bspregionlaw07.FragmentMeets", spec := "fragmentMeets", unfollowed := true, recurses := true, named := ["math/bits.overflowError", "bspregion/api.ErrInvalid"], apart := false, laid := [("bspregion/api.ErrInvalid", laid_bspregion_api_ErrInvalid)], narrowed := true }
def FragmentMeetsUptoSaid : Prop := fragmentMeetsUptoRow.holds Tryz.pinned (OpenSpec.upto fragmentMeetsSpec)

/-- 'bspregionlaw07.FragmentSides', WHERE WHAT IT READS IS OF BULK AT MOST 1048576: true; the input reads as it did. -/
def fragmentSidesUptoRow : OpenClaim := { program := "ytalijajeenhebaagreatdoor", sum := "5ccf043c39ae6c41b315f0b5d94bff9a5103a80984885f7e29f3738dfbb59e0c", func := "bspregion/bspregionlaw07.FragmentSides", spec := "fragmentSides", unfollowed := true, recurses := true, named := ["math/bits.overflowError", "bspregion/api.ErrInvalid"], apart := false, laid := [("bspregion/api.ErrInvalid", laid_bspregion_api_ErrInvalid)], narrowed := true }
def FragmentSidesUptoSaid : Prop := fragmentSidesUptoRow.holds Tryz.pinned (OpenSpec.upto fragmentSidesSpec)

end Rows
end Go.Proofs.YtalijajeenhebaaGreatDoor
