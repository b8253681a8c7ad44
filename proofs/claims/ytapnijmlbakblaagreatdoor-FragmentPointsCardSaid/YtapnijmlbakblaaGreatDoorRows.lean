/-
  NARROWER THAN 'FOR EVERY INPUT', by the rows' own cells (each row's printed sentence says how): FragmentSplits: laid · FragmentJoins: laid · FragmentPoints: laid · FragmentParts: laid.
  DERIVED. THE GIVEN ROWS OF THIS SEAT. 4 by the template 'for every input the law returns true; each argument reads behind the call as it read before'; 0 by the template 'total and deterministic' (their statements: YtapnijmlbakblaaGreatDoorTotals.lean).
  GIVEN WITH THE SEED: the statements are not yours to turn. If you find one false, say at which input.
  Laid BY PROGRAM, IN A SANDBOX (cutbox-rows.mjs): the forced cells as the released guide's own fill.sh prints them over the translation bc1d830ad429c7dc… (all of the seat's roots in one cut). By AI agents, Wed Nov 11 2026. No macro, syntax, notation, axiom, sorry.
-/
import Derived.Test.YtapnijmlbakblaaGreatDoorChecked
import GoSem.Claim
import GoSem.ClaimJoined
import GoSem.ClaimMapViews
import Derived.JoinedTies
import Derived.KernelRfl
namespace Go.Proofs.YtapnijmlbakblaaGreatDoor
/- THE CELL 'sum', in the pinned program and in every row, IS THE sha256 OF THE DUMP (.gsa) THAT YtapnijmlbakblaaGreatDoorProg.lean LOADS. Nothing in Lean hashes anything: it is a label: what it is worth is what the hold of that sum in a sandbox is worth. -/
noncomputable def Tryz.pinned : Pinned := { name := "ytapnijmlbakblaagreatdoor", sum := "bc1d830ad429c7dca4b7e64aa25662b36945d4fa871429bcff2f8a63038bb0bd", checked := Tryz.checked }
namespace Rows
def none {H : Type} : Left H := { results := [], args := [] }

/- WHAT THE LISTED PACKAGE-LEVEL VARIABLES READ AS WHEN THE CALL BEGINS. Each datum BY PROGRAM (the guide's laid-datum.mjs) off the statement by which the dump's own 'gosem.cut.vars' lays the variable. In a bare row this is a premise. The card (YtapnijmlbakblaaGreatDoorCards.lean) ties it to the program's text. -/
def laid_bspregion_api_ErrInvalid {H : Type} : DataW H := .iface "*errors.errorString" (.ptr (.agg [.lit (.string [105, 110, 118, 97, 108, 105, 100, 32, 118, 97, 108, 117, 101])]))

/-- 'bspregionlaw07.FragmentSplits': WHATEVER THE INPUT: true; the input reads as it did. -/
def fragmentSplitsSpec : ChangeSpec := { name := "fragmentSplits", fn := fun _ => fun
  | [d] => { results := [.lit (.bool true)], args := [d] }
  | _ => none }
def fragmentSplitsRow : OpenClaim := { program := "ytapnijmlbakblaagreatdoor", sum := "bc1d830ad429c7dca4b7e64aa25662b36945d4fa871429bcff2f8a63038bb0bd", func := "bspregion/bspregionlaw07.FragmentSplits", spec := "fragmentSplits", unfollowed := true, recurses := true, named := ["math/bits.overflowError", "bspregion/api.ErrInvalid"], apart := false, laid := [("bspregion/api.ErrInvalid", laid_bspregion_api_ErrInvalid)] }
def FragmentSplitsSaid : Prop := fragmentSplitsRow.holds Tryz.pinned (OpenSpec.ofChange fragmentSplitsSpec)

/-- ITS FALSE NEIGHBOUR: 'it returns false'. Refute it at one input. -/
def fragmentSplitsWrong : ChangeSpec := { name := "fragmentSplits", fn := fun _ => fun
  | [d] => { results := [.lit (.bool false)], args := [d] }
  | _ => none }
def FragmentSplitsWrongFalsely : Prop := fragmentSplitsRow.holds Tryz.pinned (OpenSpec.ofChange fragmentSplitsWrong)

/-- 'bspregionlaw07.FragmentJoins': WHATEVER THE INPUT: true; the input reads as it did. -/
def fragmentJoinsSpec : ChangeSpec := { name := "fragmentJoins", fn := fun _ => fun
  | [d] => { results := [.lit (.bool true)], args := [d] }
  | _ => none }
def fragmentJoinsRow : OpenClaim := { program := "ytapnijmlbakblaagreatdoor", sum := "bc1d830ad429c7dca4b7e64aa25662b36945d4fa871429bcff2f8a63038bb0bd", func := "bspregion/bspregionlaw07.FragmentJoins", spec := "fragmentJoins", unfollowed := true, recurses := true, named := ["math/bits.overflowError", "bspregion/api.ErrInvalid"], apart := false, laid := [("bspregion/api.ErrInvalid", laid_bspregion_api_ErrInvalid)] }
def FragmentJoinsSaid : Prop := fragmentJoinsRow.holds Tryz.pinned (OpenSpec.ofChange fragmentJoinsSpec)

/-- ITS FALSE NEIGHBOUR: 'it returns false'. Refute it at one input. -/
def fragmentJoinsWrong : ChangeSpec := { name := "fragmentJoins", fn := fun _ => fun
  | [d] => { results := [.lit (.bool false)], args := [d] }
  | _ => none }
def FragmentJoinsWrongFalsely : Prop := fragmentJoinsRow.holds Tryz.pinned (OpenSpec.ofChange fragmentJoinsWrong)

/-- 'bspregionlaw07.FragmentPoints': WHATEVER THE INPUT: true; the input reads as it did. -/
def fragmentPointsSpec : ChangeSpec := { name := "fragmentPoints", fn := fun _ => fun
  | [d] => { results := [.lit (.bool true)], args := [d] }
  | _ => none }
def fragmentPointsRow : OpenClaim := { program := "ytapnijmlbakblaagreatdoor", sum := "bc1d830ad429c7dca4b7e64aa25662b36945d4fa871429bcff2f8a63038bb0bd", func := "bspregion/bspregionlaw07.FragmentPoints", spec := "fragmentPoints", unfollowed := true, recurses := true, named := ["math/bits.overflowError", "bspregion/api.ErrInvalid"], apart := false, laid := [("bspregion/api.ErrInvalid", laid_bspregion_api_ErrInvalid)] }
def FragmentPointsSaid : Prop := fragmentPointsRow.holds Tryz.pinned (OpenSpec.ofChange fragmentPointsSpec)

/-- ITS FALSE NEIGHBOUR: 'it returns false'. Refute it at one input. -/
def fragmentPointsWrong : ChangeSpec := { name := "fragmentPoints", fn := fun _ => fun
  | [d] => { results := [.lit (.bool false)], args := [d] }
  | _ => none }
def FragmentPointsWrongFalsely : Prop := fragmentPointsRow.holds Tryz.pinned (OpenSpec.ofChange fragmentPointsWrong)

/-- 'bspregionlaw07.FragmentParts': WHATEVER THE INPUT: true; the input reads as it did. -/
def fragmentPartsSpec : ChangeSpec := { name := "fragmentParts", fn := fun _ => fun
  | [d] => { results := [.lit (.bool true)], args := [d] }
  | _ => none }
def fragmentPartsRow : OpenClaim := { program := "ytapnijmlbakblaagreatdoor", sum := "bc1d830ad429c7dca4b7e64aa25662b36945d4fa871429bcff2f8a63038bb0bd", func := "bspregion/bspregionlaw07.FragmentParts", spec := "fragmentParts", unfollowed := true, recurses := true, named := ["math/bits.overflowError", "bspregion/api.ErrInvalid"], apart := false, laid := [("bspregion/api.ErrInvalid", laid_bspregion_api_ErrInvalid)] }
def FragmentPartsSaid : Prop := fragmentPartsRow.holds Tryz.pinned (OpenSpec.ofChange fragmentPartsSpec)

/-- ITS FALSE NEIGHBOUR: 'it returns false'. Refute it at one input. -/
def fragmentPartsWrong : ChangeSpec := { name := "fragmentParts", fn := fun _ => fun
  | [d] => { results := [.lit (.bool false)], args := [d] }
  | _ => none }
def FragmentPartsWrongFalsely : Prop := fragmentPartsRow.holds Tryz.pinned (OpenSpec.ofChange fragmentPartsWrong)

/- THE SECOND FORM. 'bulk': how many values and letters a reading holds, each counted each time it is reached (what is shared counts as often as it is met; a slice's spare places count too). A statement '..UptoSaid' is the law's where the arguments, and the package variables that the reading takes, are together of bulk at most 1048576: NARROWER than '..Said'. Prove '..Said' where nothing that the law and all that it calls make is longer than what came in: it says more and counts as full. Else prove '..UptoSaid'. A law counts once. -/
mutual
def uptoBulk {H : Type} : DataW H → Nat
  | .lit (.string bytes) => bytes.length + 1
  | .lit _ => 1
  | .nil => 1
  | .ptr d => uptoBulk d + 1
  | .slice elems spare => uptoBulkAll elems + uptoBulkAll spare + 1
  | .agg parts => uptoBulkAll parts + 1
  | .iface _ d => uptoBulk d + 1
  | .map entries => uptoBulkEntries entries + 1
  | .held _ => 1
def uptoBulkAll {H : Type} : List (DataW H) → Nat
  | [] => 0
  | d :: r => uptoBulk d + uptoBulkAll r
def uptoBulkEntries {H : Type} : List (Lit × DataW H) → Nat
  | [] => 0
  | x :: r => uptoBulkEntry x + uptoBulkEntries r
def uptoBulkEntry {H : Type} : Lit × DataW H → Nat
  | (.string bytes, d) => bytes.length + uptoBulk d + 1
  | (_, d) => uptoBulk d + 1
 end
def uptoSmall : (H : Type) → List (DataW H) → Bool := fun _ ds => decide (uptoBulkAll ds ≤ 1048576)
def OpenSpec.upto (s : _root_.Go.ChangeSpec) : _root_.Go.OpenSpec := { _root_.Go.OpenSpec.ofChange s with cond := some uptoSmall }

/-- 'bspregionlaw07.FragmentSplits', WHERE WHAT IT READS IS OF BULK AT MOST 1048576: true; the input reads as it did. -/
def fragmentSplitsUptoRow : OpenClaim := { program := "ytapnijmlbakblaagreatdoor", sum := "bc1d830ad429c7dca4b7e64aa25662b36945d4fa871429bcff2f8a63038bb0bd", func := "bspregion/bspregionlaw07.FragmentSplits", spec := "fragmentSplits", unfollowed := true, recurses := true, named := ["math/bits.overflowError", "bspregion/api.ErrInvalid"], apart := false, laid := [("bspregion/api.ErrInvalid", laid_bspregion_api_ErrInvalid)], narrowed := true }
def FragmentSplitsUptoSaid : Prop := fragmentSplitsUptoRow.holds Tryz.pinned (OpenSpec.upto fragmentSplitsSpec)

/-- 'bspregionlaw07.FragmentJoins', WHERE WHAT IT READS IS OF BULK AT MOST 1048576: true; the input reads as it did. -/
def fragmentJoinsUptoRow : OpenClaim := { program := "ytapnijmlbakblaagreatdoor", sum := "bc1d830ad429c7dca4b7e64aa25662b36945d4fa871429bcff2f8a63038bb0bd", func := "bspregion/bspregionlaw07.FragmentJoins", spec := "fragmentJoins", unfollowed := true, recurses := true, named := ["math/bits.overflowError", "bspregion/api.ErrInvalid"], apart := false, laid := [("bspregion/api.ErrInvalid", laid_bspregion_api_ErrInvalid)], narrowed := true }
def FragmentJoinsUptoSaid : Prop := fragmentJoinsUptoRow.holds Tryz.pinned (OpenSpec.upto fragmentJoinsSpec)

/-- 'bspregionlaw07.FragmentPoints', WHERE WHAT IT READS IS OF BULK AT MOST 1048576: true; the input reads as it did. -/
def fragmentPointsUptoRow : OpenClaim := { program := "ytapnijmlbakblaagreatdoor", sum := "bc1d830ad429c7dca4b7e64aa25662b36945d4fa871429bcff2f8a63038bb0bd", func := "bspregion/bspregionlaw07.FragmentPoints", spec := "fragmentPoints", unfollowed := true, recurses := true, named := ["math/bits.overflowError", "bspregion/api.ErrInvalid"], apart := false, laid := [("bspregion/api.ErrInvalid", laid_bspregion_api_ErrInvalid)], narrowed := true }
def FragmentPointsUptoSaid : Prop := fragmentPointsUptoRow.holds Tryz.pinned (OpenSpec.upto fragmentPointsSpec)

/-- 'bspregionlaw07.FragmentParts', WHERE WHAT IT READS IS OF BULK AT MOST 1048576: true; the input reads as it did. -/
def fragmentPartsUptoRow : OpenClaim := { program := "ytapnijmlbakblaagreatdoor", sum := "bc1d830ad429c7dca4b7e64aa25662b36945d4fa871429bcff2f8a63038bb0bd", func := "bspregion/bspregionlaw07.FragmentParts", spec := "fragmentParts", unfollowed := true, recurses := true, named := ["math/bits.overflowError", "bspregion/api.ErrInvalid"], apart := false, laid := [("bspregion/api.ErrInvalid", laid_bspregion_api_ErrInvalid)], narrowed := true }
def FragmentPartsUptoSaid : Prop := fragmentPartsUptoRow.holds Tryz.pinned (OpenSpec.upto fragmentPartsSpec)

end Rows
end Go.Proofs.YtapnijmlbakblaaGreatDoor
