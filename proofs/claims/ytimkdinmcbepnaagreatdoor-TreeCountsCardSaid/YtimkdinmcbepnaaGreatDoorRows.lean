/-
  NARROWER THAN 'FOR EVERY INPUT', by the rows' own cells (each row's printed sentence says how): SpanAlgebra: laid · SpanAdds: laid · SpanCombines: laid · SpanPoints: laid · SpanMeasures: laid · SpanValid: laid · TreeCounts: laid.
  DERIVED. THE GIVEN ROWS OF THIS SEAT. 7 by the template 'for every input the law returns true; each argument reads behind the call as it read before'; 0 by the template 'total and deterministic' (their statements: YtimkdinmcbepnaaGreatDoorTotals.lean).
  GIVEN WITH THE SEED: the statements are not yours to turn. If you find one false, say at which input.
  Laid BY PROGRAM, IN A SANDBOX (cutbox-rows.mjs): the forced cells as the released guide's own fill.sh prints them over the translation 02c334ad76efc1ca… (all of the seat's roots in one cut). By AI agents, Wed Nov 11 2026. No macro, syntax, notation, axiom, sorry.
-/
import Derived.Test.YtimkdinmcbepnaaGreatDoorChecked
import GoSem.Claim
import GoSem.ClaimJoined
import GoSem.ClaimMapViews
import Derived.JoinedTies
import Derived.KernelRfl
namespace Go.Proofs.YtimkdinmcbepnaaGreatDoor
/- THE CELL 'sum', in the pinned program and in every row, IS THE sha256 OF THE DUMP (.gsa) THAT YtimkdinmcbepnaaGreatDoorProg.lean LOADS. Nothing in Lean hashes anything: it is a label: what it is worth is what the hold of that sum in a sandbox is worth. -/
noncomputable def Tryz.pinned : Pinned := { name := "ytimkdinmcbepnaagreatdoor", sum := "02c334ad76efc1ca5e6272782d03ab630528045188b788e25a8cc4d5b5eab41c", checked := Tryz.checked }
namespace Rows
def none {H : Type} : Left H := { results := [], args := [] }

/- WHAT THE LISTED PACKAGE-LEVEL VARIABLES READ AS WHEN THE CALL BEGINS. Each datum BY PROGRAM (the guide's laid-datum.mjs) off the statement by which the dump's own 'gosem.cut.vars' lays the variable. In a bare row this is a premise. The card (YtimkdinmcbepnaaGreatDoorCards.lean) ties it to the program's text. -/
def laid_bspregion_api_ErrInvalid {H : Type} : DataW H := .iface "*errors.errorString" (.ptr (.agg [.lit (.string [105, 110, 118, 97, 108, 105, 100, 32, 118, 97, 108, 117, 101])]))
def laid_bspregion_api_ErrUnbounded {H : Type} : DataW H := .iface "*errors.errorString" (.ptr (.agg [.lit (.string [110, 111, 116, 32, 98, 111, 117, 110, 100, 101, 100])]))
def laid_bspregion_api_ErrLimit {H : Type} : DataW H := .iface "*errors.errorString" (.ptr (.agg [.lit (.string [108, 105, 109, 105, 116, 32, 101, 120, 99, 101, 101, 100, 101, 100])]))

/-- 'bspregionlaw06.SpanAlgebra': WHATEVER THE INPUT: true; the input reads as it did. -/
def spanAlgebraSpec : ChangeSpec := { name := "spanAlgebra", fn := fun _ => fun
  | [d] => { results := [.lit (.bool true)], args := [d] }
  | _ => none }
def spanAlgebraRow : OpenClaim := { program := "ytimkdinmcbepnaagreatdoor", sum := "02c334ad76efc1ca5e6272782d03ab630528045188b788e25a8cc4d5b5eab41c", func := "bspregion/bspregionlaw06.SpanAlgebra", spec := "spanAlgebra", unfollowed := true, recurses := true, named := ["math/bits.overflowError", "bspregion/api.ErrInvalid"], apart := false, laid := [("bspregion/api.ErrInvalid", laid_bspregion_api_ErrInvalid)] }
def SpanAlgebraSaid : Prop := spanAlgebraRow.holds Tryz.pinned (OpenSpec.ofChange spanAlgebraSpec)

/-- ITS FALSE NEIGHBOUR: 'it returns false'. Refute it at one input. -/
def spanAlgebraWrong : ChangeSpec := { name := "spanAlgebra", fn := fun _ => fun
  | [d] => { results := [.lit (.bool false)], args := [d] }
  | _ => none }
def SpanAlgebraWrongFalsely : Prop := spanAlgebraRow.holds Tryz.pinned (OpenSpec.ofChange spanAlgebraWrong)

/-- 'bspregionlaw06.SpanAdds': WHATEVER THE INPUT: true; the input reads as it did. -/
def spanAddsSpec : ChangeSpec := { name := "spanAdds", fn := fun _ => fun
  | [d] => { results := [.lit (.bool true)], args := [d] }
  | _ => none }
def spanAddsRow : OpenClaim := { program := "ytimkdinmcbepnaagreatdoor", sum := "02c334ad76efc1ca5e6272782d03ab630528045188b788e25a8cc4d5b5eab41c", func := "bspregion/bspregionlaw06.SpanAdds", spec := "spanAdds", unfollowed := true, recurses := true, named := ["math/bits.overflowError", "bspregion/api.ErrInvalid", "bspregion/api.ErrUnbounded"], apart := false, laid := [("bspregion/api.ErrInvalid", laid_bspregion_api_ErrInvalid), ("bspregion/api.ErrUnbounded", laid_bspregion_api_ErrUnbounded)] }
def SpanAddsSaid : Prop := spanAddsRow.holds Tryz.pinned (OpenSpec.ofChange spanAddsSpec)

/-- ITS FALSE NEIGHBOUR: 'it returns false'. Refute it at one input. -/
def spanAddsWrong : ChangeSpec := { name := "spanAdds", fn := fun _ => fun
  | [d] => { results := [.lit (.bool false)], args := [d] }
  | _ => none }
def SpanAddsWrongFalsely : Prop := spanAddsRow.holds Tryz.pinned (OpenSpec.ofChange spanAddsWrong)

/-- 'bspregionlaw06.SpanCombines': WHATEVER THE INPUT: true; the input reads as it did. -/
def spanCombinesSpec : ChangeSpec := { name := "spanCombines", fn := fun _ => fun
  | [d] => { results := [.lit (.bool true)], args := [d] }
  | _ => none }
def spanCombinesRow : OpenClaim := { program := "ytimkdinmcbepnaagreatdoor", sum := "02c334ad76efc1ca5e6272782d03ab630528045188b788e25a8cc4d5b5eab41c", func := "bspregion/bspregionlaw06.SpanCombines", spec := "spanCombines", unfollowed := true, recurses := true, named := ["math/bits.overflowError", "bspregion/api.ErrInvalid"], apart := false, laid := [("bspregion/api.ErrInvalid", laid_bspregion_api_ErrInvalid)] }
def SpanCombinesSaid : Prop := spanCombinesRow.holds Tryz.pinned (OpenSpec.ofChange spanCombinesSpec)

/-- ITS FALSE NEIGHBOUR: 'it returns false'. Refute it at one input. -/
def spanCombinesWrong : ChangeSpec := { name := "spanCombines", fn := fun _ => fun
  | [d] => { results := [.lit (.bool false)], args := [d] }
  | _ => none }
def SpanCombinesWrongFalsely : Prop := spanCombinesRow.holds Tryz.pinned (OpenSpec.ofChange spanCombinesWrong)

/-- 'bspregionlaw06.SpanPoints': WHATEVER THE INPUT: true; the input reads as it did. -/
def spanPointsSpec : ChangeSpec := { name := "spanPoints", fn := fun _ => fun
  | [d] => { results := [.lit (.bool true)], args := [d] }
  | _ => none }
def spanPointsRow : OpenClaim := { program := "ytimkdinmcbepnaagreatdoor", sum := "02c334ad76efc1ca5e6272782d03ab630528045188b788e25a8cc4d5b5eab41c", func := "bspregion/bspregionlaw06.SpanPoints", spec := "spanPoints", unfollowed := true, recurses := true, named := ["math/bits.overflowError", "bspregion/api.ErrInvalid"], apart := false, laid := [("bspregion/api.ErrInvalid", laid_bspregion_api_ErrInvalid)] }
def SpanPointsSaid : Prop := spanPointsRow.holds Tryz.pinned (OpenSpec.ofChange spanPointsSpec)

/-- ITS FALSE NEIGHBOUR: 'it returns false'. Refute it at one input. -/
def spanPointsWrong : ChangeSpec := { name := "spanPoints", fn := fun _ => fun
  | [d] => { results := [.lit (.bool false)], args := [d] }
  | _ => none }
def SpanPointsWrongFalsely : Prop := spanPointsRow.holds Tryz.pinned (OpenSpec.ofChange spanPointsWrong)

/-- 'bspregionlaw06.SpanMeasures': WHATEVER THE INPUT: true; the input reads as it did. -/
def spanMeasuresSpec : ChangeSpec := { name := "spanMeasures", fn := fun _ => fun
  | [d] => { results := [.lit (.bool true)], args := [d] }
  | _ => none }
def spanMeasuresRow : OpenClaim := { program := "ytimkdinmcbepnaagreatdoor", sum := "02c334ad76efc1ca5e6272782d03ab630528045188b788e25a8cc4d5b5eab41c", func := "bspregion/bspregionlaw06.SpanMeasures", spec := "spanMeasures", inPlace := ["internal/reflectlite.TypeOf"], unfollowed := true, recurses := true, named := ["bspregion/api.ErrUnbounded", "math/bits.overflowError", "bspregion/api.ErrInvalid"], apart := false, laid := [("bspregion/api.ErrInvalid", laid_bspregion_api_ErrInvalid), ("bspregion/api.ErrUnbounded", laid_bspregion_api_ErrUnbounded)] }
def SpanMeasuresSaid : Prop := spanMeasuresRow.holds Tryz.pinned (OpenSpec.ofChange spanMeasuresSpec)

/-- ITS FALSE NEIGHBOUR: 'it returns false'. Refute it at one input. -/
def spanMeasuresWrong : ChangeSpec := { name := "spanMeasures", fn := fun _ => fun
  | [d] => { results := [.lit (.bool false)], args := [d] }
  | _ => none }
def SpanMeasuresWrongFalsely : Prop := spanMeasuresRow.holds Tryz.pinned (OpenSpec.ofChange spanMeasuresWrong)

/-- 'bspregionlaw06.SpanValid': WHATEVER THE INPUT: true; the input reads as it did. -/
def spanValidSpec : ChangeSpec := { name := "spanValid", fn := fun _ => fun
  | [d1, d2] => { results := [.lit (.bool true)], args := [d1, d2] }
  | _ => none }
def spanValidRow : OpenClaim := { program := "ytimkdinmcbepnaagreatdoor", sum := "02c334ad76efc1ca5e6272782d03ab630528045188b788e25a8cc4d5b5eab41c", func := "bspregion/bspregionlaw06.SpanValid", spec := "spanValid", inPlace := ["internal/reflectlite.TypeOf"], unfollowed := true, recurses := true, named := ["bspregion/api.ErrInvalid", "math/bits.overflowError"], apart := false, laid := [("bspregion/api.ErrInvalid", laid_bspregion_api_ErrInvalid)] }
def SpanValidSaid : Prop := spanValidRow.holds Tryz.pinned (OpenSpec.ofChange spanValidSpec)

/-- ITS FALSE NEIGHBOUR: 'it returns false'. Refute it at one input. -/
def spanValidWrong : ChangeSpec := { name := "spanValid", fn := fun _ => fun
  | [d1, d2] => { results := [.lit (.bool false)], args := [d1, d2] }
  | _ => none }
def SpanValidWrongFalsely : Prop := spanValidRow.holds Tryz.pinned (OpenSpec.ofChange spanValidWrong)

/-- 'bspregionlaw14.TreeCounts': WHATEVER THE INPUT: true; the input reads as it did. -/
def treeCountsSpec : ChangeSpec := { name := "treeCounts", fn := fun _ => fun
  | [d1, d2] => { results := [.lit (.bool true)], args := [d1, d2] }
  | _ => none }
def treeCountsRow : OpenClaim := { program := "ytimkdinmcbepnaagreatdoor", sum := "02c334ad76efc1ca5e6272782d03ab630528045188b788e25a8cc4d5b5eab41c", func := "bspregion/bspregionlaw14.TreeCounts", spec := "treeCounts", unfollowed := true, recurses := true, named := ["math/bits.overflowError", "bspregion/api.ErrInvalid", "bspregion/api.ErrLimit"], apart := false, laid := [("bspregion/api.ErrInvalid", laid_bspregion_api_ErrInvalid), ("bspregion/api.ErrLimit", laid_bspregion_api_ErrLimit)] }
def TreeCountsSaid : Prop := treeCountsRow.holds Tryz.pinned (OpenSpec.ofChange treeCountsSpec)

/-- ITS FALSE NEIGHBOUR: 'it returns false'. Refute it at one input. -/
def treeCountsWrong : ChangeSpec := { name := "treeCounts", fn := fun _ => fun
  | [d1, d2] => { results := [.lit (.bool false)], args := [d1, d2] }
  | _ => none }
def TreeCountsWrongFalsely : Prop := treeCountsRow.holds Tryz.pinned (OpenSpec.ofChange treeCountsWrong)

/- THE SECOND FORM. 'bulk': how many values and letters a reading holds, each counted each time it is reached (what is shared counts as often as it is met; a slice's spare places count too). A statement '..UptoSaid' is the law's where the arguments, and the package variables that the reading takes, are together of bulk at most 1048576: NARROWER than '..Said'. Prove '..Said' where nothing that the law and all that it calls make is longer than what came in: it says more and counts as full. Else prove '..UptoSaid'. A law counts once. -/
mutual
def uptoBulk {H : Type} : DataW H → Nat
  | .lit (.string bytes) => bytes.length + 1
  | .lit _ => 1
  | .nil => 1
  | .ptr d => uptoBulk d + 1
  | .slice elems spare => uptoBulkAll elems + uptoBulkAll spare + 1
  | .agg parts => uptoBulkAll parts + 1
  | .iface _ d => uptoBulk d + 1
  | .map entries => uptoBulkEntries entries + 1
  | .held _ => 1
def uptoBulkAll {H : Type} : List (DataW H) → Nat
  | [] => 0
  | d :: r => uptoBulk d + uptoBulkAll r
def uptoBulkEntries {H : Type} : List (Lit × DataW H) → Nat
  | [] => 0
  | x :: r => uptoBulkEntry x + uptoBulkEntries r
def uptoBulkEntry {H : Type} : Lit × DataW H → Nat
  | (.string bytes, d) => bytes.length + uptoBulk d + 1
  | (_, d) => uptoBulk d + 1
 end
def uptoSmall : (H : Type) → List (DataW H) → Bool := fun _ ds => decide (uptoBulkAll ds ≤ 1048576)
def OpenSpec.upto (s : _root_.Go.ChangeSpec) : _root_.Go.OpenSpec := { _root_.Go.OpenSpec.ofChange s with cond := some uptoSmall }

/-- 'bspregionlaw06.SpanAlgebra', WHERE WHAT IT READS IS OF BULK AT MOST 1048576: true; the input reads as it did. -/
def spanAlgebraUptoRow : OpenClaim := { program := "ytimkdinmcbepnaagreatdoor", sum := "02c334ad76efc1ca5e6272782d03ab630528045188b788e25a8cc4d5b5eab41c", func := "bspregion/bspregionlaw06.SpanAlgebra", spec := "spanAlgebra", unfollowed := true, recurses := true, named := ["math/bits.overflowError", "bspregion/api.ErrInvalid"], apart := false, laid := [("bspregion/api.ErrInvalid", laid_bspregion_api_ErrInvalid)], narrowed := true }
def SpanAlgebraUptoSaid : Prop := spanAlgebraUptoRow.holds Tryz.pinned (OpenSpec.upto spanAlgebraSpec)

/-- 'bspregionlaw06.SpanAdds', WHERE WHAT IT READS IS OF BULK AT MOST 1048576: true; the input reads as it did. -/
def spanAddsUptoRow : OpenClaim := { program := "ytimkdinmcbepnaagreatdoor", sum := "02c334ad76efc1ca5e6272782d03ab630528045188b788e25a8cc4d5b5eab41c", func := "bspregion/bspregionlaw06.SpanAdds", spec := "spanAdds", unfollowed := true, recurses := true, named := ["math/bits.overflowError", "bspregion/api.ErrInvalid", "bspregion/api.ErrUnbounded"], apart := false, laid := [("bspregion/api.ErrInvalid", laid_bspregion_api_ErrInvalid), ("bspregion/api.ErrUnbounded", laid_bspregion_api_ErrUnbounded)], narrowed := true }
def SpanAddsUptoSaid : Prop := spanAddsUptoRow.holds Tryz.pinned (OpenSpec.upto spanAddsSpec)

/-- 'bspregionlaw06.SpanCombines', WHERE WHAT IT READS IS OF BULK AT MOST 1048576: true; the input reads as it did. -/
def spanCombinesUptoRow : OpenClaim := { program := "ytimkdinmcbepnaagreatdoor", sum := "02c334ad76efc1ca5e6272782d03ab630528045188b788e25a8cc4d5b5eab41c", func := "bspregion/bspregionlaw06.SpanCombines", spec := "spanCombines", unfollowed := true, recurses := true, named := ["math/bits.overflowError", "bspregion/api.ErrInvalid"], apart := false, laid := [("bspregion/api.ErrInvalid", laid_bspregion_api_ErrInvalid)], narrowed := true }
def SpanCombinesUptoSaid : Prop := spanCombinesUptoRow.holds Tryz.pinned (OpenSpec.upto spanCombinesSpec)

/-- 'bspregionlaw06.SpanPoints', WHERE WHAT IT READS IS OF BULK AT MOST 1048576: true; the input reads as it did. -/
def spanPointsUptoRow : OpenClaim := { program := "ytimkdinmcbepnaagreatdoor", sum := "02c334ad76efc1ca5e6272782d03ab630528045188b788e25a8cc4d5b5eab41c", func := "bspregion/bspregionlaw06.SpanPoints", spec := "spanPoints", unfollowed := true, recurses := true, named := ["math/bits.overflowError", "bspregion/api.ErrInvalid"], apart := false, laid := [("bspregion/api.ErrInvalid", laid_bspregion_api_ErrInvalid)], narrowed := true }
def SpanPointsUptoSaid : Prop := spanPointsUptoRow.holds Tryz.pinned (OpenSpec.upto spanPointsSpec)

/-- 'bspregionlaw06.SpanMeasures', WHERE WHAT IT READS IS OF BULK AT MOST 1048576: true; the input reads as it did. -/
def spanMeasuresUptoRow : OpenClaim := { program := "ytimkdinmcbepnaagreatdoor", sum := "02c334ad76efc1ca5e6272782d03ab630528045188b788e25a8cc4d5b5eab41c", func := "bspregion/bspregionlaw06.SpanMeasures", spec := "spanMeasures", inPlace := ["internal/reflectlite.TypeOf"], unfollowed := true, recurses := true, named := ["bspregion/api.ErrUnbounded", "math/bits.overflowError", "bspregion/api.ErrInvalid"], apart := false, laid := [("bspregion/api.ErrInvalid", laid_bspregion_api_ErrInvalid), ("bspregion/api.ErrUnbounded", laid_bspregion_api_ErrUnbounded)], narrowed := true }
def SpanMeasuresUptoSaid : Prop := spanMeasuresUptoRow.holds Tryz.pinned (OpenSpec.upto spanMeasuresSpec)

/-- 'bspregionlaw06.SpanValid', WHERE WHAT IT READS IS OF BULK AT MOST 1048576: true; the input reads as it did. -/
def spanValidUptoRow : OpenClaim := { program := "ytimkdinmcbepnaagreatdoor", sum := "02c334ad76efc1ca5e6272782d03ab630528045188b788e25a8cc4d5b5eab41c", func := "bspregion/bspregionlaw06.SpanValid", spec := "spanValid", inPlace := ["internal/reflectlite.TypeOf"], unfollowed := true, recurses := true, named := ["bspregion/api.ErrInvalid", "math/bits.overflowError"], apart := false, laid := [("bspregion/api.ErrInvalid", laid_bspregion_api_ErrInvalid)], narrowed := true }
def SpanValidUptoSaid : Prop := spanValidUptoRow.holds Tryz.pinned (OpenSpec.upto spanValidSpec)

/-- 'bspregionlaw14.TreeCounts', WHERE WHAT IT READS IS OF BULK AT MOST 1048576: true; the input reads as it did. -/
def treeCountsUptoRow : OpenClaim := { program := "ytimkdinmcbepnaagreatdoor", sum := "02c334ad76efc1ca5e6272782d03ab630528045188b788e25a8cc4d5b5eab41c", func := "bspregion/bspregionlaw14.TreeCounts", spec := "treeCounts", unfollowed := true, recurses := true, named := ["math/bits.overflowError", "bspregion/api.ErrInvalid", "bspregion/api.ErrLimit"], apart := false, laid := [("bspregion/api.ErrInvalid", laid_bspregion_api_ErrInvalid), ("bspregion/api.ErrLimit", laid_bspregion_api_ErrLimit)], narrowed := true }
def TreeCountsUptoSaid : Prop := treeCountsUptoRow.holds Tryz.pinned (OpenSpec.upto treeCountsSpec)

end Rows
end Go.Proofs.YtimkdinmcbepnaaGreatDoor
