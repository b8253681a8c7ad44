/-
  NARROWER THAN 'FOR EVERY INPUT', by the rows' own cells (each row's printed sentence says how): CellsLists: laid · CellsFinds: laid · CellsRefuses: laid · CellsNeighbors: laid · CellsConnected: laid · CellsCover: laid.
  DERIVED. THE GIVEN ROWS OF THIS SEAT. 6 by the template 'for every input the law returns true; each argument reads behind the call as it read before'; 0 by the template 'total and deterministic' (their statements: YtdhlkpfmlimjfaaGreatDoorTotals.lean).
  GIVEN WITH THE SEED: the statements are not yours to turn. If you find one false, say at which input.
  Laid BY PROGRAM, IN A SANDBOX (cutbox-rows.mjs): the forced cells as the released guide's own fill.sh prints them over the translation 0d8a3721684aa44f… (all of the seat's roots in one cut). By AI agents, Wed Nov 11 2026. No macro, syntax, notation, axiom, sorry.
-/
import Derived.Test.YtdhlkpfmlimjfaaGreatDoorChecked
import GoSem.Claim
import GoSem.ClaimJoined
import GoSem.ClaimMapViews
import Derived.JoinedTies
import Derived.KernelRfl
namespace Go.Proofs.YtdhlkpfmlimjfaaGreatDoor
/- THE CELL 'sum', in the pinned program and in every row, IS THE sha256 OF THE DUMP (.gsa) THAT YtdhlkpfmlimjfaaGreatDoorProg.lean LOADS. Nothing in Lean hashes anything: it is a label: what it is worth is what the hold of that sum in a sandbox is worth. -/
noncomputable def Tryz.pinned : Pinned := { name := "ytdhlkpfmlimjfaagreatdoor", sum := "0d8a3721684aa44fd209ce9c11e4ca50ed636017f338d25ad9c842071f0c1077", checked := Tryz.checked }
namespace Rows
def none {H : Type} : Left H := { results := [], args := [] }

/- WHAT THE LISTED PACKAGE-LEVEL VARIABLES READ AS WHEN THE CALL BEGINS. Each datum BY PROGRAM (the guide's laid-datum.mjs) off the statement by which the dump's own 'gosem.cut.vars' lays the variable. In a bare row this is a premise. The card (YtdhlkpfmlimjfaaGreatDoorCards.lean) ties it to the program's text. -/
def laid_bspregion_api_ErrInvalid {H : Type} : DataW H := .iface "*errors.errorString" (.ptr (.agg [.lit (.string [105, 110, 118, 97, 108, 105, 100, 32, 118, 97, 108, 117, 101])]))
def laid_bspregion_api_ErrLimit {H : Type} : DataW H := .iface "*errors.errorString" (.ptr (.agg [.lit (.string [108, 105, 109, 105, 116, 32, 101, 120, 99, 101, 101, 100, 101, 100])]))

/-- 'bspregionlaw16.CellsLists': WHATEVER THE INPUT: true; the input reads as it did. -/
def cellsListsSpec : ChangeSpec := { name := "cellsLists", fn := fun _ => fun
  | [d] => { results := [.lit (.bool true)], args := [d] }
  | _ => none }
def cellsListsRow : OpenClaim := { program := "ytdhlkpfmlimjfaagreatdoor", sum := "0d8a3721684aa44fd209ce9c11e4ca50ed636017f338d25ad9c842071f0c1077", func := "bspregion/bspregionlaw16.CellsLists", spec := "cellsLists", inPlace := ["slices.overlaps[bspregion/geo.Fr]"], unfollowed := true, recurses := true, named := ["math/bits.overflowError", "bspregion/api.ErrInvalid", "bspregion/api.ErrLimit"], apart := false, laid := [("bspregion/api.ErrInvalid", laid_bspregion_api_ErrInvalid), ("bspregion/api.ErrLimit", laid_bspregion_api_ErrLimit)] }
def CellsListsSaid : Prop := cellsListsRow.holds Tryz.pinned (OpenSpec.ofChange cellsListsSpec)

/-- ITS FALSE NEIGHBOUR: 'it returns false'. Refute it at one input. -/
def cellsListsWrong : ChangeSpec := { name := "cellsLists", fn := fun _ => fun
  | [d] => { results := [.lit (.bool false)], args := [d] }
  | _ => none }
def CellsListsWrongFalsely : Prop := cellsListsRow.holds Tryz.pinned (OpenSpec.ofChange cellsListsWrong)

/-- 'bspregionlaw16.CellsFinds': WHATEVER THE INPUT: true; the input reads as it did. -/
def cellsFindsSpec : ChangeSpec := { name := "cellsFinds", fn := fun _ => fun
  | [d] => { results := [.lit (.bool true)], args := [d] }
  | _ => none }
def cellsFindsRow : OpenClaim := { program := "ytdhlkpfmlimjfaagreatdoor", sum := "0d8a3721684aa44fd209ce9c11e4ca50ed636017f338d25ad9c842071f0c1077", func := "bspregion/bspregionlaw16.CellsFinds", spec := "cellsFinds", inPlace := ["slices.overlaps[bspregion/geo.Fr]"], unfollowed := true, recurses := true, named := ["math/bits.overflowError", "bspregion/api.ErrInvalid", "bspregion/api.ErrLimit"], apart := false, laid := [("bspregion/api.ErrInvalid", laid_bspregion_api_ErrInvalid), ("bspregion/api.ErrLimit", laid_bspregion_api_ErrLimit)] }
def CellsFindsSaid : Prop := cellsFindsRow.holds Tryz.pinned (OpenSpec.ofChange cellsFindsSpec)

/-- ITS FALSE NEIGHBOUR: 'it returns false'. Refute it at one input. -/
def cellsFindsWrong : ChangeSpec := { name := "cellsFinds", fn := fun _ => fun
  | [d] => { results := [.lit (.bool false)], args := [d] }
  | _ => none }
def CellsFindsWrongFalsely : Prop := cellsFindsRow.holds Tryz.pinned (OpenSpec.ofChange cellsFindsWrong)

/-- 'bspregionlaw16.CellsRefuses': WHATEVER THE INPUT: true; the input reads as it did. -/
def cellsRefusesSpec : ChangeSpec := { name := "cellsRefuses", fn := fun _ => fun
  | [d1, d2] => { results := [.lit (.bool true)], args := [d1, d2] }
  | _ => none }
def cellsRefusesRow : OpenClaim := { program := "ytdhlkpfmlimjfaagreatdoor", sum := "0d8a3721684aa44fd209ce9c11e4ca50ed636017f338d25ad9c842071f0c1077", func := "bspregion/bspregionlaw16.CellsRefuses", spec := "cellsRefuses", inPlace := ["slices.overlaps[bspregion/geo.Fr]", "internal/reflectlite.TypeOf"], unfollowed := true, recurses := true, named := ["bspregion/api.ErrInvalid", "bspregion/api.ErrLimit", "math/bits.overflowError"], apart := false, laid := [("bspregion/api.ErrInvalid", laid_bspregion_api_ErrInvalid), ("bspregion/api.ErrLimit", laid_bspregion_api_ErrLimit)] }
def CellsRefusesSaid : Prop := cellsRefusesRow.holds Tryz.pinned (OpenSpec.ofChange cellsRefusesSpec)

/-- ITS FALSE NEIGHBOUR: 'it returns false'. Refute it at one input. -/
def cellsRefusesWrong : ChangeSpec := { name := "cellsRefuses", fn := fun _ => fun
  | [d1, d2] => { results := [.lit (.bool false)], args := [d1, d2] }
  | _ => none }
def CellsRefusesWrongFalsely : Prop := cellsRefusesRow.holds Tryz.pinned (OpenSpec.ofChange cellsRefusesWrong)

/-- 'bspregionlaw16.CellsNeighbors': WHATEVER THE INPUT: true; the input reads as it did. -/
def cellsNeighborsSpec : ChangeSpec := { name := "cellsNeighbors", fn := fun _ => fun
  | [d] => { results := [.lit (.bool true)], args := [d] }
  | _ => none }
def cellsNeighborsRow : OpenClaim := { program := "ytdhlkpfmlimjfaagreatdoor", sum := "0d8a3721684aa44fd209ce9c11e4ca50ed636017f338d25ad9c842071f0c1077", func := "bspregion/bspregionlaw16.CellsNeighbors", spec := "cellsNeighbors", inPlace := ["slices.overlaps[bspregion/geo.Fr]"], unfollowed := true, recurses := true, named := ["math/bits.overflowError", "bspregion/api.ErrInvalid", "bspregion/api.ErrLimit"], apart := false, laid := [("bspregion/api.ErrInvalid", laid_bspregion_api_ErrInvalid), ("bspregion/api.ErrLimit", laid_bspregion_api_ErrLimit)] }
def CellsNeighborsSaid : Prop := cellsNeighborsRow.holds Tryz.pinned (OpenSpec.ofChange cellsNeighborsSpec)

/-- ITS FALSE NEIGHBOUR: 'it returns false'. Refute it at one input. -/
def cellsNeighborsWrong : ChangeSpec := { name := "cellsNeighbors", fn := fun _ => fun
  | [d] => { results := [.lit (.bool false)], args := [d] }
  | _ => none }
def CellsNeighborsWrongFalsely : Prop := cellsNeighborsRow.holds Tryz.pinned (OpenSpec.ofChange cellsNeighborsWrong)

/-- 'bspregionlaw16.CellsConnected': WHATEVER THE INPUT: true; the input reads as it did. -/
def cellsConnectedSpec : ChangeSpec := { name := "cellsConnected", fn := fun _ => fun
  | [d] => { results := [.lit (.bool true)], args := [d] }
  | _ => none }
def cellsConnectedRow : OpenClaim := { program := "ytdhlkpfmlimjfaagreatdoor", sum := "0d8a3721684aa44fd209ce9c11e4ca50ed636017f338d25ad9c842071f0c1077", func := "bspregion/bspregionlaw16.CellsConnected", spec := "cellsConnected", inPlace := ["slices.overlaps[bspregion/geo.Fr]"], unfollowed := true, recurses := true, named := ["math/bits.overflowError", "bspregion/api.ErrInvalid", "bspregion/api.ErrLimit"], apart := false, laid := [("bspregion/api.ErrInvalid", laid_bspregion_api_ErrInvalid), ("bspregion/api.ErrLimit", laid_bspregion_api_ErrLimit)] }
def CellsConnectedSaid : Prop := cellsConnectedRow.holds Tryz.pinned (OpenSpec.ofChange cellsConnectedSpec)

/-- ITS FALSE NEIGHBOUR: 'it returns false'. Refute it at one input. -/
def cellsConnectedWrong : ChangeSpec := { name := "cellsConnected", fn := fun _ => fun
  | [d] => { results := [.lit (.bool false)], args := [d] }
  | _ => none }
def CellsConnectedWrongFalsely : Prop := cellsConnectedRow.holds Tryz.pinned (OpenSpec.ofChange cellsConnectedWrong)

/-- 'bspregionlaw16.CellsCover': WHATEVER THE INPUT: true; the input reads as it did. -/
def cellsCoverSpec : ChangeSpec := { name := "cellsCover", fn := fun _ => fun
  | [d] => { results := [.lit (.bool true)], args := [d] }
  | _ => none }
def cellsCoverRow : OpenClaim := { program := "ytdhlkpfmlimjfaagreatdoor", sum := "0d8a3721684aa44fd209ce9c11e4ca50ed636017f338d25ad9c842071f0c1077", func := "bspregion/bspregionlaw16.CellsCover", spec := "cellsCover", inPlace := ["slices.overlaps[bspregion/geo.Fr]"], unfollowed := true, recurses := true, named := ["math/bits.overflowError", "bspregion/api.ErrInvalid", "bspregion/api.ErrLimit"], apart := false, laid := [("bspregion/api.ErrInvalid", laid_bspregion_api_ErrInvalid), ("bspregion/api.ErrLimit", laid_bspregion_api_ErrLimit)] }
def CellsCoverSaid : Prop := cellsCoverRow.holds Tryz.pinned (OpenSpec.ofChange cellsCoverSpec)

/-- ITS FALSE NEIGHBOUR: 'it returns false'. Refute it at one input. -/
def cellsCoverWrong : ChangeSpec := { name := "cellsCover", fn := fun _ => fun
  | [d] => { results := [.lit (.bool false)], args := [d] }
  | _ => none }
def CellsCoverWrongFalsely : Prop := cellsCoverRow.holds Tryz.pinned (OpenSpec.ofChange cellsCoverWrong)

/- THE SECOND FORM. 'bulk': how many values and letters a reading holds, each counted each time it is reached (what is shared counts as often as it is met; a slice's spare places count too). A statement '..UptoSaid' is the law's where the arguments, and the package variables that the reading takes, are together of bulk at most 1048576: NARROWER than '..Said'. Prove '..Said' where nothing that the law and all that it calls make is longer than what came in: it says more and counts as full. Else prove '..UptoSaid'. A law counts once. -/
mutual
def uptoBulk {H : Type} : DataW H → Nat
  | .lit (.string bytes) => bytes.length + 1
  | .lit _ => 1
  | .nil => 1
  | .ptr d => uptoBulk d + 1
  | .slice elems spare => uptoBulkAll elems + uptoBulkAll spare + 1
  | .agg parts => uptoBulkAll parts + 1
  | .iface _ d => uptoBulk d + 1
  | .map entries => uptoBulkEntries entries + 1
  | .held _ => 1
def uptoBulkAll {H : Type} : List (DataW H) → Nat
  | [] => 0
  | d :: r => uptoBulk d + uptoBulkAll r
def uptoBulkEntries {H : Type} : List (Lit × DataW H) → Nat
  | [] => 0
  | x :: r => uptoBulkEntry x + uptoBulkEntries r
def uptoBulkEntry {H : Type} : Lit × DataW H → Nat
  | (.string bytes, d) => bytes.length + uptoBulk d + 1
  | (_, d) => uptoBulk d + 1
 end
def uptoSmall : (H : Type) → List (DataW H) → Bool := fun _ ds => decide (uptoBulkAll ds ≤ 1048576)
def OpenSpec.upto (s : _root_.Go.ChangeSpec) : _root_.Go.OpenSpec := { _root_.Go.OpenSpec.ofChange s with cond := some uptoSmall }

/-- 'bspregionlaw16.CellsLists', WHERE WHAT IT READS IS OF BULK AT MOST 1048576: true; the input reads as it did. -/
def cellsListsUptoRow : OpenClaim := { program := "ytdhlkpfmlimjfaagreatdoor", sum := "0d8a3721684aa44fd209ce9c11e4ca50ed636017f338d25ad9c842071f0c1077", func := "bspregion/bspregionlaw16.CellsLists", spec := "cellsLists", inPlace := ["slices.overlaps[bspregion/geo.Fr]"], unfollowed := true, recurses := true, named := ["math/bits.overflowError", "bspregion/api.ErrInvalid", "bspregion/api.ErrLimit"], apart := false, laid := [("bspregion/api.ErrInvalid", laid_bspregion_api_ErrInvalid), ("bspregion/api.ErrLimit", laid_bspregion_api_ErrLimit)], narrowed := true }
def CellsListsUptoSaid : Prop := cellsListsUptoRow.holds Tryz.pinned (OpenSpec.upto cellsListsSpec)

/-- 'bspregionlaw16.CellsFinds', WHERE WHAT IT READS IS OF BULK AT MOST 1048576: true; the input reads as it did. -/
def cellsFindsUptoRow : OpenClaim := { program := "ytdhlkpfmlimjfaagreatdoor", sum := "0d8a3721684aa44fd209ce9c11e4ca50ed636017f338d25ad9c842071f0c1077", func := "bspregion/bspregionlaw16.CellsFinds", spec := "cellsFinds", inPlace := ["slices.overlaps[bspregion/geo.Fr]"], unfollowed := true, recurses := true, named := ["math/bits.overflowError", "bspregion/api.ErrInvalid", "bspregion/api.ErrLimit"], apart := false, laid := [("bspregion/api.ErrInvalid", laid_bspregion_api_ErrInvalid), ("bspregion/api.ErrLimit", laid_bspregion_api_ErrLimit)], narrowed := true }
def CellsFindsUptoSaid : Prop := cellsFindsUptoRow.holds Tryz.pinned (OpenSpec.upto cellsFindsSpec)

/-- 'bspregionlaw16.CellsRefuses', WHERE WHAT IT READS IS OF BULK AT MOST 1048576: true; the input reads as it did. -/
def cellsRefusesUptoRow : OpenClaim := { program := "ytdhlkpfmlimjfaagreatdoor", sum := "0d8a3721684aa44fd209ce9c11e4ca50ed636017f338d25ad9c842071f0c1077", func := "bspregion/bspregionlaw16.CellsRefuses", spec := "cellsRefuses", inPlace := ["slices.overlaps[bspregion/geo.Fr]", "internal/reflectlite.TypeOf"], unfollowed := true, recurses := true, named := ["bspregion/api.ErrInvalid", "bspregion/api.ErrLimit", "math/bits.overflowError"], apart := false, laid := [("bspregion/api.ErrInvalid", laid_bspregion_api_ErrInvalid), ("bspregion/api.ErrLimit", laid_bspregion_api_ErrLimit)], narrowed := true }
def CellsRefusesUptoSaid : Prop := cellsRefusesUptoRow.holds Tryz.pinned (OpenSpec.upto cellsRefusesSpec)

/-- 'bspregionlaw16.CellsNeighbors', WHERE WHAT IT READS IS OF BULK AT MOST 1048576: true; the input reads as it did. -/
def cellsNeighborsUptoRow : OpenClaim := { program := "ytdhlkpfmlimjfaagreatdoor", sum := "0d8a3721684aa44fd209ce9c11e4ca50ed636017f338d25ad9c842071f0c1077", func := "bspregion/bspregionlaw16.CellsNeighbors", spec := "cellsNeighbors", inPlace := ["slices.overlaps[bspregion/geo.Fr]"], unfollowed := true, recurses := true, named := ["math/bits.overflowError", "bspregion/api.ErrInvalid", "bspregion/api.ErrLimit"], apart := false, laid := [("bspregion/api.ErrInvalid", laid_bspregion_api_ErrInvalid), ("bspregion/api.ErrLimit", laid_bspregion_api_ErrLimit)], narrowed := true }
def CellsNeighborsUptoSaid : Prop := cellsNeighborsUptoRow.holds Tryz.pinned (OpenSpec.upto cellsNeighborsSpec)

/-- 'bspregionlaw16.CellsConnected', WHERE WHAT IT READS IS OF BULK AT MOST 1048576: true; the input reads as it did. -/
def cellsConnectedUptoRow : OpenClaim := { program := "ytdhlkpfmlimjfaagreatdoor", sum := "0d8a3721684aa44fd209ce9c11e4ca50ed636017f338d25ad9c842071f0c1077", func := "bspregion/bspregionlaw16.CellsConnected", spec := "cellsConnected", inPlace := ["slices.overlaps[bspregion/geo.Fr]"], unfollowed := true, recurses := true, named := ["math/bits.overflowError", "bspregion/api.ErrInvalid", "bspregion/api.ErrLimit"], apart := false, laid := [("bspregion/api.ErrInvalid", laid_bspregion_api_ErrInvalid), ("bspregion/api.ErrLimit", laid_bspregion_api_ErrLimit)], narrowed := true }
def CellsConnectedUptoSaid : Prop := cellsConnectedUptoRow.holds Tryz.pinned (OpenSpec.upto cellsConnectedSpec)

/-- 'bspregionlaw16.CellsCover', WHERE WHAT IT READS IS OF BULK AT MOST 1048576: true; the input reads as it did. -/
def cellsCoverUptoRow : OpenClaim := { program := "ytdhlkpfmlimjfaagreatdoor", sum := "0d8a3721684aa44fd209ce9c11e4ca50ed636017f338d25ad9c842071f0c1077", func := "bspregion/bspregionlaw16.CellsCover", spec := "cellsCover", inPlace := ["slices.overlaps[bspregion/geo.Fr]"], unfollowed := true, recurses := true, named := ["math/bits.overflowError", "bspregion/api.ErrInvalid", "bspregion/api.ErrLimit"], apart := false, laid := [("bspregion/api.ErrInvalid", laid_bspregion_api_ErrInvalid), ("bspregion/api.ErrLimit", laid_bspregion_api_ErrLimit)], narrowed := true }
def CellsCoverUptoSaid : Prop := cellsCoverUptoRow.holds Tryz.pinned (OpenSpec.upto cellsCoverSpec)

end Rows
end Go.Proofs.YtdhlkpfmlimjfaaGreatDoor
