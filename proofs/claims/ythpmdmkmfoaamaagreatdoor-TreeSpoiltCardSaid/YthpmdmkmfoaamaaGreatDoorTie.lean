/-
  DERIVED. GIVEN WITH THE SEED: THE PROGRAM's TIES (one call each: nine closed facts by the kernel) AND EACH ROW's TIE, after the 31st guide's Derived/Test/Toyas{Tie, Card}.lean. No idea stands in it: it is a product of the set-up. Laid BY PROGRAM, IN A SANDBOX (cutbox-door.mjs). By AI agents, Wed Nov 11 2026. No macro, syntax, notation, axiom, sorry.
-/
import Derived.Test.YthpmdmkmfoaamaaGreatDoorRows
import Derived.LaidByTextLater
import Derived.SevenTiedAt
import Derived.LaidSub
import Derived.LaidOnce
namespace Go.Proofs.YthpmdmkmfoaamaaGreatDoor
open Go
set_option maxRecDepth 100000
theorem seatTie1 : Tryz.prog.laidByTextLater [("bspregion/api.ErrInvalid", Rows.laid_bspregion_api_ErrInvalid), ("bspregion/api.ErrLimit", Rows.laid_bspregion_api_ErrLimit)] [.sentinel, .sentinel] true :=
  Program.laidByTextLater_by_one 47 8 2 (by kernel_rfl) (by kernel_rfl) (by kernel_rfl) (by kernel_rfl) (by kernel_rfl) (by kernel_rfl) (fun _ _ => by kernel_rfl)
theorem noOwnUnsafe : Tryz.pinned.checked.prog.headLifts.contains "ownunsafe" = false := by kernel_rfl
theorem tie : Tryz.prog.laidByTextLater [("bspregion/api.ErrInvalid", Rows.laid_bspregion_api_ErrInvalid)] [.sentinel] true :=
  Program.laidByTextLater.sub seatTie1 ["bspregion/api.ErrInvalid"] (by kernel_rfl) (by kernel_rfl)
theorem locateClasses_row_tie : Rows.locateClassesRow.laidByTextAt .later Tryz.pinned [.sentinel] true :=
  OpenClaim.laidByTextAt_later rfl rfl tie noOwnUnsafe
theorem locateNear_row_tie : Rows.locateNearRow.laidByTextAt .later Tryz.pinned [.sentinel] true :=
  OpenClaim.laidByTextAt_later rfl rfl tie noOwnUnsafe
theorem locateIndependent_row_tie : Rows.locateIndependentRow.laidByTextAt .later Tryz.pinned [.sentinel] true :=
  OpenClaim.laidByTextAt_later rfl rfl tie noOwnUnsafe
theorem locateAgrees_row_tie : Rows.locateAgreesRow.laidByTextAt .later Tryz.pinned [.sentinel] true :=
  OpenClaim.laidByTextAt_later rfl rfl tie noOwnUnsafe
theorem locateRefuses_row_tie : Rows.locateRefusesRow.laidByTextAt .later Tryz.pinned [.sentinel] true :=
  OpenClaim.laidByTextAt_later rfl rfl tie noOwnUnsafe
theorem tie2 : Tryz.prog.laidByTextLater [("bspregion/api.ErrInvalid", Rows.laid_bspregion_api_ErrInvalid), ("bspregion/api.ErrLimit", Rows.laid_bspregion_api_ErrLimit)] [.sentinel, .sentinel] true :=
  Program.laidByTextLater.sub seatTie1 ["bspregion/api.ErrInvalid", "bspregion/api.ErrLimit"] (by kernel_rfl) (by kernel_rfl)
theorem treeValid_row_tie : Rows.treeValidRow.laidByTextAt .later Tryz.pinned [.sentinel, .sentinel] true :=
  OpenClaim.laidByTextAt_later rfl rfl tie2 noOwnUnsafe
theorem treeSpoilt_row_tie : Rows.treeSpoiltRow.laidByTextAt .later Tryz.pinned [.sentinel, .sentinel] true :=
  OpenClaim.laidByTextAt_later rfl rfl tie2 noOwnUnsafe
theorem locateClassesUpto_row_tie : Rows.locateClassesUptoRow.laidByTextAt .later Tryz.pinned [.sentinel] true :=
  OpenClaim.laidByTextAt_later rfl rfl tie noOwnUnsafe
theorem locateNearUpto_row_tie : Rows.locateNearUptoRow.laidByTextAt .later Tryz.pinned [.sentinel] true :=
  OpenClaim.laidByTextAt_later rfl rfl tie noOwnUnsafe
theorem locateIndependentUpto_row_tie : Rows.locateIndependentUptoRow.laidByTextAt .later Tryz.pinned [.sentinel] true :=
  OpenClaim.laidByTextAt_later rfl rfl tie noOwnUnsafe
theorem locateAgreesUpto_row_tie : Rows.locateAgreesUptoRow.laidByTextAt .later Tryz.pinned [.sentinel] true :=
  OpenClaim.laidByTextAt_later rfl rfl tie noOwnUnsafe
theorem locateRefusesUpto_row_tie : Rows.locateRefusesUptoRow.laidByTextAt .later Tryz.pinned [.sentinel] true :=
  OpenClaim.laidByTextAt_later rfl rfl tie noOwnUnsafe
theorem treeValidUpto_row_tie : Rows.treeValidUptoRow.laidByTextAt .later Tryz.pinned [.sentinel, .sentinel] true :=
  OpenClaim.laidByTextAt_later rfl rfl tie2 noOwnUnsafe
theorem treeSpoiltUpto_row_tie : Rows.treeSpoiltUptoRow.laidByTextAt .later Tryz.pinned [.sentinel, .sentinel] true :=
  OpenClaim.laidByTextAt_later rfl rfl tie2 noOwnUnsafe
end Go.Proofs.YthpmdmkmfoaamaaGreatDoor
