/-
  DERIVED. GIVEN WITH THE SEED: THE CARDS: each row of YtecldfbdkdkajaaGreatDoorRows.lean that lists a variable, with what it lists TIED to the program's text (the seventh form; the later family's looks); each row that meets fmt, with fmt's text TOLD by the authors' own Lean function (tested against real Go, not proved from fmt's source: count such statements apart). THE CARD IS WHAT COUNTS. Prove the row's statement (the work); the ties are given (YtecldfbdkdkajaaGreatDoorTie.lean); close each card by the builder's one call (the guide's Derived/Test/ToyasCard.lean, 'card_holds'). Laid BY PROGRAM, IN A SANDBOX (cutbox-door.mjs). By AI agents, Wed Nov 11 2026. No macro, syntax, notation, axiom, sorry.
-/
import Derived.Test.YtecldfbdkdkajaaGreatDoorRows
import GoSem.ClaimSeven
namespace Go.Proofs.YtecldfbdkdkajaaGreatDoor
namespace Rows

/-- THE TIED CARD OF 'bspregionlaw14.TreeOrders'. -/
def treeOrdersCard : Claim7 := { stood := { row := treeOrdersRow, standIns := [], harness := (true, "0445b2c0d54efa1c65856c8dd76dfa9dff9c37f591cf04bc1478a97ecdfad678"), looks := true }, kinds := [], alts := [], laidByText := true, laidKinds := [.sentinel, .sentinel], laidTests := true, laidLooks := .later }
def TreeOrdersCardSaid : Prop := Claim7.holds Tryz.pinned (.plain (OpenSpec.ofChange treeOrdersSpec)) treeOrdersCard

/-- THE TIED CARD OF 'bspregionlaw14.TreeLimit'. -/
def treeLimitCard : Claim7 := { stood := { row := treeLimitRow, standIns := [], harness := (true, "0445b2c0d54efa1c65856c8dd76dfa9dff9c37f591cf04bc1478a97ecdfad678"), looks := true }, kinds := [], alts := [], laidByText := true, laidKinds := [.sentinel, .sentinel], laidTests := true, laidLooks := .later }
def TreeLimitCardSaid : Prop := Claim7.holds Tryz.pinned (.plain (OpenSpec.ofChange treeLimitSpec)) treeLimitCard

/-- THE TIED CARD OF 'bspregionlaw14.TreeJoins'. -/
def treeJoinsCard : Claim7 := { stood := { row := treeJoinsRow, standIns := [], harness := (true, "0445b2c0d54efa1c65856c8dd76dfa9dff9c37f591cf04bc1478a97ecdfad678"), looks := true }, kinds := [], alts := [], laidByText := true, laidKinds := [.sentinel, .sentinel, .sentinel], laidTests := true, laidLooks := .later }
def TreeJoinsCardSaid : Prop := Claim7.holds Tryz.pinned (.plain (OpenSpec.ofChange treeJoinsSpec)) treeJoinsCard

/-- THE SECOND FORM's CARD OF 'bspregionlaw14.TreeOrders'. -/
def treeOrdersUptoCard : Claim7 := { stood := { row := treeOrdersUptoRow, standIns := [], harness := (true, "0445b2c0d54efa1c65856c8dd76dfa9dff9c37f591cf04bc1478a97ecdfad678"), looks := true }, kinds := [], alts := [], laidByText := true, laidKinds := [.sentinel, .sentinel], laidTests := true, laidLooks := .later }
def TreeOrdersUptoCardSaid : Prop := Claim7.holds Tryz.pinned (.plain (OpenSpec.upto treeOrdersSpec)) treeOrdersUptoCard

/-- THE SECOND FORM's CARD OF 'bspregionlaw14.TreeLimit'. -/
def treeLimitUptoCard : Claim7 := { stood := { row := treeLimitUptoRow, standIns := [], harness := (true, "0445b2c0d54efa1c65856c8dd76dfa9dff9c37f591cf04bc1478a97ecdfad678"), looks := true }, kinds := [], alts := [], laidByText := true, laidKinds := [.sentinel, .sentinel], laidTests := true, laidLooks := .later }
def TreeLimitUptoCardSaid : Prop := Claim7.holds Tryz.pinned (.plain (OpenSpec.upto treeLimitSpec)) treeLimitUptoCard

/-- THE SECOND FORM's CARD OF 'bspregionlaw14.TreeJoins'. -/
def treeJoinsUptoCard : Claim7 := { stood := { row := treeJoinsUptoRow, standIns := [], harness := (true, "0445b2c0d54efa1c65856c8dd76dfa9dff9c37f591cf04bc1478a97ecdfad678"), looks := true }, kinds := [], alts := [], laidByText := true, laidKinds := [.sentinel, .sentinel, .sentinel], laidTests := true, laidLooks := .later }
def TreeJoinsUptoCardSaid : Prop := Claim7.holds Tryz.pinned (.plain (OpenSpec.upto treeJoinsSpec)) treeJoinsUptoCard
end Rows
end Go.Proofs.YtecldfbdkdkajaaGreatDoor
