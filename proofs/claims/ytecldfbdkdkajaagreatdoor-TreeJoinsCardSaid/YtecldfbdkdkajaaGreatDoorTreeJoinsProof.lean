/- The law TreeJoins (bspregionlaw14): for every input (a slice of ints and two ints) the call returns true and the argument reads as it did. Condition: the package-level variables ErrInvalid, ErrEmpty and ErrLimit read as the program's text lays them (the card ties this). -/
import Derived.Test.YtecldfbdkdkajaaGreatDoorM14
import Derived.Test.YtecldfbdkdkajaaGreatDoorM15
set_option linter.unusedVariables false
namespace Go.Proofs.YtecldfbdkdkajaaGreatDoor.treeJoins
open Go.ChangeShapes Go.WideShapes Go.ChangeAt Go.RowKit Go.Eng

theorem gInv : Tryz.prog.globalNamed "bspregion/api.ErrInvalid" = some 1 := by kernel_rfl
theorem gLim : Tryz.prog.globalNamed "bspregion/api.ErrLimit" = some 0 := by kernel_rfl
theorem tInv : (Tryz.prog.globals[1]?).map (·.type) = some 33 := by kernel_rfl
theorem tLim : (Tryz.prog.globals[0]?).map (·.type) = some 33 := by kernel_rfl
theorem gEmp : Tryz.prog.globalNamed "bspregion/api.ErrEmpty" = some 2 := by kernel_rfl
theorem tEmp : (Tryz.prog.globals[2]?).map (·.type) = some 33 := by kernel_rfl
theorem snt {W : World} (h : laidMetH Tryz.prog Rows.treeJoinsRow.laid W) : ∃ y z w, Tryz.Snt (View.all W) y z ∧ Tryz.Sent (View.all W) 2 w ∧ Tryz.SErr w := by
  obtain ⟨a, ha⟩ := sent_of_laid gInv tInv (List.mem_cons_self ..) h
  obtain ⟨c, hc⟩ := sent_of_laid gEmp tEmp (List.mem_cons_of_mem _ (List.mem_cons_self ..)) h
  obtain ⟨b, hb⟩ := sent_of_laid gLim tLim (List.mem_cons_of_mem _ (List.mem_cons_of_mem _ (List.mem_cons_self ..))) h
  exact ⟨_, _, _, ⟨sent_all ha, sent_all hb, ⟨a, rfl⟩, ⟨b, rfl⟩⟩, sent_all hc, ⟨c, rfl⟩⟩

set_option maxRecDepth 100000 in
theorem contract (H : Type) (enc : TypeId × Value → H) (W : World) (base : Nat) (args : Array Value) (ds gs : List (DataW H)) (before : List MemPlace)
    (hval : ∀ (j : Nat) t v, Tryz.f5.params[j]? = some t → args[j]? = some v → Value.okWide Tryz.prog W .any base t v)
    (hW : DataW.Whole enc Tryz.prog Tryz.f5.params.toList Rows.treeJoinsSpec.vars false W args.toList ds gs before) (hL : laidMetH Tryz.prog Rows.treeJoinsRow.laid W) :
    Calls Tryz.prog 5 args W fun e W' => ∃ v, e = .returned v ∧ Rows.treeJoinsSpec.post enc Tryz.prog Tryz.f5 false true false false W args v W' := by
  have hW' := hW
  obtain ⟨p, q, hA0, hV, rfl, hfz, hnd⟩ := hW
  have hA : DataW.TrodAll enc Tryz.prog W 0 (fun _ => true) true Tryz.f5.params.toList args.toList ds p := hA0
  rw [Tryz.params5] at hA hval
  obtain ⟨v0, vs0, d0, ds0, p0, q0, hargs, rfl, rfl, h0, r0⟩ := trodAll_cons hA
  obtain ⟨v1, vs1, d1, ds1, p1, q1, rfl, rfl, rfl, h1, r1⟩ := trodAll_cons r0
  obtain ⟨v2, vs2, d2, ds2, p2, q2, rfl, rfl, rfl, h2, r2⟩ := trodAll_cons r1
  obtain ⟨rfl, rfl, rfl⟩ := trodAll_nil r2
  obtain rfl : args = #[v0, v1, v2] := by cases args; simp_all
  obtain ⟨rfl, rfl⟩ := trodVars_none hV
  obtain ⟨lp, ln, lc, rfl⟩ := okWide_slice Tryz.underlying22 (hval 0 22 v0 rfl rfl)
  obtain ⟨a1, rfl, rfl, rfl, w1⟩ := open_int Tryz.underlying3 (hval 1 3 v1 rfl rfl) h1
  obtain ⟨a2, rfl, rfl, rfl, w2⟩ := open_int Tryz.underlying3 (hval 2 3 v2 rfl rfl) h2
  clear hA0
  obtain ⟨y, z, w, hs, hw, hwE⟩ := snt hL
  obtain ⟨hc, hr⟩ := rdl_of_trod h0
  exact law_end hW' rfl (by kernel_rfl) (by kernel_rfl) rfl (Tryz.c_law14_TreeJoins hs hw hwE hr hc a1 a2)

noncomputable def laidWorld (os : Os) : World := World.laidAll Tryz.prog os Rows.treeJoinsRow.laid
theorem laid_met (os : Os) : laidMet Tryz.prog Rows.treeJoinsRow.laid ((laidWorld os).forCall (fun _ _ => 0) ⟨#[], #[.slice none 0 0, .int .i64 0, .int .i64 0], []⟩).memory :=
  laidMet_laidAll _ (by kernel_rfl) (by kernel_rfl)
theorem reads (os : Os) {H : Type} (enc : TypeId × Value → H) : ∃ places, DataW.whole enc Tryz.prog ((laidWorld os).forCall (fun _ _ => 0) ⟨#[], #[.slice none 0 0, .int .i64 0, .int .i64 0], []⟩).memory Tryz.f5.params.toList Rows.treeJoinsSpec.vars false #[Value.slice none 0 0, Value.int .i64 0, Value.int .i64 0].toList 8 = some ([.nil, .lit (.int .i64 0), .lit (.int .i64 0)], [], places) :=
  ⟨[], by kernel_rfl⟩

set_option maxRecDepth 100000 in
theorem lifted (os : Os) (started : os.Started) (H : Type) (enc : TypeId × Value → H) (F : Stop.Interp) :
    ReturnsInHanded {} Tryz.checked os 5 .any ((OpenSpec.ofChange Rows.treeJoinsSpec).preRow enc Tryz.prog Tryz.f5 Rows.treeJoinsRow.domain false Rows.treeJoinsRow.laid) (((OpenSpec.ofChange Rows.treeJoinsSpec).at F).post enc Tryz.prog Tryz.f5 false true false false) := by
  obtain ⟨places, hx⟩ := reads os enc
  refine returnsInHanded_of_row (C := Tryz.checked) (s := OpenSpec.ofChange Rows.treeJoinsSpec) own started (by kernel_rfl) Tryz.func5
    (witness_row_at (enc := enc) (C := Tryz.checked) false (laidWorld os) #[.slice none 0 0, .int .i64 0, .int .i64 0] (World.laidAll_os _ _ _) (by kernel_rfl) (by kernel_rfl) (by kernel_rfl)
      (OpenSpec.preRow_of_cond 8 hx (by kernel_rfl) (fun k hk => by cases hk) (by kernel_rfl) (laid_met os))) ?_
  intro W base args ds gs before hval hW _ _ _ hL _ _
  exact contract H enc W base args ds gs before hval hW hL

theorem said : Rows.TreeJoinsSaid :=
  OpenClaim.holds_of_cond 5 Tryz.f5 rfl rfl rfl rfl rfl rfl rfl ⟨rfl, rfl, rfl, rfl, rfl⟩ rfl rfl rfl rfl rfl (by kernel_rfl) Tryz.func5 (by kernel_rfl)
    (of_decide_eq_true (by kernel_rfl)) (by unfold Func.isWrapper; first | (rw [if_pos (by decide +kernel)]; kernel_rfl) | (rw [if_neg (by decide +kernel)]; exact ⟨rfl, rfl⟩))
    (fun os started H enc _ F => by rw [OpenClaim.pre_eq_preRow]; exact lifted os started H enc F)

theorem plain (f : FuncId) (fn : Func) (hf : Tryz.pinned.checked.prog.funcNamed "bspregion/bspregionlaw14.TreeJoins" = some f) (hfn : Tryz.pinned.checked.prog.funcs[f]? = some fn) :
    true = Tryz.pinned.checked.prog.looks [] ∧ ∀ (j : Nat) t, fn.params[j]? = some t → Tryz.pinned.checked.prog.wantsStandIn t = false := by
  obtain rfl : f = 5 := Option.some.inj ((show Tryz.prog.funcNamed "bspregion/bspregionlaw14.TreeJoins" = some 5 by kernel_rfl).symm.trans hf) |>.symm
  obtain rfl : fn = Tryz.f5 := (Option.some.inj (Tryz.func5.symm.trans hfn)).symm
  refine ⟨by kernel_rfl, fun j t ht => ?_⟩
  rw [Tryz.params5] at ht
  have ht : t = 22 ∨ t = 3 := by simpa using Array.mem_of_getElem? ht
  rcases ht with rfl | rfl
  · exact (show Tryz.prog.wantsStandIn 22 = false by kernel_rfl)
  · exact (show Tryz.prog.wantsStandIn 3 = false by kernel_rfl)

end Go.Proofs.YtecldfbdkdkajaaGreatDoor.treeJoins
namespace Go.Proofs.YtecldfbdkdkajaaGreatDoor
open Go.ChangeShapes Go.WideShapes Go.ChangeAt Go.RowKit Go.Eng
/-- THE CARD. -/
theorem treeJoinsCardHolds : Rows.TreeJoinsCardSaid :=
  Claim7.holds_tied_plain_at .later [] _ _ _ _ treeJoins.said (fun _ h => by cases h) (by kernel_rfl) (fun _ h => by cases h) treeJoins_row_tie rfl ⟨rfl, rfl⟩ (by kernel_rfl) rfl treeJoins.plain (by kernel_rfl)
end Go.Proofs.YtecldfbdkdkajaaGreatDoor
