/- The law LocateLeaves (bspregionlaw15): for every input (a slice of ints) the call returns true and the argument reads as it did. Condition: the package-level variable ErrInvalid reads as the program's text lays it (the card ties this). -/
import Derived.Test.YtcbcbdbheiopbaaGreatDoorL5
import Derived.Test.YtcbcbdbheiopbaaGreatDoorL20
set_option linter.unusedVariables false
open Go.IntKind (i64 u64 u32)
namespace Go.Proofs.YtcbcbdbheiopbaaGreatDoor.locateLeaves
open Go.ChangeShapes Go.WideShapes Go.ChangeAt Go.RowKit Go.Eng
theorem gInv : Tryz.prog.globalNamed "bspregion/api.ErrInvalid" = some 0 := by kernel_rfl
theorem tInv:(Tryz.prog.globals[0]?).map (·.type)=some 37:=by kernel_rfl
theorem snt {W:World} (h:laidMetH Tryz.prog Rows.locateLeavesRow.laid W):∃y,Tryz.Sent (View.all W) 0 y:=by
 obtain ⟨a,ha⟩:=sent_of_laid gInv tInv (List.mem_cons_self ..) h
 exact ⟨_,fun h=>h,ha⟩
set_option maxRecDepth 100000 in
theorem contract (H:Type) (enc:TypeId × Value->H) (W:World) (base:Nat) (args:Array Value) (ds gs:List (DataW H)) (before:List MemPlace)
  (hval:∀(j:Nat) t v,Tryz.f4.params[j]?=some t->args[j]?=some v->Value.okWide Tryz.prog W .any base t v)
  (hW:DataW.Whole enc Tryz.prog Tryz.f4.params.toList Rows.locateLeavesSpec.vars false W args.toList ds gs before) (hL:laidMetH Tryz.prog Rows.locateLeavesRow.laid W) :
  Calls Tryz.prog 4 args W fun e W'=>∃v,e=.returned v/\Rows.locateLeavesSpec.post enc Tryz.prog Tryz.f4 false true false false W args v W':=by
 have hW':=hW
 obtain ⟨p,q,hA0,hV,rfl,hfz,hnd⟩:=hW
 have hA:DataW.TrodAll enc Tryz.prog W 0 (fun _=>true) true Tryz.f4.params.toList args.toList ds p:=hA0
 rw [Tryz.params4] at hA hval
 obtain ⟨v0,vs0,d0,ds0,p0,q0,hargs,rfl,rfl,h0,r0⟩:=trodAll_cons hA
 obtain ⟨rfl,rfl,rfl⟩:=trodAll_nil r0
 obtain rfl:args=#[v0]:=by cases args; simp_all
 obtain ⟨rfl,rfl⟩:=trodVars_none hV
 obtain ⟨lp,ln,lc,rfl⟩:=okWide_slice Tryz.underlying22 (hval 0 22 v0 rfl rfl)
 clear hA0
 obtain ⟨y,hs⟩:=snt hL
 obtain ⟨hc,hr⟩:=rdl_of_trod h0
 exact law_end hW' rfl (by kernel_rfl) (by kernel_rfl) rfl (Tryz.c_law15_LocateLeaves hs hr hc)
noncomputable def laidWorld (os:Os):World:=World.laidAll Tryz.prog os Rows.locateLeavesRow.laid
theorem laid_met (os:Os):laidMet Tryz.prog Rows.locateLeavesRow.laid ((laidWorld os).forCall (fun _ _=>0) ⟨#[],#[.slice none 0 0],[]⟩).memory:=
 laidMet_laidAll _ (by kernel_rfl) (by kernel_rfl)
theorem reads (os:Os) {H:Type} (enc:TypeId × Value->H):∃places,DataW.whole enc Tryz.prog ((laidWorld os).forCall (fun _ _=>0) ⟨#[],#[.slice none 0 0],[]⟩).memory Tryz.f4.params.toList Rows.locateLeavesSpec.vars false #[Value.slice none 0 0].toList 8=some ([.nil],[],places):=
 ⟨[],by kernel_rfl⟩
set_option maxRecDepth 100000 in
theorem lifted (os:Os) (started:os.Started) (H:Type) (enc:TypeId × Value->H) (F:Stop.Interp) :
  ReturnsInHanded {} Tryz.checked os 4 .any ((OpenSpec.ofChange Rows.locateLeavesSpec).preRow enc Tryz.prog Tryz.f4 Rows.locateLeavesRow.domain false Rows.locateLeavesRow.laid) (((OpenSpec.ofChange Rows.locateLeavesSpec).at F).post enc Tryz.prog Tryz.f4 false true false false):=by
 obtain ⟨places,hx⟩:=reads os enc
 refine returnsInHanded_of_row (C:=Tryz.checked) (s:=OpenSpec.ofChange Rows.locateLeavesSpec) own started (by kernel_rfl) Tryz.func4
  (witness_row_at (enc:=enc) (C:=Tryz.checked) false (laidWorld os) #[.slice none 0 0] (World.laidAll_os _ _ _) (by kernel_rfl) (by kernel_rfl) (by kernel_rfl)
   (OpenSpec.preRow_of_cond 8 hx (by kernel_rfl) (fun k hk=>by cases hk) (by kernel_rfl) (laid_met os))) ?_
 intro W base args ds gs before hval hW _ _ _ hL _ _
 exact contract H enc W base args ds gs before hval hW hL
theorem and2 {a b:Bool} (h:a=true) (h':b=true):(a && b)=true:=by rw [h,h']; rfl
set_option maxRecDepth 100000 in
theorem closed:joinedFacts Tryz.pinned.checked.prog 4 Tryz.f4 (OpenSpec.ofChange Rows.locateLeavesSpec).bare Rows.locateLeavesRow=true:=and2 (and2 (and2 (and2 (and2 (and2 (and2 (and2 (and2 (and2 (and2 (and2 (and2 (and2 (and2 (and2 (and2 (and2 (and2 (and2 (and2 (and2 (and2 (and2 (and2 (and2 (and2 (and2 (and2 (and2 (and2 (fact0) fact1) fact2) fact3) fact4) fact5) fact6) fact7) fact8) fact9) fact10) fact11) fact12) fact13) fact14) fact15) fact16) fact17) fact18) fact19) fact20) fact21) fact22) fact23) fact24) fact25) fact26) fact27) fact28) fact29) fact30) fact31
theorem said:Rows.LocateLeavesSaid:=
 OpenClaim.holds_of_cond 4 Tryz.f4 rfl rfl rfl rfl rfl rfl rfl ⟨rfl,rfl,rfl,rfl,rfl⟩ rfl rfl rfl rfl rfl (by kernel_rfl) Tryz.func4 closed
  (of_decide_eq_true (by kernel_rfl)) (by unfold Func.isWrapper; first | (rw [if_pos (by decide +kernel)]; kernel_rfl) | (rw [if_neg (by decide +kernel)]; exact ⟨rfl,rfl⟩))
  (fun os started H enc _ F=>by rw [OpenClaim.pre_eq_preRow]; exact lifted os started H enc F)
theorem plain (f : FuncId) (fn : Func) (hf : Tryz.pinned.checked.prog.funcNamed "bspregion/bspregionlaw15.LocateLeaves" = some f) (hfn : Tryz.pinned.checked.prog.funcs[f]? = some fn) :
  true=Tryz.pinned.checked.prog.looks []/\∀(j:Nat) t,fn.params[j]?=some t->Tryz.pinned.checked.prog.wantsStandIn t=false:=by
 obtain rfl : f = 4 := Option.some.inj ((show Tryz.prog.funcNamed "bspregion/bspregionlaw15.LocateLeaves" = some 4 by kernel_rfl).symm.trans hf) |>.symm
 obtain rfl:fn=Tryz.f4:=(Option.some.inj (Tryz.func4.symm.trans hfn)).symm
 refine ⟨by kernel_rfl,fun j t ht=>?_⟩
 rw [Tryz.params4] at ht
 have ht:t=22:=by simpa using Array.mem_of_getElem? ht
 subst ht
 exact (show Tryz.prog.wantsStandIn 22=false by kernel_rfl)
end Go.Proofs.YtcbcbdbheiopbaaGreatDoor.locateLeaves
namespace Go.Proofs.YtcbcbdbheiopbaaGreatDoor
open Go.ChangeShapes Go.WideShapes Go.ChangeAt Go.RowKit Go.Eng
/-- THE CARD. -/
theorem locateLeavesCardHolds:Rows.LocateLeavesCardSaid:=
 Claim7.holds_tied_plain_at .later [] _ _ _ _ locateLeaves.said (fun _ h=>by cases h) (by kernel_rfl) (fun _ h=>by cases h) locateLeaves_row_tie rfl ⟨rfl,rfl⟩ (by kernel_rfl) rfl locateLeaves.plain locateLeaves.goes
end Go.Proofs.YtcbcbdbheiopbaaGreatDoor
