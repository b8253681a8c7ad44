/- The law FragmentValid (bspregionlaw07): for every input (a fragment and a point of package api) the call returns true and the arguments read as they did. Condition: the package-level variable ErrInvalid reads as the program's text lays it (the card ties this). -/
import Derived.Test.YtalijajeenhebaaGreatDoorM5
import Derived.Test.YtalijajeenhebaaGreatDoorM17
set_option linter.unusedVariables false
open Go.IntKind (i64 u64 u32)
namespace Go.Proofs.YtalijajeenhebaaGreatDoor.fragmentValid
open Go.ChangeShapes Go.WideShapes Go.ChangeAt Go.RowKit Go.Eng
theorem gInv : Tryz.prog.globalNamed "bspregion/api.ErrInvalid" = some 0 := by kernel_rfl
theorem tInv:(Tryz.prog.globals[0]?).map (·.type)=some 68:=by kernel_rfl
theorem snt {W:World} (h:laidMetH Tryz.prog Rows.fragmentValidRow.laid W):∃y,Tryz.Sent (View.all W) 0 y/\Tryz.SErr y:=by
 obtain ⟨a,ha⟩:=sent_of_laid gInv tInv (List.mem_cons_self ..) h
 exact ⟨_,⟨fun h=>h,ha⟩,⟨a,rfl⟩⟩
set_option maxRecDepth 100000 in
theorem contract (H:Type) (enc:TypeId × Value->H) (W:World) (base:Nat) (args:Array Value) (ds gs:List (DataW H)) (before:List MemPlace)
  (hval:∀(j:Nat) t v,Tryz.f4.params[j]?=some t->args[j]?=some v->Value.okWide Tryz.prog W .any base t v)
  (hW:DataW.Whole enc Tryz.prog Tryz.f4.params.toList Rows.fragmentValidSpec.vars false W args.toList ds gs before) (hL:laidMetH Tryz.prog Rows.fragmentValidRow.laid W) :
  Calls Tryz.prog 4 args W fun e W'=>∃v,e=.returned v/\Rows.fragmentValidSpec.post enc Tryz.prog Tryz.f4 false true false false W args v W':=by
 have hW':=hW
 obtain ⟨p,q,hA0,hV,rfl,hfz,hnd⟩:=hW
 have hA:DataW.TrodAll enc Tryz.prog W 0 (fun _=>true) true Tryz.f4.params.toList args.toList ds p:=hA0
 rw [Tryz.params4] at hA hval
 obtain ⟨v0,vs0,d0,ds0,p0,q0,hargs,rfl,rfl,h0,r0⟩:=trodAll_cons hA
 obtain ⟨v1,vs1,d1,ds1,p1,q1,rfl,rfl,rfl,h1,r1⟩:=trodAll_cons r0
 obtain ⟨rfl,rfl,rfl⟩:=trodAll_nil r1
 obtain rfl:args=#[v0,v1]:=by cases args; simp_all
 obtain ⟨rfl,rfl⟩:=trodVars_none hV
 clear hA0
 obtain ⟨y,hy,he⟩:=snt hL
 obtain ⟨f,hf⟩:=fragment_arg (hval 0 44 v0 rfl rfl) h0
 obtain ⟨o,ho⟩:=point_arg (hval 1 48 v1 rfl rfl) h1
 exact law_end hW' rfl (by kernel_rfl) (by kernel_rfl) rfl (Tryz.c_FragmentValid hf ho hy he)
noncomputable def laidWorld (os:Os):World:=World.laidAll Tryz.prog os Rows.fragmentValidRow.laid
theorem laid_met (os:Os):laidMet Tryz.prog Rows.fragmentValidRow.laid ((laidWorld os).forCall (fun _ _=>0) ⟨#[],#[.agg #[.bool false,.slice none 0 0,.bool false,.slice none 0 0,.bool false,.slice none 0 0,.bool false,.slice none 0 0,.slice none 0 0,.bool false,.slice none 0 0,.slice none 0 0,.bool false,.bool false],.agg #[.bool false,.slice none 0 0,.slice none 0 0,.bool false,.slice none 0 0,.slice none 0 0]],[]⟩).memory:=
 laidMet_laidAll _ (by kernel_rfl) (by kernel_rfl)
theorem reads (os:Os) {H:Type} (enc:TypeId × Value->H):∃places,DataW.whole enc Tryz.prog ((laidWorld os).forCall (fun _ _=>0) ⟨#[],#[.agg #[.bool false,.slice none 0 0,.bool false,.slice none 0 0,.bool false,.slice none 0 0,.bool false,.slice none 0 0,.slice none 0 0,.bool false,.slice none 0 0,.slice none 0 0,.bool false,.bool false],.agg #[.bool false,.slice none 0 0,.slice none 0 0,.bool false,.slice none 0 0,.slice none 0 0]],[]⟩).memory Tryz.f4.params.toList Rows.fragmentValidSpec.vars false #[Value.agg #[.bool false,.slice none 0 0,.bool false,.slice none 0 0,.bool false,.slice none 0 0,.bool false,.slice none 0 0,.slice none 0 0,.bool false,.slice none 0 0,.slice none 0 0,.bool false,.bool false],Value.agg #[.bool false,.slice none 0 0,.slice none 0 0,.bool false,.slice none 0 0,.slice none 0 0]].toList 8=some ([.agg [.agg [.agg [.lit (.bool false),.nil],.agg [.lit (.bool false),.nil],.agg [.lit (.bool false),.nil]],.agg [.agg [.agg [.lit (.bool false),.nil],.nil],.agg [.agg [.lit (.bool false),.nil],.nil],.lit (.bool false),.lit (.bool false)]],.agg [.agg [.agg [.lit (.bool false),.nil],.nil],.agg [.agg [.lit (.bool false),.nil],.nil]]],[],places):=
 ⟨[],by kernel_rfl⟩
set_option maxRecDepth 100000 in
theorem lifted (os:Os) (started:os.Started) (H:Type) (enc:TypeId × Value->H) (F:Stop.Interp) :
  ReturnsInHanded {} Tryz.checked os 4 .any ((OpenSpec.ofChange Rows.fragmentValidSpec).preRow enc Tryz.prog Tryz.f4 Rows.fragmentValidRow.domain false Rows.fragmentValidRow.laid) (((OpenSpec.ofChange Rows.fragmentValidSpec).at F).post enc Tryz.prog Tryz.f4 false true false false):=by
 obtain ⟨places,hx⟩:=reads os enc
 refine returnsInHanded_of_row (C:=Tryz.checked) (s:=OpenSpec.ofChange Rows.fragmentValidSpec) own started (by kernel_rfl) Tryz.func4
  (witness_row_at (enc:=enc) (C:=Tryz.checked) false (laidWorld os) #[.agg #[.bool false,.slice none 0 0,.bool false,.slice none 0 0,.bool false,.slice none 0 0,.bool false,.slice none 0 0,.slice none 0 0,.bool false,.slice none 0 0,.slice none 0 0,.bool false,.bool false],.agg #[.bool false,.slice none 0 0,.slice none 0 0,.bool false,.slice none 0 0,.slice none 0 0]] (World.laidAll_os _ _ _) (by kernel_rfl) (by kernel_rfl) (by kernel_rfl)
   (OpenSpec.preRow_of_cond 8 hx (by kernel_rfl) (fun k hk=>by cases hk) (by kernel_rfl) (laid_met os))) ?_
 intro W base args ds gs before hval hW _ _ _ hL _ _
 exact contract H enc W base args ds gs before hval hW hL
theorem said:Rows.FragmentValidSaid:=
 OpenClaim.holds_of_cond 4 Tryz.f4 rfl rfl rfl rfl rfl rfl rfl ⟨rfl,rfl,rfl,rfl,rfl⟩ rfl rfl rfl rfl rfl (by kernel_rfl) Tryz.func4 (by kernel_rfl)
  (of_decide_eq_true (by kernel_rfl)) (by unfold Func.isWrapper; first | (rw [if_pos (by decide +kernel)]; kernel_rfl) | (rw [if_neg (by decide +kernel)]; exact ⟨rfl,rfl⟩))
  (fun os started H enc _ F=>by rw [OpenClaim.pre_eq_preRow]; exact lifted os started H enc F)
theorem plain (f : FuncId) (fn : Func) (hf : Tryz.pinned.checked.prog.funcNamed "bspregion/bspregionlaw07.FragmentValid" = some f) (hfn : Tryz.pinned.checked.prog.funcs[f]? = some fn) :
  true=Tryz.pinned.checked.prog.looks []/\∀(j:Nat) t,fn.params[j]?=some t->Tryz.pinned.checked.prog.wantsStandIn t=false:=by
 obtain rfl : f = 4 := Option.some.inj ((show Tryz.prog.funcNamed "bspregion/bspregionlaw07.FragmentValid" = some 4 by kernel_rfl).symm.trans hf) |>.symm
 obtain rfl:fn=Tryz.f4:=(Option.some.inj (Tryz.func4.symm.trans hfn)).symm
 refine ⟨by kernel_rfl,fun j t ht=>?_⟩
 rw [Tryz.params4] at ht
 have ht:t=44 \/ t=48:=by simpa using Array.mem_of_getElem? ht
 rcases ht with rfl | rfl
 ·exact (show Tryz.prog.wantsStandIn 44=false by kernel_rfl)
 ·exact (show Tryz.prog.wantsStandIn 48=false by kernel_rfl)
end Go.Proofs.YtalijajeenhebaaGreatDoor.fragmentValid
namespace Go.Proofs.YtalijajeenhebaaGreatDoor
open Go.ChangeShapes Go.WideShapes Go.ChangeAt Go.RowKit Go.Eng
/-- THE CARD. -/
theorem fragmentValidCardHolds:Rows.FragmentValidCardSaid:=
 Claim7.holds_tied_plain_at .later [] _ _ _ _ fragmentValid.said (fun _ h=>by cases h) (by kernel_rfl) (fun _ h=>by cases h) fragmentValid_row_tie rfl ⟨rfl,rfl⟩ (by kernel_rfl) rfl fragmentValid.plain (by kernel_rfl)
end Go.Proofs.YtalijajeenhebaaGreatDoor
