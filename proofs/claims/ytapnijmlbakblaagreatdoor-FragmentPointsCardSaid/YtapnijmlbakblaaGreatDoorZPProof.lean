/- The law FragmentPoints (bspregionlaw07): for every input (a slice of ints) the call returns true and the argument reads as it did. Condition: the package-level variable Mg reads as the program's text lays it (the card ties this). -/
import Derived.Test.YtapnijmlbakblaaGreatDoorZP11
import Derived.Test.YtapnijmlbakblaaGreatDoorZP19
set_option linter.unusedVariables false
open Go.IntKind (i64 u64 u32)
namespace Go.Proofs.YtapnijmlbakblaaGreatDoor.iK
open Go.ChangeShapes Go.WideShapes Go.ChangeAt Go.RowKit Go.Eng
set_option maxRecDepth 100000 in
theorem H0 (H:Type)(enc:TypeId×Value->H)(W:World)(base:Nat)(args:Array Value)(ds gs:List (DataW H))(before:List MemPlace)
  (hval:∀(j:Nat) t v,Tryz.f5.params[j]?=some t->args[j]?=some v->Value.okWide Tryz.prog W .any base t v)
  (hW:DataW.Whole enc Tryz.prog Tryz.f5.params.toList Rows.fragmentPointsSpec.vars false W args.toList ds gs before)(hL:laidMetH Tryz.prog Rows.fragmentPointsRow.laid W) :
  Calls Tryz.prog 5 args W fun e W'=>∃v,e=.returned v/\Rows.fragmentPointsSpec.post enc Tryz.prog Tryz.f5 false true false false W args v W':=by
 have a:=hW;obtain ⟨p,q,c,f,rfl,g,h⟩:=hW;have d:DataW.TrodAll enc Tryz.prog W 0 (fun _=>true) true Tryz.f5.params.toList args.toList ds p:=c;rw [Tryz.params5] at d hval;obtain ⟨v0,o,d0,i,r,s,b,rfl,rfl,k,l⟩:=trodAll_cons d;obtain ⟨rfl,rfl,rfl⟩:=trodAll_nil l;obtain rfl:args=#[v0]:=by cases args;simp_all
 obtain ⟨rfl,rfl⟩:=trodVars_none f;obtain ⟨u,ln,lc,rfl⟩:=okWide_slice Tryz.underlying22 (hval 0 22 v0 rfl rfl);clear c;obtain ⟨m,n⟩:=Cw k;exact KJ a rfl (by kernel_rfl) (by kernel_rfl) rfl (Tryz.qD n m)
noncomputable def qW (os:Os):World:=World.laidAll Tryz.prog os Rows.fragmentPointsRow.laid
theorem Iy (os:Os):laidMet Tryz.prog Rows.fragmentPointsRow.laid ((qW os).forCall (fun _ _=>0) ⟨#[],#[.slice none 0 0],[]⟩).memory:=
 laidMet_laidAll _ (by kernel_rfl) (by kernel_rfl)
theorem reads (os:Os){H:Type}(enc:TypeId×Value->H):∃places,DataW.whole enc Tryz.prog ((qW os).forCall (fun _ _=>0) ⟨#[],#[.slice none 0 0],[]⟩).memory Tryz.f5.params.toList Rows.fragmentPointsSpec.vars false #[Value.slice none 0 0].toList 8=some ([.nil],[],places):=
 ⟨[],by kernel_rfl⟩
set_option maxRecDepth 100000 in
theorem lifted (os:Os)(started:os.Started)(H:Type)(enc:TypeId×Value->H)(F:Stop.Interp) :
  ReturnsInHanded {} Tryz.checked os 5 .any ((OpenSpec.ofChange Rows.fragmentPointsSpec).preRow enc Tryz.prog Tryz.f5 Rows.fragmentPointsRow.domain false Rows.fragmentPointsRow.laid) (((OpenSpec.ofChange Rows.fragmentPointsSpec).at F).post enc Tryz.prog Tryz.f5 false true false false):=by
 obtain ⟨places,b⟩:=reads os enc
 refine returnsInHanded_of_row (C:=Tryz.checked) (s:=OpenSpec.ofChange Rows.fragmentPointsSpec) own started (by kernel_rfl) Tryz.func5
  (witness_row_at (enc:=enc) (C:=Tryz.checked) false (qW os) #[.slice none 0 0] (World.laidAll_os _ _ _) (by kernel_rfl) (by kernel_rfl) (by kernel_rfl)
   (OpenSpec.preRow_of_cond 8 b (by kernel_rfl) (fun k c=>by cases c) (by kernel_rfl) (Iy os))) ?_
 intro W base args d gs before a e _ _ _ f _ _;exact H0 H enc W base args d gs before a e f
theorem said:Rows.FragmentPointsSaid:=
 OpenClaim.holds_of_cond 5 Tryz.f5 rfl rfl rfl rfl rfl rfl rfl ⟨rfl,rfl,rfl,rfl,rfl⟩ rfl rfl rfl rfl rfl (by kernel_rfl) Tryz.func5 (by kernel_rfl)
  (of_decide_eq_true (by kernel_rfl)) (by unfold Func.isWrapper;first|(rw [if_pos (by decide +kernel)];kernel_rfl)|(rw [if_neg (by decide +kernel)];exact ⟨rfl,rfl⟩))
  (fun os started H enc _ F=>by rw [OpenClaim.pre_eq_preRow];exact lifted os started H enc F)
theorem plain (f : FuncId)(fn : Func)(hf : Tryz.pinned.checked.prog.funcNamed "bspregion/bspregionlaw07.FragmentPoints" = some f)(hfn : Tryz.pinned.checked.prog.funcs[f]? = some fn) :
  false=Tryz.pinned.checked.prog.looks []/\∀(j:Nat) t,fn.params[j]?=some t->Tryz.pinned.checked.prog.wantsStandIn t=false:=by
 obtain rfl : f = 5 := Qm5 ((show Tryz.prog.funcNamed "bspregion/bspregionlaw07.FragmentPoints" = some 5 by kernel_rfl).symm.trans hf) |>.symm
 obtain rfl:fn=Tryz.f5:=(Qm5 (Tryz.func5.symm.trans hfn)).symm;refine ⟨by kernel_rfl,fun j t ht=>?_⟩;rw [Tryz.params5] at ht;have ht:t=22:=by simpa using Array.mem_of_getElem? ht
 subst ht;exact (show Tryz.prog.wantsStandIn 22=false by kernel_rfl)
end Go.Proofs.YtapnijmlbakblaaGreatDoor.iK
namespace Go.Proofs.YtapnijmlbakblaaGreatDoor
open Go.ChangeShapes Go.WideShapes Go.ChangeAt Go.RowKit Go.Eng
theorem fragmentPointsCardHolds:Rows.FragmentPointsCardSaid:=
 Claim7.holds_tied_plain_at .later [] _ _ _ _ iK.said (fun _ h=>by cases h) (by kernel_rfl) (fun _ h=>by cases h) fragmentPoints_row_tie rfl ⟨rfl,rfl⟩ (by kernel_rfl) rfl iK.plain (by kernel_rfl)
end Go.Proofs.YtapnijmlbakblaaGreatDoor
