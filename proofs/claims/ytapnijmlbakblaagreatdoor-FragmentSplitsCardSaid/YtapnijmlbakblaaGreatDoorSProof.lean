/- The law FragmentSplits (bspregionlaw07): for every input (a slice of ints) the call returns true and the argument reads as it did. Condition: the package-level variable Oh reads as the program's text lays it (the card ties this). -/
import Derived.Test.YtapnijmlbakblaaGreatDoorS11
import Derived.Test.YtapnijmlbakblaaGreatDoorS20
set_option linter.unusedVariables false
open Go.IntKind (i64 u64 u32)
namespace Go.Proofs.YtapnijmlbakblaaGreatDoor.iW
open Go.ChangeShapes Go.WideShapes Go.ChangeAt Go.RowKit Go.Eng
set_option maxRecDepth 100000 in
theorem I9 (H:Type)(enc:TypeId×Value->H)(W:World)(base:Nat)(args:Array Value)(ds gs:List (DataW H))(before:List MemPlace)
  (hval:∀(j:Nat) t v,Tryz.f3.params[j]?=some t->args[j]?=some v->Value.okWide Tryz.prog W .any base t v)
  (hW:DataW.Whole enc Tryz.prog Tryz.f3.params.toList Rows.fragmentSplitsSpec.vars false W args.toList ds gs before)(hL:laidMetH Tryz.prog Rows.fragmentSplitsRow.laid W) :
  Calls Tryz.prog 3 args W fun e W'=>∃v,e=.returned v/\Rows.fragmentSplitsSpec.post enc Tryz.prog Tryz.f3 false true false false W args v W':=by
 have a:=hW;obtain ⟨p,q,c,f,rfl,g,h⟩:=hW;have d:DataW.TrodAll enc Tryz.prog W 0 (fun _=>true) true Tryz.f3.params.toList args.toList ds p:=c;rw [Tryz.params3] at d hval;obtain ⟨v0,i,d0,k,r,s,b,rfl,rfl,l,m⟩:=trodAll_cons d;obtain ⟨rfl,rfl,rfl⟩:=trodAll_nil m;obtain rfl:args=#[v0]:=by cases args;simp_all
 obtain ⟨rfl,rfl⟩:=trodVars_none f;obtain ⟨u,ln,lc,rfl⟩:=okWide_slice Tryz.underlying22 (hval 0 22 v0 rfl rfl);clear c;obtain ⟨n,o⟩:=Dl l;exact Mk a rfl (by kernel_rfl) (by kernel_rfl) rfl (Tryz.qV o n)
noncomputable def rC (os:Os):World:=World.laidAll Tryz.prog os Rows.fragmentSplitsRow.laid
theorem JG (os:Os):laidMet Tryz.prog Rows.fragmentSplitsRow.laid ((rC os).forCall (fun _ _=>0) ⟨#[],#[.slice none 0 0],[]⟩).memory:=
 laidMet_laidAll _ (by kernel_rfl) (by kernel_rfl)
theorem reads (os:Os){H:Type}(enc:TypeId×Value->H):∃places,DataW.whole enc Tryz.prog ((rC os).forCall (fun _ _=>0) ⟨#[],#[.slice none 0 0],[]⟩).memory Tryz.f3.params.toList Rows.fragmentSplitsSpec.vars false #[Value.slice none 0 0].toList 8=some ([.nil],[],places):=
 ⟨[],by kernel_rfl⟩
set_option maxRecDepth 100000 in
theorem lifted (os:Os)(started:os.Started)(H:Type)(enc:TypeId×Value->H)(F:Stop.Interp) :
  ReturnsInHanded {} Tryz.checked os 3 .any ((OpenSpec.ofChange Rows.fragmentSplitsSpec).preRow enc Tryz.prog Tryz.f3 Rows.fragmentSplitsRow.domain false Rows.fragmentSplitsRow.laid) (((OpenSpec.ofChange Rows.fragmentSplitsSpec).at F).post enc Tryz.prog Tryz.f3 false true false false):=by
 obtain ⟨places,b⟩:=reads os enc
 refine returnsInHanded_of_row (C:=Tryz.checked) (s:=OpenSpec.ofChange Rows.fragmentSplitsSpec) own started (by kernel_rfl) Tryz.func3
  (witness_row_at (enc:=enc) (C:=Tryz.checked) false (rC os) #[.slice none 0 0] (World.laidAll_os _ _ _) (by kernel_rfl) (by kernel_rfl) (by kernel_rfl)
   (OpenSpec.preRow_of_cond 8 b (by kernel_rfl) (fun k c=>by cases c) (by kernel_rfl) (JG os))) ?_
 intro W base args d gs before a e _ _ _ f _ _;exact I9 H enc W base args d gs before a e f
theorem said:Rows.FragmentSplitsSaid:=
 OpenClaim.holds_of_cond 3 Tryz.f3 rfl rfl rfl rfl rfl rfl rfl ⟨rfl,rfl,rfl,rfl,rfl⟩ rfl rfl rfl rfl rfl (by kernel_rfl) Tryz.func3 (by kernel_rfl)
  (of_decide_eq_true (by kernel_rfl)) (by unfold Func.isWrapper;first|(rw [if_pos (by decide +kernel)];kernel_rfl)|(rw [if_neg (by decide +kernel)];exact ⟨rfl,rfl⟩))
  (fun os started H enc _ F=>by rw [OpenClaim.pre_eq_preRow];exact lifted os started H enc F)
theorem plain (f : FuncId)(fn : Func)(hf : Tryz.pinned.checked.prog.funcNamed "bspregion/bspregionlaw07.FragmentSplits" = some f)(hfn : Tryz.pinned.checked.prog.funcs[f]? = some fn) :
  false=Tryz.pinned.checked.prog.looks []/\∀(j:Nat) t,fn.params[j]?=some t->Tryz.pinned.checked.prog.wantsStandIn t=false:=by
 obtain rfl : f = 3 := Option.some.inj ((show Tryz.prog.funcNamed "bspregion/bspregionlaw07.FragmentSplits" = some 3 by kernel_rfl).symm.trans hf) |>.symm
 obtain rfl:fn=Tryz.f3:=(Option.some.inj (Tryz.func3.symm.trans hfn)).symm;refine ⟨by kernel_rfl,fun j t ht=>?_⟩;rw [Tryz.params3] at ht;have ht:t=22:=by simpa using Array.mem_of_getElem? ht
 subst ht;exact (show Tryz.prog.wantsStandIn 22=false by kernel_rfl)
end Go.Proofs.YtapnijmlbakblaaGreatDoor.iW
namespace Go.Proofs.YtapnijmlbakblaaGreatDoor
open Go.ChangeShapes Go.WideShapes Go.ChangeAt Go.RowKit Go.Eng
theorem fragmentSplitsCardHolds:Rows.FragmentSplitsCardSaid:=
 Claim7.holds_tied_plain_at .later [] _ _ _ _ iW.said (fun _ h=>by cases h) (by kernel_rfl) (fun _ h=>by cases h) fragmentSplits_row_tie rfl ⟨rfl,rfl⟩ (by kernel_rfl) rfl iW.plain (by kernel_rfl)
end Go.Proofs.YtapnijmlbakblaaGreatDoor
