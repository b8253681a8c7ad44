/- The law FragmentJoins (bspregionlaw07): for every input (a slice of ints) the call returns true and the argument reads as it did. Condition: the package-level variable L4 reads as the program's text lays it (the card ties this). -/
import Derived.Test.YtapnijmlbakblaaGreatDoorZJ11
import Derived.Test.YtapnijmlbakblaaGreatDoorZJ19
set_option linter.unusedVariables false
open Go.IntKind (i64 u64 u32)
namespace Go.Proofs.YtapnijmlbakblaaGreatDoor.jA
open Go.ChangeShapes Go.WideShapes Go.ChangeAt Go.RowKit Go.Eng
set_option maxRecDepth 100000 in
theorem HI (H:Type)(enc:TypeId×Value->H)(W:World)(base:Nat)(args:Array Value)(ds gs:List (DataW H))(before:List MemPlace)
  (hval:∀(j:Nat) t v,Tryz.f4.params[j]?=some t->args[j]?=some v->Value.okWide Tryz.prog W .any base t v)
  (hW:DataW.Whole enc Tryz.prog Tryz.f4.params.toList Rows.fragmentJoinsSpec.vars false W args.toList ds gs before)(hL:laidMetH Tryz.prog Rows.fragmentJoinsRow.laid W) :
  Calls Tryz.prog 4 args W fun e W'=>∃v,e=.returned v/\Rows.fragmentJoinsSpec.post enc Tryz.prog Tryz.f4 false true false false W args v W':=by
 have a:=hW;obtain ⟨p,q,c,f,rfl,g,h⟩:=hW;have d:DataW.TrodAll enc Tryz.prog W 0 (fun _=>true) true Tryz.f4.params.toList args.toList ds p:=c;rw [Tryz.params4] at d hval;obtain ⟨v0,o,d0,i,r,s,b,rfl,rfl,k,l⟩:=trodAll_cons d;obtain ⟨rfl,rfl,rfl⟩:=trodAll_nil l;obtain rfl:args=#[v0]:=by cases args;simp_all
 obtain ⟨rfl,rfl⟩:=trodVars_none f;obtain ⟨u,w,lc,rfl⟩:=okWide_slice Tryz.underlying22 (hval 0 22 v0 rfl rfl);clear c;obtain ⟨m,n⟩:=Cu k;exact Kp a rfl (by kernel_rfl) (by kernel_rfl) rfl (Tryz.sk n m)
noncomputable def qF (os:Os):World:=World.laidAll Tryz.prog os Rows.fragmentJoinsRow.laid
theorem Ib (os:Os):laidMet Tryz.prog Rows.fragmentJoinsRow.laid ((qF os).forCall (fun _ _=>0) ⟨#[],#[.slice none 0 0],[]⟩).memory:=
 laidMet_laidAll _ (by kernel_rfl) (by kernel_rfl)
theorem reads (os:Os){H:Type}(enc:TypeId×Value->H):∃places,DataW.whole enc Tryz.prog ((qF os).forCall (fun _ _=>0) ⟨#[],#[.slice none 0 0],[]⟩).memory Tryz.f4.params.toList Rows.fragmentJoinsSpec.vars false #[Value.slice none 0 0].toList 8=some ([.nil],[],places):=
 ⟨[],by kernel_rfl⟩
set_option maxRecDepth 100000 in
theorem lifted (os:Os)(started:os.Started)(H:Type)(enc:TypeId×Value->H)(F:Stop.Interp) :
  ReturnsInHanded {} Tryz.checked os 4 .any ((OpenSpec.ofChange Rows.fragmentJoinsSpec).preRow enc Tryz.prog Tryz.f4 Rows.fragmentJoinsRow.domain false Rows.fragmentJoinsRow.laid) (((OpenSpec.ofChange Rows.fragmentJoinsSpec).at F).post enc Tryz.prog Tryz.f4 false true false false):=by
 obtain ⟨places,b⟩:=reads os enc
 refine returnsInHanded_of_row (C:=Tryz.checked) (s:=OpenSpec.ofChange Rows.fragmentJoinsSpec) own started (by kernel_rfl) Tryz.func4
  (witness_row_at (enc:=enc) (C:=Tryz.checked) false (qF os) #[.slice none 0 0] (World.laidAll_os _ _ _) (by kernel_rfl) (by kernel_rfl) (by kernel_rfl)
   (OpenSpec.preRow_of_cond 8 b (by kernel_rfl) (fun k c=>by cases c) (by kernel_rfl) (Ib os))) ?_
 intro W base args d gs before a e _ _ _ f _ _;exact HI H enc W base args d gs before a e f
theorem said:Rows.FragmentJoinsSaid:=
 OpenClaim.holds_of_cond 4 Tryz.f4 rfl rfl rfl rfl rfl rfl rfl ⟨rfl,rfl,rfl,rfl,rfl⟩ rfl rfl rfl rfl rfl (by kernel_rfl) Tryz.func4 (by kernel_rfl)
  (of_decide_eq_true (by kernel_rfl)) (by unfold Func.isWrapper;first|(rw [if_pos (by decide +kernel)];kernel_rfl)|(rw [if_neg (by decide +kernel)];exact ⟨rfl,rfl⟩))
  (fun os started H enc _ F=>by rw [OpenClaim.pre_eq_preRow];exact lifted os started H enc F)
theorem plain (f : FuncId)(fn : Func)(hf : Tryz.pinned.checked.prog.funcNamed "bspregion/bspregionlaw07.FragmentJoins" = some f)(hfn : Tryz.pinned.checked.prog.funcs[f]? = some fn) :
  false=Tryz.pinned.checked.prog.looks []/\∀(j:Nat) t,fn.params[j]?=some t->Tryz.pinned.checked.prog.wantsStandIn t=false:=by
 obtain rfl : f = 4 := Qm0 ((show Tryz.prog.funcNamed "bspregion/bspregionlaw07.FragmentJoins" = some 4 by kernel_rfl).symm.trans hf) |>.symm
 obtain rfl:fn=Tryz.f4:=(Qm0 (Tryz.func4.symm.trans hfn)).symm;refine ⟨by kernel_rfl,fun j t ht=>?_⟩;rw [Tryz.params4] at ht;have ht:t=22:=by simpa using Array.mem_of_getElem? ht
 subst ht;exact (show Tryz.prog.wantsStandIn 22=false by kernel_rfl)
end Go.Proofs.YtapnijmlbakblaaGreatDoor.jA
namespace Go.Proofs.YtapnijmlbakblaaGreatDoor
open Go.ChangeShapes Go.WideShapes Go.ChangeAt Go.RowKit Go.Eng
theorem fragmentJoinsCardHolds:Rows.FragmentJoinsCardSaid:=
 Claim7.holds_tied_plain_at .later [] _ _ _ _ jA.said (fun _ h=>by cases h) (by kernel_rfl) (fun _ h=>by cases h) fragmentJoins_row_tie rfl ⟨rfl,rfl⟩ (by kernel_rfl) rfl jA.plain (by kernel_rfl)
end Go.Proofs.YtapnijmlbakblaaGreatDoor
