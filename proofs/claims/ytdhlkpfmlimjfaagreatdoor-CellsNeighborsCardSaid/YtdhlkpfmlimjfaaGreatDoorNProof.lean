/- The law CellsNeighbors (bspregionlaw16): for every input (a slice of ints) the call returns true and the argument reads as it did. Condition: the package-level variables ME and Oo read as the program's text lays them (the card ties this). -/
import Derived.Test.YtdhlkpfmlimjfaaGreatDoorN11
import Derived.Test.YtdhlkpfmlimjfaaGreatDoorN20
set_option linter.unusedVariables false
open Go.IntKind (i64 u64 u32)
namespace Go.Proofs.YtdhlkpfmlimjfaaGreatDoor.iJ
open Go.ChangeShapes Go.WideShapes Go.ChangeAt Go.RowKit Go.Eng
theorem R5 : Tryz.prog.globalNamed "bspregion/api.ErrInvalid" = some 0 := by kernel_rfl
theorem R6 : Tryz.prog.globalNamed "bspregion/api.ErrLimit" = some 1 := by kernel_rfl
theorem Uc:(Tryz.prog.globals[0]?).map (·.type)=some 29:=by kernel_rfl
theorem Ud:(Tryz.prog.globals[1]?).map (·.type)=some 29:=by kernel_rfl
theorem Zm {W:World}(h:laidMetH Tryz.prog Rows.cellsNeighborsRow.laid W):∃y z,Tryz.Sent (View.all W) 0 y/\Tryz.Sent (View.all W) 1 z/\Tryz.SErr y/\Tryz.SErr z:=by
 obtain ⟨a,c⟩:=pE R5 Uc (List.mem_cons_self ..) h;obtain ⟨b,d⟩:=pE R6 Ud (List.mem_cons_of_mem _ (List.mem_cons_self ..)) h;exact ⟨_,_,⟨fun h=>h,c⟩,⟨fun h=>h,d⟩,⟨a,rfl⟩,⟨b,rfl⟩⟩
set_option maxRecDepth 100000 in
theorem H4 (H:Type)(enc:TypeId×Value->H)(W:World)(base:Nat)(args:Array Value)(ds gs:List (DataW H))(before:List MemPlace)
  (hval:∀(j:Nat) t v,Tryz.f6.params[j]?=some t->args[j]?=some v->Value.okWide Tryz.prog W .any base t v)
  (hW:DataW.Whole enc Tryz.prog Tryz.f6.params.toList Rows.cellsNeighborsSpec.vars false W args.toList ds gs before)(hL:laidMetH Tryz.prog Rows.cellsNeighborsRow.laid W) :
  Calls Tryz.prog 6 args W fun e W'=>∃v,e=.returned v/\Rows.cellsNeighborsSpec.post enc Tryz.prog Tryz.f6 false true false false W args v W':=by
 have a:=hW;obtain ⟨p,q,c,f,rfl,g,h⟩:=hW;have d:DataW.TrodAll enc Tryz.prog W 0 (fun _=>true) true Tryz.f6.params.toList args.toList ds p:=c;rw [Tryz.params6] at d hval;obtain ⟨v0,i,d0,k,w,x,b,rfl,rfl,l,m⟩:=trodAll_cons d;obtain ⟨rfl,rfl,rfl⟩:=trodAll_nil m;obtain rfl:args=#[v0]:=by cases args;simp_all
 obtain ⟨rfl,rfl⟩:=trodVars_none f;obtain ⟨A,B,lc,rfl⟩:=okWide_slice Tryz.underlying22 (hval 0 22 v0 rfl rfl);clear c;obtain ⟨y,z,n,o,r,sz⟩:=Zm hL;obtain ⟨s,u⟩:=CI l;exact K3 a rfl (by kernel_rfl) (by kernel_rfl) rfl (Tryz.kH n o r sz u s)
noncomputable def qH (os:Os):World:=World.laidAll Tryz.prog os Rows.cellsNeighborsRow.laid
theorem IM (os:Os):laidMet Tryz.prog Rows.cellsNeighborsRow.laid ((qH os).forCall (fun _ _=>0) ⟨#[],#[.slice none 0 0],[]⟩).memory:=
 laidMet_laidAll _ (by kernel_rfl) (by kernel_rfl)
theorem reads (os:Os){H:Type}(enc:TypeId×Value->H):∃places,DataW.whole enc Tryz.prog ((qH os).forCall (fun _ _=>0) ⟨#[],#[.slice none 0 0],[]⟩).memory Tryz.f6.params.toList Rows.cellsNeighborsSpec.vars false #[Value.slice none 0 0].toList 8=some ([.nil],[],places):=
 ⟨[],by kernel_rfl⟩
set_option maxRecDepth 100000 in
theorem lifted (os:Os)(started:os.Started)(H:Type)(enc:TypeId×Value->H)(F:Stop.Interp) :
  ReturnsInHanded {} Tryz.checked os 6 .any ((OpenSpec.ofChange Rows.cellsNeighborsSpec).preRow enc Tryz.prog Tryz.f6 Rows.cellsNeighborsRow.domain false Rows.cellsNeighborsRow.laid) (((OpenSpec.ofChange Rows.cellsNeighborsSpec).at F).post enc Tryz.prog Tryz.f6 false true false false):=by
 obtain ⟨places,b⟩:=reads os enc
 refine returnsInHanded_of_row (C:=Tryz.checked) (s:=OpenSpec.ofChange Rows.cellsNeighborsSpec) own started (by kernel_rfl) Tryz.func6
  (witness_row_at (enc:=enc) (C:=Tryz.checked) false (qH os) #[.slice none 0 0] (World.laidAll_os _ _ _) (by kernel_rfl) (by kernel_rfl) (by kernel_rfl)
   (OpenSpec.preRow_of_cond 8 b (by kernel_rfl) (fun k c=>by cases c) (by kernel_rfl) (IM os))) ?_
 intro W base args d gs before a e _ _ _ f _ _;exact H4 H enc W base args d gs before a e f
theorem said:Rows.CellsNeighborsSaid:=
 OpenClaim.holds_of_cond 6 Tryz.f6 rfl rfl rfl rfl rfl rfl rfl ⟨rfl,rfl,rfl,rfl,rfl⟩ rfl rfl rfl rfl rfl (by kernel_rfl) Tryz.func6 (by kernel_rfl)
  (of_decide_eq_true (by kernel_rfl)) (by unfold Func.isWrapper;first|(rw [if_pos (by decide +kernel)];kernel_rfl)|(rw [if_neg (by decide +kernel)];exact ⟨rfl,rfl⟩))
  (fun os started H enc _ F=>by rw [OpenClaim.pre_eq_preRow];exact lifted os started H enc F)
theorem plain (f : FuncId)(fn : Func)(hf : Tryz.pinned.checked.prog.funcNamed "bspregion/bspregionlaw16.CellsNeighbors" = some f)(hfn : Tryz.pinned.checked.prog.funcs[f]? = some fn) :
  true=Tryz.pinned.checked.prog.looks []/\∀(j:Nat) t,fn.params[j]?=some t->Tryz.pinned.checked.prog.wantsStandIn t=false:=by
 obtain rfl : f = 6 := Option.some.inj ((show Tryz.prog.funcNamed "bspregion/bspregionlaw16.CellsNeighbors" = some 6 by kernel_rfl).symm.trans hf) |>.symm
 obtain rfl:fn=Tryz.f6:=(Option.some.inj (Tryz.func6.symm.trans hfn)).symm;refine ⟨by kernel_rfl,fun j t ht=>?_⟩;rw [Tryz.params6] at ht;have ht:t=22:=by simpa using Array.mem_of_getElem? ht
 subst ht;exact (show Tryz.prog.wantsStandIn 22=false by kernel_rfl)
end Go.Proofs.YtdhlkpfmlimjfaaGreatDoor.iJ
namespace Go.Proofs.YtdhlkpfmlimjfaaGreatDoor
open Go.ChangeShapes Go.WideShapes Go.ChangeAt Go.RowKit Go.Eng
theorem cellsNeighborsCardHolds:Rows.CellsNeighborsCardSaid:=
 Claim7.holds_tied_plain_at .later [] _ _ _ _ iJ.said (fun _ h=>by cases h) (by kernel_rfl) (fun _ h=>by cases h) cellsNeighbors_row_tie rfl ⟨rfl,rfl⟩ (by kernel_rfl) rfl iJ.plain (by kernel_rfl)
end Go.Proofs.YtdhlkpfmlimjfaaGreatDoor
