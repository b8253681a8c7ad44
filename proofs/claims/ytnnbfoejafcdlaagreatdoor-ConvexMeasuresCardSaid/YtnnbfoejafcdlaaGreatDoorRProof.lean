/- The law ConvexMeasures (bspregionlaw08): for every input (a slice of ints) the call returns true and the argument reads as it did. Condition: the package-level variables Pj, MG and Rk read as the program's text lays them (the card ties this). -/
import Derived.Test.YtnnbfoejafcdlaaGreatDoorG9
import Derived.Test.YtnnbfoejafcdlaaGreatDoorG18
set_option linter.unusedVariables false
open Go.IntKind (i64 u64 u32)
namespace Go.Proofs.YtnnbfoejafcdlaaGreatDoor.jA
open Go.ChangeShapes Go.WideShapes Go.ChangeAt Go.RowKit Go.bM
theorem VL : Tryz.prog.globalNamed "bspregion/api.ErrInvalid" = some 0 := by kernel_rfl
theorem VM : Tryz.prog.globalNamed "bspregion/api.ErrUnbounded" = some 2 := by kernel_rfl
theorem VK : Tryz.prog.globalNamed "bspregion/api.ErrEmpty" = some 1 := by kernel_rfl
theorem X0:(Tryz.prog.globals[0]?).map (·.type)=some 47:=by kernel_rfl
theorem X1:(Tryz.prog.globals[2]?).map (·.type)=some 47:=by kernel_rfl
theorem XZ:(Tryz.prog.globals[1]?).map (·.type)=some 47:=by kernel_rfl
theorem snt {W:World}(h:laidMetH Tryz.prog Rows.convexMeasuresRow.laid W):∃yi ye yu,Tryz.Er (View.all W) yi ye yu:=by
 obtain ⟨a,d⟩:=mF VL X0 (List.mem_cons_self ..) h
 obtain ⟨b,e⟩:=mF VM X1 (List.mem_cons_of_mem _ (List.mem_cons_self ..)) h
 obtain ⟨c,f⟩:=mF VK XZ (List.mem_cons_of_mem _ (List.mem_cons_of_mem _ (List.mem_cons_self ..))) h
 exact ⟨_,_,_,⟨fun h=>h,d⟩,⟨fun h=>h,f⟩,⟨fun h=>h,e⟩,⟨a,rfl⟩,⟨c,rfl⟩,⟨b,rfl⟩⟩
set_option maxRecDepth 100000 in
theorem J7 (H:Type)(enc:TypeId×Value->H)(W:World)(base:Nat)(args:Array Value)(ds gs:List (DataW H))(before:List MemPlace)
  (hval:∀(j:Nat) t v,Tryz.f5.params[j]?=some t->args[j]?=some v->Value.okWide Tryz.prog W .any base t v)
  (hW:DataW.Whole enc Tryz.prog Tryz.f5.params.toList Rows.convexMeasuresSpec.vars false W args.toList ds gs before)(hL:laidMetH Tryz.prog Rows.convexMeasuresRow.laid W) :
  Calls Tryz.prog 5 args W fun e W'=>∃v,e=.returned v/\Rows.convexMeasuresSpec.post enc Tryz.prog Tryz.f5 false true false false W args v W':=by
 have a:=hW
 obtain ⟨p,q,c,f,rfl,g,h⟩:=hW
 have d:DataW.TrodAll enc Tryz.prog W 0 (fun _=>true) true Tryz.f5.params.toList args.toList ds p:=c
 rw [Tryz.params5] at d hval
 obtain ⟨v0,i,d0,k,s,u,b,rfl,rfl,l,m⟩:=trodAll_cons d
 obtain ⟨rfl,rfl,rfl⟩:=trodAll_nil m
 obtain rfl:args=#[v0]:=by cases args;simp_all
 obtain ⟨rfl,rfl⟩:=trodVars_none f
 obtain ⟨w,ln,lc,rfl⟩:=okWide_slice Tryz.underlying52 (hval 0 52 v0 rfl rfl)
 clear c
 obtain ⟨x,y,z,n⟩:=snt hL
 obtain ⟨o,r⟩:=EC l
 exact Nr a rfl (by kernel_rfl) (by kernel_rfl) rfl (Tryz.lU r o n)
noncomputable def sF (os:Os):World:=World.laidAll Tryz.prog os Rows.convexMeasuresRow.laid
theorem KU (os:Os):laidMet Tryz.prog Rows.convexMeasuresRow.laid ((sF os).forCall (fun _ _=>0) ⟨#[],#[.slice none 0 0],[]⟩).memory:=
 laidMet_laidAll _ (by kernel_rfl) (by kernel_rfl)
theorem reads (os:Os){H:Type}(enc:TypeId×Value->H):∃places,DataW.whole enc Tryz.prog ((sF os).forCall (fun _ _=>0) ⟨#[],#[.slice none 0 0],[]⟩).memory Tryz.f5.params.toList Rows.convexMeasuresSpec.vars false #[Value.slice none 0 0].toList 8=some ([.nil],[],places):=
 ⟨[],by kernel_rfl⟩
set_option maxRecDepth 100000 in
theorem lifted (os:Os)(started:os.Started)(H:Type)(enc:TypeId×Value->H)(F:Stop.Interp) :
  ReturnsInHanded {} Tryz.checked os 5 .any ((OpenSpec.ofChange Rows.convexMeasuresSpec).preRow enc Tryz.prog Tryz.f5 Rows.convexMeasuresRow.domain false Rows.convexMeasuresRow.laid) (((OpenSpec.ofChange Rows.convexMeasuresSpec).at F).post enc Tryz.prog Tryz.f5 false true false false):=by
 obtain ⟨places,b⟩:=reads os enc
 refine returnsInHanded_of_row (C:=Tryz.checked) (s:=OpenSpec.ofChange Rows.convexMeasuresSpec) own started (by kernel_rfl) Tryz.func5
  (witness_row_at (enc:=enc) (C:=Tryz.checked) false (sF os) #[.slice none 0 0] (World.laidAll_os _ _ _) (by kernel_rfl) (by kernel_rfl) (by kernel_rfl)
   (OpenSpec.preRow_of_cond 8 b (by kernel_rfl) (fun k c=>by cases c) (by kernel_rfl) (KU os))) ?_
 intro W base args d gs before a e _ _ _ f _ _
 exact J7 H enc W base args d gs before a e f
theorem said:Rows.ConvexMeasuresSaid:=
 OpenClaim.holds_of_cond 5 Tryz.f5 rfl rfl rfl rfl rfl rfl rfl ⟨rfl,rfl,rfl,rfl,rfl⟩ rfl rfl rfl rfl rfl (by kernel_rfl) Tryz.func5 (by kernel_rfl)
  (of_decide_eq_true (by kernel_rfl)) (by unfold Func.isWrapper;first|(rw [if_pos (by decide +kernel)];kernel_rfl)|(rw [if_neg (by decide +kernel)];exact ⟨rfl,rfl⟩))
  (fun os started H enc _ F=>by rw [OpenClaim.pre_eq_preRow];exact lifted os started H enc F)
theorem plain (f : FuncId)(fn : Func)(hf : Tryz.pinned.checked.prog.funcNamed "bspregion/bspregionlaw08.ConvexMeasures" = some f)(hfn : Tryz.pinned.checked.prog.funcs[f]? = some fn) :
  true=Tryz.pinned.checked.prog.looks []/\∀(j:Nat) t,fn.params[j]?=some t->Tryz.pinned.checked.prog.wantsStandIn t=false:=by
 obtain rfl : f = 5 := Option.some.inj ((show Tryz.prog.funcNamed "bspregion/bspregionlaw08.ConvexMeasures" = some 5 by kernel_rfl).symm.trans hf) |>.symm
 obtain rfl:fn=Tryz.f5:=(Option.some.inj (Tryz.func5.symm.trans hfn)).symm
 refine ⟨by kernel_rfl,fun j t ht=>?_⟩
 rw [Tryz.params5] at ht
 have ht:t=52:=by simpa using Array.mem_of_getElem? ht
 subst ht
 exact (show Tryz.prog.wantsStandIn 52=false by kernel_rfl)
end Go.Proofs.YtnnbfoejafcdlaaGreatDoor.jA
namespace Go.Proofs.YtnnbfoejafcdlaaGreatDoor
open Go.ChangeShapes Go.WideShapes Go.ChangeAt Go.RowKit Go.bM
theorem convexMeasuresCardHolds:Rows.ConvexMeasuresCardSaid:=
 Claim7.holds_tied_plain_at .later [] _ _ _ _ jA.said (fun _ h=>by cases h) (by kernel_rfl) (fun _ h=>by cases h) convexMeasures_row_tie rfl ⟨rfl,rfl⟩ (by kernel_rfl) rfl jA.plain (by kernel_rfl)
end Go.Proofs.YtnnbfoejafcdlaaGreatDoor
