/- The law ConvexClips (bspregionlaw08): for every input (a slice of ints) the call returns true and the argument reads as it did. Condition: the package-level variables K1, Jd and MN read as the program's text lays them (the card ties this). -/
import Derived.Test.YtnnbfoejafcdlaaGreatDoorD9
import Derived.Test.YtnnbfoejafcdlaaGreatDoorD17
set_option linter.unusedVariables false
open Go.IntKind (i64 u64 u32)
namespace Go.Proofs.YtnnbfoejafcdlaaGreatDoor.ll
open Go.ChangeShapes Go.WideShapes Go.ChangeAt Go.RowKit Go.bF
theorem QD : Tryz.prog.globalNamed "bspregion/api.ErrInvalid" = some 0 := by kernel_rfl
theorem QE : Tryz.prog.globalNamed "bspregion/api.ErrUnbounded" = some 2 := by kernel_rfl
theorem QC : Tryz.prog.globalNamed "bspregion/api.ErrEmpty" = some 1 := by kernel_rfl
theorem Sv:(Tryz.prog.globals[0]?).map (·.type)=some 47:=by kernel_rfl
theorem Sw:(Tryz.prog.globals[2]?).map (·.type)=some 47:=by kernel_rfl
theorem Su:(Tryz.prog.globals[1]?).map (·.type)=some 47:=by kernel_rfl
theorem WQ {W:World}(h:laidMetH Tryz.prog Rows.convexClipsRow.laid W):∃yi ye yu,Tryz.Er (View.all W) yi ye yu:=by
 obtain ⟨a,ha⟩:=kF QD Sv (List.mem_cons_self ..) h
 obtain ⟨b,hb⟩:=kF QE Sw (List.mem_cons_of_mem _ (List.mem_cons_self ..)) h
 obtain ⟨c,hc⟩:=kF QC Su (List.mem_cons_of_mem _ (List.mem_cons_of_mem _ (List.mem_cons_self ..))) h
 exact ⟨_,_,_,⟨fun h=>h,ha⟩,⟨fun h=>h,hc⟩,⟨fun h=>h,hb⟩,⟨a,rfl⟩,⟨c,rfl⟩,⟨b,rfl⟩⟩
set_option maxRecDepth 100000 in
theorem G3 (H:Type)(enc:TypeId×Value->H)(W:World)(base:Nat)(args:Array Value)(ds gs:List (DataW H))(before:List MemPlace)
  (hval:∀(j:Nat) t v,Tryz.f6.params[j]?=some t->args[j]?=some v->Value.okWide Tryz.prog W .any base t v)
  (hW:DataW.Whole enc Tryz.prog Tryz.f6.params.toList Rows.convexClipsSpec.vars false W args.toList ds gs before)(hL:laidMetH Tryz.prog Rows.convexClipsRow.laid W) :
  Calls Tryz.prog 6 args W fun e W'=>∃v,e=.returned v/\Rows.convexClipsSpec.post enc Tryz.prog Tryz.f6 false true false false W args v W':=by
 have hW':=hW
 obtain ⟨p,q,Nm,hV,rfl,hfz,hnd⟩:=hW
 have hA:DataW.TrodAll enc Tryz.prog W 0 (fun _=>true) true Tryz.f6.params.toList args.toList ds p:=Nm
 rw [Tryz.params6] at hA hval
 obtain ⟨v0,Yd,d0,ds0,p0,q0,hargs,rfl,rfl,h0,r0⟩:=trodAll_cons hA
 obtain ⟨rfl,rfl,rfl⟩:=trodAll_nil r0
 obtain rfl:args=#[v0]:=by cases args;simp_all
 obtain ⟨rfl,rfl⟩:=trodVars_none hV
 obtain ⟨lp,ln,lc,rfl⟩:=okWide_slice Tryz.underlying52 (hval 0 52 v0 rfl rfl)
 clear Nm
 obtain ⟨yi,ye,yu,hs⟩:=WQ hL
 obtain ⟨hc,hr⟩:=BS h0
 exact JP hW' rfl (by kernel_rfl) (by kernel_rfl) rfl (Tryz.mz hr hc hs)
noncomputable def qg (os:Os):World:=World.laidAll Tryz.prog os Rows.convexClipsRow.laid
theorem HJ (os:Os):laidMet Tryz.prog Rows.convexClipsRow.laid ((qg os).forCall (fun _ _=>0) ⟨#[],#[.slice none 0 0],[]⟩).memory:=
 laidMet_laidAll _ (by kernel_rfl) (by kernel_rfl)
theorem reads (os:Os){H:Type}(enc:TypeId×Value->H):∃places,DataW.whole enc Tryz.prog ((qg os).forCall (fun _ _=>0) ⟨#[],#[.slice none 0 0],[]⟩).memory Tryz.f6.params.toList Rows.convexClipsSpec.vars false #[Value.slice none 0 0].toList 8=some ([.nil],[],places):=
 ⟨[],by kernel_rfl⟩
set_option maxRecDepth 100000 in
theorem lifted (os:Os)(started:os.Started)(H:Type)(enc:TypeId×Value->H)(F:Stop.Interp) :
  ReturnsInHanded {} Tryz.checked os 6 .any ((OpenSpec.ofChange Rows.convexClipsSpec).preRow enc Tryz.prog Tryz.f6 Rows.convexClipsRow.domain false Rows.convexClipsRow.laid) (((OpenSpec.ofChange Rows.convexClipsSpec).at F).post enc Tryz.prog Tryz.f6 false true false false):=by
 obtain ⟨places,hx⟩:=reads os enc
 refine returnsInHanded_of_row (C:=Tryz.checked) (s:=OpenSpec.ofChange Rows.convexClipsSpec) own started (by kernel_rfl) Tryz.func6
  (witness_row_at (enc:=enc) (C:=Tryz.checked) false (qg os) #[.slice none 0 0] (World.laidAll_os _ _ _) (by kernel_rfl) (by kernel_rfl) (by kernel_rfl)
   (OpenSpec.preRow_of_cond 8 hx (by kernel_rfl) (fun k hk=>by cases hk) (by kernel_rfl) (HJ os))) ?_
 intro W base args ds gs before hval hW _ _ _ hL _ _
 exact G3 H enc W base args ds gs before hval hW hL
theorem said:Rows.ConvexClipsSaid:=
 OpenClaim.holds_of_cond 6 Tryz.f6 rfl rfl rfl rfl rfl rfl rfl ⟨rfl,rfl,rfl,rfl,rfl⟩ rfl rfl rfl rfl rfl (by kernel_rfl) Tryz.func6 (by kernel_rfl)
  (of_decide_eq_true (by kernel_rfl)) (by unfold Func.isWrapper;first|(rw [if_pos (by decide +kernel)];kernel_rfl)|(rw [if_neg (by decide +kernel)];exact ⟨rfl,rfl⟩))
  (fun os started H enc _ F=>by rw [OpenClaim.pre_eq_preRow];exact lifted os started H enc F)
theorem plain (f : FuncId)(fn : Func)(hf : Tryz.pinned.checked.prog.funcNamed "bspregion/bspregionlaw08.ConvexClips" = some f)(hfn : Tryz.pinned.checked.prog.funcs[f]? = some fn) :
  true=Tryz.pinned.checked.prog.looks []/\∀(j:Nat) t,fn.params[j]?=some t->Tryz.pinned.checked.prog.wantsStandIn t=false:=by
 obtain rfl : f = 6 := Option.some.inj ((show Tryz.prog.funcNamed "bspregion/bspregionlaw08.ConvexClips" = some 6 by kernel_rfl).symm.trans hf) |>.symm
 obtain rfl:fn=Tryz.f6:=(Option.some.inj (Tryz.func6.symm.trans hfn)).symm
 refine ⟨by kernel_rfl,fun j t ht=>?_⟩
 rw [Tryz.params6] at ht
 have ht:t=52:=by simpa using Array.mem_of_getElem? ht
 subst ht
 exact (show Tryz.prog.wantsStandIn 52=false by kernel_rfl)
end Go.Proofs.YtnnbfoejafcdlaaGreatDoor.ll
namespace Go.Proofs.YtnnbfoejafcdlaaGreatDoor
open Go.ChangeShapes Go.WideShapes Go.ChangeAt Go.RowKit Go.bF
theorem convexClipsCardHolds:Rows.ConvexClipsCardSaid:=
 Claim7.holds_tied_plain_at .later [] _ _ _ _ ll.said (fun _ h=>by cases h) (by kernel_rfl) (fun _ h=>by cases h) convexClips_row_tie rfl ⟨rfl,rfl⟩ (by kernel_rfl) rfl ll.plain (by kernel_rfl)
end Go.Proofs.YtnnbfoejafcdlaaGreatDoor
