/- The law ConvexLimit (bspregionlaw08): for every input (one byte) the call returns true and the argument reads as it did. Condition: the package-level variables HO, F0 and Jo read as the program's text lays them (the card ties this). -/
import Derived.Test.YtnnbfoejafcdlaaGreatDoorA9
import Derived.Test.YtnnbfoejafcdlaaGreatDoorA16
set_option linter.unusedVariables false
open Go.IntKind (i64 u64 u32)
namespace Go.Proofs.YtnnbfoejafcdlaaGreatDoor.kd
open Go.ChangeShapes Go.WideShapes Go.ChangeAt Go.RowKit Go.bq
theorem MA : Tryz.prog.globalNamed "bspregion/api.ErrInvalid" = some 0 := by kernel_rfl
theorem MB : Tryz.prog.globalNamed "bspregion/api.ErrUnbounded" = some 2 := by kernel_rfl
theorem Mz : Tryz.prog.globalNamed "bspregion/api.ErrEmpty" = some 1 := by kernel_rfl
theorem N3:(Tryz.prog.globals[0]?).map (·.type)=some 47:=by kernel_rfl
theorem N4:(Tryz.prog.globals[2]?).map (·.type)=some 47:=by kernel_rfl
theorem N2:(Tryz.prog.globals[1]?).map (·.type)=some 47:=by kernel_rfl
theorem R4 {W:World}(h:laidMetH Tryz.prog Rows.convexLimitRow.laid W):∃yi ye yu,Tryz.Er (View.all W) yi ye yu:=by
 obtain ⟨a,ha⟩:=jK MA N3 (List.mem_cons_self ..) h
 obtain ⟨b,hb⟩:=jK MB N4 (List.mem_cons_of_mem _ (List.mem_cons_self ..)) h
 obtain ⟨c,hc⟩:=jK Mz N2 (List.mem_cons_of_mem _ (List.mem_cons_of_mem _ (List.mem_cons_self ..))) h
 exact ⟨_,_,_,⟨fun h=>h,ha⟩,⟨fun h=>h,hc⟩,⟨fun h=>h,hb⟩,⟨a,rfl⟩,⟨c,rfl⟩,⟨b,rfl⟩⟩
set_option maxRecDepth 100000 in
theorem Ec (H:Type)(enc:TypeId×Value->H)(W:World)(base:Nat)(args:Array Value)(ds gs:List (DataW H))(before:List MemPlace)
  (hval:∀(j:Nat) t v,Tryz.f3.params[j]?=some t->args[j]?=some v->Value.okWide Tryz.prog W .any base t v)
  (hW:DataW.Whole enc Tryz.prog Tryz.f3.params.toList Rows.convexLimitSpec.vars false W args.toList ds gs before)(hL:laidMetH Tryz.prog Rows.convexLimitRow.laid W) :
  Calls Tryz.prog 3 args W fun e W'=>∃v,e=.returned v/\Rows.convexLimitSpec.post enc Tryz.prog Tryz.f3 false true false false W args v W':=by
 have hW':=hW
 obtain ⟨p,q,O9,hV,rfl,hfz,hnd⟩:=hW
 have hA:DataW.TrodAll enc Tryz.prog W 0 (fun _=>true) true Tryz.f3.params.toList args.toList ds p:=O9
 rw [Tryz.params3] at hA hval
 obtain ⟨v0,Tc,d0,ds0,p0,q0,hargs,rfl,rfl,h0,r0⟩:=trodAll_cons hA
 obtain ⟨rfl,rfl,rfl⟩:=trodAll_nil r0
 obtain rfl:args=#[v0]:=by cases args;simp_all
 obtain ⟨rfl,rfl⟩:=trodVars_none hV
 obtain ⟨a0,rfl,rfl,rfl,w0⟩:=open_int Tryz.underlying5 (hval 0 5 v0 rfl rfl) h0
 clear O9
 obtain ⟨yi,ye,yu,hs⟩:=R4 hL
 have h0':0<=a0/\a0<256:=by
  simp only [Lit.wf,Bool.and_eq_true,decide_eq_true_eq] at w0
  have h2:a0<=255:=w0.2
  exact ⟨w0.1,by omega⟩
 exact GD hW' rfl (by kernel_rfl) (by kernel_rfl) rfl (Tryz.kY hs a0 h0'.1 h0'.2)
noncomputable def oc (os:Os):World:=World.laidAll Tryz.prog os Rows.convexLimitRow.laid
theorem EM (os:Os):laidMet Tryz.prog Rows.convexLimitRow.laid ((oc os).forCall (fun _ _=>0) ⟨#[],#[.int .u8 0],[]⟩).memory:=
 laidMet_laidAll _ (by kernel_rfl) (by kernel_rfl)
theorem reads (os:Os){H:Type}(enc:TypeId×Value->H):∃places,DataW.whole enc Tryz.prog ((oc os).forCall (fun _ _=>0) ⟨#[],#[.int .u8 0],[]⟩).memory Tryz.f3.params.toList Rows.convexLimitSpec.vars false #[Value.int .u8 0].toList 8=some ([.lit (.int .u8 0)],[],places):=
 ⟨[],by kernel_rfl⟩
set_option maxRecDepth 100000 in
theorem lifted (os:Os)(started:os.Started)(H:Type)(enc:TypeId×Value->H)(F:Stop.Interp) :
  ReturnsInHanded {} Tryz.checked os 3 .any ((OpenSpec.ofChange Rows.convexLimitSpec).preRow enc Tryz.prog Tryz.f3 Rows.convexLimitRow.domain false Rows.convexLimitRow.laid) (((OpenSpec.ofChange Rows.convexLimitSpec).at F).post enc Tryz.prog Tryz.f3 false true false false):=by
 obtain ⟨places,hx⟩:=reads os enc
 refine returnsInHanded_of_row (C:=Tryz.checked) (s:=OpenSpec.ofChange Rows.convexLimitSpec) own started (by kernel_rfl) Tryz.func3
  (witness_row_at (enc:=enc) (C:=Tryz.checked) false (oc os) #[.int .u8 0] (World.laidAll_os _ _ _) (by kernel_rfl) (by kernel_rfl) (by kernel_rfl)
   (OpenSpec.preRow_of_cond 8 hx (by kernel_rfl) (fun k hk=>by cases hk) (by kernel_rfl) (EM os))) ?_
 intro W base args ds gs before hval hW _ _ _ hL _ _
 exact Ec H enc W base args ds gs before hval hW hL
theorem said:Rows.ConvexLimitSaid:=
 OpenClaim.holds_of_cond 3 Tryz.f3 rfl rfl rfl rfl rfl rfl rfl ⟨rfl,rfl,rfl,rfl,rfl⟩ rfl rfl rfl rfl rfl (by kernel_rfl) Tryz.func3 (by kernel_rfl)
  (of_decide_eq_true (by kernel_rfl)) (by unfold Func.isWrapper;first|(rw [if_pos (by decide +kernel)];kernel_rfl)|(rw [if_neg (by decide +kernel)];exact ⟨rfl,rfl⟩))
  (fun os started H enc _ F=>by rw [OpenClaim.pre_eq_preRow];exact lifted os started H enc F)
theorem plain (f : FuncId)(fn : Func)(hf : Tryz.pinned.checked.prog.funcNamed "bspregion/bspregionlaw08.ConvexLimit" = some f)(hfn : Tryz.pinned.checked.prog.funcs[f]? = some fn) :
  true=Tryz.pinned.checked.prog.looks []/\∀(j:Nat) t,fn.params[j]?=some t->Tryz.pinned.checked.prog.wantsStandIn t=false:=by
 obtain rfl : f = 3 := Option.some.inj ((show Tryz.prog.funcNamed "bspregion/bspregionlaw08.ConvexLimit" = some 3 by kernel_rfl).symm.trans hf) |>.symm
 obtain rfl:fn=Tryz.f3:=(Option.some.inj (Tryz.func3.symm.trans hfn)).symm
 refine ⟨by kernel_rfl,fun j t ht=>?_⟩
 rw [Tryz.params3] at ht
 obtain rfl:t=5:=by simpa using Array.mem_of_getElem? ht
 exact (show Tryz.prog.wantsStandIn 5=false by kernel_rfl)
end Go.Proofs.YtnnbfoejafcdlaaGreatDoor.kd
namespace Go.Proofs.YtnnbfoejafcdlaaGreatDoor
open Go.ChangeShapes Go.WideShapes Go.ChangeAt Go.RowKit Go.bq
theorem convexLimitCardHolds:Rows.ConvexLimitCardSaid:=
 Claim7.holds_tied_plain_at .later [] _ _ _ _ kd.said (fun _ h=>by cases h) (by kernel_rfl) (fun _ h=>by cases h) convexLimit_row_tie rfl ⟨rfl,rfl⟩ (by kernel_rfl) rfl kd.plain (by kernel_rfl)
end Go.Proofs.YtnnbfoejafcdlaaGreatDoor
