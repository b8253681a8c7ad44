/- The law ConvexValid (bspregionlaw08): for every input (a cell and a point of package WW) the call returns true and the arguments read as they did. Condition: the package-level variables NY, Lr and PM read as the program's text lays them (the card ties this). -/
import Derived.Test.YtnnbfoejafcdlaaGreatDoorH9
import Derived.Test.YtnnbfoejafcdlaaGreatDoorH17
import Derived.Test.YtnnbfoejafcdlaaGreatDoorH18
set_option linter.unusedVariables false
open Go.IntKind (i64 u64 u32)
namespace Go.Proofs.YtnnbfoejafcdlaaGreatDoor.mb
open Go.ChangeShapes Go.WideShapes Go.ChangeAt Go.RowKit Go.bE
theorem TP : Tryz.prog.globalNamed "bspregion/api.ErrInvalid" = some 0 := by kernel_rfl
theorem TQ : Tryz.prog.globalNamed "bspregion/api.ErrUnbounded" = some 2 := by kernel_rfl
theorem TO : Tryz.prog.globalNamed "bspregion/api.ErrEmpty" = some 1 := by kernel_rfl
theorem VK:(Tryz.prog.globals[0]?).map (·.type)=some 47:=by kernel_rfl
theorem VL:(Tryz.prog.globals[2]?).map (·.type)=some 47:=by kernel_rfl
theorem VJ:(Tryz.prog.globals[1]?).map (·.type)=some 47:=by kernel_rfl
theorem snt {W:World}(h:laidMetH Tryz.prog Rows.convexValidRow.laid W):∃yi ye yu,Tryz.Er (View.all W) yi ye yu:=by
 obtain ⟨a,ha⟩:=lq TP VK (List.mem_cons_self ..) h
 obtain ⟨b,hb⟩:=lq TQ VL (List.mem_cons_of_mem _ (List.mem_cons_self ..)) h
 obtain ⟨c,hc⟩:=lq TO VJ (List.mem_cons_of_mem _ (List.mem_cons_of_mem _ (List.mem_cons_self ..))) h
 exact ⟨_,_,_,⟨fun h=>h,ha⟩,⟨fun h=>h,hc⟩,⟨fun h=>h,hb⟩,⟨a,rfl⟩,⟨c,rfl⟩,⟨b,rfl⟩⟩
set_option maxRecDepth 100000 in
theorem Jn (H:Type)(enc:TypeId×Value->H)(W:World)(base:Nat)(args:Array Value)(ds gs:List (DataW H))(before:List MemPlace)
  (hval:∀(j:Nat) t v,Tryz.f8.params[j]?=some t->args[j]?=some v->Value.okWide Tryz.prog W .any base t v)
  (hW:DataW.Whole enc Tryz.prog Tryz.f8.params.toList Rows.convexValidSpec.vars false W args.toList ds gs before)(hL:laidMetH Tryz.prog Rows.convexValidRow.laid W) :
  Calls Tryz.prog 8 args W fun e W'=>∃v,e=.returned v/\Rows.convexValidSpec.post enc Tryz.prog Tryz.f8 false true false false W args v W':=by
 have hW':=hW
 obtain ⟨p,q,Xz,hV,rfl,hfz,hnd⟩:=hW
 have hA:DataW.TrodAll enc Tryz.prog W 0 (fun _=>true) true Tryz.f8.params.toList args.toList ds p:=Xz
 rw [Tryz.params8] at hA hval
 obtain ⟨v0,vs0,d0,ds0,p0,q0,hargs,rfl,rfl,h0,r0⟩:=trodAll_cons hA
 obtain ⟨v1,vs1,d1,ds1,p1,q1,rfl,rfl,rfl,h1,r1⟩:=trodAll_cons r0
 obtain ⟨rfl,rfl,rfl⟩:=trodAll_nil r1
 obtain rfl:args=#[v0,v1]:=by cases args;simp_all
 obtain ⟨rfl,rfl⟩:=trodVars_none hV
 clear Xz
 obtain ⟨yi,ye,yu,hs⟩:=snt hL
 obtain ⟨q,n,c,rs,rfl,hc,hr⟩:=Jj (hval 0 37 v0 rfl rfl) h0
 obtain ⟨fp,hp⟩:=Ih (hval 1 71 v1 rfl rfl) h1
 exact Mj hW' rfl (by kernel_rfl) (by kernel_rfl) rfl (Tryz.nA hr hc hp hs)
noncomputable def qW (os:Os):World:=World.laidAll Tryz.prog os Rows.convexValidRow.laid
theorem JV (os:Os):laidMet Tryz.prog Rows.convexValidRow.laid ((qW os).forCall (fun _ _=>0) ⟨#[],#[.agg #[.slice none 0 0],.agg #[.bool false,.slice none 0 0,.slice none 0 0,.bool false,.slice none 0 0,.slice none 0 0]],[]⟩).memory:=
 laidMet_laidAll _ (by kernel_rfl) (by kernel_rfl)
theorem reads (os:Os){H:Type}(enc:TypeId×Value->H):∃places,DataW.whole enc Tryz.prog ((qW os).forCall (fun _ _=>0) ⟨#[],#[.agg #[.slice none 0 0],.agg #[.bool false,.slice none 0 0,.slice none 0 0,.bool false,.slice none 0 0,.slice none 0 0]],[]⟩).memory Tryz.f8.params.toList Rows.convexValidSpec.vars false #[Value.agg #[.slice none 0 0],.agg #[.bool false,.slice none 0 0,.slice none 0 0,.bool false,.slice none 0 0,.slice none 0 0]].toList 8=some ([.agg [.nil],.agg [.agg [.agg [.lit (.bool false),.nil],.nil],.agg [.agg [.lit (.bool false),.nil],.nil]]],[],places):=
 ⟨[],by kernel_rfl⟩
set_option maxRecDepth 100000 in
theorem lifted (os:Os)(started:os.Started)(H:Type)(enc:TypeId×Value->H)(F:Stop.Interp) :
  ReturnsInHanded {} Tryz.checked os 8 .any ((OpenSpec.ofChange Rows.convexValidSpec).preRow enc Tryz.prog Tryz.f8 Rows.convexValidRow.domain false Rows.convexValidRow.laid) (((OpenSpec.ofChange Rows.convexValidSpec).at F).post enc Tryz.prog Tryz.f8 false true false false):=by
 obtain ⟨places,hx⟩:=reads os enc
 refine returnsInHanded_of_row (C:=Tryz.checked) (s:=OpenSpec.ofChange Rows.convexValidSpec) own started (by kernel_rfl) Tryz.func8
  (witness_row_at (enc:=enc) (C:=Tryz.checked) false (qW os) #[.agg #[.slice none 0 0],.agg #[.bool false,.slice none 0 0,.slice none 0 0,.bool false,.slice none 0 0,.slice none 0 0]] (World.laidAll_os _ _ _) (by kernel_rfl) (by kernel_rfl) (by kernel_rfl)
   (OpenSpec.preRow_of_cond 8 hx (by kernel_rfl) (fun k hk=>by cases hk) (by kernel_rfl) (JV os))) ?_
 intro W base args ds gs before hval hW _ _ _ hL _ _
 exact Jn H enc W base args ds gs before hval hW hL
theorem said:Rows.ConvexValidSaid:=
 OpenClaim.holds_of_cond 8 Tryz.f8 rfl rfl rfl rfl rfl rfl rfl ⟨rfl,rfl,rfl,rfl,rfl⟩ rfl rfl rfl rfl rfl (by kernel_rfl) Tryz.func8 (by kernel_rfl)
  (of_decide_eq_true (by kernel_rfl)) (by unfold Func.isWrapper;first|(rw [if_pos (by decide +kernel)];kernel_rfl)|(rw [if_neg (by decide +kernel)];exact ⟨rfl,rfl⟩))
  (fun os started H enc _ F=>by rw [OpenClaim.pre_eq_preRow];exact lifted os started H enc F)
theorem plain (f : FuncId)(fn : Func)(hf : Tryz.pinned.checked.prog.funcNamed "bspregion/bspregionlaw08.ConvexValid" = some f)(hfn : Tryz.pinned.checked.prog.funcs[f]? = some fn) :
  true=Tryz.pinned.checked.prog.looks []/\∀(j:Nat) t,fn.params[j]?=some t->Tryz.pinned.checked.prog.wantsStandIn t=false:=by
 obtain rfl : f = 8 := Option.some.inj ((show Tryz.prog.funcNamed "bspregion/bspregionlaw08.ConvexValid" = some 8 by kernel_rfl).symm.trans hf) |>.symm
 obtain rfl:fn=Tryz.f8:=(Option.some.inj (Tryz.func8.symm.trans hfn)).symm
 refine ⟨by kernel_rfl,fun j t ht=>?_⟩
 rw [Tryz.params8] at ht
 have ht:t=37\/t=71:=by simpa using Array.mem_of_getElem? ht
 rcases ht with rfl|rfl
 ·exact (show Tryz.prog.wantsStandIn 37=false by kernel_rfl)
 ·exact (show Tryz.prog.wantsStandIn 71=false by kernel_rfl)
end Go.Proofs.YtnnbfoejafcdlaaGreatDoor.mb
namespace Go.Proofs.YtnnbfoejafcdlaaGreatDoor
open Go.ChangeShapes Go.WideShapes Go.ChangeAt Go.RowKit Go.bE
theorem convexValidCardHolds:Rows.ConvexValidCardSaid:=
 Claim7.holds_tied_plain_at .later [] _ _ _ _ mb.said (fun _ h=>by cases h) (by kernel_rfl) (fun _ h=>by cases h) convexValid_row_tie rfl ⟨rfl,rfl⟩ (by kernel_rfl) rfl mb.plain (by kernel_rfl)
end Go.Proofs.YtnnbfoejafcdlaaGreatDoor
