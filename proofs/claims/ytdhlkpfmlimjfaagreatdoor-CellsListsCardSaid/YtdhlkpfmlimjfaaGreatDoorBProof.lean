/- The law CellsLists (bspregionlaw16): for every input (a slice of ints) the call returns true and the argument reads as it did. Condition: the package-level variables KP and MN read as the program's text lays them (the card ties this). -/
import Derived.Test.YtdhlkpfmlimjfaaGreatDoorB10
import Derived.Test.YtdhlkpfmlimjfaaGreatDoorB19
set_option linter.unusedVariables false
open Go.IntKind (i64 u64 u32)
namespace Go.Proofs.YtdhlkpfmlimjfaaGreatDoor.mJ
open Go.ChangeShapes Go.WideShapes Go.ChangeAt Go.RowKit Go.Eng
theorem Qx : Tryz.prog.globalNamed "bspregion/api.ErrInvalid" = some 0 := by kernel_rfl
theorem Qy : Tryz.prog.globalNamed "bspregion/api.ErrLimit" = some 1 := by kernel_rfl
theorem SC:(Tryz.prog.globals[0]?).map (·.type)=some 29:=by kernel_rfl
theorem SD:(Tryz.prog.globals[1]?).map (·.type)=some 29:=by kernel_rfl
theorem Xp {W:World}(h:laidMetH Tryz.prog Rows.cellsListsRow.laid W):∃y z,Tryz.Sent (View.all W) 0 y/\Tryz.Sent (View.all W) 1 z/\Tryz.SErr y/\Tryz.SErr z:=by
 obtain ⟨a,ha⟩:=ou Qx SC (List.mem_cons_self ..) h
 obtain ⟨b,hb⟩:=ou Qy SD (List.mem_cons_of_mem _ (List.mem_cons_self ..)) h
 exact ⟨_,_,⟨fun h=>h,ha⟩,⟨fun h=>h,hb⟩,⟨a,rfl⟩,⟨b,rfl⟩⟩
set_option maxRecDepth 100000 in
theorem Gi (H:Type)(enc:TypeId×Value->H)(W:World)(base:Nat)(args:Array Value)(ds gs:List (DataW H))(before:List MemPlace)
  (hval:∀(j:Nat) t v,Tryz.f3.params[j]?=some t->args[j]?=some v->Value.okWide Tryz.prog W .any base t v)
  (hW:DataW.Whole enc Tryz.prog Tryz.f3.params.toList Rows.cellsListsSpec.vars false W args.toList ds gs before)(hL:laidMetH Tryz.prog Rows.cellsListsRow.laid W) :
  Calls Tryz.prog 3 args W fun e W'=>∃v,e=.returned v/\Rows.cellsListsSpec.post enc Tryz.prog Tryz.f3 false true false false W args v W':=by
 have hW':=hW
 obtain ⟨p,q,PD,hV,rfl,hfz,hnd⟩:=hW
 have hA:DataW.TrodAll enc Tryz.prog W 0 (fun _=>true) true Tryz.f3.params.toList args.toList ds p:=PD
 rw [Tryz.params3] at hA hval
 obtain ⟨v0,YW,d0,ds0,p0,q0,hargs,rfl,rfl,h0,r0⟩:=trodAll_cons hA
 obtain ⟨rfl,rfl,rfl⟩:=trodAll_nil r0
 obtain rfl:args=#[v0]:=by cases args;simp_all
 obtain ⟨rfl,rfl⟩:=trodVars_none hV
 obtain ⟨lp,ln,lc,rfl⟩:=okWide_slice Tryz.underlying22 (hval 0 22 v0 rfl rfl)
 clear PD
 obtain ⟨y,z,hy,hz,sy,sz⟩:=Xp hL
 obtain ⟨hc,hr⟩:=Bl h0
 exact Jd hW' rfl (by kernel_rfl) (by kernel_rfl) rfl (Tryz.mG hy hz sy sz hr hc)
noncomputable def pF (os:Os):World:=World.laidAll Tryz.prog os Rows.cellsListsRow.laid
theorem GX (os:Os):laidMet Tryz.prog Rows.cellsListsRow.laid ((pF os).forCall (fun _ _=>0) ⟨#[],#[.slice none 0 0],[]⟩).memory:=
 laidMet_laidAll _ (by kernel_rfl) (by kernel_rfl)
theorem reads (os:Os){H:Type}(enc:TypeId×Value->H):∃places,DataW.whole enc Tryz.prog ((pF os).forCall (fun _ _=>0) ⟨#[],#[.slice none 0 0],[]⟩).memory Tryz.f3.params.toList Rows.cellsListsSpec.vars false #[Value.slice none 0 0].toList 8=some ([.nil],[],places):=
 ⟨[],by kernel_rfl⟩
set_option maxRecDepth 100000 in
theorem lifted (os:Os)(started:os.Started)(H:Type)(enc:TypeId×Value->H)(F:Stop.Interp) :
  ReturnsInHanded {} Tryz.checked os 3 .any ((OpenSpec.ofChange Rows.cellsListsSpec).preRow enc Tryz.prog Tryz.f3 Rows.cellsListsRow.domain false Rows.cellsListsRow.laid) (((OpenSpec.ofChange Rows.cellsListsSpec).at F).post enc Tryz.prog Tryz.f3 false true false false):=by
 obtain ⟨places,hx⟩:=reads os enc
 refine returnsInHanded_of_row (C:=Tryz.checked) (s:=OpenSpec.ofChange Rows.cellsListsSpec) own started (by kernel_rfl) Tryz.func3
  (witness_row_at (enc:=enc) (C:=Tryz.checked) false (pF os) #[.slice none 0 0] (World.laidAll_os _ _ _) (by kernel_rfl) (by kernel_rfl) (by kernel_rfl)
   (OpenSpec.preRow_of_cond 8 hx (by kernel_rfl) (fun k hk=>by cases hk) (by kernel_rfl) (GX os))) ?_
 intro W base args ds gs before hval hW _ _ _ hL _ _
 exact Gi H enc W base args ds gs before hval hW hL
theorem said:Rows.CellsListsSaid:=
 OpenClaim.holds_of_cond 3 Tryz.f3 rfl rfl rfl rfl rfl rfl rfl ⟨rfl,rfl,rfl,rfl,rfl⟩ rfl rfl rfl rfl rfl (by kernel_rfl) Tryz.func3 (by kernel_rfl)
  (of_decide_eq_true (by kernel_rfl)) (by unfold Func.isWrapper;first|(rw [if_pos (by decide +kernel)];kernel_rfl)|(rw [if_neg (by decide +kernel)];exact ⟨rfl,rfl⟩))
  (fun os started H enc _ F=>by rw [OpenClaim.pre_eq_preRow];exact lifted os started H enc F)
theorem plain (f : FuncId)(fn : Func)(hf : Tryz.pinned.checked.prog.funcNamed "bspregion/bspregionlaw16.CellsLists" = some f)(hfn : Tryz.pinned.checked.prog.funcs[f]? = some fn) :
  true=Tryz.pinned.checked.prog.looks []/\∀(j:Nat) t,fn.params[j]?=some t->Tryz.pinned.checked.prog.wantsStandIn t=false:=by
 obtain rfl : f = 3 := Option.some.inj ((show Tryz.prog.funcNamed "bspregion/bspregionlaw16.CellsLists" = some 3 by kernel_rfl).symm.trans hf) |>.symm
 obtain rfl:fn=Tryz.f3:=(Option.some.inj (Tryz.func3.symm.trans hfn)).symm
 refine ⟨by kernel_rfl,fun j t ht=>?_⟩
 rw [Tryz.params3] at ht
 have ht:t=22:=by simpa using Array.mem_of_getElem? ht
 subst ht
 exact (show Tryz.prog.wantsStandIn 22=false by kernel_rfl)
end Go.Proofs.YtdhlkpfmlimjfaaGreatDoor.mJ
namespace Go.Proofs.YtdhlkpfmlimjfaaGreatDoor
open Go.ChangeShapes Go.WideShapes Go.ChangeAt Go.RowKit Go.Eng
theorem cellsListsCardHolds:Rows.CellsListsCardSaid:=
 Claim7.holds_tied_plain_at .later [] _ _ _ _ mJ.said (fun _ h=>by cases h) (by kernel_rfl) (fun _ h=>by cases h) cellsLists_row_tie rfl ⟨rfl,rfl⟩ (by kernel_rfl) rfl mJ.plain (by kernel_rfl)
end Go.Proofs.YtdhlkpfmlimjfaaGreatDoor
