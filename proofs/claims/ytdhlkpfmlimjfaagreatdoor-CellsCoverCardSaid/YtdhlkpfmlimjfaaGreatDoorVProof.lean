/- The law CellsCover (bspregionlaw16): for every input (a slice of ints) the call returns true and the argument reads as it did. Condition: the package-level variables LG and NV read as the program's text lays them (the card ties this). -/
import Derived.Test.YtdhlkpfmlimjfaaGreatDoorV10
import Derived.Test.YtdhlkpfmlimjfaaGreatDoorV19
set_option linter.unusedVariables false
open Go.IntKind (i64 u64 u32)
namespace Go.Proofs.YtdhlkpfmlimjfaaGreatDoor.mV
open Go.ChangeShapes Go.WideShapes Go.ChangeAt Go.RowKit Go.Eng
theorem Rd : Tryz.prog.globalNamed "bspregion/api.ErrInvalid" = some 0 := by kernel_rfl
theorem Re : Tryz.prog.globalNamed "bspregion/api.ErrLimit" = some 1 := by kernel_rfl
theorem Tz:(Tryz.prog.globals[0]?).map (·.type)=some 29:=by kernel_rfl
theorem TA:(Tryz.prog.globals[1]?).map (·.type)=some 29:=by kernel_rfl
theorem Yg {W:World}(h:laidMetH Tryz.prog Rows.cellsCoverRow.laid W):∃y z,Tryz.Sent (View.all W) 0 y/\Tryz.Sent (View.all W) 1 z/\Tryz.SErr y/\Tryz.SErr z:=by
 obtain ⟨a,c⟩:=oQ Rd Tz (List.mem_cons_self ..) h
 obtain ⟨b,d⟩:=oQ Re TA (List.mem_cons_of_mem _ (List.mem_cons_self ..)) h
 exact ⟨_,_,⟨fun h=>h,c⟩,⟨fun h=>h,d⟩,⟨a,rfl⟩,⟨b,rfl⟩⟩
set_option maxRecDepth 100000 in
theorem He (H:Type)(enc:TypeId×Value->H)(W:World)(base:Nat)(args:Array Value)(ds gs:List (DataW H))(before:List MemPlace)
  (hval:∀(j:Nat) t v,Tryz.f8.params[j]?=some t->args[j]?=some v->Value.okWide Tryz.prog W .any base t v)
  (hW:DataW.Whole enc Tryz.prog Tryz.f8.params.toList Rows.cellsCoverSpec.vars false W args.toList ds gs before)(hL:laidMetH Tryz.prog Rows.cellsCoverRow.laid W) :
  Calls Tryz.prog 8 args W fun e W'=>∃v,e=.returned v/\Rows.cellsCoverSpec.post enc Tryz.prog Tryz.f8 false true false false W args v W':=by
 have a:=hW
 obtain ⟨p,q,c,f,rfl,g,h⟩:=hW
 have d:DataW.TrodAll enc Tryz.prog W 0 (fun _=>true) true Tryz.f8.params.toList args.toList ds p:=c
 rw [Tryz.params8] at d hval
 obtain ⟨v0,u,d0,i,w,x,b,rfl,rfl,k,l⟩:=trodAll_cons d
 obtain ⟨rfl,rfl,rfl⟩:=trodAll_nil l
 obtain rfl:args=#[v0]:=by cases args;simp_all
 obtain ⟨rfl,rfl⟩:=trodVars_none f
 obtain ⟨A,ln,lc,rfl⟩:=okWide_slice Tryz.underlying22 (hval 0 22 v0 rfl rfl)
 clear c
 obtain ⟨y,z,m,n,o,sz⟩:=Yg hL
 obtain ⟨r,s⟩:=Cc k
 exact J1 a rfl (by kernel_rfl) (by kernel_rfl) rfl (Tryz.mR m n o sz s r)
noncomputable def p_ (os:Os):World:=World.laidAll Tryz.prog os Rows.cellsCoverRow.laid
theorem HN (os:Os):laidMet Tryz.prog Rows.cellsCoverRow.laid ((p_ os).forCall (fun _ _=>0) ⟨#[],#[.slice none 0 0],[]⟩).memory:=
 laidMet_laidAll _ (by kernel_rfl) (by kernel_rfl)
theorem reads (os:Os){H:Type}(enc:TypeId×Value->H):∃places,DataW.whole enc Tryz.prog ((p_ os).forCall (fun _ _=>0) ⟨#[],#[.slice none 0 0],[]⟩).memory Tryz.f8.params.toList Rows.cellsCoverSpec.vars false #[Value.slice none 0 0].toList 8=some ([.nil],[],places):=
 ⟨[],by kernel_rfl⟩
set_option maxRecDepth 100000 in
theorem lifted (os:Os)(started:os.Started)(H:Type)(enc:TypeId×Value->H)(F:Stop.Interp) :
  ReturnsInHanded {} Tryz.checked os 8 .any ((OpenSpec.ofChange Rows.cellsCoverSpec).preRow enc Tryz.prog Tryz.f8 Rows.cellsCoverRow.domain false Rows.cellsCoverRow.laid) (((OpenSpec.ofChange Rows.cellsCoverSpec).at F).post enc Tryz.prog Tryz.f8 false true false false):=by
 obtain ⟨places,b⟩:=reads os enc
 refine returnsInHanded_of_row (C:=Tryz.checked) (s:=OpenSpec.ofChange Rows.cellsCoverSpec) own started (by kernel_rfl) Tryz.func8
  (witness_row_at (enc:=enc) (C:=Tryz.checked) false (p_ os) #[.slice none 0 0] (World.laidAll_os _ _ _) (by kernel_rfl) (by kernel_rfl) (by kernel_rfl)
   (OpenSpec.preRow_of_cond 8 b (by kernel_rfl) (fun k c=>by cases c) (by kernel_rfl) (HN os))) ?_
 intro W base args d gs before a e _ _ _ f _ _
 exact He H enc W base args d gs before a e f
theorem said:Rows.CellsCoverSaid:=
 OpenClaim.holds_of_cond 8 Tryz.f8 rfl rfl rfl rfl rfl rfl rfl ⟨rfl,rfl,rfl,rfl,rfl⟩ rfl rfl rfl rfl rfl (by kernel_rfl) Tryz.func8 (by kernel_rfl)
  (of_decide_eq_true (by kernel_rfl)) (by unfold Func.isWrapper;first|(rw [if_pos (by decide +kernel)];kernel_rfl)|(rw [if_neg (by decide +kernel)];exact ⟨rfl,rfl⟩))
  (fun os started H enc _ F=>by rw [OpenClaim.pre_eq_preRow];exact lifted os started H enc F)
theorem plain (f : FuncId)(fn : Func)(hf : Tryz.pinned.checked.prog.funcNamed "bspregion/bspregionlaw16.CellsCover" = some f)(hfn : Tryz.pinned.checked.prog.funcs[f]? = some fn) :
  true=Tryz.pinned.checked.prog.looks []/\∀(j:Nat) t,fn.params[j]?=some t->Tryz.pinned.checked.prog.wantsStandIn t=false:=by
 obtain rfl : f = 8 := Option.some.inj ((show Tryz.prog.funcNamed "bspregion/bspregionlaw16.CellsCover" = some 8 by kernel_rfl).symm.trans hf) |>.symm
 obtain rfl:fn=Tryz.f8:=(Option.some.inj (Tryz.func8.symm.trans hfn)).symm
 refine ⟨by kernel_rfl,fun j t ht=>?_⟩
 rw [Tryz.params8] at ht
 have ht:t=22:=by simpa using Array.mem_of_getElem? ht
 subst ht
 exact (show Tryz.prog.wantsStandIn 22=false by kernel_rfl)
end Go.Proofs.YtdhlkpfmlimjfaaGreatDoor.mV
namespace Go.Proofs.YtdhlkpfmlimjfaaGreatDoor
open Go.ChangeShapes Go.WideShapes Go.ChangeAt Go.RowKit Go.Eng
theorem cellsCoverCardHolds:Rows.CellsCoverCardSaid:=
 Claim7.holds_tied_plain_at .later [] _ _ _ _ mV.said (fun _ h=>by cases h) (by kernel_rfl) (fun _ h=>by cases h) cellsCover_row_tie rfl ⟨rfl,rfl⟩ (by kernel_rfl) rfl mV.plain (by kernel_rfl)
end Go.Proofs.YtdhlkpfmlimjfaaGreatDoor
