/- The law CellsRefuses (bspregionlaw16): for every input (a tree of package api and a uint8) the call returns true and the arguments read as they did. Condition: the package-level variables HH and Js read as the program's text lays them (the card ties this). -/
import Derived.Test.YtdhlkpfmlimjfaaGreatDoorR10
import Derived.Test.YtdhlkpfmlimjfaaGreatDoorR15
import Derived.Test.YtdhlkpfmlimjfaaGreatDoorR17
set_option linter.unusedVariables false
open Go.IntKind (i64 u64 u32)
namespace Go.Proofs.YtdhlkpfmlimjfaaGreatDoor.jm
open Go.ChangeShapes Go.WideShapes Go.ChangeAt Go.RowKit Go.Eng
theorem MO : Tryz.prog.globalNamed "bspregion/api.ErrInvalid" = some 0 := by kernel_rfl
theorem MP : Tryz.prog.globalNamed "bspregion/api.ErrLimit" = some 1 := by kernel_rfl
theorem N_:(Tryz.prog.globals[0]?).map (·.type)=some 29:=by kernel_rfl
theorem Oa:(Tryz.prog.globals[1]?).map (·.type)=some 29:=by kernel_rfl
theorem R7 {W:World}(h:laidMetH Tryz.prog Rows.cellsRefusesRow.laid W):∃y z,Tryz.Sent (View.all W) 0 y/\Tryz.Sent (View.all W) 1 z/\Tryz.SErr y/\Tryz.SErr z:=by
 obtain ⟨a,c⟩:=mI MO N_ (List.mem_cons_self ..) h
 obtain ⟨b,d⟩:=mI MP Oa (List.mem_cons_of_mem _ (List.mem_cons_self ..)) h
 exact ⟨_,_,⟨fun h=>h,c⟩,⟨fun h=>h,d⟩,⟨a,rfl⟩,⟨b,rfl⟩⟩
set_option maxRecDepth 100000 in
theorem D1 (H:Type)(enc:TypeId×Value->H)(W:World)(base:Nat)(args:Array Value)(ds gs:List (DataW H))(before:List MemPlace)
  (hval:∀(j:Nat) t v,Tryz.f5.params[j]?=some t->args[j]?=some v->Value.okWide Tryz.prog W .any base t v)
  (hW:DataW.Whole enc Tryz.prog Tryz.f5.params.toList Rows.cellsRefusesSpec.vars false W args.toList ds gs before)(hL:laidMetH Tryz.prog Rows.cellsRefusesRow.laid W) :
  Calls Tryz.prog 5 args W fun e W'=>∃v,e=.returned v/\Rows.cellsRefusesSpec.post enc Tryz.prog Tryz.f5 false true false false W args v W':=by
 have a:=hW
 obtain ⟨p,q,f,i,rfl,k,l⟩:=hW
 have g:DataW.TrodAll enc Tryz.prog W 0 (fun _=>true) true Tryz.f5.params.toList args.toList ds p:=f
 rw [Tryz.params5] at g hval
 obtain ⟨v0,I,d0,m,J,K,b,rfl,rfl,o,r⟩:=trodAll_cons g
 obtain ⟨v1,s,d1,u,L,M,rfl,rfl,rfl,w,x⟩:=trodAll_cons r
 obtain ⟨rfl,rfl,rfl⟩:=trodAll_nil x
 obtain rfl:args=#[v0,v1]:=by cases args;simp_all
 obtain ⟨rfl,rfl⟩:=trodVars_none i
 clear f
 obtain ⟨y,z,A,B,C,sz⟩:=R7 hL
 obtain ⟨root,q,n,c,rs,rfl,D,E,F⟩:=Fq (hval 0 34 v0 rfl rfl) o
 obtain ⟨G,rfl,rfl,rfl,h⟩:=open_int Tryz.underlying5 (hval 1 5 v1 rfl rfl) w
 have d:0<=G:=by
  simp only [Lit.wf,Bool.and_eq_true,decide_eq_true_eq] at h
  exact h.1
 exact Gn a rfl (by kernel_rfl) (by kernel_rfl) rfl (Tryz.jW A B C sz d F D E)
noncomputable def nP (os:Os):World:=World.laidAll Tryz.prog os Rows.cellsRefusesRow.laid
theorem Ey (os:Os):laidMet Tryz.prog Rows.cellsRefusesRow.laid ((nP os).forCall (fun _ _=>0) ⟨#[],#[.agg #[.int .i64 0,.slice none 0 0],.int .u8 0],[]⟩).memory:=
 laidMet_laidAll _ (by kernel_rfl) (by kernel_rfl)
theorem reads (os:Os){H:Type}(enc:TypeId×Value->H):∃places,DataW.whole enc Tryz.prog ((nP os).forCall (fun _ _=>0) ⟨#[],#[.agg #[.int .i64 0,.slice none 0 0],.int .u8 0],[]⟩).memory Tryz.f5.params.toList Rows.cellsRefusesSpec.vars false #[Value.agg #[.int .i64 0,.slice none 0 0],.int .u8 0].toList 8=some ([.agg [.lit (.int .i64 0),.nil],.lit (.int .u8 0)],[],places):=
 ⟨[],by kernel_rfl⟩
set_option maxRecDepth 100000 in
theorem lifted (os:Os)(started:os.Started)(H:Type)(enc:TypeId×Value->H)(F:Stop.Interp) :
  ReturnsInHanded {} Tryz.checked os 5 .any ((OpenSpec.ofChange Rows.cellsRefusesSpec).preRow enc Tryz.prog Tryz.f5 Rows.cellsRefusesRow.domain false Rows.cellsRefusesRow.laid) (((OpenSpec.ofChange Rows.cellsRefusesSpec).at F).post enc Tryz.prog Tryz.f5 false true false false):=by
 obtain ⟨places,b⟩:=reads os enc
 refine returnsInHanded_of_row (C:=Tryz.checked) (s:=OpenSpec.ofChange Rows.cellsRefusesSpec) own started (by kernel_rfl) Tryz.func5
  (witness_row_at (enc:=enc) (C:=Tryz.checked) false (nP os) #[.agg #[.int .i64 0,.slice none 0 0],.int .u8 0] (World.laidAll_os _ _ _) (by kernel_rfl) (by kernel_rfl) (by kernel_rfl)
   (OpenSpec.preRow_of_cond 8 b (by kernel_rfl) (fun k c=>by cases c) (by kernel_rfl) (Ey os))) ?_
 intro W base args d gs before a e _ _ _ f _ _
 exact D1 H enc W base args d gs before a e f
theorem said:Rows.CellsRefusesSaid:=
 OpenClaim.holds_of_cond 5 Tryz.f5 rfl rfl rfl rfl rfl rfl rfl ⟨rfl,rfl,rfl,rfl,rfl⟩ rfl rfl rfl rfl rfl (by kernel_rfl) Tryz.func5 (by kernel_rfl)
  (of_decide_eq_true (by kernel_rfl)) (by unfold Func.isWrapper;first|(rw [if_pos (by decide +kernel)];kernel_rfl)|(rw [if_neg (by decide +kernel)];exact ⟨rfl,rfl⟩))
  (fun os started H enc _ F=>by rw [OpenClaim.pre_eq_preRow];exact lifted os started H enc F)
theorem plain (f : FuncId)(fn : Func)(hf : Tryz.pinned.checked.prog.funcNamed "bspregion/bspregionlaw16.CellsRefuses" = some f)(hfn : Tryz.pinned.checked.prog.funcs[f]? = some fn) :
  true=Tryz.pinned.checked.prog.looks []/\∀(j:Nat) t,fn.params[j]?=some t->Tryz.pinned.checked.prog.wantsStandIn t=false:=by
 obtain rfl : f = 5 := Option.some.inj ((show Tryz.prog.funcNamed "bspregion/bspregionlaw16.CellsRefuses" = some 5 by kernel_rfl).symm.trans hf) |>.symm
 obtain rfl:fn=Tryz.f5:=(Option.some.inj (Tryz.func5.symm.trans hfn)).symm
 refine ⟨by kernel_rfl,fun j t ht=>?_⟩
 rw [Tryz.params5] at ht
 have ht:t=34\/t=5:=by simpa using Array.mem_of_getElem? ht
 rcases ht with rfl|rfl
 ·exact (show Tryz.prog.wantsStandIn 34=false by kernel_rfl)
 ·exact (show Tryz.prog.wantsStandIn 5=false by kernel_rfl)
end Go.Proofs.YtdhlkpfmlimjfaaGreatDoor.jm
namespace Go.Proofs.YtdhlkpfmlimjfaaGreatDoor
open Go.ChangeShapes Go.WideShapes Go.ChangeAt Go.RowKit Go.Eng
theorem cellsRefusesCardHolds:Rows.CellsRefusesCardSaid:=
 Claim7.holds_tied_plain_at .later [] _ _ _ _ jm.said (fun _ h=>by cases h) (by kernel_rfl) (fun _ h=>by cases h) cellsRefuses_row_tie rfl ⟨rfl,rfl⟩ (by kernel_rfl) rfl jm.plain (by kernel_rfl)
end Go.Proofs.YtdhlkpfmlimjfaaGreatDoor
