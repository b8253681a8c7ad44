/- The law LocateRefuses (bspregionlaw15): for every input (a tree and two points of package Ua) the call returns true and the arguments read as they did. Condition: the package-level variable Kb reads as the program's text lays it (the card ties this). -/
import Derived.Test.YthpmdmkmfoaamaaGreatDoorF10
import Derived.Test.YthpmdmkmfoaamaaGreatDoorF17
import Derived.Test.YthpmdmkmfoaamaaGreatDoorF18
set_option linter.unusedVariables false
open Go.IntKind (i64 u64 u32)
namespace Go.Proofs.YthpmdmkmfoaamaaGreatDoor.jD
open Go.ChangeShapes Go.WideShapes Go.ChangeAt Go.RowKit Go.bz
theorem PU : Tryz.prog.globalNamed "bspregion/api.ErrInvalid" = some 0 := by kernel_rfl
theorem Ry:(Tryz.prog.globals[0]?).map (·.type)=some 37:=by kernel_rfl
theorem VG {W:World}(h:laidMetH Tryz.prog Rows.locateRefusesRow.laid W):∃y,Tryz.rU (View.all W) 0 y/\Tryz.FD y:=by
 obtain ⟨a,ha⟩:=zL PU Ry (List.mem_cons_self ..) h
 exact ⟨_,⟨fun h=>h,ha⟩,⟨a,rfl⟩⟩
set_option maxRecDepth 100000 in
theorem F3 (H:Type)(enc:TypeId×Value->H)(W:World)(base:Nat)(args:Array Value)(ds gs:List (DataW H))(before:List MemPlace)
  (hval:∀(j:Nat) t v,Tryz.f7.params[j]?=some t->args[j]?=some v->Value.okWide Tryz.prog W .any base t v)
  (hW:DataW.Whole enc Tryz.prog Tryz.f7.params.toList Rows.locateRefusesSpec.vars false W args.toList ds gs before)(hL:laidMetH Tryz.prog Rows.locateRefusesRow.laid W) :
  Calls Tryz.prog 7 args W fun e W'=>∃v,e=.returned v/\Rows.locateRefusesSpec.post enc Tryz.prog Tryz.f7 false true false false W args v W':=by
 have hW':=hW
 obtain ⟨p,q,SK,hV,rfl,hfz,hnd⟩:=hW
 have hA:DataW.TrodAll enc Tryz.prog W 0 (fun _=>true) true Tryz.f7.params.toList args.toList ds p:=SK
 rw [Tryz.params7] at hA hval
 obtain ⟨v0,W0,d0,ds0,p0,q0,hargs,rfl,rfl,h0,r0⟩:=trodAll_cons hA
 obtain ⟨v1,vs1,d1,ds1,p1,q1,rfl,rfl,rfl,h1,r1⟩:=trodAll_cons r0
 obtain ⟨v2,vs2,d2,Wv,p2,q2,rfl,rfl,rfl,h2,r2⟩:=trodAll_cons r1
 obtain ⟨rfl,rfl,rfl⟩:=trodAll_nil r2
 obtain rfl:args=#[v0,v1,v2]:=by cases args;simp_all
 obtain ⟨rfl,rfl⟩:=trodVars_none hV
 clear SK
 obtain ⟨y,hs,hy⟩:=VG hL
 obtain ⟨root,q,n,c,rs,rfl,hc,hn,hr⟩:=HK (hval 0 42 v0 rfl rfl) h0
 obtain ⟨fp,hp⟩:=ye (hval 1 50 v1 rfl rfl) h1
 obtain ⟨fv,hv⟩:=ye (hval 2 50 v2 rfl rfl) h2
 exact I0 hW' rfl (by kernel_rfl) (by kernel_rfl) rfl (Tryz.lD hs hy hr hc hn hp hv)
noncomputable def qL (os:Os):World:=World.laidAll Tryz.prog os Rows.locateRefusesRow.laid
theorem GD (os:Os):laidMet Tryz.prog Rows.locateRefusesRow.laid ((qL os).forCall (fun _ _=>0) ⟨#[],#[.agg #[.int .i64 0,.slice none 0 0],.agg #[.bool false,.slice none 0 0,.slice none 0 0,.bool false,.slice none 0 0,.slice none 0 0],.agg #[.bool false,.slice none 0 0,.slice none 0 0,.bool false,.slice none 0 0,.slice none 0 0]],[]⟩).memory:=
 laidMet_laidAll _ (by kernel_rfl) (by kernel_rfl)
theorem reads (os:Os){H:Type}(enc:TypeId×Value->H):∃places,DataW.whole enc Tryz.prog ((qL os).forCall (fun _ _=>0) ⟨#[],#[.agg #[.int .i64 0,.slice none 0 0],.agg #[.bool false,.slice none 0 0,.slice none 0 0,.bool false,.slice none 0 0,.slice none 0 0],.agg #[.bool false,.slice none 0 0,.slice none 0 0,.bool false,.slice none 0 0,.slice none 0 0]],[]⟩).memory Tryz.f7.params.toList Rows.locateRefusesSpec.vars false #[Value.agg #[.int .i64 0,.slice none 0 0],.agg #[.bool false,.slice none 0 0,.slice none 0 0,.bool false,.slice none 0 0,.slice none 0 0],.agg #[.bool false,.slice none 0 0,.slice none 0 0,.bool false,.slice none 0 0,.slice none 0 0]].toList 8=some ([.agg [.lit (.int .i64 0),.nil],.agg [.agg [.agg [.lit (.bool false),.nil],.nil],.agg [.agg [.lit (.bool false),.nil],.nil]],.agg [.agg [.agg [.lit (.bool false),.nil],.nil],.agg [.agg [.lit (.bool false),.nil],.nil]]],[],places):=
 ⟨[],by kernel_rfl⟩
set_option maxRecDepth 100000 in
theorem lifted (os:Os)(started:os.Started)(H:Type)(enc:TypeId×Value->H)(F:Stop.Interp) :
  ReturnsInHanded {} Tryz.checked os 7 .any ((OpenSpec.ofChange Rows.locateRefusesSpec).preRow enc Tryz.prog Tryz.f7 Rows.locateRefusesRow.domain false Rows.locateRefusesRow.laid) (((OpenSpec.ofChange Rows.locateRefusesSpec).at F).post enc Tryz.prog Tryz.f7 false true false false):=by
 obtain ⟨places,hx⟩:=reads os enc
 refine returnsInHanded_of_row (C:=Tryz.checked) (s:=OpenSpec.ofChange Rows.locateRefusesSpec) own started (by kernel_rfl) Tryz.func7
  (witness_row_at (enc:=enc) (C:=Tryz.checked) false (qL os) #[.agg #[.int .i64 0,.slice none 0 0],.agg #[.bool false,.slice none 0 0,.slice none 0 0,.bool false,.slice none 0 0,.slice none 0 0],.agg #[.bool false,.slice none 0 0,.slice none 0 0,.bool false,.slice none 0 0,.slice none 0 0]] (World.laidAll_os _ _ _) (by kernel_rfl) (by kernel_rfl) (by kernel_rfl)
   (OpenSpec.preRow_of_cond 8 hx (by kernel_rfl) (fun k hk=>by cases hk) (by kernel_rfl) (GD os))) ?_
 intro W base args ds gs before hval hW _ _ _ hL _ _
 exact F3 H enc W base args ds gs before hval hW hL
theorem said:Rows.LocateRefusesSaid:=
 OpenClaim.holds_of_cond 7 Tryz.f7 rfl rfl rfl rfl rfl rfl rfl ⟨rfl,rfl,rfl,rfl,rfl⟩ rfl rfl rfl rfl rfl (by kernel_rfl) Tryz.func7 (by kernel_rfl)
  (of_decide_eq_true (by kernel_rfl)) (by unfold Func.isWrapper;first|(rw [if_pos (by decide +kernel)];kernel_rfl)|(rw [if_neg (by decide +kernel)];exact ⟨rfl,rfl⟩))
  (fun os started H enc _ F=>by rw [OpenClaim.pre_eq_preRow];exact lifted os started H enc F)
theorem plain (f : FuncId)(fn : Func)(hf : Tryz.pinned.checked.prog.funcNamed "bspregion/bspregionlaw15.LocateRefuses" = some f)(hfn : Tryz.pinned.checked.prog.funcs[f]? = some fn) :
  true=Tryz.pinned.checked.prog.looks []/\∀(j:Nat) t,fn.params[j]?=some t->Tryz.pinned.checked.prog.wantsStandIn t=false:=by
 obtain rfl : f = 7 := Option.some.inj ((show Tryz.prog.funcNamed "bspregion/bspregionlaw15.LocateRefuses" = some 7 by kernel_rfl).symm.trans hf) |>.symm
 obtain rfl:fn=Tryz.f7:=(Option.some.inj (Tryz.func7.symm.trans hfn)).symm
 refine ⟨by kernel_rfl,fun j t ht=>?_⟩
 rw [Tryz.params7] at ht
 have ht:t=42\/t=50:=by simpa using Array.mem_of_getElem? ht
 rcases ht with rfl|rfl
 ·exact (show Tryz.prog.wantsStandIn 42=false by kernel_rfl)
 ·exact (show Tryz.prog.wantsStandIn 50=false by kernel_rfl)
end Go.Proofs.YthpmdmkmfoaamaaGreatDoor.jD
namespace Go.Proofs.YthpmdmkmfoaamaaGreatDoor
open Go.ChangeShapes Go.WideShapes Go.ChangeAt Go.RowKit Go.bz
theorem locateRefusesCardHolds:Rows.LocateRefusesCardSaid:=
 Claim7.holds_tied_plain_at .later [] _ _ _ _ jD.said (fun _ h=>by cases h) (by kernel_rfl) (fun _ h=>by cases h) locateRefuses_row_tie rfl ⟨rfl,rfl⟩ (by kernel_rfl) rfl jD.plain (by kernel_rfl)
end Go.Proofs.YthpmdmkmfoaamaaGreatDoor
