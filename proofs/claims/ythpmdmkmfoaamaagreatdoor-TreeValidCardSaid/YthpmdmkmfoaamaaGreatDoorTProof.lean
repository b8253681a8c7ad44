/- The law TreeValid (bspregionlaw14): for every input (a tree of package K4) the call returns true and the argument reads as it did. Condition: the package-level variables Dd and Eh read as the program's text lays them (the card ties this). -/
import Derived.Test.YthpmdmkmfoaamaaGreatDoorT9
import Derived.Test.YthpmdmkmfoaamaaGreatDoorT13
import Derived.Test.YthpmdmkmfoaamaaGreatDoorT14
set_option linter.unusedVariables false
open Go.IntKind (i64 u64 u32)
namespace Go.Proofs.YthpmdmkmfoaamaaGreatDoor.lH
open Go.ChangeShapes Go.WideShapes Go.ChangeAt Go.RowKit Go.bh
theorem Hg : Tryz.prog.globalNamed "bspregion/api.ErrInvalid" = some 0 := by kernel_rfl
theorem Hh : Tryz.prog.globalNamed "bspregion/api.ErrLimit" = some 1 := by kernel_rfl
theorem ID:(Tryz.prog.globals[0]?).map (·.type)=some 37:=by kernel_rfl
theorem IE:(Tryz.prog.globals[1]?).map (·.type)=some 37:=by kernel_rfl
theorem Mf {W:World}(h:laidMetH Tryz.prog Rows.treeValidRow.laid W):∃y z,Tryz.D_ (View.all W) y z:=by
 obtain ⟨a,ha⟩:=kF Hg ID (List.mem_cons_self ..) h
 obtain ⟨b,hb⟩:=kF Hh IE (List.mem_cons_of_mem _ (List.mem_cons_self ..)) h
 exact ⟨_,_,⟨fun h=>h,ha⟩,⟨fun h=>h,hb⟩,⟨a,rfl⟩,⟨b,rfl⟩⟩
set_option maxRecDepth 100000 in
theorem zP (H:Type)(enc:TypeId×Value->H)(W:World)(base:Nat)(args:Array Value)(ds gs:List (DataW H))(before:List MemPlace)
  (hval:∀(j:Nat) t v,Tryz.f8.params[j]?=some t->args[j]?=some v->Value.okWide Tryz.prog W .any base t v)
  (hW:DataW.Whole enc Tryz.prog Tryz.f8.params.toList Rows.treeValidSpec.vars false W args.toList ds gs before)(hL:laidMetH Tryz.prog Rows.treeValidRow.laid W) :
  Calls Tryz.prog 8 args W fun e W'=>∃v,e=.returned v/\Rows.treeValidSpec.post enc Tryz.prog Tryz.f8 false true false false W args v W':=by
 have hW':=hW
 obtain ⟨p,q,JH,hV,rfl,hfz,hnd⟩:=hW
 have hA:DataW.TrodAll enc Tryz.prog W 0 (fun _=>true) true Tryz.f8.params.toList args.toList ds p:=JH
 rw [Tryz.params8] at hA hval
 obtain ⟨v0,MV,d0,ds0,p0,q0,hargs,rfl,rfl,h0,r0⟩:=trodAll_cons hA
 obtain ⟨rfl,rfl,rfl⟩:=trodAll_nil r0
 obtain rfl:args=#[v0]:=by cases args;simp_all
 obtain ⟨rfl,rfl⟩:=trodVars_none hV
 clear JH
 obtain ⟨y,z,hs⟩:=Mf hL
 obtain ⟨root,q,n,c,rs,rfl,hc,hn,hr⟩:=Be (hval 0 42 v0 rfl rfl) h0
 exact B6 hW' rfl (by kernel_rfl) (by kernel_rfl) rfl (Tryz.kh hs hr hc hn)
noncomputable def lx (os:Os):World:=World.laidAll Tryz.prog os Rows.treeValidRow.laid
theorem An (os:Os):laidMet Tryz.prog Rows.treeValidRow.laid ((lx os).forCall (fun _ _=>0) ⟨#[],#[.agg #[.int .i64 0,.slice none 0 0]],[]⟩).memory:=
 laidMet_laidAll _ (by kernel_rfl) (by kernel_rfl)
theorem reads (os:Os){H:Type}(enc:TypeId×Value->H):∃places,DataW.whole enc Tryz.prog ((lx os).forCall (fun _ _=>0) ⟨#[],#[.agg #[.int .i64 0,.slice none 0 0]],[]⟩).memory Tryz.f8.params.toList Rows.treeValidSpec.vars false #[Value.agg #[.int .i64 0,.slice none 0 0]].toList 8=some ([.agg [.lit (.int .i64 0),.nil]],[],places):=
 ⟨[],by kernel_rfl⟩
set_option maxRecDepth 100000 in
theorem lifted (os:Os)(started:os.Started)(H:Type)(enc:TypeId×Value->H)(F:Stop.Interp) :
  ReturnsInHanded {} Tryz.checked os 8 .any ((OpenSpec.ofChange Rows.treeValidSpec).preRow enc Tryz.prog Tryz.f8 Rows.treeValidRow.domain false Rows.treeValidRow.laid) (((OpenSpec.ofChange Rows.treeValidSpec).at F).post enc Tryz.prog Tryz.f8 false true false false):=by
 obtain ⟨places,hx⟩:=reads os enc
 refine returnsInHanded_of_row (C:=Tryz.checked) (s:=OpenSpec.ofChange Rows.treeValidSpec) own started (by kernel_rfl) Tryz.func8
  (witness_row_at (enc:=enc) (C:=Tryz.checked) false (lx os) #[.agg #[.int .i64 0,.slice none 0 0]] (World.laidAll_os _ _ _) (by kernel_rfl) (by kernel_rfl) (by kernel_rfl)
   (OpenSpec.preRow_of_cond 8 hx (by kernel_rfl) (fun k hk=>by cases hk) (by kernel_rfl) (An os))) ?_
 intro W base args ds gs before hval hW _ _ _ hL _ _
 exact zP H enc W base args ds gs before hval hW hL
theorem said:Rows.TreeValidSaid:=
 OpenClaim.holds_of_cond 8 Tryz.f8 rfl rfl rfl rfl rfl rfl rfl ⟨rfl,rfl,rfl,rfl,rfl⟩ rfl rfl rfl rfl rfl (by kernel_rfl) Tryz.func8 (by kernel_rfl)
  (of_decide_eq_true (by kernel_rfl)) (by unfold Func.isWrapper;first|(rw [if_pos (by decide +kernel)];kernel_rfl)|(rw [if_neg (by decide +kernel)];exact ⟨rfl,rfl⟩))
  (fun os started H enc _ F=>by rw [OpenClaim.pre_eq_preRow];exact lifted os started H enc F)
theorem plain (f : FuncId)(fn : Func)(hf : Tryz.pinned.checked.prog.funcNamed "bspregion/bspregionlaw14.TreeValid" = some f)(hfn : Tryz.pinned.checked.prog.funcs[f]? = some fn) :
  true=Tryz.pinned.checked.prog.looks []/\∀(j:Nat) t,fn.params[j]?=some t->Tryz.pinned.checked.prog.wantsStandIn t=false:=by
 obtain rfl : f = 8 := Option.some.inj ((show Tryz.prog.funcNamed "bspregion/bspregionlaw14.TreeValid" = some 8 by kernel_rfl).symm.trans hf) |>.symm
 obtain rfl:fn=Tryz.f8:=(Option.some.inj (Tryz.func8.symm.trans hfn)).symm
 refine ⟨by kernel_rfl,fun j t ht=>?_⟩
 rw [Tryz.params8] at ht
 have ht:t=42:=by simpa using Array.mem_of_getElem? ht
 subst ht
 exact (show Tryz.prog.wantsStandIn 42=false by kernel_rfl)
end Go.Proofs.YthpmdmkmfoaamaaGreatDoor.lH
namespace Go.Proofs.YthpmdmkmfoaamaaGreatDoor
open Go.ChangeShapes Go.WideShapes Go.ChangeAt Go.RowKit Go.bh
theorem treeValidCardHolds:Rows.TreeValidCardSaid:=
 Claim7.holds_tied_plain_at .later [] _ _ _ _ lH.said (fun _ h=>by cases h) (by kernel_rfl) (fun _ h=>by cases h) treeValid_row_tie rfl ⟨rfl,rfl⟩ (by kernel_rfl) rfl lH.plain (by kernel_rfl)
end Go.Proofs.YthpmdmkmfoaamaaGreatDoor
