/- The law TreeSpoilt (bspregionlaw14): for every input (a slice of ints and two ints) the call returns true and the arguments read as it did. Condition: the package-level variables D3 and Fb read as the program's text lays them (the card ties this). -/
import Derived.Test.YthpmdmkmfoaamaaGreatDoorS8
import Derived.Test.YthpmdmkmfoaamaaGreatDoorS14
set_option linter.unusedVariables false
open Go.IntKind (i64 u64 u32)
namespace Go.Proofs.YthpmdmkmfoaamaaGreatDoor.j_
open Go.ChangeShapes Go.WideShapes Go.ChangeAt Go.RowKit Go.br
theorem Io : Tryz.prog.globalNamed "bspregion/api.ErrInvalid" = some 0 := by kernel_rfl
theorem Ip : Tryz.prog.globalNamed "bspregion/api.ErrLimit" = some 1 := by kernel_rfl
theorem JP:(Tryz.prog.globals[0]?).map (·.type)=some 37:=by kernel_rfl
theorem JQ:(Tryz.prog.globals[1]?).map (·.type)=some 37:=by kernel_rfl
theorem Nt {W:World}(h:laidMetH Tryz.prog Rows.treeSpoiltRow.laid W):∃y z,Tryz.D_ (View.all W) y z:=by
 obtain ⟨a,ha⟩:=kS Io JP (List.mem_cons_self ..) h
 obtain ⟨b,hb⟩:=kS Ip JQ (List.mem_cons_of_mem _ (List.mem_cons_self ..)) h
 exact ⟨_,_,⟨fun h=>h,ha⟩,⟨fun h=>h,hb⟩,⟨a,rfl⟩,⟨b,rfl⟩⟩
set_option maxRecDepth 100000 in
theorem AG (H:Type)(enc:TypeId×Value->H)(W:World)(base:Nat)(args:Array Value)(ds gs:List (DataW H))(before:List MemPlace)
  (hval:∀(j:Nat) t v,Tryz.f9.params[j]?=some t->args[j]?=some v->Value.okWide Tryz.prog W .any base t v)
  (hW:DataW.Whole enc Tryz.prog Tryz.f9.params.toList Rows.treeSpoiltSpec.vars false W args.toList ds gs before)(hL:laidMetH Tryz.prog Rows.treeSpoiltRow.laid W) :
  Calls Tryz.prog 9 args W fun e W'=>∃v,e=.returned v/\Rows.treeSpoiltSpec.post enc Tryz.prog Tryz.f9 false true false false W args v W':=by
 have hW':=hW
 obtain ⟨p,q,HH,hV,rfl,hfz,hnd⟩:=hW
 have hA:DataW.TrodAll enc Tryz.prog W 0 (fun _=>true) true Tryz.f9.params.toList args.toList ds p:=HH
 rw [Tryz.params9] at hA hval
 obtain ⟨v0,Oe,d0,ds0,p0,q0,hargs,rfl,rfl,h0,r0⟩:=trodAll_cons hA
 obtain ⟨v1,vs1,d1,ds1,p1,q1,rfl,rfl,rfl,h1,r1⟩:=trodAll_cons r0
 obtain ⟨v2,vs2,d2,NV,p2,q2,rfl,rfl,rfl,h2,r2⟩:=trodAll_cons r1
 obtain ⟨rfl,rfl,rfl⟩:=trodAll_nil r2
 obtain rfl:args=#[v0,v1,v2]:=by cases args;simp_all
 obtain ⟨rfl,rfl⟩:=trodVars_none hV
 obtain ⟨lp,ln,lc,rfl⟩:=okWide_slice Tryz.underlying22 (hval 0 22 v0 rfl rfl)
 obtain ⟨a1,rfl,rfl,rfl,w1⟩:=open_int Tryz.underlying3 (hval 1 3 v1 rfl rfl) h1
 obtain ⟨a2,rfl,rfl,rfl,w2⟩:=open_int Tryz.underlying3 (hval 2 3 v2 rfl rfl) h2
 clear HH
 obtain ⟨y,z,hs⟩:=Nt hL
 obtain ⟨hc,hr⟩:=vC h0
 exact CS hW' rfl (by kernel_rfl) (by kernel_rfl) rfl (Tryz.jM hs hr hc a1 a2)
noncomputable def lO (os:Os):World:=World.laidAll Tryz.prog os Rows.treeSpoiltRow.laid
theorem A_ (os:Os):laidMet Tryz.prog Rows.treeSpoiltRow.laid ((lO os).forCall (fun _ _=>0) ⟨#[],#[.slice none 0 0,.int .i64 0,.int .i64 0],[]⟩).memory:=
 laidMet_laidAll _ (by kernel_rfl) (by kernel_rfl)
theorem reads (os:Os){H:Type}(enc:TypeId×Value->H):∃places,DataW.whole enc Tryz.prog ((lO os).forCall (fun _ _=>0) ⟨#[],#[.slice none 0 0,.int .i64 0,.int .i64 0],[]⟩).memory Tryz.f9.params.toList Rows.treeSpoiltSpec.vars false #[Value.slice none 0 0,Value.int .i64 0,Value.int .i64 0].toList 8=some ([.nil,.lit (.int .i64 0),.lit (.int .i64 0)],[],places):=
 ⟨[],by kernel_rfl⟩
set_option maxRecDepth 100000 in
theorem lifted (os:Os)(started:os.Started)(H:Type)(enc:TypeId×Value->H)(F:Stop.Interp) :
  ReturnsInHanded {} Tryz.checked os 9 .any ((OpenSpec.ofChange Rows.treeSpoiltSpec).preRow enc Tryz.prog Tryz.f9 Rows.treeSpoiltRow.domain false Rows.treeSpoiltRow.laid) (((OpenSpec.ofChange Rows.treeSpoiltSpec).at F).post enc Tryz.prog Tryz.f9 false true false false):=by
 obtain ⟨places,hx⟩:=reads os enc
 refine returnsInHanded_of_row (C:=Tryz.checked) (s:=OpenSpec.ofChange Rows.treeSpoiltSpec) own started (by kernel_rfl) Tryz.func9
  (witness_row_at (enc:=enc) (C:=Tryz.checked) false (lO os) #[.slice none 0 0,.int .i64 0,.int .i64 0] (World.laidAll_os _ _ _) (by kernel_rfl) (by kernel_rfl) (by kernel_rfl)
   (OpenSpec.preRow_of_cond 8 hx (by kernel_rfl) (fun k hk=>by cases hk) (by kernel_rfl) (A_ os))) ?_
 intro W base args ds gs before hval hW _ _ _ hL _ _
 exact AG H enc W base args ds gs before hval hW hL
theorem said:Rows.TreeSpoiltSaid:=
 OpenClaim.holds_of_cond 9 Tryz.f9 rfl rfl rfl rfl rfl rfl rfl ⟨rfl,rfl,rfl,rfl,rfl⟩ rfl rfl rfl rfl rfl (by kernel_rfl) Tryz.func9 (by kernel_rfl)
  (of_decide_eq_true (by kernel_rfl)) (by unfold Func.isWrapper;first|(rw [if_pos (by decide +kernel)];kernel_rfl)|(rw [if_neg (by decide +kernel)];exact ⟨rfl,rfl⟩))
  (fun os started H enc _ F=>by rw [OpenClaim.pre_eq_preRow];exact lifted os started H enc F)
theorem plain (f : FuncId)(fn : Func)(hf : Tryz.pinned.checked.prog.funcNamed "bspregion/bspregionlaw14.TreeSpoilt" = some f)(hfn : Tryz.pinned.checked.prog.funcs[f]? = some fn) :
  true=Tryz.pinned.checked.prog.looks []/\∀(j:Nat) t,fn.params[j]?=some t->Tryz.pinned.checked.prog.wantsStandIn t=false:=by
 obtain rfl : f = 9 := Option.some.inj ((show Tryz.prog.funcNamed "bspregion/bspregionlaw14.TreeSpoilt" = some 9 by kernel_rfl).symm.trans hf) |>.symm
 obtain rfl:fn=Tryz.f9:=(Option.some.inj (Tryz.func9.symm.trans hfn)).symm
 refine ⟨by kernel_rfl,fun j t ht=>?_⟩
 rw [Tryz.params9] at ht
 have ht:t=22\/t=3:=by simpa using Array.mem_of_getElem? ht
 rcases ht with rfl|rfl
 ·exact (show Tryz.prog.wantsStandIn 22=false by kernel_rfl)
 ·exact (show Tryz.prog.wantsStandIn 3=false by kernel_rfl)
end Go.Proofs.YthpmdmkmfoaamaaGreatDoor.j_
namespace Go.Proofs.YthpmdmkmfoaamaaGreatDoor
open Go.ChangeShapes Go.WideShapes Go.ChangeAt Go.RowKit Go.br
theorem treeSpoiltCardHolds:Rows.TreeSpoiltCardSaid:=
 Claim7.holds_tied_plain_at .later [] _ _ _ _ j_.said (fun _ h=>by cases h) (by kernel_rfl) (fun _ h=>by cases h) treeSpoilt_row_tie rfl ⟨rfl,rfl⟩ (by kernel_rfl) rfl j_.plain (by kernel_rfl)
end Go.Proofs.YthpmdmkmfoaamaaGreatDoor
