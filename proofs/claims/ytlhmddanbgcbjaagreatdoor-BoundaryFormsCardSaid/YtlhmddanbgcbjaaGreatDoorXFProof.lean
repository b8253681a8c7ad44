/- The law BoundaryForms (bspregionlaw22): for every input (a slice of ints) the call returns true and the argument reads as it did. Condition: the package-level variables ErrInvalid and ErrLimit read as the program's text lays them (the card ties this). -/
import Derived.Test.YtlhmddanbgcbjaaGreatDoorF23
set_option linter.all false
open Go.IntKind (i64 u64 u32)
namespace Go.Proofs.YtlhmddanbgcbjaaGreatDoor.dD
open Go.ChangeShapes Go.WideShapes Go.ChangeAt Go.RowKit Go.Eng
def gInv : Tryz.prog.globalNamed "bspregion/api.ErrInvalid" = some 0 := by kernel_rfl
def gLim : Tryz.prog.globalNamed "bspregion/api.ErrLimit" = some 1 := by kernel_rfl
def tInv:(Tryz.prog.globals[0]?).map (·.type)=some 40:=ζ
def tLim:(Tryz.prog.globals[1]?).map (·.type)=some 40:=ζ
def snt {W:World}(h:laidMetH Tryz.prog Rows.boundaryFormsRow.laid W):∃y z,Tryz.tv (Ó.all W) 0 y/\Tryz.tv (Ó.all W) 1 z/\Tryz.SErr y/\Tryz.SErr z:=by have ⟨a,c⟩:=vM gInv tInv (þ ..) h;have ⟨b,d⟩:=vM gLim tLim (ó _ (þ ..)) h;exact ⟨_,_,⟨λh=>h,c⟩,⟨λh=>h,d⟩,⟨a,rfl⟩,⟨b,rfl⟩⟩
set_option maxRecDepth 100000 in
def Sm (H:Type)(enc:TypeId×un->H)(W:World)(base:Nat)(args:Array un)(ds gs:pz (DataW H))(before:pz MemPlace)(hval:∀(j:Nat) t v,Tryz.f4.params[j]?=some t->args[j]?=some v->Value.okWide Tryz.prog W .any base t v)(hW:DataW.Whole enc Tryz.prog Tryz.f4.params.toList Rows.boundaryFormsSpec.vars false W args.toList ds gs before)(hL:laidMetH Tryz.prog Rows.boundaryFormsRow.laid W):Calls Tryz.prog 4 args W λe W'=>∃v,e=.returned v/\Rows.boundaryFormsSpec.post enc Tryz.prog Tryz.f4 false true false false W args v W':=by have b:=hW;obtain ⟨p,q,a,f,rfl,g,h⟩:=hW;have d:DataW.TrodAll enc Tryz.prog W 0 (λ_=>true) true Tryz.f4.params.toList args.toList ds p:=a;rw [Tryz.params4] at d hval;obtain ⟨v0,i,d0,k,u,w,c,rfl,rfl,l,m⟩:=trodAll_cons d;obtain ⟨rfl,rfl,rfl⟩:=trodAll_nil m;obtain rfl:args=#[v0]:=by{cases args;simp_all};obtain ⟨rfl,rfl⟩:=trodVars_none f;obtain ⟨x,A,lc,rfl⟩:=okWide_slice Tryz.underlying22 (hval 0 22 v0 rfl rfl);clear a;have ⟨y,z,n,o,B,sz⟩:=snt hL;have ⟨r,s⟩:=Ko l;exact WS b rfl ζ ζ rfl (Tryz.pN n o s r)
noncomputable def xC (os:Os):World:=World.laidAll Tryz.prog os Rows.boundaryFormsRow.laid
def Tn (os:Os):laidMet Tryz.prog Rows.boundaryFormsRow.laid ((xC os).forCall (λ_ _=>0) ⟨#[],#[.slice none 0 0],[]⟩).memory:=
 laidMet_laidAll _ ζ ζ
def reads (os:Os){H:Type}(enc:TypeId×un->H):∃places,DataW.whole enc Tryz.prog ((xC os).forCall (λ_ _=>0) ⟨#[],#[.slice none 0 0],[]⟩).memory Tryz.f4.params.toList Rows.boundaryFormsSpec.vars false #[Value.slice none 0 0].toList 8=some ([.nil],[],places):=
 ⟨[],ζ⟩
set_option maxRecDepth 100000 in
def lifted (os:Os)(started:os.Started)(H:Type)(enc:TypeId×un->H)(F:Stop.Interp):ReturnsInHanded {} Tryz.checked os 4 .any ((OpenSpec.ofChange Rows.boundaryFormsSpec).preRow enc Tryz.prog Tryz.f4 Rows.boundaryFormsRow.domain false Rows.boundaryFormsRow.laid) (((OpenSpec.ofChange Rows.boundaryFormsSpec).at F).post enc Tryz.prog Tryz.f4 false true false false):=by
 have ⟨places,b⟩:=reads os enc
 refine returnsInHanded_of_row (C:=Tryz.checked) (s:=OpenSpec.ofChange Rows.boundaryFormsSpec) own started ζ Tryz.func4
  (witness_row_at (enc:=enc) (C:=Tryz.checked) false (xC os) #[.slice none 0 0] (World.laidAll_os _ _ _) ζ ζ ζ
   (OpenSpec.preRow_of_cond 8 b ζ (λk c=>by cases c) ζ (Tn os))) ?_
 intro W base args d gs before a e _ _ _ f _ _;exact Sm H enc W base args d gs before a e f
def ig {a b:md}(h:a=true)(h':b=true):(a&&b)=true:=by rw [h,h'];rfl
set_option maxRecDepth 100000 in
def closed:joinedFacts Tryz.pinned.checked.prog 4 Tryz.f4 (OpenSpec.ofChange Rows.boundaryFormsSpec).bare Rows.boundaryFormsRow=true:=ig (ig (ig (ig (ig (ig (ig (ig (ig (ig (ig (ig (ig (ig (ig (ig (ig (ig (ig (ig (ig (ig (ig (ig (ig (ig (ig (ig (ig (ig (ig (fact0) fact1) fact2) fact3) fact4) fact5) fact6) fact7) fact8) fact9) ZE) ZF) ZG) ZH) ZI) ZJ) ZK) ZL) ZM) ZN) ZO) ZP) ZQ) ZR) ZS) ZT) ZU) ZV) ZW) ZX) ZY) ZZ
def said:Rows.BoundaryFormsSaid:=
 OpenClaim.holds_of_cond 4 Tryz.f4 rfl rfl rfl rfl rfl rfl rfl ⟨rfl,rfl,rfl,rfl,rfl⟩ rfl rfl rfl rfl rfl ζ Tryz.func4 closed
  (Á ζ) (by unfold Func.isWrapper;first|(rw [Ä ξ];kernel_rfl)|(rw [Ã ξ];exact ⟨rfl,rfl⟩))
  (λos started H enc _ F=>by rw [OpenClaim.pre_eq_preRow];exact lifted os started H enc F)
def plain (f : FuncId)(fn : Func)(hf : Tryz.pinned.checked.prog.funcNamed "bspregion/bspregionlaw22.BoundaryForms" = some f)(hfn : Tryz.pinned.checked.prog.funcs[f]? = some fn):false=Tryz.pinned.checked.prog.looks []/\∀(j:Nat) t,fn.params[j]?=some t->Tryz.pinned.checked.prog.wantsStandIn t=false:=by
 obtain rfl : f = 4 := ŏ ((show Tryz.prog.funcNamed "bspregion/bspregionlaw22.BoundaryForms" = some 4 by kernel_rfl).symm.m hf) |>.symm
 obtain rfl:fn=Tryz.f4:=(ŏ (Tryz.func4.symm.m hfn)).symm;refine ⟨ζ,λj t ht=>?_⟩;rw [Tryz.params4] at ht;have ht:t=22:=by simpa using Array.mem_of_getElem? ht
 subst ht;exact (show Tryz.prog.wantsStandIn 22=false by kernel_rfl)
end Go.Proofs.YtlhmddanbgcbjaaGreatDoor.dD
namespace Go.Proofs.YtlhmddanbgcbjaaGreatDoor
open Go.ChangeShapes Go.WideShapes Go.ChangeAt Go.RowKit Go.Eng
theorem boundaryFormsCardHolds:Rows.BoundaryFormsCardSaid:=
 Claim7.holds_tied_plain_at .later [] _ _ _ _ dD.said ţ ζ ţ boundaryForms_row_tie rfl ⟨rfl,rfl⟩ ζ rfl dD.plain dD.goes
end Go.Proofs.YtlhmddanbgcbjaaGreatDoor
