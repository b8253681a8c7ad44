/- The law BoundaryClasses (bspregionlaw22): for every input (a slice of ints) the call returns true and the argument reads as it did. Condition: the package-level variables ErrInvalid and ErrLimit read as the program's text lays them (the card ties this). -/
import Derived.Test.YtdfckdifmjeieaaGreatDoorC25
set_option linter.all false
open Go.IntKind (i64 u64 u32)
namespace Go.Proofs.YtdfckdifmjeieaaGreatDoor.cG
open Go.ChangeShapes Go.WideShapes Go.ChangeAt Go.RowKit Go.Eng
def gInv : Tryz.prog.globalNamed "bspregion/api.ErrInvalid" = some 0 := by kernel_rfl
def gLim : Tryz.prog.globalNamed "bspregion/api.ErrLimit" = some 1 := by kernel_rfl
def tInv:(Tryz.prog.globals[0]?).map (·.type)=some 33:=ζ
def tLim:(Tryz.prog.globals[1]?).map (·.type)=some 33:=ζ
def snt {W:World}(h:laidMetH Tryz.prog Rows.boundaryClassesRow.laid W):∃y z,Tryz.tL (Ó.all W) 0 y/\Tryz.tL (Ó.all W) 1 z/\Tryz.SErr y/\Tryz.SErr z:=by have ⟨a,c⟩:=xr gInv tInv (ą ..) h;have ⟨b,d⟩:=xr gLim tLim (ø _ (ą ..)) h;exact ⟨_,_,⟨λh=>h,c⟩,⟨λh=>h,d⟩,⟨a,rfl⟩,⟨b,rfl⟩⟩
set_option maxRecDepth 100000 in
def Up (H:Type)(enc:TypeId×um->H)(W:World)(base:Nat)(args:Array um)(ds gs:zA (DataW H))(before:zA MemPlace)(hval:∀(j:Nat) t v,Tryz.f3.params[j]?=some t->args[j]?=some v->Value.okWide Tryz.prog W .any base t v)(E:DataW.Whole enc Tryz.prog Tryz.f3.params.toList Rows.boundaryClassesSpec.vars false W args.toList ds gs before)(F:laidMetH Tryz.prog Rows.boundaryClassesRow.laid W):Calls Tryz.prog 3 args W λe W'=>∃v,e=.returned v/\Rows.boundaryClassesSpec.post enc Tryz.prog Tryz.f3 false true false false W args v W':=by have b:=E;obtain ⟨p,q,a,f,rfl,g,h⟩:=E;have d:DataW.TrodAll enc Tryz.prog W 0 (λ_=>true) true Tryz.f3.params.toList args.toList ds p:=a;rw [Tryz.params3] at d hval;obtain ⟨v0,i,d0,k,u,w,c,rfl,rfl,l,m⟩:=trodAll_cons d;obtain ⟨rfl,rfl,rfl⟩:=trodAll_nil m;obtain rfl:args=#[v0]:=by{cases args;simp_all};obtain ⟨rfl,rfl⟩:=trodVars_none f;obtain ⟨x,A,lc,rfl⟩:=okWide_slice Tryz.underlying22 (hval 0 22 v0 rfl rfl);clear a;obtain ⟨y,z,n,o,B,sz⟩:=snt F;have ⟨r,s⟩:=LO l;exact YW b rfl ζ ζ rfl (Tryz.oe n o s r)
noncomputable def yI (os:Os):World:=World.laidAll Tryz.prog os Rows.boundaryClassesRow.laid
def Vc (os:Os):laidMet Tryz.prog Rows.boundaryClassesRow.laid ((yI os).forCall (λ_ _=>0) ⟨#[],#[.slice none 0 0],[]⟩).memory:=
 laidMet_laidAll _ ζ ζ
def reads (os:Os){H:Type}(enc:TypeId×um->H):∃places,DataW.whole enc Tryz.prog ((yI os).forCall (λ_ _=>0) ⟨#[],#[.slice none 0 0],[]⟩).memory Tryz.f3.params.toList Rows.boundaryClassesSpec.vars false #[Value.slice none 0 0].toList 8=some ([.nil],[],places):=
 ⟨[],ζ⟩
set_option maxRecDepth 100000 in
def lifted (os:Os)(started:os.Started)(H:Type)(enc:TypeId×um->H)(F:Stop.Interp):ReturnsInHanded {} Tryz.checked os 3 .any ((OpenSpec.ofChange Rows.boundaryClassesSpec).preRow enc Tryz.prog Tryz.f3 Rows.boundaryClassesRow.domain false Rows.boundaryClassesRow.laid) (((OpenSpec.ofChange Rows.boundaryClassesSpec).at F).post enc Tryz.prog Tryz.f3 false true false false):=by
 have ⟨places,b⟩:=reads os enc
 refine returnsInHanded_of_row (C:=Tryz.checked) (s:=OpenSpec.ofChange Rows.boundaryClassesSpec) own started ζ Tryz.func3
  (witness_row_at (enc:=enc) (C:=Tryz.checked) false (yI os) #[.slice none 0 0] (World.laidAll_os _ _ _) ζ ζ ζ
   (OpenSpec.preRow_of_cond 8 b ζ (λk c=>by cases c) ζ (Vc os))) ?_
 intro W base args d gs before a e _ _ _ f _ _;exact Up H enc W base args d gs before a e f
def iA {a b:ut}(h:a=true)(u:b=true):(a&&b)=true:=by rw [h,u];rfl
set_option maxRecDepth 100000 in
def closed:joinedFacts Tryz.pinned.checked.prog 3 Tryz.f3 (OpenSpec.ofChange Rows.boundaryClassesSpec).bare Rows.boundaryClassesRow=true:=iA (iA (iA (iA (iA (iA (iA (iA (iA (iA (iA (iA (iA (iA (iA (iA (iA (iA (iA (iA (iA (iA (iA (iA (iA (iA (iA (iA (iA (iA (iA (fact0) fact1) fact2) fact3) fact4) fact5) fact6) fact7) fact8) fact9) fact10) fact11) fact12) fact13) fact14) fact15) fact16) fact17) fact18) fact19) fact20) fact21) fact22) fact23) fact24) fact25) fact26) fact27) fact28) fact29) fact30) fact31
def said:Rows.BoundaryClassesSaid:=
 OpenClaim.holds_of_cond 3 Tryz.f3 rfl rfl rfl rfl rfl rfl rfl ⟨rfl,rfl,rfl,rfl,rfl⟩ rfl rfl rfl rfl rfl ζ Tryz.func3 closed
  (Á ζ) (by unfold Func.isWrapper;first|(rw [Ä κ];kernel_rfl)|(rw [Ã κ];exact ⟨rfl,rfl⟩))
  (λos started H enc _ F=>by rw [OpenClaim.pre_eq_preRow];exact lifted os started H enc F)
def plain (f : FuncId)(fn : Func)(y : Tryz.pinned.checked.prog.funcNamed "bspregion/bspregionlaw22.BoundaryClasses" = some f)(hfn : Tryz.pinned.checked.prog.funcs[f]? = some fn):false=Tryz.pinned.checked.prog.looks []/\∀(j:Nat) t,fn.params[j]?=some t->Tryz.pinned.checked.prog.wantsStandIn t=false:=by
 obtain rfl : f=3 := ő ((show Tryz.prog.funcNamed "bspregion/bspregionlaw22.BoundaryClasses" = some 3 by kernel_rfl).symm.m y) |>.symm
 obtain rfl:fn=Tryz.f3:=(ő (Tryz.func3.symm.m hfn)).symm;refine ⟨ζ,λj t u=>?_⟩;rw [Tryz.params3] at u;have u:t=22:=by simpa using Array.mem_of_getElem? u
 subst u;exact (show Tryz.prog.wantsStandIn 22=false by kernel_rfl)
end Go.Proofs.YtdfckdifmjeieaaGreatDoor.cG
namespace Go.Proofs.YtdfckdifmjeieaaGreatDoor
open Go.ChangeShapes Go.WideShapes Go.ChangeAt Go.RowKit Go.Eng
theorem boundaryClassesCardHolds:Rows.BoundaryClassesCardSaid:=
 Claim7.holds_tied_plain_at .later [] _ _ _ _ cG.said Ŭ ζ Ŭ boundaryClasses_row_tie rfl ⟨rfl,rfl⟩ ζ rfl cG.plain cG.goes
end Go.Proofs.YtdfckdifmjeieaaGreatDoor
