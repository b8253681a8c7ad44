/- The law BoundaryLines (bspregionlaw22): for every input (a slice of ints) the call returns true and the argument reads as it did. Condition: the package-level variables ErrInvalid and ErrLimit read as the program's text lays them (the card ties this). -/
import Derived.Test.YtlhmddanbgcbjaaGreatDoorL11
import Derived.Test.YtlhmddanbgcbjaaGreatDoorL22
import Derived.Test.YtlhmddanbgcbjaaGreatDoorL23
set_option linter.all false
open Go.IntKind (i64 u64 u32)
namespace Go.Proofs.YtlhmddanbgcbjaaGreatDoor.cj
open Go.ChangeShapes Go.WideShapes Go.ChangeAt Go.RowKit Go.Eng
def gInv : Tryz.prog.globalNamed "bspregion/api.ErrInvalid" = some 0 := by kernel_rfl
def gLim : Tryz.prog.globalNamed "bspregion/api.ErrLimit" = some 1 := by kernel_rfl
def tInv:(Tryz.prog.globals[0]?).map (·.type)=some 40:=by kernel_rfl
def tLim:(Tryz.prog.globals[1]?).map (·.type)=some 40:=by kernel_rfl
def snt {W:World}(h:laidMetH Tryz.prog Rows.boundaryLinesRow.laid W):∃y z,Tryz.rY (View.all W) 0 y/\Tryz.rY (View.all W) 1 z/\Tryz.Zy y/\Tryz.Zy z:=by have ⟨a,c⟩:=uS gInv tInv (Qw5 ..) h;have ⟨b,d⟩:=uS gLim tLim (Qq8 _ (Qw5 ..)) h;exact ⟨_,_,⟨λh=>h,c⟩,⟨λh=>h,d⟩,⟨a,rfl⟩,⟨b,rfl⟩⟩
set_option maxRecDepth 100000 in
def P_ (H:Type)(enc:TypeId×un->H)(W:World)(base:Nat)(args:Array un)(ds gs:pz (DataW H))(before:pz MemPlace)
  (hval:∀(j:Nat) t v,Tryz.f3.params[j]?=some t->args[j]?=some v->Value.okWide Tryz.prog W .any base t v)
  (hW:DataW.Whole enc Tryz.prog Tryz.f3.params.toList Rows.boundaryLinesSpec.vars false W args.toList ds gs before)(hL:laidMetH Tryz.prog Rows.boundaryLinesRow.laid W) :
  Calls Tryz.prog 3 args W λe W'=>∃v,e=.returned v/\Rows.boundaryLinesSpec.post enc Tryz.prog Tryz.f3 false true false false W args v W':=by have b:=hW;obtain ⟨p,q,a,f,rfl,g,h⟩:=hW;have d:DataW.TrodAll enc Tryz.prog W 0 (λ_=>true) true Tryz.f3.params.toList args.toList ds p:=a;rw [Tryz.params3] at d hval;obtain ⟨v0,i,d0,k,u,w,c,rfl,rfl,l,m⟩:=trodAll_cons d;obtain ⟨rfl,rfl,rfl⟩:=trodAll_nil m;obtain rfl:args=#[v0]:=by{cases args;simp_all};obtain ⟨rfl,rfl⟩:=trodVars_none f;obtain ⟨x,A,lc,rfl⟩:=okWide_slice Tryz.underlying22 (hval 0 22 v0 rfl rfl);clear a;have ⟨y,z,n,o,B,sz⟩:=snt hL;have ⟨r,s⟩:=I4 l;exact Uy b rfl (by kernel_rfl) (by kernel_rfl) rfl (Tryz.oX n o s r)
noncomputable def wE (os:Os):World:=World.laidAll Tryz.prog os Rows.boundaryLinesRow.laid
def Re (os:Os):laidMet Tryz.prog Rows.boundaryLinesRow.laid ((wE os).forCall (λ_ _=>0) ⟨#[],#[.slice none 0 0],[]⟩).memory:=
 laidMet_laidAll _ (by kernel_rfl) (by kernel_rfl)
def reads (os:Os){H:Type}(enc:TypeId×un->H):∃places,DataW.whole enc Tryz.prog ((wE os).forCall (λ_ _=>0) ⟨#[],#[.slice none 0 0],[]⟩).memory Tryz.f3.params.toList Rows.boundaryLinesSpec.vars false #[Value.slice none 0 0].toList 8=some ([.nil],[],places):=
 ⟨[],by kernel_rfl⟩
set_option maxRecDepth 100000 in
def lifted (os:Os)(started:os.Started)(H:Type)(enc:TypeId×un->H)(F:Stop.Interp) :
  ReturnsInHanded {} Tryz.checked os 3 .any ((OpenSpec.ofChange Rows.boundaryLinesSpec).preRow enc Tryz.prog Tryz.f3 Rows.boundaryLinesRow.domain false Rows.boundaryLinesRow.laid) (((OpenSpec.ofChange Rows.boundaryLinesSpec).at F).post enc Tryz.prog Tryz.f3 false true false false):=by
 have ⟨places,b⟩:=reads os enc
 refine returnsInHanded_of_row (C:=Tryz.checked) (s:=OpenSpec.ofChange Rows.boundaryLinesSpec) own started (by kernel_rfl) Tryz.func3
  (witness_row_at (enc:=enc) (C:=Tryz.checked) false (wE os) #[.slice none 0 0] (World.laidAll_os _ _ _) (by kernel_rfl) (by kernel_rfl) (by kernel_rfl)
   (OpenSpec.preRow_of_cond 8 b (by kernel_rfl) (λk c=>by cases c) (by kernel_rfl) (Re os))) ?_
 intro W base args d gs before a e _ _ _ f _ _;exact P_ H enc W base args d gs before a e f
def ie {a b:md}(h:a=true)(h':b=true):(a&&b)=true:=by rw [h,h'];rfl
set_option maxRecDepth 100000 in
def closed:joinedFacts Tryz.pinned.checked.prog 3 Tryz.f3 (OpenSpec.ofChange Rows.boundaryLinesSpec).bare Rows.boundaryLinesRow=true:=ie (ie (ie (ie (ie (ie (ie (ie (ie (ie (ie (ie (ie (ie (ie (ie (ie (ie (ie (ie (ie (ie (ie (ie (ie (ie (ie (ie (ie (ie (ie (fact0) fact1) fact2) fact3) fact4) fact5) fact6) fact7) fact8) fact9) XB) XC) XD) XE) XF) XG) XH) XI) XJ) XK) XL) XM) XN) XO) XP) XQ) XR) XS) XT) XU) XV) XW
def said:Rows.BoundaryLinesSaid:=
 OpenClaim.holds_of_cond 3 Tryz.f3 rfl rfl rfl rfl rfl rfl rfl ⟨rfl,rfl,rfl,rfl,rfl⟩ rfl rfl rfl rfl rfl (by kernel_rfl) Tryz.func3 closed
  (of_decide_eq_true (by kernel_rfl)) (by unfold Func.isWrapper;first|(rw [if_pos (by decide +kernel)];kernel_rfl)|(rw [if_neg (by decide +kernel)];exact ⟨rfl,rfl⟩))
  (λos started H enc _ F=>by rw [OpenClaim.pre_eq_preRow];exact lifted os started H enc F)
def plain (f : FuncId)(fn : Func)(hf : Tryz.pinned.checked.prog.funcNamed "bspregion/bspregionlaw22.BoundaryLines" = some f)(hfn : Tryz.pinned.checked.prog.funcs[f]? = some fn) :
  false=Tryz.pinned.checked.prog.looks []/\∀(j:Nat) t,fn.params[j]?=some t->Tryz.pinned.checked.prog.wantsStandIn t=false:=by
 obtain rfl : f = 3 := Qb8 ((show Tryz.prog.funcNamed "bspregion/bspregionlaw22.BoundaryLines" = some 3 by kernel_rfl).symm.m hf) |>.symm
 obtain rfl:fn=Tryz.f3:=(Qb8 (Tryz.func3.symm.m hfn)).symm;refine ⟨by kernel_rfl,λj t ht=>?_⟩;rw [Tryz.params3] at ht;have ht:t=22:=by simpa using Array.mem_of_getElem? ht
 subst ht;exact (show Tryz.prog.wantsStandIn 22=false by kernel_rfl)
end Go.Proofs.YtlhmddanbgcbjaaGreatDoor.cj
namespace Go.Proofs.YtlhmddanbgcbjaaGreatDoor
open Go.ChangeShapes Go.WideShapes Go.ChangeAt Go.RowKit Go.Eng
theorem boundaryLinesCardHolds:Rows.BoundaryLinesCardSaid:=
 Claim7.holds_tied_plain_at .later [] _ _ _ _ cj.said (λ_ h=>by cases h) (by kernel_rfl) (λ_ h=>by cases h) boundaryLines_row_tie rfl ⟨rfl,rfl⟩ (by kernel_rfl) rfl cj.plain cj.goes
end Go.Proofs.YtlhmddanbgcbjaaGreatDoor
