/- The law BoundaryRefuses (bspregionlaw22): for every input (a slice of ints, a line of package api, an int) the call returns true and the arguments read as they did. Condition: the package-level variables WX and Zq read as the program's text lays them (the card ties this). -/
import Derived.Test.YtckenacdnbolaaaGreatDoorR11
import Derived.Test.YtckenacdnbolaaaGreatDoorR16
import Derived.Test.YtckenacdnbolaaaGreatDoorR22
set_option linter.all false
open Go.IntKind (i64 u64 u32)
namespace Go.Proofs.YtckenacdnbolaaaGreatDoor.cB
open Go.ChangeShapes Go.WideShapes Go.ChangeAt Go.RowKit Go.Eng
def gInv : Tryz.prog.globalNamed "bspregion/api.ErrInvalid" = some 0 := by kernel_rfl
def gLim : Tryz.prog.globalNamed "bspregion/api.ErrLimit" = some 1 := by kernel_rfl
def tInv:(Tryz.prog.globals[0]?).map (·.type)=some 40:=by kernel_rfl
def tLim:(Tryz.prog.globals[1]?).map (·.type)=some 40:=by kernel_rfl
def snt {W:World}(h:laidMetH Tryz.prog Rows.boundaryRefusesRow.laid W):∃y z,Tryz.mc (View.all W) 0 y/\Tryz.mc (View.all W) 1 z/\Tryz.G0 y/\Tryz.G0 z:=by
 have ⟨a,c⟩:=uE gInv tInv (Qw6 ..) h;have ⟨b,d⟩:=uE gLim tLim (Qq8 _ (Qw6 ..)) h;exact ⟨_,_,⟨λh=>h,c⟩,⟨λh=>h,d⟩,⟨a,rfl⟩,⟨b,rfl⟩⟩
set_option maxRecDepth 100000 in
def PQ (H:Type)(enc:TypeId×un->H)(W:World)(base:Nat)(args:Array un)(ds gs:pz (DataW H))(before:pz MemPlace)
  (hval:∀(j:Nat) t v,Tryz.f4.params[j]?=some t->args[j]?=some v->Value.okWide Tryz.prog W .any base t v)
  (hW:DataW.Whole enc Tryz.prog Tryz.f4.params.toList Rows.boundaryRefusesSpec.vars false W args.toList ds gs before)(hL:laidMetH Tryz.prog Rows.boundaryRefusesRow.laid W) :
  Calls Tryz.prog 4 args W λe W'=>∃v,e=.returned v/\Rows.boundaryRefusesSpec.post enc Tryz.prog Tryz.f4 false true false false W args v W':=by
 have b:=hW;obtain ⟨p,q,a,f,rfl,g,h⟩:=hW;have d:DataW.TrodAll enc Tryz.prog W 0 (λ_=>true) true Tryz.f4.params.toList args.toList ds p:=a;rw [Tryz.params4] at d hval;obtain ⟨v0,i,d0,k,I,J,c,rfl,rfl,l,m⟩:=trodAll_cons d;obtain ⟨v1,n,d1,o,K,L,rfl,rfl,rfl,r,s⟩:=trodAll_cons m;obtain ⟨v2,u,d2,w,M,N,rfl,rfl,rfl,x,A⟩:=trodAll_cons s;obtain ⟨rfl,rfl,rfl⟩:=trodAll_nil A;obtain rfl:args=#[v0,v1,v2]:=by cases args;simp_all
 obtain ⟨rfl,rfl⟩:=trodVars_none f;obtain ⟨O,P,lc,rfl⟩:=okWide_slice Tryz.underlying22 (hval 0 22 v0 rfl rfl);clear a;obtain ⟨y,z,B,C,D,sz⟩:=snt hL;have ⟨E,F⟩:=IE l;obtain ⟨Q,xs,R,S,T,U,G⟩:=QQ (hval 1 51 v1 rfl rfl) r;obtain ⟨root,rfl,rfl,rfl,-⟩:=open_int Tryz.underlying3 (hval 2 3 v2 rfl rfl) x;exact Uo b rfl (by kernel_rfl) (by kernel_rfl) rfl (Tryz.mJ B C D F E G root)
noncomputable def vS (os:Os):World:=World.laidAll Tryz.prog os Rows.boundaryRefusesRow.laid
def QK (os:Os):laidMet Tryz.prog Rows.boundaryRefusesRow.laid ((vS os).forCall (λ_ _=>0) ⟨#[],#[.slice none 0 0,.agg #[.bool false,.slice none 0 0,.bool false,.slice none 0 0,.bool false,.slice none 0 0],.int .i64 0],[]⟩).memory:=
 laidMet_laidAll _ (by kernel_rfl) (by kernel_rfl)
def reads (os:Os){H:Type}(enc:TypeId×un->H):∃places,DataW.whole enc Tryz.prog ((vS os).forCall (λ_ _=>0) ⟨#[],#[.slice none 0 0,.agg #[.bool false,.slice none 0 0,.bool false,.slice none 0 0,.bool false,.slice none 0 0],.int .i64 0],[]⟩).memory Tryz.f4.params.toList Rows.boundaryRefusesSpec.vars false #[Value.slice none 0 0,.agg #[.bool false,.slice none 0 0,.bool false,.slice none 0 0,.bool false,.slice none 0 0],.int .i64 0].toList 8=some ([.nil,.agg [.agg [.lit (.bool false),.nil],.agg [.lit (.bool false),.nil],.agg [.lit (.bool false),.nil]],.lit (.int .i64 0)],[],places):=
 ⟨[],by kernel_rfl⟩
set_option maxRecDepth 100000 in
def lifted (os:Os)(started:os.Started)(H:Type)(enc:TypeId×un->H)(F:Stop.Interp) :
  ReturnsInHanded {} Tryz.checked os 4 .any ((OpenSpec.ofChange Rows.boundaryRefusesSpec).preRow enc Tryz.prog Tryz.f4 Rows.boundaryRefusesRow.domain false Rows.boundaryRefusesRow.laid) (((OpenSpec.ofChange Rows.boundaryRefusesSpec).at F).post enc Tryz.prog Tryz.f4 false true false false):=by
 have ⟨places,b⟩:=reads os enc
 refine returnsInHanded_of_row (C:=Tryz.checked) (s:=OpenSpec.ofChange Rows.boundaryRefusesSpec) own started (by kernel_rfl) Tryz.func4
  (witness_row_at (enc:=enc) (C:=Tryz.checked) false (vS os) #[.slice none 0 0,.agg #[.bool false,.slice none 0 0,.bool false,.slice none 0 0,.bool false,.slice none 0 0],.int .i64 0] (World.laidAll_os _ _ _) (by kernel_rfl) (by kernel_rfl) (by kernel_rfl)
   (OpenSpec.preRow_of_cond 8 b (by kernel_rfl) (λk c=>by cases c) (by kernel_rfl) (QK os))) ?_
 intro W base args d gs before a e _ _ _ f _ _;exact PQ H enc W base args d gs before a e f
def gZ {a b:md}(h:a=true)(h':b=true):(a&&b)=true:=by rw [h,h'];rfl
set_option maxRecDepth 100000 in
def closed:joinedFacts Tryz.pinned.checked.prog 4 Tryz.f4 (OpenSpec.ofChange Rows.boundaryRefusesSpec).bare Rows.boundaryRefusesRow=true:=gZ (gZ (gZ (gZ (gZ (gZ (gZ (gZ (gZ (gZ (gZ (gZ (gZ (gZ (gZ (gZ (gZ (gZ (gZ (gZ (gZ (gZ (gZ (gZ (gZ (gZ (gZ (gZ (gZ (gZ (gZ (fact0) fact1) fact2) fact3) fact4) fact5) fact6) fact7) fact8) fact9) Xp) Xq) Xr) Xs) Xt) Xu) Xv) Xw) Xx) Xy) Xz) XA) XB) XC) XD) XE) XF) XG) XH) XI) XJ) XK
def said:Rows.BoundaryRefusesSaid:=
 OpenClaim.holds_of_cond 4 Tryz.f4 rfl rfl rfl rfl rfl rfl rfl ⟨rfl,rfl,rfl,rfl,rfl⟩ rfl rfl rfl rfl rfl (by kernel_rfl) Tryz.func4 closed
  (of_decide_eq_true (by kernel_rfl)) (by unfold Func.isWrapper;first|(rw [if_pos (by decide +kernel)];kernel_rfl)|(rw [if_neg (by decide +kernel)];exact ⟨rfl,rfl⟩))
  (λos started H enc _ F=>by rw [OpenClaim.pre_eq_preRow];exact lifted os started H enc F)
def plain (f : FuncId)(fn : Func)(hf : Tryz.pinned.checked.prog.funcNamed "bspregion/bspregionlaw22.BoundaryRefuses" = some f)(hfn : Tryz.pinned.checked.prog.funcs[f]? = some fn) :
  true=Tryz.pinned.checked.prog.looks []/\∀(j:Nat) t,fn.params[j]?=some t->Tryz.pinned.checked.prog.wantsStandIn t=false:=by
 obtain rfl : f = 4 := Qv6 ((show Tryz.prog.funcNamed "bspregion/bspregionlaw22.BoundaryRefuses" = some 4 by kernel_rfl).symm.m hf) |>.symm
 obtain rfl:fn=Tryz.f4:=(Qv6 (Tryz.func4.symm.m hfn)).symm;refine ⟨by kernel_rfl,λj t ht=>?_⟩;rw [Tryz.params4] at ht;have ht:t=22\/t=51\/t=3:=by simpa using Array.mem_of_getElem? ht
 rcases ht with rfl|rfl|rfl
 ·exact (show Tryz.prog.wantsStandIn 22=false by kernel_rfl)
 ·exact (show Tryz.prog.wantsStandIn 51=false by kernel_rfl)
 ·exact (show Tryz.prog.wantsStandIn 3=false by kernel_rfl)
end Go.Proofs.YtckenacdnbolaaaGreatDoor.cB
namespace Go.Proofs.YtckenacdnbolaaaGreatDoor
open Go.ChangeShapes Go.WideShapes Go.ChangeAt Go.RowKit Go.Eng
theorem boundaryRefusesCardHolds:Rows.BoundaryRefusesCardSaid:=
 Claim7.holds_tied_plain_at .later [] _ _ _ _ cB.said (λ_ h=>by cases h) (by kernel_rfl) (λ_ h=>by cases h) boundaryRefuses_row_tie rfl ⟨rfl,rfl⟩ (by kernel_rfl) rfl cB.plain cB.goes
end Go.Proofs.YtckenacdnbolaaaGreatDoor
