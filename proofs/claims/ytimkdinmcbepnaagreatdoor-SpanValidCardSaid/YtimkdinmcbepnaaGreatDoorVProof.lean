/- The law SpanValid (bspregionlaw06): for every input (a slice of spans and a number of package api) the call returns true and the arguments read as they did. Condition: the package-level variable ErrInvalid reads as the program's text lays it (the card ties this). -/
import Derived.Test.YtimkdinmcbepnaaGreatDoorS5
import Derived.Test.YtimkdinmcbepnaaGreatDoorS13
import Derived.Test.YtimkdinmcbepnaaGreatDoorS18
set_option linter.unusedVariables false
open Go.IntKind (i64 u64 u32)
namespace Go.Proofs.YtimkdinmcbepnaaGreatDoor.spanValid
open Go.ChangeShapes Go.WideShapes Go.ChangeAt Go.RowKit Go.Eng
theorem gInv : Tryz.prog.globalNamed "bspregion/api.ErrInvalid" = some 1 := by kernel_rfl
theorem tInv:(Tryz.prog.globals[1]?).map (·.type)=some 30:=by kernel_rfl
theorem snt {W:World} (h:laidMetH Tryz.prog Rows.spanValidRow.laid W):∃y,Tryz.Sent (View.all W) 1 y/\Tryz.SErr y:=by
 obtain ⟨a,ha⟩:=sent_of_laid gInv tInv (List.mem_cons_self ..) h
 exact ⟨_,⟨fun h=>h,ha⟩,⟨a,rfl⟩⟩
set_option maxRecDepth 100000 in
theorem spans_arg {H:Type} {enc:TypeId × Value->H} {W:World} {p:OA} {n c:Nat} {d:DataW H} {ps:List MemPlace} (h:DataW.Trod enc Tryz.prog W 0 (fun _=>true) true 25 (.slice p n c) d ps):n<=c/\∃l:List Tryz.SW,Lst 8 Tryz.RSW (View.all W) p n l:=by
 refine lst_of_trod Tryz.underlying25 (show Tryz.prog.cellsOf 77=8 by kernel_rfl) (fun fuel cs y hcs h=>?_) h
 obtain ⟨c0,r0,rfl,z0⟩:=cons_of hcs
 obtain ⟨c1,r1,rfl,z1⟩:=cons_of z0
 obtain ⟨c2,r2,rfl,z2⟩:=cons_of z1
 obtain ⟨c3,r3,rfl,z3⟩:=cons_of z2
 obtain ⟨c4,r4,rfl,z4⟩:=cons_of z3
 obtain ⟨c5,r5,rfl,z5⟩:=cons_of z4
 obtain ⟨c6,r6,rfl,z6⟩:=cons_of z5
 obtain ⟨c7,r7,rfl,z7⟩:=cons_of z6
 obtain rfl:=List.length_eq_zero_iff.1 z7
 obtain ⟨b1,us,vs,b2,ws,ts,na,nb,g,-⟩:=span_of h
 exact ⟨⟨b1,us,vs,b2,ws,ts,na,nb⟩,g⟩
set_option maxRecDepth 100000 in
theorem rat_arg {H:Type} {enc:TypeId × Value->H} {W:World} {r:Reach} {b0:Nat} {v:Value} {d:DataW H} {p:List MemPlace} (hv:Value.okWide Tryz.prog W r b0 51 v) (h:DataW.Trod enc Tryz.prog W 0 (fun _=>true) true 51 v d p):∃b xs ys,Tryz.RRw (View.all W) v b xs ys:=by
 obtain ⟨⟨cs⟩,rfl,hsz⟩:=okWide_struct Tryz.underlying51 hv
 have hsz:cs.length=3:=hsz.trans (by kernel_rfl)
 obtain ⟨c0,r0,rfl,z0⟩:=cons_of hsz
 obtain ⟨c1,r1,rfl,z1⟩:=cons_of z0
 obtain ⟨c2,r2,rfl,z2⟩:=cons_of z1
 obtain rfl:=List.length_eq_zero_iff.1 z2
 obtain ⟨fuel,hf⟩:=h
 obtain ⟨b,xs,ys,g,-⟩:=rat_of hf
 exact ⟨b,xs,ys,g⟩
set_option maxRecDepth 100000 in
theorem contract (H:Type) (enc:TypeId × Value->H) (W:World) (base:Nat) (args:Array Value) (ds gs:List (DataW H)) (before:List MemPlace)
  (hval:∀(j:Nat) t v,Tryz.f8.params[j]?=some t->args[j]?=some v->Value.okWide Tryz.prog W .any base t v)
  (hW:DataW.Whole enc Tryz.prog Tryz.f8.params.toList Rows.spanValidSpec.vars false W args.toList ds gs before) (hL:laidMetH Tryz.prog Rows.spanValidRow.laid W) :
  Calls Tryz.prog 8 args W fun e W'=>∃v,e=.returned v/\Rows.spanValidSpec.post enc Tryz.prog Tryz.f8 false true false false W args v W':=by
 have hW':=hW
 obtain ⟨p,q,hA0,hV,rfl,hfz,hnd⟩:=hW
 have hA:DataW.TrodAll enc Tryz.prog W 0 (fun _=>true) true Tryz.f8.params.toList args.toList ds p:=hA0
 rw [Tryz.params8] at hA hval
 obtain ⟨v0,vs0,d0,ds0,p0,q0,hargs,rfl,rfl,h0,r0⟩:=trodAll_cons hA
 obtain ⟨v1,vs1,d1,ds1,p1,q1,rfl,rfl,rfl,h1,r1⟩:=trodAll_cons r0
 obtain ⟨rfl,rfl,rfl⟩:=trodAll_nil r1
 obtain rfl:args=#[v0,v1]:=by cases args; simp_all
 obtain ⟨rfl,rfl⟩:=trodVars_none hV
 clear hA0
 obtain ⟨y,hy,he⟩:=snt hL
 obtain ⟨lp,ln,lc,rfl⟩:=okWide_slice Tryz.underlying25 (hval 0 25 v0 rfl rfl)
 obtain ⟨-,ls,hl⟩:=spans_arg h0
 obtain ⟨b,xs,ys,ho⟩:=rat_arg (hval 1 51 v1 rfl rfl) h1
 exact law_end hW' rfl (by kernel_rfl) (by kernel_rfl) rfl (Tryz.c_SpanValid hl ho hy he)
noncomputable def laidWorld (os:Os):World:=World.laidAll Tryz.prog os Rows.spanValidRow.laid
theorem laid_met (os:Os):laidMet Tryz.prog Rows.spanValidRow.laid ((laidWorld os).forCall (fun _ _=>0) ⟨#[],#[.slice none 0 0,.agg #[.bool false,.slice none 0 0,.slice none 0 0]],[]⟩).memory:=
 laidMet_laidAll _ (by kernel_rfl) (by kernel_rfl)
theorem reads (os:Os) {H:Type} (enc:TypeId × Value->H):∃places,DataW.whole enc Tryz.prog ((laidWorld os).forCall (fun _ _=>0) ⟨#[],#[.slice none 0 0,.agg #[.bool false,.slice none 0 0,.slice none 0 0]],[]⟩).memory Tryz.f8.params.toList Rows.spanValidSpec.vars false #[Value.slice none 0 0,.agg #[.bool false,.slice none 0 0,.slice none 0 0]].toList 8=some ([.nil,.agg [.agg [.lit (.bool false),.nil],.nil]],[],places):=
 ⟨[],by kernel_rfl⟩
set_option maxRecDepth 100000 in
theorem lifted (os:Os) (started:os.Started) (H:Type) (enc:TypeId × Value->H) (F:Stop.Interp) :
  ReturnsInHanded {} Tryz.checked os 8 .any ((OpenSpec.ofChange Rows.spanValidSpec).preRow enc Tryz.prog Tryz.f8 Rows.spanValidRow.domain false Rows.spanValidRow.laid) (((OpenSpec.ofChange Rows.spanValidSpec).at F).post enc Tryz.prog Tryz.f8 false true false false):=by
 obtain ⟨places,hx⟩:=reads os enc
 refine returnsInHanded_of_row (C:=Tryz.checked) (s:=OpenSpec.ofChange Rows.spanValidSpec) own started (by kernel_rfl) Tryz.func8
  (witness_row_at (enc:=enc) (C:=Tryz.checked) false (laidWorld os) #[.slice none 0 0,.agg #[.bool false,.slice none 0 0,.slice none 0 0]] (World.laidAll_os _ _ _) (by kernel_rfl) (by kernel_rfl) (by kernel_rfl)
   (OpenSpec.preRow_of_cond 8 hx (by kernel_rfl) (fun k hk=>by cases hk) (by kernel_rfl) (laid_met os))) ?_
 intro W base args ds gs before hval hW _ _ _ hL _ _
 exact contract H enc W base args ds gs before hval hW hL
theorem said:Rows.SpanValidSaid:=
 OpenClaim.holds_of_cond 8 Tryz.f8 rfl rfl rfl rfl rfl rfl rfl ⟨rfl,rfl,rfl,rfl,rfl⟩ rfl rfl rfl rfl rfl (by kernel_rfl) Tryz.func8 (by kernel_rfl)
  (of_decide_eq_true (by kernel_rfl)) (by unfold Func.isWrapper; first | (rw [if_pos (by decide +kernel)]; kernel_rfl) | (rw [if_neg (by decide +kernel)]; exact ⟨rfl,rfl⟩))
  (fun os started H enc _ F=>by rw [OpenClaim.pre_eq_preRow]; exact lifted os started H enc F)
theorem plain (f : FuncId) (fn : Func) (hf : Tryz.pinned.checked.prog.funcNamed "bspregion/bspregionlaw06.SpanValid" = some f) (hfn : Tryz.pinned.checked.prog.funcs[f]? = some fn) :
  true=Tryz.pinned.checked.prog.looks []/\∀(j:Nat) t,fn.params[j]?=some t->Tryz.pinned.checked.prog.wantsStandIn t=false:=by
 obtain rfl : f = 8 := Option.some.inj ((show Tryz.prog.funcNamed "bspregion/bspregionlaw06.SpanValid" = some 8 by kernel_rfl).symm.trans hf) |>.symm
 obtain rfl:fn=Tryz.f8:=(Option.some.inj (Tryz.func8.symm.trans hfn)).symm
 refine ⟨by kernel_rfl,fun j t ht=>?_⟩
 rw [Tryz.params8] at ht
 have ht:t=25 \/ t=51:=by simpa using Array.mem_of_getElem? ht
 rcases ht with rfl | rfl
 ·exact (show Tryz.prog.wantsStandIn 25=false by kernel_rfl)
 ·exact (show Tryz.prog.wantsStandIn 51=false by kernel_rfl)
end Go.Proofs.YtimkdinmcbepnaaGreatDoor.spanValid
namespace Go.Proofs.YtimkdinmcbepnaaGreatDoor
open Go.ChangeShapes Go.WideShapes Go.ChangeAt Go.RowKit Go.Eng
/-- THE CARD. -/
theorem spanValidCardHolds:Rows.SpanValidCardSaid:=
 Claim7.holds_tied_plain_at .later [] _ _ _ _ spanValid.said (fun _ h=>by cases h) (by kernel_rfl) (fun _ h=>by cases h) spanValid_row_tie rfl ⟨rfl,rfl⟩ (by kernel_rfl) rfl spanValid.plain (by kernel_rfl)
end Go.Proofs.YtimkdinmcbepnaaGreatDoor
