/- The law SpanMeasures (bspregionlaw06): for every input (a slice of ints) the call returns true and the argument reads as it did. Condition: the package-level variable ErrUnbounded reads as the program's text lays it (the card ties this). -/
import Derived.Test.YtimkdinmcbepnaaGreatDoorR5
import Derived.Test.YtimkdinmcbepnaaGreatDoorR20
set_option linter.unusedVariables false
open Go.IntKind (i64 u64 u32)
namespace Go.Proofs.YtimkdinmcbepnaaGreatDoor.spanMeasures
open Go.ChangeShapes Go.WideShapes Go.ChangeAt Go.RowKit Go.Eng
theorem gUnb : Tryz.prog.globalNamed "bspregion/api.ErrUnbounded" = some 0 := by kernel_rfl
theorem tUnb:(Tryz.prog.globals[0]?).map (·.type)=some 30:=by kernel_rfl
theorem snt {W:World} (h:laidMetH Tryz.prog Rows.spanMeasuresRow.laid W):∃y,Tryz.Sent (View.all W) 0 y/\Tryz.SErr y:=by
 obtain ⟨a,ha⟩:=sent_of_laid gUnb tUnb (by first | exact List.mem_cons_self .. | exact List.mem_cons_of_mem _ (List.mem_cons_self ..)) h
 exact ⟨_,⟨fun h=>h,ha⟩,⟨a,rfl⟩⟩
set_option maxRecDepth 100000 in
theorem contract (H:Type) (enc:TypeId × Value->H) (W:World) (base:Nat) (args:Array Value) (ds gs:List (DataW H)) (before:List MemPlace)
  (hval:∀(j:Nat) t v,Tryz.f7.params[j]?=some t->args[j]?=some v->Value.okWide Tryz.prog W .any base t v)
  (hW:DataW.Whole enc Tryz.prog Tryz.f7.params.toList Rows.spanMeasuresSpec.vars false W args.toList ds gs before) (hL:laidMetH Tryz.prog Rows.spanMeasuresRow.laid W) :
  Calls Tryz.prog 7 args W fun e W'=>∃v,e=.returned v/\Rows.spanMeasuresSpec.post enc Tryz.prog Tryz.f7 false true false false W args v W':=by
 have hW':=hW
 obtain ⟨p,q,hA0,hV,rfl,hfz,hnd⟩:=hW
 have hA:DataW.TrodAll enc Tryz.prog W 0 (fun _=>true) true Tryz.f7.params.toList args.toList ds p:=hA0
 rw [Tryz.params7] at hA hval
 obtain ⟨v0,vs0,d0,ds0,p0,q0,hargs,rfl,rfl,h0,r0⟩:=trodAll_cons hA
 obtain ⟨rfl,rfl,rfl⟩:=trodAll_nil r0
 obtain rfl:args=#[v0]:=by cases args; simp_all
 obtain ⟨rfl,rfl⟩:=trodVars_none hV
 obtain ⟨lp,ln,lc,rfl⟩:=okWide_slice Tryz.underlying22 (hval 0 22 v0 rfl rfl)
 clear hA0
 obtain ⟨hc,hr⟩:=rdl_of_trod h0
 obtain ⟨y,hy,he⟩:=snt hL
 exact law_end hW' rfl (by kernel_rfl) (by kernel_rfl) rfl (Tryz.c_SpanMeasures hr hc hy he)
noncomputable def laidWorld (os:Os):World:=World.laidAll Tryz.prog os Rows.spanMeasuresRow.laid
theorem laid_met (os:Os):laidMet Tryz.prog Rows.spanMeasuresRow.laid ((laidWorld os).forCall (fun _ _=>0) ⟨#[],#[.slice none 0 0],[]⟩).memory:=
 laidMet_laidAll _ (by kernel_rfl) (by kernel_rfl)
theorem reads (os:Os) {H:Type} (enc:TypeId × Value->H):∃places,DataW.whole enc Tryz.prog ((laidWorld os).forCall (fun _ _=>0) ⟨#[],#[.slice none 0 0],[]⟩).memory Tryz.f7.params.toList Rows.spanMeasuresSpec.vars false #[Value.slice none 0 0].toList 8=some ([.nil],[],places):=
 ⟨[],by kernel_rfl⟩
set_option maxRecDepth 100000 in
theorem lifted (os:Os) (started:os.Started) (H:Type) (enc:TypeId × Value->H) (F:Stop.Interp) :
  ReturnsInHanded {} Tryz.checked os 7 .any ((OpenSpec.ofChange Rows.spanMeasuresSpec).preRow enc Tryz.prog Tryz.f7 Rows.spanMeasuresRow.domain false Rows.spanMeasuresRow.laid) (((OpenSpec.ofChange Rows.spanMeasuresSpec).at F).post enc Tryz.prog Tryz.f7 false true false false):=by
 obtain ⟨places,hx⟩:=reads os enc
 refine returnsInHanded_of_row (C:=Tryz.checked) (s:=OpenSpec.ofChange Rows.spanMeasuresSpec) own started (by kernel_rfl) Tryz.func7
  (witness_row_at (enc:=enc) (C:=Tryz.checked) false (laidWorld os) #[.slice none 0 0] (World.laidAll_os _ _ _) (by kernel_rfl) (by kernel_rfl) (by kernel_rfl)
   (OpenSpec.preRow_of_cond 8 hx (by kernel_rfl) (fun k hk=>by cases hk) (by kernel_rfl) (laid_met os))) ?_
 intro W base args ds gs before hval hW _ _ _ hL _ _
 exact contract H enc W base args ds gs before hval hW hL
theorem said:Rows.SpanMeasuresSaid:=
 OpenClaim.holds_of_cond 7 Tryz.f7 rfl rfl rfl rfl rfl rfl rfl ⟨rfl,rfl,rfl,rfl,rfl⟩ rfl rfl rfl rfl rfl (by kernel_rfl) Tryz.func7 (by kernel_rfl)
  (of_decide_eq_true (by kernel_rfl)) (by unfold Func.isWrapper; first | (rw [if_pos (by decide +kernel)]; kernel_rfl) | (rw [if_neg (by decide +kernel)]; exact ⟨rfl,rfl⟩))
  (fun os started H enc _ F=>by rw [OpenClaim.pre_eq_preRow]; exact lifted os started H enc F)
theorem plain (f : FuncId) (fn : Func) (hf : Tryz.pinned.checked.prog.funcNamed "bspregion/bspregionlaw06.SpanMeasures" = some f) (hfn : Tryz.pinned.checked.prog.funcs[f]? = some fn) :
  true=Tryz.pinned.checked.prog.looks []/\∀(j:Nat) t,fn.params[j]?=some t->Tryz.pinned.checked.prog.wantsStandIn t=false:=by
 obtain rfl : f = 7 := Option.some.inj ((show Tryz.prog.funcNamed "bspregion/bspregionlaw06.SpanMeasures" = some 7 by kernel_rfl).symm.trans hf) |>.symm
 obtain rfl:fn=Tryz.f7:=(Option.some.inj (Tryz.func7.symm.trans hfn)).symm
 refine ⟨by kernel_rfl,fun j t ht=>?_⟩
 rw [Tryz.params7] at ht
 have ht:t=22:=by simpa using Array.mem_of_getElem? ht
 subst ht
 exact (show Tryz.prog.wantsStandIn 22=false by kernel_rfl)
end Go.Proofs.YtimkdinmcbepnaaGreatDoor.spanMeasures
namespace Go.Proofs.YtimkdinmcbepnaaGreatDoor
open Go.ChangeShapes Go.WideShapes Go.ChangeAt Go.RowKit Go.Eng
/-- THE CARD. -/
theorem spanMeasuresCardHolds:Rows.SpanMeasuresCardSaid:=
 Claim7.holds_tied_plain_at .later [] _ _ _ _ spanMeasures.said (fun _ h=>by cases h) (by kernel_rfl) (fun _ h=>by cases h) spanMeasures_row_tie rfl ⟨rfl,rfl⟩ (by kernel_rfl) rfl spanMeasures.plain (by kernel_rfl)
end Go.Proofs.YtimkdinmcbepnaaGreatDoor
