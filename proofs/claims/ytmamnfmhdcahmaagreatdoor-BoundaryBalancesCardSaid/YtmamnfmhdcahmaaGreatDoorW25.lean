import Derived.Test.YtmamnfmhdcahmaaGreatDoorW12
set_option linter.all false
namespace Go.Proofs.YtmamnfmhdcahmaaGreatDoor.bN
open Go.ChangeShapes Go.WideShapes Go.ChangeAt Go.RowKit Go.Eng
section
abbrev Q_ (b:Program->FuncId->Func->ChangeSpec->OpenClaim->Bool):Prop:=b Tryz.pinned.checked.prog 3 Tryz.f3 (OpenSpec.ofChange Rows.boundaryBalancesSpec).bare Rows.boundaryBalancesRow=true
def Ss {b:Program->FuncId->Func->ChangeSpec->OpenClaim->ut}(h:b Tryz.pinned.checked.prog 3 Tryz.f3 (OpenSpec.ofChange Rows.boundaryBalancesSpec).bare Rows.boundaryBalancesRow=true:=by kernel_rfl):Q_ b:=h
def fact12:Q_ λP f fn s c=>(c.named==P.varsNamed f):=Ss
def fact13:Q_ λP f fn s c=>(c.maps==(fn.params.toList++s.plain.varTypes P).any (P.mapsRec ·)):=Ss
def fact14:Q_ λP f fn s c=>(c.ifaces==(fn.params.toList++s.plain.varTypes P).any (P.ifacesRec ·)):=Ss
def fact15:Q_ λP f fn s c=>(c.mapsOut==P.mapsAmong fn.resultTypes.toList):=Ss
def fact16:Q_ λP f fn s c=>(c.loops==(fn.params.toList++s.plain.varTypes P).any (P.loopsFrom ·)):=Ss
def fact17:Q_ λP f fn s c=>(c.wideKeys==(fn.params.toList++s.plain.varTypes P++fn.resultTypes.toList).any (P.wideKeysFrom ·)):=Ss
def fact18:Q_ λP f fn s c=>s.vars.all (P.varReadable ·):=Ss
def fact19:Q_ λP f fn s c=>fn.resultTypes.all (λt=>P.readableRec t&&decide (t<P.types.size)):=Ss
def fact20:Q_ λP f fn s c=>(c.ifacesOut==fn.resultTypes.toList.any (P.ifacesRec ·)):=Ss
def fact21:Q_ λP f fn s c=>(c.loopsOut==fn.resultTypes.toList.any (P.loopsFrom ·)):=Ss
def fact22:Q_ λP f fn s c=>(c.plainKeys==P.plainKeys):=Ss
def fact23:Q_ λP f fn s c=>c.shortTexts.isNone:=Ss
abbrev Xl (b:Program->FuncId->Func->ChangeSpec->OpenClaim->Bool):Prop:=b Tryz.pinned.checked.prog 3 Tryz.f3 (OpenSpec.ofChange Rows.boundaryBalancesSpec).bare Rows.boundaryBalancesRow=true
def ZJ {b:Program->FuncId->Func->ChangeSpec->OpenClaim->ut}(h:b Tryz.pinned.checked.prog 3 Tryz.f3 (OpenSpec.ofChange Rows.boundaryBalancesSpec).bare Rows.boundaryBalancesRow=true:=by kernel_rfl):Xl b:=h
def fact24:Xl λP f fn s c=>P.stopsHeard:=ZJ
def fact25:Xl λP f fn s c=>P.mayEnter:=ZJ
def fact26:Xl λP f fn s c=>(c.lifted==P.liftsFinal):=ZJ
def fact27:Xl λP f fn s c=>(P.make==some c.make):=ZJ
def fact28:Xl λP f fn s c=>(c.kinds==(if c.domain.isEmpty then [] else fn.params.toList.map λt=>match P.underlying t with|some (.int k)=>some k|_=>none)):=ZJ
def fact29:Xl λP f fn s c=>(c.pinned==c.pinnedBy):=ZJ
def fact30:Xl λP f fn s c=>(c.veiled==(fn.params.toList++s.plain.varTypes P++fn.resultTypes.toList).any (P.veiledRec ·)):=ZJ
def fact31:Xl λP f fn s c=>c.veiledFits P fn.params.toList (fn.params.toList++s.plain.varTypes P++fn.resultTypes.toList):=ZJ
end
section
def goes:false=Rows.boundaryBalancesRow.goesBy Tryz.pinned.checked.prog:=ζ
end
end Go.Proofs.YtmamnfmhdcahmaaGreatDoor.bN
