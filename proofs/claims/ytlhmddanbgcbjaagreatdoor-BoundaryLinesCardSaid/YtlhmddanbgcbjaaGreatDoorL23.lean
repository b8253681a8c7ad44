import Derived.Test.YtlhmddanbgcbjaaGreatDoorL11
set_option linter.all false
open Go.IntKind (i64 u64 u32)
namespace Go.Proofs.YtlhmddanbgcbjaaGreatDoor.cj
open Go.ChangeShapes Go.WideShapes Go.ChangeAt Go.RowKit Go.Eng
abbrev T7 (b:Program->FuncId->Func->ChangeSpec->OpenClaim->Bool):Prop:=b Tryz.pinned.checked.prog 3 Tryz.f3 (OpenSpec.ofChange Rows.boundaryLinesSpec).bare Rows.boundaryLinesRow=true
def WJ {b:Program->FuncId->Func->ChangeSpec->OpenClaim->md}(h:b Tryz.pinned.checked.prog 3 Tryz.f3 (OpenSpec.ofChange Rows.boundaryLinesSpec).bare Rows.boundaryLinesRow=true:=by kernel_rfl):T7 b:=h
def XP:T7 λP f fn s c=>P.stopsHeard:=WJ
def XQ:T7 λP f fn s c=>P.mayEnter:=WJ
def XR:T7 λP f fn s c=>(c.lifted==P.liftsFinal):=WJ
def XS:T7 λP f fn s c=>(P.make==some c.make):=WJ
def XT:T7 λP f fn s c=>(c.kinds==(if c.domain.isEmpty then [] else fn.params.toList.map λt=>match P.underlying t with|some (.int k)=>some k|_=>none)):=WJ
def XU:T7 λP f fn s c=>(c.pinned==c.pinnedBy):=WJ
def XV:T7 λP f fn s c=>(c.veiled==(fn.params.toList++s.plain.varTypes P++fn.resultTypes.toList).any (P.veiledRec ·)):=WJ
def XW:T7 λP f fn s c=>c.veiledFits P fn.params.toList (fn.params.toList++s.plain.varTypes P++fn.resultTypes.toList):=WJ
end Go.Proofs.YtlhmddanbgcbjaaGreatDoor.cj
namespace Go.Proofs.YtlhmddanbgcbjaaGreatDoor.cj
open Go.ChangeShapes Go.WideShapes Go.ChangeAt Go.RowKit Go.Eng
def goes:false=Rows.boundaryLinesRow.goesBy Tryz.pinned.checked.prog:=by kernel_rfl
end Go.Proofs.YtlhmddanbgcbjaaGreatDoor.cj
