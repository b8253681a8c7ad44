import Derived.Test.YtlhmddanbgcbjaaGreatDoorL11
set_option linter.all false
open Go.IntKind (i64 u64 u32)
namespace Go.Proofs.YtlhmddanbgcbjaaGreatDoor.cj
open Go.ChangeShapes Go.WideShapes Go.ChangeAt Go.RowKit Go.Eng
abbrev T8 (b:Program->FuncId->Func->ChangeSpec->OpenClaim->Bool):Prop:=b Tryz.pinned.checked.prog 3 Tryz.f3 (OpenSpec.ofChange Rows.boundaryLinesSpec).bare Rows.boundaryLinesRow=true
def WK {b:Program->FuncId->Func->ChangeSpec->OpenClaim->md}(h:b Tryz.pinned.checked.prog 3 Tryz.f3 (OpenSpec.ofChange Rows.boundaryLinesSpec).bare Rows.boundaryLinesRow=true:=by kernel_rfl):T8 b:=h
def XQ:T8 λP f fn s c=>P.stopsHeard:=WK
def XR:T8 λP f fn s c=>P.mayEnter:=WK
def XS:T8 λP f fn s c=>(c.lifted==P.liftsFinal):=WK
def XT:T8 λP f fn s c=>(P.make==some c.make):=WK
def XU:T8 λP f fn s c=>(c.kinds==(if c.domain.isEmpty then [] else fn.params.toList.map λt=>match P.underlying t with|some (.int k)=>some k|_=>none)):=WK
def XV:T8 λP f fn s c=>(c.pinned==c.pinnedBy):=WK
def XW:T8 λP f fn s c=>(c.veiled==(fn.params.toList++s.plain.varTypes P++fn.resultTypes.toList).any (P.veiledRec ·)):=WK
def XX:T8 λP f fn s c=>c.veiledFits P fn.params.toList (fn.params.toList++s.plain.varTypes P++fn.resultTypes.toList):=WK
end Go.Proofs.YtlhmddanbgcbjaaGreatDoor.cj
namespace Go.Proofs.YtlhmddanbgcbjaaGreatDoor.cj
open Go.ChangeShapes Go.WideShapes Go.ChangeAt Go.RowKit Go.Eng
def goes:false=Rows.boundaryLinesRow.goesBy Tryz.pinned.checked.prog:=by kernel_rfl
end Go.Proofs.YtlhmddanbgcbjaaGreatDoor.cj
