import Derived.WalkKit
import Derived.Deep.LoopGhost
import Derived.KernelRfl
set_option linter.unusedVariables false
open Go.IntKind (i64 u64 u32)
namespace Go.Eng
abbrev OA:=Option Addr
abbrev sm {α:Type}(a:α):Prop:=a=a
structure View where
 w:World
 H:Nat->Prop
 X:Nat->Prop
 hH:∀b,H b->b<w.heap.size
 hX:∀b,X b->H b
def View.bg (V:View)(b:Nat)(o:Obj):Prop:=¬V.H b/\V.w.heap[b]?=some o
def View.at (V:View)(p:Addr)(v:Value):Prop:=¬V.H p.block/\V.w.cell? p=some v
def View.Le (V V':View):Prop:=∀b o,V.bg b o->V'.bg b o
structure ew (X:Nat->Prop) (w w':World):Prop where
 size:w.heap.size<=w'.heap.size
 bg:∀b,b<w.heap.size->¬X b->w'.heap[b]?=w.heap[b]?
 os:w'.os=w.os
 tape:w'.tape=w.tape
 out:w'.output=w.output
def View.to (V:View)(w':World)(h:V.w.heap.size<=w'.heap.size):View:=⟨w',V.H,V.X,fun b hb=>Nat.lt_of_lt_of_le (V.hH b hb) h,V.hX⟩
def View.lend (V:View)(bs:List Nat):View:={ V with X:=fun b=>b∈bs/\V.H b,hX:=fun _ h=>h.2 }
def View.KK (V:View)(b:Nat):View:={ V with H:=fun x=>V.H x\/(x=b/\b<V.w.heap.size),hH:=fun x h=>h.elim (V.hH x) fun h=>h.1▸h.2,hX:=fun x h=>.inl (V.hX x h) }
def View.hideG (V:View)(p:Prop)(b:Nat):View:={ V with H:=fun x=>V.H x\/(p/\x=b/\b<V.w.heap.size),hH:=fun x h=>h.elim (V.hH x) fun h=>h.2.1▸h.2.2,hX:=fun x h=>.inl (V.hX x h) }
def View.shut (V:View):View:={ V with X:=fun _=>False,hX:=fun _ h=>h.elim }
def jz (P : Program)(f : FuncId) : Prop := ∃ fn, P.funcs[f]? = some fn ∧ fn.body.isNone = false ∧ (fn.name == "runtime.NumGoroutine") = false
def Acts (P:Program)(f:FuncId)(args:Array Value)(V:View)(R:Value->View->Prop):Prop:=
 jz P f/\Calls P f args V.w fun e w'=>∃r,e=.returned r/\∃hx:ew V.X V.w w',R r (V.to w' hx.size)
inductive C where
 | v (x:Value)|w (x:Value)|tt|ff
 | ptr (s o:Nat)
 | ld (s o n c:Nat)
 | iK (s n c:Nat)
 | yx (f:FuncId) (ss:List Nat)
inductive SV where
 | c (x:C)|agg (cs:List C)|ou (xs:List (Bool×List C))
inductive Cells where
 | lit (cs:List C)|row (vs:List Value)|aN (vs:List Value)
structure aH where
 cs:Cells
 ty:TypeId
def aH.live (b:aH):Prop:=∀vs,b.cs=.aN vs->vs≠[]
def Hq (b:aH):List Prop:=
 match b.cs with
 | .aN vs=>[vs≠[]]
 | _=>[]
def SD (b:aH):Prop:=
 match b.cs with
 | .aN vs=>vs≠[]
 | _=>True
def oP:List Prop->Prop->Prop
 | [],k=>k
 | p::r,k=>p->oP r k
def mA (b c:Nat):OA:=if c=0 then none else some ⟨b,0,none⟩
structure St where
 ao:Nat->Option SV
 boxes:Nat->Option aH
def C.den (β:Nat->Nat):C->Value
 | .v x=>x
 | .w x=>x
 | .tt=>.bool true
 | .ff=>.bool false
 | .ptr s o=>.pointer (some ⟨β s,o,none⟩)
 | .ld s o n c=>.slice (some ⟨β s,o,none⟩) n c
 | .iK s n c=>.slice (mA (β s) c) n c
 | .yx f ss=>.func (.func f) #[] (ss.map fun s=>Value.pointer (some ⟨β s,0,none⟩)).toArray
def gU (β:Nat->Nat):Bool×List C->Value
 | (true,cs)=>.agg (cs.map (C.den β)).toArray
 | (false,[c])=>c.den β
 | (false,_)=>.tuple #[]
def qn:Bool×List C->Option SV
 | (true,cs)=>some (.agg cs)
 | (false,[c])=>some (.c c)
 | (false,_)=>none
def SV.den (β:Nat->Nat):SV->Value
 | .c x=>x.den β
 | .agg cs=>.agg (cs.map (C.den β)).toArray
 | .ou xs=>.tuple (xs.map (gU β)).toArray
def SV.cells:SV->List C
 | .c x=>[x]
 | .agg cs=>cs
 | .ou _=>[]
def Cells.den (β:Nat->Nat):Cells->List Value
 | .lit cs=>cs.map (C.den β)
 | .row vs=>vs
 | .aN vs=>vs
def aH.obj (β:Nat->Nat)(b:aH):Obj:=.cells (b.cs.den β).toArray b.ty (0,0)
def C.ids:C->List Nat
 | .ptr s _=>[s]
 | .ld s _ _ _=>[s]
 | .iK s _ _=>[s]
 | .yx _ ss=>ss
 | _=>[]
def SV.ids:SV->List Nat
 | .c x=>x.ids
 | .agg cs=>cs.flatMap C.ids
 | .ou xs=>xs.flatMap fun x=>x.2.flatMap C.ids
def SV.uE:SV->Bool
 | .ou _=>true
 | _=>false
def eJ:C->List Prop
 | .v (.agg _)|.v (.tuple _)=>[False]
 | .w x=>[x.oneCell'=true]
 | _=>[]
def SV.eJ (x:SV):List Prop:=x.cells.flatMap Eng.eJ
def Cells.ids:Cells->List Nat
 | .lit cs=>cs.flatMap C.ids
 | .row _=>[]
 | .aN _=>[]
def St.put (st:St)(d:Option Nat)(x:SV):St:=
 match d with
 | none=>st
 | some d=>{ st with ao:=fun t=>cond (Nat.beq t d) (some x) (st.ao t) }
def St.box (st:St)(s:Nat)(b:aH):St:={ st with boxes:=fun t=>cond (Nat.beq t s) (some b) (st.boxes t) }
def C.ofConst:Value->C
 | .bool true=>.tt
 | .bool false=>.ff
 | x=>.v x
def SV.ofConst:Value->SV
 | .bool true=>.c .tt
 | .bool false=>.c .ff
 | .agg cs=>.agg (cs.toList.map C.ofConst)
 | x=>.c (.v x)
def St.aR (st:St):Operand->Option SV
 | .tmp t=>st.ao t
 | .const v=>some (.ofConst v)
 | .global g=>some (.c (.v (.pointer (some ⟨g,0,none⟩))))
 | .func f=>some (.c (.yx f []))
inductive TK where
 | int (k:IntKind)|bool|str|ptr (e:TypeId)|slice (e:TypeId)|struct (fs:List (TypeId×Nat))|arr (n:Nat) (e:TypeId)|iface|func|tuple (ts:List TypeId)|other
structure TI where
 k:TK
 size:Nat
 bytes:Nat
 zero:List C
def ju:TypeDesc->TK
 | .int k=>.int k
 | .bool=>.bool
 | .string=>.str
 | .pointer e=>.ptr e
 | .slice e=>.slice e
 | .array n e=>.arr n e
 | .struct fs=>.struct (fs.toList.map fun f=>(f.type,f.offset))
 | .interface _=>.iface
 | .func ..=>.func
 | .tuple es=>.tuple es.toList
 | _=>.other
def jS (P:Program)(t:TypeId):Option TI:=
 match P.info? t,P.underlying t with
 | some i,some d=>
  match i.zero with
  | some z=>some { k:=ju d,size:=i.size,bytes:=i.bytes,zero:=z.cells.toList.map C.ofConst }
  | none=>none
 | _,_=>none
abbrev cC:=List (Nat×TI)
def au {α:Type}:List (Nat×α)->Nat->Option α
 | [],_=>none
 | (s,x)::r,t=>cond (Nat.beq t s) (some x) (au r t)
def cC.ok (P:Program)(T:cC):Prop:=∀t i,au T t=some i->jS P t=some i
inductive wB where
 | int (k:IntKind)|bool|slice|ptr|str|any
inductive tD where
 | one (s:wB)|agg (l:List wB)
inductive Sh where
 | val (s:tD)|ou (l:List tD)|none
def Ry:C->wB
 | .v (.int k _)=>.int k
 | .v (.slice ..)=>.slice
 | .v (.pointer _)=>.ptr
 | .v (.string _)=>.str
 | .tt|.ff=>.bool
 | _=>.any
def jW (i:TI):tD:=
 match i.k with
 | .struct _|.arr _ _=>.agg (i.zero.map Ry)
 | _=>match i.zero with
  | [z]=>.one (Ry z)
  | _=>.one .any
def wB.ex:wB->(C->Prop)->Prop
 | .int k,K=>∃n:Int,K (.v (.int k n))
 | .bool,K=>∃b:Bool,K (.v (.bool b))
 | .slice,K=>∃(a:OA)(n c:Nat),K (.v (.slice a n c))
 | .ptr,K=>∃p:OA,K (.v (.pointer p))
 | .str,K=>∃s:ByteArray,K (.v (.string s))
 | .any,K=>∃x:Value,K (.w x)
def M7:List wB->(List C->Prop)->Prop
 | [],K=>K []
 | s::r,K=>s.ex fun v=>M7 r fun vs=>K (v::vs)
def tD.ex:tD->(SV->Prop)->Prop
 | .one s,K=>s.ex fun c=>K (.c c)
 | .agg l,K=>M7 l fun cs=>K (.agg cs)
def Oo:List tD->(List (Bool×List C)->Prop)->Prop
 | [],K=>K []
 | .one s::r,K=>s.ex fun c=>Oo r fun vs=>K ((false,[c])::vs)
 | .agg l::r,K=>M7 l fun cs=>Oo r fun vs=>K ((true,cs)::vs)
def Sh.ex:Sh->(SV->Prop)->Prop
 | .val s,K=>s.ex K
 | .ou l,K=>Oo l fun vs=>K (.ou vs)
 | .none,K=>K (.ou [])
def QT (T:cC):List TypeId->Option (List tD)
 | []=>some []
 | t::r=>match au T t,QT T r with
  | some i,some l=>some (jW i::l)
  | _,_=>Option.none
def Uz (T:cC)(t:TypeId):Option Sh:=
 match au T t with
 | some i=>match i.k with
  | .tuple []=>some .none
  | .tuple ts=>match QT T ts with
   | some l=>some (.ou l)
   | Option.none=>Option.none
  | _=>some (.val (jW i))
 | Option.none=>Option.none
inductive Q where
 | fail
 | ret (sc:List Prop) (x:SV)
 | new (sc:List Prop) (b:aH) (x:Nat->SV)
 | sC (sc:List Prop) (s:Nat) (b:aH)
 | rd (p:OA) (sh:tD)
 | mV (vs:List Value) (o size:Nat) (sh:tD)
 | qJ (s:Nat) (vs:List Value) (n c:Nat) (x:OA×Nat ⊕ List Value) (size bytes:Nat) (ty:TypeId)
 | app (old:Option Nat) (ba:OA) (vs:List Value) (n c:Nat) (x:OA×Nat ⊕ List Value) (size bytes:Nat) (ty:TypeId)
def bh (op:BinOp)(k:IntKind)(a b:Int):Int:=
 match op with
 | .and=>k.wrap ((BitVec.ofInt k.bits a &&& BitVec.ofInt k.bits b).toNat:Int)
 | .or=>k.wrap ((BitVec.ofInt k.bits a ||| BitVec.ofInt k.bits b).toNat:Int)
 | .xor=>k.wrap ((BitVec.ofInt k.bits a ^^^ BitVec.ofInt k.bits b).toNat:Int)
 | _=>k.wrap ((BitVec.ofInt k.bits a &&& ~~~(BitVec.ofInt k.bits b)).toNat:Int)
def lH (op:BinOp)(k:IntKind)(a b:Int):Q:=
 match op with
 | .add=>.ret [] (.c (.v (.int k (k.wrap (a+b)))))
 | .sub=>.ret [] (.c (.v (.int k (k.wrap (a-b)))))
 | .mul=>.ret [] (.c (.v (.int k (k.wrap (a*b)))))
 | .quo=>.ret [b≠0] (.c (.v (.int k (k.wrap (a.tdiv b)))))
 | .rem=>.ret [b≠0] (.c (.v (.int k (a.tmod b))))
 | .and=>.ret [] (.c (.v (.int k (bh .and k a b))))
 | .or=>.ret [] (.c (.v (.int k (bh .or k a b))))
 | .xor=>.ret [] (.c (.v (.int k (bh .xor k a b))))
 | .andNot=>.ret [] (.c (.v (.int k (bh .andNot k a b))))
 | .shl=>.ret [0<=b] (.c (.v (.int k (k.wrap (a*2^(min b.toNat k.bits))))))
 | .shr=>.ret [0<=b] (.c (.v (.int k (a.fdiv (2^(min b.toNat k.bits))))))
 | .eql=>.ret [] (.c (.v (.bool (a==b))))
 | .neq=>.ret [] (.c (.v (.bool (a != b))))
 | .lss=>.ret [] (.c (.v (.bool (decide (a<b)))))
 | .leq=>.ret [] (.c (.v (.bool (decide (a<=b)))))
 | .gtr=>.ret [] (.c (.v (.bool (decide (a>b)))))
 | .geq=>.ret [] (.c (.v (.bool (decide (a≥b)))))
def C.bool?:C->Option Bool
 | .tt=>some true
 | .ff=>some false
 | .v (.bool b)=>some b
 | _=>none
def isNilI:Value->Bool
 | .nilIface=>true
 | _=>false
def IsIface (x:Value):Prop:=x=.nilIface\/∃t v,x=.iface t v
def uF:IntKind->IntKind->Bool
 | .i8,.i8|.i16,.i16|.i32,.i32|.i64,.i64|.u8,.u8|.u16,.u16|.u32,.u32|.u64,.u64=>true
 | _,_=>false
def Ax (neg:Bool)(k:TK)(x y:C):Q:=
 match k with
 | .ptr _=>match y with
  | .v (.pointer none)=>match x with
   | .ptr _ _=>.ret [] (.c (if neg then .tt else .ff))
   | .v (.pointer p)=>.ret [] (.c (.v (.bool (if neg then !p.isNone else p.isNone))))
   | _=>.fail
  | _=>.fail
 | .slice _=>match y with
  | .v (.slice none _ _)=>match x with
   | .ld _ _ _ _=>.ret [] (.c (if neg then .tt else .ff))
   | .iK _ _ c=>.ret [] (.c (.v (.bool (if neg then !(Nat.beq c 0) else Nat.beq c 0))))
   | .v (.slice a _ _)=>.ret [] (.c (.v (.bool (if neg then !a.isNone else a.isNone))))
   | _=>.fail
  | _=>.fail
 | .iface=>match y with
  | .v .nilIface=>match x with
   | .w y=>.ret [IsIface y] (.c (.v (.bool (if neg then !isNilI y else isNilI y))))
   | .v .nilIface=>.ret [] (.c (if neg then .ff else .tt))
   | _=>.fail
  | _=>.fail
 | _=>.fail
def Av (T:cC)(op:BinOp)(xt:TypeId)(x y:C):Q:=
 match au T xt with
 | some i=>match i.k with
  | .int _=>match x,y with
   | .v (.int k a),.v (.int k' b)=>
    match op with
    | .shl|.shr=>lH op k a b
    | _=>if uF k k' then lH op k a b else .fail
   | _,_=>.fail
  | .bool=>match x.bool?,y.bool? with
   | some a,some b=>match op with
    | .eql=>.ret [] (.c (.v (.bool (a==b))))
    | .neq=>.ret [] (.c (.v (.bool (!(a==b)))))
    | _=>.fail
   | _,_=>.fail
  | k=>match op with
   | .eql=>Ax false k x y
   | .neq=>Ax true k x y
   | _=>.fail
 | none=>.fail
def addrAdd (p:OA)(n:Nat):OA:=p.map fun a=>a.add n
def setCells (cs:List C)(o:Nat)(xs:List C):List C:=cs.take o++xs++cs.drop (o+xs.length)
def cI (vs:List Value)(o:Nat)(xs:List Value):List Value:=
 match xs with
 | [x]=>vs.set o x
 | _=>vs.take o++xs++vs.drop (o+xs.length)
def C.val?:C->Option Value
 | .v x=>some x
 | .w x=>some x
 | .tt=>some (.bool true)
 | .ff=>some (.bool false)
 | _=>none
def jY:List C->Option (List Value)
 | []=>some []
 | c::r=>match c.val?,jY r with
  | some v,some vs=>some (v::vs)
  | _,_=>none
def iD (bx:Nat->Option aH)(i:TI)(x:SV):Q:=
 match x with
 | .c (.ptr b o)=>match bx b with
  | some ⟨.lit cs,_⟩=>match i.k with
   | .struct _|.arr _ _=>if Nat.ble (o+i.size) cs.length then .ret [] (.agg ((cs.drop o).take i.size)) else .fail
   | _=>match cs[o]? with
    | some c=>.ret [] (.c c)
    | none=>.fail
  | some ⟨.row vs,_⟩=>.mV vs o i.size (jW i)
  | some ⟨.aN vs,_⟩=>if Nat.beq i.size 0 then .fail else .mV vs o i.size (jW i)
  | none=>.fail
 | .c (.v (.pointer p))=>if Nat.beq i.zero.length i.size then .rd p (jW i) else .fail
 | _=>.fail
def fX (bx:Nat->Option aH)(i:TI)(a x:SV):Q:=
 match a with
 | .c (.ptr b o)=>if Nat.beq x.cells.length i.size&&!x.uE then match bx b with
   | some ⟨.lit cs,ty⟩=>if Nat.ble (o+i.size) cs.length then .sC x.eJ b ⟨.lit (setCells cs o x.cells),ty⟩ else .fail
   | some ⟨.row vs,ty⟩=>match jY x.cells with
    | some xs=>.sC (x.eJ++[o+i.size<=vs.length]) b ⟨.row (cI vs o xs),ty⟩
    | none=>.fail
   | some ⟨.aN vs,ty⟩=>if Nat.beq i.size 0 then .fail else match jY x.cells with
    | some xs=>.sC (x.eJ++[o+i.size<=vs.length]) b ⟨.aN (cI vs o xs),ty⟩
    | none=>.fail
   | none=>.fail
  else .fail
 | _=>.fail
def mU (place:Nat->Option (Nat×Nat))(cells:List C):List (Nat×SV)->Option (List C)
 | []=>some cells
 | (i,x)::r=>match place i with
  | none=>none
  | some (off,size)=>if Nat.beq x.cells.length size&&Nat.ble (off+size) cells.length&&!x.uE then mU place (setCells cells off x.cells) r else none
def partsOf (ρ:Operand->Option SV):List (Nat×Operand)->Option (List (Nat×SV))
 | []=>some []
 | (i,o)::r=>match ρ o,partsOf ρ r with
  | some x,some l=>some ((i,x)::l)
  | _,_=>none
def fj (T:cC):List (TypeId×Nat)->Option (List (Nat×Nat))
 | []=>some []
 | (t,off)::r=>match au T t,fj T r with
  | some i,some l=>some ((off,i.size)::l)
  | _,_=>none
def rep (n:Nat)(zs:List C):List C:=(List.replicate n zs).flatten
def oh (n:Nat)(zs:List Value):List Value:=
 match zs with
 | [z]=>List.replicate n z
 | _=>(List.replicate n zs).flatten
def pH (a:OA)(m l sz:Nat):OA:=if m=l then a else addrAdd a (l*sz)
def W9 (o m l sz:Nat):Nat:=if m=l then o else o+l*sz
def Lf (c:Nat):Option SV->Option (List Prop×Nat)
 | none=>some ([],c)
 | some (.c (.v (.int _ m)))=>some ([0<=m/\m<=(c:Int)],m.toNat)
 | _=>none
def Jl (n m:Nat):Option SV->Option SV->Option (List Prop×Nat)
 | some (.c (.v (.int _ h))),_=>some ([0<=h/\h<=(m:Int)],h.toNat)
 | none,none=>some ([],n)
 | _,_=>none
def NV (h:Nat):Option SV->Option (List Prop×Option Nat)
 | none=>some ([],none)
 | some (.c (.v (.int _ l)))=>some ([0<=l/\l<=(h:Int)],some l.toNat)
 | _=>none
def mF (n c:Nat)(lo hi mx:Option SV):Option (List Prop×Option Nat×Nat×Nat):=
 match Lf c mx with
 | none=>none
 | some (p1,m)=>match Jl n m hi mx with
  | none=>none
  | some (p2,h)=>match NV h lo with
   | none=>none
   | some (p3,l)=>some (p1++p2++p3,l,h,m)
def Am (ρ:Operand->Option SV):Option Operand->Option (Option SV)
 | none=>some none
 | some x=>match ρ x with
  | some v=>some (some v)
  | none=>none
def qP (sz:Nat)(x:SV)(lo hi mx:Option SV):Q:=
 match x with
 | .c (.v (.slice a n c))=>match mF n c lo hi mx with
  | some (sc,none,h,m)=>.ret sc (.c (.v (.slice a h m)))
  | some (sc,some l,h,m)=>.ret sc (.c (.v (.slice (pH a m l sz) (h-l) (m-l))))
  | none=>.fail
 | .c (.ld s o n c)=>match mF n c lo hi mx with
  | some (sc,none,h,m)=>.ret sc (.c (.ld s o h m))
  | some (sc,some l,h,m)=>.ret sc (.c (.ld s (W9 o m l sz) (h-l) (m-l)))
  | none=>.fail
 | .c (.iK s n c)=>match mx with
  | none=>match mF n c lo hi none with
   | some (sc,none,h,m)=>.ret sc (.c (.iK s h m))
   | _=>.fail
  | some _=>.fail
 | _=>.fail
def fW (T:cC)(i:TI)(x ix:SV):Q:=
 match ix with
 | .c (.v (.int _ n))=>match i.k with
  | .slice e=>match au T e with
   | some ei=>match x with
    | .c (.v (.slice a len _))=>.ret [a.isSome=true,0<=n/\n<(len:Int)] (.c (.v (.pointer (addrAdd a (n.toNat*ei.size)))))
    | .c (.ld s o len _)=>.ret [0<=n/\n<(len:Int)] (.c (.ptr s (o+n.toNat*ei.size)))
    | .c (.iK s len c)=>.ret [0<=n/\n<(len:Int),len<=c] (.c (.ptr s (n.toNat*ei.size)))
    | _=>.fail
   | none=>.fail
  | .arr len e=>match au T e with
   | some ei=>match x with
    | .c (.ptr s o)=>.ret [0<=n/\n<(len:Int)] (.c (.ptr s (o+n.toNat*ei.size)))
    | .c (.v (.pointer a))=>.ret [a.isSome=true,0<=n/\n<(len:Int)] (.c (.v (.pointer (addrAdd a (n.toNat*ei.size)))))
    | _=>.fail
   | none=>.fail
  | _=>.fail
 | _=>.fail
def yV (T:cC)(i:TI)(l c:SV):Q:=
 match i.k with
 | .slice e=>match au T e with
  | some ei=>match l,c with
   | .c (.v (.int _ n)),.c (.v (.int _ m))=>match jY ei.zero with
    | some zs=>if Nat.beq ei.bytes 0||Nat.beq ei.size 0||!(Nat.beq ei.size zs.length) then .fail else .new [0<=n,n<=m,(ei.bytes:Int)*m<=140737488355328] ⟨.row (oh m.toNat zs),e⟩ fun d=>.c (.ld d 0 n.toNat m.toNat)
    | none=>.fail
   | _,_=>.fail
  | none=>.fail
 | _=>.fail
def vd:List SV->Option (List Nat)
 | []=>some []
 | .c (.ptr s 0)::r=>match vd r with
  | some l=>some (s::l)
  | none=>none
 | _=>none
def bL (ρ:Operand->Option SV):List Operand->Option (List SV)
 | []=>some []
 | o::r=>match ρ o,bL ρ r with
  | some x,some l=>some (x::l)
  | _,_=>none
def bJ (a b:Int):Int:=if b<a then b else a
def maxI (a b:Int):Int:=if b>a then b else a
def foldI (f:Int->Int->Int)(k:IntKind)(a:Int):List SV->Option Int
 | []=>some a
 | .c (.v (.int k' b))::r=>if uF k k' then foldI f k (f a b) r else none
 | _=>none
def dL (bx:Nat->Option aH)(s:Nat):Option (List Value):=
 match bx s with
 | some ⟨.lit cs,_⟩=>jY cs
 | some ⟨.row vs,_⟩=>some vs
 | _=>none
def jD (bx:Nat->Option aH)(s:Nat):Option TypeId:=match bx s with|some b=>some b.ty|none=>none
def rowTake (ws:List Value)(o n:Nat):List Value:=cond (Nat.ble (o+n) ws.length) ((ws.drop o).take n) (List.replicate n (.agg #[]))
def rowTakeM (ws:List Value)(k c sz:Nat):List Value:=cond (Nat.ble k c) (rowTake ws 0 (k*sz)) (List.replicate (k*sz) (.agg #[]))
def bS (bx:Nat->Option aH)(e:TypeId)(ei:TI)(b x:SV):Q:=
 match jY ei.zero with
 | none=>.fail
 | some zs=>if Nat.beq ei.bytes 0||Nat.beq ei.size 0||!(Nat.beq ei.size zs.length) then .fail else
  let src:Option (OA×Nat ⊕ List Value):=match x with
   | .c (.v (.slice a k _))=>some (.inl (a,k))
   | .c (.ld s o k _)=>match bx s with
    | some ⟨.row ws,_⟩=>some (.inr (rowTake ws o (k*ei.size)))
    | _=>match dL bx s with
     | some ws=>if Nat.ble (o+k*ei.size) ws.length then some (.inr ((ws.drop o).take (k*ei.size))) else none
     | none=>none
   | .c (.iK s k c)=>match bx s with
    | some ⟨.aN ws,_⟩=>some (.inr (rowTakeM ws k c ei.size))
    | _=>none
   | _=>none
  match src with
  | none=>.fail
  | some src=>match b with
   | .c (.v (.slice a n c))=>.app none a [] n c src ei.size ei.bytes e
   | .c (.ld s 0 n c)=>match dL bx s,jD bx s with
    | some vs,some ty=>if Nat.beq ty e then .app (some s) none vs n c src ei.size ei.bytes e else .fail
    | _,_=>.fail
   | .c (.iK s n c)=>match bx s with
    | some ⟨.aN vs,ty⟩=>if Nat.beq ty e then .qJ s vs n c src ei.size ei.bytes e else .fail
    | _=>.fail
   | _=>.fail
def jU (b:Builtin)(k:TK)(xs:List SV):Q:=
 match xs with
 | []=>.fail
 | x::r=>match b with
  | .len=>match r,k,x with
   | [],.slice _,.c (.v (.slice _ n _))=>.ret [] (.c (.v (.int .i64 n)))
   | [],.slice _,.c (.ld _ _ n _)=>.ret [] (.c (.v (.int .i64 n)))
   | [],.slice _,.c (.iK _ n _)=>.ret [] (.c (.v (.int .i64 n)))
   | [],.str,.c (.v (.string s))=>.ret [] (.c (.v (.int .i64 s.size)))
   | _,_,_=>.fail
  | .cap=>match r,k,x with
   | [],.slice _,.c (.v (.slice _ _ c))=>.ret [] (.c (.v (.int .i64 c)))
   | [],.slice _,.c (.ld _ _ _ c)=>.ret [] (.c (.v (.int .i64 c)))
   | [],.slice _,.c (.iK _ _ c)=>.ret [] (.c (.v (.int .i64 c)))
   | _,_,_=>.fail
  | .min=>match x with
   | .c (.v (.int k a))=>match foldI bJ k a r with
    | some m=>.ret [] (.c (.v (.int k m)))
    | none=>.fail
   | _=>.fail
  | .max=>match x with
   | .c (.v (.int k a))=>match foldI maxI k a r with
    | some m=>.ret [] (.c (.v (.int k m)))
    | none=>.fail
   | _=>.fail
  | _=>.fail
def vf (t:TypeId)(i:TI)(v:SV):Q:=
 match i.k with
 | .iface=>.fail
 | _=>match v.ids,v.uE with
  | [],false=>.ret [] (.c (.w (.iface t (v.den fun _=>0))))
  | _,_=>.fail
def kI (T:cC)(bx:Nat->Option aH)(t:TypeId)(x:SV):Q:=
 match au T t with
 | some i=>match i.k with
  | .slice e=>match au T e with
   | some ei=>match jY ei.zero,x with
    | some zs,.c (.ld s o n _)=>match bx s with
     | some ⟨.row vs,ty⟩=>if Nat.beq ei.size 0||!(Nat.beq ei.size zs.length)||!(zs.all Value.oneCell') then .fail else .sC [o+n*ei.size<=vs.length] s ⟨.row (vs.take o++oh n zs++vs.drop (o+n*ei.size)),ty⟩
     | _=>.fail
    | _,_=>.fail
   | none=>.fail
  | _=>.fail
 | none=>.fail
def F2:List C->Option (List (OA×Nat×Nat))
 | []=>some []
 | .v (.slice p n c)::r=>match F2 r with
  | some l=>some ((p,n,c)::l)
  | none=>none
 | _=>none
def jV (T:cC)(i:TI)(cs:List C)(k:Int):Q:=
 match i.k with
 | .arr n e=>match au T e,F2 cs with
  | some ei,some l=>match ei.k with
   | .slice _=>if Nat.beq ei.size 1&&Nat.beq l.length n then .ret [0<=k/\k<(n:Int)] (.c (.v (.slice (l.getD k.toNat (none,0,0)).1 (l.getD k.toNat (none,0,0)).2.1 (l.getD k.toNat (none,0,0)).2.2))) else .fail
   | _=>.fail
  | _,_=>.fail
 | _=>.fail
def aD (T:cC)(ρ:Operand->Option SV)(bx:Nat->Option aH)(op:Op):Q:=
 match op with
 | .move x|.assign x=>match ρ x with
  | some v=>.ret [] v
  | none=>.fail
 | .pick c a b=>match ρ c with
  | some (.c .tt)=>match ρ a with
   | some v=>.ret [] v
   | none=>.fail
  | some (.c .ff)=>match ρ b with
   | some v=>.ret [] v
   | none=>.fail
  | _=>.fail
 | .alloc t=>match au T t with
  | some i=>.new [] ⟨.lit i.zero,t⟩ fun d=>.c (.ptr d 0)
  | none=>.fail
 | .box t x=>match ρ x with
  | some v=>match v.uE with
   | true=>.fail
   | false=>.new v.eJ ⟨.lit v.cells,t⟩ fun d=>.c (.ptr d 0)
  | none=>.fail
 | .build t parts=>match au T t,partsOf ρ parts.toList with
  | some i,some ps=>match i.k with
   | .struct fs=>match fj T fs with
    | some pl=>match mU (fun j=>pl[j]?) i.zero ps with
     | some cs=>.ret (ps.flatMap fun x=>x.2.eJ) (.agg cs)
     | none=>.fail
    | none=>.fail
   | .arr _ e=>match au T e with
    | some ei=>match mU (fun j=>some (j*ei.size,ei.size)) i.zero ps with
     | some cs=>.ret (ps.flatMap fun x=>x.2.eJ) (.agg cs)
     | none=>.fail
    | none=>.fail
   | _=>.fail
  | _,_=>.fail
 | .buildSlice t len parts=>match au T t,partsOf ρ parts.toList with
  | some i,some ps=>match i.k with
   | .slice e=>match au T e with
    | some ei=>if Nat.ble (len*ei.size) 16777216&&Nat.beq ei.zero.length ei.size&&!(Nat.beq ei.size 0) then match mU (fun j=>some (j*ei.size,ei.size)) (rep len ei.zero) ps with
      | some cs=>.new (ps.flatMap fun x=>x.2.eJ) ⟨.lit cs,e⟩ fun d=>.c (.ld d 0 len len)
      | none=>.fail
     else .fail
    | none=>.fail
   | _=>.fail
  | _,_=>.fail
 | .load t a=>match au T t,ρ a with
  | some i,some x=>iD bx i x
  | _,_=>.fail
 | .store t a x=>match au T t,ρ a,ρ x with
  | some i,some av,some xv=>fX bx i av xv
  | _,_,_=>.fail
 | .nilCheck x=>match ρ x with
  | some (.c (.ptr s o))=>.ret [] (.c (.ptr s o))
  | some (.c (.v (.pointer p)))=>.ret [p.isSome=true] (.c (.v (.pointer p)))
  | _=>.fail
 | .binOp o xt x y _=>match ρ x,ρ y with
  | some (.c a),some (.c b)=>match b with
   | .v .nilIface=>match y with
    | .const _=>Av T o xt a b
    | _=>.fail
   | b=>Av T o xt a b
  | _,_=>.fail
 | .unOp .not _ x=>match ρ x with
  | some (.c .tt)=>.ret [] (.c .ff)
  | some (.c .ff)=>.ret [] (.c .tt)
  | some (.c (.v (.bool b)))=>.ret [] (.c (.v (.bool (!b))))
  | _=>.fail
 | .unOp .xor _ x=>match ρ x with
  | some (.c (.v (.int k n)))=>.ret [] (.c (.v (.int k (bh .xor k (if k.signed then -1 else k.max) n))))
  | _=>.fail
 | .unOp .neg _ x=>match ρ x with
  | some (.c (.v (.int k n)))=>.ret [] (.c (.v (.int k (k.wrap (0-n)))))
  | _=>.fail
 | .convert src dst x=>match au T src,au T dst,ρ x with
  | some _,some i,some (.c (.v (.int _ n)))=>match i.k with
   | .int k=>.ret [] (.c (.v (.int k (k.wrap n))))
   | _=>.fail
  | _,_,_=>.fail
 | .makeFunc (.func f) first caps=>match first.toList with
  | []=>match bL ρ caps.toList with
   | some xs=>match vd xs with
    | some ss=>.ret [] (.c (.yx f ss))
    | none=>.fail
   | none=>.fail
  | _=>.fail
 | .makeSlice t l c=>match au T t,ρ l,ρ c with
  | some i,some lv,some cv=>yV T i lv cv
  | _,_,_=>.fail
 | .slice t x lo hi mx=>match au T t,ρ x,Am ρ lo,Am ρ hi,Am ρ mx with
  | some i,some xv,some l,some h,some m=>match i.k with
   | .slice e=>match au T e with
    | some ei=>qP ei.size xv l h m
    | none=>.fail
   | _=>.fail
  | _,_,_,_,_=>.fail
 | .fieldAddr t x f=>match au T t,ρ x with
  | some i,some xv=>match i.k with
   | .struct fs=>match fs[f]? with
    | some (ft,off)=>match au T ft with
     | some fi=>if Nat.beq fi.size 0 then .fail else match xv with
      | .c (.ptr s o)=>.ret [] (.c (.ptr s (o+off)))
      | .c (.v (.pointer p))=>.ret [p.isSome=true] (.c (.v (.pointer (addrAdd p off))))
      | _=>.fail
     | none=>.fail
    | none=>.fail
   | _=>.fail
  | _,_=>.fail
 | .field t x f=>match au T t,ρ x with
  | some i,some (.agg cs)=>match i.k with
   | .struct fs=>match fs[f]? with
    | some (ft,off)=>match au T ft with
     | some fi=>match fi.k with
      | .struct _|.arr _ _=>.ret [] (.agg ((cs.drop off).take fi.size))
      | _=>match cs[off]? with
       | some c=>.ret [] (.c c)
       | none=>.fail
     | none=>.fail
    | none=>.fail
   | _=>.fail
  | _,_=>.fail
 | .indexAddr t x ix=>match au T t,ρ x,ρ ix with
  | some i,some xv,some iv=>fW T i xv iv
  | _,_,_=>.fail
 | .extract x j=>match ρ x with
  | some (.ou xs)=>match xs[j]? with
   | some v=>match qn v with
    | some y=>.ret [] y
    | none=>.fail
   | none=>.fail
  | _=>.fail
 | .call c=>match c.callee with
  | .builtin .append=>match bL ρ c.args.toList,c.argTypes.toList with
   | some [b,x],[t,t']=>match au T t,au T t' with
    | some i,some i'=>match i.k,i'.k with
     | .slice e,.slice _=>match au T e with
      | some ei=>bS bx e ei b x
      | none=>.fail
     | _,_=>.fail
    | _,_=>.fail
   | _,_=>.fail
  | .builtin .clear=>match bL ρ c.args.toList,c.argTypes.toList with
   | some [x],[t]=>kI T bx t x
   | _,_=>.fail
  | .builtin b=>match bL ρ c.args.toList,c.argTypes.toList with
   | some xs,t::_=>match au T t with
    | some i=>jU b i.k xs
    | none=>.fail
   | _,_=>.fail
  | _=>.fail
 | .index t x ix=>match au T t,ρ x,ρ ix with
  | some i,some (.c (.v (.string s))),some (.c (.v (.int _ n)))=>match i.k with
   | .str=>.ret [0<=n/\n<(s.size:Int)] (.c (.v (.int .u8 ((s.data.toList.getD n.toNat 0).toNat:Int))))
   | _=>.fail
  | some i,some (.agg cs),some (.c (.v (.int _ n)))=>jV T i cs n
  | _,_,_=>.fail
 | .makeInterface t x=>match au T t,ρ x with
  | some i,some v=>vf t i v
  | _,_=>.fail
 | _=>.fail
def zv:List Prop->Prop->Prop
 | [],k=>k
 | p::r,k=>p/\zv r k
def View.Ll (V:View)(p:Addr):Nat->List C->Prop->Prop
 | _,[],k=>k
 | i,c::r,k=>V.at (p.add i) (c.den fun _=>0)/\V.Ll p (i+1) r k
def View.Kh (V:View)(p:OA)(x:SV)(k:Prop):Prop:=
 match x with
 | .agg cs=>∃a,p=some a/\V.Ll a 0 cs k
 | .c c=>(∃a,p=some a/\V.at a (c.den fun _=>0))/\k
 | .ou _=>False
def Lp (vs:List Value)(o size:Nat)(x:SV):Prop:=
 match x with
 | .agg cs=>o+size<=vs.length/\(vs.drop o).take size=cs.map (C.den fun _=>0)
 | .c c=>vs[o]?=some (c.den fun _=>0)
 | .ou _=>False
def ee (x:Nat):List Nat->Bool
 | []=>false
 | y::r=>cond (Nat.beq x y) true (ee x r)
def dedup:List Nat->List Nat
 | []=>[]
 | x::r=>let l:=dedup r;cond (ee x l) l (x::l)
def uk (l m:List Nat):Bool:=l.all fun x=>!(ee x m)
def JJ (l m:List Nat):Bool:=l.all fun x=>ee x m
def C.rel (L:List Nat)(β:Nat->Nat)(J:C->Value):C->C
 | .ptr s o=>cond (ee s L) (.v (.pointer (some ⟨β s,o,none⟩))) (.ptr s o)
 | .ld s o n c=>cond (ee s L) (.v (.slice (some ⟨β s,o,none⟩) n c)) (.ld s o n c)
 | .iK s n c=>cond (ee s L) (.v (.slice (mA (β s) c) n c)) (.iK s n c)
 | .yx f ss=>cond (uk ss L) (.yx f ss) (.w (J (.yx f ss)))
 | x=>x
def SV.rel (L:List Nat)(β:Nat->Nat)(J:C->Value):SV->SV
 | .c x=>.c (x.rel L β J)
 | .agg cs=>.agg (cs.map (C.rel L β J))
 | .ou xs=>.ou (xs.map fun x=>(x.1,x.2.map (C.rel L β J)))
def aH.rel (L:List Nat)(β:Nat->Nat)(J:C->Value)(b:aH):aH:=
 match b.cs with
 | .row _=>b
 | .aN _=>b
 | .lit cs=>⟨.lit (cs.map (C.rel L β J)),b.ty⟩
def St.rel (st:St)(L:List Nat)(β:Nat->Nat)(J:C->Value):St:=
 ⟨fun t=>match st.ao t with|some x=>some (x.rel L β J)|none=>none,
   fun t=>cond (ee t L) none (match st.boxes t with|some b=>some (b.rel L β J)|none=>none)⟩
def View.sl (V:View)(a:OA)(xs:List Value):Prop:=∀i v,xs[i]?=some v->∃ad,a=some ad/\V.at (ad.add i) v
def mN (s d:Nat):Nat:=cond (Nat.blt s 100000) d (d+200000)
def Bo (s:Nat)(vs:List Value)(n c size bytes:Nat)(ty:TypeId)(d:Nat)(st:St)(V:View)(K:St->View->Prop)(k:Nat)(xs:List Value):Prop:=
 (n+k)*bytes<=140737488355328/\n<=c/\c*size<=vs.length/\xs.length=k*size/\(∀v∈xs,v.oneCell'=true) /\
  match st.boxes (mN s d) with
  | some _=>False
  | none=>∀(_:Nat)(_:C->Value)(spare:List Value)(c':Nat),n+k<=c'->c'*size<=(n+k)*size+spare.length ->
   K (((st.box s ⟨.aN [],ty⟩).box (mN s d) ⟨.row (vs.take (n*size)++xs++spare),ty⟩).put (some d) (.c (.ld (mN s d) 0 (n+k) c'))) V
def rL (s:Nat)(vs:List Value)(n c size bytes:Nat)(ty:TypeId)(d:Nat)(st:St)(V:View)(K:St->View->Prop)(k:Nat)(xs:List Value):Prop:=
 (n+k)*bytes<=140737488355328/\n<=c/\c*size<=vs.length/\xs.length=k*size/\(∀v∈xs,v.oneCell'=true) /\
  match st.boxes (mN s d) with
  | some _=>False
  | none=>∀(spare:List Value)(c':Nat),n+k<=c'->c'*size<=(n+k)*size+spare.length ->
   K (((st.box s ⟨.aN [],ty⟩).box (mN s d) ⟨.aN (vs.take (n*size)++xs++spare),ty⟩).put (some d) (.c (.iK (mN s d) (n+k) c'))) V
def Bp (vs:List Value)(n c size bytes:Nat)(ty:TypeId)(d:Nat)(st:St)(V:View)(K:St->View->Prop)(k:Nat)(xs:List Value):Prop:=
 (n+k)*bytes<=140737488355328/\c<n+k/\xs.length=k*size/\(∀v∈xs,v.oneCell'=true) /\
  match st.boxes d with
  | some _=>False
  | none=>∀(spare:List Value)(c':Nat),n+k<=c'->c'*size<=(n+k)*size+spare.length ->
   K ((st.box d ⟨.row (vs++xs++spare),ty⟩).put (some d) (.c (.ld d 0 (n+k) c'))) V
def sE (q:Q)(dst:Option Nat)(st:St)(V:View)(K:St->View->Prop):Prop:=
 match q with
 | .fail=>False
 | .ret sc x=>zv sc (K (st.put dst x) V)
 | .new sc b x=>match dst with
  | some d=>match st.boxes d with
   | none=>zv sc (K ((st.box d b).put (some d) (x d)) V)
   | some _=>False
  | none=>False
 | .sC sc s b=>match dst with
  | none=>zv sc (K (st.box s b) V)
  | some _=>False
 | .rd p sh=>sh.ex fun x=>V.Kh p x (K (st.put dst x) V)
 | .mV vs o size sh=>sh.ex fun x=>Lp vs o size x/\K (st.put dst x) V
 | .qJ s vs n c x size bytes ty=>match dst with
  | none=>False
  | some d=>match x with
   | .inr xs=>rL s vs n c size bytes ty d st V K (xs.length / size) xs
   | .inl (a,k)=>∃xs:List Value,V.sl a xs/\xs.length=k*size/\rL s vs n c size bytes ty d st V K k xs
 | .app old ba vs n c x size bytes ty=>match dst with
  | none=>False
  | some d=>match old with
   | some s=>match x with
    | .inr xs=>Bo s vs n c size bytes ty d st V K (xs.length / size) xs
    | .inl (a,k)=>∃xs:List Value,V.sl a xs/\xs.length=k*size/\Bo s vs n c size bytes ty d st V K k xs
   | none=>∃vs:List Value,V.sl ba vs/\vs.length=n*size/\n<=c/\(ba.isNone=true->c=0)/\(match x with
    | .inr xs=>Bp vs n c size bytes ty d st V K (xs.length / size) xs
    | .inl (a,k)=>∃xs:List Value,V.sl a xs/\xs.length=k*size/\(k=0->K (st.put (some d) (.c (.v (.slice ba n c)))) V)/\(k≠0->Bp vs n c size bytes ty d st V K k xs))
def cD (β:Nat->Nat)(s b:Nat):Nat->Nat:=fun t=>cond (Nat.beq t s) b (β t)
def kb:List Nat->(Nat->Nat)->((Nat->Nat)->Prop)->Prop
 | [],β,k=>k β
 | s::r,β,k=>∀b:Nat,kb r (cD β s b) k
def kd (bx:Nat->Option aH)(s:Nat):List Nat:=match bx s with|some b=>b.cs.ids|none=>[]
def reach (bx:Nat->Option aH):Nat->List Nat->List Nat
 | 0,l=>l
 | n+1,l=>reach bx n (dedup (l++l.flatMap (kd bx)))
def gj (bx:Nat->Option aH)(l:List Nat):Bool:=l.all fun s=>JJ (kd bx s) l
def Mt (bx:Nat->Option aH)(b:aH)(β:Nat->Nat)(s:Nat):List Nat->Prop->Prop
 | [],k=>k
 | t::r,k=>cond (Nat.beq s t) (Mt bx b β s r k) (match bx t with
  | some b'=>oP (Hq b++Hq b') (β s≠β t)->Mt bx b β s r k
  | none=>False)
def gT (bx:Nat->Option aH)(β:Nat->Nat)(V:View):List Nat->Prop->Prop
 | [],k=>k
 | s::r,k=>match bx s with
  | some b=>oP (Hq b) (V.w.heap[β s]?=some (b.obj β))->oP (Hq b) (V.H (β s))->gT bx β V r (Mt bx b β s r k)
  | none=>False
def vb (vs:List Value)(n b:Nat):Nat:=
 match vs with
 | []=>n
 | _::_=>b
def cJ (bx:Nat->Option aH)(β:Nat->Nat)(n:Nat)(s:Nat):Nat:=
 match bx s with
 | some ⟨.aN vs,_⟩=>vb vs n (β s)
 | _=>β s
def C.kept:C->List Nat
 | .yx _ ss=>0::ss
 | c=>c.ids
def ky (mv:Option (Nat×Nat)):List C->List C->(List C->Prop)->Prop
 | [],_,K=>K []
 | c::r,z::zr,K=>match c with
  | .iK t _ _=>match mv with
   | some (m,nb)=>match Nat.beq t m with
    | true=>∃n c:Nat,ky mv r zr fun cs=>K (.iK nb n c::cs)
    | false=>False
   | none=>False
  | c=>match c.kept with
   | []=>(Ry z).ex fun v=>ky mv r zr fun cs=>K (v::cs)
   | _=>ky mv r zr fun cs=>K (c::cs)
 | _,[],_=>False
def dE (T:cC)(mv:Option (Nat×Nat))(β:Nat->Nat)(V:View):List Nat->St->(St->Prop)->Prop
 | [],st,k=>k st
 | s::r,st,k=>match st.boxes s with
  | some ⟨.lit cs,ty⟩=>match au T ty with
   | some i=>ky mv cs i.zero fun cs'=>V.w.heap[β s]?=some (.cells (cs'.map (C.den β)).toArray ty (0,0))/\dE T mv β V r (st.box s ⟨.lit cs',ty⟩) k
   | none=>False
  | some ⟨.row _,ty⟩=>∃vs:List Value,V.w.heap[β s]?=some (.cells vs.toArray ty (0,0))/\dE T mv β V r (st.box s ⟨.row vs,ty⟩) k
  | some ⟨.aN vs,ty⟩=>vs≠[]/\∃vs':List Value,vs'≠[]/\V.w.heap[β s]?=some (.cells vs'.toArray ty (0,0))/\dE T mv β V r (st.box s ⟨.aN vs',ty⟩) k
  | _=>False
def pk (bx:Nat->Option aH)(β:Nat->Nat)(V:View):List Nat->Prop->Prop
 | [],k=>k
 | s::r,k=>match bx s with
  | some b=>oP (Hq b) (V.bg (β s) (b.obj β))->pk bx β V r k
  | none=>False
def nI:List C->List Nat
 | []=>[]
 | .iK t _ _::r=>t::nI r
 | _::r=>nI r
def oU (bx:Nat->Option aH)(L:List Nat):List Nat:=dedup (L.flatMap fun s=>match bx s with|some ⟨.lit cs,_⟩=>nI cs|_=>[])
def kC:List SV->List Nat
 | []=>[]
 | .c (.iK s _ _)::_=>[s]
 | .c (.ld s 0 _ _)::_=>[s]
 | _::r=>kC r
def tm (nb:Nat):List (Bool×List C)->List (Bool×List C)
 | []=>[]
 | (false,[.v (.slice _ n c)])::r=>(false,[.iK nb n c])::r
 | x::r=>x::tm nb r
def z_ (nb:Nat):List C->List C
 | []=>[]
 | .v (.slice _ n c)::r=>.iK nb n c::r
 | x::r=>x::z_ nb r
def qC (nb:Nat):SV->SV
 | .c (.v (.slice _ n c))=>.c (.iK nb n c)
 | .agg cs=>.agg (z_ nb cs)
 | .ou xs=>.ou (tm nb xs)
 | x=>x
def Aa (T:cC):List TypeId->Option TypeId
 | []=>none
 | t::r=>match au T t with
  | some i=>match i.k with
   | .slice e=>some e
   | _=>Aa T r
  | none=>none
def Io (T:cC)(ty:TypeId):Option TypeId:=
 match au T ty with
 | some i=>match i.k with
  | .slice e=>some e
  | .tuple ts=>Aa T ts
  | .struct fs=>Aa T (fs.map Prod.fst)
  | _=>none
 | none=>none
def aF (β:Nat->Nat)(xs:List SV):Array Value:=(xs.map (SV.den β)).toArray
inductive CM where
 | none|lend|rel|gR|give
def eG (m:Option Nat)(d:Nat):Nat:=
 match m with
 | some m=>mN m d
 | Option.none=>d
def Zn (m:Option Nat)(nb:Nat):Option (Nat×Nat):=
 match m with
 | some m=>some (m,nb)
 | Option.none=>Option.none
def Cl (m:Option Nat)(L:List Nat):List Nat:=
 match m with
 | some m=>L.filter fun s=>!(Nat.beq s m)
 | Option.none=>L
def oN (m:Option Nat)(ety:TypeId)(st:St):St:=
 match m with
 | some m=>st.box m ⟨.aN [],ety⟩
 | Option.none=>st
def wi (m:Option Nat)(st:St)(β:Nat->Nat)(b':Nat):Prop:=
 match m with
 | some m=>match st.boxes m with
  | some ⟨.aN vs,_⟩=>vs≠[]/\b'=β m
  | _=>b'=β m
 | Option.none=>False
def bH (T:cC)(give:Bool)(sh:Sh)(L:List Nat)(m:Option Nat)(d:Nat)(ety:TypeId)(β:Nat->Nat)(st:St)(V':View)(K:St->View->Prop)(r':Value)(dX:View):Prop:=
 ∃(b':Nat)(vs':List Value),(vs'≠[]->dX.w.heap[b']?=some (.cells vs'.toArray ety (0,0)))/\(vs'≠[]->V'.w.heap.size<=b'\/wi m st β b') /\
  sh.ex fun x=>r'=(cond give (qC (eG m d) x) x).den (cD β (eG m d) b') /\
   dE T (Zn m (eG m d)) (cD β (eG m d) b') dX (Cl m L) ((oN m ety st).box (eG m d) ⟨.aN vs',ety⟩) fun st'=>K (st'.put (some d) (cond give (qC (eG m d) x) x)) (dX.shut.hideG (vs'≠[]) b')
def AD (bx:Nat->Option aH)(m ety:Nat):Bool:=
 match bx m with
 | some ⟨_,t⟩=>Nat.beq t ety
 | Option.none=>true
def c_ (st:St)(L:List Nat)(ty:TypeId):St:=L.foldl (fun st s=>st.box s ⟨.aN [],ty⟩) st
def iA (st:St)(m:Option Nat)(d:Nat):Bool:=
 match st.boxes (eG m d) with
 | some _=>false
 | Option.none=>true
def eV (P:Program)(T:cC)(m:CM)(f:FuncId)(xs:List SV)(ty:TypeId)(dst:Option Nat)(st:St)(V:View)(K:St->View->Prop):Prop:=
 match Uz T ty with
 | Option.none=>False
 | some sh=>match reach st.boxes 3 (dedup (xs.flatMap SV.ids)) with
  | []=>match m with
   | .give=>match dst,Io T ty with
    | some d,some ety=>match iA st Option.none d with
     | false=>False
     | true=>∀V':View,V.Le V'->Acts P f (aF (fun _=>0) xs) V' (bH T true sh [] Option.none d ety (fun _=>0) st V' K)
    | _,_=>False
   | .gR=>match sh,dst with
    | .val (.one .ptr),some d=>match st.boxes d with
     | some _=>False
     | Option.none=>match au T ty with
      | some ti=>match ti.k with
       | .ptr e=>match au T e with
        | some ei=>∀V':View,V.Le V'->Acts P f (aF (fun _=>0) xs) V' fun r dX=>∃b:Nat,M7 (ei.zero.map Ry) fun cs=>
          r=.pointer (some ⟨b,0,Option.none⟩)/\V'.w.heap.size<=b/\dX.bg b (.cells (cs.map (C.den fun _=>0)).toArray e (0,0))/\K ((st.box d ⟨.lit cs,e⟩).put (some d) (.c (.ptr d 0))) (dX.KK b)
        | Option.none=>False
       | _=>False
      | Option.none=>False
    | _,_=>False
   | _=>∀V':View,V.Le V'->Acts P f (aF (fun _=>0) xs) V' fun r dX=>sh.ex fun x=>r=x.den (fun _=>0)/\K (st.put dst x) dX
  | s::r=>match gj st.boxes (s::r) with
   | false=>False
   | true=>match m with
    | .none|.gR=>False
    | .give=>match dst,Io T ty,kC xs,oU st.boxes (s::r) with
     | some d,some ety,[],[]=>match iA st Option.none d with
      | false=>False
      | true=>∀V':View,V.Le V'->kb (s::r) (fun _=>0) fun β=>gT st.boxes β V' (s::r)
       (Acts P f (aF β xs) (V'.lend ((s::r).map (cJ st.boxes β V'.w.heap.size))) (bH T true sh (s::r) Option.none d ety β st V' K))
     | some d,some ety,[m],[]=>match AD st.boxes m ety with
      | true=>match iA st (some m) d with
       | false=>False
       | true=>∀V':View,V.Le V'->kb (s::r) (fun _=>0) fun β=>gT st.boxes β V' (s::r)
        (Acts P f (aF β xs) (V'.lend ((s::r).map (cJ st.boxes β V'.w.heap.size))) (bH T true sh (s::r) (some m) d ety β st V' K))
      | false=>match iA (c_ st (s::r) 0) Option.none d with
       | false=>False
       | true=>match (s::r).all fun t=>Nat.blt t 100000 with
        | false=>False
        | true=>∀V':View,V.Le V'->kb (s::r) (fun _=>0) fun β=>pk st.boxes β V' (s::r)
         (Acts P f (aF β xs) V' (bH T true sh [] Option.none d ety (fun _=>0) (c_ st (s::r) 0) V' K))
     | _,_,_,_=>False
    | .lend=>match oU st.boxes (s::r) with
     | []=>∀V':View,V.Le V'->kb (s::r) (fun _=>0) fun β=>gT st.boxes β V' (s::r)
      (Acts P f (aF β xs) (V'.lend ((s::r).map (cJ st.boxes β V'.w.heap.size))) fun r' dX=>sh.ex fun x=>r'=x.den (fun _=>0)/\dE T Option.none β dX (s::r) st fun st'=>K (st'.put dst x) dX.shut)
     | [m]=>match dst,jD st.boxes m with
      | some d,some ety=>match iA st (some m) d with
       | false=>False
       | true=>∀V':View,V.Le V'->kb (s::r) (fun _=>0) fun β=>gT st.boxes β V' (s::r)
        (Acts P f (aF β xs) (V'.lend ((s::r).map (cJ st.boxes β V'.w.heap.size))) (bH T false sh (s::r) (some m) d ety β st V' K))
      | _,_=>False
     | _=>False
    | .rel=>match (s::r).all fun t=>Nat.blt t 100000 with
     | false=>False
     | true=>∀V':View,V.Le V'->kb (s::r) (fun _=>0) fun β=>pk st.boxes β V' (s::r)
      (Acts P f (aF β xs) V' fun r' dX=>sh.ex fun x=>r'=x.den (fun _=>0)/\∀J:C->Value,K ((st.rel (s::r) β J).put dst x) dX)
def kO (bx:Nat->Option aH):List SV->Option (List Value×Nat×List SV)
 | []=>none
 | x::r=>match x with
  | .c (.iK s n c)=>match bx s with
   | some ⟨.aN vs,_⟩=>some (vs,c,.c (.v (.slice none n c))::r)
   | _=>none
  | x=>match kO bx r with
   | some (vs,c,r')=>some (vs,c,x::r')
   | none=>none
def jv (P:Program)(T:cC)(m:CM)(f:FuncId)(xs:List SV)(ty:TypeId)(dst:Option Nat)(st:St)(V:View)(K:St->View->Prop):Prop:=
 match m with
 | .lend=>match kO st.boxes xs with
  | some (vs,c,xs')=>(vs=[]->c=0/\eV P T .lend f xs' ty dst st V K)/\(vs≠[]->eV P T .lend f xs ty dst st V K)
  | none=>eV P T .lend f xs ty dst st V K
 | m=>eV P T m f xs ty dst st V K
def ub (ss:List Nat):List SV:=ss.map fun s=>.c (.ptr s 0)
inductive Hint where
 | free|own (l:List Nat)
def gO (op:Op):List Operand:=
 match op with
 | .load _ a=>[a]
 | .store _ a _=>[a]
 | .call ⟨.value f,args,_⟩=>args.toList++[f]
 | .call ⟨.builtin .append,args,_⟩=>args.toList
 | _=>[]
def dO (bx:Nat->Option aH)(op:Op)(l:List Nat):List Nat:=
 match op with
 | .call _=>reach bx 3 (dedup l)
 | _=>l
def Et (P:Program)(t:TypeId)(name:String):Option FuncId:=
 match P.info? t,P.underlying t with
 | some i,some d=>match i.methods.find? (fun m=>m.name==name) with
  | some m=>match m.path.toList,m.func,d with
   | [],some (f,false),.struct _=>some f
   | _,_,_=>none
  | none=>none
 | _,_=>none
def cx (P:Program)(T:cC)(m:CM)(o:Oper)(st:St)(V:View)(K:St->View->Prop):Prop:=
 match o.op with
 | .call ⟨.value Kb,args,_⟩=>match bL st.aR args.toList with
  | some xs=>match st.aR Kb with
   | some (.c (.yx f ss))=>jv P T m f (xs++ub ss) o.type o.dst st V K
   | _=>False
  | none=>False
 | .call ⟨.invoke recv name,args,_⟩=>match bL st.aR args.toList with
  | some xs=>match st.aR recv with
   | some (.c (.w (.iface t v)))=>match Et P t name with
    | some f=>jv P T m f (.c (.w v)::xs) o.type o.dst st V K
    | none=>False
   | _=>False
  | none=>False
 | op=>sE (aD T st.aR st.boxes op) o.dst st V K
def cg (P:Program)(T:cC)(m:CM)(h:Hint)(o:Oper)(st:St)(V:View)(K:St->View->Prop):Prop:=
 match h with
 | .free=>cx P T m o st V K
 | .own l=>match bL st.aR (gO o.op) with
  | some xs=>match JJ (dO st.boxes o.op (xs.flatMap SV.ids)) l with
   | true=>cx P T m o st V K
   | false=>False
  | none=>False
def iF:SV:=.ou []
def pQ (P:Program)(T:cC)(m:CM)(h:Hint)(ops:Array Oper)(o:Oper)(st:St)(V:View)(K:St->View->Prop):Prop:=
 match o.guard with
 | none=>cg P T m h o st V K
 | some (j,b)=>match (ops[j]?).bind (·.dst) with
  | none=>False
  | some g=>match st.ao g with
   | some (.c .tt)=>match b with
    | true=>cg P T m h o st V K
    | false=>K (st.put o.dst iF) V
   | some (.c .ff)=>match b with
    | true=>K (st.put o.dst iF) V
    | false=>cg P T m h o st V K
   | some (.c (.v (.bool c)))=>match b with
    | true=>(c=true->cg P T m h o (st.put (some g) (.c .tt)) V K)/\(c=false->K ((st.put (some g) (.c .ff)).put o.dst iF) V)
    | false=>(c=true->K ((st.put (some g) (.c .tt)).put o.dst iF) V)/\(c=false->cg P T m h o (st.put (some g) (.c .ff)) V K)
   | some (.ou _)=>K (st.put o.dst iF) V
   | _=>False
inductive RU where
 | pure|load|store|alloc|call|jO|odd|gR|app|give
def aV (LF RF:List Nat):Op->RU
 | .move _|.assign _|.pick ..| .build ..| .nilCheck _|.binOp ..| .unOp ..| .convert ..| .makeFunc ..| .slice ..| .fieldAddr ..| .field ..| .indexAddr ..| .extract ..| .index ..| .makeInterface ..=>.pure
 | .load ..=>.load
 | .store ..=>.store
 | .alloc _|.box ..| .buildSlice ..| .makeSlice ..=>.alloc
 | .call ⟨.builtin .len,_,_⟩|.call ⟨.builtin .cap,_,_⟩=>.pure
 | .call ⟨.builtin .append,_,_⟩=>.app
 | .call ⟨.value (.func f),_,_⟩=>match ee f LF with
  | true=>match ee (f+1000000) LF with
   | true=>.give
   | false=>.jO
  | false=>match ee f RF with
   | true=>.odd
   | false=>match ee (f+1000000) RF with
    | true=>.gR
    | false=>.call
 | .call ⟨.value _,_,_⟩=>.jO
 | .call ⟨.invoke _ _,_,_⟩=>.call
 | _=>.odd
def gP (op:Op):List Nat:=op.operands.toList.filterMap fun|.tmp t=>some t|_=>none
def di (ops:Array Oper)(o:Oper):List Nat:=
 match o.guard with
 | none=>[]
 | some (j,_)=>match (ops[j]?).bind (·.dst) with
  | some g=>[g]
  | none=>[]
def dD (o:Oper):List Nat:=match o.dst with|some d=>[d]|none=>[]
def pA (c:RU)(h:Hint)(d:List Nat):Option (List Nat×List Nat):=
 match c,h with
 | .pure,.free=>some ([],[])
 | .call,.free=>some ([],[])
 | .alloc,.free=>some (d,d)
 | .load,.own l=>some (l,[])
 | .store,.own l=>some (l,l)
 | .jO,.own l=>some (l,l++d++d.map (·+ 200000))
 | .app,.own l=>some (l,l++d++d.map (·+ 200000))
 | .give,.own l=>some (l,l++d++d.map (·+ 200000))
 | _,_=>none
def lO:RU->Bool
 | .pure|.load|.store|.alloc=>true
 | _=>false
def indep (LF RF:List Nat)(ops:Array Oper)(h1 h2:Hint)(o1 o2:Oper):Bool:=
 lO (aV LF RF o1.op) &&
 uk (dD o1) (gP o2.op++di ops o2++dD o2)&&uk (dD o2) (gP o1.op++di ops o1) &&
 uk (di ops o1) (gP o2.op)&&uk (di ops o2) (gP o1.op) &&
 match pA (aV LF RF o1.op) h1 (dD o1),pA (aV LF RF o2.op) h2 (dD o2) with
 | some (r1,w1),some (r2,w2)=>uk w1 r2&&uk w2 r1&&uk w1 w2
 | _,_=>false
def Pc (ops:List Oper)(t:Nat):Option Oper:=ops.find? fun o=>match o.dst with|some d=>Nat.beq d t|none=>false
def vt (st:St)(ops:List Oper):Nat->Operand->List Nat
 | 0,_=>[]
 | n+1,.tmp t=>match Pc ops t with
  | some o=>match o.op with
   | .alloc _|.box ..| .buildSlice ..| .makeSlice ..=>[t]
   | .call _=>[t,t+200000]
   | .assign x=>vt st ops n x++match st.ao t with
    | some x=>x.ids
    | none=>[]
   | .load _ a=>(vt st ops n a).flatMap (kd st.boxes)
   | op=>op.operands.toList.flatMap (vt st ops n)
  | none=>match st.ao t with
   | some x=>x.ids
   | none=>[]
 | _,_=>[]
def Is (LF RF:List Nat)(st:St)(ops:List Oper)(o:Oper):Hint:=
 match aV LF RF o.op with
 | .load|.store=>.own (dedup ((gO o.op).flatMap (vt st ops 10)))
 | .jO|.app|.give=>.own (reach st.boxes 3 (dedup ((gO o.op).flatMap (vt st ops 10))))
 | _=>.free
def Gh (ops:List Oper):List Nat:=
 ops.foldl (fun acc o=>acc++[o.after.toList.foldl (fun s e=>cond (Region.binds .any e) (Nat.lor (Nat.lor (Nat.shiftLeft 1 e.on) (acc.getD e.on 0)) s) s) 0]) []
def MT (m i:Nat):Bool:=Nat.beq (Nat.land (Nat.shiftRight m i) 1) 1
def KS (LF RF:List Nat)(o:Oper):Bool:=match aV LF RF o.op with|.call|.jO|.odd|.gR|.app|.give=>true|_=>false
def EK (ops:Array Oper)(done:List Nat)(i:Nat):Bool:=
 match ops[i]? with
 | some o=>!(ee i done)&&o.after.toList.all fun e=>!(Region.binds .any e)||ee e.on done
 | none=>false
def AF (LF RF:List Nat)(ops:Array Oper):Nat->List Nat->List Nat
 | 0,_=>[]
 | n+1,done=>
  let rs:=(List.range ops.size).filter (EK ops done)
  match rs.find? (fun i=>match ops[i]? with|some o=>!(KS LF RF o)|none=>false) with
  | some i=>i::AF LF RF ops n (i::done)
  | none=>match rs with
   | i::_=>i::AF LF RF ops n (i::done)
   | []=>[]
def nM (LF RF:List Nat)(ops:Array Oper):List Nat:=AF LF RF ops ops.size []
def tu (LF RF:List Nat)(ops:Array Oper)(hs:List Hint)(an:List Nat):List Nat->Bool
 | []=>true
 | i::r=>(r.all fun j=>MT (an.getD j 0) i||match ops[i]?,ops[j]? with|some a,some b=>indep LF RF ops (hs.getD i .free) (hs.getD j .free) a b|_,_=>false)&&tu LF RF ops hs an r
def ph (ops:Array Oper):List Nat->List Nat->Bool
 | _,[]=>true
 | done,i::r=>EK ops done i&&ph ops (i::done) r
def FP (LF RF:List Nat)(ops:Array Oper)(hs:List Hint)(l:List Nat):Bool:=
 Nat.beq l.length ops.size&&((List.range ops.size).all fun i=>ee i l)&&ph ops [] l&&tu LF RF ops hs (Gh ops.toList) l
def JO (P:Program)(T:cC)(m:Nat->CM)(hint:Nat->Hint)(ops:Array Oper):List Nat->St->View->(St->View->Prop)->Prop
 | [],st,V,K=>K st V
 | i::r,st,V,K=>match ops[i]? with
  | some o=>pQ P T (m i) (hint i) ops o st V fun st' V'=>JO P T m hint ops r st' V' K
  | none=>False
def jo (LF RF:List Nat)(ops:Array Oper)(i:Nat):CM:=
 match ops[i]? with
 | some o=>match aV LF RF o.op with
  | .jO=>.lend
  | .odd=>.rel
  | .gR=>.gR
  | .give=>.give
  | _=>.none
 | Option.none=>.none
def Qj (LF RF:List Nat)(ops:Array Oper)(i:Nat):CM:=
 match ops[i]? with
 | some o=>match aV LF RF o.op with
  | .jO=>.lend
  | .gR=>.gR
  | .give=>.give
  | _=>.rel
 | Option.none=>.none
structure Tm where
 τ:Type
 gh:Bool:=false
 TD:List Nat
 PN:List Nat
 ao:τ->List (Nat×SV)
 boxes:τ->List (Nat×aH)
structure MI where
 τ:Type
 ao:τ->List (Nat×SV)
 boxes:τ->List (Nat×aH)
def FD {α:Type}(f:Nat->Option α):List Nat->List (Nat×α)
 | []=>[]
 | t::r=>match f t with
  | some x=>(t,x)::FD f r
  | none=>FD f r
def Tm.at (A:Tm)(st:St):MI:=⟨A.τ,fun x=>FD st.ao A.TD++A.ao x,fun x=>FD st.boxes A.PN++A.boxes x⟩
def nB (ρ:List (Nat×Nat))(s s':Nat):Bool:=
 match au ρ s' with
 | some t=>Nat.beq s t
 | none=>Nat.beq s s'
def yC (ρ:List (Nat×Nat)):List Nat->List Nat->Bool
 | [],[]=>true
 | s::r,s'::r'=>nB ρ s s'&&yC ρ r r'
 | _,_=>false
def Rm (ρ:List (Nat×Nat)):C->C->List Prop
 | .v (.int k a),.v (.int k' b)=>cond (uF k k') [a=b] [False]
 | .v (.bool a),.v (.bool b)=>[a=b]
 | .tt,.v (.bool b)=>[true=b]
 | .ff,.v (.bool b)=>[false=b]
 | .v (.slice a n c),.v (.slice a' n' c')=>[a=a',n=n',c=c']
 | .v (.slice a n c),.iK _ n' c'=>[a=none,n=n',c=c',c=0]
 | .v (.pointer p),.v (.pointer q)=>[p=q]
 | .v x,.v y=>[x=y]
 | .w x,.w y=>[x=y]
 | .w x,.v y=>[x=y]
 | .v x,.w y=>[x=y]
 | .tt,.tt=>[]
 | .ff,.ff=>[]
 | .ptr s o,.ptr s' o'=>cond (nB ρ s s') [o=o'] [False]
 | .ld s o n c,.ld s' o' n' c'=>cond (nB ρ s s') [o=o',n=n',c=c'] [False]
 | .ld s o n c,.iK s' n' c'=>cond (nB ρ s s') [o=0,n=n',c=c',c≠0] [False]
 | .iK s n c,.iK s' n' c'=>cond (nB ρ s s') [n=n',c=c'] [False]
 | .yx f ss,.yx g ts=>cond (yC ρ ss ts) [f=g] [False]
 | _,_=>[False]
def D8 (ρ:List (Nat×Nat)):List C->List C->List Prop
 | [],[]=>[]
 | a::r,b::s=>Rm ρ a b++D8 ρ r s
 | _,_=>[False]
def M5 (ρ:List (Nat×Nat)):SV->SV->List Prop
 | .c a,.c b=>Rm ρ a b
 | .agg l,.agg m=>D8 ρ l m
 | _,_=>[False]
def SV.plain:SV->Bool
 | .ou _=>false
 | _=>true
def Ic (ρ:List (Nat×Nat))(a b:aH):List Prop:=
 match a.cs,b.cs with
 | .lit l,.lit m=>cond (Nat.beq a.ty b.ty) (D8 ρ l m) [False]
 | .row l,.row m=>cond (Nat.beq a.ty b.ty) [l=m] [False]
 | .aN l,.aN m=>cond (Nat.beq a.ty b.ty) [l=m] [False]
 | .row l,.aN m=>cond (Nat.beq a.ty b.ty) [l=m] [False]
 | .lit l,.aN m=>match jY l with
  | some ws=>cond (Nat.beq a.ty b.ty) [ws=m] [False]
  | none=>[False]
 | _,_=>[False]
def QO:C->C->List (Nat×Nat)
 | .ptr s _,.ptr s' _=>[(s',s)]
 | .ld s _ _ _,.ld s' _ _ _=>[(s',s)]
 | .ld s _ _ _,.iK s' _ _=>[(s',s)]
 | .iK s _ _,.iK s' _ _=>[(s',s)]
 | .yx _ ss,.yx _ ts=>ts.zip ss
 | _,_=>[]
def Jx:List C->List C->List (Nat×Nat)
 | a::r,b::s=>QO a b++Jx r s
 | _,_=>[]
def QP:SV->SV->List (Nat×Nat)
 | .c a,.c b=>QO a b
 | .agg l,.agg m=>Jx l m
 | _,_=>[]
def N0 (st:St):List (Nat×SV)->List (Nat×Nat)
 | []=>[]
 | (t,x)::r=>match st.ao t with
  | some y=>QP y x++N0 st r
  | none=>N0 st r
def Hb (st:St)(ρ:List (Nat×Nat)):List (Nat×aH)->List (Nat×Nat)
 | []=>[]
 | (t,x)::r=>match au ρ t with
  | some s=>match st.boxes s with
   | some y=>(match y.cs,x.cs with|.lit l,.lit m=>Jx l m|_,_=>[])++Hb st ρ r
   | none=>Hb st ρ r
  | none=>Hb st ρ r
def Jw (st:St)(ss:List (Nat×SV))(bs:List (Nat×aH)):List (Nat×Nat):=
 let ρ1:=N0 st ss
 let ρ2:=ρ1++Hb st ρ1 bs
 let ρ3:=ρ2++Hb st ρ2 bs
 ρ3++Hb st ρ3 bs
def AA (ρ:List (Nat×Nat))(t:Nat):Nat:=
 match au ρ t with
 | some s=>s
 | none=>t
def yZ (ρ:List (Nat×Nat)):List Nat->Bool
 | []=>true
 | t::r=>(Nat.blt t 100000==Nat.blt (AA ρ t) 100000)&&(Nat.blt t 100000||Nat.ble 200000 t||Nat.beq (AA ρ t) t)&&(r.all fun u=>!(Nat.beq (AA ρ t) (AA ρ u)))&&yZ ρ r
def lQ (ρ:List (Nat×Nat)):List (Nat×aH)->List Nat
 | []=>[]
 | (t,x)::r=>match x.cs with
  | .aN _=>match au ρ t with
   | some _=>t::lQ ρ r
   | none=>lQ ρ r
  | _=>t::lQ ρ r
def KC (ρ:List (Nat×Nat))(st:St):List (Nat×SV)->List Prop
 | []=>[]
 | (t,x)::r=>match st.ao t with
  | some y=>M5 ρ y x++KC ρ st r
  | none=>[False]
def GG (ρ:List (Nat×Nat))(st:St):List (Nat×aH)->List Prop
 | []=>[]
 | (t,x)::r=>match x.cs,au ρ t with
  | .aN l,none=>(l=[])::GG ρ st r
  | _,_=>match st.boxes (AA ρ t) with
   | some y=>Ic ρ y x++GG ρ st r
   | none=>[False]
def Pb (ρ:List (Nat×Nat))(bs:List (Nat×aH)):List Prop:=cond (yZ ρ (lQ ρ bs)) [] [False]
def lY (ss:List (Nat×SV))(bs:List (Nat×aH)):Bool:=
 let l:=bs.map (·.1)
 (ss.all fun x=>x.2.ids.all fun s=>ee s l)&&(bs.all fun x=>x.2.cs.ids.all fun s=>ee s l)
def MI.st (A:MI)(x:A.τ):St:=⟨au (A.ao x),au (A.boxes x)⟩
def MP:List Prop->Prop
 | []=>True
 | [p]=>p
 | p::r=>p/\MP r
def MI.fits (A:MI)(st:St)(x:A.τ)(k:Prop):Prop:=
 let ρ:=Jw st (A.ao x) (A.boxes x)
 MP (KC ρ st (A.ao x)++GG ρ st (A.boxes x)++Pb ρ (A.boxes x))/\k
def keyOf:Code->Nat
 | .region id _ _=>id
 | .seq a _=>keyOf a
 | .cond _ a b=>match keyOf a with
  | 1000000=>keyOf b
  | n=>n
 | .block _ a=>keyOf a
 | .loop a=>keyOf a
 | .scope a=>keyOf a
 | _=>1000000
abbrev Bk:=List (Nat×Tm)
def ow:Bk->Nat->Option Tm
 | [],_=>none
 | (s,x)::r,t=>cond (Nat.beq t s) (some x) (ow r t)
def Mv (RF:List Nat)(id:Nat):List Nat:=RF.filterMap fun x=>cond (Nat.beq (x / 100000) (100+id)) (some (x%100000)) none
def F_ (l:List Nat)(st:St)(V:View)(K:St->View->Prop):Prop:=
 match l with
 | []=>K st V
 | s::r=>match gj st.boxes (s::r)&&(s::r).all fun t=>Nat.blt t 100000 with
  | false=>False
  | true=>∀V':View,V.Le V'->kb (s::r) (fun _=>0) fun β=>pk st.boxes β V' (s::r) (∀J:C->Value,K (st.rel (s::r) β J) V')
def C6 (P:Program)(T:cC)(LF RF:List Nat)(ops:Array Oper)(draw:Bool)(st:St)(V:View)(K:St->View->Prop):Prop:=
 match draw with
 | false=>JO P T (Qj LF RF ops) (fun _=>.free) ops (List.range ops.size) st V K
 | true=>let hs:=ops.toList.map (Is LF RF st ops.toList)
  match FP LF RF ops hs (nM LF RF ops) with
  | true=>JO P T (jo LF RF ops) (fun i=>hs.getD i .free) ops (nM LF RF ops) st V K
  | false=>False
def UJ (F:St->View->(Exit->St->View->Prop)->Prop):Nat->St->View->(Exit->St->View->Prop)->Prop
 | 0,_,_,_=>False
 | n+1,st,V,K=>F st V fun e st' V'=>match e with
  | .normal=>UJ F n st' V' K
  | e=>K e st' V'
def vc (P:Program)(T:cC)(LF RF:List Nat)(L J:Bk):Code->St->View->(Exit->St->View->Prop)->Prop
 | .skip,st,V,K=>K .normal st V
 | .region id ops draw,st,V,K=>match ow J (600000+id) with
  | none=>F_ (Mv RF id) st V fun st' V'=>C6 P T LF RF ops draw st' V' (K .normal)
  | some A=>∃I:A.τ->View->Prop,F_ (Mv RF id) st V (fun st' V'=>C6 P T LF RF ops draw st' V' fun JG dX=>∃x,(A.at st).fits JG x (I x dX)) /\
   ∀x V',V.Le V'->I x V'->(lY ((A.at st).ao x) ((A.at st).boxes x)=true/\K .normal ((A.at st).st x) V')
 | .seq a b,st,V,K=>vc P T LF RF L J a st V fun e st' V'=>match e with
  | .normal=>vc P T LF RF L J b st' V' K
  | e=>K e st' V'
 | .cond c a b,st,V,K=>match ow J (keyOf (.cond c a b)) with
  | none=>match st.aR c with
   | some (.c .tt)=>vc P T LF RF L J a st V K
   | some (.c .ff)=>vc P T LF RF L J b st V K
   | some (.c (.v (.bool t)))=>(t=true->vc P T LF RF L J a st V K)/\(t=false->vc P T LF RF L J b st V K)
   | _=>False
  | some A=>match st.aR c with
   | some (.c .tt)=>vc P T LF RF L J a st V K
   | some (.c .ff)=>vc P T LF RF L J b st V K
   | some (.c (.v (.bool t)))=>∃I:A.τ->View->Prop,
    ((t=true->vc P T LF RF L J a st V fun e st' V'=>match e with
     | .normal=>∃x,(A.at st).fits st' x (I x V')
     | e=>K e st' V') /\
      (t=false->vc P T LF RF L J b st V fun e st' V'=>match e with
     | .normal=>∃x,(A.at st).fits st' x (I x V')
     | e=>K e st' V')) /\
    ∀x V',V.Le V'->I x V'->(lY ((A.at st).ao x) ((A.at st).boxes x)=true/\K .normal ((A.at st).st x) V')
   | _=>False
 | .block id a,st,V,K=>match ow J (500000+id) with
  | none=>vc P T LF RF L J a st V fun e st' V'=>match e with
   | .exit i=>cond (Nat.beq i id) (K .normal st' V') (K (.exit i) st' V')
   | e=>K e st' V'
  | some A=>∃I:A.τ->View->Prop,vc P T LF RF L J a st V (fun e st' V'=>match e with
   | .exit i=>cond (Nat.beq i id) (∃x,(A.at st).fits st' x (I x V')) (K (.exit i) st' V')
   | .normal=>∃x,(A.at st).fits st' x (I x V')
   | e=>K e st' V')/\∀x V',V.Le V'->I x V'->(lY ((A.at st).ao x) ((A.at st).boxes x)=true/\K .normal ((A.at st).st x) V')
 | .loop a,st,V,K=>match ow L (keyOf a) with
  | none=>UJ (fun st V K=>vc P T LF RF L J a st V K) 3 st V K
  | some A=>match A.gh with
   | false=>∃(I:A.τ->View->Prop)(m:A.τ->Nat),(∃x,(A.at st).fits st x (I x V))/\∀x V',V.Le V'->I x V'->(lY ((A.at st).ao x) ((A.at st).boxes x)=true /\
    vc P T LF RF L J a ((A.at st).st x) V' fun e st' dX=>match e with
     | .normal=>∃y,m y<m x/\(A.at st).fits st' y (I y dX)
     | e=>K e st' dX)
   | true=>∃I:A.τ->Nat->View->Prop,(∃x k,(A.at st).fits st x (I x k V))/\∀x k V',V.Le V'->I x k V'->(lY ((A.at st).ao x) ((A.at st).boxes x)=true /\
    vc P T LF RF L J a ((A.at st).st x) V' fun e st' dX=>match e with
     | .normal=>∃y k',k'<k/\(A.at st).fits st' y (I y k' dX)
     | e=>K e st' dX)
 | .exit id,st,V,K=>K (.exit id) st V
 | .ret,st,V,K=>K .ret st V
 | .scope a,st,V,K=>vc P T LF RF L J a st V fun e st' V'=>match e with
  | .goto _=>False
  | e=>K e st' V'
 | .label _,st,V,K=>K .normal st V
 | _,_,_,_=>False
def kL (T:cC)(st:St):List ResultVar->Option (List SV)
 | []=>some []
 | .tmp t::r=>match st.ao t,kL T st r with
  | some x,some l=>some (x::l)
  | _,_=>none
 | .cell a t::r=>match st.ao a,au T t,kL T st r with
  | some (.c (.ptr s o)),some i,some l=>match iD st.boxes i (.c (.ptr s o)) with
   | .ret _ x=>some (x::l)
   | _=>none
  | _,_,_=>none
def minus (l m:List Nat):List Nat:=l.filter fun x=>!(ee x m)
def HK (bx:Nat->Option aH)(β:Nat->Nat)(V:View):List Nat->Prop->Prop
 | [],k=>k
 | s::r,k=>match bx s with
  | some ⟨.aN _,_⟩=>False
  | some b=>V.w.heap[β s]?=some (b.obj β)->HK bx β V r k
  | none=>False
def iL:List (Nat×aH)->List Nat
 | []=>[]
 | (s,b)::r=>match b.cs with
  | .aN _=>iL r
  | _=>s::iL r
def IQ (bs:List (Nat×aH))(β0:Nat->Nat)(b:Nat)(k:Prop):Prop:=
 match bs with
 | []=>k
 | (m,x)::r=>match x.cs with
  | .aN vs=>(vs≠[]/\b=β0 m)\/IQ r β0 b k
  | _=>IQ r β0 b k
def kK (β:Nat->Nat):List SV->Value
 | [x]=>x.den β
 | l=>.tuple (l.map (SV.den β)).toArray
def rS (T:cC)(bx:Nat->Option aH)(s:Nat):Bool:=
 cond (Nat.ble 100000 s) true (match bx s with|some ⟨.row _,ty⟩|some ⟨.aN _,ty⟩=>Nat.ble 2 (T.filter fun x=>Nat.beq x.1 ty).length|some ⟨.lit _,ty⟩=>Nat.ble 3 (T.filter fun x=>Nat.beq x.1 ty).length|_=>false)
def FR (T:cC)(rs:List ResultVar)(bs:List (Nat×aH))(β0:Nat->Nat)(n0:Nat)(R:Value->View->Prop)(st:St)(V:View):Prop:=
 match kL T st rs with
 | none=>False
 | some xs=>let F:=iL bs
  let L:=reach st.boxes 3 (dedup (xs.flatMap SV.ids++F))
  match gj st.boxes L with
  | false=>False
  | true=>match (minus L F).filter (rS T st.boxes) with
   | []=>∀V':View,V.Le V'->kb (minus L F) β0 fun β=>HK st.boxes β V' F (pk st.boxes β V' (minus L F) (R (kK β xs) V'))
   | [s]=>match st.boxes s with
    | some b=>∀V':View,kb (minus L F) β0 fun β=>V.Le (V'.hideG (SD b) (β s))->HK st.boxes β V' F (oP (Hq b) (V'.w.heap[β s]?=some (b.obj β)) ->
      oP (Hq b) (n0<=β s\/IQ bs β0 (β s) False)->pk st.boxes β V' ((minus L F).filter (!Nat.beq s ·)) (R (kK β xs) V'))
    | none=>False
   | _=>False
def UM (P:Program)(T:cC)(LF RF:List Nat)(L J:Bk)(code:Code)(rs:List ResultVar)(ss:List (Nat×SV))(bs:List (Nat×aH))(β0:Nat->Nat)(V:View)(R:Value->View->Prop):Prop:=
 vc P T LF RF L J code ⟨au ss,au bs⟩ V fun e st V'=>match e with
  | .normal=>FR T rs bs β0 V.w.heap.size R st V'
  | .ret=>FR T rs bs β0 V.w.heap.size R st V'
  | _=>False
def gK (n:Nat):Code->Bool
 | .region _ ops _=>ops.toList.all fun o=>match o.dst with|some d=>Nat.blt d n|none=>true
 | .seq a b=>gK n a&&gK n b
 | .cond _ a b=>gK n a&&gK n b
 | .block _ a=>gK n a
 | .loop a=>gK n a
 | .scope a=>gK n a
 | _=>true
def mH:Nat->List (Nat×SV)->Bool
 | _,[]=>true
 | i,(j,x)::r=>Nat.beq i j&&x.plain&&mH (i+1) r
def AO (P:Program)(T:cC)(LF RF:List Nat)(L J:Bk)(fn:Func)(ss:List (Nat×SV))(bs:List (Nat×aH))(β0:Nat->Nat)(V:View)(R:Value->View->Prop):Prop:=
 match fn.body with
 | some code=>match gK fn.ntmps code&&mH 0 ss&&Nat.ble ss.length fn.ntmps&&Nat.ble fn.ntmps 100000&&(bs.all fun b=>Nat.ble 100000 b.1&&Nat.blt b.1 200000)&&lY ss bs with
  | true=>UM P T LF RF L J code fn.results.toList ss bs β0 V R
  | false=>False
 | none=>False
theorem View.Le.refl (V:View):V.Le V:=fun _ _ h=>h
theorem View.Le.trans {V V' dX:View}(h:V.Le V')(k:V'.Le dX):V.Le dX:=fun b o x=>k b o (h b o x)
theorem View.Le.at {V V':View}(h:V.Le V'){p:Addr}{v:Value}(k:V.at p v):V'.at p v:=by
 obtain ⟨b,a⟩:=k;unfold World.cell? at a;split at a
 ·rename_i c;obtain ⟨d,e⟩:=h p.block _ ⟨b,c⟩;refine ⟨d,?_⟩;unfold World.cell?;rw [e];exact a
 ·cases a
theorem ew.refl (X:Nat->Prop)(w:World):ew X w w:=⟨Nat.le_refl _,fun _ _ _=>rfl,rfl,rfl,rfl⟩
theorem ew.trans {X:Nat->Prop}{a b c:World}(h:ew X a b)(k:ew X b c):ew X a c:=
 ⟨Nat.le_trans h.size k.size,fun i d e=>(k.bg i (Nat.lt_of_lt_of_le d h.size) e).trans (h.bg i d e),k.os.trans h.os,k.tape.trans h.tape,k.out.trans h.out⟩
theorem ew.mono {X Y:Nat->Prop}{a b:World}(h:ew X a b)(hxy:∀i,X i->Y i):ew Y a b:=
 ⟨h.size,fun i c d=>h.bg i c fun e=>d (hxy i e),h.os,h.tape,h.out⟩
theorem View.Mp (V:View)(w':World)(hx:ew V.X V.w w'):V.Le (V.to w' hx.size):=by
 rintro b o ⟨d,a⟩;refine ⟨d,?_⟩
 have c:b<V.w.heap.size:=by
  rcases Nat.lt_or_ge b V.w.heap.size with h|h
  ·exact h
  ·rw [Array.getElem?_eq_none h] at a;cases a
 show w'.heap[b]?=some o;rw [hx.bg b c fun hX=>d (V.hX b hX)];exact a
theorem Acts.mono {P:Program}{f:FuncId}{args:Array Value}{V:View}{R R':Value->View->Prop}(h:Acts P f args V R)
  (hR:∀r V',V.Le V'->R r V'->R' r V'):Acts P f args V R':=
 ⟨h.1,h.2.mono fun _ b ⟨r,he,a,c⟩=>⟨r,he,a,hR r _ (V.Mp b a) c⟩⟩
structure DE where
 ids:List Nat
 B:Nat->Prop
section
variable (n:Nat) (V0:View) (bj:DE) (β0:Nat->Nat)
structure Mod (st:St) (β:Nat->Nat) (a:Act) (w:World) (V:View):Prop where
 defers:a.defers=[]
 size:a.tmps.size=n
 ao:∀t x,st.ao t=some x->a.tmps.getD t undef=x.den β
 wG:∀t x,st.ao t=some x->∀s∈x.ids,∃b,st.boxes s=some b
 wF:∀s b,st.boxes s=some b->∀s'∈b.cs.ids,∃b',st.boxes s'=some b'
 boxes:∀s b,st.boxes s=some b->b.live->w.heap[β s]?=some (b.obj β)
 inj:∀s s' b b',st.boxes s=some b->b.live->st.boxes s'=some b'->b'.live->β s=β s'->s=s'
 nf:∀b o,V.bg b o->w.heap[b]?=some o/\¬V0.H b
 su:∀s b,st.boxes s=some b->b.live->∀o,¬V.bg (β s) o
 ext:ew V0.X V0.w w
 own:∀s b,st.boxes s=some b->b.live->V0.w.heap.size<=β s\/(100000<=s/\bj.B (β s))
 kc:∀s∈bj.ids,(100000<=s/\s<200000)/\β s=β0 s
 jh:∀b,bj.B b->V0.X b
 small:n<=100000
end
theorem cq {cs:List C}{ty:TypeId}:aH.live ⟨.lit cs,ty⟩:=fun _ h=>nomatch h
theorem bV {vs:List Value}{ty:TypeId}:aH.live ⟨.row vs,ty⟩:=fun _ h=>nomatch h
theorem dP {vs:List Value}{ty:TypeId}(h:vs≠[]):aH.live ⟨.aN vs,ty⟩:=fun _ e=>by cases e;exact h
theorem eI {ty:TypeId}:¬aH.live ⟨.aN [],ty⟩:=fun h=>h [] rfl rfl
theorem eQ {b:aH}{k:Prop}:oP (Hq b) k↔(b.live->k):=by
 obtain ⟨cs,ty⟩:=b
 cases cs with
 | lit cs=>exact ⟨fun h _=>h,fun h=>h cq⟩
 | row cs=>exact ⟨fun h _=>h,fun h=>h bV⟩
 | aN vs=>exact ⟨fun h l=>h (l vs rfl),fun h l=>h (dP l)⟩
theorem rH {l m:List Prop}{k:Prop}:oP (l++m) k↔oP l (oP m k):=by
 induction l with
 | nil=>exact Iff.rfl
 | cons p r ih=>exact ⟨fun h a=>ih.1 (h a),fun h a=>ih.2 (h a)⟩
theorem KE {b:aH}:SD b↔b.live:=by
 obtain ⟨cs,ty⟩:=b
 cases cs with
 | lit cs=>exact ⟨fun _=>cq,fun _=>trivial⟩
 | row cs=>exact ⟨fun _=>bV,fun _=>trivial⟩
 | aN vs=>exact ⟨fun h=>dP h,fun l=>l vs rfl⟩
theorem C.bz {β β':Nat->Nat}{c:C}(h:∀s∈c.ids,β s=β' s):c.den β=c.den β':=by
 cases c with
 | v x=>rfl
 | w x=>rfl
 | tt=>rfl
 | ff=>rfl
 | ptr s o=>simp [C.den,h s (by simp [C.ids])]
 | ld s o n c=>simp [C.den,h s (by simp [C.ids])]
 | iK s n c=>simp [C.den,h s (by simp [C.ids])]
 | yx f ss=>
  have:(ss.map fun s=>Value.pointer (some ⟨β s,0,none⟩))=ss.map fun s=>Value.pointer (some ⟨β' s,0,none⟩):=
   List.map_congr_left fun s a=>by rw [h s (by simpa [C.ids] using a)]
  simp only [C.den,this]
theorem kv {β β':Nat->Nat}{cs:List C}(h:∀s∈cs.flatMap C.ids,β s=β' s):cs.map (C.den β)=cs.map (C.den β'):=
 List.map_congr_left fun c a=>C.bz fun s b=>h s (List.mem_flatMap.2 ⟨c,a,b⟩)
theorem wX {β β':Nat->Nat}{x:Bool×List C}(h:∀s∈x.2.flatMap C.ids,β s=β' s):gU β x=gU β' x:=by
 obtain ⟨b,cs⟩:=x
 cases b with
 | true=>simp only [gU];rw [kv h]
 | false=>
  match cs,h with
  | [],_=>rfl
  | [c],h=>simp only [gU];exact C.bz fun s a=>h s (by simpa using a)
  | _::_::_,_=>rfl
theorem SV.bz {β β':Nat->Nat}{x:SV}(h:∀s∈x.ids,β s=β' s):x.den β=x.den β':=by
 cases x with
 | c x=>exact C.bz h
 | agg cs=>simp only [SV.den];rw [kv h]
 | ou xs=>
  simp only [SV.den];congr 2;exact List.map_congr_left fun x a=>wX fun s b=>h s (List.mem_flatMap.2 ⟨x,a,b⟩)
theorem Cells.bz {β β':Nat->Nat}{x:Cells}(h:∀s∈x.ids,β s=β' s):x.den β=x.den β':=by
 cases x with
 | lit cs=>exact kv h
 | row vs=>rfl
 | aN vs=>rfl
theorem aH.cj {β β':Nat->Nat}{x:aH}(h:∀s∈x.cs.ids,β s=β' s):x.obj β=x.obj β':=by
 simp only [aH.obj];rw [Cells.bz h]
variable {P:Program} {T:cC} {n:Nat} {V0:View} {bj:DE} {β0:Nat->Nat} {st:St} {β:Nat->Nat} {a:Act} {w:World} {V:View}
theorem Mod.eval (h:Mod n V0 bj β0 st β a w V){x:Operand}{v:SV}(hx:st.aR x=some v):a.eval x=v.den β:=by
 cases x with
 | tmp t=>exact h.ao t v hx
 | const c=>
  simp only [St.aR,Option.some.injEq] at hx;subst hx;simp only [Act.eval];unfold SV.ofConst;split
  ·rfl
  ·rfl
  ·rename_i cs;simp only [SV.den];congr 1
   have:∀l:List Value,(l.map C.ofConst).map (C.den β)=l:=by
    intro l
    induction l with
    | nil=>rfl
    | cons y r ih=>
     simp only [List.map_cons,ih];congr 1;unfold C.ofConst;split<;>rfl
   rw [this]
  ·rfl
 | global g=>simp only [St.aR,Option.some.injEq] at hx;subst hx;rfl
 | func f=>simp only [St.aR,Option.some.injEq] at hx;subst hx;simp [Act.eval,SV.den,C.den]
theorem Mod.live (h:Mod n V0 bj β0 st β a w V){x:Operand}{v:SV}(hx:st.aR x=some v):∀s∈v.ids,∃b,st.boxes s=some b:=by
 cases x with
 | tmp t=>exact h.wG t v hx
 | const c=>
  simp only [St.aR,Option.some.injEq] at hx;subst hx;intro s d;exfalso
  have e:∀y,(C.ofConst y).ids=[]:=by
   intro y;unfold C.ofConst;split<;>rfl
  unfold SV.ofConst at d;split at d
  ·simp [SV.ids,C.ids] at d
  ·simp [SV.ids,C.ids] at d
  ·obtain ⟨c,i,d⟩:=List.mem_flatMap.1 d;obtain ⟨y,_,rfl⟩:=List.mem_map.1 i;rw [e] at d;cases d
  ·simp [SV.ids,C.ids] at d
 | global g=>simp only [St.aR,Option.some.injEq] at hx;subst hx;intro s d;simp [SV.ids,C.ids] at d
 | func f=>simp only [St.aR,Option.some.injEq] at hx;subst hx;intro s d;simp [SV.ids,C.ids] at d
theorem beq_eq {a b:Nat}:Nat.beq a b=true↔a=b:=by
 constructor
 ·exact Nat.eq_of_beq_eq_true
 ·intro h;subst h;exact Nat.beq_refl a
theorem cL (st:St)(d:Nat)(x:SV)(t:Nat):(st.put (some d) x).ao t=if t=d then some x else st.ao t:=by
 simp only [St.put];by_cases h:t=d
 ·subst h;simp [Nat.beq_refl]
 ·have:Nat.beq t d=false:=by
   cases hb:Nat.beq t d
   ·rfl
   ·exact absurd (beq_eq.1 hb) h
  simp [this,h]
theorem ah (st:St)(s:Nat)(b:aH)(t:Nat):(st.box s b).boxes t=if t=s then some b else st.boxes t:=by
 simp only [St.box];by_cases h:t=s
 ·subst h;simp [Nat.beq_refl]
 ·have:Nat.beq t s=false:=by
   cases hb:Nat.beq t s
   ·rfl
   ·exact absurd (beq_eq.1 hb) h
  simp [this,h]
theorem oM (l:Array Value)(d t:Nat)(v:Value)(hd:d<l.size):(l.setIfInBounds d v).getD t undef=if t=d then v else l.getD t undef:=by
 by_cases h:t=d
 ·subst h;simp [hd]
 ·simp [h,Ne.symm h]
theorem Mod.put (h:Mod n V0 bj β0 st β a w V){d:Nat}{x:SV}{v:Value}(hd:d<n)(hv:v=x.den β)(hl:∀s∈x.ids,∃b,st.boxes s=some b) :
  Mod n V0 bj β0 (st.put (some d) x) β (a.put (some d) v) w V where
 defers:=h.defers
 size:=by simp [Act.put,h.size]
 ao:=by
  intro t y c;rw [cL] at c;show (a.tmps.setIfInBounds d v).getD t undef=_;rw [oM _ _ _ _ (by rw [h.size];exact hd)];split at c
  ·rename_i e;rw [if_pos e];simp only [Option.some.injEq] at c;rw [←c];exact hv
  ·rename_i e;rw [if_neg e];exact h.ao t y c
 wG:=by
  intro t y c;rw [cL] at c;split at c
  ·simp only [Option.some.injEq] at c;rw [←c];exact hl
  ·exact h.wG t y c
 wF:=h.wF
 boxes:=h.boxes
 inj:=h.inj
 nf:=h.nf
 su:=h.su
 ext:=h.ext
 own:=h.own
 kc:=h.kc
 jh:=h.jh
 small:=h.small
theorem Mod.EA (h:Mod n V0 bj β0 st β a w V){d:Option Nat}{x:SV}{v:Value}(hd:∀k,d=some k->k<n)(hv:v=x.den β)(hl:∀s∈x.ids,∃b,st.boxes s=some b) :
  Mod n V0 bj β0 (st.put d x) β (a.put d v) w V:=by
 cases d with
 | none=>exact h
 | some d=>exact h.put (hd d rfl) hv hl
theorem Mod.drew (h:Mod n V0 bj β0 st β a w V):Mod n V0 bj β0 st β a { w with drawn:=w.drawn+1 } V:=
 ⟨h.defers,h.size,h.ao,h.wG,h.wF,h.boxes,h.inj,h.nf,h.su,⟨h.ext.size,h.ext.bg,h.ext.os,h.ext.tape,h.ext.out⟩,h.own,h.kc,h.jh,h.small⟩
theorem ar {w:World}{b:Nat}{o:Obj}(h:w.heap[b]?=some o):b<w.heap.size:=by
 rcases Nat.lt_or_ge b w.heap.size with a|a
 ·exact a
 ·rw [Array.getElem?_eq_none a] at h;cases h
theorem bN (w:World)(o:Obj){b:Nat}(h:b<w.heap.size):(w.alloc o).heap[b]?=w.heap[b]?:=by
 show (w.heap.push o)[b]?=_;rw [Array.getElem?_push,if_neg (by omega)]
theorem heap_alloc_new (w:World)(o:Obj):(w.alloc o).heap[w.heap.size]?=some o:=by
 show (w.heap.push o)[w.heap.size]?=_;rw [Array.getElem?_push,if_pos rfl]
theorem aJ (β:Nat->Nat)(s b:Nat):cD β s b s=b:=by simp [cD,Nat.beq_refl]
theorem fL (β:Nat->Nat){s t:Nat}(b:Nat)(h:t≠s):cD β s b t=β t:=by
 have:Nat.beq t s=false:=by
  cases hb:Nat.beq t s
  ·rfl
  ·exact absurd (beq_eq.1 hb) h
 simp [cD,this]
theorem Mod.new (h:Mod n V0 bj β0 st β a w V){d:Nat}{b:aH}(hd:d<n)(hn:st.boxes d=none)(hl:∀s∈b.cs.ids,∃b',st.boxes s=some b') :
  Mod n V0 bj β0 (st.box d b) (cD β d w.heap.size) a (w.alloc (b.obj β)) V:=by
 have q:∀s b',st.boxes s=some b'->s≠d:=fun s b' c e=>by rw [e,hn] at c;cases c
 have hβ:∀s b',st.boxes s=some b'->cD β d w.heap.size s=β s:=fun s b' c=>fL _ _ (q s b' c);have r:∀s b',st.boxes s=some b'->b'.live->β s<w.heap.size:=fun s b' c l=>ar (h.boxes s b' c l);have C:∀b' o,V.bg b' o->b'<w.heap.size:=fun b' o v=>ar (h.nf b' o v).1;refine ⟨h.defers,h.size,?_,?_,?_,?_,?_,?_,?_,?_,?_,?_,h.jh,?_⟩
 ·intro t x y;rw [h.ao t x y];exact SV.bz fun s c=>by obtain ⟨b',p⟩:=h.wG t x y s c;exact (hβ s b' p).symm
 ·intro t x y s c;obtain ⟨b',p⟩:=h.wG t x y s c;exact ⟨b',by rw [ah,if_neg (q s b' p)];exact p⟩
 ·intro s b' c g j;rw [ah] at c
  have:∃f,st.boxes g=some f:=by
   split at c
   ·simp only [Option.some.injEq] at c;rw [←c] at j;exact hl g j
   ·exact h.wF s b' c g j
  obtain ⟨f,u⟩:=this;exact ⟨f,by rw [ah,if_neg (q g f u)];exact u⟩
 ·intro s b' c l;rw [ah] at c;split at c
  ·rename_i e;simp only [Option.some.injEq] at c;rw [e,aJ,heap_alloc_new,←c];congr 1;exact aH.cj fun g j=>by obtain ⟨f,u⟩:=hl g j;exact (hβ g f u).symm
  ·rw [hβ s b' c,bN _ _ (r s b' c l),h.boxes s b' c l];congr 1;exact aH.cj fun g j=>by obtain ⟨f,u⟩:=h.wF s b' c g j;exact (hβ g f u).symm
 ·intro s g b1 b2 k D m E he;rw [ah] at k m;split at k<;>split at m
  ·rename_i z A;rw [z,A]
  ·rename_i z A;rw [z,aJ,hβ g b2 m] at he;have:=r g b2 m E;omega
  ·rename_i z A;rw [A,aJ,hβ s b1 k] at he;have:=r s b1 k D;omega
  ·rw [hβ s b1 k,hβ g b2 m] at he;exact h.inj s g b1 b2 k D m E he
 ·intro b' o v;obtain ⟨k,m⟩:=h.nf b' o v;exact ⟨by rw [bN _ _ (C b' o v)];exact k,m⟩
 ·intro s b' c l o B;rw [ah] at c;split at c
  ·rename_i e;rw [e,aJ] at B;have:=C _ o B;omega
  ·rw [hβ s b' c] at B;exact h.su s b' c l o B
 ·exact h.ext.trans ⟨by simp,fun i F _=>bN _ _ F,rfl,rfl,rfl⟩
 ·intro s b' c l;rw [ah] at c;split at c
  ·rename_i e;rw [e,aJ];exact .inl h.ext.size
  ·rw [hβ s b' c];exact h.own s b' c l
 ·intro s c;obtain ⟨k,m⟩:=h.kc s c;exact ⟨k,by rw [fL _ _ (by have:=h.small;omega)];exact m⟩
 ·exact h.small
theorem Mod.void (h:Mod n V0 bj β0 st β a w V){s:Nat}{ty:TypeId}:Mod n V0 bj β0 (st.box s ⟨.aN [],ty⟩) β a w V:=by
 have hw:∀t b,st.boxes t=some b->∃d,(st.box s ⟨.aN [],ty⟩).boxes t=some d:=by
  intro t b c;rw [ah];split
  ·exact ⟨_,rfl⟩
  ·exact ⟨b,c⟩
 have g:∀t b,(st.box s ⟨.aN [],ty⟩).boxes t=some b->b.live->st.boxes t=some b:=by
  intro t b c l;rw [ah] at c;split at c
  ·cases c;exact absurd l eI
  ·exact c
 refine ⟨h.defers,h.size,h.ao,?_,?_,fun t b c l=>h.boxes t b (g t b c l) l,fun t m b1 b2 o j p k=>h.inj t m b1 b2 (g _ _ o j) j (g _ _ p k) k,h.nf,fun t b c l=>h.su t b (g t b c l) l,h.ext,fun t b c l=>h.own t b (g t b c l) l,h.kc,h.jh,h.small⟩
 ·intro t x q f e;obtain ⟨b,i⟩:=h.wG t x q f e;exact hw f b i
 ·intro t b c f e
  have:∃d,st.boxes f=some d:=by
   rw [ah] at c;split at c
   ·cases c;cases e
   ·exact h.wF t b c f e
  obtain ⟨d,r⟩:=this;exact hw f d r
theorem Mod.sC (h:Mod n V0 bj β0 st β a w V){s:Nat}{b b':aH}(hs:st.boxes s=some b)(lb:b.live)(hl:∀s'∈b'.cs.ids,∃b'',st.boxes s'=some b'')
  {w':World}(hw:w'.heap=w.heap.setIfInBounds (β s) (b'.obj β))(ho:w'.os=w.os)(ht:w'.tape=w.tape)(hout:w'.output=w.output) :
  Mod n V0 bj β0 (st.box s b') β a w' V:=by
 have v:=ar (h.boxes s b hs lb)
 have k:∀i,w'.heap[i]?=if i=β s then some (b'.obj β) else w.heap[i]?:=by
  intro i;rw [hw,Array.getElem?_setIfInBounds];by_cases e:β s=i
  ·rw [if_pos e,if_pos (by omega),if_pos e.symm]
  ·rw [if_neg e,if_neg (Ne.symm e)]
 refine ⟨h.defers,h.size,h.ao,?_,?_,?_,?_,?_,?_,?_,?_,h.kc,h.jh,h.small⟩
 ·intro t x y s' d;obtain ⟨b1,c⟩:=h.wG t x y s' d;rw [ah];split
  ·exact ⟨_,rfl⟩
  ·exact ⟨b1,c⟩
 ·intro t b1 c s' d
  have:∃b'',st.boxes s'=some b'':=by
   rw [ah] at c;split at c
   ·simp only [Option.some.injEq] at c;rw [←c] at d;exact hl s' d
   ·exact h.wF t b1 c s' d
  rw [ah];split
  ·exact ⟨_,rfl⟩
  ·exact this
 ·intro t b1 c g;rw [ah] at c;rw [k];split at c
  ·rename_i e;simp only [Option.some.injEq] at c;rw [e,if_pos rfl,c]
  ·rename_i e;rw [if_neg fun he=>e (h.inj t s b1 b c g hs lb he)];exact h.boxes t b1 c g
 ·intro t r b1 b2 j g l z he
  have f:∀t b1,(st.box s b').boxes t=some b1->b1.live->∃b2,st.boxes t=some b2/\b2.live:=by
   intro t b1 j g;rw [ah] at j;split at j
   ·rename_i e;rw [e];exact ⟨b,hs,lb⟩
   ·exact ⟨b1,j,g⟩
  obtain ⟨A,m,B⟩:=f t b1 j g;obtain ⟨C,p,D⟩:=f r b2 l z;exact h.inj t r A C m B p D he
 ·intro b1 o q;obtain ⟨j,l⟩:=h.nf b1 o q;refine ⟨?_,l⟩;rw [k,if_neg]
  ·exact j
  ·intro e;rw [e] at q;exact h.su s b hs lb o q
 ·intro t b1 c g o;rw [ah] at c;split at c
  ·rename_i e;rw [e];exact h.su s b hs lb o
  ·exact h.su t b1 c g o
 ·refine ⟨by rw [hw];simpa using h.ext.size,fun i E u=>?_,ho.trans h.ext.os,ht.trans h.ext.tape,hout.trans h.ext.out⟩;rw [k];split
  ·rename_i e;exfalso;rcases h.own s b hs lb with j|j
   ·omega
   ·exact u (e▸h.jh _ j.2)
  ·exact h.ext.bg i E u
 ·intro t b1 c g;rw [ah] at c;split at c
  ·rename_i e;rw [e];exact h.own s b hs lb
  ·exact h.own t b1 c g
end Go.Eng
