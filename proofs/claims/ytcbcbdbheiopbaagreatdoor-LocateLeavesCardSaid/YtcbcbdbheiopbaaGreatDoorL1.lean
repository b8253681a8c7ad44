/- A part of the proof (joined by program from: Eng1, Eng2, Eng3). -/
import Derived.WalkKit
import Derived.Deep.LoopGhost
import Derived.KernelRfl
set_option linter.unusedVariables false
open Go.IntKind (i64 u64 u32)
/- The symbolic executor: definitions. It says nothing by itself; Eng2 and Eng3 prove it sound. -/
namespace Go.Eng
/-- A pointer. -/
abbrev OA:=Option Addr
/-- The same on both sides. -/
abbrev sm {α:Type} (a:α):Prop:=a=a
/-- What a function may look at: a world, and the blocks that are hidden from it (private to its callers), and those that it may change. -/
structure View where
 w:World
 H:Nat->Prop
 X:Nat->Prop
 hH:∀b,H b->b < w.heap.size
 hX:∀b,X b->H b
def View.blk (V:View) (b:Nat) (o:Obj):Prop:=¬ V.H b/\V.w.heap[b]?=some o
def View.at (V:View) (p:Addr) (v:Value):Prop:=¬ V.H p.block/\V.w.cell? p=some v
def View.Le (V V':View):Prop:=∀b o,V.blk b o->V'.blk b o
structure ExtX (X:Nat->Prop) (w w':World):Prop where
 size:w.heap.size<=w'.heap.size
 blk:∀b,b < w.heap.size->¬ X b->w'.heap[b]?=w.heap[b]?
 os:w'.os=w.os
 tape:w'.tape=w.tape
 out:w'.output=w.output
def View.to (V:View) (w':World) (h:V.w.heap.size<=w'.heap.size):View:=⟨w',V.H,V.X,fun b hb=>Nat.lt_of_lt_of_le (V.hH b hb) h,V.hX⟩
def View.lend (V:View) (bs:List Nat):View:={ V with X:=fun b=>b ∈ bs/\V.H b,hX:=fun _ h=>h.2 }
def View.hide (V:View) (b:Nat):View:={ V with H:=fun x=>V.H x \/ (x=b/\b < V.w.heap.size),hH:=fun x h=>h.elim (V.hH x) fun h=>h.1 ▸ h.2,hX:=fun x h=>.inl (V.hX x h) }
/-- A block is hidden, if there is one. -/
def View.hideG (V:View) (p:Prop) (b:Nat):View:={ V with H:=fun x=>V.H x \/ (p/\x=b/\b < V.w.heap.size),hH:=fun x h=>h.elim (V.hH x) fun h=>h.2.1 ▸ h.2.2,hX:=fun x h=>.inl (V.hX x h) }
def View.shut (V:View):View:={ V with X:=fun _=>False,hX:=fun _ h=>h.elim }
def Callable (P : Program) (f : FuncId) : Prop := ∃ fn, P.funcs[f]? = some fn ∧ fn.body.isNone = false ∧ (fn.name == "runtime.NumGoroutine") = false
/-- The contract's form: the call returns; nothing that was there has changed but the blocks of X; R of the result and the view then. -/
def Acts (P:Program) (f:FuncId) (args:Array Value) (V:View) (R:Value->View->Prop):Prop:=
 Callable P f/\Calls P f args V.w fun e w'=>∃r,e=.returned r/\∃hx:ExtX V.X V.w w',R r (V.to w' hx.size)
/-- Symbolic cells and values: a value of Lean's, a bool that is known, a pointer into a box of the function's own, a slice of one, a closure over such boxes. -/
inductive C where
 | v (x:Value) | w (x:Value) | tt | ff
 | ptr (s o:Nat)
 | slc (s o n c:Nat)
 | msl (s n c:Nat)
 | clo (f:FuncId) (ss:List Nat)
inductive SV where
 | c (x:C) | agg (cs:List C) | tup (xs:List (Bool × List C))
inductive Cells where
 | lit (cs:List C) | row (vs:List Value) | mrow (vs:List Value)
structure Box where
 cs:Cells
 ty:TypeId
/-- A box of a slice that may be nil: without cells, it is no block at all. -/
def Box.live (b:Box):Prop:=∀vs,b.cs=.mrow vs->vs≠[]
def gdL (b:Box):List Prop:=
 match b.cs with
 | .mrow vs=>[vs≠[]]
 | _=>[]
def gdP (b:Box):Prop:=
 match b.cs with
 | .mrow vs=>vs≠[]
 | _=>True
def impL:List Prop->Prop->Prop
 | [],k=>k
 | p :: r,k=>p->impL r k
def mA (b c:Nat):OA:=if c=0 then none else some ⟨b,0,none⟩
structure St where
 slots:Nat->Option SV
 boxes:Nat->Option Box
def C.den (β:Nat->Nat):C->Value
 | .v x=>x
 | .w x=>x
 | .tt=>.bool true
 | .ff=>.bool false
 | .ptr s o=>.pointer (some ⟨β s,o,none⟩)
 | .slc s o n c=>.slice (some ⟨β s,o,none⟩) n c
 | .msl s n c=>.slice (mA (β s) c) n c
 | .clo f ss=>.func (.func f) #[] (ss.map fun s=>Value.pointer (some ⟨β s,0,none⟩)).toArray
/-- A component of a tuple: a scalar, or (true) a struct. -/
def compDen (β:Nat->Nat):Bool × List C->Value
 | (true,cs)=>.agg (cs.map (C.den β)).toArray
 | (false,[c])=>c.den β
 | (false,_)=>.tuple #[]
def compSV:Bool × List C->Option SV
 | (true,cs)=>some (.agg cs)
 | (false,[c])=>some (.c c)
 | (false,_)=>none
def SV.den (β:Nat->Nat):SV->Value
 | .c x=>x.den β
 | .agg cs=>.agg (cs.map (C.den β)).toArray
 | .tup xs=>.tuple (xs.map (compDen β)).toArray
def SV.cells:SV->List C
 | .c x=>[x]
 | .agg cs=>cs
 | .tup _=>[]
def Cells.den (β:Nat->Nat):Cells->List Value
 | .lit cs=>cs.map (C.den β)
 | .row vs=>vs
 | .mrow vs=>vs
def Box.obj (β:Nat->Nat) (b:Box):Obj:=.cells (b.cs.den β).toArray b.ty (0,0)
def C.ids:C->List Nat
 | .ptr s _=>[s]
 | .slc s _ _ _=>[s]
 | .msl s _ _=>[s]
 | .clo _ ss=>ss
 | _=>[]
def SV.ids:SV->List Nat
 | .c x=>x.ids
 | .agg cs=>cs.flatMap C.ids
 | .tup xs=>xs.flatMap fun x=>x.2.flatMap C.ids
def SV.isTup:SV->Bool
 | .tup _=>true
 | _=>false
/-- What a cell that is written must be: one cell's value. -/
def oneSC:C->List Prop
 | .v (.agg _) | .v (.tuple _)=>[False]
 | .w x=>[x.oneCell'=true]
 | _=>[]
def SV.oneSC (x:SV):List Prop:=x.cells.flatMap Eng.oneSC
def Cells.ids:Cells->List Nat
 | .lit cs=>cs.flatMap C.ids
 | .row _=>[]
 | .mrow _=>[]
def St.put (st:St) (d:Option Nat) (x:SV):St:=
 match d with
 | none=>st
 | some d=>{ st with slots:=fun t=>cond (Nat.beq t d) (some x) (st.slots t) }
def St.box (st:St) (s:Nat) (b:Box):St:={ st with boxes:=fun t=>cond (Nat.beq t s) (some b) (st.boxes t) }
def C.ofConst:Value->C
 | .bool true=>.tt
 | .bool false=>.ff
 | x=>.v x
def SV.ofConst:Value->SV
 | .bool true=>.c .tt
 | .bool false=>.c .ff
 | .agg cs=>.agg (cs.toList.map C.ofConst)
 | x=>.c (.v x)
def St.opnd (st:St):Operand->Option SV
 | .tmp t=>st.slots t
 | .const v=>some (.ofConst v)
 | .global g=>some (.c (.v (.pointer (some ⟨g,0,none⟩))))
 | .func f=>some (.c (.clo f []))
/-! types -/
inductive TK where
 | int (k:IntKind) | bool | str | ptr (e:TypeId) | slice (e:TypeId) | struct (fs:List (TypeId × Nat)) | arr (n:Nat) (e:TypeId) | iface | func | tuple (ts:List TypeId) | other
structure TI where
 k:TK
 size:Nat
 bytes:Nat
 zero:List C
def tkOf:TypeDesc->TK
 | .int k=>.int k
 | .bool=>.bool
 | .string=>.str
 | .pointer e=>.ptr e
 | .slice e=>.slice e
 | .array n e=>.arr n e
 | .struct fs=>.struct (fs.toList.map fun f=>(f.type,f.offset))
 | .interface _=>.iface
 | .func ..=>.func
 | .tuple es=>.tuple es.toList
 | _=>.other
def mkTI (P:Program) (t:TypeId):Option TI:=
 match P.info? t,P.underlying t with
 | some i,some d=>
  match i.zero with
  | some z=>some { k:=tkOf d,size:=i.size,bytes:=i.bytes,zero:=z.cells.toList.map C.ofConst }
  | none=>none
 | _,_=>none
abbrev Tab:=List (Nat × TI)
def alook {α:Type}:List (Nat × α)->Nat->Option α
 | [],_=>none
 | (s,x) :: r,t=>cond (Nat.beq t s) (some x) (alook r t)
def Tab.ok (P:Program) (T:Tab):Prop:=∀t i,alook T t=some i->mkTI P t=some i
inductive Sh1 where
 | int (k:IntKind) | bool | slice | ptr | str | any
inductive ShV where
 | one (s:Sh1) | agg (l:List Sh1)
inductive Sh where
 | val (s:ShV) | tup (l:List ShV) | none
def shC:C->Sh1
 | .v (.int k _)=>.int k
 | .v (.slice ..)=>.slice
 | .v (.pointer _)=>.ptr
 | .v (.string _)=>.str
 | .tt | .ff=>.bool
 | _=>.any
def shVOf (i:TI):ShV:=
 match i.k with
 | .struct _ | .arr _ _=>.agg (i.zero.map shC)
 | _=>match i.zero with
  | [z]=>.one (shC z)
  | _=>.one .any
def Sh1.ex:Sh1->(C->Prop)->Prop
 | .int k,K=>∃n:Int,K (.v (.int k n))
 | .bool,K=>∃b:Bool,K (.v (.bool b))
 | .slice,K=>∃(a:OA) (n c:Nat),K (.v (.slice a n c))
 | .ptr,K=>∃p:OA,K (.v (.pointer p))
 | .str,K=>∃s:ByteArray,K (.v (.string s))
 | .any,K=>∃x:Value,K (.w x)
def exL:List Sh1->(List C->Prop)->Prop
 | [],K=>K []
 | s :: r,K=>s.ex fun v=>exL r fun vs=>K (v :: vs)
def ShV.ex:ShV->(SV->Prop)->Prop
 | .one s,K=>s.ex fun c=>K (.c c)
 | .agg l,K=>exL l fun cs=>K (.agg cs)
def exT:List ShV->(List (Bool × List C)->Prop)->Prop
 | [],K=>K []
 | .one s :: r,K=>s.ex fun c=>exT r fun vs=>K ((false,[c]) :: vs)
 | .agg l :: r,K=>exL l fun cs=>exT r fun vs=>K ((true,cs) :: vs)
def Sh.ex:Sh->(SV->Prop)->Prop
 | .val s,K=>s.ex K
 | .tup l,K=>exT l fun vs=>K (.tup vs)
 | .none,K=>K (.tup [])
def shTs (T:Tab):List TypeId->Option (List ShV)
 | []=>some []
 | t :: r=>match alook T t,shTs T r with
  | some i,some l=>some (shVOf i :: l)
  | _,_=>Option.none
def shOf (T:Tab) (t:TypeId):Option Sh:=
 match alook T t with
 | some i=>match i.k with
  | .tuple []=>some .none
  | .tuple ts=>match shTs T ts with
   | some l=>some (.tup l)
   | Option.none=>Option.none
  | _=>some (.val (shVOf i))
 | Option.none=>Option.none
/-! quiet operations -/
inductive Q where
 | fail
 | ret (sc:List Prop) (x:SV)
 | new (sc:List Prop) (b:Box) (x:Nat->SV)
 | upd (sc:List Prop) (s:Nat) (b:Box)
 | rd (p:OA) (sh:ShV)
 | rdRow (vs:List Value) (o size:Nat) (sh:ShV)
 | mapp (s:Nat) (vs:List Value) (n c:Nat) (x:OA × Nat ⊕ List Value) (size bytes:Nat) (ty:TypeId)
 | app (old:Option Nat) (ba:OA) (vs:List Value) (n c:Nat) (x:OA × Nat ⊕ List Value) (size bytes:Nat) (ty:TypeId)
def bitI (op:BinOp) (k:IntKind) (a b:Int):Int:=
 match op with
 | .and=>k.wrap ((BitVec.ofInt k.bits a &&& BitVec.ofInt k.bits b).toNat:Int)
 | .or=>k.wrap ((BitVec.ofInt k.bits a ||| BitVec.ofInt k.bits b).toNat:Int)
 | .xor=>k.wrap ((BitVec.ofInt k.bits a ^^^ BitVec.ofInt k.bits b).toNat:Int)
 | _=>k.wrap ((BitVec.ofInt k.bits a &&& ~~~(BitVec.ofInt k.bits b)).toNat:Int)
def intBin (op:BinOp) (k:IntKind) (a b:Int):Q:=
 match op with
 | .add=>.ret [] (.c (.v (.int k (k.wrap (a + b)))))
 | .sub=>.ret [] (.c (.v (.int k (k.wrap (a - b)))))
 | .mul=>.ret [] (.c (.v (.int k (k.wrap (a * b)))))
 | .quo=>.ret [b≠0] (.c (.v (.int k (k.wrap (a.tdiv b)))))
 | .rem=>.ret [b≠0] (.c (.v (.int k (a.tmod b))))
 | .and=>.ret [] (.c (.v (.int k (bitI .and k a b))))
 | .or=>.ret [] (.c (.v (.int k (bitI .or k a b))))
 | .xor=>.ret [] (.c (.v (.int k (bitI .xor k a b))))
 | .andNot=>.ret [] (.c (.v (.int k (bitI .andNot k a b))))
 | .shl=>.ret [0<=b] (.c (.v (.int k (k.wrap (a * 2 ^ (min b.toNat k.bits))))))
 | .shr=>.ret [0<=b] (.c (.v (.int k (a.fdiv (2 ^ (min b.toNat k.bits))))))
 | .eql=>.ret [] (.c (.v (.bool (a == b))))
 | .neq=>.ret [] (.c (.v (.bool (a != b))))
 | .lss=>.ret [] (.c (.v (.bool (decide (a < b)))))
 | .leq=>.ret [] (.c (.v (.bool (decide (a<=b)))))
 | .gtr=>.ret [] (.c (.v (.bool (decide (a > b)))))
 | .geq=>.ret [] (.c (.v (.bool (decide (a ≥ b)))))
def C.bool?:C->Option Bool
 | .tt=>some true
 | .ff=>some false
 | .v (.bool b)=>some b
 | _=>none
def isNilI:Value->Bool
 | .nilIface=>true
 | _=>false
def IsIface (x:Value):Prop:=x=.nilIface \/ ∃t v,x=.iface t v
def kindEq:IntKind->IntKind->Bool
 | .i8,.i8 | .i16,.i16 | .i32,.i32 | .i64,.i64 | .u8,.u8 | .u16,.u16 | .u32,.u32 | .u64,.u64=>true
 | _,_=>false
/-- '==' (neg: '!=') against a nil constant of a pointer's, a slice's, an interface's type. -/
def qNil (neg:Bool) (k:TK) (x y:C):Q:=
 match k with
 | .ptr _=>match y with
  | .v (.pointer none)=>match x with
   | .ptr _ _=>.ret [] (.c (if neg then .tt else .ff))
   | .v (.pointer p)=>.ret [] (.c (.v (.bool (if neg then !p.isNone else p.isNone))))
   | _=>.fail
  | _=>.fail
 | .slice _=>match y with
  | .v (.slice none _ _)=>match x with
   | .slc _ _ _ _=>.ret [] (.c (if neg then .tt else .ff))
   | .msl _ _ c=>.ret [] (.c (.v (.bool (if neg then !(Nat.beq c 0) else Nat.beq c 0))))
   | .v (.slice a _ _)=>.ret [] (.c (.v (.bool (if neg then !a.isNone else a.isNone))))
   | _=>.fail
  | _=>.fail
 | .iface=>match y with
  | .v .nilIface=>match x with
   | .w y=>.ret [IsIface y] (.c (.v (.bool (if neg then !isNilI y else isNilI y))))
   | .v .nilIface=>.ret [] (.c (if neg then .ff else .tt))
   | _=>.fail
  | _=>.fail
 | _=>.fail
def qBin (T:Tab) (op:BinOp) (xt:TypeId) (x y:C):Q:=
 match alook T xt with
 | some i=>match i.k with
  | .int _=>match x,y with
   | .v (.int k a),.v (.int k' b)=>
    match op with
    | .shl | .shr=>intBin op k a b
    | _=>if kindEq k k' then intBin op k a b else .fail
   | _,_=>.fail
  | .bool=>match x.bool?,y.bool? with
   | some a,some b=>match op with
    | .eql=>.ret [] (.c (.v (.bool (a == b))))
    | .neq=>.ret [] (.c (.v (.bool (!(a == b)))))
    | _=>.fail
   | _,_=>.fail
  | k=>match op with
   | .eql=>qNil false k x y
   | .neq=>qNil true k x y
   | _=>.fail
 | none=>.fail
def addrAdd (p:OA) (n:Nat):OA:=p.map fun a=>a.add n
def setCells (cs:List C) (o:Nat) (xs:List C):List C:=cs.take o++xs++cs.drop (o + xs.length)
def setVals (vs:List Value) (o:Nat) (xs:List Value):List Value:=
 match xs with
 | [x]=>vs.set o x
 | _=>vs.take o++xs++vs.drop (o + xs.length)
def C.val?:C->Option Value
 | .v x=>some x
 | .w x=>some x
 | .tt=>some (.bool true)
 | .ff=>some (.bool false)
 | _=>none
def vals?:List C->Option (List Value)
 | []=>some []
 | c :: r=>match c.val?,vals? r with
  | some v,some vs=>some (v :: vs)
  | _,_=>none
def qLoad (bx:Nat->Option Box) (i:TI) (x:SV):Q:=
 match x with
 | .c (.ptr b o)=>match bx b with
  | some ⟨.lit cs,_⟩=>match i.k with
   | .struct _ | .arr _ _=>if Nat.ble (o + i.size) cs.length then .ret [] (.agg ((cs.drop o).take i.size)) else .fail
   | _=>match cs[o]? with
    | some c=>.ret [] (.c c)
    | none=>.fail
  | some ⟨.row vs,_⟩=>.rdRow vs o i.size (shVOf i)
  | some ⟨.mrow vs,_⟩=>if Nat.beq i.size 0 then .fail else .rdRow vs o i.size (shVOf i)
  | none=>.fail
 | .c (.v (.pointer p))=>if Nat.beq i.zero.length i.size then .rd p (shVOf i) else .fail
 | _=>.fail
def qStore (bx:Nat->Option Box) (i:TI) (a x:SV):Q:=
 match a with
 | .c (.ptr b o)=>if Nat.beq x.cells.length i.size && !x.isTup then match bx b with
   | some ⟨.lit cs,ty⟩=>if Nat.ble (o + i.size) cs.length then .upd x.oneSC b ⟨.lit (setCells cs o x.cells),ty⟩ else .fail
   | some ⟨.row vs,ty⟩=>match vals? x.cells with
    | some xs=>.upd (x.oneSC++[o + i.size<=vs.length]) b ⟨.row (setVals vs o xs),ty⟩
    | none=>.fail
   | some ⟨.mrow vs,ty⟩=>if Nat.beq i.size 0 then .fail else match vals? x.cells with
    | some xs=>.upd (x.oneSC++[o + i.size<=vs.length]) b ⟨.mrow (setVals vs o xs),ty⟩
    | none=>.fail
   | none=>.fail
  else .fail
 | _=>.fail
def fillC (place:Nat->Option (Nat × Nat)) (cells:List C):List (Nat × SV)->Option (List C)
 | []=>some cells
 | (i,x) :: r=>match place i with
  | none=>none
  | some (off,size)=>if Nat.beq x.cells.length size && Nat.ble (off + size) cells.length && !x.isTup then fillC place (setCells cells off x.cells) r else none
def partsOf (ρ:Operand->Option SV):List (Nat × Operand)->Option (List (Nat × SV))
 | []=>some []
 | (i,o) :: r=>match ρ o,partsOf ρ r with
  | some x,some l=>some ((i,x) :: l)
  | _,_=>none
def fieldPlaces (T:Tab):List (TypeId × Nat)->Option (List (Nat × Nat))
 | []=>some []
 | (t,off) :: r=>match alook T t,fieldPlaces T r with
  | some i,some l=>some ((off,i.size) :: l)
  | _,_=>none
def rep (n:Nat) (zs:List C):List C:=(List.replicate n zs).flatten
def zrow (n:Nat) (zs:List Value):List Value:=
 match zs with
 | [z]=>List.replicate n z
 | _=>(List.replicate n zs).flatten
def slA (a:OA) (m l sz:Nat):OA:=if m=l then a else addrAdd a (l * sz)
def slO (o m l sz:Nat):Nat:=if m=l then o else o + l * sz
def qTop (c:Nat):Option SV->Option (List Prop × Nat)
 | none=>some ([],c)
 | some (.c (.v (.int _ m)))=>some ([0<=m/\m<=(c:Int)],m.toNat)
 | _=>none
def qHigh (n m:Nat):Option SV->Option SV->Option (List Prop × Nat)
 | some (.c (.v (.int _ h))),_=>some ([0<=h/\h<=(m:Int)],h.toNat)
 | none,none=>some ([],n)
 | _,_=>none
def qLow (h:Nat):Option SV->Option (List Prop × Option Nat)
 | none=>some ([],none)
 | some (.c (.v (.int _ l)))=>some ([0<=l/\l<=(h:Int)],some l.toNat)
 | _=>none
/-- The bounds of a slice expression: the conditions, l, h, m. -/
def qBounds (n c:Nat) (lo hi mx:Option SV):Option (List Prop × Option Nat × Nat × Nat):=
 match qTop c mx with
 | none=>none
 | some (p1,m)=>match qHigh n m hi mx with
  | none=>none
  | some (p2,h)=>match qLow h lo with
   | none=>none
   | some (p3,l)=>some (p1++p2++p3,l,h,m)
def optO (ρ:Operand->Option SV):Option Operand->Option (Option SV)
 | none=>some none
 | some x=>match ρ x with
  | some v=>some (some v)
  | none=>none
def qSlice (sz:Nat) (x:SV) (lo hi mx:Option SV):Q:=
 match x with
 | .c (.v (.slice a n c))=>match qBounds n c lo hi mx with
  | some (sc,none,h,m)=>.ret sc (.c (.v (.slice a h m)))
  | some (sc,some l,h,m)=>.ret sc (.c (.v (.slice (slA a m l sz) (h - l) (m - l))))
  | none=>.fail
 | .c (.slc s o n c)=>match qBounds n c lo hi mx with
  | some (sc,none,h,m)=>.ret sc (.c (.slc s o h m))
  | some (sc,some l,h,m)=>.ret sc (.c (.slc s (slO o m l sz) (h - l) (m - l)))
  | none=>.fail
 | .c (.msl s n c)=>match mx with
  | none=>match qBounds n c lo hi none with
   | some (sc,none,h,m)=>.ret sc (.c (.msl s h m))
   | _=>.fail
  | some _=>.fail
 | _=>.fail
def qIndexAddr (T:Tab) (i:TI) (x ix:SV):Q:=
 match ix with
 | .c (.v (.int _ n))=>match i.k with
  | .slice e=>match alook T e with
   | some ei=>match x with
    | .c (.v (.slice a len _))=>.ret [a.isSome=true,0<=n/\n < (len:Int)] (.c (.v (.pointer (addrAdd a (n.toNat * ei.size)))))
    | .c (.slc s o len _)=>.ret [0<=n/\n < (len:Int)] (.c (.ptr s (o + n.toNat * ei.size)))
    | .c (.msl s len c)=>.ret [0<=n/\n < (len:Int),len<=c] (.c (.ptr s (n.toNat * ei.size)))
    | _=>.fail
   | none=>.fail
  | .arr len e=>match alook T e with
   | some ei=>match x with
    | .c (.ptr s o)=>.ret [0<=n/\n < (len:Int)] (.c (.ptr s (o + n.toNat * ei.size)))
    | _=>.fail
   | none=>.fail
  | _=>.fail
 | _=>.fail
def qMake (T:Tab) (i:TI) (l c:SV):Q:=
 match i.k with
 | .slice e=>match alook T e with
  | some ei=>match l,c with
   | .c (.v (.int _ n)),.c (.v (.int _ m))=>match vals? ei.zero with
    | some zs=>if Nat.beq ei.bytes 0 || Nat.beq ei.size 0 || !(Nat.beq ei.size zs.length) then .fail else .new [0<=n,n<=m,(ei.bytes:Int) * m<=140737488355328] ⟨.row (zrow m.toNat zs),e⟩ fun d=>.c (.slc d 0 n.toNat m.toNat)
    | none=>.fail
   | _,_=>.fail
  | none=>.fail
 | _=>.fail
def ptrIds:List SV->Option (List Nat)
 | []=>some []
 | .c (.ptr s 0) :: r=>match ptrIds r with
  | some l=>some (s :: l)
  | none=>none
 | _=>none
def operL (ρ:Operand->Option SV):List Operand->Option (List SV)
 | []=>some []
 | o :: r=>match ρ o,operL ρ r with
  | some x,some l=>some (x :: l)
  | _,_=>none
def minI (a b:Int):Int:=if b < a then b else a
def maxI (a b:Int):Int:=if b > a then b else a
def foldI (f:Int->Int->Int) (k:IntKind) (a:Int):List SV->Option Int
 | []=>some a
 | .c (.v (.int k' b)) :: r=>if kindEq k k' then foldI f k (f a b) r else none
 | _=>none
/-- The cells of an own box, all of them values. -/
def boxVals (bx:Nat->Option Box) (s:Nat):Option (List Value):=
 match bx s with
 | some ⟨.lit cs,_⟩=>vals? cs
 | some ⟨.row vs,_⟩=>some vs
 | _=>none
def boxTy (bx:Nat->Option Box) (s:Nat):Option TypeId:=match bx s with | some b=>some b.ty | none=>none
/-- A part of an own row; cells that no slice can hold where the row is too short. -/
def rowTake (ws:List Value) (o n:Nat):List Value:=cond (Nat.ble (o + n) ws.length) ((ws.drop o).take n) (List.replicate n (.agg #[]))
def qAppend (bx:Nat->Option Box) (e:TypeId) (ei:TI) (b x:SV):Q:=
 match vals? ei.zero with
 | none=>.fail
 | some zs=>if Nat.beq ei.bytes 0 || Nat.beq ei.size 0 || !(Nat.beq ei.size zs.length) then .fail else
  let src:Option (OA × Nat ⊕ List Value):=match x with
   | .c (.v (.slice a k _))=>some (.inl (a,k))
   | .c (.slc s o k _)=>match bx s with
    | some ⟨.row ws,_⟩=>some (.inr (rowTake ws o (k * ei.size)))
    | _=>match boxVals bx s with
     | some ws=>if Nat.ble (o + k * ei.size) ws.length then some (.inr ((ws.drop o).take (k * ei.size))) else none
     | none=>none
   | _=>none
  match src with
  | none=>.fail
  | some src=>match b with
   | .c (.v (.slice a n c))=>.app none a [] n c src ei.size ei.bytes e
   | .c (.slc s 0 n c)=>match boxVals bx s,boxTy bx s with
    | some vs,some ty=>if Nat.beq ty e then .app (some s) none vs n c src ei.size ei.bytes e else .fail
    | _,_=>.fail
   | .c (.msl s n c)=>match bx s with
    | some ⟨.mrow vs,ty⟩=>if Nat.beq ty e then .mapp s vs n c src ei.size ei.bytes e else .fail
    | _=>.fail
   | _=>.fail
def qBuiltin (b:Builtin) (k:TK) (xs:List SV):Q:=
 match xs with
 | []=>.fail
 | x :: r=>match b with
  | .len=>match r,k,x with
   | [],.slice _,.c (.v (.slice _ n _))=>.ret [] (.c (.v (.int .i64 n)))
   | [],.slice _,.c (.slc _ _ n _)=>.ret [] (.c (.v (.int .i64 n)))
   | [],.slice _,.c (.msl _ n _)=>.ret [] (.c (.v (.int .i64 n)))
   | [],.str,.c (.v (.string s))=>.ret [] (.c (.v (.int .i64 s.size)))
   | _,_,_=>.fail
  | .cap=>match r,k,x with
   | [],.slice _,.c (.v (.slice _ _ c))=>.ret [] (.c (.v (.int .i64 c)))
   | [],.slice _,.c (.slc _ _ _ c)=>.ret [] (.c (.v (.int .i64 c)))
   | [],.slice _,.c (.msl _ _ c)=>.ret [] (.c (.v (.int .i64 c)))
   | _,_,_=>.fail
  | .min=>match x with
   | .c (.v (.int k a))=>match foldI minI k a r with
    | some m=>.ret [] (.c (.v (.int k m)))
    | none=>.fail
   | _=>.fail
  | .max=>match x with
   | .c (.v (.int k a))=>match foldI maxI k a r with
    | some m=>.ret [] (.c (.v (.int k m)))
    | none=>.fail
   | _=>.fail
  | _=>.fail
/-- A value behind an interface: one that is no pointer to a box of the function's own. -/
def qIface (t:TypeId) (i:TI) (v:SV):Q:=
 match i.k with
 | .iface=>.fail
 | _=>match v.ids,v.isTup with
  | [],false=>.ret [] (.c (.w (.iface t (v.den fun _=>0))))
  | _,_=>.fail
/-- 'clear' of a part of an own row. -/
def qClear (T:Tab) (bx:Nat->Option Box) (t:TypeId) (x:SV):Q:=
 match alook T t with
 | some i=>match i.k with
  | .slice e=>match alook T e with
   | some ei=>match vals? ei.zero,x with
    | some zs,.c (.slc s o n _)=>match bx s with
     | some ⟨.row vs,ty⟩=>if Nat.beq ei.size 0 || !(Nat.beq ei.size zs.length) || !(zs.all Value.oneCell') then .fail else .upd [o + n * ei.size<=vs.length] s ⟨.row (vs.take o++zrow n zs++vs.drop (o + n * ei.size)),ty⟩
     | _=>.fail
    | _,_=>.fail
   | none=>.fail
  | _=>.fail
 | none=>.fail
/-- An array of slices. -/
def slcs?:List C->Option (List (OA × Nat × Nat))
 | []=>some []
 | .v (.slice p n c) :: r=>match slcs? r with
  | some l=>some ((p,n,c) :: l)
  | none=>none
 | _=>none
def qIndexArr (T:Tab) (i:TI) (cs:List C) (k:Int):Q:=
 match i.k with
 | .arr n e=>match alook T e,slcs? cs with
  | some ei,some l=>match ei.k with
   | .slice _=>if Nat.beq ei.size 1 && Nat.beq l.length n then .ret [0<=k/\k < (n:Int)] (.c (.v (.slice (l.getD k.toNat (none,0,0)).1 (l.getD k.toNat (none,0,0)).2.1 (l.getD k.toNat (none,0,0)).2.2))) else .fail
   | _=>.fail
  | _,_=>.fail
 | _=>.fail
/-- A quiet operation, symbolically: by its operands' values and the boxes. -/
def qeval (T:Tab) (ρ:Operand->Option SV) (bx:Nat->Option Box) (op:Op):Q:=
 match op with
 | .move x | .assign x=>match ρ x with
  | some v=>.ret [] v
  | none=>.fail
 | .pick c a b=>match ρ c with
  | some (.c .tt)=>match ρ a with
   | some v=>.ret [] v
   | none=>.fail
  | some (.c .ff)=>match ρ b with
   | some v=>.ret [] v
   | none=>.fail
  | _=>.fail
 | .alloc t=>match alook T t with
  | some i=>.new [] ⟨.lit i.zero,t⟩ fun d=>.c (.ptr d 0)
  | none=>.fail
 | .box t x=>match ρ x with
  | some v=>match v.isTup with
   | true=>.fail
   | false=>.new v.oneSC ⟨.lit v.cells,t⟩ fun d=>.c (.ptr d 0)
  | none=>.fail
 | .build t parts=>match alook T t,partsOf ρ parts.toList with
  | some i,some ps=>match i.k with
   | .struct fs=>match fieldPlaces T fs with
    | some pl=>match fillC (fun j=>pl[j]?) i.zero ps with
     | some cs=>.ret (ps.flatMap fun x=>x.2.oneSC) (.agg cs)
     | none=>.fail
    | none=>.fail
   | .arr _ e=>match alook T e with
    | some ei=>match fillC (fun j=>some (j * ei.size,ei.size)) i.zero ps with
     | some cs=>.ret (ps.flatMap fun x=>x.2.oneSC) (.agg cs)
     | none=>.fail
    | none=>.fail
   | _=>.fail
  | _,_=>.fail
 | .buildSlice t len parts=>match alook T t,partsOf ρ parts.toList with
  | some i,some ps=>match i.k with
   | .slice e=>match alook T e with
    | some ei=>if Nat.ble (len * ei.size) 16777216 && Nat.beq ei.zero.length ei.size && !(Nat.beq ei.size 0) then match fillC (fun j=>some (j * ei.size,ei.size)) (rep len ei.zero) ps with
      | some cs=>.new (ps.flatMap fun x=>x.2.oneSC) ⟨.lit cs,e⟩ fun d=>.c (.slc d 0 len len)
      | none=>.fail
     else .fail
    | none=>.fail
   | _=>.fail
  | _,_=>.fail
 | .load t a=>match alook T t,ρ a with
  | some i,some x=>qLoad bx i x
  | _,_=>.fail
 | .store t a x=>match alook T t,ρ a,ρ x with
  | some i,some av,some xv=>qStore bx i av xv
  | _,_,_=>.fail
 | .nilCheck x=>match ρ x with
  | some (.c (.ptr s o))=>.ret [] (.c (.ptr s o))
  | some (.c (.v (.pointer p)))=>.ret [p.isSome=true] (.c (.v (.pointer p)))
  | _=>.fail
 | .binOp o xt x y _=>match ρ x,ρ y with
  | some (.c a),some (.c b)=>match b with
   | .v .nilIface=>match y with
    | .const _=>qBin T o xt a b
    | _=>.fail
   | b=>qBin T o xt a b
  | _,_=>.fail
 | .unOp .not _ x=>match ρ x with
  | some (.c .tt)=>.ret [] (.c .ff)
  | some (.c .ff)=>.ret [] (.c .tt)
  | some (.c (.v (.bool b)))=>.ret [] (.c (.v (.bool (!b))))
  | _=>.fail
 | .unOp .xor _ x=>match ρ x with
  | some (.c (.v (.int k n)))=>.ret [] (.c (.v (.int k (bitI .xor k (if k.signed then -1 else k.max) n))))
  | _=>.fail
 | .unOp .neg _ x=>match ρ x with
  | some (.c (.v (.int k n)))=>.ret [] (.c (.v (.int k (k.wrap (0 - n)))))
  | _=>.fail
 | .convert src dst x=>match alook T src,alook T dst,ρ x with
  | some _,some i,some (.c (.v (.int _ n)))=>match i.k with
   | .int k=>.ret [] (.c (.v (.int k (k.wrap n))))
   | _=>.fail
  | _,_,_=>.fail
 | .makeFunc (.func f) first caps=>match first.toList with
  | []=>match operL ρ caps.toList with
   | some xs=>match ptrIds xs with
    | some ss=>.ret [] (.c (.clo f ss))
    | none=>.fail
   | none=>.fail
  | _=>.fail
 | .makeSlice t l c=>match alook T t,ρ l,ρ c with
  | some i,some lv,some cv=>qMake T i lv cv
  | _,_,_=>.fail
 | .slice t x lo hi mx=>match alook T t,ρ x,optO ρ lo,optO ρ hi,optO ρ mx with
  | some i,some xv,some l,some h,some m=>match i.k with
   | .slice e=>match alook T e with
    | some ei=>qSlice ei.size xv l h m
    | none=>.fail
   | _=>.fail
  | _,_,_,_,_=>.fail
 | .fieldAddr t x f=>match alook T t,ρ x with
  | some i,some xv=>match i.k with
   | .struct fs=>match fs[f]? with
    | some (ft,off)=>match alook T ft with
     | some fi=>if Nat.beq fi.size 0 then .fail else match xv with
      | .c (.ptr s o)=>.ret [] (.c (.ptr s (o + off)))
      | .c (.v (.pointer p))=>.ret [p.isSome=true] (.c (.v (.pointer (addrAdd p off))))
      | _=>.fail
     | none=>.fail
    | none=>.fail
   | _=>.fail
  | _,_=>.fail
 | .field t x f=>match alook T t,ρ x with
  | some i,some (.agg cs)=>match i.k with
   | .struct fs=>match fs[f]? with
    | some (ft,off)=>match alook T ft with
     | some fi=>match fi.k with
      | .struct _ | .arr _ _=>.ret [] (.agg ((cs.drop off).take fi.size))
      | _=>match cs[off]? with
       | some c=>.ret [] (.c c)
       | none=>.fail
     | none=>.fail
    | none=>.fail
   | _=>.fail
  | _,_=>.fail
 | .indexAddr t x ix=>match alook T t,ρ x,ρ ix with
  | some i,some xv,some iv=>qIndexAddr T i xv iv
  | _,_,_=>.fail
 | .extract x j=>match ρ x with
  | some (.tup xs)=>match xs[j]? with
   | some v=>match compSV v with
    | some y=>.ret [] y
    | none=>.fail
   | none=>.fail
  | _=>.fail
 | .call c=>match c.callee with
  | .builtin .append=>match operL ρ c.args.toList,c.argTypes.toList with
   | some [b,x],[t,t']=>match alook T t,alook T t' with
    | some i,some i'=>match i.k,i'.k with
     | .slice e,.slice _=>match alook T e with
      | some ei=>qAppend bx e ei b x
      | none=>.fail
     | _,_=>.fail
    | _,_=>.fail
   | _,_=>.fail
  | .builtin .clear=>match operL ρ c.args.toList,c.argTypes.toList with
   | some [x],[t]=>qClear T bx t x
   | _,_=>.fail
  | .builtin b=>match operL ρ c.args.toList,c.argTypes.toList with
   | some xs,t :: _=>match alook T t with
    | some i=>qBuiltin b i.k xs
    | none=>.fail
   | _,_=>.fail
  | _=>.fail
 | .index t x ix=>match alook T t,ρ x,ρ ix with
  | some i,some (.c (.v (.string s))),some (.c (.v (.int _ n)))=>match i.k with
   | .str=>.ret [0<=n/\n < (s.size:Int)] (.c (.v (.int .u8 ((s.data.toList.getD n.toNat 0).toNat:Int))))
   | _=>.fail
  | some i,some (.agg cs),some (.c (.v (.int _ n)))=>qIndexArr T i cs n
  | _,_,_=>.fail
 | .makeInterface t x=>match alook T t,ρ x with
  | some i,some v=>qIface t i v
  | _,_=>.fail
 | _=>.fail
def andL:List Prop->Prop->Prop
 | [],k=>k
 | p :: r,k=>p/\andL r k
def View.rds (V:View) (p:Addr):Nat->List C->Prop->Prop
 | _,[],k=>k
 | i,c :: r,k=>V.at (p.add i) (c.den fun _=>0)/\V.rds p (i + 1) r k
/-- A value of the shape lies at the address. -/
def View.rdV (V:View) (p:OA) (x:SV) (k:Prop):Prop:=
 match x with
 | .agg cs=>∃a,p=some a/\V.rds a 0 cs k
 | .c c=>(∃a,p=some a/\V.at a (c.den fun _=>0))/\k
 | .tup _=>False
def rowV (vs:List Value) (o size:Nat) (x:SV):Prop:=
 match x with
 | .agg cs=>o + size<=vs.length/\(vs.drop o).take size=cs.map (C.den fun _=>0)
 | .c c=>vs[o]?=some (c.den fun _=>0)
 | .tup _=>False
def nmem (x:Nat):List Nat->Bool
 | []=>false
 | y :: r=>cond (Nat.beq x y) true (nmem x r)
def dedup:List Nat->List Nat
 | []=>[]
 | x :: r=>let l:=dedup r; cond (nmem x l) l (x :: l)
def disj (l m:List Nat):Bool:=l.all fun x=>!(nmem x m)
def subs (l m:List Nat):Bool:=l.all fun x=>nmem x m
/-- Boxes are given up: pointers into them become plain values. -/
def C.rel (L:List Nat) (β:Nat->Nat) (J:C->Value):C->C
 | .ptr s o=>cond (nmem s L) (.v (.pointer (some ⟨β s,o,none⟩))) (.ptr s o)
 | .slc s o n c=>cond (nmem s L) (.v (.slice (some ⟨β s,o,none⟩) n c)) (.slc s o n c)
 | .msl s n c=>cond (nmem s L) (.v (.slice (mA (β s) c) n c)) (.msl s n c)
 | .clo f ss=>cond (disj ss L) (.clo f ss) (.w (J (.clo f ss)))
 | x=>x
def SV.rel (L:List Nat) (β:Nat->Nat) (J:C->Value):SV->SV
 | .c x=>.c (x.rel L β J)
 | .agg cs=>.agg (cs.map (C.rel L β J))
 | .tup xs=>.tup (xs.map fun x=>(x.1,x.2.map (C.rel L β J)))
def Box.rel (L:List Nat) (β:Nat->Nat) (J:C->Value) (b:Box):Box:=
 match b.cs with
 | .row _=>b
 | .mrow _=>b
 | .lit cs=>⟨.lit (cs.map (C.rel L β J)),b.ty⟩
def St.rel (st:St) (L:List Nat) (β:Nat->Nat) (J:C->Value):St:=
 ⟨fun t=>match st.slots t with | some x=>some (x.rel L β J) | none=>none,
   fun t=>cond (nmem t L) none (match st.boxes t with | some b=>some (b.rel L β J) | none=>none)⟩
/-- A slice's cells as they lie in memory that is seen. -/
def View.sl (V:View) (a:OA) (xs:List Value):Prop:=∀i v,xs[i]?=some v->∃ad,a=some ad/\V.at (ad.add i) v
/-- The name of a new box that takes over from box s: behind a borrowed one, it may be borrowed memory. -/
def nid (s d:Nat):Nat:=cond (Nat.blt s 100000) d (d + 200000)
/-- 'append' to a slice of the function's own: the box of the base is gone; a new one holds all. -/
def appK (s:Nat) (vs:List Value) (n c size bytes:Nat) (ty:TypeId) (d:Nat) (st:St) (V:View) (K:St->View->Prop) (k:Nat) (xs:List Value):Prop:=
 (n + k) * bytes<=140737488355328/\n<=c/\c * size<=vs.length/\xs.length=k * size/\(∀v ∈ xs,v.oneCell'=true) /\
  match st.boxes (nid s d) with
  | some _=>False
  | none=>∀(_:Nat) (_:C->Value) (spare:List Value) (c':Nat),n + k<=c'->c' * size<=(n + k) * size + spare.length ->
   K (((st.box s ⟨.mrow [],ty⟩).box (nid s d) ⟨.row (vs.take (n * size)++xs++spare),ty⟩).put (some d) (.c (.slc (nid s d) 0 (n + k) c'))) V
/-- The same, to a slice that may be nil. -/
def mappK (s:Nat) (vs:List Value) (n c size bytes:Nat) (ty:TypeId) (d:Nat) (st:St) (V:View) (K:St->View->Prop) (k:Nat) (xs:List Value):Prop:=
 (n + k) * bytes<=140737488355328/\n<=c/\c * size<=vs.length/\xs.length=k * size/\(∀v ∈ xs,v.oneCell'=true) /\
  match st.boxes (nid s d) with
  | some _=>False
  | none=>∀(spare:List Value) (c':Nat),n + k<=c'->c' * size<=(n + k) * size + spare.length ->
   K (((st.box s ⟨.mrow [],ty⟩).box (nid s d) ⟨.mrow (vs.take (n * size)++xs++spare),ty⟩).put (some d) (.c (.msl (nid s d) (n + k) c'))) V
/-- 'append' to a slice that is not the function's own, and that has no room. -/
def appP (vs:List Value) (n c size bytes:Nat) (ty:TypeId) (d:Nat) (st:St) (V:View) (K:St->View->Prop) (k:Nat) (xs:List Value):Prop:=
 (n + k) * bytes<=140737488355328/\c < n + k/\xs.length=k * size/\(∀v ∈ xs,v.oneCell'=true) /\
  match st.boxes d with
  | some _=>False
  | none=>∀(spare:List Value) (c':Nat),n + k<=c'->c' * size<=(n + k) * size + spare.length ->
   K ((st.box d ⟨.row (vs++xs++spare),ty⟩).put (some d) (.c (.slc d 0 (n + k) c'))) V
def vcQ (q:Q) (dst:Option Nat) (st:St) (V:View) (K:St->View->Prop):Prop:=
 match q with
 | .fail=>False
 | .ret sc x=>andL sc (K (st.put dst x) V)
 | .new sc b x=>match dst with
  | some d=>match st.boxes d with
   | none=>andL sc (K ((st.box d b).put (some d) (x d)) V)
   | some _=>False
  | none=>False
 | .upd sc s b=>match dst with
  | none=>andL sc (K (st.box s b) V)
  | some _=>False
 | .rd p sh=>sh.ex fun x=>V.rdV p x (K (st.put dst x) V)
 | .rdRow vs o size sh=>sh.ex fun x=>rowV vs o size x/\K (st.put dst x) V
 | .mapp s vs n c x size bytes ty=>match dst with
  | none=>False
  | some d=>match x with
   | .inr xs=>mappK s vs n c size bytes ty d st V K (xs.length / size) xs
   | .inl (a,k)=>∃xs:List Value,V.sl a xs/\xs.length=k * size/\mappK s vs n c size bytes ty d st V K k xs
 | .app old ba vs n c x size bytes ty=>match dst with
  | none=>False
  | some d=>match old with
   | some s=>match x with
    | .inr xs=>appK s vs n c size bytes ty d st V K (xs.length / size) xs
    | .inl (a,k)=>∃xs:List Value,V.sl a xs/\xs.length=k * size/\appK s vs n c size bytes ty d st V K k xs
   | none=>∃vs:List Value,V.sl ba vs/\vs.length=n * size/\n<=c/\(ba.isNone=true->c=0)/\(match x with
    | .inr xs=>appP vs n c size bytes ty d st V K (xs.length / size) xs
    | .inl (a,k)=>∃xs:List Value,V.sl a xs/\xs.length=k * size/\(k=0->K (st.put (some d) (.c (.v (.slice ba n c)))) V)/\(k≠0->appP vs n c size bytes ty d st V K k xs))
/-! calls -/
def upd1 (β:Nat->Nat) (s b:Nat):Nat->Nat:=fun t=>cond (Nat.beq t s) b (β t)
def allB:List Nat->(Nat->Nat)->((Nat->Nat)->Prop)->Prop
 | [],β,k=>k β
 | s :: r,β,k=>∀b:Nat,allB r (upd1 β s b) k
def boxIds (bx:Nat->Option Box) (s:Nat):List Nat:=match bx s with | some b=>b.cs.ids | none=>[]
def reach (bx:Nat->Option Box):Nat->List Nat->List Nat
 | 0,l=>l
 | n + 1,l=>reach bx n (dedup (l++l.flatMap (boxIds bx)))
/-- All that is reached is in the list. -/
def closedB (bx:Nat->Option Box) (l:List Nat):Bool:=l.all fun s=>subs (boxIds bx s) l
def neH (bx:Nat->Option Box) (b:Box) (β:Nat->Nat) (s:Nat):List Nat->Prop->Prop
 | [],k=>k
 | t :: r,k=>cond (Nat.beq s t) (neH bx b β s r k) (match bx t with
  | some b'=>impL (gdL b++gdL b') (β s≠β t)->neH bx b β s r k
  | none=>False)
/-- What the lent boxes hold. -/
def lentH (bx:Nat->Option Box) (β:Nat->Nat) (V:View):List Nat->Prop->Prop
 | [],k=>k
 | s :: r,k=>match bx s with
  | some b=>impL (gdL b) (V.w.heap[β s]?=some (b.obj β))->impL (gdL b) (V.H (β s))->lentH bx β V r (neH bx b β s r k)
  | none=>False
/-- The blocks that go along. -/
def vb (vs:List Value) (n b:Nat):Nat:=
 match vs with
 | []=>n
 | _ :: _=>b
def lentB (bx:Nat->Option Box) (β:Nat->Nat) (n:Nat) (s:Nat):Nat:=
 match bx s with
 | some ⟨.mrow vs,_⟩=>vb vs n (β s)
 | _=>β s
/-- Pointers to own boxes, and functions. -/
def C.kept:C->List Nat
 | .clo _ ss=>0 :: ss
 | c=>c.ids
def exKeep (mv:Option (Nat × Nat)):List C->List C->(List C->Prop)->Prop
 | [],_,K=>K []
 | c :: r,z :: zr,K=>match c with
  | .msl t _ _=>match mv with
   | some (m,nb)=>match Nat.beq t m with
    | true=>∃n c:Nat,exKeep mv r zr fun cs=>K (.msl nb n c :: cs)
    | false=>False
   | none=>False
  | c=>match c.kept with
   | []=>(shC z).ex fun v=>exKeep mv r zr fun cs=>K (v :: cs)
   | _=>exKeep mv r zr fun cs=>K (c :: cs)
 | _,[],_=>False
/-- What they hold behind the call: cells of their type's shape; pointers to own boxes as they were. -/
def lentEx (T:Tab) (mv:Option (Nat × Nat)) (β:Nat->Nat) (V:View):List Nat->St->(St->Prop)->Prop
 | [],st,k=>k st
 | s :: r,st,k=>match st.boxes s with
  | some ⟨.lit cs,ty⟩=>match alook T ty with
   | some i=>exKeep mv cs i.zero fun cs'=>V.w.heap[β s]?=some (.cells (cs'.map (C.den β)).toArray ty (0,0))/\lentEx T mv β V r (st.box s ⟨.lit cs',ty⟩) k
   | none=>False
  | some ⟨.row _,ty⟩=>∃vs:List Value,V.w.heap[β s]?=some (.cells vs.toArray ty (0,0))/\lentEx T mv β V r (st.box s ⟨.row vs,ty⟩) k
  | some ⟨.mrow vs,ty⟩=>vs≠[]/\∃vs':List Value,vs'≠[]/\V.w.heap[β s]?=some (.cells vs'.toArray ty (0,0))/\lentEx T mv β V r (st.box s ⟨.mrow vs',ty⟩) k
  | _=>False
/-- What released boxes hold: they are seen from now on, and never written again. -/
def relH (bx:Nat->Option Box) (β:Nat->Nat) (V:View):List Nat->Prop->Prop
 | [],k=>k
 | s :: r,k=>match bx s with
  | some b=>impL (gdL b) (V.blk (β s) (b.obj β))->relH bx β V r k
  | none=>False
/-- The box of a slice that a callee may move: one that a lent box points to; at a giving call, the first slice that is handed over. -/
def mslIds:List C->List Nat
 | []=>[]
 | .msl t _ _ :: r=>t :: mslIds r
 | _ :: r=>mslIds r
def mvsOf (bx:Nat->Option Box) (L:List Nat):List Nat:=dedup (L.flatMap fun s=>match bx s with | some ⟨.lit cs,_⟩=>mslIds cs | _=>[])
def firstSl:List SV->List Nat
 | []=>[]
 | .c (.msl s _ _) :: _=>[s]
 | .c (.slc s 0 _ _) :: _=>[s]
 | .c (.v (.slice none _ _)) :: _=>[]
 | _ :: r=>firstSl r
/-- The result of a giving call: its first slice is the box's. -/
def giveTup (nb:Nat):List (Bool × List C)->List (Bool × List C)
 | []=>[]
 | (false,[.v (.slice _ n c)]) :: r=>(false,[.msl nb n c]) :: r
 | x :: r=>x :: giveTup nb r
def giveSV (nb:Nat):SV->SV
 | .c (.v (.slice _ n c))=>.c (.msl nb n c)
 | .tup xs=>.tup (giveTup nb xs)
 | x=>x
def giveTyL (T:Tab):List TypeId->Option TypeId
 | []=>none
 | t :: r=>match alook T t with
  | some i=>match i.k with
   | .slice e=>some e
   | _=>giveTyL T r
  | none=>none
def giveTy (T:Tab) (ty:TypeId):Option TypeId:=
 match alook T ty with
 | some i=>match i.k with
  | .slice e=>some e
  | .tuple ts=>giveTyL T ts
  | _=>none
 | none=>none
def denArgs (β:Nat->Nat) (xs:List SV):Array Value:=(xs.map (SV.den β)).toArray
inductive CM where
 | none | lend | rel | adopt | give
def nbOf (m:Option Nat) (d:Nat):Nat:=
 match m with
 | some m=>nid m d
 | Option.none=>d
def mvP (m:Option Nat) (nb:Nat):Option (Nat × Nat):=
 match m with
 | some m=>some (m,nb)
 | Option.none=>Option.none
def lessM (m:Option Nat) (L:List Nat):List Nat:=
 match m with
 | some m=>L.filter fun s=>!(Nat.beq s m)
 | Option.none=>L
def goneM (m:Option Nat) (ety:TypeId) (st:St):St:=
 match m with
 | some m=>st.box m ⟨.mrow [],ety⟩
 | Option.none=>st
def whereM (m:Option Nat) (st:St) (β:Nat->Nat) (b':Nat):Prop:=
 match m with
 | some m=>match st.boxes m with
  | some ⟨.mrow vs,_⟩=>vs≠[]/\b'=β m
  | _=>b'=β m
 | Option.none=>False
/-- Behind a call that may have moved box m (if any) to box nb. -/
def vcMoved (T:Tab) (give:Bool) (sh:Sh) (L:List Nat) (m:Option Nat) (d:Nat) (ety:TypeId) (β:Nat->Nat) (st:St) (V':View) (K:St->View->Prop) (r':Value) (V'':View):Prop:=
 ∃(b':Nat) (vs':List Value),(vs'≠[]->V''.w.heap[b']?=some (.cells vs'.toArray ety (0,0)))/\(vs'≠[]->V'.w.heap.size<=b' \/ whereM m st β b') /\
  sh.ex fun x=>r'=(cond give (giveSV (nbOf m d) x) x).den (upd1 β (nbOf m d) b') /\
   lentEx T (mvP m (nbOf m d)) (upd1 β (nbOf m d) b') V'' (lessM m L) ((goneM m ety st).box (nbOf m d) ⟨.mrow vs',ety⟩) fun st'=>K (st'.put (some d) (cond give (giveSV (nbOf m d) x) x)) (V''.shut.hideG (vs'≠[]) b')
def nbFree (st:St) (m:Option Nat) (d:Nat):Bool:=
 match st.boxes (nbOf m d) with
 | some _=>false
 | Option.none=>true
def vcCall0 (P:Program) (T:Tab) (m:CM) (f:FuncId) (xs:List SV) (ty:TypeId) (dst:Option Nat) (st:St) (V:View) (K:St->View->Prop):Prop:=
 match shOf T ty with
 | Option.none=>False
 | some sh=>match reach st.boxes 3 (dedup (xs.flatMap SV.ids)) with
  | []=>match m with
   | .give=>match dst,giveTy T ty with
    | some d,some ety=>match nbFree st Option.none d with
     | false=>False
     | true=>∀V':View,V.Le V'->Acts P f (denArgs (fun _=>0) xs) V' (vcMoved T true sh [] Option.none d ety (fun _=>0) st V' K)
    | _,_=>False
   | .adopt=>match sh,dst with
    | .val (.one .ptr),some d=>match st.boxes d with
     | some _=>False
     | Option.none=>match alook T ty with
      | some ti=>match ti.k with
       | .ptr e=>match alook T e with
        | some ei=>∀V':View,V.Le V'->Acts P f (denArgs (fun _=>0) xs) V' fun r V''=>∃b:Nat,exL (ei.zero.map shC) fun cs=>
          r=.pointer (some ⟨b,0,Option.none⟩)/\V'.w.heap.size<=b/\V''.blk b (.cells (cs.map (C.den fun _=>0)).toArray e (0,0))/\K ((st.box d ⟨.lit cs,e⟩).put (some d) (.c (.ptr d 0))) (V''.hide b)
        | Option.none=>False
       | _=>False
      | Option.none=>False
    | _,_=>False
   | _=>∀V':View,V.Le V'->Acts P f (denArgs (fun _=>0) xs) V' fun r V''=>sh.ex fun x=>r=x.den (fun _=>0)/\K (st.put dst x) V''
  | s :: r=>match closedB st.boxes (s :: r) with
   | false=>False
   | true=>match m with
    | .none | .adopt=>False
    | .give=>match dst,giveTy T ty,firstSl xs,mvsOf st.boxes (s :: r) with
     | some d,some ety,[],[]=>match nbFree st Option.none d with
      | false=>False
      | true=>∀V':View,V.Le V'->allB (s :: r) (fun _=>0) fun β=>lentH st.boxes β V' (s :: r)
       (Acts P f (denArgs β xs) (V'.lend ((s :: r).map (lentB st.boxes β V'.w.heap.size))) (vcMoved T true sh (s :: r) Option.none d ety β st V' K))
     | some d,some ety,[m],[]=>match nbFree st (some m) d with
      | false=>False
      | true=>∀V':View,V.Le V'->allB (s :: r) (fun _=>0) fun β=>lentH st.boxes β V' (s :: r)
       (Acts P f (denArgs β xs) (V'.lend ((s :: r).map (lentB st.boxes β V'.w.heap.size))) (vcMoved T true sh (s :: r) (some m) d ety β st V' K))
     | _,_,_,_=>False
    | .lend=>match mvsOf st.boxes (s :: r) with
     | []=>∀V':View,V.Le V'->allB (s :: r) (fun _=>0) fun β=>lentH st.boxes β V' (s :: r)
      (Acts P f (denArgs β xs) (V'.lend ((s :: r).map (lentB st.boxes β V'.w.heap.size))) fun r' V''=>sh.ex fun x=>r'=x.den (fun _=>0)/\lentEx T Option.none β V'' (s :: r) st fun st'=>K (st'.put dst x) V''.shut)
     | [m]=>match dst,boxTy st.boxes m with
      | some d,some ety=>match nbFree st (some m) d with
       | false=>False
       | true=>∀V':View,V.Le V'->allB (s :: r) (fun _=>0) fun β=>lentH st.boxes β V' (s :: r)
        (Acts P f (denArgs β xs) (V'.lend ((s :: r).map (lentB st.boxes β V'.w.heap.size))) (vcMoved T false sh (s :: r) (some m) d ety β st V' K))
      | _,_=>False
     | _=>False
    | .rel=>match (s :: r).all fun t=>Nat.blt t 100000 with
     | false=>False
     | true=>∀V':View,V.Le V'->allB (s :: r) (fun _=>0) fun β=>relH st.boxes β V' (s :: r)
      (Acts P f (denArgs β xs) V' fun r' V''=>sh.ex fun x=>r'=x.den (fun _=>0)/\∀J:C->Value,K ((st.rel (s :: r) β J).put dst x) V'')
/-- The first slice that may be nil among the arguments; the arguments with nil in its place. -/
def splitM (bx:Nat->Option Box):List SV->Option (List Value × Nat × List SV)
 | []=>none
 | x :: r=>match x with
  | .c (.msl s n c)=>match bx s with
   | some ⟨.mrow vs,_⟩=>some (vs,c,.c (.v (.slice none n c)) :: r)
   | _=>none
  | x=>match splitM bx r with
   | some (vs,c,r')=>some (vs,c,x :: r')
   | none=>none
/-- A slice that may be nil is lent: two ways. -/
def vcCall (P:Program) (T:Tab) (m:CM) (f:FuncId) (xs:List SV) (ty:TypeId) (dst:Option Nat) (st:St) (V:View) (K:St->View->Prop):Prop:=
 match m with
 | .lend=>match splitM st.boxes xs with
  | some (vs,c,xs')=>(vs=[]->c=0/\vcCall0 P T .lend f xs' ty dst st V K)/\(vs≠[]->vcCall0 P T .lend f xs ty dst st V K)
  | none=>vcCall0 P T .lend f xs ty dst st V K
 | m=>vcCall0 P T m f xs ty dst st V K
def clAll (ss:List Nat):List SV:=ss.map fun s=>.c (.ptr s 0)
/-- Where a load, a store, a lending call works, looked up ahead: among these boxes of the function's own. It is held against the operands when the operation is done. -/
inductive Hint where
 | free | own (l:List Nat)
/-- The operands that name the memory. -/
def memOps (op:Op):List Operand:=
 match op with
 | .load _ a=>[a]
 | .store _ a _=>[a]
 | .call ⟨.value f,args,_⟩=>args.toList++[f]
 | .call ⟨.builtin .append,args,_⟩=>args.toList
 | _=>[]
def hintIds (bx:Nat->Option Box) (op:Op) (l:List Nat):List Nat:=
 match op with
 | .call _=>reach bx 3 (dedup l)
 | _=>l
/-- A method of a struct's type with the struct as its receiver. -/
def methOf (P:Program) (t:TypeId) (name:String):Option FuncId:=
 match P.info? t,P.underlying t with
 | some i,some d=>match i.methods.find? (fun m=>m.name == name) with
  | some m=>match m.path.toList,m.func,d with
   | [],some (f,false),.struct _=>some f
   | _,_,_=>none
  | none=>none
 | _,_=>none
def vcBody' (P:Program) (T:Tab) (m:CM) (o:Oper) (st:St) (V:View) (K:St->View->Prop):Prop:=
 match o.op with
 | .call ⟨.value fop,args,_⟩=>match operL st.opnd args.toList with
  | some xs=>match st.opnd fop with
   | some (.c (.clo f ss))=>vcCall P T m f (xs++clAll ss) o.type o.dst st V K
   | _=>False
  | none=>False
 | .call ⟨.invoke recv name,args,_⟩=>match operL st.opnd args.toList with
  | some xs=>match st.opnd recv with
   | some (.c (.w (.iface t v)))=>match methOf P t name with
    | some f=>vcCall P T m f (.c (.w v) :: xs) o.type o.dst st V K
    | none=>False
   | _=>False
  | none=>False
 | op=>vcQ (qeval T st.opnd st.boxes op) o.dst st V K
def vcBody (P:Program) (T:Tab) (m:CM) (h:Hint) (o:Oper) (st:St) (V:View) (K:St->View->Prop):Prop:=
 match h with
 | .free=>vcBody' P T m o st V K
 | .own l=>match operL st.opnd (memOps o.op) with
  | some xs=>match subs (hintIds st.boxes o.op (xs.flatMap SV.ids)) l with
   | true=>vcBody' P T m o st V K
   | false=>False
  | none=>False
def undefS:SV:=.tup []
/-- One operation, its guard first: at a guard that is not known, two ways. -/
def vcOp (P:Program) (T:Tab) (m:CM) (h:Hint) (ops:Array Oper) (o:Oper) (st:St) (V:View) (K:St->View->Prop):Prop:=
 match o.guard with
 | none=>vcBody P T m h o st V K
 | some (j,b)=>match (ops[j]?).bind (·.dst) with
  | none=>False
  | some g=>match st.slots g with
   | some (.c .tt)=>match b with
    | true=>vcBody P T m h o st V K
    | false=>K (st.put o.dst undefS) V
   | some (.c .ff)=>match b with
    | true=>K (st.put o.dst undefS) V
    | false=>vcBody P T m h o st V K
   | some (.c (.v (.bool c)))=>match b with
    | true=>(c=true->vcBody P T m h o (st.put (some g) (.c .tt)) V K)/\(c=false->K ((st.put (some g) (.c .ff)).put o.dst undefS) V)
    | false=>(c=true->K ((st.put (some g) (.c .tt)).put o.dst undefS) V)/\(c=false->vcBody P T m h o (st.put (some g) (.c .ff)) V K)
   | some (.tup _)=>K (st.put o.dst undefS) V
   | _=>False
inductive Cls where
 | pure | load | store | alloc | call | lcall | odd | adopt | app | give
def clsOf (LF RF:List Nat):Op->Cls
 | .move _ | .assign _ | .pick .. | .build .. | .nilCheck _ | .binOp .. | .unOp .. | .convert .. | .makeFunc .. | .slice .. | .fieldAddr .. | .field .. | .indexAddr .. | .extract .. | .index .. | .makeInterface ..=>.pure
 | .load ..=>.load
 | .store ..=>.store
 | .alloc _ | .box .. | .buildSlice .. | .makeSlice ..=>.alloc
 | .call ⟨.builtin .len,_,_⟩ | .call ⟨.builtin .cap,_,_⟩=>.pure
 | .call ⟨.builtin .append,_,_⟩=>.app
 | .call ⟨.value (.func f),_,_⟩=>match nmem f LF with
  | true=>match nmem (f + 1000000) LF with
   | true=>.give
   | false=>.lcall
  | false=>match nmem f RF with
   | true=>.odd
   | false=>match nmem (f + 1000000) RF with
    | true=>.adopt
    | false=>.call
 | .call ⟨.value _,_,_⟩=>.lcall
 | .call ⟨.invoke _ _,_,_⟩=>.call
 | _=>.odd
def opTmps (op:Op):List Nat:=op.operands.toList.filterMap fun | .tmp t=>some t | _=>none
def guardT (ops:Array Oper) (o:Oper):List Nat:=
 match o.guard with
 | none=>[]
 | some (j,_)=>match (ops[j]?).bind (·.dst) with
  | some g=>[g]
  | none=>[]
def dstL (o:Oper):List Nat:=match o.dst with | some d=>[d] | none=>[]
/-- The boxes that an operation reads, those that it writes. -/
def rwOf (c:Cls) (h:Hint) (d:List Nat):Option (List Nat × List Nat):=
 match c,h with
 | .pure,.free=>some ([],[])
 | .call,.free=>some ([],[])
 | .alloc,.free=>some (d,d)
 | .load,.own l=>some (l,[])
 | .store,.own l=>some (l,l)
 | .lcall,.own l=>some (l,l++d++d.map (· + 200000))
 | .app,.own l=>some (l,l++d++d.map (· + 200000))
 | .give,.own l=>some (l,l++d++d.map (· + 200000))
 | _,_=>none
def quietC:Cls->Bool
 | .pure | .load | .store | .alloc=>true
 | _=>false
/-- o1, then o2, may as well go o2, then o1. -/
def indep (LF RF:List Nat) (ops:Array Oper) (h1 h2:Hint) (o1 o2:Oper):Bool:=
 quietC (clsOf LF RF o1.op) &&
 disj (dstL o1) (opTmps o2.op++guardT ops o2++dstL o2) && disj (dstL o2) (opTmps o1.op++guardT ops o1) &&
 disj (guardT ops o1) (opTmps o2.op) && disj (guardT ops o2) (opTmps o1.op) &&
 match rwOf (clsOf LF RF o1.op) h1 (dstL o1),rwOf (clsOf LF RF o2.op) h2 (dstL o2) with
 | some (r1,w1),some (r2,w2)=>disj w1 r2 && disj w2 r1 && disj w1 w2
 | _,_=>false
def fstOf (ops:List Oper) (t:Nat):Option Oper:=ops.find? fun o=>match o.dst with | some d=>Nat.beq d t | none=>false
/-- The boxes that an operand may lead to, as far as it can be seen ahead. -/
def siteOf (st:St) (ops:List Oper):Nat->Operand->List Nat
 | 0,_=>[]
 | n + 1,.tmp t=>match fstOf ops t with
  | some o=>match o.op with
   | .alloc _ | .box .. | .buildSlice .. | .makeSlice ..=>[t]
   | .call _=>[t,t + 200000]
   | .assign x=>siteOf st ops n x++match st.slots t with
    | some x=>x.ids
    | none=>[]
   | .load _ a=>(siteOf st ops n a).flatMap (boxIds st.boxes)
   | op=>op.operands.toList.flatMap (siteOf st ops n)
  | none=>match st.slots t with
   | some x=>x.ids
   | none=>[]
 | _,_=>[]
def hintOf (LF RF:List Nat) (st:St) (ops:List Oper) (o:Oper):Hint:=
 match clsOf LF RF o.op with
 | .load | .store=>.own (dedup ((memOps o.op).flatMap (siteOf st ops 10)))
 | .lcall | .app | .give=>.own (reach st.boxes 3 (dedup ((memOps o.op).flatMap (siteOf st ops 10))))
 | _=>.free
/-- For each operation those that every order puts before it: bit masks. -/
def ancs (ops:List Oper):List Nat:=
 ops.foldl (fun acc o=>acc++[o.after.toList.foldl (fun s e=>cond (Region.binds .any e) (Nat.lor (Nat.lor (Nat.shiftLeft 1 e.on) (acc.getD e.on 0)) s) s) 0]) []
def bitB (m i:Nat):Bool:=Nat.beq (Nat.land (Nat.shiftRight m i) 1) 1
def isCallB (LF RF:List Nat) (o:Oper):Bool:=match clsOf LF RF o.op with | .call | .lcall | .odd | .adopt | .app | .give=>true | _=>false
def readyB (ops:Array Oper) (done:List Nat) (i:Nat):Bool:=
 match ops[i]? with
 | some o=>!(nmem i done) && o.after.toList.all fun e=>!(Region.binds .any e) || nmem e.on done
 | none=>false
def stageGo (LF RF:List Nat) (ops:Array Oper):Nat->List Nat->List Nat
 | 0,_=>[]
 | n + 1,done=>
  let rs:=(List.range ops.size).filter (readyB ops done)
  match rs.find? (fun i=>match ops[i]? with | some o=>!(isCallB LF RF o) | none=>false) with
  | some i=>i :: stageGo LF RF ops n (i :: done)
  | none=>match rs with
   | i :: _=>i :: stageGo LF RF ops n (i :: done)
   | []=>[]
def stageOrder (LF RF:List Nat) (ops:Array Oper):List Nat:=stageGo LF RF ops ops.size []
def pairsOk (LF RF:List Nat) (ops:Array Oper) (hs:List Hint) (an:List Nat):List Nat->Bool
 | []=>true
 | i :: r=>(r.all fun j=>bitB (an.getD j 0) i || match ops[i]?,ops[j]? with | some a,some b=>indep LF RF ops (hs.getD i .free) (hs.getD j .free) a b | _,_=>false) && pairsOk LF RF ops hs an r
def readyAll (ops:Array Oper):List Nat->List Nat->Bool
 | _,[]=>true
 | done,i :: r=>readyB ops done i && readyAll ops (i :: done) r
def orderOk (LF RF:List Nat) (ops:Array Oper) (hs:List Hint) (l:List Nat):Bool:=
 Nat.beq l.length ops.size && ((List.range ops.size).all fun i=>nmem i l) && readyAll ops [] l && pairsOk LF RF ops hs (ancs ops.toList) l
/-- The operations in a given order: 'm' says whether one may lend or release boxes, 'hint' where it works. -/
def vcL (P:Program) (T:Tab) (m:Nat->CM) (hint:Nat->Hint) (ops:Array Oper):List Nat->St->View->(St->View->Prop)->Prop
 | [],st,V,K=>K st V
 | i :: r,st,V,K=>match ops[i]? with
  | some o=>vcOp P T (m i) (hint i) ops o st V fun st' V'=>vcL P T m hint ops r st' V' K
  | none=>False
def modeOf (LF RF:List Nat) (ops:Array Oper) (i:Nat):CM:=
 match ops[i]? with
 | some o=>match clsOf LF RF o.op with
  | .lcall=>.lend
  | .odd=>.rel
  | .adopt=>.adopt
  | .give=>.give
  | _=>.none
 | Option.none=>.none
/-- In the text's own order: a call that does not lend may release. -/
def modeN (LF RF:List Nat) (ops:Array Oper) (i:Nat):CM:=
 match ops[i]? with
 | some o=>match clsOf LF RF o.op with
  | .lcall=>.lend
  | .adopt=>.adopt
  | .give=>.give
  | _=>.rel
 | Option.none=>.none
/-! code -/
/-- A state's shape at a loop's head, at an if's end: what is kept as it was, what is other. -/
structure Tm where
 τ:Type
 gh:Bool:=false
 keep:List Nat
 keepB:List Nat
 slots:τ->List (Nat × SV)
 boxes:τ->List (Nat × Box)
structure Ann where
 τ:Type
 slots:τ->List (Nat × SV)
 boxes:τ->List (Nat × Box)
def keepL {α:Type} (f:Nat->Option α):List Nat->List (Nat × α)
 | []=>[]
 | t :: r=>match f t with
  | some x=>(t,x) :: keepL f r
  | none=>keepL f r
def Tm.at (A:Tm) (st:St):Ann:=⟨A.τ,fun x=>keepL st.slots A.keep++A.slots x,fun x=>keepL st.boxes A.keepB++A.boxes x⟩
def eqId (ρ:List (Nat × Nat)) (s s':Nat):Bool:=
 match alook ρ s' with
 | some t=>Nat.beq s t
 | none=>Nat.beq s s'
def eqIds (ρ:List (Nat × Nat)):List Nat->List Nat->Bool
 | [],[]=>true
 | s :: r,s' :: r'=>eqId ρ s s' && eqIds ρ r r'
 | _,_=>false
def eqC (ρ:List (Nat × Nat)):C->C->List Prop
 | .v (.int k a),.v (.int k' b)=>cond (kindEq k k') [a=b] [False]
 | .v (.bool a),.v (.bool b)=>[a=b]
 | .tt,.v (.bool b)=>[true=b]
 | .ff,.v (.bool b)=>[false=b]
 | .v (.slice a n c),.v (.slice a' n' c')=>[a=a',n=n',c=c']
 | .v (.slice a n c),.msl _ n' c'=>[a=none,n=n',c=c',c=0]
 | .v (.pointer p),.v (.pointer q)=>[p=q]
 | .v x,.v y=>[x=y]
 | .w x,.w y=>[x=y]
 | .w x,.v y=>[x=y]
 | .v x,.w y=>[x=y]
 | .tt,.tt=>[]
 | .ff,.ff=>[]
 | .ptr s o,.ptr s' o'=>cond (eqId ρ s s') [o=o'] [False]
 | .slc s o n c,.slc s' o' n' c'=>cond (eqId ρ s s') [o=o',n=n',c=c'] [False]
 | .slc s o n c,.msl s' n' c'=>cond (eqId ρ s s') [o=0,n=n',c=c',c≠0] [False]
 | .msl s n c,.msl s' n' c'=>cond (eqId ρ s s') [n=n',c=c'] [False]
 | .clo f ss,.clo g ts=>cond (eqIds ρ ss ts) [f=g] [False]
 | _,_=>[False]
def eqCs (ρ:List (Nat × Nat)):List C->List C->List Prop
 | [],[]=>[]
 | a :: r,b :: s=>eqC ρ a b++eqCs ρ r s
 | _,_=>[False]
def eqSV (ρ:List (Nat × Nat)):SV->SV->List Prop
 | .c a,.c b=>eqC ρ a b
 | .agg l,.agg m=>eqCs ρ l m
 | _,_=>[False]
/-- In a template: no tuple. -/
def SV.plain:SV->Bool
 | .tup _=>false
 | _=>true
def eqBox (ρ:List (Nat × Nat)) (a b:Box):List Prop:=
 match a.cs,b.cs with
 | .lit l,.lit m=>cond (Nat.beq a.ty b.ty) (eqCs ρ l m) [False]
 | .row l,.row m=>cond (Nat.beq a.ty b.ty) [l=m] [False]
 | .mrow l,.mrow m=>cond (Nat.beq a.ty b.ty) [l=m] [False]
 | .row l,.mrow m=>cond (Nat.beq a.ty b.ty) [l=m] [False]
 | .lit l,.mrow m=>match vals? l with
  | some ws=>cond (Nat.beq a.ty b.ty) [ws=m] [False]
  | none=>[False]
 | _,_=>[False]
/-- Which box of the state stands for a box of the template: (template's, state's). -/
def renC:C->C->List (Nat × Nat)
 | .ptr s _,.ptr s' _=>[(s',s)]
 | .slc s _ _ _,.slc s' _ _ _=>[(s',s)]
 | .slc s _ _ _,.msl s' _ _=>[(s',s)]
 | .msl s _ _,.msl s' _ _=>[(s',s)]
 | .clo _ ss,.clo _ ts=>ts.zip ss
 | _,_=>[]
def renCs:List C->List C->List (Nat × Nat)
 | a :: r,b :: s=>renC a b++renCs r s
 | _,_=>[]
def renSV:SV->SV->List (Nat × Nat)
 | .c a,.c b=>renC a b
 | .agg l,.agg m=>renCs l m
 | _,_=>[]
def renS (st:St):List (Nat × SV)->List (Nat × Nat)
 | []=>[]
 | (t,x) :: r=>match st.slots t with
  | some y=>renSV y x++renS st r
  | none=>renS st r
def renB (st:St) (ρ:List (Nat × Nat)):List (Nat × Box)->List (Nat × Nat)
 | []=>[]
 | (t,x) :: r=>match alook ρ t with
  | some s=>match st.boxes s with
   | some y=>(match y.cs,x.cs with | .lit l,.lit m=>renCs l m | _,_=>[])++renB st ρ r
   | none=>renB st ρ r
  | none=>renB st ρ r
/-- Borrowed boxes keep their names. -/
def renAll (st:St) (ss:List (Nat × SV)) (bs:List (Nat × Box)):List (Nat × Nat):=
 let ρ1:=renS st ss
 let ρ2:=ρ1++renB st ρ1 bs
 let ρ3:=ρ2++renB st ρ2 bs
 ρ3++renB st ρ3 bs
def ren (ρ:List (Nat × Nat)) (t:Nat):Nat:=
 match alook ρ t with
 | some s=>s
 | none=>t
/-- No two boxes of the template stand for the same box; borrowed ones for themselves; own ones for own ones. -/
def renOk (ρ:List (Nat × Nat)):List Nat->Bool
 | []=>true
 | t :: r=>(Nat.blt t 100000 == Nat.blt (ren ρ t) 100000) && (Nat.blt t 100000 || Nat.ble 200000 t || Nat.beq (ren ρ t) t) && (r.all fun u=>!(Nat.beq (ren ρ t) (ren ρ u))) && renOk ρ r
/-- Those of the template's boxes that stand for a box. -/
def renL (ρ:List (Nat × Nat)):List (Nat × Box)->List Nat
 | []=>[]
 | (t,x) :: r=>match x.cs with
  | .mrow _=>match alook ρ t with
   | some _=>t :: renL ρ r
   | none=>renL ρ r
  | _=>t :: renL ρ r
def fitS (ρ:List (Nat × Nat)) (st:St):List (Nat × SV)->List Prop
 | []=>[]
 | (t,x) :: r=>match st.slots t with
  | some y=>eqSV ρ y x++fitS ρ st r
  | none=>[False]
def fitB (ρ:List (Nat × Nat)) (st:St):List (Nat × Box)->List Prop
 | []=>[]
 | (t,x) :: r=>match x.cs,alook ρ t with
  | .mrow l,none=>(l=[]) :: fitB ρ st r
  | _,_=>match st.boxes (ren ρ t) with
   | some y=>eqBox ρ y x++fitB ρ st r
   | none=>[False]
def fitR (ρ:List (Nat × Nat)) (bs:List (Nat × Box)):List Prop:=cond (renOk ρ (renL ρ bs)) [] [False]
/-- The template mentions no box that it does not list. -/
def tmplB (ss:List (Nat × SV)) (bs:List (Nat × Box)):Bool:=
 let l:=bs.map (·.1)
 (ss.all fun x=>x.2.ids.all fun s=>nmem s l) && (bs.all fun x=>x.2.cs.ids.all fun s=>nmem s l)
def Ann.st (A:Ann) (x:A.τ):St:=⟨alook (A.slots x),alook (A.boxes x)⟩
def allL:List Prop->Prop
 | []=>True
 | [p]=>p
 | p :: r=>p/\allL r
def Ann.fits (A:Ann) (st:St) (x:A.τ) (k:Prop):Prop:=
 let ρ:=renAll st (A.slots x) (A.boxes x)
 allL (fitS ρ st (A.slots x)++fitB ρ st (A.boxes x)++fitR ρ (A.boxes x))/\k
/-- The least number of a region in the code: by it a loop, an if finds its annotation. -/
def keyOf:Code->Nat
 | .region id _ _=>id
 | .seq a _=>keyOf a
 | .cond _ a b=>match keyOf a with
  | 1000000=>keyOf b
  | n=>n
 | .block _ a=>keyOf a
 | .loop a=>keyOf a
 | .scope a=>keyOf a
 | _=>1000000
abbrev Anns:=List (Nat × Tm)
def annLook:Anns->Nat->Option Tm
 | [],_=>none
 | (s,x) :: r,t=>cond (Nat.beq t s) (some x) (annLook r t)
/-- The boxes that are given up ahead of a region. -/
def relAt (RF:List Nat) (id:Nat):List Nat:=RF.filterMap fun x=>cond (Nat.beq (x / 100000) (100 + id)) (some (x % 100000)) none
def vcRel (l:List Nat) (st:St) (V:View) (K:St->View->Prop):Prop:=
 match l with
 | []=>K st V
 | s :: r=>match closedB st.boxes (s :: r) && (s :: r).all fun t=>Nat.blt t 100000 with
  | false=>False
  | true=>∀V':View,V.Le V'->allB (s :: r) (fun _=>0) fun β=>relH st.boxes β V' (s :: r) (∀J:C->Value,K (st.rel (s :: r) β J) V')
def vcReg (P:Program) (T:Tab) (LF RF:List Nat) (ops:Array Oper) (draw:Bool) (st:St) (V:View) (K:St->View->Prop):Prop:=
 match draw with
 | false=>vcL P T (modeN LF RF ops) (fun _=>.free) ops (List.range ops.size) st V K
 | true=>let hs:=ops.toList.map (hintOf LF RF st ops.toList)
  match orderOk LF RF ops hs (stageOrder LF RF ops) with
  | true=>vcL P T (modeOf LF RF ops) (fun i=>hs.getD i .free) ops (stageOrder LF RF ops) st V K
  | false=>False
def vc (P:Program) (T:Tab) (LF RF:List Nat) (L J:Anns):Code->St->View->(Exit->St->View->Prop)->Prop
 | .skip,st,V,K=>K .normal st V
 | .region id ops draw,st,V,K=>match annLook J (600000 + id) with
  | none=>vcRel (relAt RF id) st V fun st' V'=>vcReg P T LF RF ops draw st' V' (K .normal)
  | some A=>∃I:A.τ->View->Prop,vcRel (relAt RF id) st V (fun st' V'=>vcReg P T LF RF ops draw st' V' fun st'' V''=>∃x,(A.at st).fits st'' x (I x V'')) /\
   ∀x V',V.Le V'->I x V'->(tmplB ((A.at st).slots x) ((A.at st).boxes x)=true/\K .normal ((A.at st).st x) V')
 | .seq a b,st,V,K=>vc P T LF RF L J a st V fun e st' V'=>match e with
  | .normal=>vc P T LF RF L J b st' V' K
  | e=>K e st' V'
 | .cond c a b,st,V,K=>match annLook J (keyOf (.cond c a b)) with
  | none=>match st.opnd c with
   | some (.c .tt)=>vc P T LF RF L J a st V K
   | some (.c .ff)=>vc P T LF RF L J b st V K
   | some (.c (.v (.bool t)))=>(t=true->vc P T LF RF L J a st V K)/\(t=false->vc P T LF RF L J b st V K)
   | _=>False
  | some A=>match st.opnd c with
   | some (.c .tt)=>vc P T LF RF L J a st V K
   | some (.c .ff)=>vc P T LF RF L J b st V K
   | some (.c (.v (.bool t)))=>∃I:A.τ->View->Prop,
    ((t=true->vc P T LF RF L J a st V fun e st' V'=>match e with
     | .normal=>∃x,(A.at st).fits st' x (I x V')
     | e=>K e st' V') /\
      (t=false->vc P T LF RF L J b st V fun e st' V'=>match e with
     | .normal=>∃x,(A.at st).fits st' x (I x V')
     | e=>K e st' V')) /\
    ∀x V',V.Le V'->I x V'->(tmplB ((A.at st).slots x) ((A.at st).boxes x)=true/\K .normal ((A.at st).st x) V')
   | _=>False
 | .block id a,st,V,K=>match annLook J (500000 + id) with
  | none=>vc P T LF RF L J a st V fun e st' V'=>match e with
   | .exit i=>cond (Nat.beq i id) (K .normal st' V') (K (.exit i) st' V')
   | e=>K e st' V'
  | some A=>∃I:A.τ->View->Prop,vc P T LF RF L J a st V (fun e st' V'=>match e with
   | .exit i=>cond (Nat.beq i id) (∃x,(A.at st).fits st' x (I x V')) (K (.exit i) st' V')
   | .normal=>∃x,(A.at st).fits st' x (I x V')
   | e=>K e st' V')/\∀x V',V.Le V'->I x V'->(tmplB ((A.at st).slots x) ((A.at st).boxes x)=true/\K .normal ((A.at st).st x) V')
 | .loop a,st,V,K=>match annLook L (keyOf a) with
  | none=>False
  | some A=>match A.gh with
   | false=>∃(I:A.τ->View->Prop) (m:A.τ->Nat),(∃x,(A.at st).fits st x (I x V))/\∀x V',V.Le V'->I x V'->(tmplB ((A.at st).slots x) ((A.at st).boxes x)=true /\
    vc P T LF RF L J a ((A.at st).st x) V' fun e st' V''=>match e with
     | .normal=>∃y,m y < m x/\(A.at st).fits st' y (I y V'')
     | e=>K e st' V'')
   | true=>∃I:A.τ->Nat->View->Prop,(∃x k,(A.at st).fits st x (I x k V))/\∀x k V',V.Le V'->I x k V'->(tmplB ((A.at st).slots x) ((A.at st).boxes x)=true /\
    vc P T LF RF L J a ((A.at st).st x) V' fun e st' V''=>match e with
     | .normal=>∃y k',k' < k/\(A.at st).fits st' y (I y k' V'')
     | e=>K e st' V'')
 | .exit id,st,V,K=>K (.exit id) st V
 | .ret,st,V,K=>K .ret st V
 | .scope a,st,V,K=>vc P T LF RF L J a st V fun e st' V'=>match e with
  | .goto _=>False
  | e=>K e st' V'
 | .label _,st,V,K=>K .normal st V
 | _,_,_,_=>False
/-! the end of a function -/
def resVals (T:Tab) (st:St):List ResultVar->Option (List SV)
 | []=>some []
 | .tmp t :: r=>match st.slots t,resVals T st r with
  | some x,some l=>some (x :: l)
  | _,_=>none
 | .cell a t :: r=>match st.slots a,alook T t,resVals T st r with
  | some (.c (.ptr s o)),some i,some l=>match qLoad st.boxes i (.c (.ptr s o)) with
   | .ret _ x=>some (x :: l)
   | _=>none
  | _,_,_=>none
def minus (l m:List Nat):List Nat:=l.filter fun x=>!(nmem x m)
def borH (bx:Nat->Option Box) (β:Nat->Nat) (V:View):List Nat->Prop->Prop
 | [],k=>k
 | s :: r,k=>match bx s with
  | some ⟨.mrow _,_⟩=>False
  | some b=>V.w.heap[β s]?=some (b.obj β)->borH bx β V r k
  | none=>False
/-- The borrowed boxes that stay where they are. -/
def fixB:List (Nat × Box)->List Nat
 | []=>[]
 | (s,b) :: r=>match b.cs with
  | .mrow _=>fixB r
  | _=>s :: fixB r
/-- Where a slice that was borrowed may lie at the end. -/
def movH (bs:List (Nat × Box)) (β0:Nat->Nat) (b:Nat) (k:Prop):Prop:=
 match bs with
 | []=>k
 | (m,x) :: r=>match x.cs with
  | .mrow vs=>(vs≠[]/\b=β0 m) \/ movH r β0 b k
  | _=>movH r β0 b k
def resDen (β:Nat->Nat):List SV->Value
 | [x]=>x.den β
 | l=>.tuple (l.map (SV.den β)).toArray
def retVC (T:Tab) (rs:List ResultVar) (bs:List (Nat × Box)) (β0:Nat->Nat) (n0:Nat) (R:Value->View->Prop) (st:St) (V:View):Prop:=
 match resVals T st rs with
 | none=>False
 | some xs=>let F:=fixB bs
  let L:=reach st.boxes 3 (dedup (xs.flatMap SV.ids++F))
  match closedB st.boxes L with
  | false=>False
  | true=>match (minus L F).filter (Nat.ble 100000 ·) with
   | []=>∀V':View,V.Le V'->allB (minus L F) β0 fun β=>borH st.boxes β V' F (relH st.boxes β V' (minus L F) (R (resDen β xs) V'))
   | [s]=>match st.boxes s with
    | some b=>∀V':View,allB (minus L F) β0 fun β=>V.Le (V'.hideG (gdP b) (β s))->borH st.boxes β V' F (impL (gdL b) (V'.w.heap[β s]?=some (b.obj β)) ->
      impL (gdL b) (n0<=β s \/ movH bs β0 (β s) False)->relH st.boxes β V' ((minus L F).filter (!Nat.beq s ·)) (R (resDen β xs) V'))
    | none=>False
   | _=>False
def vcFn (P:Program) (T:Tab) (LF RF:List Nat) (L J:Anns) (code:Code) (rs:List ResultVar) (ss:List (Nat × SV)) (bs:List (Nat × Box)) (β0:Nat->Nat) (V:View) (R:Value->View->Prop):Prop:=
 vc P T LF RF L J code ⟨alook ss,alook bs⟩ V fun e st V'=>match e with
  | .normal=>retVC T rs bs β0 V.w.heap.size R st V'
  | .ret=>retVC T rs bs β0 V.w.heap.size R st V'
  | _=>False
def belowB (n:Nat):Code->Bool
 | .region _ ops _=>ops.toList.all fun o=>match o.dst with | some d=>Nat.blt d n | none=>true
 | .seq a b=>belowB n a && belowB n b
 | .cond _ a b=>belowB n a && belowB n b
 | .block _ a=>belowB n a
 | .loop a=>belowB n a
 | .scope a=>belowB n a
 | _=>true
def slotsFrom:Nat->List (Nat × SV)->Bool
 | _,[]=>true
 | i,(j,x) :: r=>Nat.beq i j && x.plain && slotsFrom (i + 1) r
def vcFunc (P:Program) (T:Tab) (LF RF:List Nat) (L J:Anns) (fn:Func) (ss:List (Nat × SV)) (bs:List (Nat × Box)) (β0:Nat->Nat) (V:View) (R:Value->View->Prop):Prop:=
 match fn.body with
 | some code=>match belowB fn.ntmps code && slotsFrom 0 ss && Nat.ble ss.length fn.ntmps && Nat.ble fn.ntmps 100000 && (bs.all fun b=>Nat.ble 100000 b.1 && Nat.blt b.1 200000) && tmplB ss bs with
  | true=>vcFn P T LF RF L J code fn.results.toList ss bs β0 V R
  | false=>False
 | none=>False
end Go.Eng
/- The symbolic executor is sound, part one: states, quiet operations. -/
namespace Go.Eng
/-! views -/
theorem View.Le.refl (V:View):V.Le V:=fun _ _ h=>h
theorem View.Le.trans {V V' V'':View} (h:V.Le V') (k:V'.Le V''):V.Le V'':=fun b o x=>k b o (h b o x)
theorem View.Le.at {V V':View} (h:V.Le V') {p:Addr} {v:Value} (k:V.at p v):V'.at p v:=by
 obtain ⟨hH,hc⟩:=k
 unfold World.cell? at hc
 split at hc
 ·rename_i hb
  obtain ⟨h1,h2⟩:=h p.block _ ⟨hH,hb⟩
  refine ⟨h1,?_⟩
  unfold World.cell?
  rw [h2]
  exact hc
 ·cases hc
theorem ExtX.refl (X:Nat->Prop) (w:World):ExtX X w w:=⟨Nat.le_refl _,fun _ _ _=>rfl,rfl,rfl,rfl⟩
theorem ExtX.trans {X:Nat->Prop} {a b c:World} (h:ExtX X a b) (k:ExtX X b c):ExtX X a c:=
 ⟨Nat.le_trans h.size k.size,fun i hi hx=>(k.blk i (Nat.lt_of_lt_of_le hi h.size) hx).trans (h.blk i hi hx),k.os.trans h.os,k.tape.trans h.tape,k.out.trans h.out⟩
theorem ExtX.mono {X Y:Nat->Prop} {a b:World} (h:ExtX X a b) (hxy:∀i,X i->Y i):ExtX Y a b:=
 ⟨h.size,fun i hi hy=>h.blk i hi fun hx=>hy (hxy i hx),h.os,h.tape,h.out⟩
theorem View.le_to (V:View) (w':World) (hx:ExtX V.X V.w w'):V.Le (V.to w' hx.size):=by
 rintro b o ⟨hH,hb⟩
 refine ⟨hH,?_⟩
 have hlt:b < V.w.heap.size:=by
  rcases Nat.lt_or_ge b V.w.heap.size with h | h
  ·exact h
  ·rw [Array.getElem?_eq_none h] at hb; cases hb
 show w'.heap[b]?=some o
 rw [hx.blk b hlt fun hX=>hH (V.hX b hX)]
 exact hb
theorem Acts.mono {P:Program} {f:FuncId} {args:Array Value} {V:View} {R R':Value->View->Prop} (h:Acts P f args V R)
  (hR:∀r V',V.Le V'->R r V'->R' r V'):Acts P f args V R':=
 ⟨h.1,h.2.mono fun _ w' ⟨r,he,hx,hr⟩=>⟨r,he,hx,hR r _ (V.le_to w' hx) hr⟩⟩
/-! the model of a symbolic state -/
/-- The borrowed boxes that stay in their place; all borrowed blocks. -/
structure Bor where
 ids:List Nat
 B:Nat->Prop
section
variable (n:Nat) (V0:View) (bor:Bor) (β0:Nat->Nat)
structure Mod (st:St) (β:Nat->Nat) (a:Act) (w:World) (V:View):Prop where
 defers:a.defers=[]
 size:a.tmps.size=n
 slots:∀t x,st.slots t=some x->a.tmps.getD t undef=x.den β
 wfS:∀t x,st.slots t=some x->∀s ∈ x.ids,∃b,st.boxes s=some b
 wfB:∀s b,st.boxes s=some b->∀s' ∈ b.cs.ids,∃b',st.boxes s'=some b'
 boxes:∀s b,st.boxes s=some b->b.live->w.heap[β s]?=some (b.obj β)
 inj:∀s s' b b',st.boxes s=some b->b.live->st.boxes s'=some b'->b'.live->β s=β s'->s=s'
 vis:∀b o,V.blk b o->w.heap[b]?=some o/\¬ V0.H b
 hid:∀s b,st.boxes s=some b->b.live->∀o,¬ V.blk (β s) o
 ext:ExtX V0.X V0.w w
 own:∀s b,st.boxes s=some b->b.live->V0.w.heap.size<=β s \/ (100000<=s/\bor.B (β s))
 borB:∀s ∈ bor.ids,(100000<=s/\s < 200000)/\β s=β0 s
 borX:∀b,bor.B b->V0.X b
 small:n<=100000
end
theorem live_lit {cs:List C} {ty:TypeId}:Box.live ⟨.lit cs,ty⟩:=fun _ h=>nomatch h
theorem live_row {vs:List Value} {ty:TypeId}:Box.live ⟨.row vs,ty⟩:=fun _ h=>nomatch h
theorem live_mrow {vs:List Value} {ty:TypeId} (h:vs≠[]):Box.live ⟨.mrow vs,ty⟩:=fun _ e=>by cases e; exact h
theorem not_live {ty:TypeId}:¬ Box.live ⟨.mrow [],ty⟩:=fun h=>h [] rfl rfl
theorem impL_gd {b:Box} {k:Prop}:impL (gdL b) k↔(b.live->k):=by
 obtain ⟨cs,ty⟩:=b
 cases cs with
 | lit cs=>exact ⟨fun h _=>h,fun h=>h live_lit⟩
 | row cs=>exact ⟨fun h _=>h,fun h=>h live_row⟩
 | mrow vs=>exact ⟨fun h l=>h (l vs rfl),fun h l=>h (live_mrow l)⟩
theorem impL_append {l m:List Prop} {k:Prop}:impL (l++m) k↔impL l (impL m k):=by
 induction l with
 | nil=>exact Iff.rfl
 | cons p r ih=>exact ⟨fun h hp=>ih.1 (h hp),fun h hp=>ih.2 (h hp)⟩
theorem gdP_iff {b:Box}:gdP b↔b.live:=by
 obtain ⟨cs,ty⟩:=b
 cases cs with
 | lit cs=>exact ⟨fun _=>live_lit,fun _=>trivial⟩
 | row cs=>exact ⟨fun _=>live_row,fun _=>trivial⟩
 | mrow vs=>exact ⟨fun h=>live_mrow h,fun l=>l vs rfl⟩
theorem C.den_congr {β β':Nat->Nat} {c:C} (h:∀s ∈ c.ids,β s=β' s):c.den β=c.den β':=by
 cases c with
 | v x=>rfl
 | w x=>rfl
 | tt=>rfl
 | ff=>rfl
 | ptr s o=>simp [C.den,h s (by simp [C.ids])]
 | slc s o n c=>simp [C.den,h s (by simp [C.ids])]
 | msl s n c=>simp [C.den,h s (by simp [C.ids])]
 | clo f ss=>
  have:(ss.map fun s=>Value.pointer (some ⟨β s,0,none⟩))=ss.map fun s=>Value.pointer (some ⟨β' s,0,none⟩):=
   List.map_congr_left fun s hs=>by rw [h s (by simpa [C.ids] using hs)]
  simp only [C.den,this]
theorem denL_congr {β β':Nat->Nat} {cs:List C} (h:∀s ∈ cs.flatMap C.ids,β s=β' s):cs.map (C.den β)=cs.map (C.den β'):=
 List.map_congr_left fun c hc=>C.den_congr fun s hs=>h s (List.mem_flatMap.2 ⟨c,hc,hs⟩)
theorem compDen_congr {β β':Nat->Nat} {x:Bool × List C} (h:∀s ∈ x.2.flatMap C.ids,β s=β' s):compDen β x=compDen β' x:=by
 obtain ⟨b,cs⟩:=x
 cases b with
 | true=>simp only [compDen]; rw [denL_congr h]
 | false=>
  match cs,h with
  | [],_=>rfl
  | [c],h=>simp only [compDen]; exact C.den_congr fun s hs=>h s (by simpa using hs)
  | _ :: _ :: _,_=>rfl
theorem SV.den_congr {β β':Nat->Nat} {x:SV} (h:∀s ∈ x.ids,β s=β' s):x.den β=x.den β':=by
 cases x with
 | c x=>exact C.den_congr h
 | agg cs=>simp only [SV.den]; rw [denL_congr h]
 | tup xs=>
  simp only [SV.den]
  congr 2
  exact List.map_congr_left fun x hx=>compDen_congr fun s hs=>h s (List.mem_flatMap.2 ⟨x,hx,hs⟩)
theorem Cells.den_congr {β β':Nat->Nat} {x:Cells} (h:∀s ∈ x.ids,β s=β' s):x.den β=x.den β':=by
 cases x with
 | lit cs=>exact denL_congr h
 | row vs=>rfl
 | mrow vs=>rfl
theorem Box.obj_congr {β β':Nat->Nat} {x:Box} (h:∀s ∈ x.cs.ids,β s=β' s):x.obj β=x.obj β':=by
 simp only [Box.obj]; rw [Cells.den_congr h]
variable {P:Program} {T:Tab} {n:Nat} {V0:View} {bor:Bor} {β0:Nat->Nat} {st:St} {β:Nat->Nat} {a:Act} {w:World} {V:View}
theorem Mod.eval (h:Mod n V0 bor β0 st β a w V) {x:Operand} {v:SV} (hx:st.opnd x=some v):a.eval x=v.den β:=by
 cases x with
 | tmp t=>exact h.slots t v hx
 | const c=>
  simp only [St.opnd,Option.some.injEq] at hx
  subst hx
  simp only [Act.eval]
  unfold SV.ofConst
  split
  ·rfl
  ·rfl
  ·rename_i cs
   simp only [SV.den]
   congr 1
   have:∀l:List Value,(l.map C.ofConst).map (C.den β)=l:=by
    intro l
    induction l with
    | nil=>rfl
    | cons y r ih=>
     simp only [List.map_cons,ih]
     congr 1
     unfold C.ofConst
     split <;> rfl
   rw [this]
  ·rfl
 | global g=>simp only [St.opnd,Option.some.injEq] at hx; subst hx; rfl
 | func f=>simp only [St.opnd,Option.some.injEq] at hx; subst hx; simp [Act.eval,SV.den,C.den]
theorem Mod.live (h:Mod n V0 bor β0 st β a w V) {x:Operand} {v:SV} (hx:st.opnd x=some v):∀s ∈ v.ids,∃b,st.boxes s=some b:=by
 cases x with
 | tmp t=>exact h.wfS t v hx
 | const c=>
  simp only [St.opnd,Option.some.injEq] at hx
  subst hx
  intro s hs
  exfalso
  have h1:∀y,(C.ofConst y).ids=[]:=by
   intro y
   unfold C.ofConst
   split <;> rfl
  unfold SV.ofConst at hs
  split at hs
  ·simp [SV.ids,C.ids] at hs
  ·simp [SV.ids,C.ids] at hs
  ·obtain ⟨c,hc,hs⟩:=List.mem_flatMap.1 hs
   obtain ⟨y,_,rfl⟩:=List.mem_map.1 hc
   rw [h1] at hs; cases hs
  ·simp [SV.ids,C.ids] at hs
 | global g=>simp only [St.opnd,Option.some.injEq] at hx; subst hx; intro s hs; simp [SV.ids,C.ids] at hs
 | func f=>simp only [St.opnd,Option.some.injEq] at hx; subst hx; intro s hs; simp [SV.ids,C.ids] at hs
theorem beq_eq {a b:Nat}:Nat.beq a b=true↔a=b:=by
 constructor
 ·exact Nat.eq_of_beq_eq_true
 ·intro h; subst h; exact Nat.beq_refl a
theorem put_slots (st:St) (d:Nat) (x:SV) (t:Nat):(st.put (some d) x).slots t=if t=d then some x else st.slots t:=by
 simp only [St.put]
 by_cases h:t=d
 ·subst h; simp [Nat.beq_refl]
 ·have:Nat.beq t d=false:=by
   cases hb:Nat.beq t d
   ·rfl
   ·exact absurd (beq_eq.1 hb) h
  simp [this,h]
theorem box_boxes (st:St) (s:Nat) (b:Box) (t:Nat):(st.box s b).boxes t=if t=s then some b else st.boxes t:=by
 simp only [St.box]
 by_cases h:t=s
 ·subst h; simp [Nat.beq_refl]
 ·have:Nat.beq t s=false:=by
   cases hb:Nat.beq t s
   ·rfl
   ·exact absurd (beq_eq.1 hb) h
  simp [this,h]
theorem getD_set (l:Array Value) (d t:Nat) (v:Value) (hd:d < l.size):(l.setIfInBounds d v).getD t undef=if t=d then v else l.getD t undef:=by
 by_cases h:t=d
 ·subst h; simp [hd]
 ·simp [h,Ne.symm h]
/-- A slot is written. -/
theorem Mod.put (h:Mod n V0 bor β0 st β a w V) {d:Nat} {x:SV} {v:Value} (hd:d < n) (hv:v=x.den β) (hl:∀s ∈ x.ids,∃b,st.boxes s=some b) :
  Mod n V0 bor β0 (st.put (some d) x) β (a.put (some d) v) w V where
 defers:=h.defers
 size:=by simp [Act.put,h.size]
 slots:=by
  intro t y hy
  rw [put_slots] at hy
  show (a.tmps.setIfInBounds d v).getD t undef=_
  rw [getD_set _ _ _ _ (by rw [h.size]; exact hd)]
  split at hy
  ·rename_i e; rw [if_pos e]; simp only [Option.some.injEq] at hy; rw [← hy]; exact hv
  ·rename_i e; rw [if_neg e]; exact h.slots t y hy
 wfS:=by
  intro t y hy
  rw [put_slots] at hy
  split at hy
  ·simp only [Option.some.injEq] at hy; rw [← hy]; exact hl
  ·exact h.wfS t y hy
 wfB:=h.wfB
 boxes:=h.boxes
 inj:=h.inj
 vis:=h.vis
 hid:=h.hid
 ext:=h.ext
 own:=h.own
 borB:=h.borB
 borX:=h.borX
 small:=h.small
theorem Mod.putO (h:Mod n V0 bor β0 st β a w V) {d:Option Nat} {x:SV} {v:Value} (hd:∀k,d=some k->k < n) (hv:v=x.den β) (hl:∀s ∈ x.ids,∃b,st.boxes s=some b) :
  Mod n V0 bor β0 (st.put d x) β (a.put d v) w V:=by
 cases d with
 | none=>exact h
 | some d=>exact h.put (hd d rfl) hv hl
/-- The world's draws count on. -/
theorem Mod.drew (h:Mod n V0 bor β0 st β a w V):Mod n V0 bor β0 st β a { w with drawn:=w.drawn + 1 } V:=
 ⟨h.defers,h.size,h.slots,h.wfS,h.wfB,h.boxes,h.inj,h.vis,h.hid,⟨h.ext.size,h.ext.blk,h.ext.os,h.ext.tape,h.ext.out⟩,h.own,h.borB,h.borX,h.small⟩
theorem lt_of_some {w:World} {b:Nat} {o:Obj} (h:w.heap[b]?=some o):b < w.heap.size:=by
 rcases Nat.lt_or_ge b w.heap.size with h' | h'
 ·exact h'
 ·rw [Array.getElem?_eq_none h'] at h; cases h
theorem heap_alloc_lt (w:World) (o:Obj) {b:Nat} (h:b < w.heap.size):(w.alloc o).heap[b]?=w.heap[b]?:=by
 show (w.heap.push o)[b]?=_
 rw [Array.getElem?_push,if_neg (by omega)]
theorem heap_alloc_new (w:World) (o:Obj):(w.alloc o).heap[w.heap.size]?=some o:=by
 show (w.heap.push o)[w.heap.size]?=_
 rw [Array.getElem?_push,if_pos rfl]
theorem upd1_same (β:Nat->Nat) (s b:Nat):upd1 β s b s=b:=by simp [upd1,Nat.beq_refl]
theorem upd1_ne (β:Nat->Nat) {s t:Nat} (b:Nat) (h:t≠s):upd1 β s b t=β t:=by
 have:Nat.beq t s=false:=by
  cases hb:Nat.beq t s
  ·rfl
  ·exact absurd (beq_eq.1 hb) h
 simp [upd1,this]
/-- A new box of the function's own. -/
theorem Mod.new (h:Mod n V0 bor β0 st β a w V) {d:Nat} {b:Box} (hd:d < n) (hn:st.boxes d=none) (hl:∀s ∈ b.cs.ids,∃b',st.boxes s=some b') :
  Mod n V0 bor β0 (st.box d b) (upd1 β d w.heap.size) a (w.alloc (b.obj β)) V:=by
 have hne:∀s b',st.boxes s=some b'->s≠d:=fun s b' hs e=>by rw [e,hn] at hs; cases hs
 have hβ:∀s b',st.boxes s=some b'->upd1 β d w.heap.size s=β s:=fun s b' hs=>upd1_ne _ _ (hne s b' hs)
 have hlt:∀s b',st.boxes s=some b'->b'.live->β s < w.heap.size:=fun s b' hs l=>lt_of_some (h.boxes s b' hs l)
 have hV:∀b' o,V.blk b' o->b' < w.heap.size:=fun b' o hb=>lt_of_some (h.vis b' o hb).1
 refine ⟨h.defers,h.size,?_,?_,?_,?_,?_,?_,?_,?_,?_,?_,h.borX,?_⟩
 ·intro t x hx
  rw [h.slots t x hx]
  exact SV.den_congr fun s hs=>by obtain ⟨b',hb'⟩:=h.wfS t x hx s hs; exact (hβ s b' hb').symm
 ·intro t x hx s hs
  obtain ⟨b',hb'⟩:=h.wfS t x hx s hs
  exact ⟨b',by rw [box_boxes,if_neg (hne s b' hb')]; exact hb'⟩
 ·intro s b' hs s' hs'
  rw [box_boxes] at hs
  have:∃b'',st.boxes s'=some b'':=by
   split at hs
   ·simp only [Option.some.injEq] at hs; rw [← hs] at hs'; exact hl s' hs'
   ·exact h.wfB s b' hs s' hs'
  obtain ⟨b'',hb''⟩:=this
  exact ⟨b'',by rw [box_boxes,if_neg (hne s' b'' hb'')]; exact hb''⟩
 ·intro s b' hs l
  rw [box_boxes] at hs
  split at hs
  ·rename_i e
   simp only [Option.some.injEq] at hs
   rw [e,upd1_same,heap_alloc_new,← hs]
   congr 1
   exact Box.obj_congr fun s' hs'=>by obtain ⟨b'',hb''⟩:=hl s' hs'; exact (hβ s' b'' hb'').symm
  ·rw [hβ s b' hs,heap_alloc_lt _ _ (hlt s b' hs l),h.boxes s b' hs l]
   congr 1
   exact Box.obj_congr fun s' hs'=>by obtain ⟨b'',hb''⟩:=h.wfB s b' hs s' hs'; exact (hβ s' b'' hb'').symm
 ·intro s s' b1 b2 h1 l1 h2 l2 he
  rw [box_boxes] at h1 h2
  split at h1 <;> split at h2
  ·rename_i e1 e2; rw [e1,e2]
  ·rename_i e1 e2; rw [e1,upd1_same,hβ s' b2 h2] at he; have:=hlt s' b2 h2 l2; omega
  ·rename_i e1 e2; rw [e2,upd1_same,hβ s b1 h1] at he; have:=hlt s b1 h1 l1; omega
  ·rw [hβ s b1 h1,hβ s' b2 h2] at he; exact h.inj s s' b1 b2 h1 l1 h2 l2 he
 ·intro b' o hb
  obtain ⟨h1,h2⟩:=h.vis b' o hb
  exact ⟨by rw [heap_alloc_lt _ _ (hV b' o hb)]; exact h1,h2⟩
 ·intro s b' hs l o ho
  rw [box_boxes] at hs
  split at hs
  ·rename_i e; rw [e,upd1_same] at ho; have:=hV _ o ho; omega
  ·rw [hβ s b' hs] at ho; exact h.hid s b' hs l o ho
 ·exact h.ext.trans ⟨by simp,fun i hi _=>heap_alloc_lt _ _ hi,rfl,rfl,rfl⟩
 ·intro s b' hs l
  rw [box_boxes] at hs
  split at hs
  ·rename_i e; rw [e,upd1_same]; exact .inl h.ext.size
  ·rw [hβ s b' hs]; exact h.own s b' hs l
 ·intro s hs
  obtain ⟨h1,h2⟩:=h.borB s hs
  exact ⟨h1,by rw [upd1_ne _ _ (by have:=h.small; omega)]; exact h2⟩
 ·exact h.small
/-- A box that holds nothing any more. -/
theorem Mod.void (h:Mod n V0 bor β0 st β a w V) {s:Nat} {ty:TypeId}:Mod n V0 bor β0 (st.box s ⟨.mrow [],ty⟩) β a w V:=by
 have hw:∀t b',st.boxes t=some b'->∃b'',(st.box s ⟨.mrow [],ty⟩).boxes t=some b'':=by
  intro t b' ht
  rw [box_boxes]
  split
  ·exact ⟨_,rfl⟩
  ·exact ⟨b',ht⟩
 have hb:∀t b',(st.box s ⟨.mrow [],ty⟩).boxes t=some b'->b'.live->st.boxes t=some b':=by
  intro t b' ht l
  rw [box_boxes] at ht
  split at ht
  ·cases ht; exact absurd l not_live
  ·exact ht
 refine ⟨h.defers,h.size,h.slots,?_,?_,fun t b' ht l=>h.boxes t b' (hb t b' ht l) l,fun t t' b1 b2 h1 l1 h2 l2=>h.inj t t' b1 b2 (hb _ _ h1 l1) l1 (hb _ _ h2 l2) l2,h.vis,fun t b' ht l=>h.hid t b' (hb t b' ht l) l,h.ext,fun t b' ht l=>h.own t b' (hb t b' ht l) l,h.borB,h.borX,h.small⟩
 ·intro t x hx s' hs'
  obtain ⟨b',hb'⟩:=h.wfS t x hx s' hs'
  exact hw s' b' hb'
 ·intro t b' ht s' hs'
  have:∃b'',st.boxes s'=some b'':=by
   rw [box_boxes] at ht
   split at ht
   ·cases ht; cases hs'
   ·exact h.wfB t b' ht s' hs'
  obtain ⟨b'',hb''⟩:=this
  exact hw s' b'' hb''
/-- A box is written. -/
theorem Mod.upd (h:Mod n V0 bor β0 st β a w V) {s:Nat} {b b':Box} (hs:st.boxes s=some b) (lb:b.live) (hl:∀s' ∈ b'.cs.ids,∃b'',st.boxes s'=some b'')
  {w':World} (hw:w'.heap=w.heap.setIfInBounds (β s) (b'.obj β)) (ho:w'.os=w.os) (ht:w'.tape=w.tape) (hout:w'.output=w.output) :
  Mod n V0 bor β0 (st.box s b') β a w' V:=by
 have hlt:=lt_of_some (h.boxes s b hs lb)
 have hg:∀i,w'.heap[i]?=if i=β s then some (b'.obj β) else w.heap[i]?:=by
  intro i
  rw [hw,Array.getElem?_setIfInBounds]
  by_cases e:β s=i
  ·rw [if_pos e,if_pos (by omega),if_pos e.symm]
  ·rw [if_neg e,if_neg (Ne.symm e)]
 refine ⟨h.defers,h.size,h.slots,?_,?_,?_,?_,?_,?_,?_,?_,h.borB,h.borX,h.small⟩
 ·intro t x hx s' hs'
  obtain ⟨b1,hb1⟩:=h.wfS t x hx s' hs'
  rw [box_boxes]
  split
  ·exact ⟨_,rfl⟩
  ·exact ⟨b1,hb1⟩
 ·intro t b1 hb1 s' hs'
  have:∃b'',st.boxes s'=some b'':=by
   rw [box_boxes] at hb1
   split at hb1
   ·simp only [Option.some.injEq] at hb1; rw [← hb1] at hs'; exact hl s' hs'
   ·exact h.wfB t b1 hb1 s' hs'
  rw [box_boxes]
  split
  ·exact ⟨_,rfl⟩
  ·exact this
 ·intro t b1 hb1 l1
  rw [box_boxes] at hb1
  rw [hg]
  split at hb1
  ·rename_i e; simp only [Option.some.injEq] at hb1; rw [e,if_pos rfl,hb1]
  ·rename_i e
   rw [if_neg fun he=>e (h.inj t s b1 b hb1 l1 hs lb he)]
   exact h.boxes t b1 hb1 l1
 ·intro t t' b1 b2 h1 l1 h2 l2 he
  have f:∀t b1,(st.box s b').boxes t=some b1->b1.live->∃b2,st.boxes t=some b2/\b2.live:=by
   intro t b1 h1 l1
   rw [box_boxes] at h1
   split at h1
   ·rename_i e; rw [e]; exact ⟨b,hs,lb⟩
   ·exact ⟨b1,h1,l1⟩
  obtain ⟨c1,hc1,m1⟩:=f t b1 h1 l1
  obtain ⟨c2,hc2,m2⟩:=f t' b2 h2 l2
  exact h.inj t t' c1 c2 hc1 m1 hc2 m2 he
 ·intro b1 o hb
  obtain ⟨h1,h2⟩:=h.vis b1 o hb
  refine ⟨?_,h2⟩
  rw [hg,if_neg]
  ·exact h1
  ·intro e; rw [e] at hb; exact h.hid s b hs lb o hb
 ·intro t b1 hb1 l1 o
  rw [box_boxes] at hb1
  split at hb1
  ·rename_i e; rw [e]; exact h.hid s b hs lb o
  ·exact h.hid t b1 hb1 l1 o
 ·refine ⟨by rw [hw]; simpa using h.ext.size,fun i hi hX=>?_,ho.trans h.ext.os,ht.trans h.ext.tape,hout.trans h.ext.out⟩
  rw [hg]
  split
  ·rename_i e
   exfalso
   rcases h.own s b hs lb with h1 | h1
   ·omega
   ·exact hX (e ▸ h.borX _ h1.2)
  ·exact h.ext.blk i hi hX
 ·intro t b1 hb1 l1
  rw [box_boxes] at hb1
  split at hb1
  ·rename_i e; rw [e]; exact h.own s b hs lb
  ·exact h.own t b1 hb1 l1
end Go.Eng
/- The symbolic executor is sound, part two: the runs of quiet operations. -/
namespace Go.Eng
variable {P:Program} {T:Tab} {n:Nat} {V0:View} {bor:Bor} {β0:Nat->Nat} {st:St} {β:Nat->Nat} {a:Act} {w:World} {V:View}
theorem andL_iff:∀(sc:List Prop) (k:Prop),andL sc k↔(∀p ∈ sc,p)/\k
 | [],k=>by simp [andL]
 | p :: r,k=>by
  simp only [andL,andL_iff r k,List.mem_cons]
  constructor
  ·rintro ⟨h1,h2,h3⟩
   exact ⟨fun q hq=>by rcases hq with rfl | hq; exact h1; exact h2 q hq,h3⟩
  ·rintro ⟨h1,h2⟩
   exact ⟨h1 p (.inl rfl),fun q hq=>h1 q (.inr hq),h2⟩
theorem ti_facts {t:TypeId} {i:TI} (h:mkTI P t=some i):∃info d z,P.info? t=some info/\P.underlying t=some d/\info.zero=some z/\i.k=tkOf d/\i.size=info.size/\i.bytes=info.bytes/\i.zero=z.cells.toList.map C.ofConst:=by
 unfold mkTI at h
 split at h
 ·rename_i info d h1 h2
  split at h
  ·rename_i z hz
   simp only [Option.some.injEq] at h
   subst h
   exact ⟨info,d,z,h1,h2,hz,rfl,rfl,rfl,rfl⟩
  ·cases h
 ·cases h
theorem den_ofConst (β:Nat->Nat) (y:Value):(C.ofConst y).den β=y:=by
 unfold C.ofConst; split <;> rfl
theorem map_ofConst (β:Nat->Nat) (l:List Value):(l.map C.ofConst).map (C.den β)=l:=by
 induction l with
 | nil=>rfl
 | cons y r ih=>simp only [List.map_cons,den_ofConst,ih]
theorem ids_ofConst (y:Value):(C.ofConst y).ids=[]:=by unfold C.ofConst; split <;> rfl
theorem idsL_ofConst (l:List Value):(l.map C.ofConst).flatMap C.ids=[]:=by
 induction l with
 | nil=>rfl
 | cons y r ih=>simp [ids_ofConst]
theorem run_underlying' {t:TypeId} {d:TypeDesc} (h:P.underlying t=some d) (w:World):(underlying t).run P w=.ok d w:=by simp [underlying,h]
theorem run_typeInfo' {t:TypeId} {i:TypeInfo} (h:P.info? t=some i) (w:World):(typeInfo t).run P w=.ok i w:=by simp [typeInfo,h]
theorem run_sizeOf' {t:TypeId} {i:TypeInfo} (h:P.info? t=some i) (w:World):(sizeOf t).run P w=.ok i.size w:=by simp [sizeOf,run_typeInfo' h]
theorem run_zero' {t:TypeId} {i:TypeInfo} {z:Value} (h:P.info? t=some i) (hz:i.zero=some z) (w:World):(zeroValue t).run P w=.ok z w:=by
 simp [zeroValue,run_typeInfo' h,hz]
def aggK:TK->Bool
 | .struct _ | .arr _ _=>true
 | _=>false
theorem run_isAgg' {t:TypeId} {d:TypeDesc} (h:P.underlying t=some d) (w:World):(isAgg t).run P w=.ok (aggK (tkOf d)) w:=by
 simp only [isAgg,Sem.run_bind,run_underlying' h,Result.andThen_ok]
 cases d <;> rfl
/-! one operation each: the value, and that its boxes live -/
def Live (st:St) (x:SV):Prop:=∀s ∈ x.ids,∃b,st.boxes s=some b
theorem kindEq_eq {k k':IntKind} (h:kindEq k k'=true):k=k':=by cases k <;> cases k' <;> simp_all [kindEq]
theorem intBin_run {op:BinOp} {k:IntKind} {x y:Int} {sc:List Prop} {v:SV} {xt:TypeId} (h:intBin op k x y=.ret sc v) (hsc:∀p ∈ sc,p) :
  (binOp op xt (.int k x) (.int k y)).run P w=.ok (v.den β) w/\v.ids=[]:=by
 cases op <;> simp only [intBin,Q.ret.injEq] at h <;> obtain ⟨rfl,rfl⟩:=h <;>
  simp only [List.mem_cons,List.not_mem_nil,or_false,forall_eq,false_imp_iff,implies_true] at hsc <;>
  refine ⟨?_,rfl⟩ <;>
  simp [binOp,Op.intArith,Op.intDiv,Op.intBits,Op.intCmp,Op.shift,SV.den,C.den,bitI,hsc]
 all_goals (try (intro h; omega))
theorem shift_run {op:BinOp} {k k':IntKind} {x y:Int} {sc:List Prop} {v:SV} {xt:TypeId} (hop:op=.shl \/ op=.shr) (h:intBin op k x y=.ret sc v) (hsc:∀p ∈ sc,p) :
  (binOp op xt (.int k x) (.int k' y)).run P w=.ok (v.den β) w/\v.ids=[]:=by
 rcases hop with rfl | rfl <;> simp only [intBin,Q.ret.injEq] at h <;> obtain ⟨rfl,rfl⟩:=h <;>
  simp only [List.mem_cons,List.not_mem_nil,or_false,forall_eq] at hsc <;>
  refine ⟨?_,rfl⟩ <;>
  simp [binOp,Op.shift,SV.den,C.den] <;> (intro h; omega)
section eqs
variable {t:TypeId} (d:Nat)
theorem eqIn_bool (h:P.underlying t=some .bool) (x y:Bool):(Op.equalIn (d + 1) t (.bool x) (.bool y)).run P w=.ok (x == y) w:=by
 simp [Op.equalIn,run_underlying' h]
theorem eqIn_ptr1 {e:TypeId} (h:P.underlying t=some (.pointer e)) (p:OA):(Op.equalIn (d + 1) t (.pointer p) (.pointer none)).run P w=.ok p.isNone w:=by
 cases p <;> simp [Op.equalIn,run_underlying' h]
theorem eqIn_slice {e:TypeId} (h:P.underlying t=some (.slice e)) (p:OA) (n c m k:Nat):(Op.equalIn (d + 1) t (.slice p n c) (.slice none m k)).run P w=.ok p.isNone w:=by
 cases p <;> simp [Op.equalIn,run_underlying' h]
theorem eqIn_iface {ms:Array (String × TypeId)} (h:P.underlying t=some (.interface ms)) {x:Value} (hx:IsIface x):(Op.equalIn (d + 1) t x .nilIface).run P w=.ok (isNilI x) w:=by
 rcases hx with rfl | ⟨u,v,rfl⟩ <;> simp [Op.equalIn,run_underlying' h,isNilI]
end eqs
theorem run_eql {t:TypeId} {x y:Value} {r:Bool} (h:∀d,(Op.equalIn (d + 1) t x y).run P w=.ok r w):(Op.equal t x y).run P w=.ok r w:=h 9999
theorem bool_run {op:BinOp} {xt:TypeId} {x y:Bool} (ht:P.underlying xt=some .bool) (hop:op=.eql \/ op=.neq) :
  (binOp op xt (.bool x) (.bool y)).run P w=.ok (.bool (if op=.eql then x == y else !(x == y))) w:=by
 have:=run_eql (w:=w) fun d=>eqIn_bool d ht x y
 rcases hop with rfl | rfl <;> simp only [binOp,Sem.run_bind,this,Result.andThen_ok,Sem.run_pure] <;> rfl
theorem bool?_den {c:C} {b:Bool} (h:c.bool?=some b):c.den β=.bool b/\c.ids=[]:=by
 cases c with
 | v x=>cases x <;> simp_all [C.bool?,C.den,C.ids]
 | _=>simp_all [C.bool?,C.den,C.ids]
theorem desc_of_int {d:TypeDesc} {k:IntKind} (h:tkOf d=.int k):d=.int k:=by cases d <;> simp_all [tkOf]
theorem desc_of_bool {d:TypeDesc} (h:tkOf d=.bool):d=.bool:=by cases d <;> simp_all [tkOf]
theorem desc_of_ptr {d:TypeDesc} {e:TypeId} (h:tkOf d=.ptr e):d=.pointer e:=by cases d <;> simp_all [tkOf]
theorem desc_of_slice {d:TypeDesc} {e:TypeId} (h:tkOf d=.slice e):d=.slice e:=by cases d <;> simp_all [tkOf]
theorem desc_of_iface {d:TypeDesc} (h:tkOf d=.iface):∃ms,d=.interface ms:=by cases d <;> simp_all [tkOf]
theorem desc_of_struct {d:TypeDesc} {fs:List (TypeId × Nat)} (h:tkOf d=.struct fs):∃gs,d=.struct gs/\fs=gs.toList.map fun f=>(f.type,f.offset):=by
 cases d <;> simp_all [tkOf]
theorem desc_of_arr {d:TypeDesc} {m:Nat} {e:TypeId} (h:tkOf d=.arr m e):d=.array m e:=by cases d <;> simp_all [tkOf]
theorem binOp_eq {t:TypeId} {x y:Value} {r:Bool} (neg:Bool) (h:(Op.equal t x y).run P w=.ok r w)
  (hx:(∃p,x=.pointer p/\y=.pointer none) \/ (∃p n c m k,x=.slice p n c/\y=.slice none m k) \/ (IsIface x/\y=.nilIface)) :
  (binOp (if neg then .neq else .eql) t x y).run P w=.ok (.bool (if neg then !r else r)) w:=by
 rcases hx with ⟨p,rfl,rfl⟩ | ⟨p,n,c,m,k,rfl,rfl⟩ | ⟨hx,rfl⟩
 ·cases p <;> cases neg <;> simp only [Bool.false_eq_true,if_false,if_true,binOp,Sem.run_bind,h,Result.andThen_ok,Sem.run_pure]
 ·cases neg <;> simp only [Bool.false_eq_true,if_false,if_true,binOp,Sem.run_bind,h,Result.andThen_ok,Sem.run_pure]
 ·rcases hx with rfl | ⟨u,v,rfl⟩ <;> cases neg <;> simp only [Bool.false_eq_true,if_false,if_true,binOp,Sem.run_bind,h,Result.andThen_ok,Sem.run_pure]
theorem guard_free {op:BinOp} {t:TypeId} {x y:Operand} {u v:Value} (h:(∃p,u=.pointer p) \/ (∃p n c,u=.slice p n c) \/ (∃k n,u=.int k n) \/ (∃b,u=.bool b) \/ ∃c,y=.const c) (hn:v=.nilIface->∃c,y=.const c) (hu:∀cs,u≠.agg cs) :
  (eqGuard op t x y u v).run P w=.ok () w:=by
 have key:∀(m:Sem Unit),m=(match (generalizing:=false) u,v with
   | .nilIface,.nilIface=>do
    if (match (generalizing:=false) x with | .const _=>true | _=>false) || (match (generalizing:=false) y with | .const _=>true | _=>false) then return
    if ← Op.eqGuardIn Op.maxDepth t u v then unsupported (.noEntry "binop/eql: two nil values of an interface type with methods, neither of them the literal nil")
   | .agg _,.agg _=>do
    if !(← program).eqGuardType (← program).depth t then return
    if ← Op.eqGuardIn Op.maxDepth t u v then unsupported (.noEntry "binop/eql: two nil values of an interface type with methods, in a part of a struct or an array")
   | _,_=>pure ())->m.run P w=.ok () w:=by
  intro m hm
  rw [hm]
  clear hm
  revert hn hu
  split
  ·intro hn _; obtain ⟨c,rfl⟩:=hn rfl; simp
  ·rename_i cs _; intro _ hu; exact absurd rfl (hu cs)
  ·intro _ _; rfl
 cases op <;> first | rfl | exact key _ rfl
/-- '==' and '!=' against nil. -/
theorem qNil_run {xt:TypeId} {i:TI} (hi:mkTI P xt=some i) {x y:C} (neg:Bool) {sc:List Prop} {v:SV}
  (h:qNil neg i.k x y=.ret sc v) (hsc:∀p ∈ sc,p) :
  (binOp (if neg then .neq else .eql) xt (x.den β) (y.den β)).run P w=.ok (v.den β) w/\v.ids=[] /\
  ((∃p,x.den β=.pointer p) \/ (∃p n c,x.den β=.slice p n c) \/ y.den β=.nilIface)/\(y.den β=.nilIface->y=.v .nilIface)/\(∀cs,x.den β≠.agg cs):=by
 obtain ⟨info,d,z,h1,h2,h3,h4,-⟩:=ti_facts hi
 unfold qNil at h
 split at h
 ·rename_i e hk
  rw [h4] at hk
  obtain rfl:=desc_of_ptr hk
  split at h
  ·split at h
   ·simp only [Q.ret.injEq] at h; obtain ⟨rfl,rfl⟩:=h
    refine ⟨?_,by cases neg <;> rfl,.inl ⟨_,rfl⟩,by simp [C.den],by simp [C.den]⟩
    rename_i s o
    have:=binOp_eq (w:=w) neg (run_eql fun d=>eqIn_ptr1 d h2 (some ⟨β s,o,none⟩)) (.inl ⟨_,rfl,rfl⟩)
    cases neg <;> exact this
   ·simp only [Q.ret.injEq] at h; obtain ⟨rfl,rfl⟩:=h
    refine ⟨?_,rfl,.inl ⟨_,rfl⟩,by simp [C.den],by simp [C.den]⟩
    exact binOp_eq (w:=w) neg (run_eql fun d=>eqIn_ptr1 d h2 _) (.inl ⟨_,rfl,rfl⟩)
   ·cases h
  ·cases h
 ·rename_i e hk
  rw [h4] at hk
  obtain rfl:=desc_of_slice hk
  split at h
  ·split at h
   ·simp only [Q.ret.injEq] at h; obtain ⟨rfl,rfl⟩:=h
    refine ⟨?_,by cases neg <;> rfl,.inr (.inl ⟨_,_,_,rfl⟩),by simp [C.den],by simp [C.den]⟩
    rename_i m k _ s o n c
    have:=binOp_eq (w:=w) neg (run_eql fun d=>eqIn_slice d h2 (some ⟨β s,o,none⟩) n c m k) (.inr (.inl ⟨_,_,_,_,_,rfl,rfl⟩))
    cases neg <;> exact this
   ·simp only [Q.ret.injEq] at h; obtain ⟨rfl,rfl⟩:=h
    refine ⟨?_,rfl,.inr (.inl ⟨_,_,_,rfl⟩),by simp [C.den],by simp [C.den]⟩
    rename_i m k _ s n c
    have:=binOp_eq (w:=w) neg (run_eql fun d=>eqIn_slice d h2 (mA (β s) c) n c m k) (.inr (.inl ⟨_,_,_,_,_,rfl,rfl⟩))
    have e:(mA (β s) c).isNone=Nat.beq c 0:=by cases c <;> rfl
    rw [e] at this
    exact this
   ·simp only [Q.ret.injEq] at h; obtain ⟨rfl,rfl⟩:=h
    refine ⟨?_,rfl,.inr (.inl ⟨_,_,_,rfl⟩),by simp [C.den],by simp [C.den]⟩
    exact binOp_eq (w:=w) neg (run_eql fun d=>eqIn_slice d h2 _ _ _ _ _) (.inr (.inl ⟨_,_,_,_,_,rfl,rfl⟩))
   ·cases h
  ·cases h
 ·rename_i hk
  rw [h4] at hk
  obtain ⟨ms,rfl⟩:=desc_of_iface hk
  split at h
  ·split at h
   ·simp only [Q.ret.injEq] at h; obtain ⟨rfl,rfl⟩:=h
    have hx:=hsc _ (List.mem_singleton.2 rfl)
    refine ⟨?_,rfl,.inr (.inr rfl),fun _=>rfl,?_⟩
    ·exact binOp_eq (w:=w) neg (run_eql fun d=>eqIn_iface d h2 hx) (.inr (.inr ⟨hx,rfl⟩))
    ·intro cs e
     rcases hx with hx | ⟨u,v,hx⟩ <;> · simp only [C.den] at e; rw [hx] at e; cases e
   ·simp only [Q.ret.injEq] at h; obtain ⟨rfl,rfl⟩:=h
    refine ⟨?_,by cases neg <;> rfl,.inr (.inr rfl),fun _=>rfl,by simp [C.den]⟩
    have:=binOp_eq (w:=w) neg (run_eql fun d=>eqIn_iface d h2 (x:=.nilIface) (.inl rfl)) (.inr (.inr ⟨.inl rfl,rfl⟩))
    cases neg <;> exact this
   ·cases h
  ·cases h
 ·cases h
theorem qBin_run (hT:Tab.ok P T) {op:BinOp} {xt:TypeId} {x y:C} {ox oy:Operand} {sc:List Prop} {v:SV}
  (h:qBin T op xt x y=.ret sc v) (hsc:∀p ∈ sc,p) (hy:y=.v .nilIface->∃c,oy=.const c) :
  (do eqGuard op xt ox oy (x.den β) (y.den β); binOp op xt (x.den β) (y.den β)).run P w=.ok (v.den β) w/\v.ids=[]:=by
 unfold qBin at h
 split at h
 ·rename_i i hi
  have hi:=hT _ _ hi
  obtain ⟨info,d,z,h1,h2,h3,h4,-⟩:=ti_facts hi
  split at h
  ·split at h
   ·rename_i k a k' b
    have hg:(eqGuard op xt ox oy (C.den β (.v (.int k a))) (C.den β (.v (.int k' b)))).run P w=.ok () w:=
     guard_free (.inr (.inr (.inl ⟨_,_,rfl⟩))) (by simp [C.den]) (by simp [C.den])
    have key:(binOp op xt (.int k a) (.int k' b)).run P w=.ok (v.den β) w/\v.ids=[]:=by
     split at h
     ·exact shift_run (.inl rfl) h hsc
     ·exact shift_run (.inr rfl) h hsc
     ·split at h
      ·rename_i e; obtain rfl:=kindEq_eq e; exact intBin_run h hsc
      ·cases h
    simp only [Sem.run_bind,hg,Result.andThen_ok]
    exact key
   ·cases h
  ·rename_i hk
   rw [h4] at hk
   obtain rfl:=desc_of_bool hk
   split at h
   ·rename_i a b ha hb
    have hx:=bool?_den (β:=β) ha
    have hy:=bool?_den (β:=β) hb
    have hg:(eqGuard op xt ox oy (x.den β) (y.den β)).run P w=.ok () w:=by
     rw [hx.1,hy.1]
     exact guard_free (.inr (.inr (.inr (.inl ⟨_,rfl⟩)))) (by simp) (by simp)
    simp only [Sem.run_bind,hg,Result.andThen_ok]
    rw [hx.1,hy.1]
    split at h
    ·simp only [Q.ret.injEq] at h; obtain ⟨rfl,rfl⟩:=h
     exact ⟨bool_run h2 (.inl rfl),rfl⟩
    ·simp only [Q.ret.injEq] at h; obtain ⟨rfl,rfl⟩:=h
     exact ⟨bool_run h2 (.inr rfl),rfl⟩
    ·cases h
   ·cases h
  ·have key:∀neg:Bool,qNil neg i.k x y=.ret sc v->(do eqGuard (if neg then .neq else .eql) xt ox oy (x.den β) (y.den β); binOp (if neg then .neq else .eql) xt (x.den β) (y.den β)).run P w=.ok (v.den β) w/\v.ids=[]:=by
    intro neg h
    obtain ⟨k1,k2,k3,k4,k5⟩:=qNil_run (w:=w) (β:=β) hi neg h hsc
    have hg:(eqGuard (if neg then BinOp.neq else BinOp.eql) xt ox oy (x.den β) (y.den β)).run P w=.ok () w:=by
     refine guard_free ?_ (fun e=>hy (k4 e)) k5
     rcases k3 with k3 | k3 | k3
     ·exact .inl k3
     ·exact .inr (.inl k3)
     ·exact .inr (.inr (.inr (.inr (hy (k4 k3)))))
    simp only [Sem.run_bind,hg,Result.andThen_ok]
    exact ⟨k1,k2⟩
   split at h
   ·exact key false h
   ·exact key true h
   ·cases h
 ·cases h
end Go.Eng
