import Derived.WalkKit
import Derived.Deep.LoopGhost
import Derived.KernelRfl
set_option linter.unusedVariables false
open Go.IntKind (i64 u64 u32)
namespace Go.bM
abbrev OA:=Option Addr
abbrev sm {α:Type}(a:α):Prop:=a=a
structure View where
 w:World
 H:Nat->Prop
 X:Nat->Prop
 hH:∀b,H b->b<w.heap.size
 hX:∀b,X b->H b
def View.bI (V:View)(b:Nat)(o:Obj):Prop:=¬V.H b/\V.w.heap[b]?=some o
def View.at (V:View)(p:Addr)(v:Value):Prop:=¬V.H p.block/\V.w.cell? p=some v
def View.Le (V V':View):Prop:=∀b o,V.bI b o->V'.bI b o
structure fq (X:Nat->Prop) (w w':World):Prop where
 size:w.heap.size<=w'.heap.size
 bI:∀b,b<w.heap.size->¬X b->w'.heap[b]?=w.heap[b]?
 os:w'.os=w.os
 tape:w'.tape=w.tape
 out:w'.output=w.output
def View.to (V:View)(w':World)(h:V.w.heap.size<=w'.heap.size):View:=⟨w',V.H,V.X,fun b hb=>Nat.lt_of_lt_of_le (V.hH b hb) h,V.hX⟩
def View.bz (V:View)(bs:List Nat):View:={ V with X:=fun b=>b∈bs/\V.H b,hX:=fun _ h=>h.2 }
def View.Kt (V:View)(b:Nat):View:={ V with H:=fun x=>V.H x\/(x=b/\b<V.w.heap.size),hH:=fun x h=>h.elim (V.hH x) fun h=>h.1▸h.2,hX:=fun x h=>.inl (V.hX x h) }
def View.ke (V:View)(p:Prop)(b:Nat):View:={ V with H:=fun x=>V.H x\/(p/\x=b/\b<V.w.heap.size),hH:=fun x h=>h.elim (V.hH x) fun h=>h.2.1▸h.2.2,hX:=fun x h=>.inl (V.hX x h) }
def View.shut (V:View):View:={ V with X:=fun _=>False,hX:=fun _ h=>h.elim }
def jm (P : Program)(f : FuncId) : Prop := ∃ fn, P.funcs[f]? = some fn ∧ fn.body.isNone = false ∧ (fn.name == "runtime.NumGoroutine") = false
def ab (P:Program)(f:FuncId)(args:Array Value)(V:View)(R:Value->View->Prop):Prop:=
 jm P f/\Calls P f args V.w fun e w'=>∃r,e=.returned r/\∃hx:fq V.X V.w w',R r (V.to w' hx.size)
inductive C where
 | v (x:Value)|w (x:Value)|tt|ff
 | ptr (s o:Nat)
 | mY (s o n c:Nat)
 | jX (s n c:Nat)
 | yT (f:FuncId) (ss:List Nat)
inductive SV where
 | c (x:C)|agg (cs:List C)|pU (xs:List (Bool×List C))
inductive Cells where
 | lit (cs:List C)|row (vs:List Value)|aW (vs:List Value)
structure aR where
 cs:Cells
 ty:TypeId
def aR.live (b:aR):Prop:=∀vs,b.cs=.aW vs->vs≠[]
def JC (b:aR):List Prop:=
 match b.cs with
 | .aW vs=>[vs≠[]]
 | _=>[]
def VN (b:aR):Prop:=
 match b.cs with
 | .aW vs=>vs≠[]
 | _=>True
def qB:List Prop->Prop->Prop
 | [],k=>k
 | p::r,k=>p->qB r k
def mA (b c:Nat):OA:=if c=0 then none else some ⟨b,0,none⟩
structure St where
 aw:Nat->Option SV
 boxes:Nat->Option aR
def C.den (β:Nat->Nat):C->Value
 | .v x=>x
 | .w x=>x
 | .tt=>.bool true
 | .ff=>.bool false
 | .ptr s o=>.pointer (some ⟨β s,o,none⟩)
 | .mY s o n c=>.slice (some ⟨β s,o,none⟩) n c
 | .jX s n c=>.slice (mA (β s) c) n c
 | .yT f ss=>.func (.func f) #[] (ss.map fun s=>Value.pointer (some ⟨β s,0,none⟩)).toArray
def iW (β:Nat->Nat):Bool×List C->Value
 | (true,cs)=>.agg (cs.map (C.den β)).toArray
 | (false,[c])=>c.den β
 | (false,_)=>.tuple #[]
def rV:Bool×List C->Option SV
 | (true,cs)=>some (.agg cs)
 | (false,[c])=>some (.c c)
 | (false,_)=>none
def SV.den (β:Nat->Nat):SV->Value
 | .c x=>x.den β
 | .agg cs=>.agg (cs.map (C.den β)).toArray
 | .pU xs=>.tuple (xs.map (iW β)).toArray
def SV.cells:SV->List C
 | .c x=>[x]
 | .agg cs=>cs
 | .pU _=>[]
def Cells.den (β:Nat->Nat):Cells->List Value
 | .lit cs=>cs.map (C.den β)
 | .row vs=>vs
 | .aW vs=>vs
def aR.obj (β:Nat->Nat)(b:aR):Obj:=.cells (b.cs.den β).toArray b.ty (0,0)
def C.ids:C->List Nat
 | .ptr s _=>[s]
 | .mY s _ _ _=>[s]
 | .jX s _ _=>[s]
 | .yT _ ss=>ss
 | _=>[]
def SV.ids:SV->List Nat
 | .c x=>x.ids
 | .agg cs=>cs.flatMap C.ids
 | .pU xs=>xs.flatMap fun x=>x.2.flatMap C.ids
def SV.wo:SV->Bool
 | .pU _=>true
 | _=>false
def fE:C->List Prop
 | .v (.agg _)|.v (.tuple _)=>[False]
 | .w x=>[x.oneCell'=true]
 | _=>[]
def SV.fE (x:SV):List Prop:=x.cells.flatMap bM.fE
def Cells.ids:Cells->List Nat
 | .lit cs=>cs.flatMap C.ids
 | .row _=>[]
 | .aW _=>[]
def St.put (st:St)(d:Option Nat)(x:SV):St:=
 match d with
 | none=>st
 | some d=>{ st with aw:=fun t=>cond (Nat.beq t d) (some x) (st.aw t) }
def St.box (st:St)(s:Nat)(b:aR):St:={ st with boxes:=fun t=>cond (Nat.beq t s) (some b) (st.boxes t) }
def C.ofConst:Value->C
 | .bool true=>.tt
 | .bool false=>.ff
 | x=>.v x
def SV.ofConst:Value->SV
 | .bool true=>.c .tt
 | .bool false=>.c .ff
 | .agg cs=>.agg (cs.toList.map C.ofConst)
 | x=>.c (.v x)
def St.aZ (st:St):Operand->Option SV
 | .tmp t=>st.aw t
 | .const v=>some (.ofConst v)
 | .global g=>some (.c (.v (.pointer (some ⟨g,0,none⟩))))
 | .func f=>some (.c (.yT f []))
inductive TK where
 | int (k:IntKind)|bool|str|ptr (e:TypeId)|slice (e:TypeId)|struct (fs:List (TypeId×Nat))|arr (n:Nat) (e:TypeId)|iface|func|tuple (ts:List TypeId)|other
structure TI where
 k:TK
 size:Nat
 bytes:Nat
 zero:List C
def kI:TypeDesc->TK
 | .int k=>.int k
 | .bool=>.bool
 | .string=>.str
 | .pointer e=>.ptr e
 | .slice e=>.slice e
 | .array n e=>.arr n e
 | .struct fs=>.struct (fs.toList.map fun f=>(f.type,f.offset))
 | .interface _=>.iface
 | .func ..=>.func
 | .tuple es=>.tuple es.toList
 | _=>.other
def lu (P:Program)(t:TypeId):Option TI:=
 match P.info? t,P.underlying t with
 | some i,some d=>
  match i.zero with
  | some z=>some { k:=kI d,size:=i.size,bytes:=i.bytes,zero:=z.cells.toList.map C.ofConst }
  | none=>none
 | _,_=>none
abbrev dA:=List (Nat×TI)
def aA {α:Type}:List (Nat×α)->Nat->Option α
 | [],_=>none
 | (s,x)::r,t=>cond (Nat.beq t s) (some x) (aA r t)
def dA.ok (P:Program)(T:dA):Prop:=∀t i,aA T t=some i->lu P t=some i
inductive yw where
 | int (k:IntKind)|bool|slice|ptr|str|any
inductive ve where
 | one (s:yw)|agg (l:List yw)
inductive Sh where
 | val (s:ve)|pU (l:List ve)|none
def UC:C->yw
 | .v (.int k _)=>.int k
 | .v (.slice ..)=>.slice
 | .v (.pointer _)=>.ptr
 | .v (.string _)=>.str
 | .tt|.ff=>.bool
 | _=>.any
def lD (i:TI):ve:=
 match i.k with
 | .struct _|.arr _ _=>.agg (i.zero.map UC)
 | _=>match i.zero with
  | [z]=>.one (UC z)
  | _=>.one .any
def yw.ex:yw->(C->Prop)->Prop
 | .int k,K=>∃n:Int,K (.v (.int k n))
 | .bool,K=>∃b:Bool,K (.v (.bool b))
 | .slice,K=>∃(a:OA)(n c:Nat),K (.v (.slice a n c))
 | .ptr,K=>∃p:OA,K (.v (.pointer p))
 | .str,K=>∃s:ByteArray,K (.v (.string s))
 | .any,K=>∃x:Value,K (.w x)
def PH:List yw->(List C->Prop)->Prop
 | [],K=>K []
 | s::r,K=>s.ex fun v=>PH r fun vs=>K (v::vs)
def ve.ex:ve->(SV->Prop)->Prop
 | .one s,K=>s.ex fun c=>K (.c c)
 | .agg l,K=>PH l fun cs=>K (.agg cs)
def Q7:List ve->(List (Bool×List C)->Prop)->Prop
 | [],K=>K []
 | .one s::r,K=>s.ex fun c=>Q7 r fun vs=>K ((false,[c])::vs)
 | .agg l::r,K=>PH l fun cs=>Q7 r fun vs=>K ((true,cs)::vs)
def Sh.ex:Sh->(SV->Prop)->Prop
 | .val s,K=>s.ex K
 | .pU l,K=>Q7 l fun vs=>K (.pU vs)
 | .none,K=>K (.pU [])
def TP (T:dA):List TypeId->Option (List ve)
 | []=>some []
 | t::r=>match aA T t,TP T r with
  | some i,some l=>some (lD i::l)
  | _,_=>Option.none
def XT (T:dA)(t:TypeId):Option Sh:=
 match aA T t with
 | some i=>match i.k with
  | .tuple []=>some .none
  | .tuple ts=>match TP T ts with
   | some l=>some (.pU l)
   | Option.none=>Option.none
  | _=>some (.val (lD i))
 | Option.none=>Option.none
inductive Q where
 | fail
 | ret (sc:List Prop) (x:SV)
 | new (sc:List Prop) (b:aR) (x:Nat->SV)
 | ue (sc:List Prop) (s:Nat) (b:aR)
 | rd (p:OA) (sh:ve)
 | oT (vs:List Value) (o size:Nat) (sh:ve)
 | sH (s:Nat) (vs:List Value) (n c:Nat) (x:OA×Nat ⊕ List Value) (size bytes:Nat) (ty:TypeId)
 | app (old:Option Nat) (ba:OA) (vs:List Value) (n c:Nat) (x:OA×Nat ⊕ List Value) (size bytes:Nat) (ty:TypeId)
def bB (op:BinOp)(k:IntKind)(a b:Int):Int:=
 match op with
 | .and=>k.wrap ((BitVec.ofInt k.bits a &&& BitVec.ofInt k.bits b).toNat:Int)
 | .or=>k.wrap ((BitVec.ofInt k.bits a ||| BitVec.ofInt k.bits b).toNat:Int)
 | .xor=>k.wrap ((BitVec.ofInt k.bits a ^^^ BitVec.ofInt k.bits b).toNat:Int)
 | _=>k.wrap ((BitVec.ofInt k.bits a &&& ~~~(BitVec.ofInt k.bits b)).toNat:Int)
def nD (op:BinOp)(k:IntKind)(a b:Int):Q:=
 match op with
 | .add=>.ret [] (.c (.v (.int k (k.wrap (a+b)))))
 | .sub=>.ret [] (.c (.v (.int k (k.wrap (a-b)))))
 | .mul=>.ret [] (.c (.v (.int k (k.wrap (a*b)))))
 | .quo=>.ret [b≠0] (.c (.v (.int k (k.wrap (a.tdiv b)))))
 | .rem=>.ret [b≠0] (.c (.v (.int k (a.tmod b))))
 | .and=>.ret [] (.c (.v (.int k (bB .and k a b))))
 | .or=>.ret [] (.c (.v (.int k (bB .or k a b))))
 | .xor=>.ret [] (.c (.v (.int k (bB .xor k a b))))
 | .andNot=>.ret [] (.c (.v (.int k (bB .andNot k a b))))
 | .shl=>.ret [0<=b] (.c (.v (.int k (k.wrap (a*2^(min b.toNat k.bits))))))
 | .shr=>.ret [0<=b] (.c (.v (.int k (a.fdiv (2^(min b.toNat k.bits))))))
 | .eql=>.ret [] (.c (.v (.bool (a==b))))
 | .neq=>.ret [] (.c (.v (.bool (a != b))))
 | .lss=>.ret [] (.c (.v (.bool (decide (a<b)))))
 | .leq=>.ret [] (.c (.v (.bool (decide (a<=b)))))
 | .gtr=>.ret [] (.c (.v (.bool (decide (a>b)))))
 | .geq=>.ret [] (.c (.v (.bool (decide (a≥b)))))
def C.bool?:C->Option Bool
 | .tt=>some true
 | .ff=>some false
 | .v (.bool b)=>some b
 | _=>none
def bO:Value->Bool
 | .nilIface=>true
 | _=>false
def IsIface (x:Value):Prop:=x=.nilIface\/∃t v,x=.iface t v
def wu:IntKind->IntKind->Bool
 | .i8,.i8|.i16,.i16|.i32,.i32|.i64,.i64|.u8,.u8|.u16,.u16|.u32,.u32|.u64,.u64=>true
 | _,_=>false
def Cr (neg:Bool)(k:TK)(x y:C):Q:=
 match k with
 | .ptr _=>match y with
  | .v (.pointer none)=>match x with
   | .ptr _ _=>.ret [] (.c (if neg then .tt else .ff))
   | .v (.pointer p)=>.ret [] (.c (.v (.bool (if neg then !p.isNone else p.isNone))))
   | _=>.fail
  | _=>.fail
 | .slice _=>match y with
  | .v (.slice none _ _)=>match x with
   | .mY _ _ _ _=>.ret [] (.c (if neg then .tt else .ff))
   | .jX _ _ c=>.ret [] (.c (.v (.bool (if neg then !(Nat.beq c 0) else Nat.beq c 0))))
   | .v (.slice a _ _)=>.ret [] (.c (.v (.bool (if neg then !a.isNone else a.isNone))))
   | _=>.fail
  | _=>.fail
 | .iface=>match y with
  | .v .nilIface=>match x with
   | .w y=>.ret [IsIface y] (.c (.v (.bool (if neg then !bO y else bO y))))
   | .v .nilIface=>.ret [] (.c (if neg then .ff else .tt))
   | _=>.fail
  | _=>.fail
 | _=>.fail
def Cp (T:dA)(op:BinOp)(xt:TypeId)(x y:C):Q:=
 match aA T xt with
 | some i=>match i.k with
  | .int _=>match x,y with
   | .v (.int k a),.v (.int k' b)=>
    match op with
    | .shl|.shr=>nD op k a b
    | _=>if wu k k' then nD op k a b else .fail
   | _,_=>.fail
  | .bool=>match x.bool?,y.bool? with
   | some a,some b=>match op with
    | .eql=>.ret [] (.c (.v (.bool (a==b))))
    | .neq=>.ret [] (.c (.v (.bool (!(a==b)))))
    | _=>.fail
   | _,_=>.fail
  | k=>match op with
   | .eql=>Cr false k x y
   | .neq=>Cr true k x y
   | _=>.fail
 | none=>.fail
def ag (p:OA)(n:Nat):OA:=p.map fun a=>a.add n
def setCells (cs:List C)(o:Nat)(xs:List C):List C:=cs.take o++xs++cs.drop (o+xs.length)
def cR (vs:List Value)(o:Nat)(xs:List Value):List Value:=
 match xs with
 | [x]=>vs.set o x
 | _=>vs.take o++xs++vs.drop (o+xs.length)
def C.val?:C->Option Value
 | .v x=>some x
 | .w x=>some x
 | .tt=>some (.bool true)
 | .ff=>some (.bool false)
 | _=>none
def lF:List C->Option (List Value)
 | []=>some []
 | c::r=>match c.val?,lF r with
  | some v,some vs=>some (v::vs)
  | _,_=>none
def jI (bx:Nat->Option aR)(i:TI)(x:SV):Q:=
 match x with
 | .c (.ptr b o)=>match bx b with
  | some ⟨.lit cs,_⟩=>match i.k with
   | .struct _|.arr _ _=>if Nat.ble (o+i.size) cs.length then .ret [] (.agg ((cs.drop o).take i.size)) else .fail
   | _=>match cs[o]? with
    | some c=>.ret [] (.c c)
    | none=>.fail
  | some ⟨.row vs,_⟩=>.oT vs o i.size (lD i)
  | some ⟨.aW vs,_⟩=>if Nat.beq i.size 0 then .fail else .oT vs o i.size (lD i)
  | none=>.fail
 | .c (.v (.pointer p))=>if Nat.beq i.zero.length i.size then .rd p (lD i) else .fail
 | _=>.fail
def h_ (bx:Nat->Option aR)(i:TI)(a x:SV):Q:=
 match a with
 | .c (.ptr b o)=>if Nat.beq x.cells.length i.size&&!x.wo then match bx b with
   | some ⟨.lit cs,ty⟩=>if Nat.ble (o+i.size) cs.length then .ue x.fE b ⟨.lit (setCells cs o x.cells),ty⟩ else .fail
   | some ⟨.row vs,ty⟩=>match lF x.cells with
    | some xs=>.ue (x.fE++[o+i.size<=vs.length]) b ⟨.row (cR vs o xs),ty⟩
    | none=>.fail
   | some ⟨.aW vs,ty⟩=>if Nat.beq i.size 0 then .fail else match lF x.cells with
    | some xs=>.ue (x.fE++[o+i.size<=vs.length]) b ⟨.aW (cR vs o xs),ty⟩
    | none=>.fail
   | none=>.fail
  else .fail
 | _=>.fail
def oS (place:Nat->Option (Nat×Nat))(cells:List C):List (Nat×SV)->Option (List C)
 | []=>some cells
 | (i,x)::r=>match place i with
  | none=>none
  | some (off,size)=>if Nat.beq x.cells.length size&&Nat.ble (off+size) cells.length&&!x.wo then oS place (setCells cells off x.cells) r else none
def partsOf (ρ:Operand->Option SV):List (Nat×Operand)->Option (List (Nat×SV))
 | []=>some []
 | (i,o)::r=>match ρ o,partsOf ρ r with
  | some x,some l=>some ((i,x)::l)
  | _,_=>none
def fW (T:dA):List (TypeId×Nat)->Option (List (Nat×Nat))
 | []=>some []
 | (t,off)::r=>match aA T t,fW T r with
  | some i,some l=>some ((off,i.size)::l)
  | _,_=>none
def rep (n:Nat)(zs:List C):List C:=(List.replicate n zs).flatten
def pT (n:Nat)(zs:List Value):List Value:=
 match zs with
 | [z]=>List.replicate n z
 | _=>(List.replicate n zs).flatten
def mX (a:OA)(m l sz:Nat):OA:=if m=l then a else ag a (l*sz)
def slO (o m l sz:Nat):Nat:=if m=l then o else o+l*sz
def NL (c:Nat):Option SV->Option (List Prop×Nat)
 | none=>some ([],c)
 | some (.c (.v (.int _ m)))=>some ([0<=m/\m<=(c:Int)],m.toNat)
 | _=>none
def Ly (n m:Nat):Option SV->Option SV->Option (List Prop×Nat)
 | some (.c (.v (.int _ h))),_=>some ([0<=h/\h<=(m:Int)],h.toNat)
 | none,none=>some ([],n)
 | _,_=>none
def Qu (h:Nat):Option SV->Option (List Prop×Option Nat)
 | none=>some ([],none)
 | some (.c (.v (.int _ l)))=>some ([0<=l/\l<=(h:Int)],some l.toNat)
 | _=>none
def oz (n c:Nat)(lo hi mx:Option SV):Option (List Prop×Option Nat×Nat×Nat):=
 match NL c mx with
 | none=>none
 | some (p1,m)=>match Ly n m hi mx with
  | none=>none
  | some (p2,h)=>match Qu h lo with
   | none=>none
   | some (p3,l)=>some (p1++p2++p3,l,h,m)
def Ck (ρ:Operand->Option SV):Option Operand->Option (Option SV)
 | none=>some none
 | some x=>match ρ x with
  | some v=>some (some v)
  | none=>none
def sK (sz:Nat)(x:SV)(lo hi mx:Option SV):Q:=
 match x with
 | .c (.v (.slice a n c))=>match oz n c lo hi mx with
  | some (sc,none,h,m)=>.ret sc (.c (.v (.slice a h m)))
  | some (sc,some l,h,m)=>.ret sc (.c (.v (.slice (mX a m l sz) (h-l) (m-l))))
  | none=>.fail
 | .c (.mY s o n c)=>match oz n c lo hi mx with
  | some (sc,none,h,m)=>.ret sc (.c (.mY s o h m))
  | some (sc,some l,h,m)=>.ret sc (.c (.mY s (slO o m l sz) (h-l) (m-l)))
  | none=>.fail
 | .c (.jX s n c)=>match mx with
  | none=>match oz n c lo hi none with
   | some (sc,none,h,m)=>.ret sc (.c (.jX s h m))
   | _=>.fail
  | some _=>.fail
 | _=>.fail
def hZ (T:dA)(i:TI)(x ix:SV):Q:=
 match ix with
 | .c (.v (.int _ n))=>match i.k with
  | .slice e=>match aA T e with
   | some ei=>match x with
    | .c (.v (.slice a len _))=>.ret [a.isSome=true,0<=n/\n<(len:Int)] (.c (.v (.pointer (ag a (n.toNat*ei.size)))))
    | .c (.mY s o len _)=>.ret [0<=n/\n<(len:Int)] (.c (.ptr s (o+n.toNat*ei.size)))
    | .c (.jX s len c)=>.ret [0<=n/\n<(len:Int),len<=c] (.c (.ptr s (n.toNat*ei.size)))
    | _=>.fail
   | none=>.fail
  | .arr len e=>match aA T e with
   | some ei=>match x with
    | .c (.ptr s o)=>.ret [0<=n/\n<(len:Int)] (.c (.ptr s (o+n.toNat*ei.size)))
    | _=>.fail
   | none=>.fail
  | _=>.fail
 | _=>.fail
def Bb (T:dA)(i:TI)(l c:SV):Q:=
 match i.k with
 | .slice e=>match aA T e with
  | some ei=>match l,c with
   | .c (.v (.int _ n)),.c (.v (.int _ m))=>match lF ei.zero with
    | some zs=>if Nat.beq ei.bytes 0||Nat.beq ei.size 0||!(Nat.beq ei.size zs.length) then .fail else .new [0<=n,n<=m,(ei.bytes:Int)*m<=140737488355328] ⟨.row (pT m.toNat zs),e⟩ fun d=>.c (.mY d 0 n.toNat m.toNat)
    | none=>.fail
   | _,_=>.fail
  | none=>.fail
 | _=>.fail
def wV:List SV->Option (List Nat)
 | []=>some []
 | .c (.ptr s 0)::r=>match wV r with
  | some l=>some (s::l)
  | none=>none
 | _=>none
def bZ (ρ:Operand->Option SV):List Operand->Option (List SV)
 | []=>some []
 | o::r=>match ρ o,bZ ρ r with
  | some x,some l=>some (x::l)
  | _,_=>none
def bV (a b:Int):Int:=if b<a then b else a
def bU (a b:Int):Int:=if b>a then b else a
def foldI (f:Int->Int->Int)(k:IntKind)(a:Int):List SV->Option Int
 | []=>some a
 | .c (.v (.int k' b))::r=>if wu k k' then foldI f k (f a b) r else none
 | _=>none
def eU (bx:Nat->Option aR)(s:Nat):Option (List Value):=
 match bx s with
 | some ⟨.lit cs,_⟩=>lF cs
 | some ⟨.row vs,_⟩=>some vs
 | _=>none
def kT (bx:Nat->Option aR)(s:Nat):Option TypeId:=match bx s with|some b=>some b.ty|none=>none
def cC (ws:List Value)(o n:Nat):List Value:=cond (Nat.ble (o+n) ws.length) ((ws.drop o).take n) (List.replicate n (.agg #[]))
def ch (bx:Nat->Option aR)(e:TypeId)(ei:TI)(b x:SV):Q:=
 match lF ei.zero with
 | none=>.fail
 | some zs=>if Nat.beq ei.bytes 0||Nat.beq ei.size 0||!(Nat.beq ei.size zs.length) then .fail else
  let src:Option (OA×Nat ⊕ List Value):=match x with
   | .c (.v (.slice a k _))=>some (.inl (a,k))
   | .c (.mY s o k _)=>match bx s with
    | some ⟨.row ws,_⟩=>some (.inr (cC ws o (k*ei.size)))
    | _=>match eU bx s with
     | some ws=>if Nat.ble (o+k*ei.size) ws.length then some (.inr ((ws.drop o).take (k*ei.size))) else none
     | none=>none
   | _=>none
  match src with
  | none=>.fail
  | some src=>match b with
   | .c (.v (.slice a n c))=>.app none a [] n c src ei.size ei.bytes e
   | .c (.mY s 0 n c)=>match eU bx s,kT bx s with
    | some vs,some ty=>if Nat.beq ty e then .app (some s) none vs n c src ei.size ei.bytes e else .fail
    | _,_=>.fail
   | .c (.jX s n c)=>match bx s with
    | some ⟨.aW vs,ty⟩=>if Nat.beq ty e then .sH s vs n c src ei.size ei.bytes e else .fail
    | _=>.fail
   | _=>.fail
def lA (b:Builtin)(k:TK)(xs:List SV):Q:=
 match xs with
 | []=>.fail
 | x::r=>match b with
  | .len=>match r,k,x with
   | [],.slice _,.c (.v (.slice _ n _))=>.ret [] (.c (.v (.int .i64 n)))
   | [],.slice _,.c (.mY _ _ n _)=>.ret [] (.c (.v (.int .i64 n)))
   | [],.slice _,.c (.jX _ n _)=>.ret [] (.c (.v (.int .i64 n)))
   | [],.str,.c (.v (.string s))=>.ret [] (.c (.v (.int .i64 s.size)))
   | _,_,_=>.fail
  | .cap=>match r,k,x with
   | [],.slice _,.c (.v (.slice _ _ c))=>.ret [] (.c (.v (.int .i64 c)))
   | [],.slice _,.c (.mY _ _ _ c)=>.ret [] (.c (.v (.int .i64 c)))
   | [],.slice _,.c (.jX _ _ c)=>.ret [] (.c (.v (.int .i64 c)))
   | _,_,_=>.fail
  | .min=>match x with
   | .c (.v (.int k a))=>match foldI bV k a r with
    | some m=>.ret [] (.c (.v (.int k m)))
    | none=>.fail
   | _=>.fail
  | .max=>match x with
   | .c (.v (.int k a))=>match foldI bU k a r with
    | some m=>.ret [] (.c (.v (.int k m)))
    | none=>.fail
   | _=>.fail
  | _=>.fail
def wX (t:TypeId)(i:TI)(v:SV):Q:=
 match i.k with
 | .iface=>.fail
 | _=>match v.ids,v.wo with
  | [],false=>.ret [] (.c (.w (.iface t (v.den fun _=>0))))
  | _,_=>.fail
def mz (T:dA)(bx:Nat->Option aR)(t:TypeId)(x:SV):Q:=
 match aA T t with
 | some i=>match i.k with
  | .slice e=>match aA T e with
   | some ei=>match lF ei.zero,x with
    | some zs,.c (.mY s o n _)=>match bx s with
     | some ⟨.row vs,ty⟩=>if Nat.beq ei.size 0||!(Nat.beq ei.size zs.length)||!(zs.all Value.oneCell') then .fail else .ue [o+n*ei.size<=vs.length] s ⟨.row (vs.take o++pT n zs++vs.drop (o+n*ei.size)),ty⟩
     | _=>.fail
    | _,_=>.fail
   | none=>.fail
  | _=>.fail
 | none=>.fail
def H8:List C->Option (List (OA×Nat×Nat))
 | []=>some []
 | .v (.slice p n c)::r=>match H8 r with
  | some l=>some ((p,n,c)::l)
  | none=>none
 | _=>none
def lB (T:dA)(i:TI)(cs:List C)(k:Int):Q:=
 match i.k with
 | .arr n e=>match aA T e,H8 cs with
  | some ei,some l=>match ei.k with
   | .slice _=>if Nat.beq ei.size 1&&Nat.beq l.length n then .ret [0<=k/\k<(n:Int)] (.c (.v (.slice (l.getD k.toNat (none,0,0)).1 (l.getD k.toNat (none,0,0)).2.1 (l.getD k.toNat (none,0,0)).2.2))) else .fail
   | _=>.fail
  | _,_=>.fail
 | _=>.fail
def aJ (T:dA)(ρ:Operand->Option SV)(bx:Nat->Option aR)(op:Op):Q:=
 match op with
 | .move x|.assign x=>match ρ x with
  | some v=>.ret [] v
  | none=>.fail
 | .pick c a b=>match ρ c with
  | some (.c .tt)=>match ρ a with
   | some v=>.ret [] v
   | none=>.fail
  | some (.c .ff)=>match ρ b with
   | some v=>.ret [] v
   | none=>.fail
  | _=>.fail
 | .alloc t=>match aA T t with
  | some i=>.new [] ⟨.lit i.zero,t⟩ fun d=>.c (.ptr d 0)
  | none=>.fail
 | .box t x=>match ρ x with
  | some v=>match v.wo with
   | true=>.fail
   | false=>.new v.fE ⟨.lit v.cells,t⟩ fun d=>.c (.ptr d 0)
  | none=>.fail
 | .build t parts=>match aA T t,partsOf ρ parts.toList with
  | some i,some ps=>match i.k with
   | .struct fs=>match fW T fs with
    | some pl=>match oS (fun j=>pl[j]?) i.zero ps with
     | some cs=>.ret (ps.flatMap fun x=>x.2.fE) (.agg cs)
     | none=>.fail
    | none=>.fail
   | .arr _ e=>match aA T e with
    | some ei=>match oS (fun j=>some (j*ei.size,ei.size)) i.zero ps with
     | some cs=>.ret (ps.flatMap fun x=>x.2.fE) (.agg cs)
     | none=>.fail
    | none=>.fail
   | _=>.fail
  | _,_=>.fail
 | .buildSlice t len parts=>match aA T t,partsOf ρ parts.toList with
  | some i,some ps=>match i.k with
   | .slice e=>match aA T e with
    | some ei=>if Nat.ble (len*ei.size) 16777216&&Nat.beq ei.zero.length ei.size&&!(Nat.beq ei.size 0) then match oS (fun j=>some (j*ei.size,ei.size)) (rep len ei.zero) ps with
      | some cs=>.new (ps.flatMap fun x=>x.2.fE) ⟨.lit cs,e⟩ fun d=>.c (.mY d 0 len len)
      | none=>.fail
     else .fail
    | none=>.fail
   | _=>.fail
  | _,_=>.fail
 | .load t a=>match aA T t,ρ a with
  | some i,some x=>jI bx i x
  | _,_=>.fail
 | .store t a x=>match aA T t,ρ a,ρ x with
  | some i,some av,some xv=>h_ bx i av xv
  | _,_,_=>.fail
 | .nilCheck x=>match ρ x with
  | some (.c (.ptr s o))=>.ret [] (.c (.ptr s o))
  | some (.c (.v (.pointer p)))=>.ret [p.isSome=true] (.c (.v (.pointer p)))
  | _=>.fail
 | .binOp o xt x y _=>match ρ x,ρ y with
  | some (.c a),some (.c b)=>match b with
   | .v .nilIface=>match y with
    | .const _=>Cp T o xt a b
    | _=>.fail
   | b=>Cp T o xt a b
  | _,_=>.fail
 | .unOp .not _ x=>match ρ x with
  | some (.c .tt)=>.ret [] (.c .ff)
  | some (.c .ff)=>.ret [] (.c .tt)
  | some (.c (.v (.bool b)))=>.ret [] (.c (.v (.bool (!b))))
  | _=>.fail
 | .unOp .xor _ x=>match ρ x with
  | some (.c (.v (.int k n)))=>.ret [] (.c (.v (.int k (bB .xor k (if k.signed then -1 else k.max) n))))
  | _=>.fail
 | .unOp .neg _ x=>match ρ x with
  | some (.c (.v (.int k n)))=>.ret [] (.c (.v (.int k (k.wrap (0-n)))))
  | _=>.fail
 | .convert src dst x=>match aA T src,aA T dst,ρ x with
  | some _,some i,some (.c (.v (.int _ n)))=>match i.k with
   | .int k=>.ret [] (.c (.v (.int k (k.wrap n))))
   | _=>.fail
  | _,_,_=>.fail
 | .makeFunc (.func f) first caps=>match first.toList with
  | []=>match bZ ρ caps.toList with
   | some xs=>match wV xs with
    | some ss=>.ret [] (.c (.yT f ss))
    | none=>.fail
   | none=>.fail
  | _=>.fail
 | .makeSlice t l c=>match aA T t,ρ l,ρ c with
  | some i,some lv,some cv=>Bb T i lv cv
  | _,_,_=>.fail
 | .slice t x lo hi mx=>match aA T t,ρ x,Ck ρ lo,Ck ρ hi,Ck ρ mx with
  | some i,some xv,some l,some h,some m=>match i.k with
   | .slice e=>match aA T e with
    | some ei=>sK ei.size xv l h m
    | none=>.fail
   | _=>.fail
  | _,_,_,_,_=>.fail
 | .fieldAddr t x f=>match aA T t,ρ x with
  | some i,some xv=>match i.k with
   | .struct fs=>match fs[f]? with
    | some (ft,off)=>match aA T ft with
     | some fi=>if Nat.beq fi.size 0 then .fail else match xv with
      | .c (.ptr s o)=>.ret [] (.c (.ptr s (o+off)))
      | .c (.v (.pointer p))=>.ret [p.isSome=true] (.c (.v (.pointer (ag p off))))
      | _=>.fail
     | none=>.fail
    | none=>.fail
   | _=>.fail
  | _,_=>.fail
 | .field t x f=>match aA T t,ρ x with
  | some i,some (.agg cs)=>match i.k with
   | .struct fs=>match fs[f]? with
    | some (ft,off)=>match aA T ft with
     | some fi=>match fi.k with
      | .struct _|.arr _ _=>.ret [] (.agg ((cs.drop off).take fi.size))
      | _=>match cs[off]? with
       | some c=>.ret [] (.c c)
       | none=>.fail
     | none=>.fail
    | none=>.fail
   | _=>.fail
  | _,_=>.fail
 | .indexAddr t x ix=>match aA T t,ρ x,ρ ix with
  | some i,some xv,some iv=>hZ T i xv iv
  | _,_,_=>.fail
 | .extract x j=>match ρ x with
  | some (.pU xs)=>match xs[j]? with
   | some v=>match rV v with
    | some y=>.ret [] y
    | none=>.fail
   | none=>.fail
  | _=>.fail
 | .call c=>match c.callee with
  | .builtin .append=>match bZ ρ c.args.toList,c.argTypes.toList with
   | some [b,x],[t,t']=>match aA T t,aA T t' with
    | some i,some i'=>match i.k,i'.k with
     | .slice e,.slice _=>match aA T e with
      | some ei=>ch bx e ei b x
      | none=>.fail
     | _,_=>.fail
    | _,_=>.fail
   | _,_=>.fail
  | .builtin .clear=>match bZ ρ c.args.toList,c.argTypes.toList with
   | some [x],[t]=>mz T bx t x
   | _,_=>.fail
  | .builtin b=>match bZ ρ c.args.toList,c.argTypes.toList with
   | some xs,t::_=>match aA T t with
    | some i=>lA b i.k xs
    | none=>.fail
   | _,_=>.fail
  | _=>.fail
 | .index t x ix=>match aA T t,ρ x,ρ ix with
  | some i,some (.c (.v (.string s))),some (.c (.v (.int _ n)))=>match i.k with
   | .str=>.ret [0<=n/\n<(s.size:Int)] (.c (.v (.int .u8 ((s.data.toList.getD n.toNat 0).toNat:Int))))
   | _=>.fail
  | some i,some (.agg cs),some (.c (.v (.int _ n)))=>lB T i cs n
  | _,_,_=>.fail
 | .makeInterface t x=>match aA T t,ρ x with
  | some i,some v=>wX t i v
  | _,_=>.fail
 | _=>.fail
def Br:List Prop->Prop->Prop
 | [],k=>k
 | p::r,k=>p/\Br r k
def View.NT (V:View)(p:Addr):Nat->List C->Prop->Prop
 | _,[],k=>k
 | i,c::r,k=>V.at (p.add i) (c.den fun _=>0)/\V.NT p (i+1) r k
def View.MC (V:View)(p:OA)(x:SV)(k:Prop):Prop:=
 match x with
 | .agg cs=>∃a,p=some a/\V.NT a 0 cs k
 | .c c=>(∃a,p=some a/\V.at a (c.den fun _=>0))/\k
 | .pU _=>False
def NY (vs:List Value)(o size:Nat)(x:SV):Prop:=
 match x with
 | .agg cs=>o+size<=vs.length/\(vs.drop o).take size=cs.map (C.den fun _=>0)
 | .c c=>vs[o]?=some (c.den fun _=>0)
 | .pU _=>False
def fj (x:Nat):List Nat->Bool
 | []=>false
 | y::r=>cond (Nat.beq x y) true (fj x r)
def dedup:List Nat->List Nat
 | []=>[]
 | x::r=>let l:=dedup r;cond (fj x l) l (x::l)
def vS (l m:List Nat):Bool:=l.all fun x=>!(fj x m)
def L1 (l m:List Nat):Bool:=l.all fun x=>fj x m
def C.rel (L:List Nat)(β:Nat->Nat)(J:C->Value):C->C
 | .ptr s o=>cond (fj s L) (.v (.pointer (some ⟨β s,o,none⟩))) (.ptr s o)
 | .mY s o n c=>cond (fj s L) (.v (.slice (some ⟨β s,o,none⟩) n c)) (.mY s o n c)
 | .jX s n c=>cond (fj s L) (.v (.slice (mA (β s) c) n c)) (.jX s n c)
 | .yT f ss=>cond (vS ss L) (.yT f ss) (.w (J (.yT f ss)))
 | x=>x
def SV.rel (L:List Nat)(β:Nat->Nat)(J:C->Value):SV->SV
 | .c x=>.c (x.rel L β J)
 | .agg cs=>.agg (cs.map (C.rel L β J))
 | .pU xs=>.pU (xs.map fun x=>(x.1,x.2.map (C.rel L β J)))
def aR.rel (L:List Nat)(β:Nat->Nat)(J:C->Value)(b:aR):aR:=
 match b.cs with
 | .row _=>b
 | .aW _=>b
 | .lit cs=>⟨.lit (cs.map (C.rel L β J)),b.ty⟩
def St.rel (st:St)(L:List Nat)(β:Nat->Nat)(J:C->Value):St:=
 ⟨fun t=>match st.aw t with|some x=>some (x.rel L β J)|none=>none,
   fun t=>cond (fj t L) none (match st.boxes t with|some b=>some (b.rel L β J)|none=>none)⟩
def View.sl (V:View)(a:OA)(xs:List Value):Prop:=∀i v,xs[i]?=some v->∃ad,a=some ad/\V.at (ad.add i) v
def oK (s d:Nat):Nat:=cond (Nat.blt s 100000) d (d+200000)
def Dh (s:Nat)(vs:List Value)(n c size bytes:Nat)(ty:TypeId)(d:Nat)(st:St)(V:View)(K:St->View->Prop)(k:Nat)(xs:List Value):Prop:=
 (n+k)*bytes<=140737488355328/\n<=c/\c*size<=vs.length/\xs.length=k*size/\(∀v∈xs,v.oneCell'=true) /\
  match st.boxes (oK s d) with
  | some _=>False
  | none=>∀(_:Nat)(_:C->Value)(spare:List Value)(c':Nat),n+k<=c'->c'*size<=(n+k)*size+spare.length ->
   K (((st.box s ⟨.aW [],ty⟩).box (oK s d) ⟨.row (vs.take (n*size)++xs++spare),ty⟩).put (some d) (.c (.mY (oK s d) 0 (n+k) c'))) V
def tK (s:Nat)(vs:List Value)(n c size bytes:Nat)(ty:TypeId)(d:Nat)(st:St)(V:View)(K:St->View->Prop)(k:Nat)(xs:List Value):Prop:=
 (n+k)*bytes<=140737488355328/\n<=c/\c*size<=vs.length/\xs.length=k*size/\(∀v∈xs,v.oneCell'=true) /\
  match st.boxes (oK s d) with
  | some _=>False
  | none=>∀(spare:List Value)(c':Nat),n+k<=c'->c'*size<=(n+k)*size+spare.length ->
   K (((st.box s ⟨.aW [],ty⟩).box (oK s d) ⟨.aW (vs.take (n*size)++xs++spare),ty⟩).put (some d) (.c (.jX (oK s d) (n+k) c'))) V
def Di (vs:List Value)(n c size bytes:Nat)(ty:TypeId)(d:Nat)(st:St)(V:View)(K:St->View->Prop)(k:Nat)(xs:List Value):Prop:=
 (n+k)*bytes<=140737488355328/\c<n+k/\xs.length=k*size/\(∀v∈xs,v.oneCell'=true) /\
  match st.boxes d with
  | some _=>False
  | none=>∀(spare:List Value)(c':Nat),n+k<=c'->c'*size<=(n+k)*size+spare.length ->
   K ((st.box d ⟨.row (vs++xs++spare),ty⟩).put (some d) (.c (.mY d 0 (n+k) c'))) V
def uf (q:Q)(dst:Option Nat)(st:St)(V:View)(K:St->View->Prop):Prop:=
 match q with
 | .fail=>False
 | .ret sc x=>Br sc (K (st.put dst x) V)
 | .new sc b x=>match dst with
  | some d=>match st.boxes d with
   | none=>Br sc (K ((st.box d b).put (some d) (x d)) V)
   | some _=>False
  | none=>False
 | .ue sc s b=>match dst with
  | none=>Br sc (K (st.box s b) V)
  | some _=>False
 | .rd p sh=>sh.ex fun x=>V.MC p x (K (st.put dst x) V)
 | .oT vs o size sh=>sh.ex fun x=>NY vs o size x/\K (st.put dst x) V
 | .sH s vs n c x size bytes ty=>match dst with
  | none=>False
  | some d=>match x with
   | .inr xs=>tK s vs n c size bytes ty d st V K (xs.length / size) xs
   | .inl (a,k)=>∃xs:List Value,V.sl a xs/\xs.length=k*size/\tK s vs n c size bytes ty d st V K k xs
 | .app old ba vs n c x size bytes ty=>match dst with
  | none=>False
  | some d=>match old with
   | some s=>match x with
    | .inr xs=>Dh s vs n c size bytes ty d st V K (xs.length / size) xs
    | .inl (a,k)=>∃xs:List Value,V.sl a xs/\xs.length=k*size/\Dh s vs n c size bytes ty d st V K k xs
   | none=>∃vs:List Value,V.sl ba vs/\vs.length=n*size/\n<=c/\(ba.isNone=true->c=0)/\(match x with
    | .inr xs=>Di vs n c size bytes ty d st V K (xs.length / size) xs
    | .inl (a,k)=>∃xs:List Value,V.sl a xs/\xs.length=k*size/\(k=0->K (st.put (some d) (.c (.v (.slice ba n c)))) V)/\(k≠0->Di vs n c size bytes ty d st V K k xs))
def eC (β:Nat->Nat)(s b:Nat):Nat->Nat:=fun t=>cond (Nat.beq t s) b (β t)
def mT:List Nat->(Nat->Nat)->((Nat->Nat)->Prop)->Prop
 | [],β,k=>k β
 | s::r,β,k=>∀b:Nat,mT r (eC β s b) k
def lP (bx:Nat->Option aR)(s:Nat):List Nat:=match bx s with|some b=>b.cs.ids|none=>[]
def reach (bx:Nat->Option aR):Nat->List Nat->List Nat
 | 0,l=>l
 | n+1,l=>reach bx n (dedup (l++l.flatMap (lP bx)))
def im (bx:Nat->Option aR)(l:List Nat):Bool:=l.all fun s=>L1 (lP bx s) l
def OY (bx:Nat->Option aR)(b:aR)(β:Nat->Nat)(s:Nat):List Nat->Prop->Prop
 | [],k=>k
 | t::r,k=>cond (Nat.beq s t) (OY bx b β s r k) (match bx t with
  | some b'=>qB (JC b++JC b') (β s≠β t)->OY bx b β s r k
  | none=>False)
def iS (bx:Nat->Option aR)(β:Nat->Nat)(V:View):List Nat->Prop->Prop
 | [],k=>k
 | s::r,k=>match bx s with
  | some b=>qB (JC b) (V.w.heap[β s]?=some (b.obj β))->qB (JC b) (V.H (β s))->iS bx β V r (OY bx b β s r k)
  | none=>False
def vb (vs:List Value)(n b:Nat):Nat:=
 match vs with
 | []=>n
 | _::_=>b
def dW (bx:Nat->Option aR)(β:Nat->Nat)(n:Nat)(s:Nat):Nat:=
 match bx s with
 | some ⟨.aW vs,_⟩=>vb vs n (β s)
 | _=>β s
def C.kept:C->List Nat
 | .yT _ ss=>0::ss
 | c=>c.ids
def mi (mv:Option (Nat×Nat)):List C->List C->(List C->Prop)->Prop
 | [],_,K=>K []
 | c::r,z::zr,K=>match c with
  | .jX t _ _=>match mv with
   | some (m,nb)=>match Nat.beq t m with
    | true=>∃n c:Nat,mi mv r zr fun cs=>K (.jX nb n c::cs)
    | false=>False
   | none=>False
  | c=>match c.kept with
   | []=>(UC z).ex fun v=>mi mv r zr fun cs=>K (v::cs)
   | _=>mi mv r zr fun cs=>K (c::cs)
 | _,[],_=>False
def eM (T:dA)(mv:Option (Nat×Nat))(β:Nat->Nat)(V:View):List Nat->St->(St->Prop)->Prop
 | [],st,k=>k st
 | s::r,st,k=>match st.boxes s with
  | some ⟨.lit cs,ty⟩=>match aA T ty with
   | some i=>mi mv cs i.zero fun cs'=>V.w.heap[β s]?=some (.cells (cs'.map (C.den β)).toArray ty (0,0))/\eM T mv β V r (st.box s ⟨.lit cs',ty⟩) k
   | none=>False
  | some ⟨.row _,ty⟩=>∃vs:List Value,V.w.heap[β s]?=some (.cells vs.toArray ty (0,0))/\eM T mv β V r (st.box s ⟨.row vs,ty⟩) k
  | some ⟨.aW vs,ty⟩=>vs≠[]/\∃vs':List Value,vs'≠[]/\V.w.heap[β s]?=some (.cells vs'.toArray ty (0,0))/\eM T mv β V r (st.box s ⟨.aW vs',ty⟩) k
  | _=>False
def zf (bx:Nat->Option aR)(β:Nat->Nat)(V:View):List Nat->Prop->Prop
 | [],k=>k
 | s::r,k=>match bx s with
  | some b=>qB (JC b) (V.bI (β s) (b.obj β))->zf bx β V r k
  | none=>False
def pB:List C->List Nat
 | []=>[]
 | .jX t _ _::r=>t::pB r
 | _::r=>pB r
def qH (bx:Nat->Option aR)(L:List Nat):List Nat:=dedup (L.flatMap fun s=>match bx s with|some ⟨.lit cs,_⟩=>pB cs|_=>[])
def ml:List SV->List Nat
 | []=>[]
 | .c (.jX s _ _)::_=>[s]
 | .c (.mY s 0 _ _)::_=>[s]
 | .c (.v (.slice none _ _))::_=>[]
 | _::r=>ml r
def uO (nb:Nat):List (Bool×List C)->List (Bool×List C)
 | []=>[]
 | (false,[.v (.slice _ n c)])::r=>(false,[.jX nb n c])::r
 | x::r=>x::uO nb r
def B6 (nb:Nat):List C->List C
 | []=>[]
 | .v (.slice _ n c)::r=>.jX nb n c::r
 | x::r=>x::B6 nb r
def sn (nb:Nat):SV->SV
 | .c (.v (.slice _ n c))=>.c (.jX nb n c)
 | .agg cs=>.agg (B6 nb cs)
 | .pU xs=>.pU (uO nb xs)
 | x=>x
def B7 (T:dA):List TypeId->Option TypeId
 | []=>none
 | t::r=>match aA T t with
  | some i=>match i.k with
   | .slice e=>some e
   | _=>B7 T r
  | none=>none
def Ko (T:dA)(ty:TypeId):Option TypeId:=
 match aA T ty with
 | some i=>match i.k with
  | .slice e=>some e
  | .tuple ts=>B7 T ts
  | .struct fs=>B7 T (fs.map Prod.fst)
  | _=>none
 | none=>none
def aU (β:Nat->Nat)(xs:List SV):Array Value:=(xs.map (SV.den β)).toArray
inductive CM where
 | none|bz|rel|iQ|give
def fC (m:Option Nat)(d:Nat):Nat:=
 match m with
 | some m=>oK m d
 | Option.none=>d
def mvP (m:Option Nat)(nb:Nat):Option (Nat×Nat):=
 match m with
 | some m=>some (m,nb)
 | Option.none=>Option.none
def HS (m:Option Nat)(L:List Nat):List Nat:=
 match m with
 | some m=>L.filter fun s=>!(Nat.beq s m)
 | Option.none=>L
def qt (m:Option Nat)(ety:TypeId)(st:St):St:=
 match m with
 | some m=>st.box m ⟨.aW [],ety⟩
 | Option.none=>st
def yl (m:Option Nat)(st:St)(β:Nat->Nat)(b':Nat):Prop:=
 match m with
 | some m=>match st.boxes m with
  | some ⟨.aW vs,_⟩=>vs≠[]/\b'=β m
  | _=>b'=β m
 | Option.none=>False
def cD (T:dA)(give:Bool)(sh:Sh)(L:List Nat)(m:Option Nat)(d:Nat)(ety:TypeId)(β:Nat->Nat)(st:St)(V':View)(K:St->View->Prop)(r':Value)(fr:View):Prop:=
 ∃(b':Nat)(vs':List Value),(vs'≠[]->fr.w.heap[b']?=some (.cells vs'.toArray ety (0,0)))/\(vs'≠[]->V'.w.heap.size<=b'\/yl m st β b') /\
  sh.ex fun x=>r'=(cond give (sn (fC m d) x) x).den (eC β (fC m d) b') /\
   eM T (mvP m (fC m d)) (eC β (fC m d) b') fr (HS m L) ((qt m ety st).box (fC m d) ⟨.aW vs',ety⟩) fun st'=>K (st'.put (some d) (cond give (sn (fC m d) x) x)) (fr.shut.ke (vs'≠[]) b')
def kC (st:St)(m:Option Nat)(d:Nat):Bool:=
 match st.boxes (fC m d) with
 | some _=>false
 | Option.none=>true
def fQ (P:Program)(T:dA)(m:CM)(f:FuncId)(xs:List SV)(ty:TypeId)(dst:Option Nat)(st:St)(V:View)(K:St->View->Prop):Prop:=
 match XT T ty with
 | Option.none=>False
 | some sh=>match reach st.boxes 3 (dedup (xs.flatMap SV.ids)) with
  | []=>match m with
   | .give=>match dst,Ko T ty with
    | some d,some ety=>match kC st Option.none d with
     | false=>False
     | true=>∀V':View,V.Le V'->ab P f (aU (fun _=>0) xs) V' (cD T true sh [] Option.none d ety (fun _=>0) st V' K)
    | _,_=>False
   | .iQ=>match sh,dst with
    | .val (.one .ptr),some d=>match st.boxes d with
     | some _=>False
     | Option.none=>match aA T ty with
      | some ti=>match ti.k with
       | .ptr e=>match aA T e with
        | some ei=>∀V':View,V.Le V'->ab P f (aU (fun _=>0) xs) V' fun r fr=>∃b:Nat,PH (ei.zero.map UC) fun cs=>
          r=.pointer (some ⟨b,0,Option.none⟩)/\V'.w.heap.size<=b/\fr.bI b (.cells (cs.map (C.den fun _=>0)).toArray e (0,0))/\K ((st.box d ⟨.lit cs,e⟩).put (some d) (.c (.ptr d 0))) (fr.Kt b)
        | Option.none=>False
       | _=>False
      | Option.none=>False
    | _,_=>False
   | _=>∀V':View,V.Le V'->ab P f (aU (fun _=>0) xs) V' fun r fr=>sh.ex fun x=>r=x.den (fun _=>0)/\K (st.put dst x) fr
  | s::r=>match im st.boxes (s::r) with
   | false=>False
   | true=>match m with
    | .none|.iQ=>False
    | .give=>match dst,Ko T ty,ml xs,qH st.boxes (s::r) with
     | some d,some ety,[],[]=>match kC st Option.none d with
      | false=>False
      | true=>∀V':View,V.Le V'->mT (s::r) (fun _=>0) fun β=>iS st.boxes β V' (s::r)
       (ab P f (aU β xs) (V'.bz ((s::r).map (dW st.boxes β V'.w.heap.size))) (cD T true sh (s::r) Option.none d ety β st V' K))
     | some d,some ety,[m],[]=>match kC st (some m) d with
      | false=>False
      | true=>∀V':View,V.Le V'->mT (s::r) (fun _=>0) fun β=>iS st.boxes β V' (s::r)
       (ab P f (aU β xs) (V'.bz ((s::r).map (dW st.boxes β V'.w.heap.size))) (cD T true sh (s::r) (some m) d ety β st V' K))
     | _,_,_,_=>False
    | .bz=>match qH st.boxes (s::r) with
     | []=>∀V':View,V.Le V'->mT (s::r) (fun _=>0) fun β=>iS st.boxes β V' (s::r)
      (ab P f (aU β xs) (V'.bz ((s::r).map (dW st.boxes β V'.w.heap.size))) fun r' fr=>sh.ex fun x=>r'=x.den (fun _=>0)/\eM T Option.none β fr (s::r) st fun st'=>K (st'.put dst x) fr.shut)
     | [m]=>match dst,kT st.boxes m with
      | some d,some ety=>match kC st (some m) d with
       | false=>False
       | true=>∀V':View,V.Le V'->mT (s::r) (fun _=>0) fun β=>iS st.boxes β V' (s::r)
        (ab P f (aU β xs) (V'.bz ((s::r).map (dW st.boxes β V'.w.heap.size))) (cD T false sh (s::r) (some m) d ety β st V' K))
      | _,_=>False
     | _=>False
    | .rel=>match (s::r).all fun t=>Nat.blt t 100000 with
     | false=>False
     | true=>∀V':View,V.Le V'->mT (s::r) (fun _=>0) fun β=>zf st.boxes β V' (s::r)
      (ab P f (aU β xs) V' fun r' fr=>sh.ex fun x=>r'=x.den (fun _=>0)/\∀J:C->Value,K ((st.rel (s::r) β J).put dst x) fr)
def mH (bx:Nat->Option aR):List SV->Option (List Value×Nat×List SV)
 | []=>none
 | x::r=>match x with
  | .c (.jX s n c)=>match bx s with
   | some ⟨.aW vs,_⟩=>some (vs,c,.c (.v (.slice none n c))::r)
   | _=>none
  | x=>match mH bx r with
   | some (vs,c,r')=>some (vs,c,x::r')
   | none=>none
def kJ (P:Program)(T:dA)(m:CM)(f:FuncId)(xs:List SV)(ty:TypeId)(dst:Option Nat)(st:St)(V:View)(K:St->View->Prop):Prop:=
 match m with
 | .bz=>match mH st.boxes xs with
  | some (vs,c,xs')=>(vs=[]->c=0/\fQ P T .bz f xs' ty dst st V K)/\(vs≠[]->fQ P T .bz f xs ty dst st V K)
  | none=>fQ P T .bz f xs ty dst st V K
 | m=>fQ P T m f xs ty dst st V K
def vN (ss:List Nat):List SV:=ss.map fun s=>.c (.ptr s 0)
inductive Hint where
 | free|own (l:List Nat)
def iN (op:Op):List Operand:=
 match op with
 | .load _ a=>[a]
 | .store _ a _=>[a]
 | .call ⟨.value f,args,_⟩=>args.toList++[f]
 | .call ⟨.builtin .append,args,_⟩=>args.toList
 | _=>[]
def eY (bx:Nat->Option aR)(op:Op)(l:List Nat):List Nat:=
 match op with
 | .call _=>reach bx 3 (dedup l)
 | _=>l
def Gp (P:Program)(t:TypeId)(name:String):Option FuncId:=
 match P.info? t,P.underlying t with
 | some i,some d=>match i.methods.find? (fun m=>m.name==name) with
  | some m=>match m.path.toList,m.func,d with
   | [],some (f,false),.struct _=>some f
   | _,_,_=>none
  | none=>none
 | _,_=>none
def di (P:Program)(T:dA)(m:CM)(o:Oper)(st:St)(V:View)(K:St->View->Prop):Prop:=
 match o.op with
 | .call ⟨.value Mx,args,_⟩=>match bZ st.aZ args.toList with
  | some xs=>match st.aZ Mx with
   | some (.c (.yT f ss))=>kJ P T m f (xs++vN ss) o.type o.dst st V K
   | _=>False
  | none=>False
 | .call ⟨.invoke recv name,args,_⟩=>match bZ st.aZ args.toList with
  | some xs=>match st.aZ recv with
   | some (.c (.w (.iface t v)))=>match Gp P t name with
    | some f=>kJ P T m f (.c (.w v)::xs) o.type o.dst st V K
    | none=>False
   | _=>False
  | none=>False
 | op=>uf (aJ T st.aZ st.boxes op) o.dst st V K
def cW (P:Program)(T:dA)(m:CM)(h:Hint)(o:Oper)(st:St)(V:View)(K:St->View->Prop):Prop:=
 match h with
 | .free=>di P T m o st V K
 | .own l=>match bZ st.aZ (iN o.op) with
  | some xs=>match L1 (eY st.boxes o.op (xs.flatMap SV.ids)) l with
   | true=>di P T m o st V K
   | false=>False
  | none=>False
def jM:SV:=.pU []
def rk (P:Program)(T:dA)(m:CM)(h:Hint)(ops:Array Oper)(o:Oper)(st:St)(V:View)(K:St->View->Prop):Prop:=
 match o.guard with
 | none=>cW P T m h o st V K
 | some (j,b)=>match (ops[j]?).bind (·.dst) with
  | none=>False
  | some g=>match st.aw g with
   | some (.c .tt)=>match b with
    | true=>cW P T m h o st V K
    | false=>K (st.put o.dst jM) V
   | some (.c .ff)=>match b with
    | true=>K (st.put o.dst jM) V
    | false=>cW P T m h o st V K
   | some (.c (.v (.bool c)))=>match b with
    | true=>(c=true->cW P T m h o (st.put (some g) (.c .tt)) V K)/\(c=false->K ((st.put (some g) (.c .ff)).put o.dst jM) V)
    | false=>(c=true->K ((st.put (some g) (.c .tt)).put o.dst jM) V)/\(c=false->cW P T m h o (st.put (some g) (.c .ff)) V K)
   | some (.pU _)=>K (st.put o.dst jM) V
   | _=>False
inductive UN where
 | pure|load|store|alloc|call|lj|odd|iQ|app|give
def bf (LF RF:List Nat):Op->UN
 | .move _|.assign _|.pick ..| .build ..| .nilCheck _|.binOp ..| .unOp ..| .convert ..| .makeFunc ..| .slice ..| .fieldAddr ..| .field ..| .indexAddr ..| .extract ..| .index ..| .makeInterface ..=>.pure
 | .load ..=>.load
 | .store ..=>.store
 | .alloc _|.box ..| .buildSlice ..| .makeSlice ..=>.alloc
 | .call ⟨.builtin .len,_,_⟩|.call ⟨.builtin .cap,_,_⟩=>.pure
 | .call ⟨.builtin .append,_,_⟩=>.app
 | .call ⟨.value (.func f),_,_⟩=>match fj f LF with
  | true=>match fj (f+1000000) LF with
   | true=>.give
   | false=>.lj
  | false=>match fj f RF with
   | true=>.odd
   | false=>match fj (f+1000000) RF with
    | true=>.iQ
    | false=>.call
 | .call ⟨.value _,_,_⟩=>.lj
 | .call ⟨.invoke _ _,_,_⟩=>.call
 | _=>.odd
def iO (op:Op):List Nat:=op.operands.toList.filterMap fun|.tmp t=>some t|_=>none
def ee (ops:Array Oper)(o:Oper):List Nat:=
 match o.guard with
 | none=>[]
 | some (j,_)=>match (ops[j]?).bind (·.dst) with
  | some g=>[g]
  | none=>[]
def eK (o:Oper):List Nat:=match o.dst with|some d=>[d]|none=>[]
def qO (c:UN)(h:Hint)(d:List Nat):Option (List Nat×List Nat):=
 match c,h with
 | .pure,.free=>some ([],[])
 | .call,.free=>some ([],[])
 | .alloc,.free=>some (d,d)
 | .load,.own l=>some (l,[])
 | .store,.own l=>some (l,l)
 | .lj,.own l=>some (l,l++d++d.map (·+ 200000))
 | .app,.own l=>some (l,l++d++d.map (·+ 200000))
 | .give,.own l=>some (l,l++d++d.map (·+ 200000))
 | _,_=>none
def nH:UN->Bool
 | .pure|.load|.store|.alloc=>true
 | _=>false
def indep (LF RF:List Nat)(ops:Array Oper)(h1 h2:Hint)(o1 o2:Oper):Bool:=
 nH (bf LF RF o1.op) &&
 vS (eK o1) (iO o2.op++ee ops o2++eK o2)&&vS (eK o2) (iO o1.op++ee ops o1) &&
 vS (ee ops o1) (iO o2.op)&&vS (ee ops o2) (iO o1.op) &&
 match qO (bf LF RF o1.op) h1 (eK o1),qO (bf LF RF o2.op) h2 (eK o2) with
 | some (r1,w1),some (r2,w2)=>vS w1 r2&&vS w2 r1&&vS w1 w2
 | _,_=>false
def R0 (ops:List Oper)(t:Nat):Option Oper:=ops.find? fun o=>match o.dst with|some d=>Nat.beq d t|none=>false
def xj (st:St)(ops:List Oper):Nat->Operand->List Nat
 | 0,_=>[]
 | n+1,.tmp t=>match R0 ops t with
  | some o=>match o.op with
   | .alloc _|.box ..| .buildSlice ..| .makeSlice ..=>[t]
   | .call _=>[t,t+200000]
   | .assign x=>xj st ops n x++match st.aw t with
    | some x=>x.ids
    | none=>[]
   | .load _ a=>(xj st ops n a).flatMap (lP st.boxes)
   | op=>op.operands.toList.flatMap (xj st ops n)
  | none=>match st.aw t with
   | some x=>x.ids
   | none=>[]
 | _,_=>[]
def Ku (LF RF:List Nat)(st:St)(ops:List Oper)(o:Oper):Hint:=
 match bf LF RF o.op with
 | .load|.store=>.own (dedup ((iN o.op).flatMap (xj st ops 10)))
 | .lj|.app|.give=>.own (reach st.boxes 3 (dedup ((iN o.op).flatMap (xj st ops 10))))
 | _=>.free
def Io (ops:List Oper):List Nat:=
 ops.foldl (fun acc o=>acc++[o.after.toList.foldl (fun s e=>cond (Region.binds .any e) (Nat.lor (Nat.lor (Nat.shiftLeft 1 e.on) (acc.getD e.on 0)) s) s) 0]) []
def Pv (m i:Nat):Bool:=Nat.beq (Nat.land (Nat.shiftRight m i) 1) 1
def Nm (LF RF:List Nat)(o:Oper):Bool:=match bf LF RF o.op with|.call|.lj|.odd|.iQ|.app|.give=>true|_=>false
def GL (ops:Array Oper)(done:List Nat)(i:Nat):Bool:=
 match ops[i]? with
 | some o=>!(fj i done)&&o.after.toList.all fun e=>!(Region.binds .any e)||fj e.on done
 | none=>false
def Cy (LF RF:List Nat)(ops:Array Oper):Nat->List Nat->List Nat
 | 0,_=>[]
 | n+1,done=>
  let rs:=(List.range ops.size).filter (GL ops done)
  match rs.find? (fun i=>match ops[i]? with|some o=>!(Nm LF RF o)|none=>false) with
  | some i=>i::Cy LF RF ops n (i::done)
  | none=>match rs with
   | i::_=>i::Cy LF RF ops n (i::done)
   | []=>[]
def pD (LF RF:List Nat)(ops:Array Oper):List Nat:=Cy LF RF ops ops.size []
def uW (LF RF:List Nat)(ops:Array Oper)(hs:List Hint)(an:List Nat):List Nat->Bool
 | []=>true
 | i::r=>(r.all fun j=>Pv (an.getD j 0) i||match ops[i]?,ops[j]? with|some a,some b=>indep LF RF ops (hs.getD i .free) (hs.getD j .free) a b|_,_=>false)&&uW LF RF ops hs an r
def qK (ops:Array Oper):List Nat->List Nat->Bool
 | _,[]=>true
 | done,i::r=>GL ops done i&&qK ops (i::done) r
def HY (LF RF:List Nat)(ops:Array Oper)(hs:List Hint)(l:List Nat):Bool:=
 Nat.beq l.length ops.size&&((List.range ops.size).all fun i=>fj i l)&&qK ops [] l&&uW LF RF ops hs (Io ops.toList) l
def Mf (P:Program)(T:dA)(m:Nat->CM)(hint:Nat->Hint)(ops:Array Oper):List Nat->St->View->(St->View->Prop)->Prop
 | [],st,V,K=>K st V
 | i::r,st,V,K=>match ops[i]? with
  | some o=>rk P T (m i) (hint i) ops o st V fun st' V'=>Mf P T m hint ops r st' V' K
  | none=>False
def kB (LF RF:List Nat)(ops:Array Oper)(i:Nat):CM:=
 match ops[i]? with
 | some o=>match bf LF RF o.op with
  | .lj=>.bz
  | .odd=>.rel
  | .iQ=>.iQ
  | .give=>.give
  | _=>.none
 | Option.none=>.none
def S7 (LF RF:List Nat)(ops:Array Oper)(i:Nat):CM:=
 match ops[i]? with
 | some o=>match bf LF RF o.op with
  | .lj=>.bz
  | .iQ=>.iQ
  | .give=>.give
  | _=>.rel
 | Option.none=>.none
structure Tm where
 τ:Type
 gh:Bool:=false
 WX:List Nat
 SK:List Nat
 aw:τ->List (Nat×SV)
 boxes:τ->List (Nat×aR)
structure Ph where
 τ:Type
 aw:τ->List (Nat×SV)
 boxes:τ->List (Nat×aR)
def HM {α:Type}(f:Nat->Option α):List Nat->List (Nat×α)
 | []=>[]
 | t::r=>match f t with
  | some x=>(t,x)::HM f r
  | none=>HM f r
def Tm.at (A:Tm)(st:St):Ph:=⟨A.τ,fun x=>HM st.aw A.WX++A.aw x,fun x=>HM st.boxes A.SK++A.boxes x⟩
def pk (ρ:List (Nat×Nat))(s s':Nat):Bool:=
 match aA ρ s' with
 | some t=>Nat.beq s t
 | none=>Nat.beq s s'
def AF (ρ:List (Nat×Nat)):List Nat->List Nat->Bool
 | [],[]=>true
 | s::r,s'::r'=>pk ρ s s'&&AF ρ r r'
 | _,_=>false
def Um (ρ:List (Nat×Nat)):C->C->List Prop
 | .v (.int k a),.v (.int k' b)=>cond (wu k k') [a=b] [False]
 | .v (.bool a),.v (.bool b)=>[a=b]
 | .tt,.v (.bool b)=>[true=b]
 | .ff,.v (.bool b)=>[false=b]
 | .v (.slice a n c),.v (.slice a' n' c')=>[a=a',n=n',c=c']
 | .v (.slice a n c),.jX _ n' c'=>[a=none,n=n',c=c',c=0]
 | .v (.pointer p),.v (.pointer q)=>[p=q]
 | .v x,.v y=>[x=y]
 | .w x,.w y=>[x=y]
 | .w x,.v y=>[x=y]
 | .v x,.w y=>[x=y]
 | .tt,.tt=>[]
 | .ff,.ff=>[]
 | .ptr s o,.ptr s' o'=>cond (pk ρ s s') [o=o'] [False]
 | .mY s o n c,.mY s' o' n' c'=>cond (pk ρ s s') [o=o',n=n',c=c'] [False]
 | .mY s o n c,.jX s' n' c'=>cond (pk ρ s s') [o=0,n=n',c=c',c≠0] [False]
 | .jX s n c,.jX s' n' c'=>cond (pk ρ s s') [n=n',c=c'] [False]
 | .yT f ss,.yT g ts=>cond (AF ρ ss ts) [f=g] [False]
 | _,_=>[False]
def F3 (ρ:List (Nat×Nat)):List C->List C->List Prop
 | [],[]=>[]
 | a::r,b::s=>Um ρ a b++F3 ρ r s
 | _,_=>[False]
def PF (ρ:List (Nat×Nat)):SV->SV->List Prop
 | .c a,.c b=>Um ρ a b
 | .agg l,.agg m=>F3 ρ l m
 | _,_=>[False]
def SV.plain:SV->Bool
 | .pU _=>false
 | _=>true
def Kf (ρ:List (Nat×Nat))(a b:aR):List Prop:=
 match a.cs,b.cs with
 | .lit l,.lit m=>cond (Nat.beq a.ty b.ty) (F3 ρ l m) [False]
 | .row l,.row m=>cond (Nat.beq a.ty b.ty) [l=m] [False]
 | .aW l,.aW m=>cond (Nat.beq a.ty b.ty) [l=m] [False]
 | .row l,.aW m=>cond (Nat.beq a.ty b.ty) [l=m] [False]
 | .lit l,.aW m=>match lF l with
  | some ws=>cond (Nat.beq a.ty b.ty) [ws=m] [False]
  | none=>[False]
 | _,_=>[False]
def TF:C->C->List (Nat×Nat)
 | .ptr s _,.ptr s' _=>[(s',s)]
 | .mY s _ _ _,.mY s' _ _ _=>[(s',s)]
 | .mY s _ _ _,.jX s' _ _=>[(s',s)]
 | .jX s _ _,.jX s' _ _=>[(s',s)]
 | .yT _ ss,.yT _ ts=>ts.zip ss
 | _,_=>[]
def LO:List C->List C->List (Nat×Nat)
 | a::r,b::s=>TF a b++LO r s
 | _,_=>[]
def TG:SV->SV->List (Nat×Nat)
 | .c a,.c b=>TF a b
 | .agg l,.agg m=>LO l m
 | _,_=>[]
def Qy (st:St):List (Nat×SV)->List (Nat×Nat)
 | []=>[]
 | (t,x)::r=>match st.aw t with
  | some y=>TG y x++Qy st r
  | none=>Qy st r
def Jk (st:St)(ρ:List (Nat×Nat)):List (Nat×aR)->List (Nat×Nat)
 | []=>[]
 | (t,x)::r=>match aA ρ t with
  | some s=>match st.boxes s with
   | some y=>(match y.cs,x.cs with|.lit l,.lit m=>LO l m|_,_=>[])++Jk st ρ r
   | none=>Jk st ρ r
  | none=>Jk st ρ r
def LN (st:St)(ss:List (Nat×SV))(bs:List (Nat×aR)):List (Nat×Nat):=
 let ρ1:=Qy st ss
 let ρ2:=ρ1++Jk st ρ1 bs
 let ρ3:=ρ2++Jk st ρ2 bs
 ρ3++Jk st ρ3 bs
def Cv (ρ:List (Nat×Nat))(t:Nat):Nat:=
 match aA ρ t with
 | some s=>s
 | none=>t
def Bg (ρ:List (Nat×Nat)):List Nat->Bool
 | []=>true
 | t::r=>(Nat.blt t 100000==Nat.blt (Cv ρ t) 100000)&&(Nat.blt t 100000||Nat.ble 200000 t||Nat.beq (Cv ρ t) t)&&(r.all fun u=>!(Nat.beq (Cv ρ t) (Cv ρ u)))&&Bg ρ r
def nJ (ρ:List (Nat×Nat)):List (Nat×aR)->List Nat
 | []=>[]
 | (t,x)::r=>match x.cs with
  | .aW _=>match aA ρ t with
   | some _=>t::nJ ρ r
   | none=>nJ ρ r
  | _=>t::nJ ρ r
def M8 (ρ:List (Nat×Nat))(st:St):List (Nat×SV)->List Prop
 | []=>[]
 | (t,x)::r=>match st.aw t with
  | some y=>PF ρ y x++M8 ρ st r
  | none=>[False]
def IP (ρ:List (Nat×Nat))(st:St):List (Nat×aR)->List Prop
 | []=>[]
 | (t,x)::r=>match x.cs,aA ρ t with
  | .aW l,none=>(l=[])::IP ρ st r
  | _,_=>match st.boxes (Cv ρ t) with
   | some y=>Kf ρ y x++IP ρ st r
   | none=>[False]
def RZ (ρ:List (Nat×Nat))(bs:List (Nat×aR)):List Prop:=cond (Bg ρ (nJ ρ bs)) [] [False]
def nS (ss:List (Nat×SV))(bs:List (Nat×aR)):Bool:=
 let l:=bs.map (·.1)
 (ss.all fun x=>x.2.ids.all fun s=>fj s l)&&(bs.all fun x=>x.2.cs.ids.all fun s=>fj s l)
def Ph.st (A:Ph)(x:A.τ):St:=⟨aA (A.aw x),aA (A.boxes x)⟩
def Pr:List Prop->Prop
 | []=>True
 | [p]=>p
 | p::r=>p/\Pr r
def Ph.fits (A:Ph)(st:St)(x:A.τ)(k:Prop):Prop:=
 let ρ:=LN st (A.aw x) (A.boxes x)
 Pr (M8 ρ st (A.aw x)++IP ρ st (A.boxes x)++RZ ρ (A.boxes x))/\k
def keyOf:Code->Nat
 | .region id _ _=>id
 | .seq a _=>keyOf a
 | .cond _ a b=>match keyOf a with
  | 1000000=>keyOf b
  | n=>n
 | .block _ a=>keyOf a
 | .loop a=>keyOf a
 | .scope a=>keyOf a
 | _=>1000000
abbrev Dc:=List (Nat×Tm)
def pZ:Dc->Nat->Option Tm
 | [],_=>none
 | (s,x)::r,t=>cond (Nat.beq t s) (some x) (pZ r t)
def O1 (RF:List Nat)(id:Nat):List Nat:=RF.filterMap fun x=>cond (Nat.beq (x / 100000) (100+id)) (some (x%100000)) none
def Ig (l:List Nat)(st:St)(V:View)(K:St->View->Prop):Prop:=
 match l with
 | []=>K st V
 | s::r=>match im st.boxes (s::r)&&(s::r).all fun t=>Nat.blt t 100000 with
  | false=>False
  | true=>∀V':View,V.Le V'->mT (s::r) (fun _=>0) fun β=>zf st.boxes β V' (s::r) (∀J:C->Value,K (st.rel (s::r) β J) V')
def EV (P:Program)(T:dA)(LF RF:List Nat)(ops:Array Oper)(draw:Bool)(st:St)(V:View)(K:St->View->Prop):Prop:=
 match draw with
 | false=>Mf P T (S7 LF RF ops) (fun _=>.free) ops (List.range ops.size) st V K
 | true=>let hs:=ops.toList.map (Ku LF RF st ops.toList)
  match HY LF RF ops hs (pD LF RF ops) with
  | true=>Mf P T (kB LF RF ops) (fun i=>hs.getD i .free) ops (pD LF RF ops) st V K
  | false=>False
def vc (P:Program)(T:dA)(LF RF:List Nat)(L J:Dc):Code->St->View->(Exit->St->View->Prop)->Prop
 | .skip,st,V,K=>K .normal st V
 | .region id ops draw,st,V,K=>match pZ J (600000+id) with
  | none=>Ig (O1 RF id) st V fun st' V'=>EV P T LF RF ops draw st' V' (K .normal)
  | some A=>∃I:A.τ->View->Prop,Ig (O1 RF id) st V (fun st' V'=>EV P T LF RF ops draw st' V' fun QJ fr=>∃x,(A.at st).fits QJ x (I x fr)) /\
   ∀x V',V.Le V'->I x V'->(nS ((A.at st).aw x) ((A.at st).boxes x)=true/\K .normal ((A.at st).st x) V')
 | .seq a b,st,V,K=>vc P T LF RF L J a st V fun e st' V'=>match e with
  | .normal=>vc P T LF RF L J b st' V' K
  | e=>K e st' V'
 | .cond c a b,st,V,K=>match pZ J (keyOf (.cond c a b)) with
  | none=>match st.aZ c with
   | some (.c .tt)=>vc P T LF RF L J a st V K
   | some (.c .ff)=>vc P T LF RF L J b st V K
   | some (.c (.v (.bool t)))=>(t=true->vc P T LF RF L J a st V K)/\(t=false->vc P T LF RF L J b st V K)
   | _=>False
  | some A=>match st.aZ c with
   | some (.c .tt)=>vc P T LF RF L J a st V K
   | some (.c .ff)=>vc P T LF RF L J b st V K
   | some (.c (.v (.bool t)))=>∃I:A.τ->View->Prop,
    ((t=true->vc P T LF RF L J a st V fun e st' V'=>match e with
     | .normal=>∃x,(A.at st).fits st' x (I x V')
     | e=>K e st' V') /\
      (t=false->vc P T LF RF L J b st V fun e st' V'=>match e with
     | .normal=>∃x,(A.at st).fits st' x (I x V')
     | e=>K e st' V')) /\
    ∀x V',V.Le V'->I x V'->(nS ((A.at st).aw x) ((A.at st).boxes x)=true/\K .normal ((A.at st).st x) V')
   | _=>False
 | .block id a,st,V,K=>match pZ J (500000+id) with
  | none=>vc P T LF RF L J a st V fun e st' V'=>match e with
   | .exit i=>cond (Nat.beq i id) (K .normal st' V') (K (.exit i) st' V')
   | e=>K e st' V'
  | some A=>∃I:A.τ->View->Prop,vc P T LF RF L J a st V (fun e st' V'=>match e with
   | .exit i=>cond (Nat.beq i id) (∃x,(A.at st).fits st' x (I x V')) (K (.exit i) st' V')
   | .normal=>∃x,(A.at st).fits st' x (I x V')
   | e=>K e st' V')/\∀x V',V.Le V'->I x V'->(nS ((A.at st).aw x) ((A.at st).boxes x)=true/\K .normal ((A.at st).st x) V')
 | .loop a,st,V,K=>match pZ L (keyOf a) with
  | none=>False
  | some A=>match A.gh with
   | false=>∃(I:A.τ->View->Prop)(m:A.τ->Nat),(∃x,(A.at st).fits st x (I x V))/\∀x V',V.Le V'->I x V'->(nS ((A.at st).aw x) ((A.at st).boxes x)=true /\
    vc P T LF RF L J a ((A.at st).st x) V' fun e st' fr=>match e with
     | .normal=>∃y,m y<m x/\(A.at st).fits st' y (I y fr)
     | e=>K e st' fr)
   | true=>∃I:A.τ->Nat->View->Prop,(∃x k,(A.at st).fits st x (I x k V))/\∀x k V',V.Le V'->I x k V'->(nS ((A.at st).aw x) ((A.at st).boxes x)=true /\
    vc P T LF RF L J a ((A.at st).st x) V' fun e st' fr=>match e with
     | .normal=>∃y k',k'<k/\(A.at st).fits st' y (I y k' fr)
     | e=>K e st' fr)
 | .exit id,st,V,K=>K (.exit id) st V
 | .ret,st,V,K=>K .ret st V
 | .scope a,st,V,K=>vc P T LF RF L J a st V fun e st' V'=>match e with
  | .goto _=>False
  | e=>K e st' V'
 | .label _,st,V,K=>K .normal st V
 | _,_,_,_=>False
def mE (T:dA)(st:St):List ResultVar->Option (List SV)
 | []=>some []
 | .tmp t::r=>match st.aw t,mE T st r with
  | some x,some l=>some (x::l)
  | _,_=>none
 | .cell a t::r=>match st.aw a,aA T t,mE T st r with
  | some (.c (.ptr s o)),some i,some l=>match jI st.boxes i (.c (.ptr s o)) with
   | .ret _ x=>some (x::l)
   | _=>none
  | _,_,_=>none
def minus (l m:List Nat):List Nat:=l.filter fun x=>!(fj x m)
def JU (bx:Nat->Option aR)(β:Nat->Nat)(V:View):List Nat->Prop->Prop
 | [],k=>k
 | s::r,k=>match bx s with
  | some ⟨.aW _,_⟩=>False
  | some b=>V.w.heap[β s]?=some (b.obj β)->JU bx β V r k
  | none=>False
def jV:List (Nat×aR)->List Nat
 | []=>[]
 | (s,b)::r=>match b.cs with
  | .aW _=>jV r
  | _=>s::jV r
def K5 (bs:List (Nat×aR))(β0:Nat->Nat)(b:Nat)(k:Prop):Prop:=
 match bs with
 | []=>k
 | (m,x)::r=>match x.cs with
  | .aW vs=>(vs≠[]/\b=β0 m)\/K5 r β0 b k
  | _=>K5 r β0 b k
def mD (β:Nat->Nat):List SV->Value
 | [x]=>x.den β
 | l=>.tuple (l.map (SV.den β)).toArray
def tP (T:dA)(bx:Nat->Option aR)(s:Nat):Bool:=
 cond (Nat.ble 100000 s) true (match bx s with|some ⟨.row _,ty⟩|some ⟨.aW _,ty⟩=>Nat.ble 2 (T.filter fun x=>Nat.beq x.1 ty).length|_=>false)
def H2 (T:dA)(rs:List ResultVar)(bs:List (Nat×aR))(β0:Nat->Nat)(n0:Nat)(R:Value->View->Prop)(st:St)(V:View):Prop:=
 match mE T st rs with
 | none=>False
 | some xs=>let F:=jV bs
  let L:=reach st.boxes 3 (dedup (xs.flatMap SV.ids++F))
  match im st.boxes L with
  | false=>False
  | true=>match (minus L F).filter (tP T st.boxes) with
   | []=>∀V':View,V.Le V'->mT (minus L F) β0 fun β=>JU st.boxes β V' F (zf st.boxes β V' (minus L F) (R (mD β xs) V'))
   | [s]=>match st.boxes s with
    | some b=>∀V':View,mT (minus L F) β0 fun β=>V.Le (V'.ke (VN b) (β s))->JU st.boxes β V' F (qB (JC b) (V'.w.heap[β s]?=some (b.obj β)) ->
      qB (JC b) (n0<=β s\/K5 bs β0 (β s) False)->zf st.boxes β V' ((minus L F).filter (!Nat.beq s ·)) (R (mD β xs) V'))
    | none=>False
   | _=>False
def Yb (P:Program)(T:dA)(LF RF:List Nat)(L J:Dc)(code:Code)(rs:List ResultVar)(ss:List (Nat×SV))(bs:List (Nat×aR))(β0:Nat->Nat)(V:View)(R:Value->View->Prop):Prop:=
 vc P T LF RF L J code ⟨aA ss,aA bs⟩ V fun e st V'=>match e with
  | .normal=>H2 T rs bs β0 V.w.heap.size R st V'
  | .ret=>H2 T rs bs β0 V.w.heap.size R st V'
  | _=>False
def iJ (n:Nat):Code->Bool
 | .region _ ops _=>ops.toList.all fun o=>match o.dst with|some d=>Nat.blt d n|none=>true
 | .seq a b=>iJ n a&&iJ n b
 | .cond _ a b=>iJ n a&&iJ n b
 | .block _ a=>iJ n a
 | .loop a=>iJ n a
 | .scope a=>iJ n a
 | _=>true
def oB:Nat->List (Nat×SV)->Bool
 | _,[]=>true
 | i,(j,x)::r=>Nat.beq i j&&x.plain&&oB (i+1) r
def CE (P:Program)(T:dA)(LF RF:List Nat)(L J:Dc)(fn:Func)(ss:List (Nat×SV))(bs:List (Nat×aR))(β0:Nat->Nat)(V:View)(R:Value->View->Prop):Prop:=
 match fn.body with
 | some code=>match iJ fn.ntmps code&&oB 0 ss&&Nat.ble ss.length fn.ntmps&&Nat.ble fn.ntmps 100000&&(bs.all fun b=>Nat.ble 100000 b.1&&Nat.blt b.1 200000)&&nS ss bs with
  | true=>Yb P T LF RF L J code fn.results.toList ss bs β0 V R
  | false=>False
 | none=>False
theorem View.Le.refl (V:View):V.Le V:=fun _ _ h=>h
theorem View.Le.trans {V V' fr:View}(h:V.Le V')(k:V'.Le fr):V.Le fr:=fun b o x=>k b o (h b o x)
theorem View.Le.at {V V':View}(h:V.Le V'){p:Addr}{v:Value}(k:V.at p v):V'.at p v:=by
 obtain ⟨b,a⟩:=k
 unfold World.cell? at a
 split at a
 ·rename_i c
  obtain ⟨d,e⟩:=h p.block _ ⟨b,c⟩
  refine ⟨d,?_⟩
  unfold World.cell?
  rw [e]
  exact a
 ·cases a
theorem fq.refl (X:Nat->Prop)(w:World):fq X w w:=⟨Nat.le_refl _,fun _ _ _=>rfl,rfl,rfl,rfl⟩
theorem fq.trans {X:Nat->Prop}{a b c:World}(h:fq X a b)(k:fq X b c):fq X a c:=
 ⟨Nat.le_trans h.size k.size,fun i d e=>(k.bI i (Nat.lt_of_lt_of_le d h.size) e).trans (h.bI i d e),k.os.trans h.os,k.tape.trans h.tape,k.out.trans h.out⟩
theorem fq.mono {X Y:Nat->Prop}{a b:World}(h:fq X a b)(hxy:∀i,X i->Y i):fq Y a b:=
 ⟨h.size,fun i c d=>h.bI i c fun e=>d (hxy i e),h.os,h.tape,h.out⟩
theorem View.SZ (V:View)(w':World)(hx:fq V.X V.w w'):V.Le (V.to w' hx.size):=by
 rintro b o ⟨d,a⟩
 refine ⟨d,?_⟩
 have c:b<V.w.heap.size:=by
  rcases Nat.lt_or_ge b V.w.heap.size with h|h
  ·exact h
  ·rw [Array.getElem?_eq_none h] at a;cases a
 show w'.heap[b]?=some o
 rw [hx.bI b c fun hX=>d (V.hX b hX)]
 exact a
theorem ab.mono {P:Program}{f:FuncId}{args:Array Value}{V:View}{R R':Value->View->Prop}(h:ab P f args V R)
  (hR:∀r V',V.Le V'->R r V'->R' r V'):ab P f args V R':=
 ⟨h.1,h.2.mono fun _ b ⟨r,he,a,c⟩=>⟨r,he,a,hR r _ (V.SZ b a) c⟩⟩
structure Fw where
 ids:List Nat
 B:Nat->Prop
section
variable (n:Nat) (V0:View) (bH:Fw) (β0:Nat->Nat)
structure Mod (st:St) (β:Nat->Nat) (a:Act) (w:World) (V:View):Prop where
 defers:a.defers=[]
 size:a.tmps.size=n
 aw:∀t x,st.aw t=some x->a.tmps.getD t undef=x.den β
 Ab:∀t x,st.aw t=some x->∀s∈x.ids,∃b,st.boxes s=some b
 Aa:∀s b,st.boxes s=some b->∀s'∈b.cs.ids,∃b',st.boxes s'=some b'
 boxes:∀s b,st.boxes s=some b->b.live->w.heap[β s]?=some (b.obj β)
 inj:∀s s' b b',st.boxes s=some b->b.live->st.boxes s'=some b'->b'.live->β s=β s'->s=s'
 pV:∀b o,V.bI b o->w.heap[b]?=some o/\¬V0.H b
 uP:∀s b,st.boxes s=some b->b.live->∀o,¬V.bI (β s) o
 ext:fq V0.X V0.w w
 own:∀s b,st.boxes s=some b->b.live->V0.w.heap.size<=β s\/(100000<=s/\bH.B (β s))
 mU:∀s∈bH.ids,(100000<=s/\s<200000)/\β s=β0 s
 kS:∀b,bH.B b->V0.X b
 small:n<=100000
end
theorem df {cs:List C}{ty:TypeId}:aR.live ⟨.lit cs,ty⟩:=fun _ h=>nomatch h
theorem cz {vs:List Value}{ty:TypeId}:aR.live ⟨.row vs,ty⟩:=fun _ h=>nomatch h
theorem fY {vs:List Value}{ty:TypeId}(h:vs≠[]):aR.live ⟨.aW vs,ty⟩:=fun _ e=>by cases e;exact h
theorem gO {ty:TypeId}:¬aR.live ⟨.aW [],ty⟩:=fun h=>h [] rfl rfl
theorem fM {b:aR}{k:Prop}:qB (JC b) k↔(b.live->k):=by
 obtain ⟨cs,ty⟩:=b
 cases cs with
 | lit cs=>exact ⟨fun h _=>h,fun h=>h df⟩
 | row cs=>exact ⟨fun h _=>h,fun h=>h cz⟩
 | aW vs=>exact ⟨fun h l=>h (l vs rfl),fun h l=>h (fY l)⟩
theorem tH {l m:List Prop}{k:Prop}:qB (l++m) k↔qB l (qB m k):=by
 induction l with
 | nil=>exact Iff.rfl
 | cons p r ih=>exact ⟨fun h a=>ih.1 (h a),fun h a=>ih.2 (h a)⟩
theorem M_ {b:aR}:VN b↔b.live:=by
 obtain ⟨cs,ty⟩:=b
 cases cs with
 | lit cs=>exact ⟨fun _=>df,fun _=>trivial⟩
 | row cs=>exact ⟨fun _=>cz,fun _=>trivial⟩
 | aW vs=>exact ⟨fun h=>fY h,fun l=>l vs rfl⟩
theorem C.bR {β β':Nat->Nat}{c:C}(h:∀s∈c.ids,β s=β' s):c.den β=c.den β':=by
 cases c with
 | v x=>rfl
 | w x=>rfl
 | tt=>rfl
 | ff=>rfl
 | ptr s o=>simp [C.den,h s (by simp [C.ids])]
 | mY s o n c=>simp [C.den,h s (by simp [C.ids])]
 | jX s n c=>simp [C.den,h s (by simp [C.ids])]
 | yT f ss=>
  have:(ss.map fun s=>Value.pointer (some ⟨β s,0,none⟩))=ss.map fun s=>Value.pointer (some ⟨β' s,0,none⟩):=
   List.map_congr_left fun s a=>by rw [h s (by simpa [C.ids] using a)]
  simp only [C.den,this]
theorem mf {β β':Nat->Nat}{cs:List C}(h:∀s∈cs.flatMap C.ids,β s=β' s):cs.map (C.den β)=cs.map (C.den β'):=
 List.map_congr_left fun c a=>C.bR fun s b=>h s (List.mem_flatMap.2 ⟨c,a,b⟩)
theorem yW {β β':Nat->Nat}{x:Bool×List C}(h:∀s∈x.2.flatMap C.ids,β s=β' s):iW β x=iW β' x:=by
 obtain ⟨b,cs⟩:=x
 cases b with
 | true=>simp only [iW];rw [mf h]
 | false=>
  match cs,h with
  | [],_=>rfl
  | [c],h=>simp only [iW];exact C.bR fun s a=>h s (by simpa using a)
  | _::_::_,_=>rfl
theorem SV.bR {β β':Nat->Nat}{x:SV}(h:∀s∈x.ids,β s=β' s):x.den β=x.den β':=by
 cases x with
 | c x=>exact C.bR h
 | agg cs=>simp only [SV.den];rw [mf h]
 | pU xs=>
  simp only [SV.den]
  congr 2
  exact List.map_congr_left fun x a=>yW fun s b=>h s (List.mem_flatMap.2 ⟨x,a,b⟩)
theorem Cells.bR {β β':Nat->Nat}{x:Cells}(h:∀s∈x.ids,β s=β' s):x.den β=x.den β':=by
 cases x with
 | lit cs=>exact mf h
 | row vs=>rfl
 | aW vs=>rfl
theorem aR.dG {β β':Nat->Nat}{x:aR}(h:∀s∈x.cs.ids,β s=β' s):x.obj β=x.obj β':=by
 simp only [aR.obj];rw [Cells.bR h]
variable {P:Program} {T:dA} {n:Nat} {V0:View} {bH:Fw} {β0:Nat->Nat} {st:St} {β:Nat->Nat} {a:Act} {w:World} {V:View}
theorem Mod.eval (h:Mod n V0 bH β0 st β a w V){x:Operand}{v:SV}(hx:st.aZ x=some v):a.eval x=v.den β:=by
 cases x with
 | tmp t=>exact h.aw t v hx
 | const c=>
  simp only [St.aZ,Option.some.injEq] at hx
  subst hx
  simp only [Act.eval]
  unfold SV.ofConst
  split
  ·rfl
  ·rfl
  ·rename_i cs
   simp only [SV.den]
   congr 1
   have:∀l:List Value,(l.map C.ofConst).map (C.den β)=l:=by
    intro l
    induction l with
    | nil=>rfl
    | cons y r ih=>
     simp only [List.map_cons,ih]
     congr 1
     unfold C.ofConst
     split<;>rfl
   rw [this]
  ·rfl
 | global g=>simp only [St.aZ,Option.some.injEq] at hx;subst hx;rfl
 | func f=>simp only [St.aZ,Option.some.injEq] at hx;subst hx;simp [Act.eval,SV.den,C.den]
theorem Mod.live (h:Mod n V0 bH β0 st β a w V){x:Operand}{v:SV}(hx:st.aZ x=some v):∀s∈v.ids,∃b,st.boxes s=some b:=by
 cases x with
 | tmp t=>exact h.Ab t v hx
 | const c=>
  simp only [St.aZ,Option.some.injEq] at hx
  subst hx
  intro s d
  exfalso
  have e:∀y,(C.ofConst y).ids=[]:=by
   intro y
   unfold C.ofConst
   split<;>rfl
  unfold SV.ofConst at d
  split at d
  ·simp [SV.ids,C.ids] at d
  ·simp [SV.ids,C.ids] at d
  ·obtain ⟨c,i,d⟩:=List.mem_flatMap.1 d
   obtain ⟨y,_,rfl⟩:=List.mem_map.1 i
   rw [e] at d;cases d
  ·simp [SV.ids,C.ids] at d
 | global g=>simp only [St.aZ,Option.some.injEq] at hx;subst hx;intro s d;simp [SV.ids,C.ids] at d
 | func f=>simp only [St.aZ,Option.some.injEq] at hx;subst hx;intro s d;simp [SV.ids,C.ids] at d
theorem beq_eq {a b:Nat}:Nat.beq a b=true↔a=b:=by
 constructor
 ·exact Nat.eq_of_beq_eq_true
 ·intro h;subst h;exact Nat.beq_refl a
theorem dJ (st:St)(d:Nat)(x:SV)(t:Nat):(st.put (some d) x).aw t=if t=d then some x else st.aw t:=by
 simp only [St.put]
 by_cases h:t=d
 ·subst h;simp [Nat.beq_refl]
 ·have:Nat.beq t d=false:=by
   cases hb:Nat.beq t d
   ·rfl
   ·exact absurd (beq_eq.1 hb) h
  simp [this,h]
theorem aj (st:St)(s:Nat)(b:aR)(t:Nat):(st.box s b).boxes t=if t=s then some b else st.boxes t:=by
 simp only [St.box]
 by_cases h:t=s
 ·subst h;simp [Nat.beq_refl]
 ·have:Nat.beq t s=false:=by
   cases hb:Nat.beq t s
   ·rfl
   ·exact absurd (beq_eq.1 hb) h
  simp [this,h]
theorem qp (l:Array Value)(d t:Nat)(v:Value)(hd:d<l.size):(l.setIfInBounds d v).getD t undef=if t=d then v else l.getD t undef:=by
 by_cases h:t=d
 ·subst h;simp [hd]
 ·simp [h,Ne.symm h]
theorem Mod.put (h:Mod n V0 bH β0 st β a w V){d:Nat}{x:SV}{v:Value}(hd:d<n)(hv:v=x.den β)(hl:∀s∈x.ids,∃b,st.boxes s=some b) :
  Mod n V0 bH β0 (st.put (some d) x) β (a.put (some d) v) w V where
 defers:=h.defers
 size:=by simp [Act.put,h.size]
 aw:=by
  intro t y c
  rw [dJ] at c
  show (a.tmps.setIfInBounds d v).getD t undef=_
  rw [qp _ _ _ _ (by rw [h.size];exact hd)]
  split at c
  ·rename_i e;rw [if_pos e];simp only [Option.some.injEq] at c;rw [←c];exact hv
  ·rename_i e;rw [if_neg e];exact h.aw t y c
 Ab:=by
  intro t y c
  rw [dJ] at c
  split at c
  ·simp only [Option.some.injEq] at c;rw [←c];exact hl
  ·exact h.Ab t y c
 Aa:=h.Aa
 boxes:=h.boxes
 inj:=h.inj
 pV:=h.pV
 uP:=h.uP
 ext:=h.ext
 own:=h.own
 mU:=h.mU
 kS:=h.kS
 small:=h.small
theorem Mod.Gx (h:Mod n V0 bH β0 st β a w V){d:Option Nat}{x:SV}{v:Value}(hd:∀k,d=some k->k<n)(hv:v=x.den β)(hl:∀s∈x.ids,∃b,st.boxes s=some b) :
  Mod n V0 bH β0 (st.put d x) β (a.put d v) w V:=by
 cases d with
 | none=>exact h
 | some d=>exact h.put (hd d rfl) hv hl
theorem Mod.drew (h:Mod n V0 bH β0 st β a w V):Mod n V0 bH β0 st β a { w with drawn:=w.drawn+1 } V:=
 ⟨h.defers,h.size,h.aw,h.Ab,h.Aa,h.boxes,h.inj,h.pV,h.uP,⟨h.ext.size,h.ext.bI,h.ext.os,h.ext.tape,h.ext.out⟩,h.own,h.mU,h.kS,h.small⟩
theorem aB {w:World}{b:Nat}{o:Obj}(h:w.heap[b]?=some o):b<w.heap.size:=by
 rcases Nat.lt_or_ge b w.heap.size with a|a
 ·exact a
 ·rw [Array.getElem?_eq_none a] at h;cases h
theorem b_ (w:World)(o:Obj){b:Nat}(h:b<w.heap.size):(w.alloc o).heap[b]?=w.heap[b]?:=by
 show (w.heap.push o)[b]?=_
 rw [Array.getElem?_push,if_neg (by omega)]
theorem heap_alloc_new (w:World)(o:Obj):(w.alloc o).heap[w.heap.size]?=some o:=by
 show (w.heap.push o)[w.heap.size]?=_
 rw [Array.getElem?_push,if_pos rfl]
theorem aQ (β:Nat->Nat)(s b:Nat):eC β s b s=b:=by simp [eC,Nat.beq_refl]
theorem gR (β:Nat->Nat){s t:Nat}(b:Nat)(h:t≠s):eC β s b t=β t:=by
 have:Nat.beq t s=false:=by
  cases hb:Nat.beq t s
  ·rfl
  ·exact absurd (beq_eq.1 hb) h
 simp [eC,this]
theorem Mod.new (h:Mod n V0 bH β0 st β a w V){d:Nat}{b:aR}(hd:d<n)(hn:st.boxes d=none)(hl:∀s∈b.cs.ids,∃b',st.boxes s=some b') :
  Mod n V0 bH β0 (st.box d b) (eC β d w.heap.size) a (w.alloc (b.obj β)) V:=by
 have q:∀s b',st.boxes s=some b'->s≠d:=fun s b' c e=>by rw [e,hn] at c;cases c
 have hβ:∀s b',st.boxes s=some b'->eC β d w.heap.size s=β s:=fun s b' c=>gR _ _ (q s b' c)
 have r:∀s b',st.boxes s=some b'->b'.live->β s<w.heap.size:=fun s b' c l=>aB (h.boxes s b' c l)
 have C:∀b' o,V.bI b' o->b'<w.heap.size:=fun b' o v=>aB (h.pV b' o v).1
 refine ⟨h.defers,h.size,?_,?_,?_,?_,?_,?_,?_,?_,?_,?_,h.kS,?_⟩
 ·intro t x y
  rw [h.aw t x y]
  exact SV.bR fun s c=>by obtain ⟨b',p⟩:=h.Ab t x y s c;exact (hβ s b' p).symm
 ·intro t x y s c
  obtain ⟨b',p⟩:=h.Ab t x y s c
  exact ⟨b',by rw [aj,if_neg (q s b' p)];exact p⟩
 ·intro s b' c g j
  rw [aj] at c
  have:∃f,st.boxes g=some f:=by
   split at c
   ·simp only [Option.some.injEq] at c;rw [←c] at j;exact hl g j
   ·exact h.Aa s b' c g j
  obtain ⟨f,u⟩:=this
  exact ⟨f,by rw [aj,if_neg (q g f u)];exact u⟩
 ·intro s b' c l
  rw [aj] at c
  split at c
  ·rename_i e
   simp only [Option.some.injEq] at c
   rw [e,aQ,heap_alloc_new,←c]
   congr 1
   exact aR.dG fun g j=>by obtain ⟨f,u⟩:=hl g j;exact (hβ g f u).symm
  ·rw [hβ s b' c,b_ _ _ (r s b' c l),h.boxes s b' c l]
   congr 1
   exact aR.dG fun g j=>by obtain ⟨f,u⟩:=h.Aa s b' c g j;exact (hβ g f u).symm
 ·intro s g b1 b2 k D m E he
  rw [aj] at k m
  split at k<;>split at m
  ·rename_i z A;rw [z,A]
  ·rename_i z A;rw [z,aQ,hβ g b2 m] at he;have:=r g b2 m E;omega
  ·rename_i z A;rw [A,aQ,hβ s b1 k] at he;have:=r s b1 k D;omega
  ·rw [hβ s b1 k,hβ g b2 m] at he;exact h.inj s g b1 b2 k D m E he
 ·intro b' o v
  obtain ⟨k,m⟩:=h.pV b' o v
  exact ⟨by rw [b_ _ _ (C b' o v)];exact k,m⟩
 ·intro s b' c l o B
  rw [aj] at c
  split at c
  ·rename_i e;rw [e,aQ] at B;have:=C _ o B;omega
  ·rw [hβ s b' c] at B;exact h.uP s b' c l o B
 ·exact h.ext.trans ⟨by simp,fun i F _=>b_ _ _ F,rfl,rfl,rfl⟩
 ·intro s b' c l
  rw [aj] at c
  split at c
  ·rename_i e;rw [e,aQ];exact .inl h.ext.size
  ·rw [hβ s b' c];exact h.own s b' c l
 ·intro s c
  obtain ⟨k,m⟩:=h.mU s c
  exact ⟨k,by rw [gR _ _ (by have:=h.small;omega)];exact m⟩
 ·exact h.small
theorem Mod.void (h:Mod n V0 bH β0 st β a w V){s:Nat}{ty:TypeId}:Mod n V0 bH β0 (st.box s ⟨.aW [],ty⟩) β a w V:=by
 have hw:∀t b,st.boxes t=some b->∃d,(st.box s ⟨.aW [],ty⟩).boxes t=some d:=by
  intro t b c
  rw [aj]
  split
  ·exact ⟨_,rfl⟩
  ·exact ⟨b,c⟩
 have g:∀t b,(st.box s ⟨.aW [],ty⟩).boxes t=some b->b.live->st.boxes t=some b:=by
  intro t b c l
  rw [aj] at c
  split at c
  ·cases c;exact absurd l gO
  ·exact c
 refine ⟨h.defers,h.size,h.aw,?_,?_,fun t b c l=>h.boxes t b (g t b c l) l,fun t m b1 b2 o j p k=>h.inj t m b1 b2 (g _ _ o j) j (g _ _ p k) k,h.pV,fun t b c l=>h.uP t b (g t b c l) l,h.ext,fun t b c l=>h.own t b (g t b c l) l,h.mU,h.kS,h.small⟩
 ·intro t x q f e
  obtain ⟨b,i⟩:=h.Ab t x q f e
  exact hw f b i
 ·intro t b c f e
  have:∃d,st.boxes f=some d:=by
   rw [aj] at c
   split at c
   ·cases c;cases e
   ·exact h.Aa t b c f e
  obtain ⟨d,r⟩:=this
  exact hw f d r
theorem Mod.ue (h:Mod n V0 bH β0 st β a w V){s:Nat}{b b':aR}(hs:st.boxes s=some b)(lb:b.live)(hl:∀s'∈b'.cs.ids,∃b'',st.boxes s'=some b'')
  {w':World}(hw:w'.heap=w.heap.setIfInBounds (β s) (b'.obj β))(ho:w'.os=w.os)(ht:w'.tape=w.tape)(hout:w'.output=w.output) :
  Mod n V0 bH β0 (st.box s b') β a w' V:=by
 have v:=aB (h.boxes s b hs lb)
 have k:∀i,w'.heap[i]?=if i=β s then some (b'.obj β) else w.heap[i]?:=by
  intro i
  rw [hw,Array.getElem?_setIfInBounds]
  by_cases e:β s=i
  ·rw [if_pos e,if_pos (by omega),if_pos e.symm]
  ·rw [if_neg e,if_neg (Ne.symm e)]
 refine ⟨h.defers,h.size,h.aw,?_,?_,?_,?_,?_,?_,?_,?_,h.mU,h.kS,h.small⟩
 ·intro t x y s' d
  obtain ⟨b1,c⟩:=h.Ab t x y s' d
  rw [aj]
  split
  ·exact ⟨_,rfl⟩
  ·exact ⟨b1,c⟩
 ·intro t b1 c s' d
  have:∃b'',st.boxes s'=some b'':=by
   rw [aj] at c
   split at c
   ·simp only [Option.some.injEq] at c;rw [←c] at d;exact hl s' d
   ·exact h.Aa t b1 c s' d
  rw [aj]
  split
  ·exact ⟨_,rfl⟩
  ·exact this
 ·intro t b1 c g
  rw [aj] at c
  rw [k]
  split at c
  ·rename_i e;simp only [Option.some.injEq] at c;rw [e,if_pos rfl,c]
  ·rename_i e
   rw [if_neg fun he=>e (h.inj t s b1 b c g hs lb he)]
   exact h.boxes t b1 c g
 ·intro t r b1 b2 j g l z he
  have f:∀t b1,(st.box s b').boxes t=some b1->b1.live->∃b2,st.boxes t=some b2/\b2.live:=by
   intro t b1 j g
   rw [aj] at j
   split at j
   ·rename_i e;rw [e];exact ⟨b,hs,lb⟩
   ·exact ⟨b1,j,g⟩
  obtain ⟨A,m,B⟩:=f t b1 j g
  obtain ⟨C,p,D⟩:=f r b2 l z
  exact h.inj t r A C m B p D he
 ·intro b1 o q
  obtain ⟨j,l⟩:=h.pV b1 o q
  refine ⟨?_,l⟩
  rw [k,if_neg]
  ·exact j
  ·intro e;rw [e] at q;exact h.uP s b hs lb o q
 ·intro t b1 c g o
  rw [aj] at c
  split at c
  ·rename_i e;rw [e];exact h.uP s b hs lb o
  ·exact h.uP t b1 c g o
 ·refine ⟨by rw [hw];simpa using h.ext.size,fun i E u=>?_,ho.trans h.ext.os,ht.trans h.ext.tape,hout.trans h.ext.out⟩
  rw [k]
  split
  ·rename_i e
   exfalso
   rcases h.own s b hs lb with j|j
   ·omega
   ·exact u (e▸h.kS _ j.2)
  ·exact h.ext.bI i E u
 ·intro t b1 c g
  rw [aj] at c
  split at c
  ·rename_i e;rw [e];exact h.own s b hs lb
  ·exact h.own t b1 c g
end Go.bM
namespace Go.bM
variable {P:Program} {T:dA} {n:Nat} {V0:View} {bH:Fw} {β0:Nat->Nat} {st:St} {β:Nat->Nat} {a:Act} {w:World} {V:View}
theorem dU:∀(sc:List Prop)(k:Prop),Br sc k↔(∀p∈sc,p)/\k
 | [],k=>by simp [Br]
 | p::r,k=>by
  simp only [Br,dU r k,List.mem_cons]
  constructor
  ·rintro ⟨h1,h2,h3⟩
   exact ⟨fun q hq=>by rcases hq with rfl|hq;exact h1;exact h2 q hq,h3⟩
  ·rintro ⟨h1,h2⟩
   exact ⟨h1 p (.inl rfl),fun q hq=>h1 q (.inr hq),h2⟩
theorem aC {t:TypeId}{i:TI}(h:lu P t=some i):∃info d z,P.info? t=some info/\P.underlying t=some d/\info.zero=some z/\i.k=kI d/\i.size=info.size/\i.bytes=info.bytes/\i.zero=z.cells.toList.map C.ofConst:=by
 unfold lu at h
 split at h
 ·rename_i info d a b
  split at h
  ·rename_i z c
   simp only [Option.some.injEq] at h
   subst h
   exact ⟨info,d,z,a,b,c,rfl,rfl,rfl,rfl⟩
  ·cases h
 ·cases h
theorem DL (β:Nat->Nat)(y:Value):(C.ofConst y).den β=y:=by
 unfold C.ofConst;split<;>rfl
theorem Eb (β:Nat->Nat)(l:List Value):(l.map C.ofConst).map (C.den β)=l:=by
 induction l with
 | nil=>rfl
 | cons y r ih=>simp only [List.map_cons,DL,ih]
theorem D1 (y:Value):(C.ofConst y).ids=[]:=by unfold C.ofConst;split<;>rfl
theorem B8 (l:List Value):(l.map C.ofConst).flatMap C.ids=[]:=by
 induction l with
 | nil=>rfl
 | cons y r ih=>simp [D1]
theorem ao {t:TypeId}{d:TypeDesc}(h:P.underlying t=some d)(w:World):(underlying t).run P w=.ok d w:=by simp [underlying,h]
theorem kF {t:TypeId}{i:TypeInfo}(h:P.info? t=some i)(w:World):(typeInfo t).run P w=.ok i w:=by simp [typeInfo,h]
theorem aL {t:TypeId}{i:TypeInfo}(h:P.info? t=some i)(w:World):(sizeOf t).run P w=.ok i.size w:=by simp [sizeOf,kF h]
theorem jk {t:TypeId}{i:TypeInfo}{z:Value}(h:P.info? t=some i)(hz:i.zero=some z)(w:World):(zeroValue t).run P w=.ok z w:=by
 simp [zeroValue,kF h,hz]
def rJ:TK->Bool
 | .struct _|.arr _ _=>true
 | _=>false
theorem ia {t:TypeId}{d:TypeDesc}(h:P.underlying t=some d)(w:World):(isAgg t).run P w=.ok (rJ (kI d)) w:=by
 simp only [isAgg,Sem.run_bind,ao h,Result.andThen_ok]
 cases d<;>rfl
def Live (st:St)(x:SV):Prop:=∀s∈x.ids,∃b,st.boxes s=some b
theorem AV {k k':IntKind}(h:wu k k'=true):k=k':=by cases k<;>cases k'<;>simp_all [wu]
theorem Gg {op:BinOp}{k:IntKind}{x y:Int}{sc:List Prop}{v:SV}{xt:TypeId}(h:nD op k x y=.ret sc v)(hsc:∀p∈sc,p) :
  (binOp op xt (.int k x) (.int k y)).run P w=.ok (v.den β) w/\v.ids=[]:=by
 cases op<;>simp only [nD,Q.ret.injEq] at h<;>obtain ⟨rfl,rfl⟩:=h <;>
  simp only [List.mem_cons,List.not_mem_nil,or_false,forall_eq,false_imp_iff,implies_true] at hsc <;>
  refine ⟨?_,rfl⟩ <;>
  simp [binOp,Op.intArith,Op.intDiv,Op.intBits,Op.intCmp,Op.shift,SV.den,C.den,bB,hsc]
 all_goals (try (intro h;omega))
theorem Bj {op:BinOp}{k k':IntKind}{x y:Int}{sc:List Prop}{v:SV}{xt:TypeId}(hop:op=.shl\/op=.shr)(h:nD op k x y=.ret sc v)(hsc:∀p∈sc,p) :
  (binOp op xt (.int k x) (.int k' y)).run P w=.ok (v.den β) w/\v.ids=[]:=by
 rcases hop with rfl|rfl<;>simp only [nD,Q.ret.injEq] at h<;>obtain ⟨rfl,rfl⟩:=h <;>
  simp only [List.mem_cons,List.not_mem_nil,or_false,forall_eq] at hsc <;>
  refine ⟨?_,rfl⟩ <;>
  simp [binOp,Op.shift,SV.den,C.den]<;>(intro h;omega)
section eqs
variable {t:TypeId} (d:Nat)
theorem IK (h:P.underlying t=some .bool)(x y:Bool):(Op.equalIn (d+1) t (.bool x) (.bool y)).run P w=.ok (x==y) w:=by
 simp [Op.equalIn,ao h]
theorem AH {e:TypeId}(h:P.underlying t=some (.pointer e))(p:OA):(Op.equalIn (d+1) t (.pointer p) (.pointer none)).run P w=.ok p.isNone w:=by
 cases p<;>simp [Op.equalIn,ao h]
theorem po {e:TypeId}(h:P.underlying t=some (.slice e))(p:OA)(n c m k:Nat):(Op.equalIn (d+1) t (.slice p n c) (.slice none m k)).run P w=.ok p.isNone w:=by
 cases p<;>simp [Op.equalIn,ao h]
theorem vW {ms:Array (String×TypeId)}(h:P.underlying t=some (.interface ms)){x:Value}(hx:IsIface x):(Op.equalIn (d+1) t x .nilIface).run P w=.ok (bO x) w:=by
 rcases hx with rfl|⟨u,v,rfl⟩<;>simp [Op.equalIn,ao h,bO]
end eqs
theorem kn {t:TypeId}{x y:Value}{r:Bool}(h:∀d,(Op.equalIn (d+1) t x y).run P w=.ok r w):(Op.equal t x y).run P w=.ok r w:=h 9999
theorem Dl {op:BinOp}{xt:TypeId}{x y:Bool}(ht:P.underlying xt=some .bool)(hop:op=.eql\/op=.neq) :
  (binOp op xt (.bool x) (.bool y)).run P w=.ok (.bool (if op=.eql then x==y else !(x==y))) w:=by
 have:=kn (w:=w) fun d=>IK d ht x y
 rcases hop with rfl|rfl<;>simp only [binOp,Sem.run_bind,this,Result.andThen_ok,Sem.run_pure]<;>rfl
theorem Ao {c:C}{b:Bool}(h:c.bool?=some b):c.den β=.bool b/\c.ids=[]:=by
 cases c with
 | v x=>cases x<;>simp_all [C.bool?,C.den,C.ids]
 | _=>simp_all [C.bool?,C.den,C.ids]
theorem DN {d:TypeDesc}{k:IntKind}(h:kI d=.int k):d=.int k:=by cases d<;>simp_all [kI]
theorem BT {d:TypeDesc}(h:kI d=.bool):d=.bool:=by cases d<;>simp_all [kI]
theorem DO {d:TypeDesc}{e:TypeId}(h:kI d=.ptr e):d=.pointer e:=by cases d<;>simp_all [kI]
theorem aT {d:TypeDesc}{e:TypeId}(h:kI d=.slice e):d=.slice e:=by cases d<;>simp_all [kI]
theorem yX {d:TypeDesc}(h:kI d=.iface):∃ms,d=.interface ms:=by cases d<;>simp_all [kI]
theorem jB {d:TypeDesc}{fs:List (TypeId×Nat)}(h:kI d=.struct fs):∃gs,d=.struct gs/\fs=gs.toList.map fun f=>(f.type,f.offset):=by
 cases d<;>simp_all [kI]
theorem nt {d:TypeDesc}{m:Nat}{e:TypeId}(h:kI d=.arr m e):d=.array m e:=by cases d<;>simp_all [kI]
theorem jq {t:TypeId}{x y:Value}{r:Bool}(neg:Bool)(h:(Op.equal t x y).run P w=.ok r w)
  (hx:(∃p,x=.pointer p/\y=.pointer none)\/(∃p n c m k,x=.slice p n c/\y=.slice none m k)\/(IsIface x/\y=.nilIface)) :
  (binOp (if neg then .neq else .eql) t x y).run P w=.ok (.bool (if neg then !r else r)) w:=by
 rcases hx with ⟨p,rfl,rfl⟩|⟨p,n,c,m,k,rfl,rfl⟩|⟨hx,rfl⟩
 ·cases p<;>cases neg<;>simp only [Bool.false_eq_true,if_false,if_true,binOp,Sem.run_bind,h,Result.andThen_ok,Sem.run_pure]
 ·cases neg<;>simp only [Bool.false_eq_true,if_false,if_true,binOp,Sem.run_bind,h,Result.andThen_ok,Sem.run_pure]
 ·rcases hx with rfl|⟨u,v,rfl⟩<;>cases neg<;>simp only [Bool.false_eq_true,if_false,if_true,binOp,Sem.run_bind,h,Result.andThen_ok,Sem.run_pure]
theorem pr {op:BinOp}{t:TypeId}{x y:Operand}{u v:Value}(h:(∃p,u=.pointer p)\/(∃p n c,u=.slice p n c)\/(∃k n,u=.int k n)\/(∃b,u=.bool b)\/∃c,y=.const c)(hn:v=.nilIface->∃c,y=.const c)(hu:∀cs,u≠.agg cs) :
  (eqGuard op t x y u v).run P w=.ok () w:=by
 have key:∀(m:Sem Unit),m=(match (generalizing:=false) u,v with
   | .nilIface,.nilIface=>do
    if (match (generalizing:=false) x with|.const _=>true|_=>false)||(match (generalizing:=false) y with|.const _=>true|_=>false) then return
    if ← Op.eqGuardIn Op.maxDepth t u v then unsupported (.noEntry "binop/eql: two nil values of an interface type with methods, neither of them the literal nil")
   | .agg _,.agg _=>do
    if !(←program).eqGuardType (←program).depth t then return
    if ← Op.eqGuardIn Op.maxDepth t u v then unsupported (.noEntry "binop/eql: two nil values of an interface type with methods, in a part of a struct or an array")
   | _,_=>pure ())->m.run P w=.ok () w:=by
  intro m hm
  rw [hm]
  clear hm
  revert hn hu
  split
  ·intro hn _;obtain ⟨c,rfl⟩:=hn rfl;simp
  ·rename_i cs _;intro _ hu;exact absurd rfl (hu cs)
  ·intro _ _;rfl
 cases op<;>first|rfl|exact key _ rfl
theorem Lz {xt:TypeId}{i:TI}(hi:lu P xt=some i){x y:C}(neg:Bool){sc:List Prop}{v:SV}
  (h:Cr neg i.k x y=.ret sc v)(hsc:∀p∈sc,p) :
  (binOp (if neg then .neq else .eql) xt (x.den β) (y.den β)).run P w=.ok (v.den β) w/\v.ids=[] /\
  ((∃p,x.den β=.pointer p)\/(∃p n c,x.den β=.slice p n c)\/y.den β=.nilIface)/\(y.den β=.nilIface->y=.v .nilIface)/\(∀cs,x.den β≠.agg cs):=by
 obtain ⟨info,d,z,j,b,l,g,-⟩:=aC hi
 unfold Cr at h
 split at h
 ·rename_i e a
  rw [g] at a
  obtain rfl:=DO a
  split at h
  ·split at h
   ·simp only [Q.ret.injEq] at h;obtain ⟨rfl,rfl⟩:=h
    refine ⟨?_,by cases neg<;>rfl,.inl ⟨_,rfl⟩,by simp [C.den],by simp [C.den]⟩
    rename_i s o
    have:=jq (w:=w) neg (kn fun d=>AH d b (some ⟨β s,o,none⟩)) (.inl ⟨_,rfl,rfl⟩)
    cases neg<;>exact this
   ·simp only [Q.ret.injEq] at h;obtain ⟨rfl,rfl⟩:=h
    refine ⟨?_,rfl,.inl ⟨_,rfl⟩,by simp [C.den],by simp [C.den]⟩
    exact jq (w:=w) neg (kn fun d=>AH d b _) (.inl ⟨_,rfl,rfl⟩)
   ·cases h
  ·cases h
 ·rename_i e a
  rw [g] at a
  obtain rfl:=aT a
  split at h
  ·split at h
   ·simp only [Q.ret.injEq] at h;obtain ⟨rfl,rfl⟩:=h
    refine ⟨?_,by cases neg<;>rfl,.inr (.inl ⟨_,_,_,rfl⟩),by simp [C.den],by simp [C.den]⟩
    rename_i m k _ s o n c
    have:=jq (w:=w) neg (kn fun d=>po d b (some ⟨β s,o,none⟩) n c m k) (.inr (.inl ⟨_,_,_,_,_,rfl,rfl⟩))
    cases neg<;>exact this
   ·simp only [Q.ret.injEq] at h;obtain ⟨rfl,rfl⟩:=h
    refine ⟨?_,rfl,.inr (.inl ⟨_,_,_,rfl⟩),by simp [C.den],by simp [C.den]⟩
    rename_i m k _ s n c
    have:=jq (w:=w) neg (kn fun d=>po d b (mA (β s) c) n c m k) (.inr (.inl ⟨_,_,_,_,_,rfl,rfl⟩))
    have e:(mA (β s) c).isNone=Nat.beq c 0:=by cases c<;>rfl
    rw [e] at this
    exact this
   ·simp only [Q.ret.injEq] at h;obtain ⟨rfl,rfl⟩:=h
    refine ⟨?_,rfl,.inr (.inl ⟨_,_,_,rfl⟩),by simp [C.den],by simp [C.den]⟩
    exact jq (w:=w) neg (kn fun d=>po d b _ _ _ _ _) (.inr (.inl ⟨_,_,_,_,_,rfl,rfl⟩))
   ·cases h
  ·cases h
 ·rename_i a
  rw [g] at a
  obtain ⟨ms,rfl⟩:=yX a
  split at h
  ·split at h
   ·simp only [Q.ret.injEq] at h;obtain ⟨rfl,rfl⟩:=h
    have f:=hsc _ (List.mem_singleton.2 rfl)
    refine ⟨?_,rfl,.inr (.inr rfl),fun _=>rfl,?_⟩
    ·exact jq (w:=w) neg (kn fun d=>vW d b f) (.inr (.inr ⟨f,rfl⟩))
    ·intro cs e
     rcases f with f|⟨u,v,f⟩<;>· simp only [C.den] at e;rw [f] at e;cases e
   ·simp only [Q.ret.injEq] at h;obtain ⟨rfl,rfl⟩:=h
    refine ⟨?_,by cases neg<;>rfl,.inr (.inr rfl),fun _=>rfl,by simp [C.den]⟩
    have:=jq (w:=w) neg (kn fun d=>vW d b (x:=.nilIface) (.inl rfl)) (.inr (.inr ⟨.inl rfl,rfl⟩))
    cases neg<;>exact this
   ·cases h
  ·cases h
 ·cases h
theorem Lx (hT:dA.ok P T){op:BinOp}{xt:TypeId}{x y:C}{ox oy:Operand}{sc:List Prop}{v:SV}
  (h:Cp T op xt x y=.ret sc v)(hsc:∀p∈sc,p)(hy:y=.v .nilIface->∃c,oy=.const c) :
  (do eqGuard op xt ox oy (x.den β) (y.den β);binOp op xt (x.den β) (y.den β)).run P w=.ok (v.den β) w/\v.ids=[]:=by
 unfold Cp at h
 split at h
 ·rename_i i j
  have j:=hT _ _ j
  obtain ⟨info,d,z,D,l,E,r,-⟩:=aC j
  split at h
  ·split at h
   ·rename_i k a m b
    have g:(eqGuard op xt ox oy (C.den β (.v (.int k a))) (C.den β (.v (.int m b)))).run P w=.ok () w:=
     pr (.inr (.inr (.inl ⟨_,_,rfl⟩))) (by simp [C.den]) (by simp [C.den])
    have key:(binOp op xt (.int k a) (.int m b)).run P w=.ok (v.den β) w/\v.ids=[]:=by
     split at h
     ·exact Bj (.inl rfl) h hsc
     ·exact Bj (.inr rfl) h hsc
     ·split at h
      ·rename_i e;obtain rfl:=AV e;exact Gg h hsc
      ·cases h
    simp only [Sem.run_bind,g,Result.andThen_ok]
    exact key
   ·cases h
  ·rename_i n
   rw [r] at n
   obtain rfl:=BT n
   split at h
   ·rename_i a b s t
    have o:=Ao (β:=β) s
    have hy:=Ao (β:=β) t
    have g:(eqGuard op xt ox oy (x.den β) (y.den β)).run P w=.ok () w:=by
     rw [o.1,hy.1]
     exact pr (.inr (.inr (.inr (.inl ⟨_,rfl⟩)))) (by simp) (by simp)
    simp only [Sem.run_bind,g,Result.andThen_ok]
    rw [o.1,hy.1]
    split at h
    ·simp only [Q.ret.injEq] at h;obtain ⟨rfl,rfl⟩:=h
     exact ⟨Dl l (.inl rfl),rfl⟩
    ·simp only [Q.ret.injEq] at h;obtain ⟨rfl,rfl⟩:=h
     exact ⟨Dl l (.inr rfl),rfl⟩
    ·cases h
   ·cases h
  ·have key:∀neg:Bool,Cr neg i.k x y=.ret sc v->(do eqGuard (if neg then .neq else .eql) xt ox oy (x.den β) (y.den β);binOp (if neg then .neq else .eql) xt (x.den β) (y.den β)).run P w=.ok (v.den β) w/\v.ids=[]:=by
    intro neg h
    obtain ⟨u,A,f,q,B⟩:=Lz (w:=w) (β:=β) j neg h hsc
    have g:(eqGuard (if neg then BinOp.neq else BinOp.eql) xt ox oy (x.den β) (y.den β)).run P w=.ok () w:=by
     refine pr ?_ (fun e=>hy (q e)) B
     rcases f with f|f|f
     ·exact .inl f
     ·exact .inr (.inl f)
     ·exact .inr (.inr (.inr (.inr (hy (q f)))))
    simp only [Sem.run_bind,g,Result.andThen_ok]
    exact ⟨u,A⟩
   split at h
   ·exact key false h
   ·exact key true h
   ·cases h
 ·cases h
end Go.bM
