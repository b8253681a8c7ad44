import Derived.WalkKit
import Derived.Deep.LoopGhost
import Derived.KernelRfl
set_option linter.unusedVariables false
open Go.IntKind (i64 u64 u32)
namespace Go.Eng
abbrev OA:=Option Addr
abbrev sm {α:Type}(a:α):Prop:=a=a
structure View where
 w:World
 H:Nat->Prop
 X:Nat->Prop
 hH:∀b,H b->b<w.heap.size
 hX:∀b,X b->H b
def View.aZ (V:View)(b:Nat)(o:Obj):Prop:=¬V.H b/\V.w.heap[b]?=some o
def View.at (V:View)(p:Addr)(v:Value):Prop:=¬V.H p.block/\V.w.cell? p=some v
def View.Le (V V':View):Prop:=∀b o,V.aZ b o->V'.aZ b o
structure dU (X:Nat->Prop) (w w':World):Prop where
 size:w.heap.size<=w'.heap.size
 aZ:∀b,b<w.heap.size->¬X b->w'.heap[b]?=w.heap[b]?
 os:w'.os=w.os
 tape:w'.tape=w.tape
 out:w'.output=w.output
def View.to (V:View)(w':World)(h:V.w.heap.size<=w'.heap.size):View:=⟨w',V.H,V.X,fun b hb=>Nat.lt_of_lt_of_le (V.hH b hb) h,V.hX⟩
def View.lend (V:View)(bs:List Nat):View:={ V with X:=fun b=>b∈bs/\V.H b,hX:=fun _ h=>h.2 }
def View.I2 (V:View)(b:Nat):View:={ V with H:=fun x=>V.H x\/(x=b/\b<V.w.heap.size),hH:=fun x h=>h.elim (V.hH x) fun h=>h.1▸h.2,hX:=fun x h=>.inl (V.hX x h) }
def View.hideG (V:View)(p:Prop)(b:Nat):View:={ V with H:=fun x=>V.H x\/(p/\x=b/\b<V.w.heap.size),hH:=fun x h=>h.elim (V.hH x) fun h=>h.2.1▸h.2.2,hX:=fun x h=>.inl (V.hX x h) }
def View.shut (V:View):View:={ V with X:=fun _=>False,hX:=fun _ h=>h.elim }
def jj (P : Program)(f : FuncId) : Prop := ∃ fn, P.funcs[f]? = some fn ∧ fn.body.isNone = false ∧ (fn.name == "runtime.NumGoroutine") = false
def Acts (P:Program)(f:FuncId)(args:Array Value)(V:View)(R:Value->View->Prop):Prop:=
 jj P f/\Calls P f args V.w fun e w'=>∃r,e=.returned r/\∃hx:dU V.X V.w w',R r (V.to w' hx.size)
inductive C where
 | v (x:Value)|w (x:Value)|tt|ff
 | ptr (s o:Nat)
 | kD (s o n c:Nat)
 | ir (s n c:Nat)
 | yx (f:FuncId) (ss:List Nat)
inductive SV where
 | c (x:C)|agg (cs:List C)|nC (xs:List (Bool×List C))
inductive Cells where
 | lit (cs:List C)|row (vs:List Value)|aO (vs:List Value)
structure aH where
 cs:Cells
 ty:TypeId
def aH.live (b:aH):Prop:=∀vs,b.cs=.aO vs->vs≠[]
def FF (b:aH):List Prop:=
 match b.cs with
 | .aO vs=>[vs≠[]]
 | _=>[]
def Qz (b:aH):Prop:=
 match b.cs with
 | .aO vs=>vs≠[]
 | _=>True
def nV:List Prop->Prop->Prop
 | [],k=>k
 | p::r,k=>p->nV r k
def mA (b c:Nat):OA:=if c=0 then none else some ⟨b,0,none⟩
structure St where
 ao:Nat->Option SV
 boxes:Nat->Option aH
def C.den (β:Nat->Nat):C->Value
 | .v x=>x
 | .w x=>x
 | .tt=>.bool true
 | .ff=>.bool false
 | .ptr s o=>.pointer (some ⟨β s,o,none⟩)
 | .kD s o n c=>.slice (some ⟨β s,o,none⟩) n c
 | .ir s n c=>.slice (mA (β s) c) n c
 | .yx f ss=>.func (.func f) #[] (ss.map fun s=>Value.pointer (some ⟨β s,0,none⟩)).toArray
def gx (β:Nat->Nat):Bool×List C->Value
 | (true,cs)=>.agg (cs.map (C.den β)).toArray
 | (false,[c])=>c.den β
 | (false,_)=>.tuple #[]
def pg:Bool×List C->Option SV
 | (true,cs)=>some (.agg cs)
 | (false,[c])=>some (.c c)
 | (false,_)=>none
def SV.den (β:Nat->Nat):SV->Value
 | .c x=>x.den β
 | .agg cs=>.agg (cs.map (C.den β)).toArray
 | .nC xs=>.tuple (xs.map (gx β)).toArray
def SV.cells:SV->List C
 | .c x=>[x]
 | .agg cs=>cs
 | .nC _=>[]
def Cells.den (β:Nat->Nat):Cells->List Value
 | .lit cs=>cs.map (C.den β)
 | .row vs=>vs
 | .aO vs=>vs
def aH.obj (β:Nat->Nat)(b:aH):Obj:=.cells (b.cs.den β).toArray b.ty (0,0)
def C.ids:C->List Nat
 | .ptr s _=>[s]
 | .kD s _ _ _=>[s]
 | .ir s _ _=>[s]
 | .yx _ ss=>ss
 | _=>[]
def SV.ids:SV->List Nat
 | .c x=>x.ids
 | .agg cs=>cs.flatMap C.ids
 | .nC xs=>xs.flatMap fun x=>x.2.flatMap C.ids
def SV.tF:SV->Bool
 | .nC _=>true
 | _=>false
def ee:C->List Prop
 | .v (.agg _)|.v (.tuple _)=>[False]
 | .w x=>[x.oneCell'=true]
 | _=>[]
def SV.ee (x:SV):List Prop:=x.cells.flatMap Eng.ee
def Cells.ids:Cells->List Nat
 | .lit cs=>cs.flatMap C.ids
 | .row _=>[]
 | .aO _=>[]
def St.put (st:St)(d:Option Nat)(x:SV):St:=
 match d with
 | none=>st
 | some d=>{ st with ao:=fun t=>cond (Nat.beq t d) (some x) (st.ao t) }
def St.box (st:St)(s:Nat)(b:aH):St:={ st with boxes:=fun t=>cond (Nat.beq t s) (some b) (st.boxes t) }
def C.ofConst:Value->C
 | .bool true=>.tt
 | .bool false=>.ff
 | x=>.v x
def SV.ofConst:Value->SV
 | .bool true=>.c .tt
 | .bool false=>.c .ff
 | .agg cs=>.agg (cs.toList.map C.ofConst)
 | x=>.c (.v x)
def St.aR (st:St):Operand->Option SV
 | .tmp t=>st.ao t
 | .const v=>some (.ofConst v)
 | .global g=>some (.c (.v (.pointer (some ⟨g,0,none⟩))))
 | .func f=>some (.c (.yx f []))
inductive TK where
 | int (k:IntKind)|bool|str|ptr (e:TypeId)|slice (e:TypeId)|struct (fs:List (TypeId×Nat))|arr (n:Nat) (e:TypeId)|iface|func|tuple (ts:List TypeId)|other
structure TI where
 k:TK
 size:Nat
 bytes:Nat
 zero:List C
def jd:TypeDesc->TK
 | .int k=>.int k
 | .bool=>.bool
 | .string=>.str
 | .pointer e=>.ptr e
 | .slice e=>.slice e
 | .array n e=>.arr n e
 | .struct fs=>.struct (fs.toList.map fun f=>(f.type,f.offset))
 | .interface _=>.iface
 | .func ..=>.func
 | .tuple es=>.tuple es.toList
 | _=>.other
def jF (P:Program)(t:TypeId):Option TI:=
 match P.info? t,P.underlying t with
 | some i,some d=>
  match i.zero with
  | some z=>some { k:=jd d,size:=i.size,bytes:=i.bytes,zero:=z.cells.toList.map C.ofConst }
  | none=>none
 | _,_=>none
abbrev cD:=List (Nat×TI)
def au {α:Type}:List (Nat×α)->Nat->Option α
 | [],_=>none
 | (s,x)::r,t=>cond (Nat.beq t s) (some x) (au r t)
def cD.ok (P:Program)(T:cD):Prop:=∀t i,au T t=some i->jF P t=some i
inductive vd where
 | int (k:IntKind)|bool|slice|ptr|str|any
inductive rW where
 | one (s:vd)|agg (l:List vd)
inductive Sh where
 | val (s:rW)|nC (l:List rW)|none
def PN:C->vd
 | .v (.int k _)=>.int k
 | .v (.slice ..)=>.slice
 | .v (.pointer _)=>.ptr
 | .v (.string _)=>.str
 | .tt|.ff=>.bool
 | _=>.any
def jI (i:TI):rW:=
 match i.k with
 | .struct _|.arr _ _=>.agg (i.zero.map PN)
 | _=>match i.zero with
  | [z]=>.one (PN z)
  | _=>.one .any
def vd.ex:vd->(C->Prop)->Prop
 | .int k,K=>∃n:Int,K (.v (.int k n))
 | .bool,K=>∃b:Bool,K (.v (.bool b))
 | .slice,K=>∃(a:OA)(n c:Nat),K (.v (.slice a n c))
 | .ptr,K=>∃p:OA,K (.v (.pointer p))
 | .str,K=>∃s:ByteArray,K (.v (.string s))
 | .any,K=>∃x:Value,K (.w x)
def Lf:List vd->(List C->Prop)->Prop
 | [],K=>K []
 | s::r,K=>s.ex fun v=>Lf r fun vs=>K (v::vs)
def rW.ex:rW->(SV->Prop)->Prop
 | .one s,K=>s.ex fun c=>K (.c c)
 | .agg l,K=>Lf l fun cs=>K (.agg cs)
def MD:List rW->(List (Bool×List C)->Prop)->Prop
 | [],K=>K []
 | .one s::r,K=>s.ex fun c=>MD r fun vs=>K ((false,[c])::vs)
 | .agg l::r,K=>Lf l fun cs=>MD r fun vs=>K ((true,cs)::vs)
def Sh.ex:Sh->(SV->Prop)->Prop
 | .val s,K=>s.ex K
 | .nC l,K=>MD l fun vs=>K (.nC vs)
 | .none,K=>K (.nC [])
def O9 (T:cD):List TypeId->Option (List rW)
 | []=>some []
 | t::r=>match au T t,O9 T r with
  | some i,some l=>some (jI i::l)
  | _,_=>Option.none
def Sw (T:cD)(t:TypeId):Option Sh:=
 match au T t with
 | some i=>match i.k with
  | .tuple []=>some .none
  | .tuple ts=>match O9 T ts with
   | some l=>some (.nC l)
   | Option.none=>Option.none
  | _=>some (.val (jI i))
 | Option.none=>Option.none
inductive Q where
 | fail
 | ret (sc:List Prop) (x:SV)
 | new (sc:List Prop) (b:aH) (x:Nat->SV)
 | qV (sc:List Prop) (s:Nat) (b:aH)
 | rd (p:OA) (sh:rW)
 | mj (vs:List Value) (o size:Nat) (sh:rW)
 | pH (s:Nat) (vs:List Value) (n c:Nat) (x:OA×Nat ⊕ List Value) (size bytes:Nat) (ty:TypeId)
 | app (old:Option Nat) (ba:OA) (vs:List Value) (n c:Nat) (x:OA×Nat ⊕ List Value) (size bytes:Nat) (ty:TypeId)
def a_ (op:BinOp)(k:IntKind)(a b:Int):Int:=
 match op with
 | .and=>k.wrap ((BitVec.ofInt k.bits a &&& BitVec.ofInt k.bits b).toNat:Int)
 | .or=>k.wrap ((BitVec.ofInt k.bits a ||| BitVec.ofInt k.bits b).toNat:Int)
 | .xor=>k.wrap ((BitVec.ofInt k.bits a ^^^ BitVec.ofInt k.bits b).toNat:Int)
 | _=>k.wrap ((BitVec.ofInt k.bits a &&& ~~~(BitVec.ofInt k.bits b)).toNat:Int)
def kT (op:BinOp)(k:IntKind)(a b:Int):Q:=
 match op with
 | .add=>.ret [] (.c (.v (.int k (k.wrap (a+b)))))
 | .sub=>.ret [] (.c (.v (.int k (k.wrap (a-b)))))
 | .mul=>.ret [] (.c (.v (.int k (k.wrap (a*b)))))
 | .quo=>.ret [b≠0] (.c (.v (.int k (k.wrap (a.tdiv b)))))
 | .rem=>.ret [b≠0] (.c (.v (.int k (a.tmod b))))
 | .and=>.ret [] (.c (.v (.int k (a_ .and k a b))))
 | .or=>.ret [] (.c (.v (.int k (a_ .or k a b))))
 | .xor=>.ret [] (.c (.v (.int k (a_ .xor k a b))))
 | .andNot=>.ret [] (.c (.v (.int k (a_ .andNot k a b))))
 | .shl=>.ret [0<=b] (.c (.v (.int k (k.wrap (a*2^(min b.toNat k.bits))))))
 | .shr=>.ret [0<=b] (.c (.v (.int k (a.fdiv (2^(min b.toNat k.bits))))))
 | .eql=>.ret [] (.c (.v (.bool (a==b))))
 | .neq=>.ret [] (.c (.v (.bool (a != b))))
 | .lss=>.ret [] (.c (.v (.bool (decide (a<b)))))
 | .leq=>.ret [] (.c (.v (.bool (decide (a<=b)))))
 | .gtr=>.ret [] (.c (.v (.bool (decide (a>b)))))
 | .geq=>.ret [] (.c (.v (.bool (decide (a≥b)))))
def C.bool?:C->Option Bool
 | .tt=>some true
 | .ff=>some false
 | .v (.bool b)=>some b
 | _=>none
def isNilI:Value->Bool
 | .nilIface=>true
 | _=>false
def IsIface (x:Value):Prop:=x=.nilIface\/∃t v,x=.iface t v
def tG:IntKind->IntKind->Bool
 | .i8,.i8|.i16,.i16|.i32,.i32|.i64,.i64|.u8,.u8|.u16,.u16|.u32,.u32|.u64,.u64=>true
 | _,_=>false
def za (neg:Bool)(k:TK)(x y:C):Q:=
 match k with
 | .ptr _=>match y with
  | .v (.pointer none)=>match x with
   | .ptr _ _=>.ret [] (.c (if neg then .tt else .ff))
   | .v (.pointer p)=>.ret [] (.c (.v (.bool (if neg then !p.isNone else p.isNone))))
   | _=>.fail
  | _=>.fail
 | .slice _=>match y with
  | .v (.slice none _ _)=>match x with
   | .kD _ _ _ _=>.ret [] (.c (if neg then .tt else .ff))
   | .ir _ _ c=>.ret [] (.c (.v (.bool (if neg then !(Nat.beq c 0) else Nat.beq c 0))))
   | .v (.slice a _ _)=>.ret [] (.c (.v (.bool (if neg then !a.isNone else a.isNone))))
   | _=>.fail
  | _=>.fail
 | .iface=>match y with
  | .v .nilIface=>match x with
   | .w y=>.ret [IsIface y] (.c (.v (.bool (if neg then !isNilI y else isNilI y))))
   | .v .nilIface=>.ret [] (.c (if neg then .ff else .tt))
   | _=>.fail
  | _=>.fail
 | _=>.fail
def yZ (T:cD)(op:BinOp)(xt:TypeId)(x y:C):Q:=
 match au T xt with
 | some i=>match i.k with
  | .int _=>match x,y with
   | .v (.int k a),.v (.int k' b)=>
    match op with
    | .shl|.shr=>kT op k a b
    | _=>if tG k k' then kT op k a b else .fail
   | _,_=>.fail
  | .bool=>match x.bool?,y.bool? with
   | some a,some b=>match op with
    | .eql=>.ret [] (.c (.v (.bool (a==b))))
    | .neq=>.ret [] (.c (.v (.bool (!(a==b)))))
    | _=>.fail
   | _,_=>.fail
  | k=>match op with
   | .eql=>za false k x y
   | .neq=>za true k x y
   | _=>.fail
 | none=>.fail
def addrAdd (p:OA)(n:Nat):OA:=p.map fun a=>a.add n
def setCells (cs:List C)(o:Nat)(xs:List C):List C:=cs.take o++xs++cs.drop (o+xs.length)
def cG (vs:List Value)(o:Nat)(xs:List Value):List Value:=
 match xs with
 | [x]=>vs.set o x
 | _=>vs.take o++xs++vs.drop (o+xs.length)
def C.val?:C->Option Value
 | .v x=>some x
 | .w x=>some x
 | .tt=>some (.bool true)
 | .ff=>some (.bool false)
 | _=>none
def jK:List C->Option (List Value)
 | []=>some []
 | c::r=>match c.val?,jK r with
  | some v,some vs=>some (v::vs)
  | _,_=>none
def hZ (bx:Nat->Option aH)(i:TI)(x:SV):Q:=
 match x with
 | .c (.ptr b o)=>match bx b with
  | some ⟨.lit cs,_⟩=>match i.k with
   | .struct _|.arr _ _=>if Nat.ble (o+i.size) cs.length then .ret [] (.agg ((cs.drop o).take i.size)) else .fail
   | _=>match cs[o]? with
    | some c=>.ret [] (.c c)
    | none=>.fail
  | some ⟨.row vs,_⟩=>.mj vs o i.size (jI i)
  | some ⟨.aO vs,_⟩=>if Nat.beq i.size 0 then .fail else .mj vs o i.size (jI i)
  | none=>.fail
 | .c (.v (.pointer p))=>if Nat.beq i.zero.length i.size then .rd p (jI i) else .fail
 | _=>.fail
def fI (bx:Nat->Option aH)(i:TI)(a x:SV):Q:=
 match a with
 | .c (.ptr b o)=>if Nat.beq x.cells.length i.size&&!x.tF then match bx b with
   | some ⟨.lit cs,ty⟩=>if Nat.ble (o+i.size) cs.length then .qV x.ee b ⟨.lit (setCells cs o x.cells),ty⟩ else .fail
   | some ⟨.row vs,ty⟩=>match jK x.cells with
    | some xs=>.qV (x.ee++[o+i.size<=vs.length]) b ⟨.row (cG vs o xs),ty⟩
    | none=>.fail
   | some ⟨.aO vs,ty⟩=>if Nat.beq i.size 0 then .fail else match jK x.cells with
    | some xs=>.qV (x.ee++[o+i.size<=vs.length]) b ⟨.aO (cG vs o xs),ty⟩
    | none=>.fail
   | none=>.fail
  else .fail
 | _=>.fail
def mi (place:Nat->Option (Nat×Nat))(cells:List C):List (Nat×SV)->Option (List C)
 | []=>some cells
 | (i,x)::r=>match place i with
  | none=>none
  | some (off,size)=>if Nat.beq x.cells.length size&&Nat.ble (off+size) cells.length&&!x.tF then mi place (setCells cells off x.cells) r else none
def partsOf (ρ:Operand->Option SV):List (Nat×Operand)->Option (List (Nat×SV))
 | []=>some []
 | (i,o)::r=>match ρ o,partsOf ρ r with
  | some x,some l=>some ((i,x)::l)
  | _,_=>none
def eN (T:cD):List (TypeId×Nat)->Option (List (Nat×Nat))
 | []=>some []
 | (t,off)::r=>match au T t,eN T r with
  | some i,some l=>some ((off,i.size)::l)
  | _,_=>none
def rep (n:Nat)(zs:List C):List C:=(List.replicate n zs).flatten
def nA (n:Nat)(zs:List Value):List Value:=
 match zs with
 | [z]=>List.replicate n z
 | _=>(List.replicate n zs).flatten
def pN (a:OA)(m l sz:Nat):OA:=if m=l then a else addrAdd a (l*sz)
def UO (o m l sz:Nat):Nat:=if m=l then o else o+l*sz
def Jq (c:Nat):Option SV->Option (List Prop×Nat)
 | none=>some ([],c)
 | some (.c (.v (.int _ m)))=>some ([0<=m/\m<=(c:Int)],m.toNat)
 | _=>none
def Hy (n m:Nat):Option SV->Option SV->Option (List Prop×Nat)
 | some (.c (.v (.int _ h))),_=>some ([0<=h/\h<=(m:Int)],h.toNat)
 | none,none=>some ([],n)
 | _,_=>none
def Mc (h:Nat):Option SV->Option (List Prop×Option Nat)
 | none=>some ([],none)
 | some (.c (.v (.int _ l)))=>some ([0<=l/\l<=(h:Int)],some l.toNat)
 | _=>none
def lS (n c:Nat)(lo hi mx:Option SV):Option (List Prop×Option Nat×Nat×Nat):=
 match Jq c mx with
 | none=>none
 | some (p1,m)=>match Hy n m hi mx with
  | none=>none
  | some (p2,h)=>match Mc h lo with
   | none=>none
   | some (p3,l)=>some (p1++p2++p3,l,h,m)
def yQ (ρ:Operand->Option SV):Option Operand->Option (Option SV)
 | none=>some none
 | some x=>match ρ x with
  | some v=>some (some v)
  | none=>none
def pL (sz:Nat)(x:SV)(lo hi mx:Option SV):Q:=
 match x with
 | .c (.v (.slice a n c))=>match lS n c lo hi mx with
  | some (sc,none,h,m)=>.ret sc (.c (.v (.slice a h m)))
  | some (sc,some l,h,m)=>.ret sc (.c (.v (.slice (pN a m l sz) (h-l) (m-l))))
  | none=>.fail
 | .c (.kD s o n c)=>match lS n c lo hi mx with
  | some (sc,none,h,m)=>.ret sc (.c (.kD s o h m))
  | some (sc,some l,h,m)=>.ret sc (.c (.kD s (UO o m l sz) (h-l) (m-l)))
  | none=>.fail
 | .c (.ir s n c)=>match mx with
  | none=>match lS n c lo hi none with
   | some (sc,none,h,m)=>.ret sc (.c (.ir s h m))
   | _=>.fail
  | some _=>.fail
 | _=>.fail
def fH (T:cD)(i:TI)(x ix:SV):Q:=
 match ix with
 | .c (.v (.int _ n))=>match i.k with
  | .slice e=>match au T e with
   | some ei=>match x with
    | .c (.v (.slice a len _))=>.ret [a.isSome=true,0<=n/\n<(len:Int)] (.c (.v (.pointer (addrAdd a (n.toNat*ei.size)))))
    | .c (.kD s o len _)=>.ret [0<=n/\n<(len:Int)] (.c (.ptr s (o+n.toNat*ei.size)))
    | .c (.ir s len c)=>.ret [0<=n/\n<(len:Int),len<=c] (.c (.ptr s (n.toNat*ei.size)))
    | _=>.fail
   | none=>.fail
  | .arr len e=>match au T e with
   | some ei=>match x with
    | .c (.ptr s o)=>.ret [0<=n/\n<(len:Int)] (.c (.ptr s (o+n.toNat*ei.size)))
    | .c (.v (.pointer a))=>.ret [a.isSome=true,0<=n/\n<(len:Int)] (.c (.v (.pointer (addrAdd a (n.toNat*ei.size)))))
    | _=>.fail
   | none=>.fail
  | _=>.fail
 | _=>.fail
def xG (T:cD)(i:TI)(l c:SV):Q:=
 match i.k with
 | .slice e=>match au T e with
  | some ei=>match l,c with
   | .c (.v (.int _ n)),.c (.v (.int _ m))=>match jK ei.zero with
    | some zs=>if Nat.beq ei.bytes 0||Nat.beq ei.size 0||!(Nat.beq ei.size zs.length) then .fail else .new [0<=n,n<=m,(ei.bytes:Int)*m<=140737488355328] ⟨.row (nA m.toNat zs),e⟩ fun d=>.c (.kD d 0 n.toNat m.toNat)
    | none=>.fail
   | _,_=>.fail
  | none=>.fail
 | _=>.fail
def t_:List SV->Option (List Nat)
 | []=>some []
 | .c (.ptr s 0)::r=>match t_ r with
  | some l=>some (s::l)
  | none=>none
 | _=>none
def bJ (ρ:Operand->Option SV):List Operand->Option (List SV)
 | []=>some []
 | o::r=>match ρ o,bJ ρ r with
  | some x,some l=>some (x::l)
  | _,_=>none
def bH (a b:Int):Int:=if b<a then b else a
def maxI (a b:Int):Int:=if b>a then b else a
def foldI (f:Int->Int->Int)(k:IntKind)(a:Int):List SV->Option Int
 | []=>some a
 | .c (.v (.int k' b))::r=>if tG k k' then foldI f k (f a b) r else none
 | _=>none
def dG (bx:Nat->Option aH)(s:Nat):Option (List Value):=
 match bx s with
 | some ⟨.lit cs,_⟩=>jK cs
 | some ⟨.row vs,_⟩=>some vs
 | _=>none
def jq (bx:Nat->Option aH)(s:Nat):Option TypeId:=match bx s with|some b=>some b.ty|none=>none
def rowTake (ws:List Value)(o n:Nat):List Value:=cond (Nat.ble (o+n) ws.length) ((ws.drop o).take n) (List.replicate n (.agg #[]))
def rowTakeM (ws:List Value)(k c sz:Nat):List Value:=cond (Nat.ble k c) (rowTake ws 0 (k*sz)) (List.replicate (k*sz) (.agg #[]))
def bS (bx:Nat->Option aH)(e:TypeId)(ei:TI)(b x:SV):Q:=
 match jK ei.zero with
 | none=>.fail
 | some zs=>if Nat.beq ei.bytes 0||Nat.beq ei.size 0||!(Nat.beq ei.size zs.length) then .fail else
  let src:Option (OA×Nat ⊕ List Value):=match x with
   | .c (.v (.slice a k _))=>some (.inl (a,k))
   | .c (.kD s o k _)=>match bx s with
    | some ⟨.row ws,_⟩=>some (.inr (rowTake ws o (k*ei.size)))
    | _=>match dG bx s with
     | some ws=>if Nat.ble (o+k*ei.size) ws.length then some (.inr ((ws.drop o).take (k*ei.size))) else none
     | none=>none
   | .c (.ir s k c)=>match bx s with
    | some ⟨.aO ws,_⟩=>some (.inr (rowTakeM ws k c ei.size))
    | _=>none
   | _=>none
  match src with
  | none=>.fail
  | some src=>match b with
   | .c (.v (.slice a n c))=>.app none a [] n c src ei.size ei.bytes e
   | .c (.kD s 0 n c)=>match dG bx s,jq bx s with
    | some vs,some ty=>if Nat.beq ty e then .app (some s) none vs n c src ei.size ei.bytes e else .fail
    | _,_=>.fail
   | .c (.ir s n c)=>match bx s with
    | some ⟨.aO vs,ty⟩=>if Nat.beq ty e then .pH s vs n c src ei.size ei.bytes e else .fail
    | _=>.fail
   | _=>.fail
def jG (b:Builtin)(k:TK)(xs:List SV):Q:=
 match xs with
 | []=>.fail
 | x::r=>match b with
  | .len=>match r,k,x with
   | [],.slice _,.c (.v (.slice _ n _))=>.ret [] (.c (.v (.int .i64 n)))
   | [],.slice _,.c (.kD _ _ n _)=>.ret [] (.c (.v (.int .i64 n)))
   | [],.slice _,.c (.ir _ n _)=>.ret [] (.c (.v (.int .i64 n)))
   | [],.str,.c (.v (.string s))=>.ret [] (.c (.v (.int .i64 s.size)))
   | _,_,_=>.fail
  | .cap=>match r,k,x with
   | [],.slice _,.c (.v (.slice _ _ c))=>.ret [] (.c (.v (.int .i64 c)))
   | [],.slice _,.c (.kD _ _ _ c)=>.ret [] (.c (.v (.int .i64 c)))
   | [],.slice _,.c (.ir _ _ c)=>.ret [] (.c (.v (.int .i64 c)))
   | _,_,_=>.fail
  | .min=>match x with
   | .c (.v (.int k a))=>match foldI bH k a r with
    | some m=>.ret [] (.c (.v (.int k m)))
    | none=>.fail
   | _=>.fail
  | .max=>match x with
   | .c (.v (.int k a))=>match foldI maxI k a r with
    | some m=>.ret [] (.c (.v (.int k m)))
    | none=>.fail
   | _=>.fail
  | _=>.fail
def ub (t:TypeId)(i:TI)(v:SV):Q:=
 match i.k with
 | .iface=>.fail
 | _=>match v.ids,v.tF with
  | [],false=>.ret [] (.c (.w (.iface t (v.den fun _=>0))))
  | _,_=>.fail
def kl (T:cD)(bx:Nat->Option aH)(t:TypeId)(x:SV):Q:=
 match au T t with
 | some i=>match i.k with
  | .slice e=>match au T e with
   | some ei=>match jK ei.zero,x with
    | some zs,.c (.kD s o n _)=>match bx s with
     | some ⟨.row vs,ty⟩=>if Nat.beq ei.size 0||!(Nat.beq ei.size zs.length)||!(zs.all Value.oneCell') then .fail else .qV [o+n*ei.size<=vs.length] s ⟨.row (vs.take o++nA n zs++vs.drop (o+n*ei.size)),ty⟩
     | _=>.fail
    | _,_=>.fail
   | none=>.fail
  | _=>.fail
 | none=>.fail
def Em:List C->Option (List (OA×Nat×Nat))
 | []=>some []
 | .v (.slice p n c)::r=>match Em r with
  | some l=>some ((p,n,c)::l)
  | none=>none
 | _=>none
def jH (T:cD)(i:TI)(cs:List C)(k:Int):Q:=
 match i.k with
 | .arr n e=>match au T e,Em cs with
  | some ei,some l=>match ei.k with
   | .slice _=>if Nat.beq ei.size 1&&Nat.beq l.length n then .ret [0<=k/\k<(n:Int)] (.c (.v (.slice (l.getD k.toNat (none,0,0)).1 (l.getD k.toNat (none,0,0)).2.1 (l.getD k.toNat (none,0,0)).2.2))) else .fail
   | _=>.fail
  | _,_=>.fail
 | _=>.fail
def aE (T:cD)(ρ:Operand->Option SV)(bx:Nat->Option aH)(op:Op):Q:=
 match op with
 | .move x|.assign x=>match ρ x with
  | some v=>.ret [] v
  | none=>.fail
 | .pick c a b=>match ρ c with
  | some (.c .tt)=>match ρ a with
   | some v=>.ret [] v
   | none=>.fail
  | some (.c .ff)=>match ρ b with
   | some v=>.ret [] v
   | none=>.fail
  | _=>.fail
 | .alloc t=>match au T t with
  | some i=>.new [] ⟨.lit i.zero,t⟩ fun d=>.c (.ptr d 0)
  | none=>.fail
 | .box t x=>match ρ x with
  | some v=>match v.tF with
   | true=>.fail
   | false=>.new v.ee ⟨.lit v.cells,t⟩ fun d=>.c (.ptr d 0)
  | none=>.fail
 | .build t parts=>match au T t,partsOf ρ parts.toList with
  | some i,some ps=>match i.k with
   | .struct fs=>match eN T fs with
    | some pl=>match mi (fun j=>pl[j]?) i.zero ps with
     | some cs=>.ret (ps.flatMap fun x=>x.2.ee) (.agg cs)
     | none=>.fail
    | none=>.fail
   | .arr _ e=>match au T e with
    | some ei=>match mi (fun j=>some (j*ei.size,ei.size)) i.zero ps with
     | some cs=>.ret (ps.flatMap fun x=>x.2.ee) (.agg cs)
     | none=>.fail
    | none=>.fail
   | _=>.fail
  | _,_=>.fail
 | .buildSlice t len parts=>match au T t,partsOf ρ parts.toList with
  | some i,some ps=>match i.k with
   | .slice e=>match au T e with
    | some ei=>if Nat.ble (len*ei.size) 16777216&&Nat.beq ei.zero.length ei.size&&!(Nat.beq ei.size 0) then match mi (fun j=>some (j*ei.size,ei.size)) (rep len ei.zero) ps with
      | some cs=>.new (ps.flatMap fun x=>x.2.ee) ⟨.lit cs,e⟩ fun d=>.c (.kD d 0 len len)
      | none=>.fail
     else .fail
    | none=>.fail
   | _=>.fail
  | _,_=>.fail
 | .load t a=>match au T t,ρ a with
  | some i,some x=>hZ bx i x
  | _,_=>.fail
 | .store t a x=>match au T t,ρ a,ρ x with
  | some i,some av,some xv=>fI bx i av xv
  | _,_,_=>.fail
 | .nilCheck x=>match ρ x with
  | some (.c (.ptr s o))=>.ret [] (.c (.ptr s o))
  | some (.c (.v (.pointer p)))=>.ret [p.isSome=true] (.c (.v (.pointer p)))
  | _=>.fail
 | .binOp o xt x y _=>match ρ x,ρ y with
  | some (.c a),some (.c b)=>match b with
   | .v .nilIface=>match y with
    | .const _=>yZ T o xt a b
    | _=>.fail
   | b=>yZ T o xt a b
  | _,_=>.fail
 | .unOp .not _ x=>match ρ x with
  | some (.c .tt)=>.ret [] (.c .ff)
  | some (.c .ff)=>.ret [] (.c .tt)
  | some (.c (.v (.bool b)))=>.ret [] (.c (.v (.bool (!b))))
  | _=>.fail
 | .unOp .xor _ x=>match ρ x with
  | some (.c (.v (.int k n)))=>.ret [] (.c (.v (.int k (a_ .xor k (if k.signed then -1 else k.max) n))))
  | _=>.fail
 | .unOp .neg _ x=>match ρ x with
  | some (.c (.v (.int k n)))=>.ret [] (.c (.v (.int k (k.wrap (0-n)))))
  | _=>.fail
 | .convert src dst x=>match au T src,au T dst,ρ x with
  | some _,some i,some (.c (.v (.int _ n)))=>match i.k with
   | .int k=>.ret [] (.c (.v (.int k (k.wrap n))))
   | _=>.fail
  | _,_,_=>.fail
 | .makeFunc (.func f) first caps=>match first.toList with
  | []=>match bJ ρ caps.toList with
   | some xs=>match t_ xs with
    | some ss=>.ret [] (.c (.yx f ss))
    | none=>.fail
   | none=>.fail
  | _=>.fail
 | .makeSlice t l c=>match au T t,ρ l,ρ c with
  | some i,some lv,some cv=>xG T i lv cv
  | _,_,_=>.fail
 | .slice t x lo hi mx=>match au T t,ρ x,yQ ρ lo,yQ ρ hi,yQ ρ mx with
  | some i,some xv,some l,some h,some m=>match i.k with
   | .slice e=>match au T e with
    | some ei=>pL ei.size xv l h m
    | none=>.fail
   | _=>.fail
  | _,_,_,_,_=>.fail
 | .fieldAddr t x f=>match au T t,ρ x with
  | some i,some xv=>match i.k with
   | .struct fs=>match fs[f]? with
    | some (ft,off)=>match au T ft with
     | some fi=>if Nat.beq fi.size 0 then .fail else match xv with
      | .c (.ptr s o)=>.ret [] (.c (.ptr s (o+off)))
      | .c (.v (.pointer p))=>.ret [p.isSome=true] (.c (.v (.pointer (addrAdd p off))))
      | _=>.fail
     | none=>.fail
    | none=>.fail
   | _=>.fail
  | _,_=>.fail
 | .field t x f=>match au T t,ρ x with
  | some i,some (.agg cs)=>match i.k with
   | .struct fs=>match fs[f]? with
    | some (ft,off)=>match au T ft with
     | some fi=>match fi.k with
      | .struct _|.arr _ _=>.ret [] (.agg ((cs.drop off).take fi.size))
      | _=>match cs[off]? with
       | some c=>.ret [] (.c c)
       | none=>.fail
     | none=>.fail
    | none=>.fail
   | _=>.fail
  | _,_=>.fail
 | .indexAddr t x ix=>match au T t,ρ x,ρ ix with
  | some i,some xv,some iv=>fH T i xv iv
  | _,_,_=>.fail
 | .extract x j=>match ρ x with
  | some (.nC xs)=>match xs[j]? with
   | some v=>match pg v with
    | some y=>.ret [] y
    | none=>.fail
   | none=>.fail
  | _=>.fail
 | .call c=>match c.callee with
  | .builtin .append=>match bJ ρ c.args.toList,c.argTypes.toList with
   | some [b,x],[t,t']=>match au T t,au T t' with
    | some i,some i'=>match i.k,i'.k with
     | .slice e,.slice _=>match au T e with
      | some ei=>bS bx e ei b x
      | none=>.fail
     | _,_=>.fail
    | _,_=>.fail
   | _,_=>.fail
  | .builtin .clear=>match bJ ρ c.args.toList,c.argTypes.toList with
   | some [x],[t]=>kl T bx t x
   | _,_=>.fail
  | .builtin b=>match bJ ρ c.args.toList,c.argTypes.toList with
   | some xs,t::_=>match au T t with
    | some i=>jG b i.k xs
    | none=>.fail
   | _,_=>.fail
  | _=>.fail
 | .index t x ix=>match au T t,ρ x,ρ ix with
  | some i,some (.c (.v (.string s))),some (.c (.v (.int _ n)))=>match i.k with
   | .str=>.ret [0<=n/\n<(s.size:Int)] (.c (.v (.int .u8 ((s.data.toList.getD n.toNat 0).toNat:Int))))
   | _=>.fail
  | some i,some (.agg cs),some (.c (.v (.int _ n)))=>jH T i cs n
  | _,_,_=>.fail
 | .makeInterface t x=>match au T t,ρ x with
  | some i,some v=>ub t i v
  | _,_=>.fail
 | _=>.fail
def xT:List Prop->Prop->Prop
 | [],k=>k
 | p::r,k=>p/\xT r k
def View.Jw (V:View)(p:Addr):Nat->List C->Prop->Prop
 | _,[],k=>k
 | i,c::r,k=>V.at (p.add i) (c.den fun _=>0)/\V.Jw p (i+1) r k
def View.Is (V:View)(p:OA)(x:SV)(k:Prop):Prop:=
 match x with
 | .agg cs=>∃a,p=some a/\V.Jw a 0 cs k
 | .c c=>(∃a,p=some a/\V.at a (c.den fun _=>0))/\k
 | .nC _=>False
def JA (vs:List Value)(o size:Nat)(x:SV):Prop:=
 match x with
 | .agg cs=>o+size<=vs.length/\(vs.drop o).take size=cs.map (C.den fun _=>0)
 | .c c=>vs[o]?=some (c.den fun _=>0)
 | .nC _=>False
def dP (x:Nat):List Nat->Bool
 | []=>false
 | y::r=>cond (Nat.beq x y) true (dP x r)
def dedup:List Nat->List Nat
 | []=>[]
 | x::r=>let l:=dedup r;cond (dP x l) l (x::l)
def tg (l m:List Nat):Bool:=l.all fun x=>!(dP x m)
def HX (l m:List Nat):Bool:=l.all fun x=>dP x m
def C.rel (L:List Nat)(β:Nat->Nat)(J:C->Value):C->C
 | .ptr s o=>cond (dP s L) (.v (.pointer (some ⟨β s,o,none⟩))) (.ptr s o)
 | .kD s o n c=>cond (dP s L) (.v (.slice (some ⟨β s,o,none⟩) n c)) (.kD s o n c)
 | .ir s n c=>cond (dP s L) (.v (.slice (mA (β s) c) n c)) (.ir s n c)
 | .yx f ss=>cond (tg ss L) (.yx f ss) (.w (J (.yx f ss)))
 | x=>x
def SV.rel (L:List Nat)(β:Nat->Nat)(J:C->Value):SV->SV
 | .c x=>.c (x.rel L β J)
 | .agg cs=>.agg (cs.map (C.rel L β J))
 | .nC xs=>.nC (xs.map fun x=>(x.1,x.2.map (C.rel L β J)))
def aH.rel (L:List Nat)(β:Nat->Nat)(J:C->Value)(b:aH):aH:=
 match b.cs with
 | .row _=>b
 | .aO _=>b
 | .lit cs=>⟨.lit (cs.map (C.rel L β J)),b.ty⟩
def St.rel (st:St)(L:List Nat)(β:Nat->Nat)(J:C->Value):St:=
 ⟨fun t=>match st.ao t with|some x=>some (x.rel L β J)|none=>none,
   fun t=>cond (dP t L) none (match st.boxes t with|some b=>some (b.rel L β J)|none=>none)⟩
def View.sl (V:View)(a:OA)(xs:List Value):Prop:=∀i v,xs[i]?=some v->∃ad,a=some ad/\V.at (ad.add i) v
def ma (s d:Nat):Nat:=cond (Nat.blt s 100000) d (d+200000)
def zS (s:Nat)(vs:List Value)(n c size bytes:Nat)(ty:TypeId)(d:Nat)(st:St)(V:View)(K:St->View->Prop)(k:Nat)(xs:List Value):Prop:=
 (n+k)*bytes<=140737488355328/\n<=c/\c*size<=vs.length/\xs.length=k*size/\(∀v∈xs,v.oneCell'=true) /\
  match st.boxes (ma s d) with
  | some _=>False
  | none=>∀(_:Nat)(_:C->Value)(spare:List Value)(c':Nat),n+k<=c'->c'*size<=(n+k)*size+spare.length ->
   K (((st.box s ⟨.aO [],ty⟩).box (ma s d) ⟨.row (vs.take (n*size)++xs++spare),ty⟩).put (some d) (.c (.kD (ma s d) 0 (n+k) c'))) V
def qu (s:Nat)(vs:List Value)(n c size bytes:Nat)(ty:TypeId)(d:Nat)(st:St)(V:View)(K:St->View->Prop)(k:Nat)(xs:List Value):Prop:=
 (n+k)*bytes<=140737488355328/\n<=c/\c*size<=vs.length/\xs.length=k*size/\(∀v∈xs,v.oneCell'=true) /\
  match st.boxes (ma s d) with
  | some _=>False
  | none=>∀(spare:List Value)(c':Nat),n+k<=c'->c'*size<=(n+k)*size+spare.length ->
   K (((st.box s ⟨.aO [],ty⟩).box (ma s d) ⟨.aO (vs.take (n*size)++xs++spare),ty⟩).put (some d) (.c (.ir (ma s d) (n+k) c'))) V
def zT (vs:List Value)(n c size bytes:Nat)(ty:TypeId)(d:Nat)(st:St)(V:View)(K:St->View->Prop)(k:Nat)(xs:List Value):Prop:=
 (n+k)*bytes<=140737488355328/\c<n+k/\xs.length=k*size/\(∀v∈xs,v.oneCell'=true) /\
  match st.boxes d with
  | some _=>False
  | none=>∀(spare:List Value)(c':Nat),n+k<=c'->c'*size<=(n+k)*size+spare.length ->
   K ((st.box d ⟨.row (vs++xs++spare),ty⟩).put (some d) (.c (.kD d 0 (n+k) c'))) V
def qW (q:Q)(dst:Option Nat)(st:St)(V:View)(K:St->View->Prop):Prop:=
 match q with
 | .fail=>False
 | .ret sc x=>xT sc (K (st.put dst x) V)
 | .new sc b x=>match dst with
  | some d=>match st.boxes d with
   | none=>xT sc (K ((st.box d b).put (some d) (x d)) V)
   | some _=>False
  | none=>False
 | .qV sc s b=>match dst with
  | none=>xT sc (K (st.box s b) V)
  | some _=>False
 | .rd p sh=>sh.ex fun x=>V.Is p x (K (st.put dst x) V)
 | .mj vs o size sh=>sh.ex fun x=>JA vs o size x/\K (st.put dst x) V
 | .pH s vs n c x size bytes ty=>match dst with
  | none=>False
  | some d=>match x with
   | .inr xs=>qu s vs n c size bytes ty d st V K (xs.length / size) xs
   | .inl (a,k)=>∃xs:List Value,V.sl a xs/\xs.length=k*size/\qu s vs n c size bytes ty d st V K k xs
 | .app old ba vs n c x size bytes ty=>match dst with
  | none=>False
  | some d=>match old with
   | some s=>match x with
    | .inr xs=>zS s vs n c size bytes ty d st V K (xs.length / size) xs
    | .inl (a,k)=>∃xs:List Value,V.sl a xs/\xs.length=k*size/\zS s vs n c size bytes ty d st V K k xs
   | none=>∃vs:List Value,V.sl ba vs/\vs.length=n*size/\n<=c/\(ba.isNone=true->c=0)/\(match x with
    | .inr xs=>zT vs n c size bytes ty d st V K (xs.length / size) xs
    | .inl (a,k)=>∃xs:List Value,V.sl a xs/\xs.length=k*size/\(k=0->K (st.put (some d) (.c (.v (.slice ba n c)))) V)/\(k≠0->zT vs n c size bytes ty d st V K k xs))
def cW (β:Nat->Nat)(s b:Nat):Nat->Nat:=fun t=>cond (Nat.beq t s) b (β t)
def jP:List Nat->(Nat->Nat)->((Nat->Nat)->Prop)->Prop
 | [],β,k=>k β
 | s::r,β,k=>∀b:Nat,jP r (cW β s b) k
def jR (bx:Nat->Option aH)(s:Nat):List Nat:=match bx s with|some b=>b.cs.ids|none=>[]
def reach (bx:Nat->Option aH):Nat->List Nat->List Nat
 | 0,l=>l
 | n+1,l=>reach bx n (dedup (l++l.flatMap (jR bx)))
def fM (bx:Nat->Option aH)(l:List Nat):Bool:=l.all fun s=>HX (jR bx s) l
def KB (bx:Nat->Option aH)(b:aH)(β:Nat->Nat)(s:Nat):List Nat->Prop->Prop
 | [],k=>k
 | t::r,k=>cond (Nat.beq s t) (KB bx b β s r k) (match bx t with
  | some b'=>nV (FF b++FF b') (β s≠β t)->KB bx b β s r k
  | none=>False)
def gk (bx:Nat->Option aH)(β:Nat->Nat)(V:View):List Nat->Prop->Prop
 | [],k=>k
 | s::r,k=>match bx s with
  | some b=>nV (FF b) (V.w.heap[β s]?=some (b.obj β))->nV (FF b) (V.H (β s))->gk bx β V r (KB bx b β s r k)
  | none=>False
def vb (vs:List Value)(n b:Nat):Nat:=
 match vs with
 | []=>n
 | _::_=>b
def cI (bx:Nat->Option aH)(β:Nat->Nat)(n:Nat)(s:Nat):Nat:=
 match bx s with
 | some ⟨.aO vs,_⟩=>vb vs n (β s)
 | _=>β s
def C.kept:C->List Nat
 | .yx _ ss=>0::ss
 | c=>c.ids
def kd (mv:Option (Nat×Nat)):List C->List C->(List C->Prop)->Prop
 | [],_,K=>K []
 | c::r,z::zr,K=>match c with
  | .ir t _ _=>match mv with
   | some (m,nb)=>match Nat.beq t m with
    | true=>∃n c:Nat,kd mv r zr fun cs=>K (.ir nb n c::cs)
    | false=>False
   | none=>False
  | c=>match c.kept with
   | []=>(PN z).ex fun v=>kd mv r zr fun cs=>K (v::cs)
   | _=>kd mv r zr fun cs=>K (c::cs)
 | _,[],_=>False
def dC (T:cD)(mv:Option (Nat×Nat))(β:Nat->Nat)(V:View):List Nat->St->(St->Prop)->Prop
 | [],st,k=>k st
 | s::r,st,k=>match st.boxes s with
  | some ⟨.lit cs,ty⟩=>match au T ty with
   | some i=>kd mv cs i.zero fun cs'=>V.w.heap[β s]?=some (.cells (cs'.map (C.den β)).toArray ty (0,0))/\dC T mv β V r (st.box s ⟨.lit cs',ty⟩) k
   | none=>False
  | some ⟨.row _,ty⟩=>∃vs:List Value,V.w.heap[β s]?=some (.cells vs.toArray ty (0,0))/\dC T mv β V r (st.box s ⟨.row vs,ty⟩) k
  | some ⟨.aO vs,ty⟩=>vs≠[]/\∃vs':List Value,vs'≠[]/\V.w.heap[β s]?=some (.cells vs'.toArray ty (0,0))/\dC T mv β V r (st.box s ⟨.aO vs',ty⟩) k
  | _=>False
def oo (bx:Nat->Option aH)(β:Nat->Nat)(V:View):List Nat->Prop->Prop
 | [],k=>k
 | s::r,k=>match bx s with
  | some b=>nV (FF b) (V.aZ (β s) (b.obj β))->oo bx β V r k
  | none=>False
def mS:List C->List Nat
 | []=>[]
 | .ir t _ _::r=>t::mS r
 | _::r=>mS r
def nZ (bx:Nat->Option aH)(L:List Nat):List Nat:=dedup (L.flatMap fun s=>match bx s with|some ⟨.lit cs,_⟩=>mS cs|_=>[])
def kf:List SV->List Nat
 | []=>[]
 | .c (.ir s _ _)::_=>[s]
 | .c (.kD s 0 _ _)::_=>[s]
 | _::r=>kf r
def rM (nb:Nat):List (Bool×List C)->List (Bool×List C)
 | []=>[]
 | (false,[.v (.slice _ n c)])::r=>(false,[.ir nb n c])::r
 | x::r=>x::rM nb r
def yH (nb:Nat):List C->List C
 | []=>[]
 | .v (.slice _ n c)::r=>.ir nb n c::r
 | x::r=>x::yH nb r
def pB (nb:Nat):SV->SV
 | .c (.v (.slice _ n c))=>.c (.ir nb n c)
 | .agg cs=>.agg (yH nb cs)
 | .nC xs=>.nC (rM nb xs)
 | x=>x
def yI (T:cD):List TypeId->Option TypeId
 | []=>none
 | t::r=>match au T t with
  | some i=>match i.k with
   | .slice e=>some e
   | _=>yI T r
  | none=>none
def Gy (T:cD)(ty:TypeId):Option TypeId:=
 match au T ty with
 | some i=>match i.k with
  | .slice e=>some e
  | .tuple ts=>yI T ts
  | .struct fs=>yI T (fs.map Prod.fst)
  | _=>none
 | none=>none
def aG (β:Nat->Nat)(xs:List SV):Array Value:=(xs.map (SV.den β)).toArray
inductive CM where
 | none|lend|rel|gi|give
def dY (m:Option Nat)(d:Nat):Nat:=
 match m with
 | some m=>ma m d
 | Option.none=>d
def Xa (m:Option Nat)(nb:Nat):Option (Nat×Nat):=
 match m with
 | some m=>some (m,nb)
 | Option.none=>Option.none
def AM (m:Option Nat)(L:List Nat):List Nat:=
 match m with
 | some m=>L.filter fun s=>!(Nat.beq s m)
 | Option.none=>L
def nS (m:Option Nat)(ety:TypeId)(st:St):St:=
 match m with
 | some m=>st.box m ⟨.aO [],ety⟩
 | Option.none=>st
def u_ (m:Option Nat)(st:St)(β:Nat->Nat)(b':Nat):Prop:=
 match m with
 | some m=>match st.boxes m with
  | some ⟨.aO vs,_⟩=>vs≠[]/\b'=β m
  | _=>b'=β m
 | Option.none=>False
def bF (T:cD)(give:Bool)(sh:Sh)(L:List Nat)(m:Option Nat)(d:Nat)(ety:TypeId)(β:Nat->Nat)(st:St)(V':View)(K:St->View->Prop)(r':Value)(dO:View):Prop:=
 ∃(b':Nat)(vs':List Value),(vs'≠[]->dO.w.heap[b']?=some (.cells vs'.toArray ety (0,0)))/\(vs'≠[]->V'.w.heap.size<=b'\/u_ m st β b') /\
  sh.ex fun x=>r'=(cond give (pB (dY m d) x) x).den (cW β (dY m d) b') /\
   dC T (Xa m (dY m d)) (cW β (dY m d) b') dO (AM m L) ((nS m ety st).box (dY m d) ⟨.aO vs',ety⟩) fun st'=>K (st'.put (some d) (cond give (pB (dY m d) x) x)) (dO.shut.hideG (vs'≠[]) b')
def zf (bx:Nat->Option aH)(m ety:Nat):Bool:=
 match bx m with
 | some ⟨_,t⟩=>Nat.beq t ety
 | Option.none=>true
def cX (st:St)(L:List Nat)(ty:TypeId):St:=L.foldl (fun st s=>st.box s ⟨.aO [],ty⟩) st
def hE (st:St)(m:Option Nat)(d:Nat):Bool:=
 match st.boxes (dY m d) with
 | some _=>false
 | Option.none=>true
def ew (P:Program)(T:cD)(m:CM)(f:FuncId)(xs:List SV)(ty:TypeId)(dst:Option Nat)(st:St)(V:View)(K:St->View->Prop):Prop:=
 match Sw T ty with
 | Option.none=>False
 | some sh=>match reach st.boxes 3 (dedup (xs.flatMap SV.ids)) with
  | []=>match m with
   | .give=>match dst,Gy T ty with
    | some d,some ety=>match hE st Option.none d with
     | false=>False
     | true=>∀V':View,V.Le V'->Acts P f (aG (fun _=>0) xs) V' (bF T true sh [] Option.none d ety (fun _=>0) st V' K)
    | _,_=>False
   | .gi=>match sh,dst with
    | .val (.one .ptr),some d=>match st.boxes d with
     | some _=>False
     | Option.none=>match au T ty with
      | some ti=>match ti.k with
       | .ptr e=>match au T e with
        | some ei=>∀V':View,V.Le V'->Acts P f (aG (fun _=>0) xs) V' fun r dO=>∃b:Nat,Lf (ei.zero.map PN) fun cs=>
          r=.pointer (some ⟨b,0,Option.none⟩)/\V'.w.heap.size<=b/\dO.aZ b (.cells (cs.map (C.den fun _=>0)).toArray e (0,0))/\K ((st.box d ⟨.lit cs,e⟩).put (some d) (.c (.ptr d 0))) (dO.I2 b)
        | Option.none=>False
       | _=>False
      | Option.none=>False
    | _,_=>False
   | _=>∀V':View,V.Le V'->Acts P f (aG (fun _=>0) xs) V' fun r dO=>sh.ex fun x=>r=x.den (fun _=>0)/\K (st.put dst x) dO
  | s::r=>match fM st.boxes (s::r) with
   | false=>False
   | true=>match m with
    | .none|.gi=>False
    | .give=>match dst,Gy T ty,kf xs,nZ st.boxes (s::r) with
     | some d,some ety,[],[]=>match hE st Option.none d with
      | false=>False
      | true=>∀V':View,V.Le V'->jP (s::r) (fun _=>0) fun β=>gk st.boxes β V' (s::r)
       (Acts P f (aG β xs) (V'.lend ((s::r).map (cI st.boxes β V'.w.heap.size))) (bF T true sh (s::r) Option.none d ety β st V' K))
     | some d,some ety,[m],[]=>match zf st.boxes m ety with
      | true=>match hE st (some m) d with
       | false=>False
       | true=>∀V':View,V.Le V'->jP (s::r) (fun _=>0) fun β=>gk st.boxes β V' (s::r)
        (Acts P f (aG β xs) (V'.lend ((s::r).map (cI st.boxes β V'.w.heap.size))) (bF T true sh (s::r) (some m) d ety β st V' K))
      | false=>match hE (cX st (s::r) 0) Option.none d with
       | false=>False
       | true=>match (s::r).all fun t=>Nat.blt t 100000 with
        | false=>False
        | true=>∀V':View,V.Le V'->jP (s::r) (fun _=>0) fun β=>oo st.boxes β V' (s::r)
         (Acts P f (aG β xs) V' (bF T true sh [] Option.none d ety (fun _=>0) (cX st (s::r) 0) V' K))
     | _,_,_,_=>False
    | .lend=>match nZ st.boxes (s::r) with
     | []=>∀V':View,V.Le V'->jP (s::r) (fun _=>0) fun β=>gk st.boxes β V' (s::r)
      (Acts P f (aG β xs) (V'.lend ((s::r).map (cI st.boxes β V'.w.heap.size))) fun r' dO=>sh.ex fun x=>r'=x.den (fun _=>0)/\dC T Option.none β dO (s::r) st fun st'=>K (st'.put dst x) dO.shut)
     | [m]=>match dst,jq st.boxes m with
      | some d,some ety=>match hE st (some m) d with
       | false=>False
       | true=>∀V':View,V.Le V'->jP (s::r) (fun _=>0) fun β=>gk st.boxes β V' (s::r)
        (Acts P f (aG β xs) (V'.lend ((s::r).map (cI st.boxes β V'.w.heap.size))) (bF T false sh (s::r) (some m) d ety β st V' K))
      | _,_=>False
     | _=>False
    | .rel=>match (s::r).all fun t=>Nat.blt t 100000 with
     | false=>False
     | true=>∀V':View,V.Le V'->jP (s::r) (fun _=>0) fun β=>oo st.boxes β V' (s::r)
      (Acts P f (aG β xs) V' fun r' dO=>sh.ex fun x=>r'=x.den (fun _=>0)/\∀J:C->Value,K ((st.rel (s::r) β J).put dst x) dO)
def kr (bx:Nat->Option aH):List SV->Option (List Value×Nat×List SV)
 | []=>none
 | x::r=>match x with
  | .c (.ir s n c)=>match bx s with
   | some ⟨.aO vs,_⟩=>some (vs,c,.c (.v (.slice none n c))::r)
   | _=>none
  | x=>match kr bx r with
   | some (vs,c,r')=>some (vs,c,x::r')
   | none=>none
def je (P:Program)(T:cD)(m:CM)(f:FuncId)(xs:List SV)(ty:TypeId)(dst:Option Nat)(st:St)(V:View)(K:St->View->Prop):Prop:=
 match m with
 | .lend=>match kr st.boxes xs with
  | some (vs,c,xs')=>(vs=[]->c=0/\ew P T .lend f xs' ty dst st V K)/\(vs≠[]->ew P T .lend f xs ty dst st V K)
  | none=>ew P T .lend f xs ty dst st V K
 | m=>ew P T m f xs ty dst st V K
def sS (ss:List Nat):List SV:=ss.map fun s=>.c (.ptr s 0)
inductive Hint where
 | free|own (l:List Nat)
def fZ (op:Op):List Operand:=
 match op with
 | .load _ a=>[a]
 | .store _ a _=>[a]
 | .call ⟨.value f,args,_⟩=>args.toList++[f]
 | .call ⟨.builtin .append,args,_⟩=>args.toList
 | _=>[]
def dJ (bx:Nat->Option aH)(op:Op)(l:List Nat):List Nat:=
 match op with
 | .call _=>reach bx 3 (dedup l)
 | _=>l
def CV (P:Program)(t:TypeId)(name:String):Option FuncId:=
 match P.info? t,P.underlying t with
 | some i,some d=>match i.methods.find? (fun m=>m.name==name) with
  | some m=>match m.path.toList,m.func,d with
   | [],some (f,false),.struct _=>some f
   | _,_,_=>none
  | none=>none
 | _,_=>none
def cw (P:Program)(T:cD)(m:CM)(o:Oper)(st:St)(V:View)(K:St->View->Prop):Prop:=
 match o.op with
 | .call ⟨.value Ik,args,_⟩=>match bJ st.aR args.toList with
  | some xs=>match st.aR Ik with
   | some (.c (.yx f ss))=>je P T m f (xs++sS ss) o.type o.dst st V K
   | _=>False
  | none=>False
 | .call ⟨.invoke recv name,args,_⟩=>match bJ st.aR args.toList with
  | some xs=>match st.aR recv with
   | some (.c (.w (.iface t v)))=>match CV P t name with
    | some f=>je P T m f (.c (.w v)::xs) o.type o.dst st V K
    | none=>False
   | _=>False
  | none=>False
 | op=>qW (aE T st.aR st.boxes op) o.dst st V K
def ch (P:Program)(T:cD)(m:CM)(h:Hint)(o:Oper)(st:St)(V:View)(K:St->View->Prop):Prop:=
 match h with
 | .free=>cw P T m o st V K
 | .own l=>match bJ st.aR (fZ o.op) with
  | some xs=>match HX (dJ st.boxes o.op (xs.flatMap SV.ids)) l with
   | true=>cw P T m o st V K
   | false=>False
  | none=>False
def ib:SV:=.nC []
def oJ (P:Program)(T:cD)(m:CM)(h:Hint)(ops:Array Oper)(o:Oper)(st:St)(V:View)(K:St->View->Prop):Prop:=
 match o.guard with
 | none=>ch P T m h o st V K
 | some (j,b)=>match (ops[j]?).bind (·.dst) with
  | none=>False
  | some g=>match st.ao g with
   | some (.c .tt)=>match b with
    | true=>ch P T m h o st V K
    | false=>K (st.put o.dst ib) V
   | some (.c .ff)=>match b with
    | true=>K (st.put o.dst ib) V
    | false=>ch P T m h o st V K
   | some (.c (.v (.bool c)))=>match b with
    | true=>(c=true->ch P T m h o (st.put (some g) (.c .tt)) V K)/\(c=false->K ((st.put (some g) (.c .ff)).put o.dst ib) V)
    | false=>(c=true->K ((st.put (some g) (.c .tt)).put o.dst ib) V)/\(c=false->ch P T m h o (st.put (some g) (.c .ff)) V K)
   | some (.nC _)=>K (st.put o.dst ib) V
   | _=>False
inductive P0 where
 | pure|load|store|alloc|call|jB|odd|gi|app|give
def aU (LF RF:List Nat):Op->P0
 | .move _|.assign _|.pick ..| .build ..| .nilCheck _|.binOp ..| .unOp ..| .convert ..| .makeFunc ..| .slice ..| .fieldAddr ..| .field ..| .indexAddr ..| .extract ..| .index ..| .makeInterface ..=>.pure
 | .load ..=>.load
 | .store ..=>.store
 | .alloc _|.box ..| .buildSlice ..| .makeSlice ..=>.alloc
 | .call ⟨.builtin .len,_,_⟩|.call ⟨.builtin .cap,_,_⟩=>.pure
 | .call ⟨.builtin .append,_,_⟩=>.app
 | .call ⟨.value (.func f),_,_⟩=>match dP f LF with
  | true=>match dP (f+1000000) LF with
   | true=>.give
   | false=>.jB
  | false=>match dP f RF with
   | true=>.odd
   | false=>match dP (f+1000000) RF with
    | true=>.gi
    | false=>.call
 | .call ⟨.value _,_,_⟩=>.jB
 | .call ⟨.invoke _ _,_,_⟩=>.call
 | _=>.odd
def f_ (op:Op):List Nat:=op.operands.toList.filterMap fun|.tmp t=>some t|_=>none
def c_ (ops:Array Oper)(o:Oper):List Nat:=
 match o.guard with
 | none=>[]
 | some (j,_)=>match (ops[j]?).bind (·.dst) with
  | some g=>[g]
  | none=>[]
def dz (o:Oper):List Nat:=match o.dst with|some d=>[d]|none=>[]
def ot (c:P0)(h:Hint)(d:List Nat):Option (List Nat×List Nat):=
 match c,h with
 | .pure,.free=>some ([],[])
 | .call,.free=>some ([],[])
 | .alloc,.free=>some (d,d)
 | .load,.own l=>some (l,[])
 | .store,.own l=>some (l,l)
 | .jB,.own l=>some (l,l++d++d.map (·+ 200000))
 | .app,.own l=>some (l,l++d++d.map (·+ 200000))
 | .give,.own l=>some (l,l++d++d.map (·+ 200000))
 | _,_=>none
def kY:P0->Bool
 | .pure|.load|.store|.alloc=>true
 | _=>false
def indep (LF RF:List Nat)(ops:Array Oper)(h1 h2:Hint)(o1 o2:Oper):Bool:=
 kY (aU LF RF o1.op) &&
 tg (dz o1) (f_ o2.op++c_ ops o2++dz o2)&&tg (dz o2) (f_ o1.op++c_ ops o1) &&
 tg (c_ ops o1) (f_ o2.op)&&tg (c_ ops o2) (f_ o1.op) &&
 match ot (aU LF RF o1.op) h1 (dz o1),ot (aU LF RF o2.op) h2 (dz o2) with
 | some (r1,w1),some (r2,w2)=>tg w1 r2&&tg w2 r1&&tg w1 w2
 | _,_=>false
def Nt (ops:List Oper)(t:Nat):Option Oper:=ops.find? fun o=>match o.dst with|some d=>Nat.beq d t|none=>false
def uk (st:St)(ops:List Oper):Nat->Operand->List Nat
 | 0,_=>[]
 | n+1,.tmp t=>match Nt ops t with
  | some o=>match o.op with
   | .alloc _|.box ..| .buildSlice ..| .makeSlice ..=>[t]
   | .call _=>[t,t+200000]
   | .assign x=>uk st ops n x++match st.ao t with
    | some x=>x.ids
    | none=>[]
   | .load _ a=>(uk st ops n a).flatMap (jR st.boxes)
   | op=>op.operands.toList.flatMap (uk st ops n)
  | none=>match st.ao t with
   | some x=>x.ids
   | none=>[]
 | _,_=>[]
def GG (LF RF:List Nat)(st:St)(ops:List Oper)(o:Oper):Hint:=
 match aU LF RF o.op with
 | .load|.store=>.own (dedup ((fZ o.op).flatMap (uk st ops 10)))
 | .jB|.app|.give=>.own (reach st.boxes 3 (dedup ((fZ o.op).flatMap (uk st ops 10))))
 | _=>.free
def EC (ops:List Oper):List Nat:=
 ops.foldl (fun acc o=>acc++[o.after.toList.foldl (fun s e=>cond (Region.binds .any e) (Nat.lor (Nat.lor (Nat.shiftLeft 1 e.on) (acc.getD e.on 0)) s) s) 0]) []
def K3 (m i:Nat):Bool:=Nat.beq (Nat.land (Nat.shiftRight m i) 1) 1
def I9 (LF RF:List Nat)(o:Oper):Bool:=match aU LF RF o.op with|.call|.jB|.odd|.gi|.app|.give=>true|_=>false
def Dc (ops:Array Oper)(done:List Nat)(i:Nat):Bool:=
 match ops[i]? with
 | some o=>!(dP i done)&&o.after.toList.all fun e=>!(Region.binds .any e)||dP e.on done
 | none=>false
def zi (LF RF:List Nat)(ops:Array Oper):Nat->List Nat->List Nat
 | 0,_=>[]
 | n+1,done=>
  let rs:=(List.range ops.size).filter (Dc ops done)
  match rs.find? (fun i=>match ops[i]? with|some o=>!(I9 LF RF o)|none=>false) with
  | some i=>i::zi LF RF ops n (i::done)
  | none=>match rs with
   | i::_=>i::zi LF RF ops n (i::done)
   | []=>[]
def mV (LF RF:List Nat)(ops:Array Oper):List Nat:=zi LF RF ops ops.size []
def rP (LF RF:List Nat)(ops:Array Oper)(hs:List Hint)(an:List Nat):List Nat->Bool
 | []=>true
 | i::r=>(r.all fun j=>K3 (an.getD j 0) i||match ops[i]?,ops[j]? with|some a,some b=>indep LF RF ops (hs.getD i .free) (hs.getD j .free) a b|_,_=>false)&&rP LF RF ops hs an r
def og (ops:Array Oper):List Nat->List Nat->Bool
 | _,[]=>true
 | done,i::r=>Dc ops done i&&og ops (i::done) r
def Ec (LF RF:List Nat)(ops:Array Oper)(hs:List Hint)(l:List Nat):Bool:=
 Nat.beq l.length ops.size&&((List.range ops.size).all fun i=>dP i l)&&og ops [] l&&rP LF RF ops hs (EC ops.toList) l
def H5 (P:Program)(T:cD)(m:Nat->CM)(hint:Nat->Hint)(ops:Array Oper):List Nat->St->View->(St->View->Prop)->Prop
 | [],st,V,K=>K st V
 | i::r,st,V,K=>match ops[i]? with
  | some o=>oJ P T (m i) (hint i) ops o st V fun st' V'=>H5 P T m hint ops r st' V' K
  | none=>False
def iW (LF RF:List Nat)(ops:Array Oper)(i:Nat):CM:=
 match ops[i]? with
 | some o=>match aU LF RF o.op with
  | .jB=>.lend
  | .odd=>.rel
  | .gi=>.gi
  | .give=>.give
  | _=>.none
 | Option.none=>.none
def Ox (LF RF:List Nat)(ops:Array Oper)(i:Nat):CM:=
 match ops[i]? with
 | some o=>match aU LF RF o.op with
  | .jB=>.lend
  | .gi=>.gi
  | .give=>.give
  | _=>.rel
 | Option.none=>.none
structure Tm where
 τ:Type
 gh:Bool:=false
 Rv:List Nat
 N4:List Nat
 ao:τ->List (Nat×SV)
 boxes:τ->List (Nat×aH)
structure KO where
 τ:Type
 ao:τ->List (Nat×SV)
 boxes:τ->List (Nat×aH)
def D2 {α:Type}(f:Nat->Option α):List Nat->List (Nat×α)
 | []=>[]
 | t::r=>match f t with
  | some x=>(t,x)::D2 f r
  | none=>D2 f r
def Tm.at (A:Tm)(st:St):KO:=⟨A.τ,fun x=>D2 st.ao A.Rv++A.ao x,fun x=>D2 st.boxes A.N4++A.boxes x⟩
def mK (ρ:List (Nat×Nat))(s s':Nat):Bool:=
 match au ρ s' with
 | some t=>Nat.beq s t
 | none=>Nat.beq s s'
def w_ (ρ:List (Nat×Nat)):List Nat->List Nat->Bool
 | [],[]=>true
 | s::r,s'::r'=>mK ρ s s'&&w_ ρ r r'
 | _,_=>false
def PC (ρ:List (Nat×Nat)):C->C->List Prop
 | .v (.int k a),.v (.int k' b)=>cond (tG k k') [a=b] [False]
 | .v (.bool a),.v (.bool b)=>[a=b]
 | .tt,.v (.bool b)=>[true=b]
 | .ff,.v (.bool b)=>[false=b]
 | .v (.slice a n c),.v (.slice a' n' c')=>[a=a',n=n',c=c']
 | .v (.slice a n c),.ir _ n' c'=>[a=none,n=n',c=c',c=0]
 | .v (.pointer p),.v (.pointer q)=>[p=q]
 | .v x,.v y=>[x=y]
 | .w x,.w y=>[x=y]
 | .w x,.v y=>[x=y]
 | .v x,.w y=>[x=y]
 | .tt,.tt=>[]
 | .ff,.ff=>[]
 | .ptr s o,.ptr s' o'=>cond (mK ρ s s') [o=o'] [False]
 | .kD s o n c,.kD s' o' n' c'=>cond (mK ρ s s') [o=o',n=n',c=c'] [False]
 | .kD s o n c,.ir s' n' c'=>cond (mK ρ s s') [o=0,n=n',c=c',c≠0] [False]
 | .ir s n c,.ir s' n' c'=>cond (mK ρ s s') [n=n',c=c'] [False]
 | .yx f ss,.yx g ts=>cond (w_ ρ ss ts) [f=g] [False]
 | _,_=>[False]
def CB (ρ:List (Nat×Nat)):List C->List C->List Prop
 | [],[]=>[]
 | a::r,b::s=>PC ρ a b++CB ρ r s
 | _,_=>[False]
def Lb (ρ:List (Nat×Nat)):SV->SV->List Prop
 | .c a,.c b=>PC ρ a b
 | .agg l,.agg m=>CB ρ l m
 | _,_=>[False]
def SV.plain:SV->Bool
 | .nC _=>false
 | _=>true
def Gs (ρ:List (Nat×Nat))(a b:aH):List Prop:=
 match a.cs,b.cs with
 | .lit l,.lit m=>cond (Nat.beq a.ty b.ty) (CB ρ l m) [False]
 | .row l,.row m=>cond (Nat.beq a.ty b.ty) [l=m] [False]
 | .aO l,.aO m=>cond (Nat.beq a.ty b.ty) [l=m] [False]
 | .row l,.aO m=>cond (Nat.beq a.ty b.ty) [l=m] [False]
 | .lit l,.aO m=>match jK l with
  | some ws=>cond (Nat.beq a.ty b.ty) [ws=m] [False]
  | none=>[False]
 | _,_=>[False]
def O4:C->C->List (Nat×Nat)
 | .ptr s _,.ptr s' _=>[(s',s)]
 | .kD s _ _ _,.kD s' _ _ _=>[(s',s)]
 | .kD s _ _ _,.ir s' _ _=>[(s',s)]
 | .ir s _ _,.ir s' _ _=>[(s',s)]
 | .yx _ ss,.yx _ ts=>ts.zip ss
 | _,_=>[]
def HK:List C->List C->List (Nat×Nat)
 | a::r,b::s=>O4 a b++HK r s
 | _,_=>[]
def O5:SV->SV->List (Nat×Nat)
 | .c a,.c b=>O4 a b
 | .agg l,.agg m=>HK l m
 | _,_=>[]
def Mj (st:St):List (Nat×SV)->List (Nat×Nat)
 | []=>[]
 | (t,x)::r=>match st.ao t with
  | some y=>O5 y x++Mj st r
  | none=>Mj st r
def Fo (st:St)(ρ:List (Nat×Nat)):List (Nat×aH)->List (Nat×Nat)
 | []=>[]
 | (t,x)::r=>match au ρ t with
  | some s=>match st.boxes s with
   | some y=>(match y.cs,x.cs with|.lit l,.lit m=>HK l m|_,_=>[])++Fo st ρ r
   | none=>Fo st ρ r
  | none=>Fo st ρ r
def HJ (st:St)(ss:List (Nat×SV))(bs:List (Nat×aH)):List (Nat×Nat):=
 let ρ1:=Mj st ss
 let ρ2:=ρ1++Fo st ρ1 bs
 let ρ3:=ρ2++Fo st ρ2 bs
 ρ3++Fo st ρ3 bs
def ze (ρ:List (Nat×Nat))(t:Nat):Nat:=
 match au ρ t with
 | some s=>s
 | none=>t
def xK (ρ:List (Nat×Nat)):List Nat->Bool
 | []=>true
 | t::r=>(Nat.blt t 100000==Nat.blt (ze ρ t) 100000)&&(Nat.blt t 100000||Nat.ble 200000 t||Nat.beq (ze ρ t) t)&&(r.all fun u=>!(Nat.beq (ze ρ t) (ze ρ u)))&&xK ρ r
def k_ (ρ:List (Nat×Nat)):List (Nat×aH)->List Nat
 | []=>[]
 | (t,x)::r=>match x.cs with
  | .aO _=>match au ρ t with
   | some _=>t::k_ ρ r
   | none=>k_ ρ r
  | _=>t::k_ ρ r
def IM (ρ:List (Nat×Nat))(st:St):List (Nat×SV)->List Prop
 | []=>[]
 | (t,x)::r=>match st.ao t with
  | some y=>Lb ρ y x++IM ρ st r
  | none=>[False]
def EX (ρ:List (Nat×Nat))(st:St):List (Nat×aH)->List Prop
 | []=>[]
 | (t,x)::r=>match x.cs,au ρ t with
  | .aO l,none=>(l=[])::EX ρ st r
  | _,_=>match st.boxes (ze ρ t) with
   | some y=>Gs ρ y x++EX ρ st r
   | none=>[False]
def Ns (ρ:List (Nat×Nat))(bs:List (Nat×aH)):List Prop:=cond (xK ρ (k_ ρ bs)) [] [False]
def lu (ss:List (Nat×SV))(bs:List (Nat×aH)):Bool:=
 let l:=bs.map (·.1)
 (ss.all fun x=>x.2.ids.all fun s=>dP s l)&&(bs.all fun x=>x.2.cs.ids.all fun s=>dP s l)
def KO.st (A:KO)(x:A.τ):St:=⟨au (A.ao x),au (A.boxes x)⟩
def KY:List Prop->Prop
 | []=>True
 | [p]=>p
 | p::r=>p/\KY r
def KO.fits (A:KO)(st:St)(x:A.τ)(k:Prop):Prop:=
 let ρ:=HJ st (A.ao x) (A.boxes x)
 KY (IM ρ st (A.ao x)++EX ρ st (A.boxes x)++Ns ρ (A.boxes x))/\k
def keyOf:Code->Nat
 | .region id _ _=>id
 | .seq a _=>keyOf a
 | .cond _ a b=>match keyOf a with
  | 1000000=>keyOf b
  | n=>n
 | .block _ a=>keyOf a
 | .loop a=>keyOf a
 | .scope a=>keyOf a
 | _=>1000000
abbrev zO:=List (Nat×Tm)
def nE:zO->Nat->Option Tm
 | [],_=>none
 | (s,x)::r,t=>cond (Nat.beq t s) (some x) (nE r t)
def KD (RF:List Nat)(id:Nat):List Nat:=RF.filterMap fun x=>cond (Nat.beq (x / 100000) (100+id)) (some (x%100000)) none
def Ev (l:List Nat)(st:St)(V:View)(K:St->View->Prop):Prop:=
 match l with
 | []=>K st V
 | s::r=>match fM st.boxes (s::r)&&(s::r).all fun t=>Nat.blt t 100000 with
  | false=>False
  | true=>∀V':View,V.Le V'->jP (s::r) (fun _=>0) fun β=>oo st.boxes β V' (s::r) (∀J:C->Value,K (st.rel (s::r) β J) V')
def BE (P:Program)(T:cD)(LF RF:List Nat)(ops:Array Oper)(draw:Bool)(st:St)(V:View)(K:St->View->Prop):Prop:=
 match draw with
 | false=>H5 P T (Ox LF RF ops) (fun _=>.free) ops (List.range ops.size) st V K
 | true=>let hs:=ops.toList.map (GG LF RF st ops.toList)
  match Ec LF RF ops hs (mV LF RF ops) with
  | true=>H5 P T (iW LF RF ops) (fun i=>hs.getD i .free) ops (mV LF RF ops) st V K
  | false=>False
def SI (F:St->View->(Exit->St->View->Prop)->Prop):Nat->St->View->(Exit->St->View->Prop)->Prop
 | 0,_,_,_=>False
 | n+1,st,V,K=>F st V fun e st' V'=>match e with
  | .normal=>SI F n st' V' K
  | e=>K e st' V'
def vc (P:Program)(T:cD)(LF RF:List Nat)(L J:zO):Code->St->View->(Exit->St->View->Prop)->Prop
 | .skip,st,V,K=>K .normal st V
 | .region id ops draw,st,V,K=>match nE J (600000+id) with
  | none=>Ev (KD RF id) st V fun st' V'=>BE P T LF RF ops draw st' V' (K .normal)
  | some A=>∃I:A.τ->View->Prop,Ev (KD RF id) st V (fun st' V'=>BE P T LF RF ops draw st' V' fun HU dO=>∃x,(A.at st).fits HU x (I x dO)) /\
   ∀x V',V.Le V'->I x V'->(lu ((A.at st).ao x) ((A.at st).boxes x)=true/\K .normal ((A.at st).st x) V')
 | .seq a b,st,V,K=>vc P T LF RF L J a st V fun e st' V'=>match e with
  | .normal=>vc P T LF RF L J b st' V' K
  | e=>K e st' V'
 | .cond c a b,st,V,K=>match nE J (keyOf (.cond c a b)) with
  | none=>match st.aR c with
   | some (.c .tt)=>vc P T LF RF L J a st V K
   | some (.c .ff)=>vc P T LF RF L J b st V K
   | some (.c (.v (.bool t)))=>(t=true->vc P T LF RF L J a st V K)/\(t=false->vc P T LF RF L J b st V K)
   | _=>False
  | some A=>match st.aR c with
   | some (.c .tt)=>vc P T LF RF L J a st V K
   | some (.c .ff)=>vc P T LF RF L J b st V K
   | some (.c (.v (.bool t)))=>∃I:A.τ->View->Prop,
    ((t=true->vc P T LF RF L J a st V fun e st' V'=>match e with
     | .normal=>∃x,(A.at st).fits st' x (I x V')
     | e=>K e st' V') /\
      (t=false->vc P T LF RF L J b st V fun e st' V'=>match e with
     | .normal=>∃x,(A.at st).fits st' x (I x V')
     | e=>K e st' V')) /\
    ∀x V',V.Le V'->I x V'->(lu ((A.at st).ao x) ((A.at st).boxes x)=true/\K .normal ((A.at st).st x) V')
   | _=>False
 | .block id a,st,V,K=>match nE J (500000+id) with
  | none=>vc P T LF RF L J a st V fun e st' V'=>match e with
   | .exit i=>cond (Nat.beq i id) (K .normal st' V') (K (.exit i) st' V')
   | e=>K e st' V'
  | some A=>∃I:A.τ->View->Prop,vc P T LF RF L J a st V (fun e st' V'=>match e with
   | .exit i=>cond (Nat.beq i id) (∃x,(A.at st).fits st' x (I x V')) (K (.exit i) st' V')
   | .normal=>∃x,(A.at st).fits st' x (I x V')
   | e=>K e st' V')/\∀x V',V.Le V'->I x V'->(lu ((A.at st).ao x) ((A.at st).boxes x)=true/\K .normal ((A.at st).st x) V')
 | .loop a,st,V,K=>match nE L (keyOf a) with
  | none=>SI (fun st V K=>vc P T LF RF L J a st V K) 3 st V K
  | some A=>match A.gh with
   | false=>∃(I:A.τ->View->Prop)(m:A.τ->Nat),(∃x,(A.at st).fits st x (I x V))/\∀x V',V.Le V'->I x V'->(lu ((A.at st).ao x) ((A.at st).boxes x)=true /\
    vc P T LF RF L J a ((A.at st).st x) V' fun e st' dO=>match e with
     | .normal=>∃y,m y<m x/\(A.at st).fits st' y (I y dO)
     | e=>K e st' dO)
   | true=>∃I:A.τ->Nat->View->Prop,(∃x k,(A.at st).fits st x (I x k V))/\∀x k V',V.Le V'->I x k V'->(lu ((A.at st).ao x) ((A.at st).boxes x)=true /\
    vc P T LF RF L J a ((A.at st).st x) V' fun e st' dO=>match e with
     | .normal=>∃y k',k'<k/\(A.at st).fits st' y (I y k' dO)
     | e=>K e st' dO)
 | .exit id,st,V,K=>K (.exit id) st V
 | .ret,st,V,K=>K .ret st V
 | .scope a,st,V,K=>vc P T LF RF L J a st V fun e st' V'=>match e with
  | .goto _=>False
  | e=>K e st' V'
 | .label _,st,V,K=>K .normal st V
 | _,_,_,_=>False
def ko (T:cD)(st:St):List ResultVar->Option (List SV)
 | []=>some []
 | .tmp t::r=>match st.ao t,ko T st r with
  | some x,some l=>some (x::l)
  | _,_=>none
 | .cell a t::r=>match st.ao a,au T t,ko T st r with
  | some (.c (.ptr s o)),some i,some l=>match hZ st.boxes i (.c (.ptr s o)) with
   | .ret _ x=>some (x::l)
   | _=>none
  | _,_,_=>none
def minus (l m:List Nat):List Nat:=l.filter fun x=>!(dP x m)
def F2 (bx:Nat->Option aH)(β:Nat->Nat)(V:View):List Nat->Prop->Prop
 | [],k=>k
 | s::r,k=>match bx s with
  | some ⟨.aO _,_⟩=>False
  | some b=>V.w.heap[β s]?=some (b.obj β)->F2 bx β V r k
  | none=>False
def iu:List (Nat×aH)->List Nat
 | []=>[]
 | (s,b)::r=>match b.cs with
  | .aO _=>iu r
  | _=>s::iu r
def G7 (bs:List (Nat×aH))(β0:Nat->Nat)(b:Nat)(k:Prop):Prop:=
 match bs with
 | []=>k
 | (m,x)::r=>match x.cs with
  | .aO vs=>(vs≠[]/\b=β0 m)\/G7 r β0 b k
  | _=>G7 r β0 b k
def kn (β:Nat->Nat):List SV->Value
 | [x]=>x.den β
 | l=>.tuple (l.map (SV.den β)).toArray
def qE (T:cD)(bx:Nat->Option aH)(s:Nat):Bool:=
 cond (Nat.ble 100000 s) true (match bx s with|some ⟨.row _,ty⟩|some ⟨.aO _,ty⟩=>Nat.ble 2 (T.filter fun x=>Nat.beq x.1 ty).length|some ⟨.lit _,ty⟩=>Nat.ble 3 (T.filter fun x=>Nat.beq x.1 ty).length|_=>false)
def Ee (T:cD)(rs:List ResultVar)(bs:List (Nat×aH))(β0:Nat->Nat)(n0:Nat)(R:Value->View->Prop)(st:St)(V:View):Prop:=
 match ko T st rs with
 | none=>False
 | some xs=>let F:=iu bs
  let L:=reach st.boxes 3 (dedup (xs.flatMap SV.ids++F))
  match fM st.boxes L with
  | false=>False
  | true=>match (minus L F).filter (qE T st.boxes) with
   | []=>∀V':View,V.Le V'->jP (minus L F) β0 fun β=>F2 st.boxes β V' F (oo st.boxes β V' (minus L F) (R (kn β xs) V'))
   | [s]=>match st.boxes s with
    | some b=>∀V':View,jP (minus L F) β0 fun β=>V.Le (V'.hideG (Qz b) (β s))->F2 st.boxes β V' F (nV (FF b) (V'.w.heap[β s]?=some (b.obj β)) ->
      nV (FF b) (n0<=β s\/G7 bs β0 (β s) False)->oo st.boxes β V' ((minus L F).filter (!Nat.beq s ·)) (R (kn β xs) V'))
    | none=>False
   | _=>False
def SL (P:Program)(T:cD)(LF RF:List Nat)(L J:zO)(code:Code)(rs:List ResultVar)(ss:List (Nat×SV))(bs:List (Nat×aH))(β0:Nat->Nat)(V:View)(R:Value->View->Prop):Prop:=
 vc P T LF RF L J code ⟨au ss,au bs⟩ V fun e st V'=>match e with
  | .normal=>Ee T rs bs β0 V.w.heap.size R st V'
  | .ret=>Ee T rs bs β0 V.w.heap.size R st V'
  | _=>False
def fV (n:Nat):Code->Bool
 | .region _ ops _=>ops.toList.all fun o=>match o.dst with|some d=>Nat.blt d n|none=>true
 | .seq a b=>fV n a&&fV n b
 | .cond _ a b=>fV n a&&fV n b
 | .block _ a=>fV n a
 | .loop a=>fV n a
 | .scope a=>fV n a
 | _=>true
def lV:Nat->List (Nat×SV)->Bool
 | _,[]=>true
 | i,(j,x)::r=>Nat.beq i j&&x.plain&&lV (i+1) r
def zn (P:Program)(T:cD)(LF RF:List Nat)(L J:zO)(fn:Func)(ss:List (Nat×SV))(bs:List (Nat×aH))(β0:Nat->Nat)(V:View)(R:Value->View->Prop):Prop:=
 match fn.body with
 | some code=>match fV fn.ntmps code&&lV 0 ss&&Nat.ble ss.length fn.ntmps&&Nat.ble fn.ntmps 100000&&(bs.all fun b=>Nat.ble 100000 b.1&&Nat.blt b.1 200000)&&lu ss bs with
  | true=>SL P T LF RF L J code fn.results.toList ss bs β0 V R
  | false=>False
 | none=>False
theorem View.Le.refl (V:View):V.Le V:=fun _ _ h=>h
theorem View.Le.trans {V V' dO:View}(h:V.Le V')(k:V'.Le dO):V.Le dO:=fun b o x=>k b o (h b o x)
theorem View.Le.at {V V':View}(h:V.Le V'){p:Addr}{v:Value}(k:V.at p v):V'.at p v:=by
 obtain ⟨hH,hc⟩:=k
 unfold World.cell? at hc
 split at hc
 ·rename_i hb
  obtain ⟨h1,h2⟩:=h p.block _ ⟨hH,hb⟩
  refine ⟨h1,?_⟩
  unfold World.cell?
  rw [h2]
  exact hc
 ·cases hc
theorem dU.refl (X:Nat->Prop)(w:World):dU X w w:=⟨Nat.le_refl _,fun _ _ _=>rfl,rfl,rfl,rfl⟩
theorem dU.trans {X:Nat->Prop}{a b c:World}(h:dU X a b)(k:dU X b c):dU X a c:=
 ⟨Nat.le_trans h.size k.size,fun i hi hx=>(k.aZ i (Nat.lt_of_lt_of_le hi h.size) hx).trans (h.aZ i hi hx),k.os.trans h.os,k.tape.trans h.tape,k.out.trans h.out⟩
theorem dU.mono {X Y:Nat->Prop}{a b:World}(h:dU X a b)(hxy:∀i,X i->Y i):dU Y a b:=
 ⟨h.size,fun i hi hy=>h.aZ i hi fun hx=>hy (hxy i hx),h.os,h.tape,h.out⟩
theorem View.Kz (V:View)(w':World)(hx:dU V.X V.w w'):V.Le (V.to w' hx.size):=by
 rintro b o ⟨hH,hb⟩
 refine ⟨hH,?_⟩
 have hlt:b<V.w.heap.size:=by
  rcases Nat.lt_or_ge b V.w.heap.size with h|h
  ·exact h
  ·rw [Array.getElem?_eq_none h] at hb;cases hb
 show w'.heap[b]?=some o
 rw [hx.aZ b hlt fun hX=>hH (V.hX b hX)]
 exact hb
theorem Acts.mono {P:Program}{f:FuncId}{args:Array Value}{V:View}{R R':Value->View->Prop}(h:Acts P f args V R)
  (hR:∀r V',V.Le V'->R r V'->R' r V'):Acts P f args V R':=
 ⟨h.1,h.2.mono fun _ w' ⟨r,he,hx,hr⟩=>⟨r,he,hx,hR r _ (V.Kz w' hx) hr⟩⟩
structure Ce where
 ids:List Nat
 B:Nat->Prop
section
variable (n:Nat) (V0:View) (bf:Ce) (β0:Nat->Nat)
structure Mod (st:St) (β:Nat->Nat) (a:Act) (w:World) (V:View):Prop where
 defers:a.defers=[]
 size:a.tmps.size=n
 ao:∀t x,st.ao t=some x->a.tmps.getD t undef=x.den β
 vh:∀t x,st.ao t=some x->∀s∈x.ids,∃b,st.boxes s=some b
 vg:∀s b,st.boxes s=some b->∀s'∈b.cs.ids,∃b',st.boxes s'=some b'
 boxes:∀s b,st.boxes s=some b->b.live->w.heap[β s]?=some (b.obj β)
 inj:∀s s' b b',st.boxes s=some b->b.live->st.boxes s'=some b'->b'.live->β s=β s'->s=s'
 my:∀b o,V.aZ b o->w.heap[b]?=some o/\¬V0.H b
 qS:∀s b,st.boxes s=some b->b.live->∀o,¬V.aZ (β s) o
 ext:dU V0.X V0.w w
 own:∀s b,st.boxes s=some b->b.live->V0.w.heap.size<=β s\/(100000<=s/\bf.B (β s))
 jQ:∀s∈bf.ids,(100000<=s/\s<200000)/\β s=β0 s
 iT:∀b,bf.B b->V0.X b
 small:n<=100000
end
theorem ck {cs:List C}{ty:TypeId}:aH.live ⟨.lit cs,ty⟩:=fun _ h=>nomatch h
theorem bV {vs:List Value}{ty:TypeId}:aH.live ⟨.row vs,ty⟩:=fun _ h=>nomatch h
theorem dK {vs:List Value}{ty:TypeId}(h:vs≠[]):aH.live ⟨.aO vs,ty⟩:=fun _ e=>by cases e;exact h
theorem d_ {ty:TypeId}:¬aH.live ⟨.aO [],ty⟩:=fun h=>h [] rfl rfl
theorem eu {b:aH}{k:Prop}:nV (FF b) k↔(b.live->k):=by
 obtain ⟨cs,ty⟩:=b
 cases cs with
 | lit cs=>exact ⟨fun h _=>h,fun h=>h ck⟩
 | row cs=>exact ⟨fun h _=>h,fun h=>h bV⟩
 | aO vs=>exact ⟨fun h l=>h (l vs rfl),fun h l=>h (dK l)⟩
theorem qo {l m:List Prop}{k:Prop}:nV (l++m) k↔nV l (nV m k):=by
 induction l with
 | nil=>exact Iff.rfl
 | cons p r ih=>exact ⟨fun h hp=>ih.1 (h hp),fun h hp=>ih.2 (h hp)⟩
theorem IV {b:aH}:Qz b↔b.live:=by
 obtain ⟨cs,ty⟩:=b
 cases cs with
 | lit cs=>exact ⟨fun _=>ck,fun _=>trivial⟩
 | row cs=>exact ⟨fun _=>bV,fun _=>trivial⟩
 | aO vs=>exact ⟨fun h=>dK h,fun l=>l vs rfl⟩
theorem C.bw {β β':Nat->Nat}{c:C}(h:∀s∈c.ids,β s=β' s):c.den β=c.den β':=by
 cases c with
 | v x=>rfl
 | w x=>rfl
 | tt=>rfl
 | ff=>rfl
 | ptr s o=>simp [C.den,h s (by simp [C.ids])]
 | kD s o n c=>simp [C.den,h s (by simp [C.ids])]
 | ir s n c=>simp [C.den,h s (by simp [C.ids])]
 | yx f ss=>
  have:(ss.map fun s=>Value.pointer (some ⟨β s,0,none⟩))=ss.map fun s=>Value.pointer (some ⟨β' s,0,none⟩):=
   List.map_congr_left fun s hs=>by rw [h s (by simpa [C.ids] using hs)]
  simp only [C.den,this]
theorem kb {β β':Nat->Nat}{cs:List C}(h:∀s∈cs.flatMap C.ids,β s=β' s):cs.map (C.den β)=cs.map (C.den β'):=
 List.map_congr_left fun c hc=>C.bw fun s hs=>h s (List.mem_flatMap.2 ⟨c,hc,hs⟩)
theorem vE {β β':Nat->Nat}{x:Bool×List C}(h:∀s∈x.2.flatMap C.ids,β s=β' s):gx β x=gx β' x:=by
 obtain ⟨b,cs⟩:=x
 cases b with
 | true=>simp only [gx];rw [kb h]
 | false=>
  match cs,h with
  | [],_=>rfl
  | [c],h=>simp only [gx];exact C.bw fun s hs=>h s (by simpa using hs)
  | _::_::_,_=>rfl
theorem SV.bw {β β':Nat->Nat}{x:SV}(h:∀s∈x.ids,β s=β' s):x.den β=x.den β':=by
 cases x with
 | c x=>exact C.bw h
 | agg cs=>simp only [SV.den];rw [kb h]
 | nC xs=>
  simp only [SV.den]
  congr 2
  exact List.map_congr_left fun x hx=>vE fun s hs=>h s (List.mem_flatMap.2 ⟨x,hx,hs⟩)
theorem Cells.bw {β β':Nat->Nat}{x:Cells}(h:∀s∈x.ids,β s=β' s):x.den β=x.den β':=by
 cases x with
 | lit cs=>exact kb h
 | row vs=>rfl
 | aO vs=>rfl
theorem aH.cj {β β':Nat->Nat}{x:aH}(h:∀s∈x.cs.ids,β s=β' s):x.obj β=x.obj β':=by
 simp only [aH.obj];rw [Cells.bw h]
variable {P:Program} {T:cD} {n:Nat} {V0:View} {bf:Ce} {β0:Nat->Nat} {st:St} {β:Nat->Nat} {a:Act} {w:World} {V:View}
theorem Mod.eval (h:Mod n V0 bf β0 st β a w V){x:Operand}{v:SV}(hx:st.aR x=some v):a.eval x=v.den β:=by
 cases x with
 | tmp t=>exact h.ao t v hx
 | const c=>
  simp only [St.aR,Option.some.injEq] at hx
  subst hx
  simp only [Act.eval]
  unfold SV.ofConst
  split
  ·rfl
  ·rfl
  ·rename_i cs
   simp only [SV.den]
   congr 1
   have:∀l:List Value,(l.map C.ofConst).map (C.den β)=l:=by
    intro l
    induction l with
    | nil=>rfl
    | cons y r ih=>
     simp only [List.map_cons,ih]
     congr 1
     unfold C.ofConst
     split<;>rfl
   rw [this]
  ·rfl
 | global g=>simp only [St.aR,Option.some.injEq] at hx;subst hx;rfl
 | func f=>simp only [St.aR,Option.some.injEq] at hx;subst hx;simp [Act.eval,SV.den,C.den]
theorem Mod.live (h:Mod n V0 bf β0 st β a w V){x:Operand}{v:SV}(hx:st.aR x=some v):∀s∈v.ids,∃b,st.boxes s=some b:=by
 cases x with
 | tmp t=>exact h.vh t v hx
 | const c=>
  simp only [St.aR,Option.some.injEq] at hx
  subst hx
  intro s hs
  exfalso
  have h1:∀y,(C.ofConst y).ids=[]:=by
   intro y
   unfold C.ofConst
   split<;>rfl
  unfold SV.ofConst at hs
  split at hs
  ·simp [SV.ids,C.ids] at hs
  ·simp [SV.ids,C.ids] at hs
  ·obtain ⟨c,hc,hs⟩:=List.mem_flatMap.1 hs
   obtain ⟨y,_,rfl⟩:=List.mem_map.1 hc
   rw [h1] at hs;cases hs
  ·simp [SV.ids,C.ids] at hs
 | global g=>simp only [St.aR,Option.some.injEq] at hx;subst hx;intro s hs;simp [SV.ids,C.ids] at hs
 | func f=>simp only [St.aR,Option.some.injEq] at hx;subst hx;intro s hs;simp [SV.ids,C.ids] at hs
theorem beq_eq {a b:Nat}:Nat.beq a b=true↔a=b:=by
 constructor
 ·exact Nat.eq_of_beq_eq_true
 ·intro h;subst h;exact Nat.beq_refl a
theorem cK (st:St)(d:Nat)(x:SV)(t:Nat):(st.put (some d) x).ao t=if t=d then some x else st.ao t:=by
 simp only [St.put]
 by_cases h:t=d
 ·subst h;simp [Nat.beq_refl]
 ·have:Nat.beq t d=false:=by
   cases hb:Nat.beq t d
   ·rfl
   ·exact absurd (beq_eq.1 hb) h
  simp [this,h]
theorem ah (st:St)(s:Nat)(b:aH)(t:Nat):(st.box s b).boxes t=if t=s then some b else st.boxes t:=by
 simp only [St.box]
 by_cases h:t=s
 ·subst h;simp [Nat.beq_refl]
 ·have:Nat.beq t s=false:=by
   cases hb:Nat.beq t s
   ·rfl
   ·exact absurd (beq_eq.1 hb) h
  simp [this,h]
theorem nR (l:Array Value)(d t:Nat)(v:Value)(hd:d<l.size):(l.setIfInBounds d v).getD t undef=if t=d then v else l.getD t undef:=by
 by_cases h:t=d
 ·subst h;simp [hd]
 ·simp [h,Ne.symm h]
theorem Mod.put (h:Mod n V0 bf β0 st β a w V){d:Nat}{x:SV}{v:Value}(hd:d<n)(hv:v=x.den β)(hl:∀s∈x.ids,∃b,st.boxes s=some b) :
  Mod n V0 bf β0 (st.put (some d) x) β (a.put (some d) v) w V where
 defers:=h.defers
 size:=by simp [Act.put,h.size]
 ao:=by
  intro t y hy
  rw [cK] at hy
  show (a.tmps.setIfInBounds d v).getD t undef=_
  rw [nR _ _ _ _ (by rw [h.size];exact hd)]
  split at hy
  ·rename_i e;rw [if_pos e];simp only [Option.some.injEq] at hy;rw [←hy];exact hv
  ·rename_i e;rw [if_neg e];exact h.ao t y hy
 vh:=by
  intro t y hy
  rw [cK] at hy
  split at hy
  ·simp only [Option.some.injEq] at hy;rw [←hy];exact hl
  ·exact h.vh t y hy
 vg:=h.vg
 boxes:=h.boxes
 inj:=h.inj
 my:=h.my
 qS:=h.qS
 ext:=h.ext
 own:=h.own
 jQ:=h.jQ
 iT:=h.iT
 small:=h.small
theorem Mod.C5 (h:Mod n V0 bf β0 st β a w V){d:Option Nat}{x:SV}{v:Value}(hd:∀k,d=some k->k<n)(hv:v=x.den β)(hl:∀s∈x.ids,∃b,st.boxes s=some b) :
  Mod n V0 bf β0 (st.put d x) β (a.put d v) w V:=by
 cases d with
 | none=>exact h
 | some d=>exact h.put (hd d rfl) hv hl
theorem Mod.drew (h:Mod n V0 bf β0 st β a w V):Mod n V0 bf β0 st β a { w with drawn:=w.drawn+1 } V:=
 ⟨h.defers,h.size,h.ao,h.vh,h.vg,h.boxes,h.inj,h.my,h.qS,⟨h.ext.size,h.ext.aZ,h.ext.os,h.ext.tape,h.ext.out⟩,h.own,h.jQ,h.iT,h.small⟩
theorem ar {w:World}{b:Nat}{o:Obj}(h:w.heap[b]?=some o):b<w.heap.size:=by
 rcases Nat.lt_or_ge b w.heap.size with h'|h'
 ·exact h'
 ·rw [Array.getElem?_eq_none h'] at h;cases h
theorem bL (w:World)(o:Obj){b:Nat}(h:b<w.heap.size):(w.alloc o).heap[b]?=w.heap[b]?:=by
 show (w.heap.push o)[b]?=_
 rw [Array.getElem?_push,if_neg (by omega)]
theorem heap_alloc_new (w:World)(o:Obj):(w.alloc o).heap[w.heap.size]?=some o:=by
 show (w.heap.push o)[w.heap.size]?=_
 rw [Array.getElem?_push,if_pos rfl]
theorem aK (β:Nat->Nat)(s b:Nat):cW β s b s=b:=by simp [cW,Nat.beq_refl]
theorem fu (β:Nat->Nat){s t:Nat}(b:Nat)(h:t≠s):cW β s b t=β t:=by
 have:Nat.beq t s=false:=by
  cases hb:Nat.beq t s
  ·rfl
  ·exact absurd (beq_eq.1 hb) h
 simp [cW,this]
theorem Mod.new (h:Mod n V0 bf β0 st β a w V){d:Nat}{b:aH}(hd:d<n)(hn:st.boxes d=none)(hl:∀s∈b.cs.ids,∃b',st.boxes s=some b') :
  Mod n V0 bf β0 (st.box d b) (cW β d w.heap.size) a (w.alloc (b.obj β)) V:=by
 have hne:∀s b',st.boxes s=some b'->s≠d:=fun s b' hs e=>by rw [e,hn] at hs;cases hs
 have hβ:∀s b',st.boxes s=some b'->cW β d w.heap.size s=β s:=fun s b' hs=>fu _ _ (hne s b' hs)
 have hlt:∀s b',st.boxes s=some b'->b'.live->β s<w.heap.size:=fun s b' hs l=>ar (h.boxes s b' hs l)
 have hV:∀b' o,V.aZ b' o->b'<w.heap.size:=fun b' o hb=>ar (h.my b' o hb).1
 refine ⟨h.defers,h.size,?_,?_,?_,?_,?_,?_,?_,?_,?_,?_,h.iT,?_⟩
 ·intro t x hx
  rw [h.ao t x hx]
  exact SV.bw fun s hs=>by obtain ⟨b',hb'⟩:=h.vh t x hx s hs;exact (hβ s b' hb').symm
 ·intro t x hx s hs
  obtain ⟨b',hb'⟩:=h.vh t x hx s hs
  exact ⟨b',by rw [ah,if_neg (hne s b' hb')];exact hb'⟩
 ·intro s b' hs s' hs'
  rw [ah] at hs
  have:∃b'',st.boxes s'=some b'':=by
   split at hs
   ·simp only [Option.some.injEq] at hs;rw [←hs] at hs';exact hl s' hs'
   ·exact h.vg s b' hs s' hs'
  obtain ⟨b'',jy⟩:=this
  exact ⟨b'',by rw [ah,if_neg (hne s' b'' jy)];exact jy⟩
 ·intro s b' hs l
  rw [ah] at hs
  split at hs
  ·rename_i e
   simp only [Option.some.injEq] at hs
   rw [e,aK,heap_alloc_new,←hs]
   congr 1
   exact aH.cj fun s' hs'=>by obtain ⟨b'',jy⟩:=hl s' hs';exact (hβ s' b'' jy).symm
  ·rw [hβ s b' hs,bL _ _ (hlt s b' hs l),h.boxes s b' hs l]
   congr 1
   exact aH.cj fun s' hs'=>by obtain ⟨b'',jy⟩:=h.vg s b' hs s' hs';exact (hβ s' b'' jy).symm
 ·intro s s' b1 b2 h1 l1 h2 l2 he
  rw [ah] at h1 h2
  split at h1<;>split at h2
  ·rename_i e1 e2;rw [e1,e2]
  ·rename_i e1 e2;rw [e1,aK,hβ s' b2 h2] at he;have:=hlt s' b2 h2 l2;omega
  ·rename_i e1 e2;rw [e2,aK,hβ s b1 h1] at he;have:=hlt s b1 h1 l1;omega
  ·rw [hβ s b1 h1,hβ s' b2 h2] at he;exact h.inj s s' b1 b2 h1 l1 h2 l2 he
 ·intro b' o hb
  obtain ⟨h1,h2⟩:=h.my b' o hb
  exact ⟨by rw [bL _ _ (hV b' o hb)];exact h1,h2⟩
 ·intro s b' hs l o ho
  rw [ah] at hs
  split at hs
  ·rename_i e;rw [e,aK] at ho;have:=hV _ o ho;omega
  ·rw [hβ s b' hs] at ho;exact h.qS s b' hs l o ho
 ·exact h.ext.trans ⟨by simp,fun i hi _=>bL _ _ hi,rfl,rfl,rfl⟩
 ·intro s b' hs l
  rw [ah] at hs
  split at hs
  ·rename_i e;rw [e,aK];exact .inl h.ext.size
  ·rw [hβ s b' hs];exact h.own s b' hs l
 ·intro s hs
  obtain ⟨h1,h2⟩:=h.jQ s hs
  exact ⟨h1,by rw [fu _ _ (by have:=h.small;omega)];exact h2⟩
 ·exact h.small
theorem Mod.void (h:Mod n V0 bf β0 st β a w V){s:Nat}{ty:TypeId}:Mod n V0 bf β0 (st.box s ⟨.aO [],ty⟩) β a w V:=by
 have hw:∀t b',st.boxes t=some b'->∃b'',(st.box s ⟨.aO [],ty⟩).boxes t=some b'':=by
  intro t b' ht
  rw [ah]
  split
  ·exact ⟨_,rfl⟩
  ·exact ⟨b',ht⟩
 have hb:∀t b',(st.box s ⟨.aO [],ty⟩).boxes t=some b'->b'.live->st.boxes t=some b':=by
  intro t b' ht l
  rw [ah] at ht
  split at ht
  ·cases ht;exact absurd l d_
  ·exact ht
 refine ⟨h.defers,h.size,h.ao,?_,?_,fun t b' ht l=>h.boxes t b' (hb t b' ht l) l,fun t t' b1 b2 h1 l1 h2 l2=>h.inj t t' b1 b2 (hb _ _ h1 l1) l1 (hb _ _ h2 l2) l2,h.my,fun t b' ht l=>h.qS t b' (hb t b' ht l) l,h.ext,fun t b' ht l=>h.own t b' (hb t b' ht l) l,h.jQ,h.iT,h.small⟩
 ·intro t x hx s' hs'
  obtain ⟨b',hb'⟩:=h.vh t x hx s' hs'
  exact hw s' b' hb'
 ·intro t b' ht s' hs'
  have:∃b'',st.boxes s'=some b'':=by
   rw [ah] at ht
   split at ht
   ·cases ht;cases hs'
   ·exact h.vg t b' ht s' hs'
  obtain ⟨b'',jy⟩:=this
  exact hw s' b'' jy
theorem Mod.qV (h:Mod n V0 bf β0 st β a w V){s:Nat}{b b':aH}(hs:st.boxes s=some b)(lb:b.live)(hl:∀s'∈b'.cs.ids,∃b'',st.boxes s'=some b'')
  {w':World}(hw:w'.heap=w.heap.setIfInBounds (β s) (b'.obj β))(ho:w'.os=w.os)(ht:w'.tape=w.tape)(hout:w'.output=w.output) :
  Mod n V0 bf β0 (st.box s b') β a w' V:=by
 have hlt:=ar (h.boxes s b hs lb)
 have hg:∀i,w'.heap[i]?=if i=β s then some (b'.obj β) else w.heap[i]?:=by
  intro i
  rw [hw,Array.getElem?_setIfInBounds]
  by_cases e:β s=i
  ·rw [if_pos e,if_pos (by omega),if_pos e.symm]
  ·rw [if_neg e,if_neg (Ne.symm e)]
 refine ⟨h.defers,h.size,h.ao,?_,?_,?_,?_,?_,?_,?_,?_,h.jQ,h.iT,h.small⟩
 ·intro t x hx s' hs'
  obtain ⟨b1,hb1⟩:=h.vh t x hx s' hs'
  rw [ah]
  split
  ·exact ⟨_,rfl⟩
  ·exact ⟨b1,hb1⟩
 ·intro t b1 hb1 s' hs'
  have:∃b'',st.boxes s'=some b'':=by
   rw [ah] at hb1
   split at hb1
   ·simp only [Option.some.injEq] at hb1;rw [←hb1] at hs';exact hl s' hs'
   ·exact h.vg t b1 hb1 s' hs'
  rw [ah]
  split
  ·exact ⟨_,rfl⟩
  ·exact this
 ·intro t b1 hb1 l1
  rw [ah] at hb1
  rw [hg]
  split at hb1
  ·rename_i e;simp only [Option.some.injEq] at hb1;rw [e,if_pos rfl,hb1]
  ·rename_i e
   rw [if_neg fun he=>e (h.inj t s b1 b hb1 l1 hs lb he)]
   exact h.boxes t b1 hb1 l1
 ·intro t t' b1 b2 h1 l1 h2 l2 he
  have f:∀t b1,(st.box s b').boxes t=some b1->b1.live->∃b2,st.boxes t=some b2/\b2.live:=by
   intro t b1 h1 l1
   rw [ah] at h1
   split at h1
   ·rename_i e;rw [e];exact ⟨b,hs,lb⟩
   ·exact ⟨b1,h1,l1⟩
  obtain ⟨c1,hc1,m1⟩:=f t b1 h1 l1
  obtain ⟨c2,hc2,m2⟩:=f t' b2 h2 l2
  exact h.inj t t' c1 c2 hc1 m1 hc2 m2 he
 ·intro b1 o hb
  obtain ⟨h1,h2⟩:=h.my b1 o hb
  refine ⟨?_,h2⟩
  rw [hg,if_neg]
  ·exact h1
  ·intro e;rw [e] at hb;exact h.qS s b hs lb o hb
 ·intro t b1 hb1 l1 o
  rw [ah] at hb1
  split at hb1
  ·rename_i e;rw [e];exact h.qS s b hs lb o
  ·exact h.qS t b1 hb1 l1 o
 ·refine ⟨by rw [hw];simpa using h.ext.size,fun i hi hX=>?_,ho.trans h.ext.os,ht.trans h.ext.tape,hout.trans h.ext.out⟩
  rw [hg]
  split
  ·rename_i e
   exfalso
   rcases h.own s b hs lb with h1|h1
   ·omega
   ·exact hX (e▸h.iT _ h1.2)
  ·exact h.ext.aZ i hi hX
 ·intro t b1 hb1 l1
  rw [ah] at hb1
  split at hb1
  ·rename_i e;rw [e];exact h.own s b hs lb
  ·exact h.own t b1 hb1 l1
end Go.Eng
