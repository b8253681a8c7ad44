import Derived.WalkKit
import Derived.Deep.LoopGhost
import Derived.KernelRfl
set_option linter.unusedVariables false
open Go.IntKind (i64 u64 u32)
namespace Go.bF
abbrev OA:=Option Addr
abbrev sm {α:Type}(a:α):Prop:=a=a
structure View where
 w:World
 H:Nat->Prop
 X:Nat->Prop
 hH:∀b,H b->b<w.heap.size
 hX:∀b,X b->H b
def View.bC (V:View)(b:Nat)(o:Obj):Prop:=¬V.H b/\V.w.heap[b]?=some o
def View.at (V:View)(p:Addr)(v:Value):Prop:=¬V.H p.block/\V.w.cell? p=some v
def View.Le (V V':View):Prop:=∀b o,V.bC b o->V'.bC b o
structure eA (X:Nat->Prop) (w w':World):Prop where
 size:w.heap.size<=w'.heap.size
 bC:∀b,b<w.heap.size->¬X b->w'.heap[b]?=w.heap[b]?
 os:w'.os=w.os
 tape:w'.tape=w.tape
 out:w'.output=w.output
def View.to (V:View)(w':World)(h:V.w.heap.size<=w'.heap.size):View:=⟨w',V.H,V.X,fun b hb=>Nat.lt_of_lt_of_le (V.hH b hb) h,V.hX⟩
def View.bg (V:View)(bs:List Nat):View:={ V with X:=fun b=>b∈bs/\V.H b,hX:=fun _ h=>h.2 }
def View.Hm (V:View)(b:Nat):View:={ V with H:=fun x=>V.H x\/(x=b/\b<V.w.heap.size),hH:=fun x h=>h.elim (V.hH x) fun h=>h.1▸h.2,hX:=fun x h=>.inl (V.hX x h) }
def View.iw (V:View)(p:Prop)(b:Nat):View:={ V with H:=fun x=>V.H x\/(p/\x=b/\b<V.w.heap.size),hH:=fun x h=>h.elim (V.hH x) fun h=>h.2.1▸h.2.2,hX:=fun x h=>.inl (V.hX x h) }
def View.shut (V:View):View:={ V with X:=fun _=>False,hX:=fun _ h=>h.elim }
def hZ (P : Program)(f : FuncId) : Prop := ∃ fn, P.funcs[f]? = some fn ∧ fn.body.isNone = false ∧ (fn.name == "runtime.NumGoroutine") = false
def ab (P:Program)(f:FuncId)(args:Array Value)(V:View)(R:Value->View->Prop):Prop:=
 hZ P f/\Calls P f args V.w fun e w'=>∃r,e=.returned r/\∃hx:eA V.X V.w w',R r (V.to w' hx.size)
inductive C where
 | v (x:Value)|w (x:Value)|tt|ff
 | ptr (s o:Nat)
 | kY (s o n c:Nat)
 | jB (s n c:Nat)
 | sH (f:FuncId) (ss:List Nat)
inductive SV where
 | c (x:C)|agg (cs:List C)|oc (xs:List (Bool×List C))
inductive Cells where
 | lit (cs:List C)|row (vs:List Value)|aV (vs:List Value)
structure aP where
 cs:Cells
 ty:TypeId
def aP.live (b:aP):Prop:=∀vs,b.cs=.aV vs->vs≠[]
def Gq (b:aP):List Prop:=
 match b.cs with
 | .aV vs=>[vs≠[]]
 | _=>[]
def QG (b:aP):Prop:=
 match b.cs with
 | .aV vs=>vs≠[]
 | _=>True
def oM:List Prop->Prop->Prop
 | [],k=>k
 | p::r,k=>p->oM r k
def mA (b c:Nat):OA:=if c=0 then none else some ⟨b,0,none⟩
structure St where
 aw:Nat->Option SV
 boxes:Nat->Option aP
def C.den (β:Nat->Nat):C->Value
 | .v x=>x
 | .w x=>x
 | .tt=>.bool true
 | .ff=>.bool false
 | .ptr s o=>.pointer (some ⟨β s,o,none⟩)
 | .kY s o n c=>.slice (some ⟨β s,o,none⟩) n c
 | .jB s n c=>.slice (mA (β s) c) n c
 | .sH f ss=>.func (.func f) #[] (ss.map fun s=>Value.pointer (some ⟨β s,0,none⟩)).toArray
def gP (β:Nat->Nat):Bool×List C->Value
 | (true,cs)=>.agg (cs.map (C.den β)).toArray
 | (false,[c])=>c.den β
 | (false,_)=>.tuple #[]
def pU:Bool×List C->Option SV
 | (true,cs)=>some (.agg cs)
 | (false,[c])=>some (.c c)
 | (false,_)=>none
def SV.den (β:Nat->Nat):SV->Value
 | .c x=>x.den β
 | .agg cs=>.agg (cs.map (C.den β)).toArray
 | .oc xs=>.tuple (xs.map (gP β)).toArray
def SV.cells:SV->List C
 | .c x=>[x]
 | .agg cs=>cs
 | .oc _=>[]
def Cells.den (β:Nat->Nat):Cells->List Value
 | .lit cs=>cs.map (C.den β)
 | .row vs=>vs
 | .aV vs=>vs
def aP.obj (β:Nat->Nat)(b:aP):Obj:=.cells (b.cs.den β).toArray b.ty (0,0)
def C.ids:C->List Nat
 | .ptr s _=>[s]
 | .kY s _ _ _=>[s]
 | .jB s _ _=>[s]
 | .sH _ ss=>ss
 | _=>[]
def SV.ids:SV->List Nat
 | .c x=>x.ids
 | .agg cs=>cs.flatMap C.ids
 | .oc xs=>xs.flatMap fun x=>x.2.flatMap C.ids
def SV.ui:SV->Bool
 | .oc _=>true
 | _=>false
def eH:C->List Prop
 | .v (.agg _)|.v (.tuple _)=>[False]
 | .w x=>[x.oneCell'=true]
 | _=>[]
def SV.eH (x:SV):List Prop:=x.cells.flatMap bF.eH
def Cells.ids:Cells->List Nat
 | .lit cs=>cs.flatMap C.ids
 | .row _=>[]
 | .aV _=>[]
def St.put (st:St)(d:Option Nat)(x:SV):St:=
 match d with
 | none=>st
 | some d=>{ st with aw:=fun t=>cond (Nat.beq t d) (some x) (st.aw t) }
def St.box (st:St)(s:Nat)(b:aP):St:={ st with boxes:=fun t=>cond (Nat.beq t s) (some b) (st.boxes t) }
def C.ofConst:Value->C
 | .bool true=>.tt
 | .bool false=>.ff
 | x=>.v x
def SV.ofConst:Value->SV
 | .bool true=>.c .tt
 | .bool false=>.c .ff
 | .agg cs=>.agg (cs.toList.map C.ofConst)
 | x=>.c (.v x)
def St.aW (st:St):Operand->Option SV
 | .tmp t=>st.aw t
 | .const v=>some (.ofConst v)
 | .global g=>some (.c (.v (.pointer (some ⟨g,0,none⟩))))
 | .func f=>some (.c (.sH f []))
inductive TK where
 | int (k:IntKind)|bool|str|ptr (e:TypeId)|slice (e:TypeId)|struct (fs:List (TypeId×Nat))|arr (n:Nat) (e:TypeId)|iface|func|tuple (ts:List TypeId)|other
structure TI where
 k:TK
 size:Nat
 bytes:Nat
 zero:List C
def jw:TypeDesc->TK
 | .int k=>.int k
 | .bool=>.bool
 | .string=>.str
 | .pointer e=>.ptr e
 | .slice e=>.slice e
 | .array n e=>.arr n e
 | .struct fs=>.struct (fs.toList.map fun f=>(f.type,f.offset))
 | .interface _=>.iface
 | .func ..=>.func
 | .tuple es=>.tuple es.toList
 | _=>.other
def jR (P:Program)(t:TypeId):Option TI:=
 match P.info? t,P.underlying t with
 | some i,some d=>
  match i.zero with
  | some z=>some { k:=jw d,size:=i.size,bytes:=i.bytes,zero:=z.cells.toList.map C.ofConst }
  | none=>none
 | _,_=>none
abbrev cQ:=List (Nat×TI)
def az {α:Type}:List (Nat×α)->Nat->Option α
 | [],_=>none
 | (s,x)::r,t=>cond (Nat.beq t s) (some x) (az r t)
def cQ.ok (P:Program)(T:cQ):Prop:=∀t i,az T t=some i->jR P t=some i
inductive vN where
 | int (k:IntKind)|bool|slice|ptr|str|any
inductive sX where
 | one (s:vN)|agg (l:List vN)
inductive Sh where
 | val (s:sX)|oc (l:List sX)|none
def PH:C->vN
 | .v (.int k _)=>.int k
 | .v (.slice ..)=>.slice
 | .v (.pointer _)=>.ptr
 | .v (.string _)=>.str
 | .tt|.ff=>.bool
 | _=>.any
def jW (i:TI):sX:=
 match i.k with
 | .struct _|.arr _ _=>.agg (i.zero.map PH)
 | _=>match i.zero with
  | [z]=>.one (PH z)
  | _=>.one .any
def vN.ex:vN->(C->Prop)->Prop
 | .int k,K=>∃n:Int,K (.v (.int k n))
 | .bool,K=>∃b:Bool,K (.v (.bool b))
 | .slice,K=>∃(a:OA)(n c:Nat),K (.v (.slice a n c))
 | .ptr,K=>∃p:OA,K (.v (.pointer p))
 | .str,K=>∃s:ByteArray,K (.v (.string s))
 | .any,K=>∃x:Value,K (.w x)
def Lp:List vN->(List C->Prop)->Prop
 | [],K=>K []
 | s::r,K=>s.ex fun v=>Lp r fun vs=>K (v::vs)
def sX.ex:sX->(SV->Prop)->Prop
 | .one s,K=>s.ex fun c=>K (.c c)
 | .agg l,K=>Lp l fun cs=>K (.agg cs)
def MA:List sX->(List (Bool×List C)->Prop)->Prop
 | [],K=>K []
 | .one s::r,K=>s.ex fun c=>MA r fun vs=>K ((false,[c])::vs)
 | .agg l::r,K=>Lp l fun cs=>MA r fun vs=>K ((true,cs)::vs)
def Sh.ex:Sh->(SV->Prop)->Prop
 | .val s,K=>s.ex K
 | .oc l,K=>MA l fun vs=>K (.oc vs)
 | .none,K=>K (.oc [])
def OP (T:cQ):List TypeId->Option (List sX)
 | []=>some []
 | t::r=>match az T t,OP T r with
  | some i,some l=>some (jW i::l)
  | _,_=>Option.none
def So (T:cQ)(t:TypeId):Option Sh:=
 match az T t with
 | some i=>match i.k with
  | .tuple []=>some .none
  | .tuple ts=>match OP T ts with
   | some l=>some (.oc l)
   | Option.none=>Option.none
  | _=>some (.val (jW i))
 | Option.none=>Option.none
inductive Q where
 | fail
 | ret (sc:List Prop) (x:SV)
 | new (sc:List Prop) (b:aP) (x:Nat->SV)
 | rK (sc:List Prop) (s:Nat) (b:aP)
 | rd (p:OA) (sh:sX)
 | mW (vs:List Value) (o size:Nat) (sh:sX)
 | qj (s:Nat) (vs:List Value) (n c:Nat) (x:OA×Nat ⊕ List Value) (size bytes:Nat) (ty:TypeId)
 | app (old:Option Nat) (ba:OA) (vs:List Value) (n c:Nat) (x:OA×Nat ⊕ List Value) (size bytes:Nat) (ty:TypeId)
def bl (op:BinOp)(k:IntKind)(a b:Int):Int:=
 match op with
 | .and=>k.wrap ((BitVec.ofInt k.bits a &&& BitVec.ofInt k.bits b).toNat:Int)
 | .or=>k.wrap ((BitVec.ofInt k.bits a ||| BitVec.ofInt k.bits b).toNat:Int)
 | .xor=>k.wrap ((BitVec.ofInt k.bits a ^^^ BitVec.ofInt k.bits b).toNat:Int)
 | _=>k.wrap ((BitVec.ofInt k.bits a &&& ~~~(BitVec.ofInt k.bits b)).toNat:Int)
def lC (op:BinOp)(k:IntKind)(a b:Int):Q:=
 match op with
 | .add=>.ret [] (.c (.v (.int k (k.wrap (a+b)))))
 | .sub=>.ret [] (.c (.v (.int k (k.wrap (a-b)))))
 | .mul=>.ret [] (.c (.v (.int k (k.wrap (a*b)))))
 | .quo=>.ret [b≠0] (.c (.v (.int k (k.wrap (a.tdiv b)))))
 | .rem=>.ret [b≠0] (.c (.v (.int k (a.tmod b))))
 | .and=>.ret [] (.c (.v (.int k (bl .and k a b))))
 | .or=>.ret [] (.c (.v (.int k (bl .or k a b))))
 | .xor=>.ret [] (.c (.v (.int k (bl .xor k a b))))
 | .andNot=>.ret [] (.c (.v (.int k (bl .andNot k a b))))
 | .shl=>.ret [0<=b] (.c (.v (.int k (k.wrap (a*2^(min b.toNat k.bits))))))
 | .shr=>.ret [0<=b] (.c (.v (.int k (a.fdiv (2^(min b.toNat k.bits))))))
 | .eql=>.ret [] (.c (.v (.bool (a==b))))
 | .neq=>.ret [] (.c (.v (.bool (a != b))))
 | .lss=>.ret [] (.c (.v (.bool (decide (a<b)))))
 | .leq=>.ret [] (.c (.v (.bool (decide (a<=b)))))
 | .gtr=>.ret [] (.c (.v (.bool (decide (a>b)))))
 | .geq=>.ret [] (.c (.v (.bool (decide (a≥b)))))
def C.bool?:C->Option Bool
 | .tt=>some true
 | .ff=>some false
 | .v (.bool b)=>some b
 | _=>none
def aU:Value->Bool
 | .nilIface=>true
 | _=>false
def IsIface (x:Value):Prop:=x=.nilIface\/∃t v,x=.iface t v
def uj:IntKind->IntKind->Bool
 | .i8,.i8|.i16,.i16|.i32,.i32|.i64,.i64|.u8,.u8|.u16,.u16|.u32,.u32|.u64,.u64=>true
 | _,_=>false
def zM (neg:Bool)(k:TK)(x y:C):Q:=
 match k with
 | .ptr _=>match y with
  | .v (.pointer none)=>match x with
   | .ptr _ _=>.ret [] (.c (if neg then .tt else .ff))
   | .v (.pointer p)=>.ret [] (.c (.v (.bool (if neg then !p.isNone else p.isNone))))
   | _=>.fail
  | _=>.fail
 | .slice _=>match y with
  | .v (.slice none _ _)=>match x with
   | .kY _ _ _ _=>.ret [] (.c (if neg then .tt else .ff))
   | .jB _ _ c=>.ret [] (.c (.v (.bool (if neg then !(Nat.beq c 0) else Nat.beq c 0))))
   | .v (.slice a _ _)=>.ret [] (.c (.v (.bool (if neg then !a.isNone else a.isNone))))
   | _=>.fail
  | _=>.fail
 | .iface=>match y with
  | .v .nilIface=>match x with
   | .w y=>.ret [IsIface y] (.c (.v (.bool (if neg then !aU y else aU y))))
   | .v .nilIface=>.ret [] (.c (if neg then .ff else .tt))
   | _=>.fail
  | _=>.fail
 | _=>.fail
def zK (T:cQ)(op:BinOp)(xt:TypeId)(x y:C):Q:=
 match az T xt with
 | some i=>match i.k with
  | .int _=>match x,y with
   | .v (.int k a),.v (.int k' b)=>
    match op with
    | .shl|.shr=>lC op k a b
    | _=>if uj k k' then lC op k a b else .fail
   | _,_=>.fail
  | .bool=>match x.bool?,y.bool? with
   | some a,some b=>match op with
    | .eql=>.ret [] (.c (.v (.bool (a==b))))
    | .neq=>.ret [] (.c (.v (.bool (!(a==b)))))
    | _=>.fail
   | _,_=>.fail
  | k=>match op with
   | .eql=>zM false k x y
   | .neq=>zM true k x y
   | _=>.fail
 | none=>.fail
def ai (p:OA)(n:Nat):OA:=p.map fun a=>a.add n
def setCells (cs:List C)(o:Nat)(xs:List C):List C:=cs.take o++xs++cs.drop (o+xs.length)
def dp (vs:List Value)(o:Nat)(xs:List Value):List Value:=
 match xs with
 | [x]=>vs.set o x
 | _=>vs.take o++xs++vs.drop (o+xs.length)
def C.val?:C->Option Value
 | .v x=>some x
 | .w x=>some x
 | .tt=>some (.bool true)
 | .ff=>some (.bool false)
 | _=>none
def jY:List C->Option (List Value)
 | []=>some []
 | c::r=>match c.val?,jY r with
  | some v,some vs=>some (v::vs)
  | _,_=>none
def iD (bx:Nat->Option aP)(i:TI)(x:SV):Q:=
 match x with
 | .c (.ptr b o)=>match bx b with
  | some ⟨.lit cs,_⟩=>match i.k with
   | .struct _|.arr _ _=>if Nat.ble (o+i.size) cs.length then .ret [] (.agg ((cs.drop o).take i.size)) else .fail
   | _=>match cs[o]? with
    | some c=>.ret [] (.c c)
    | none=>.fail
  | some ⟨.row vs,_⟩=>.mW vs o i.size (jW i)
  | some ⟨.aV vs,_⟩=>if Nat.beq i.size 0 then .fail else .mW vs o i.size (jW i)
  | none=>.fail
 | .c (.v (.pointer p))=>if Nat.beq i.zero.length i.size then .rd p (jW i) else .fail
 | _=>.fail
def fT (bx:Nat->Option aP)(i:TI)(a x:SV):Q:=
 match a with
 | .c (.ptr b o)=>if Nat.beq x.cells.length i.size&&!x.ui then match bx b with
   | some ⟨.lit cs,ty⟩=>if Nat.ble (o+i.size) cs.length then .rK x.eH b ⟨.lit (setCells cs o x.cells),ty⟩ else .fail
   | some ⟨.row vs,ty⟩=>match jY x.cells with
    | some xs=>.rK (x.eH++[o+i.size<=vs.length]) b ⟨.row (dp vs o xs),ty⟩
    | none=>.fail
   | some ⟨.aV vs,ty⟩=>if Nat.beq i.size 0 then .fail else match jY x.cells with
    | some xs=>.rK (x.eH++[o+i.size<=vs.length]) b ⟨.aV (dp vs o xs),ty⟩
    | none=>.fail
   | none=>.fail
  else .fail
 | _=>.fail
def mU (place:Nat->Option (Nat×Nat))(cells:List C):List (Nat×SV)->Option (List C)
 | []=>some cells
 | (i,x)::r=>match place i with
  | none=>none
  | some (off,size)=>if Nat.beq x.cells.length size&&Nat.ble (off+size) cells.length&&!x.ui then mU place (setCells cells off x.cells) r else none
def partsOf (ρ:Operand->Option SV):List (Nat×Operand)->Option (List (Nat×SV))
 | []=>some []
 | (i,o)::r=>match ρ o,partsOf ρ r with
  | some x,some l=>some ((i,x)::l)
  | _,_=>none
def eX (T:cQ):List (TypeId×Nat)->Option (List (Nat×Nat))
 | []=>some []
 | (t,off)::r=>match az T t,eX T r with
  | some i,some l=>some ((off,i.size)::l)
  | _,_=>none
def rep (n:Nat)(zs:List C):List C:=(List.replicate n zs).flatten
def nX (n:Nat)(zs:List Value):List Value:=
 match zs with
 | [z]=>List.replicate n z
 | _=>(List.replicate n zs).flatten
def rI (a:OA)(m l sz:Nat):OA:=if m=l then a else ai a (l*sz)
def Uf (o m l sz:Nat):Nat:=if m=l then o else o+l*sz
def J4 (c:Nat):Option SV->Option (List Prop×Nat)
 | none=>some ([],c)
 | some (.c (.v (.int _ m)))=>some ([0<=m/\m<=(c:Int)],m.toNat)
 | _=>none
def Ip (n m:Nat):Option SV->Option SV->Option (List Prop×Nat)
 | some (.c (.v (.int _ h))),_=>some ([0<=h/\h<=(m:Int)],h.toNat)
 | none,none=>some ([],n)
 | _,_=>none
def Mb (h:Nat):Option SV->Option (List Prop×Option Nat)
 | none=>some ([],none)
 | some (.c (.v (.int _ l)))=>some ([0<=l/\l<=(h:Int)],some l.toNat)
 | _=>none
def mo (n c:Nat)(lo hi mx:Option SV):Option (List Prop×Option Nat×Nat×Nat):=
 match J4 c mx with
 | none=>none
 | some (p1,m)=>match Ip n m hi mx with
  | none=>none
  | some (p2,h)=>match Mb h lo with
   | none=>none
   | some (p3,l)=>some (p1++p2++p3,l,h,m)
def zG (ρ:Operand->Option SV):Option Operand->Option (Option SV)
 | none=>some none
 | some x=>match ρ x with
  | some v=>some (some v)
  | none=>none
def qp (sz:Nat)(x:SV)(lo hi mx:Option SV):Q:=
 match x with
 | .c (.v (.slice a n c))=>match mo n c lo hi mx with
  | some (sc,none,h,m)=>.ret sc (.c (.v (.slice a h m)))
  | some (sc,some l,h,m)=>.ret sc (.c (.v (.slice (rI a m l sz) (h-l) (m-l))))
  | none=>.fail
 | .c (.kY s o n c)=>match mo n c lo hi mx with
  | some (sc,none,h,m)=>.ret sc (.c (.kY s o h m))
  | some (sc,some l,h,m)=>.ret sc (.c (.kY s (Uf o m l sz) (h-l) (m-l)))
  | none=>.fail
 | .c (.jB s n c)=>match mx with
  | none=>match mo n c lo hi none with
   | some (sc,none,h,m)=>.ret sc (.c (.jB s h m))
   | _=>.fail
  | some _=>.fail
 | _=>.fail
def fS (T:cQ)(i:TI)(x ix:SV):Q:=
 match ix with
 | .c (.v (.int _ n))=>match i.k with
  | .slice e=>match az T e with
   | some ei=>match x with
    | .c (.v (.slice a len _))=>.ret [a.isSome=true,0<=n/\n<(len:Int)] (.c (.v (.pointer (ai a (n.toNat*ei.size)))))
    | .c (.kY s o len _)=>.ret [0<=n/\n<(len:Int)] (.c (.ptr s (o+n.toNat*ei.size)))
    | .c (.jB s len c)=>.ret [0<=n/\n<(len:Int),len<=c] (.c (.ptr s (n.toNat*ei.size)))
    | _=>.fail
   | none=>.fail
  | .arr len e=>match az T e with
   | some ei=>match x with
    | .c (.ptr s o)=>.ret [0<=n/\n<(len:Int)] (.c (.ptr s (o+n.toNat*ei.size)))
    | _=>.fail
   | none=>.fail
  | _=>.fail
 | _=>.fail
def yj (T:cQ)(i:TI)(l c:SV):Q:=
 match i.k with
 | .slice e=>match az T e with
  | some ei=>match l,c with
   | .c (.v (.int _ n)),.c (.v (.int _ m))=>match jY ei.zero with
    | some zs=>if Nat.beq ei.bytes 0||Nat.beq ei.size 0||!(Nat.beq ei.size zs.length) then .fail else .new [0<=n,n<=m,(ei.bytes:Int)*m<=140737488355328] ⟨.row (nX m.toNat zs),e⟩ fun d=>.c (.kY d 0 n.toNat m.toNat)
    | none=>.fail
   | _,_=>.fail
  | none=>.fail
 | _=>.fail
def uJ:List SV->Option (List Nat)
 | []=>some []
 | .c (.ptr s 0)::r=>match uJ r with
  | some l=>some (s::l)
  | none=>none
 | _=>none
def bQ (ρ:Operand->Option SV):List Operand->Option (List SV)
 | []=>some []
 | o::r=>match ρ o,bQ ρ r with
  | some x,some l=>some (x::l)
  | _,_=>none
def bN (a b:Int):Int:=if b<a then b else a
def bM (a b:Int):Int:=if b>a then b else a
def foldI (f:Int->Int->Int)(k:IntKind)(a:Int):List SV->Option Int
 | []=>some a
 | .c (.v (.int k' b))::r=>if uj k k' then foldI f k (f a b) r else none
 | _=>none
def dU (bx:Nat->Option aP)(s:Nat):Option (List Value):=
 match bx s with
 | some ⟨.lit cs,_⟩=>jY cs
 | some ⟨.row vs,_⟩=>some vs
 | _=>none
def jF (bx:Nat->Option aP)(s:Nat):Option TypeId:=match bx s with|some b=>some b.ty|none=>none
def ji (ws:List Value)(o n:Nat):List Value:=cond (Nat.ble (o+n) ws.length) ((ws.drop o).take n) (List.replicate n (.agg #[]))
def bU (bx:Nat->Option aP)(e:TypeId)(ei:TI)(b x:SV):Q:=
 match jY ei.zero with
 | none=>.fail
 | some zs=>if Nat.beq ei.bytes 0||Nat.beq ei.size 0||!(Nat.beq ei.size zs.length) then .fail else
  let src:Option (OA×Nat ⊕ List Value):=match x with
   | .c (.v (.slice a k _))=>some (.inl (a,k))
   | .c (.kY s o k _)=>match bx s with
    | some ⟨.row ws,_⟩=>some (.inr (ji ws o (k*ei.size)))
    | _=>match dU bx s with
     | some ws=>if Nat.ble (o+k*ei.size) ws.length then some (.inr ((ws.drop o).take (k*ei.size))) else none
     | none=>none
   | _=>none
  match src with
  | none=>.fail
  | some src=>match b with
   | .c (.v (.slice a n c))=>.app none a [] n c src ei.size ei.bytes e
   | .c (.kY s 0 n c)=>match dU bx s,jF bx s with
    | some vs,some ty=>if Nat.beq ty e then .app (some s) none vs n c src ei.size ei.bytes e else .fail
    | _,_=>.fail
   | .c (.jB s n c)=>match bx s with
    | some ⟨.aV vs,ty⟩=>if Nat.beq ty e then .qj s vs n c src ei.size ei.bytes e else .fail
    | _=>.fail
   | _=>.fail
def jT (b:Builtin)(k:TK)(xs:List SV):Q:=
 match xs with
 | []=>.fail
 | x::r=>match b with
  | .len=>match r,k,x with
   | [],.slice _,.c (.v (.slice _ n _))=>.ret [] (.c (.v (.int .i64 n)))
   | [],.slice _,.c (.kY _ _ n _)=>.ret [] (.c (.v (.int .i64 n)))
   | [],.slice _,.c (.jB _ n _)=>.ret [] (.c (.v (.int .i64 n)))
   | [],.str,.c (.v (.string s))=>.ret [] (.c (.v (.int .i64 s.size)))
   | _,_,_=>.fail
  | .cap=>match r,k,x with
   | [],.slice _,.c (.v (.slice _ _ c))=>.ret [] (.c (.v (.int .i64 c)))
   | [],.slice _,.c (.kY _ _ _ c)=>.ret [] (.c (.v (.int .i64 c)))
   | [],.slice _,.c (.jB _ _ c)=>.ret [] (.c (.v (.int .i64 c)))
   | _,_,_=>.fail
  | .min=>match x with
   | .c (.v (.int k a))=>match foldI bN k a r with
    | some m=>.ret [] (.c (.v (.int k m)))
    | none=>.fail
   | _=>.fail
  | .max=>match x with
   | .c (.v (.int k a))=>match foldI bM k a r with
    | some m=>.ret [] (.c (.v (.int k m)))
    | none=>.fail
   | _=>.fail
  | _=>.fail
def uL (t:TypeId)(i:TI)(v:SV):Q:=
 match i.k with
 | .iface=>.fail
 | _=>match v.ids,v.ui with
  | [],false=>.ret [] (.c (.w (.iface t (v.den fun _=>0))))
  | _,_=>.fail
def kA (T:cQ)(bx:Nat->Option aP)(t:TypeId)(x:SV):Q:=
 match az T t with
 | some i=>match i.k with
  | .slice e=>match az T e with
   | some ei=>match jY ei.zero,x with
    | some zs,.c (.kY s o n _)=>match bx s with
     | some ⟨.row vs,ty⟩=>if Nat.beq ei.size 0||!(Nat.beq ei.size zs.length)||!(zs.all Value.oneCell') then .fail else .rK [o+n*ei.size<=vs.length] s ⟨.row (vs.take o++nX n zs++vs.drop (o+n*ei.size)),ty⟩
     | _=>.fail
    | _,_=>.fail
   | none=>.fail
  | _=>.fail
 | none=>.fail
def E1:List C->Option (List (OA×Nat×Nat))
 | []=>some []
 | .v (.slice p n c)::r=>match E1 r with
  | some l=>some ((p,n,c)::l)
  | none=>none
 | _=>none
def jU (T:cQ)(i:TI)(cs:List C)(k:Int):Q:=
 match i.k with
 | .arr n e=>match az T e,E1 cs with
  | some ei,some l=>match ei.k with
   | .slice _=>if Nat.beq ei.size 1&&Nat.beq l.length n then .ret [0<=k/\k<(n:Int)] (.c (.v (.slice (l.getD k.toNat (none,0,0)).1 (l.getD k.toNat (none,0,0)).2.1 (l.getD k.toNat (none,0,0)).2.2))) else .fail
   | _=>.fail
  | _,_=>.fail
 | _=>.fail
def aI (T:cQ)(ρ:Operand->Option SV)(bx:Nat->Option aP)(op:Op):Q:=
 match op with
 | .move x|.assign x=>match ρ x with
  | some v=>.ret [] v
  | none=>.fail
 | .pick c a b=>match ρ c with
  | some (.c .tt)=>match ρ a with
   | some v=>.ret [] v
   | none=>.fail
  | some (.c .ff)=>match ρ b with
   | some v=>.ret [] v
   | none=>.fail
  | _=>.fail
 | .alloc t=>match az T t with
  | some i=>.new [] ⟨.lit i.zero,t⟩ fun d=>.c (.ptr d 0)
  | none=>.fail
 | .box t x=>match ρ x with
  | some v=>match v.ui with
   | true=>.fail
   | false=>.new v.eH ⟨.lit v.cells,t⟩ fun d=>.c (.ptr d 0)
  | none=>.fail
 | .build t parts=>match az T t,partsOf ρ parts.toList with
  | some i,some ps=>match i.k with
   | .struct fs=>match eX T fs with
    | some pl=>match mU (fun j=>pl[j]?) i.zero ps with
     | some cs=>.ret (ps.flatMap fun x=>x.2.eH) (.agg cs)
     | none=>.fail
    | none=>.fail
   | .arr _ e=>match az T e with
    | some ei=>match mU (fun j=>some (j*ei.size,ei.size)) i.zero ps with
     | some cs=>.ret (ps.flatMap fun x=>x.2.eH) (.agg cs)
     | none=>.fail
    | none=>.fail
   | _=>.fail
  | _,_=>.fail
 | .buildSlice t len parts=>match az T t,partsOf ρ parts.toList with
  | some i,some ps=>match i.k with
   | .slice e=>match az T e with
    | some ei=>if Nat.ble (len*ei.size) 16777216&&Nat.beq ei.zero.length ei.size&&!(Nat.beq ei.size 0) then match mU (fun j=>some (j*ei.size,ei.size)) (rep len ei.zero) ps with
      | some cs=>.new (ps.flatMap fun x=>x.2.eH) ⟨.lit cs,e⟩ fun d=>.c (.kY d 0 len len)
      | none=>.fail
     else .fail
    | none=>.fail
   | _=>.fail
  | _,_=>.fail
 | .load t a=>match az T t,ρ a with
  | some i,some x=>iD bx i x
  | _,_=>.fail
 | .store t a x=>match az T t,ρ a,ρ x with
  | some i,some av,some xv=>fT bx i av xv
  | _,_,_=>.fail
 | .nilCheck x=>match ρ x with
  | some (.c (.ptr s o))=>.ret [] (.c (.ptr s o))
  | some (.c (.v (.pointer p)))=>.ret [p.isSome=true] (.c (.v (.pointer p)))
  | _=>.fail
 | .binOp o xt x y _=>match ρ x,ρ y with
  | some (.c a),some (.c b)=>match b with
   | .v .nilIface=>match y with
    | .const _=>zK T o xt a b
    | _=>.fail
   | b=>zK T o xt a b
  | _,_=>.fail
 | .unOp .not _ x=>match ρ x with
  | some (.c .tt)=>.ret [] (.c .ff)
  | some (.c .ff)=>.ret [] (.c .tt)
  | some (.c (.v (.bool b)))=>.ret [] (.c (.v (.bool (!b))))
  | _=>.fail
 | .unOp .xor _ x=>match ρ x with
  | some (.c (.v (.int k n)))=>.ret [] (.c (.v (.int k (bl .xor k (if k.signed then -1 else k.max) n))))
  | _=>.fail
 | .unOp .neg _ x=>match ρ x with
  | some (.c (.v (.int k n)))=>.ret [] (.c (.v (.int k (k.wrap (0-n)))))
  | _=>.fail
 | .convert src dst x=>match az T src,az T dst,ρ x with
  | some _,some i,some (.c (.v (.int _ n)))=>match i.k with
   | .int k=>.ret [] (.c (.v (.int k (k.wrap n))))
   | _=>.fail
  | _,_,_=>.fail
 | .makeFunc (.func f) first caps=>match first.toList with
  | []=>match bQ ρ caps.toList with
   | some xs=>match uJ xs with
    | some ss=>.ret [] (.c (.sH f ss))
    | none=>.fail
   | none=>.fail
  | _=>.fail
 | .makeSlice t l c=>match az T t,ρ l,ρ c with
  | some i,some lv,some cv=>yj T i lv cv
  | _,_,_=>.fail
 | .slice t x lo hi mx=>match az T t,ρ x,zG ρ lo,zG ρ hi,zG ρ mx with
  | some i,some xv,some l,some h,some m=>match i.k with
   | .slice e=>match az T e with
    | some ei=>qp ei.size xv l h m
    | none=>.fail
   | _=>.fail
  | _,_,_,_,_=>.fail
 | .fieldAddr t x f=>match az T t,ρ x with
  | some i,some xv=>match i.k with
   | .struct fs=>match fs[f]? with
    | some (ft,off)=>match az T ft with
     | some fi=>if Nat.beq fi.size 0 then .fail else match xv with
      | .c (.ptr s o)=>.ret [] (.c (.ptr s (o+off)))
      | .c (.v (.pointer p))=>.ret [p.isSome=true] (.c (.v (.pointer (ai p off))))
      | _=>.fail
     | none=>.fail
    | none=>.fail
   | _=>.fail
  | _,_=>.fail
 | .field t x f=>match az T t,ρ x with
  | some i,some (.agg cs)=>match i.k with
   | .struct fs=>match fs[f]? with
    | some (ft,off)=>match az T ft with
     | some fi=>match fi.k with
      | .struct _|.arr _ _=>.ret [] (.agg ((cs.drop off).take fi.size))
      | _=>match cs[off]? with
       | some c=>.ret [] (.c c)
       | none=>.fail
     | none=>.fail
    | none=>.fail
   | _=>.fail
  | _,_=>.fail
 | .indexAddr t x ix=>match az T t,ρ x,ρ ix with
  | some i,some xv,some iv=>fS T i xv iv
  | _,_,_=>.fail
 | .extract x j=>match ρ x with
  | some (.oc xs)=>match xs[j]? with
   | some v=>match pU v with
    | some y=>.ret [] y
    | none=>.fail
   | none=>.fail
  | _=>.fail
 | .call c=>match c.callee with
  | .builtin .append=>match bQ ρ c.args.toList,c.argTypes.toList with
   | some [b,x],[t,t']=>match az T t,az T t' with
    | some i,some i'=>match i.k,i'.k with
     | .slice e,.slice _=>match az T e with
      | some ei=>bU bx e ei b x
      | none=>.fail
     | _,_=>.fail
    | _,_=>.fail
   | _,_=>.fail
  | .builtin .clear=>match bQ ρ c.args.toList,c.argTypes.toList with
   | some [x],[t]=>kA T bx t x
   | _,_=>.fail
  | .builtin b=>match bQ ρ c.args.toList,c.argTypes.toList with
   | some xs,t::_=>match az T t with
    | some i=>jT b i.k xs
    | none=>.fail
   | _,_=>.fail
  | _=>.fail
 | .index t x ix=>match az T t,ρ x,ρ ix with
  | some i,some (.c (.v (.string s))),some (.c (.v (.int _ n)))=>match i.k with
   | .str=>.ret [0<=n/\n<(s.size:Int)] (.c (.v (.int .u8 ((s.data.toList.getD n.toNat 0).toNat:Int))))
   | _=>.fail
  | some i,some (.agg cs),some (.c (.v (.int _ n)))=>jU T i cs n
  | _,_,_=>.fail
 | .makeInterface t x=>match az T t,ρ x with
  | some i,some v=>uL t i v
  | _,_=>.fail
 | _=>.fail
def yG:List Prop->Prop->Prop
 | [],k=>k
 | p::r,k=>p/\yG r k
def View.J7 (V:View)(p:Addr):Nat->List C->Prop->Prop
 | _,[],k=>k
 | i,c::r,k=>V.at (p.add i) (c.den fun _=>0)/\V.J7 p (i+1) r k
def View.Jc (V:View)(p:OA)(x:SV)(k:Prop):Prop:=
 match x with
 | .agg cs=>∃a,p=some a/\V.J7 a 0 cs k
 | .c c=>(∃a,p=some a/\V.at a (c.den fun _=>0))/\k
 | .oc _=>False
def Kb (vs:List Value)(o size:Nat)(x:SV):Prop:=
 match x with
 | .agg cs=>o+size<=vs.length/\(vs.drop o).take size=cs.map (C.den fun _=>0)
 | .c c=>vs[o]?=some (c.den fun _=>0)
 | .oc _=>False
def eh (x:Nat):List Nat->Bool
 | []=>false
 | y::r=>cond (Nat.beq x y) true (eh x r)
def dedup:List Nat->List Nat
 | []=>[]
 | x::r=>let l:=dedup r;cond (eh x l) l (x::l)
def tR (l m:List Nat):Bool:=l.all fun x=>!(eh x m)
def IU (l m:List Nat):Bool:=l.all fun x=>eh x m
def C.rel (L:List Nat)(β:Nat->Nat)(J:C->Value):C->C
 | .ptr s o=>cond (eh s L) (.v (.pointer (some ⟨β s,o,none⟩))) (.ptr s o)
 | .kY s o n c=>cond (eh s L) (.v (.slice (some ⟨β s,o,none⟩) n c)) (.kY s o n c)
 | .jB s n c=>cond (eh s L) (.v (.slice (mA (β s) c) n c)) (.jB s n c)
 | .sH f ss=>cond (tR ss L) (.sH f ss) (.w (J (.sH f ss)))
 | x=>x
def SV.rel (L:List Nat)(β:Nat->Nat)(J:C->Value):SV->SV
 | .c x=>.c (x.rel L β J)
 | .agg cs=>.agg (cs.map (C.rel L β J))
 | .oc xs=>.oc (xs.map fun x=>(x.1,x.2.map (C.rel L β J)))
def aP.rel (L:List Nat)(β:Nat->Nat)(J:C->Value)(b:aP):aP:=
 match b.cs with
 | .row _=>b
 | .aV _=>b
 | .lit cs=>⟨.lit (cs.map (C.rel L β J)),b.ty⟩
def St.rel (st:St)(L:List Nat)(β:Nat->Nat)(J:C->Value):St:=
 ⟨fun t=>match st.aw t with|some x=>some (x.rel L β J)|none=>none,
   fun t=>cond (eh t L) none (match st.boxes t with|some b=>some (b.rel L β J)|none=>none)⟩
def View.sl (V:View)(a:OA)(xs:List Value):Prop:=∀i v,xs[i]?=some v->∃ad,a=some ad/\V.at (ad.add i) v
def mC (s d:Nat):Nat:=cond (Nat.blt s 100000) d (d+200000)
def AG (s:Nat)(vs:List Value)(n c size bytes:Nat)(ty:TypeId)(d:Nat)(st:St)(V:View)(K:St->View->Prop)(k:Nat)(xs:List Value):Prop:=
 (n+k)*bytes<=140737488355328/\n<=c/\c*size<=vs.length/\xs.length=k*size/\(∀v∈xs,v.oneCell'=true) /\
  match st.boxes (mC s d) with
  | some _=>False
  | none=>∀(_:Nat)(_:C->Value)(spare:List Value)(c':Nat),n+k<=c'->c'*size<=(n+k)*size+spare.length ->
   K (((st.box s ⟨.aV [],ty⟩).box (mC s d) ⟨.row (vs.take (n*size)++xs++spare),ty⟩).put (some d) (.c (.kY (mC s d) 0 (n+k) c'))) V
def qY (s:Nat)(vs:List Value)(n c size bytes:Nat)(ty:TypeId)(d:Nat)(st:St)(V:View)(K:St->View->Prop)(k:Nat)(xs:List Value):Prop:=
 (n+k)*bytes<=140737488355328/\n<=c/\c*size<=vs.length/\xs.length=k*size/\(∀v∈xs,v.oneCell'=true) /\
  match st.boxes (mC s d) with
  | some _=>False
  | none=>∀(spare:List Value)(c':Nat),n+k<=c'->c'*size<=(n+k)*size+spare.length ->
   K (((st.box s ⟨.aV [],ty⟩).box (mC s d) ⟨.aV (vs.take (n*size)++xs++spare),ty⟩).put (some d) (.c (.jB (mC s d) (n+k) c'))) V
def AH (vs:List Value)(n c size bytes:Nat)(ty:TypeId)(d:Nat)(st:St)(V:View)(K:St->View->Prop)(k:Nat)(xs:List Value):Prop:=
 (n+k)*bytes<=140737488355328/\c<n+k/\xs.length=k*size/\(∀v∈xs,v.oneCell'=true) /\
  match st.boxes d with
  | some _=>False
  | none=>∀(spare:List Value)(c':Nat),n+k<=c'->c'*size<=(n+k)*size+spare.length ->
   K ((st.box d ⟨.row (vs++xs++spare),ty⟩).put (some d) (.c (.kY d 0 (n+k) c'))) V
def rL (q:Q)(dst:Option Nat)(st:St)(V:View)(K:St->View->Prop):Prop:=
 match q with
 | .fail=>False
 | .ret sc x=>yG sc (K (st.put dst x) V)
 | .new sc b x=>match dst with
  | some d=>match st.boxes d with
   | none=>yG sc (K ((st.box d b).put (some d) (x d)) V)
   | some _=>False
  | none=>False
 | .rK sc s b=>match dst with
  | none=>yG sc (K (st.box s b) V)
  | some _=>False
 | .rd p sh=>sh.ex fun x=>V.Jc p x (K (st.put dst x) V)
 | .mW vs o size sh=>sh.ex fun x=>Kb vs o size x/\K (st.put dst x) V
 | .qj s vs n c x size bytes ty=>match dst with
  | none=>False
  | some d=>match x with
   | .inr xs=>qY s vs n c size bytes ty d st V K (xs.length / size) xs
   | .inl (a,k)=>∃xs:List Value,V.sl a xs/\xs.length=k*size/\qY s vs n c size bytes ty d st V K k xs
 | .app old ba vs n c x size bytes ty=>match dst with
  | none=>False
  | some d=>match old with
   | some s=>match x with
    | .inr xs=>AG s vs n c size bytes ty d st V K (xs.length / size) xs
    | .inl (a,k)=>∃xs:List Value,V.sl a xs/\xs.length=k*size/\AG s vs n c size bytes ty d st V K k xs
   | none=>∃vs:List Value,V.sl ba vs/\vs.length=n*size/\n<=c/\(ba.isNone=true->c=0)/\(match x with
    | .inr xs=>AH vs n c size bytes ty d st V K (xs.length / size) xs
    | .inl (a,k)=>∃xs:List Value,V.sl a xs/\xs.length=k*size/\(k=0->K (st.put (some d) (.c (.v (.slice ba n c)))) V)/\(k≠0->AH vs n c size bytes ty d st V K k xs))
def dG (β:Nat->Nat)(s b:Nat):Nat->Nat:=fun t=>cond (Nat.beq t s) b (β t)
def kS:List Nat->(Nat->Nat)->((Nat->Nat)->Prop)->Prop
 | [],β,k=>k β
 | s::r,β,k=>∀b:Nat,kS r (dG β s b) k
def j_ (bx:Nat->Option aP)(s:Nat):List Nat:=match bx s with|some b=>b.cs.ids|none=>[]
def reach (bx:Nat->Option aP):Nat->List Nat->List Nat
 | 0,l=>l
 | n+1,l=>reach bx n (dedup (l++l.flatMap (j_ bx)))
def fZ (bx:Nat->Option aP)(l:List Nat):Bool:=l.all fun s=>IU (j_ bx s) l
def KR (bx:Nat->Option aP)(b:aP)(β:Nat->Nat)(s:Nat):List Nat->Prop->Prop
 | [],k=>k
 | t::r,k=>cond (Nat.beq s t) (KR bx b β s r k) (match bx t with
  | some b'=>oM (Gq b++Gq b') (β s≠β t)->KR bx b β s r k
  | none=>False)
def gN (bx:Nat->Option aP)(β:Nat->Nat)(V:View):List Nat->Prop->Prop
 | [],k=>k
 | s::r,k=>match bx s with
  | some b=>oM (Gq b) (V.w.heap[β s]?=some (b.obj β))->oM (Gq b) (V.H (β s))->gN bx β V r (KR bx b β s r k)
  | none=>False
def vb (vs:List Value)(n b:Nat):Nat:=
 match vs with
 | []=>n
 | _::_=>b
def dz (bx:Nat->Option aP)(β:Nat->Nat)(n:Nat)(s:Nat):Nat:=
 match bx s with
 | some ⟨.aV vs,_⟩=>vb vs n (β s)
 | _=>β s
def C.kept:C->List Nat
 | .sH _ ss=>0::ss
 | c=>c.ids
def kq (mv:Option (Nat×Nat)):List C->List C->(List C->Prop)->Prop
 | [],_,K=>K []
 | c::r,z::zr,K=>match c with
  | .jB t _ _=>match mv with
   | some (m,nb)=>match Nat.beq t m with
    | true=>∃n c:Nat,kq mv r zr fun cs=>K (.jB nb n c::cs)
    | false=>False
   | none=>False
  | c=>match c.kept with
   | []=>(PH z).ex fun v=>kq mv r zr fun cs=>K (v::cs)
   | _=>kq mv r zr fun cs=>K (c::cs)
 | _,[],_=>False
def dM (T:cQ)(mv:Option (Nat×Nat))(β:Nat->Nat)(V:View):List Nat->St->(St->Prop)->Prop
 | [],st,k=>k st
 | s::r,st,k=>match st.boxes s with
  | some ⟨.lit cs,ty⟩=>match az T ty with
   | some i=>kq mv cs i.zero fun cs'=>V.w.heap[β s]?=some (.cells (cs'.map (C.den β)).toArray ty (0,0))/\dM T mv β V r (st.box s ⟨.lit cs',ty⟩) k
   | none=>False
  | some ⟨.row _,ty⟩=>∃vs:List Value,V.w.heap[β s]?=some (.cells vs.toArray ty (0,0))/\dM T mv β V r (st.box s ⟨.row vs,ty⟩) k
  | some ⟨.aV vs,ty⟩=>vs≠[]/\∃vs':List Value,vs'≠[]/\V.w.heap[β s]?=some (.cells vs'.toArray ty (0,0))/\dM T mv β V r (st.box s ⟨.aV vs',ty⟩) k
  | _=>False
def wu (bx:Nat->Option aP)(β:Nat->Nat)(V:View):List Nat->Prop->Prop
 | [],k=>k
 | s::r,k=>match bx s with
  | some b=>oM (Gq b) (V.bC (β s) (b.obj β))->wu bx β V r k
  | none=>False
def nE:List C->List Nat
 | []=>[]
 | .jB t _ _::r=>t::nE r
 | _::r=>nE r
def oT (bx:Nat->Option aP)(L:List Nat):List Nat:=dedup (L.flatMap fun s=>match bx s with|some ⟨.lit cs,_⟩=>nE cs|_=>[])
def kt:List SV->List Nat
 | []=>[]
 | .c (.jB s _ _)::_=>[s]
 | .c (.kY s 0 _ _)::_=>[s]
 | .c (.v (.slice none _ _))::_=>[]
 | _::r=>kt r
def sK (nb:Nat):List (Bool×List C)->List (Bool×List C)
 | []=>[]
 | (false,[.v (.slice _ n c)])::r=>(false,[.jB nb n c])::r
 | x::r=>x::sK nb r
def zw (nb:Nat):List C->List C
 | []=>[]
 | .v (.slice _ n c)::r=>.jB nb n c::r
 | x::r=>x::zw nb r
def qc (nb:Nat):SV->SV
 | .c (.v (.slice _ n c))=>.c (.jB nb n c)
 | .agg cs=>.agg (zw nb cs)
 | .oc xs=>.oc (sK nb xs)
 | x=>x
def zx (T:cQ):List TypeId->Option TypeId
 | []=>none
 | t::r=>match az T t with
  | some i=>match i.k with
   | .slice e=>some e
   | _=>zx T r
  | none=>none
def Hh (T:cQ)(ty:TypeId):Option TypeId:=
 match az T ty with
 | some i=>match i.k with
  | .slice e=>some e
  | .tuple ts=>zx T ts
  | .struct fs=>zx T (fs.map Prod.fst)
  | _=>none
 | none=>none
def aR (β:Nat->Nat)(xs:List SV):Array Value:=(xs.map (SV.den β)).toArray
inductive CM where
 | none|bg|rel|gM|give
def eG (m:Option Nat)(d:Nat):Nat:=
 match m with
 | some m=>mC m d
 | Option.none=>d
def Wx (m:Option Nat)(nb:Nat):Option (Nat×Nat):=
 match m with
 | some m=>some (m,nb)
 | Option.none=>Option.none
def EL (m:Option Nat)(L:List Nat):List Nat:=
 match m with
 | some m=>L.filter fun s=>!(Nat.beq s m)
 | Option.none=>L
def oK (m:Option Nat)(ety:TypeId)(st:St):St:=
 match m with
 | some m=>st.box m ⟨.aV [],ety⟩
 | Option.none=>st
def vM (m:Option Nat)(st:St)(β:Nat->Nat)(b':Nat):Prop:=
 match m with
 | some m=>match st.boxes m with
  | some ⟨.aV vs,_⟩=>vs≠[]/\b'=β m
  | _=>b'=β m
 | Option.none=>False
def cd (T:cQ)(give:Bool)(sh:Sh)(L:List Nat)(m:Option Nat)(d:Nat)(ety:TypeId)(β:Nat->Nat)(st:St)(V':View)(K:St->View->Prop)(r':Value)(eC:View):Prop:=
 ∃(b':Nat)(vs':List Value),(vs'≠[]->eC.w.heap[b']?=some (.cells vs'.toArray ety (0,0)))/\(vs'≠[]->V'.w.heap.size<=b'\/vM m st β b') /\
  sh.ex fun x=>r'=(cond give (qc (eG m d) x) x).den (dG β (eG m d) b') /\
   dM T (Wx m (eG m d)) (dG β (eG m d) b') eC (EL m L) ((oK m ety st).box (eG m d) ⟨.aV vs',ety⟩) fun st'=>K (st'.put (some d) (cond give (qc (eG m d) x) x)) (eC.shut.iw (vs'≠[]) b')
def js (st:St)(m:Option Nat)(d:Nat):Bool:=
 match st.boxes (eG m d) with
 | some _=>false
 | Option.none=>true
def eP (P:Program)(T:cQ)(m:CM)(f:FuncId)(xs:List SV)(ty:TypeId)(dst:Option Nat)(st:St)(V:View)(K:St->View->Prop):Prop:=
 match So T ty with
 | Option.none=>False
 | some sh=>match reach st.boxes 3 (dedup (xs.flatMap SV.ids)) with
  | []=>match m with
   | .give=>match dst,Hh T ty with
    | some d,some ety=>match js st Option.none d with
     | false=>False
     | true=>∀V':View,V.Le V'->ab P f (aR (fun _=>0) xs) V' (cd T true sh [] Option.none d ety (fun _=>0) st V' K)
    | _,_=>False
   | .gM=>match sh,dst with
    | .val (.one .ptr),some d=>match st.boxes d with
     | some _=>False
     | Option.none=>match az T ty with
      | some ti=>match ti.k with
       | .ptr e=>match az T e with
        | some ei=>∀V':View,V.Le V'->ab P f (aR (fun _=>0) xs) V' fun r eC=>∃b:Nat,Lp (ei.zero.map PH) fun cs=>
          r=.pointer (some ⟨b,0,Option.none⟩)/\V'.w.heap.size<=b/\eC.bC b (.cells (cs.map (C.den fun _=>0)).toArray e (0,0))/\K ((st.box d ⟨.lit cs,e⟩).put (some d) (.c (.ptr d 0))) (eC.Hm b)
        | Option.none=>False
       | _=>False
      | Option.none=>False
    | _,_=>False
   | _=>∀V':View,V.Le V'->ab P f (aR (fun _=>0) xs) V' fun r eC=>sh.ex fun x=>r=x.den (fun _=>0)/\K (st.put dst x) eC
  | s::r=>match fZ st.boxes (s::r) with
   | false=>False
   | true=>match m with
    | .none|.gM=>False
    | .give=>match dst,Hh T ty,kt xs,oT st.boxes (s::r) with
     | some d,some ety,[],[]=>match js st Option.none d with
      | false=>False
      | true=>∀V':View,V.Le V'->kS (s::r) (fun _=>0) fun β=>gN st.boxes β V' (s::r)
       (ab P f (aR β xs) (V'.bg ((s::r).map (dz st.boxes β V'.w.heap.size))) (cd T true sh (s::r) Option.none d ety β st V' K))
     | some d,some ety,[m],[]=>match js st (some m) d with
      | false=>False
      | true=>∀V':View,V.Le V'->kS (s::r) (fun _=>0) fun β=>gN st.boxes β V' (s::r)
       (ab P f (aR β xs) (V'.bg ((s::r).map (dz st.boxes β V'.w.heap.size))) (cd T true sh (s::r) (some m) d ety β st V' K))
     | _,_,_,_=>False
    | .bg=>match oT st.boxes (s::r) with
     | []=>∀V':View,V.Le V'->kS (s::r) (fun _=>0) fun β=>gN st.boxes β V' (s::r)
      (ab P f (aR β xs) (V'.bg ((s::r).map (dz st.boxes β V'.w.heap.size))) fun r' eC=>sh.ex fun x=>r'=x.den (fun _=>0)/\dM T Option.none β eC (s::r) st fun st'=>K (st'.put dst x) eC.shut)
     | [m]=>match dst,jF st.boxes m with
      | some d,some ety=>match js st (some m) d with
       | false=>False
       | true=>∀V':View,V.Le V'->kS (s::r) (fun _=>0) fun β=>gN st.boxes β V' (s::r)
        (ab P f (aR β xs) (V'.bg ((s::r).map (dz st.boxes β V'.w.heap.size))) (cd T false sh (s::r) (some m) d ety β st V' K))
      | _,_=>False
     | _=>False
    | .rel=>match (s::r).all fun t=>Nat.blt t 100000 with
     | false=>False
     | true=>∀V':View,V.Le V'->kS (s::r) (fun _=>0) fun β=>wu st.boxes β V' (s::r)
      (ab P f (aR β xs) V' fun r' eC=>sh.ex fun x=>r'=x.den (fun _=>0)/\∀J:C->Value,K ((st.rel (s::r) β J).put dst x) eC)
def kI (bx:Nat->Option aP):List SV->Option (List Value×Nat×List SV)
 | []=>none
 | x::r=>match x with
  | .c (.jB s n c)=>match bx s with
   | some ⟨.aV vs,_⟩=>some (vs,c,.c (.v (.slice none n c))::r)
   | _=>none
  | x=>match kI bx r with
   | some (vs,c,r')=>some (vs,c,x::r')
   | none=>none
def jx (P:Program)(T:cQ)(m:CM)(f:FuncId)(xs:List SV)(ty:TypeId)(dst:Option Nat)(st:St)(V:View)(K:St->View->Prop):Prop:=
 match m with
 | .bg=>match kI st.boxes xs with
  | some (vs,c,xs')=>(vs=[]->c=0/\eP P T .bg f xs' ty dst st V K)/\(vs≠[]->eP P T .bg f xs ty dst st V K)
  | none=>eP P T .bg f xs ty dst st V K
 | m=>eP P T m f xs ty dst st V K
def tM (ss:List Nat):List SV:=ss.map fun s=>.c (.ptr s 0)
inductive Hint where
 | free|own (l:List Nat)
def gH (op:Op):List Operand:=
 match op with
 | .load _ a=>[a]
 | .store _ a _=>[a]
 | .call ⟨.value f,args,_⟩=>args.toList++[f]
 | .call ⟨.builtin .append,args,_⟩=>args.toList
 | _=>[]
def dY (bx:Nat->Option aP)(op:Op)(l:List Nat):List Nat:=
 match op with
 | .call _=>reach bx 3 (dedup l)
 | _=>l
def Dv (P:Program)(t:TypeId)(name:String):Option FuncId:=
 match P.info? t,P.underlying t with
 | some i,some d=>match i.methods.find? (fun m=>m.name==name) with
  | some m=>match m.path.toList,m.func,d with
   | [],some (f,false),.struct _=>some f
   | _,_,_=>none
  | none=>none
 | _,_=>none
def cM (P:Program)(T:cQ)(m:CM)(o:Oper)(st:St)(V:View)(K:St->View->Prop):Prop:=
 match o.op with
 | .call ⟨.value Ja,args,_⟩=>match bQ st.aW args.toList with
  | some xs=>match st.aW Ja with
   | some (.c (.sH f ss))=>jx P T m f (xs++tM ss) o.type o.dst st V K
   | _=>False
  | none=>False
 | .call ⟨.invoke recv name,args,_⟩=>match bQ st.aW args.toList with
  | some xs=>match st.aW recv with
   | some (.c (.w (.iface t v)))=>match Dv P t name with
    | some f=>jx P T m f (.c (.w v)::xs) o.type o.dst st V K
    | none=>False
   | _=>False
  | none=>False
 | op=>rL (aI T st.aW st.boxes op) o.dst st V K
def cB (P:Program)(T:cQ)(m:CM)(h:Hint)(o:Oper)(st:St)(V:View)(K:St->View->Prop):Prop:=
 match h with
 | .free=>cM P T m o st V K
 | .own l=>match bQ st.aW (gH o.op) with
  | some xs=>match IU (dY st.boxes o.op (xs.flatMap SV.ids)) l with
   | true=>cM P T m o st V K
   | false=>False
  | none=>False
def iF:SV:=.oc []
def pw (P:Program)(T:cQ)(m:CM)(h:Hint)(ops:Array Oper)(o:Oper)(st:St)(V:View)(K:St->View->Prop):Prop:=
 match o.guard with
 | none=>cB P T m h o st V K
 | some (j,b)=>match (ops[j]?).bind (·.dst) with
  | none=>False
  | some g=>match st.aw g with
   | some (.c .tt)=>match b with
    | true=>cB P T m h o st V K
    | false=>K (st.put o.dst iF) V
   | some (.c .ff)=>match b with
    | true=>K (st.put o.dst iF) V
    | false=>cB P T m h o st V K
   | some (.c (.v (.bool c)))=>match b with
    | true=>(c=true->cB P T m h o (st.put (some g) (.c .tt)) V K)/\(c=false->K ((st.put (some g) (.c .ff)).put o.dst iF) V)
    | false=>(c=true->K ((st.put (some g) (.c .tt)).put o.dst iF) V)/\(c=false->cB P T m h o (st.put (some g) (.c .ff)) V K)
   | some (.oc _)=>K (st.put o.dst iF) V
   | _=>False
inductive PS where
 | pure|load|store|alloc|call|jO|odd|gM|app|give
def aY (LF RF:List Nat):Op->PS
 | .move _|.assign _|.pick ..| .build ..| .nilCheck _|.binOp ..| .unOp ..| .convert ..| .makeFunc ..| .slice ..| .fieldAddr ..| .field ..| .indexAddr ..| .extract ..| .index ..| .makeInterface ..=>.pure
 | .load ..=>.load
 | .store ..=>.store
 | .alloc _|.box ..| .buildSlice ..| .makeSlice ..=>.alloc
 | .call ⟨.builtin .len,_,_⟩|.call ⟨.builtin .cap,_,_⟩=>.pure
 | .call ⟨.builtin .append,_,_⟩=>.app
 | .call ⟨.value (.func f),_,_⟩=>match eh f LF with
  | true=>match eh (f+1000000) LF with
   | true=>.give
   | false=>.jO
  | false=>match eh f RF with
   | true=>.odd
   | false=>match eh (f+1000000) RF with
    | true=>.gM
    | false=>.call
 | .call ⟨.value _,_,_⟩=>.jO
 | .call ⟨.invoke _ _,_,_⟩=>.call
 | _=>.odd
def gI (op:Op):List Nat:=op.operands.toList.filterMap fun|.tmp t=>some t|_=>none
def dE (ops:Array Oper)(o:Oper):List Nat:=
 match o.guard with
 | none=>[]
 | some (j,_)=>match (ops[j]?).bind (·.dst) with
  | some g=>[g]
  | none=>[]
def dJ (o:Oper):List Nat:=match o.dst with|some d=>[d]|none=>[]
def o_ (c:PS)(h:Hint)(d:List Nat):Option (List Nat×List Nat):=
 match c,h with
 | .pure,.free=>some ([],[])
 | .call,.free=>some ([],[])
 | .alloc,.free=>some (d,d)
 | .load,.own l=>some (l,[])
 | .store,.own l=>some (l,l)
 | .jO,.own l=>some (l,l++d++d.map (·+ 200000))
 | .app,.own l=>some (l,l++d++d.map (·+ 200000))
 | .give,.own l=>some (l,l++d++d.map (·+ 200000))
 | _,_=>none
def lF:PS->Bool
 | .pure|.load|.store|.alloc=>true
 | _=>false
def indep (LF RF:List Nat)(ops:Array Oper)(h1 h2:Hint)(o1 o2:Oper):Bool:=
 lF (aY LF RF o1.op) &&
 tR (dJ o1) (gI o2.op++dE ops o2++dJ o2)&&tR (dJ o2) (gI o1.op++dE ops o1) &&
 tR (dE ops o1) (gI o2.op)&&tR (dE ops o2) (gI o1.op) &&
 match o_ (aY LF RF o1.op) h1 (dJ o1),o_ (aY LF RF o2.op) h2 (dJ o2) with
 | some (r1,w1),some (r2,w2)=>tR w1 r2&&tR w2 r1&&tR w1 w2
 | _,_=>false
def Ng (ops:List Oper)(t:Nat):Option Oper:=ops.find? fun o=>match o.dst with|some d=>Nat.beq d t|none=>false
def uS (st:St)(ops:List Oper):Nat->Operand->List Nat
 | 0,_=>[]
 | n+1,.tmp t=>match Ng ops t with
  | some o=>match o.op with
   | .alloc _|.box ..| .buildSlice ..| .makeSlice ..=>[t]
   | .call _=>[t,t+200000]
   | .assign x=>uS st ops n x++match st.aw t with
    | some x=>x.ids
    | none=>[]
   | .load _ a=>(uS st ops n a).flatMap (j_ st.boxes)
   | op=>op.operands.toList.flatMap (uS st ops n)
  | none=>match st.aw t with
   | some x=>x.ids
   | none=>[]
 | _,_=>[]
def Hn (LF RF:List Nat)(st:St)(ops:List Oper)(o:Oper):Hint:=
 match aY LF RF o.op with
 | .load|.store=>.own (dedup ((gH o.op).flatMap (uS st ops 10)))
 | .jO|.app|.give=>.own (reach st.boxes 3 (dedup ((gH o.op).flatMap (uS st ops 10))))
 | _=>.free
def Fg (ops:List Oper):List Nat:=
 ops.foldl (fun acc o=>acc++[o.after.toList.foldl (fun s e=>cond (Region.binds .any e) (Nat.lor (Nat.lor (Nat.shiftLeft 1 e.on) (acc.getD e.on 0)) s) s) 0]) []
def Lf (m i:Nat):Bool:=Nat.beq (Nat.land (Nat.shiftRight m i) 1) 1
def JL (LF RF:List Nat)(o:Oper):Bool:=match aY LF RF o.op with|.call|.jO|.odd|.gM|.app|.give=>true|_=>false
def DL (ops:Array Oper)(done:List Nat)(i:Nat):Bool:=
 match ops[i]? with
 | some o=>!(eh i done)&&o.after.toList.all fun e=>!(Region.binds .any e)||eh e.on done
 | none=>false
def zT (LF RF:List Nat)(ops:Array Oper):Nat->List Nat->List Nat
 | 0,_=>[]
 | n+1,done=>
  let rs:=(List.range ops.size).filter (DL ops done)
  match rs.find? (fun i=>match ops[i]? with|some o=>!(JL LF RF o)|none=>false) with
  | some i=>i::zT LF RF ops n (i::done)
  | none=>match rs with
   | i::_=>i::zT LF RF ops n (i::done)
   | []=>[]
def nH (LF RF:List Nat)(ops:Array Oper):List Nat:=zT LF RF ops ops.size []
def sP (LF RF:List Nat)(ops:Array Oper)(hs:List Hint)(an:List Nat):List Nat->Bool
 | []=>true
 | i::r=>(r.all fun j=>Lf (an.getD j 0) i||match ops[i]?,ops[j]? with|some a,some b=>indep LF RF ops (hs.getD i .free) (hs.getD j .free) a b|_,_=>false)&&sP LF RF ops hs an r
def oW (ops:Array Oper):List Nat->List Nat->Bool
 | _,[]=>true
 | done,i::r=>DL ops done i&&oW ops (i::done) r
def ES (LF RF:List Nat)(ops:Array Oper)(hs:List Hint)(l:List Nat):Bool:=
 Nat.beq l.length ops.size&&((List.range ops.size).all fun i=>eh i l)&&oW ops [] l&&sP LF RF ops hs (Fg ops.toList) l
def I1 (P:Program)(T:cQ)(m:Nat->CM)(hint:Nat->Hint)(ops:Array Oper):List Nat->St->View->(St->View->Prop)->Prop
 | [],st,V,K=>K st V
 | i::r,st,V,K=>match ops[i]? with
  | some o=>pw P T (m i) (hint i) ops o st V fun st' V'=>I1 P T m hint ops r st' V' K
  | none=>False
def jr (LF RF:List Nat)(ops:Array Oper)(i:Nat):CM:=
 match ops[i]? with
 | some o=>match aY LF RF o.op with
  | .jO=>.bg
  | .odd=>.rel
  | .gM=>.gM
  | .give=>.give
  | _=>.none
 | Option.none=>.none
def Oa (LF RF:List Nat)(ops:Array Oper)(i:Nat):CM:=
 match ops[i]? with
 | some o=>match aY LF RF o.op with
  | .jO=>.bg
  | .gM=>.gM
  | .give=>.give
  | _=>.rel
 | Option.none=>.none
structure Tm where
 τ:Type
 gh:Bool:=false
 Rj:List Nat
 NQ:List Nat
 aw:τ->List (Nat×SV)
 boxes:τ->List (Nat×aP)
structure K0 where
 τ:Type
 aw:τ->List (Nat×SV)
 boxes:τ->List (Nat×aP)
def EI {α:Type}(f:Nat->Option α):List Nat->List (Nat×α)
 | []=>[]
 | t::r=>match f t with
  | some x=>(t,x)::EI f r
  | none=>EI f r
def Tm.at (A:Tm)(st:St):K0:=⟨A.τ,fun x=>EI st.aw A.Rj++A.aw x,fun x=>EI st.boxes A.NQ++A.boxes x⟩
def nt (ρ:List (Nat×Nat))(s s':Nat):Bool:=
 match az ρ s' with
 | some t=>Nat.beq s t
 | none=>Nat.beq s s'
def xL (ρ:List (Nat×Nat)):List Nat->List Nat->Bool
 | [],[]=>true
 | s::r,s'::r'=>nt ρ s s'&&xL ρ r r'
 | _,_=>false
def Pv (ρ:List (Nat×Nat)):C->C->List Prop
 | .v (.int k a),.v (.int k' b)=>cond (uj k k') [a=b] [False]
 | .v (.bool a),.v (.bool b)=>[a=b]
 | .tt,.v (.bool b)=>[true=b]
 | .ff,.v (.bool b)=>[false=b]
 | .v (.slice a n c),.v (.slice a' n' c')=>[a=a',n=n',c=c']
 | .v (.slice a n c),.jB _ n' c'=>[a=none,n=n',c=c',c=0]
 | .v (.pointer p),.v (.pointer q)=>[p=q]
 | .v x,.v y=>[x=y]
 | .w x,.w y=>[x=y]
 | .w x,.v y=>[x=y]
 | .v x,.w y=>[x=y]
 | .tt,.tt=>[]
 | .ff,.ff=>[]
 | .ptr s o,.ptr s' o'=>cond (nt ρ s s') [o=o'] [False]
 | .kY s o n c,.kY s' o' n' c'=>cond (nt ρ s s') [o=o',n=n',c=c'] [False]
 | .kY s o n c,.jB s' n' c'=>cond (nt ρ s s') [o=0,n=n',c=c',c≠0] [False]
 | .jB s n c,.jB s' n' c'=>cond (nt ρ s s') [n=n',c=c'] [False]
 | .sH f ss,.sH g ts=>cond (xL ρ ss ts) [f=g] [False]
 | _,_=>[False]
def Da (ρ:List (Nat×Nat)):List C->List C->List Prop
 | [],[]=>[]
 | a::r,b::s=>Pv ρ a b++Da ρ r s
 | _,_=>[False]
def Ln (ρ:List (Nat×Nat)):SV->SV->List Prop
 | .c a,.c b=>Pv ρ a b
 | .agg l,.agg m=>Da ρ l m
 | _,_=>[False]
def SV.plain:SV->Bool
 | .oc _=>false
 | _=>true
def Ha (ρ:List (Nat×Nat))(a b:aP):List Prop:=
 match a.cs,b.cs with
 | .lit l,.lit m=>cond (Nat.beq a.ty b.ty) (Da ρ l m) [False]
 | .row l,.row m=>cond (Nat.beq a.ty b.ty) [l=m] [False]
 | .aV l,.aV m=>cond (Nat.beq a.ty b.ty) [l=m] [False]
 | .row l,.aV m=>cond (Nat.beq a.ty b.ty) [l=m] [False]
 | .lit l,.aV m=>match jY l with
  | some ws=>cond (Nat.beq a.ty b.ty) [ws=m] [False]
  | none=>[False]
 | _,_=>[False]
def OL:C->C->List (Nat×Nat)
 | .ptr s _,.ptr s' _=>[(s',s)]
 | .kY s _ _ _,.kY s' _ _ _=>[(s',s)]
 | .kY s _ _ _,.jB s' _ _=>[(s',s)]
 | .jB s _ _,.jB s' _ _=>[(s',s)]
 | .sH _ ss,.sH _ ts=>ts.zip ss
 | _,_=>[]
def Iz:List C->List C->List (Nat×Nat)
 | a::r,b::s=>OL a b++Iz r s
 | _,_=>[]
def OM:SV->SV->List (Nat×Nat)
 | .c a,.c b=>OL a b
 | .agg l,.agg m=>Iz l m
 | _,_=>[]
def Mf (st:St):List (Nat×SV)->List (Nat×Nat)
 | []=>[]
 | (t,x)::r=>match st.aw t with
  | some y=>OM y x++Mf st r
  | none=>Mf st r
def F_ (st:St)(ρ:List (Nat×Nat)):List (Nat×aP)->List (Nat×Nat)
 | []=>[]
 | (t,x)::r=>match az ρ t with
  | some s=>match st.boxes s with
   | some y=>(match y.cs,x.cs with|.lit l,.lit m=>Iz l m|_,_=>[])++F_ st ρ r
   | none=>F_ st ρ r
  | none=>F_ st ρ r
def Iy (st:St)(ss:List (Nat×SV))(bs:List (Nat×aP)):List (Nat×Nat):=
 let ρ1:=Mf st ss
 let ρ2:=ρ1++F_ st ρ1 bs
 let ρ3:=ρ2++F_ st ρ2 bs
 ρ3++F_ st ρ3 bs
def zQ (ρ:List (Nat×Nat))(t:Nat):Nat:=
 match az ρ t with
 | some s=>s
 | none=>t
def yn (ρ:List (Nat×Nat)):List Nat->Bool
 | []=>true
 | t::r=>(Nat.blt t 100000==Nat.blt (zQ ρ t) 100000)&&(Nat.blt t 100000||Nat.ble 200000 t||Nat.beq (zQ ρ t) t)&&(r.all fun u=>!(Nat.beq (zQ ρ t) (zQ ρ u)))&&yn ρ r
def lH (ρ:List (Nat×Nat)):List (Nat×aP)->List Nat
 | []=>[]
 | (t,x)::r=>match x.cs with
  | .aV _=>match az ρ t with
   | some _=>t::lH ρ r
   | none=>lH ρ r
  | _=>t::lH ρ r
def Jy (ρ:List (Nat×Nat))(st:St):List (Nat×SV)->List Prop
 | []=>[]
 | (t,x)::r=>match st.aw t with
  | some y=>Ln ρ y x++Jy ρ st r
  | none=>[False]
def FF (ρ:List (Nat×Nat))(st:St):List (Nat×aP)->List Prop
 | []=>[]
 | (t,x)::r=>match x.cs,az ρ t with
  | .aV l,none=>(l=[])::FF ρ st r
  | _,_=>match st.boxes (zQ ρ t) with
   | some y=>Ha ρ y x++FF ρ st r
   | none=>[False]
def Nf (ρ:List (Nat×Nat))(bs:List (Nat×aP)):List Prop:=cond (yn ρ (lH ρ bs)) [] [False]
def lS (ss:List (Nat×SV))(bs:List (Nat×aP)):Bool:=
 let l:=bs.map (·.1)
 (ss.all fun x=>x.2.ids.all fun s=>eh s l)&&(bs.all fun x=>x.2.cs.ids.all fun s=>eh s l)
def K0.st (A:K0)(x:A.τ):St:=⟨az (A.aw x),az (A.boxes x)⟩
def La:List Prop->Prop
 | []=>True
 | [p]=>p
 | p::r=>p/\La r
def K0.fits (A:K0)(st:St)(x:A.τ)(k:Prop):Prop:=
 let ρ:=Iy st (A.aw x) (A.boxes x)
 La (Jy ρ st (A.aw x)++FF ρ st (A.boxes x)++Nf ρ (A.boxes x))/\k
def keyOf:Code->Nat
 | .region id _ _=>id
 | .seq a _=>keyOf a
 | .cond _ a b=>match keyOf a with
  | 1000000=>keyOf b
  | n=>n
 | .block _ a=>keyOf a
 | .loop a=>keyOf a
 | .scope a=>keyOf a
 | _=>1000000
abbrev Ay:=List (Nat×Tm)
def oo:Ay->Nat->Option Tm
 | [],_=>none
 | (s,x)::r,t=>cond (Nat.beq t s) (some x) (oo r t)
def KU (RF:List Nat)(id:Nat):List Nat:=RF.filterMap fun x=>cond (Nat.beq (x / 100000) (100+id)) (some (x%100000)) none
def E_ (l:List Nat)(st:St)(V:View)(K:St->View->Prop):Prop:=
 match l with
 | []=>K st V
 | s::r=>match fZ st.boxes (s::r)&&(s::r).all fun t=>Nat.blt t 100000 with
  | false=>False
  | true=>∀V':View,V.Le V'->kS (s::r) (fun _=>0) fun β=>wu st.boxes β V' (s::r) (∀J:C->Value,K (st.rel (s::r) β J) V')
def Cc (P:Program)(T:cQ)(LF RF:List Nat)(ops:Array Oper)(draw:Bool)(st:St)(V:View)(K:St->View->Prop):Prop:=
 match draw with
 | false=>I1 P T (Oa LF RF ops) (fun _=>.free) ops (List.range ops.size) st V K
 | true=>let hs:=ops.toList.map (Hn LF RF st ops.toList)
  match ES LF RF ops hs (nH LF RF ops) with
  | true=>I1 P T (jr LF RF ops) (fun i=>hs.getD i .free) ops (nH LF RF ops) st V K
  | false=>False
def vc (P:Program)(T:cQ)(LF RF:List Nat)(L J:Ay):Code->St->View->(Exit->St->View->Prop)->Prop
 | .skip,st,V,K=>K .normal st V
 | .region id ops draw,st,V,K=>match oo J (600000+id) with
  | none=>E_ (KU RF id) st V fun st' V'=>Cc P T LF RF ops draw st' V' (K .normal)
  | some A=>∃I:A.τ->View->Prop,E_ (KU RF id) st V (fun st' V'=>Cc P T LF RF ops draw st' V' fun Mm eC=>∃x,(A.at st).fits Mm x (I x eC)) /\
   ∀x V',V.Le V'->I x V'->(lS ((A.at st).aw x) ((A.at st).boxes x)=true/\K .normal ((A.at st).st x) V')
 | .seq a b,st,V,K=>vc P T LF RF L J a st V fun e st' V'=>match e with
  | .normal=>vc P T LF RF L J b st' V' K
  | e=>K e st' V'
 | .cond c a b,st,V,K=>match oo J (keyOf (.cond c a b)) with
  | none=>match st.aW c with
   | some (.c .tt)=>vc P T LF RF L J a st V K
   | some (.c .ff)=>vc P T LF RF L J b st V K
   | some (.c (.v (.bool t)))=>(t=true->vc P T LF RF L J a st V K)/\(t=false->vc P T LF RF L J b st V K)
   | _=>False
  | some A=>match st.aW c with
   | some (.c .tt)=>vc P T LF RF L J a st V K
   | some (.c .ff)=>vc P T LF RF L J b st V K
   | some (.c (.v (.bool t)))=>∃I:A.τ->View->Prop,
    ((t=true->vc P T LF RF L J a st V fun e st' V'=>match e with
     | .normal=>∃x,(A.at st).fits st' x (I x V')
     | e=>K e st' V') /\
      (t=false->vc P T LF RF L J b st V fun e st' V'=>match e with
     | .normal=>∃x,(A.at st).fits st' x (I x V')
     | e=>K e st' V')) /\
    ∀x V',V.Le V'->I x V'->(lS ((A.at st).aw x) ((A.at st).boxes x)=true/\K .normal ((A.at st).st x) V')
   | _=>False
 | .block id a,st,V,K=>match oo J (500000+id) with
  | none=>vc P T LF RF L J a st V fun e st' V'=>match e with
   | .exit i=>cond (Nat.beq i id) (K .normal st' V') (K (.exit i) st' V')
   | e=>K e st' V'
  | some A=>∃I:A.τ->View->Prop,vc P T LF RF L J a st V (fun e st' V'=>match e with
   | .exit i=>cond (Nat.beq i id) (∃x,(A.at st).fits st' x (I x V')) (K (.exit i) st' V')
   | .normal=>∃x,(A.at st).fits st' x (I x V')
   | e=>K e st' V')/\∀x V',V.Le V'->I x V'->(lS ((A.at st).aw x) ((A.at st).boxes x)=true/\K .normal ((A.at st).st x) V')
 | .loop a,st,V,K=>match oo L (keyOf a) with
  | none=>False
  | some A=>match A.gh with
   | false=>∃(I:A.τ->View->Prop)(m:A.τ->Nat),(∃x,(A.at st).fits st x (I x V))/\∀x V',V.Le V'->I x V'->(lS ((A.at st).aw x) ((A.at st).boxes x)=true /\
    vc P T LF RF L J a ((A.at st).st x) V' fun e st' eC=>match e with
     | .normal=>∃y,m y<m x/\(A.at st).fits st' y (I y eC)
     | e=>K e st' eC)
   | true=>∃I:A.τ->Nat->View->Prop,(∃x k,(A.at st).fits st x (I x k V))/\∀x k V',V.Le V'->I x k V'->(lS ((A.at st).aw x) ((A.at st).boxes x)=true /\
    vc P T LF RF L J a ((A.at st).st x) V' fun e st' eC=>match e with
     | .normal=>∃y k',k'<k/\(A.at st).fits st' y (I y k' eC)
     | e=>K e st' eC)
 | .exit id,st,V,K=>K (.exit id) st V
 | .ret,st,V,K=>K .ret st V
 | .scope a,st,V,K=>vc P T LF RF L J a st V fun e st' V'=>match e with
  | .goto _=>False
  | e=>K e st' V'
 | .label _,st,V,K=>K .normal st V
 | _,_,_,_=>False
def kD (T:cQ)(st:St):List ResultVar->Option (List SV)
 | []=>some []
 | .tmp t::r=>match st.aw t,kD T st r with
  | some x,some l=>some (x::l)
  | _,_=>none
 | .cell a t::r=>match st.aw a,az T t,kD T st r with
  | some (.c (.ptr s o)),some i,some l=>match iD st.boxes i (.c (.ptr s o)) with
   | .ret _ x=>some (x::l)
   | _=>none
  | _,_,_=>none
def minus (l m:List Nat):List Nat:=l.filter fun x=>!(eh x m)
def GP (bx:Nat->Option aP)(β:Nat->Nat)(V:View):List Nat->Prop->Prop
 | [],k=>k
 | s::r,k=>match bx s with
  | some ⟨.aV _,_⟩=>False
  | some b=>V.w.heap[β s]?=some (b.obj β)->GP bx β V r k
  | none=>False
def iP:List (Nat×aP)->List Nat
 | []=>[]
 | (s,b)::r=>match b.cs with
  | .aV _=>iP r
  | _=>s::iP r
def HS (bs:List (Nat×aP))(β0:Nat->Nat)(b:Nat)(k:Prop):Prop:=
 match bs with
 | []=>k
 | (m,x)::r=>match x.cs with
  | .aV vs=>(vs≠[]/\b=β0 m)\/HS r β0 b k
  | _=>HS r β0 b k
def kC (β:Nat->Nat):List SV->Value
 | [x]=>x.den β
 | l=>.tuple (l.map (SV.den β)).toArray
def rk (T:cQ)(bx:Nat->Option aP)(s:Nat):Bool:=
 cond (Nat.ble 100000 s) true (match bx s with|some ⟨.row _,ty⟩|some ⟨.aV _,ty⟩=>Nat.ble 2 (T.filter fun x=>Nat.beq x.1 ty).length|_=>false)
def EU (T:cQ)(rs:List ResultVar)(bs:List (Nat×aP))(β0:Nat->Nat)(n0:Nat)(R:Value->View->Prop)(st:St)(V:View):Prop:=
 match kD T st rs with
 | none=>False
 | some xs=>let F:=iP bs
  let L:=reach st.boxes 3 (dedup (xs.flatMap SV.ids++F))
  match fZ st.boxes L with
  | false=>False
  | true=>match (minus L F).filter (rk T st.boxes) with
   | []=>∀V':View,V.Le V'->kS (minus L F) β0 fun β=>GP st.boxes β V' F (wu st.boxes β V' (minus L F) (R (kC β xs) V'))
   | [s]=>match st.boxes s with
    | some b=>∀V':View,kS (minus L F) β0 fun β=>V.Le (V'.iw (QG b) (β s))->GP st.boxes β V' F (oM (Gq b) (V'.w.heap[β s]?=some (b.obj β)) ->
      oM (Gq b) (n0<=β s\/HS bs β0 (β s) False)->wu st.boxes β V' ((minus L F).filter (!Nat.beq s ·)) (R (kC β xs) V'))
    | none=>False
   | _=>False
def SE (P:Program)(T:cQ)(LF RF:List Nat)(L J:Ay)(code:Code)(rs:List ResultVar)(ss:List (Nat×SV))(bs:List (Nat×aP))(β0:Nat->Nat)(V:View)(R:Value->View->Prop):Prop:=
 vc P T LF RF L J code ⟨az ss,az bs⟩ V fun e st V'=>match e with
  | .normal=>EU T rs bs β0 V.w.heap.size R st V'
  | .ret=>EU T rs bs β0 V.w.heap.size R st V'
  | _=>False
def gD (n:Nat):Code->Bool
 | .region _ ops _=>ops.toList.all fun o=>match o.dst with|some d=>Nat.blt d n|none=>true
 | .seq a b=>gD n a&&gD n b
 | .cond _ a b=>gD n a&&gD n b
 | .block _ a=>gD n a
 | .loop a=>gD n a
 | .scope a=>gD n a
 | _=>true
def mu:Nat->List (Nat×SV)->Bool
 | _,[]=>true
 | i,(j,x)::r=>Nat.beq i j&&x.plain&&mu (i+1) r
def z_ (P:Program)(T:cQ)(LF RF:List Nat)(L J:Ay)(fn:Func)(ss:List (Nat×SV))(bs:List (Nat×aP))(β0:Nat->Nat)(V:View)(R:Value->View->Prop):Prop:=
 match fn.body with
 | some code=>match gD fn.ntmps code&&mu 0 ss&&Nat.ble ss.length fn.ntmps&&Nat.ble fn.ntmps 100000&&(bs.all fun b=>Nat.ble 100000 b.1&&Nat.blt b.1 200000)&&lS ss bs with
  | true=>SE P T LF RF L J code fn.results.toList ss bs β0 V R
  | false=>False
 | none=>False
theorem View.Le.refl (V:View):V.Le V:=fun _ _ h=>h
theorem View.Le.trans {V V' eC:View}(h:V.Le V')(k:V'.Le eC):V.Le eC:=fun b o x=>k b o (h b o x)
theorem View.Le.at {V V':View}(h:V.Le V'){p:Addr}{v:Value}(k:V.at p v):V'.at p v:=by
 obtain ⟨hH,hc⟩:=k
 unfold World.cell? at hc
 split at hc
 ·rename_i hb
  obtain ⟨h1,h2⟩:=h p.block _ ⟨hH,hb⟩
  refine ⟨h1,?_⟩
  unfold World.cell?
  rw [h2]
  exact hc
 ·cases hc
theorem eA.refl (X:Nat->Prop)(w:World):eA X w w:=⟨Nat.le_refl _,fun _ _ _=>rfl,rfl,rfl,rfl⟩
theorem eA.trans {X:Nat->Prop}{a b c:World}(h:eA X a b)(k:eA X b c):eA X a c:=
 ⟨Nat.le_trans h.size k.size,fun i hi hx=>(k.bC i (Nat.lt_of_lt_of_le hi h.size) hx).trans (h.bC i hi hx),k.os.trans h.os,k.tape.trans h.tape,k.out.trans h.out⟩
theorem eA.mono {X Y:Nat->Prop}{a b:World}(h:eA X a b)(hxy:∀i,X i->Y i):eA Y a b:=
 ⟨h.size,fun i hi hy=>h.bC i hi fun hx=>hy (hxy i hx),h.os,h.tape,h.out⟩
theorem View.N2 (V:View)(w':World)(hx:eA V.X V.w w'):V.Le (V.to w' hx.size):=by
 rintro b o ⟨hH,hb⟩
 refine ⟨hH,?_⟩
 have hlt:b<V.w.heap.size:=by
  rcases Nat.lt_or_ge b V.w.heap.size with h|h
  ·exact h
  ·rw [Array.getElem?_eq_none h] at hb;cases hb
 show w'.heap[b]?=some o
 rw [hx.bC b hlt fun hX=>hH (V.hX b hX)]
 exact hb
theorem ab.mono {P:Program}{f:FuncId}{args:Array Value}{V:View}{R R':Value->View->Prop}(h:ab P f args V R)
  (hR:∀r V',V.Le V'->R r V'->R' r V'):ab P f args V R':=
 ⟨h.1,h.2.mono fun _ w' ⟨r,he,hx,hr⟩=>⟨r,he,hx,hR r _ (V.N2 w' hx) hr⟩⟩
structure CL where
 ids:List Nat
 B:Nat->Prop
section
variable (n:Nat) (V0:View) (bw:CL) (β0:Nat->Nat)
structure Mod (st:St) (β:Nat->Nat) (a:Act) (w:World) (V:View):Prop where
 defers:a.defers=[]
 size:a.tmps.size=n
 aw:∀t x,st.aw t=some x->a.tmps.getD t undef=x.den β
 w_:∀t x,st.aw t=some x->∀s∈x.ids,∃b,st.boxes s=some b
 wZ:∀s b,st.boxes s=some b->∀s'∈b.cs.ids,∃b',st.boxes s'=some b'
 boxes:∀s b,st.boxes s=some b->b.live->w.heap[β s]?=some (b.obj β)
 inj:∀s s' b b',st.boxes s=some b->b.live->st.boxes s'=some b'->b'.live->β s=β s'->s=s'
 oe:∀b o,V.bC b o->w.heap[b]?=some o/\¬V0.H b
 sL:∀s b,st.boxes s=some b->b.live->∀o,¬V.bC (β s) o
 ext:eA V0.X V0.w w
 own:∀s b,st.boxes s=some b->b.live->V0.w.heap.size<=β s\/(100000<=s/\bw.B (β s))
 kU:∀s∈bw.ids,(100000<=s/\s<200000)/\β s=β0 s
 jE:∀b,bw.B b->V0.X b
 small:n<=100000
end
theorem cI {cs:List C}{ty:TypeId}:aP.live ⟨.lit cs,ty⟩:=fun _ h=>nomatch h
theorem bY {vs:List Value}{ty:TypeId}:aP.live ⟨.row vs,ty⟩:=fun _ h=>nomatch h
theorem e_ {vs:List Value}{ty:TypeId}(h:vs≠[]):aP.live ⟨.aV vs,ty⟩:=fun _ e=>by cases e;exact h
theorem fD {ty:TypeId}:¬aP.live ⟨.aV [],ty⟩:=fun h=>h [] rfl rfl
theorem eO {b:aP}{k:Prop}:oM (Gq b) k↔(b.live->k):=by
 obtain ⟨cs,ty⟩:=b
 cases cs with
 | lit cs=>exact ⟨fun h _=>h,fun h=>h cI⟩
 | row cs=>exact ⟨fun h _=>h,fun h=>h bY⟩
 | aV vs=>exact ⟨fun h l=>h (l vs rfl),fun h l=>h (e_ l)⟩
theorem qV {l m:List Prop}{k:Prop}:oM (l++m) k↔oM l (oM m k):=by
 induction l with
 | nil=>exact Iff.rfl
 | cons p r ih=>exact ⟨fun h hp=>ih.1 (h hp),fun h hp=>ih.2 (h hp)⟩
theorem JB {b:aP}:QG b↔b.live:=by
 obtain ⟨cs,ty⟩:=b
 cases cs with
 | lit cs=>exact ⟨fun _=>cI,fun _=>trivial⟩
 | row cs=>exact ⟨fun _=>bY,fun _=>trivial⟩
 | aV vs=>exact ⟨fun h=>e_ h,fun l=>l vs rfl⟩
theorem C.bI {β β':Nat->Nat}{c:C}(h:∀s∈c.ids,β s=β' s):c.den β=c.den β':=by
 cases c with
 | v x=>rfl
 | w x=>rfl
 | tt=>rfl
 | ff=>rfl
 | ptr s o=>simp [C.den,h s (by simp [C.ids])]
 | kY s o n c=>simp [C.den,h s (by simp [C.ids])]
 | jB s n c=>simp [C.den,h s (by simp [C.ids])]
 | sH f ss=>
  have:(ss.map fun s=>Value.pointer (some ⟨β s,0,none⟩))=ss.map fun s=>Value.pointer (some ⟨β' s,0,none⟩):=
   List.map_congr_left fun s hs=>by rw [h s (by simpa [C.ids] using hs)]
  simp only [C.den,this]
theorem ko {β β':Nat->Nat}{cs:List C}(h:∀s∈cs.flatMap C.ids,β s=β' s):cs.map (C.den β)=cs.map (C.den β'):=
 List.map_congr_left fun c hc=>C.bI fun s hs=>h s (List.mem_flatMap.2 ⟨c,hc,hs⟩)
theorem wg {β β':Nat->Nat}{x:Bool×List C}(h:∀s∈x.2.flatMap C.ids,β s=β' s):gP β x=gP β' x:=by
 obtain ⟨b,cs⟩:=x
 cases b with
 | true=>simp only [gP];rw [ko h]
 | false=>
  match cs,h with
  | [],_=>rfl
  | [c],h=>simp only [gP];exact C.bI fun s hs=>h s (by simpa using hs)
  | _::_::_,_=>rfl
theorem SV.bI {β β':Nat->Nat}{x:SV}(h:∀s∈x.ids,β s=β' s):x.den β=x.den β':=by
 cases x with
 | c x=>exact C.bI h
 | agg cs=>simp only [SV.den];rw [ko h]
 | oc xs=>
  simp only [SV.den]
  congr 2
  exact List.map_congr_left fun x hx=>wg fun s hs=>h s (List.mem_flatMap.2 ⟨x,hx,hs⟩)
theorem Cells.bI {β β':Nat->Nat}{x:Cells}(h:∀s∈x.ids,β s=β' s):x.den β=x.den β':=by
 cases x with
 | lit cs=>exact ko h
 | row vs=>rfl
 | aV vs=>rfl
theorem aP.cZ {β β':Nat->Nat}{x:aP}(h:∀s∈x.cs.ids,β s=β' s):x.obj β=x.obj β':=by
 simp only [aP.obj];rw [Cells.bI h]
variable {P:Program} {T:cQ} {n:Nat} {V0:View} {bw:CL} {β0:Nat->Nat} {st:St} {β:Nat->Nat} {a:Act} {w:World} {V:View}
theorem Mod.eval (h:Mod n V0 bw β0 st β a w V){x:Operand}{v:SV}(hx:st.aW x=some v):a.eval x=v.den β:=by
 cases x with
 | tmp t=>exact h.aw t v hx
 | const c=>
  simp only [St.aW,Option.some.injEq] at hx
  subst hx
  simp only [Act.eval]
  unfold SV.ofConst
  split
  ·rfl
  ·rfl
  ·rename_i cs
   simp only [SV.den]
   congr 1
   have:∀l:List Value,(l.map C.ofConst).map (C.den β)=l:=by
    intro l
    induction l with
    | nil=>rfl
    | cons y r ih=>
     simp only [List.map_cons,ih]
     congr 1
     unfold C.ofConst
     split<;>rfl
   rw [this]
  ·rfl
 | global g=>simp only [St.aW,Option.some.injEq] at hx;subst hx;rfl
 | func f=>simp only [St.aW,Option.some.injEq] at hx;subst hx;simp [Act.eval,SV.den,C.den]
theorem Mod.live (h:Mod n V0 bw β0 st β a w V){x:Operand}{v:SV}(hx:st.aW x=some v):∀s∈v.ids,∃b,st.boxes s=some b:=by
 cases x with
 | tmp t=>exact h.w_ t v hx
 | const c=>
  simp only [St.aW,Option.some.injEq] at hx
  subst hx
  intro s hs
  exfalso
  have h1:∀y,(C.ofConst y).ids=[]:=by
   intro y
   unfold C.ofConst
   split<;>rfl
  unfold SV.ofConst at hs
  split at hs
  ·simp [SV.ids,C.ids] at hs
  ·simp [SV.ids,C.ids] at hs
  ·obtain ⟨c,hc,hs⟩:=List.mem_flatMap.1 hs
   obtain ⟨y,_,rfl⟩:=List.mem_map.1 hc
   rw [h1] at hs;cases hs
  ·simp [SV.ids,C.ids] at hs
 | global g=>simp only [St.aW,Option.some.injEq] at hx;subst hx;intro s hs;simp [SV.ids,C.ids] at hs
 | func f=>simp only [St.aW,Option.some.injEq] at hx;subst hx;intro s hs;simp [SV.ids,C.ids] at hs
theorem beq_eq {a b:Nat}:Nat.beq a b=true↔a=b:=by
 constructor
 ·exact Nat.eq_of_beq_eq_true
 ·intro h;subst h;exact Nat.beq_refl a
theorem c_ (st:St)(d:Nat)(x:SV)(t:Nat):(st.put (some d) x).aw t=if t=d then some x else st.aw t:=by
 simp only [St.put]
 by_cases h:t=d
 ·subst h;simp [Nat.beq_refl]
 ·have:Nat.beq t d=false:=by
   cases hb:Nat.beq t d
   ·rfl
   ·exact absurd (beq_eq.1 hb) h
  simp [this,h]
theorem aj (st:St)(s:Nat)(b:aP)(t:Nat):(st.box s b).boxes t=if t=s then some b else st.boxes t:=by
 simp only [St.box]
 by_cases h:t=s
 ·subst h;simp [Nat.beq_refl]
 ·have:Nat.beq t s=false:=by
   cases hb:Nat.beq t s
   ·rfl
   ·exact absurd (beq_eq.1 hb) h
  simp [this,h]
theorem oJ (l:Array Value)(d t:Nat)(v:Value)(hd:d<l.size):(l.setIfInBounds d v).getD t undef=if t=d then v else l.getD t undef:=by
 by_cases h:t=d
 ·subst h;simp [hd]
 ·simp [h,Ne.symm h]
theorem Mod.put (h:Mod n V0 bw β0 st β a w V){d:Nat}{x:SV}{v:Value}(hd:d<n)(hv:v=x.den β)(hl:∀s∈x.ids,∃b,st.boxes s=some b) :
  Mod n V0 bw β0 (st.put (some d) x) β (a.put (some d) v) w V where
 defers:=h.defers
 size:=by simp [Act.put,h.size]
 aw:=by
  intro t y hy
  rw [c_] at hy
  show (a.tmps.setIfInBounds d v).getD t undef=_
  rw [oJ _ _ _ _ (by rw [h.size];exact hd)]
  split at hy
  ·rename_i e;rw [if_pos e];simp only [Option.some.injEq] at hy;rw [←hy];exact hv
  ·rename_i e;rw [if_neg e];exact h.aw t y hy
 w_:=by
  intro t y hy
  rw [c_] at hy
  split at hy
  ·simp only [Option.some.injEq] at hy;rw [←hy];exact hl
  ·exact h.w_ t y hy
 wZ:=h.wZ
 boxes:=h.boxes
 inj:=h.inj
 oe:=h.oe
 sL:=h.sL
 ext:=h.ext
 own:=h.own
 kU:=h.kU
 jE:=h.jE
 small:=h.small
theorem Mod.DC (h:Mod n V0 bw β0 st β a w V){d:Option Nat}{x:SV}{v:Value}(hd:∀k,d=some k->k<n)(hv:v=x.den β)(hl:∀s∈x.ids,∃b,st.boxes s=some b) :
  Mod n V0 bw β0 (st.put d x) β (a.put d v) w V:=by
 cases d with
 | none=>exact h
 | some d=>exact h.put (hd d rfl) hv hl
theorem Mod.drew (h:Mod n V0 bw β0 st β a w V):Mod n V0 bw β0 st β a { w with drawn:=w.drawn+1 } V:=
 ⟨h.defers,h.size,h.aw,h.w_,h.wZ,h.boxes,h.inj,h.oe,h.sL,⟨h.ext.size,h.ext.bC,h.ext.os,h.ext.tape,h.ext.out⟩,h.own,h.kU,h.jE,h.small⟩
theorem aB {w:World}{b:Nat}{o:Obj}(h:w.heap[b]?=some o):b<w.heap.size:=by
 rcases Nat.lt_or_ge b w.heap.size with h'|h'
 ·exact h'
 ·rw [Array.getElem?_eq_none h'] at h;cases h
theorem bR (w:World)(o:Obj){b:Nat}(h:b<w.heap.size):(w.alloc o).heap[b]?=w.heap[b]?:=by
 show (w.heap.push o)[b]?=_
 rw [Array.getElem?_push,if_neg (by omega)]
theorem heap_alloc_new (w:World)(o:Obj):(w.alloc o).heap[w.heap.size]?=some o:=by
 show (w.heap.push o)[w.heap.size]?=_
 rw [Array.getElem?_push,if_pos rfl]
theorem aO (β:Nat->Nat)(s b:Nat):dG β s b s=b:=by simp [dG,Nat.beq_refl]
theorem fH (β:Nat->Nat){s t:Nat}(b:Nat)(h:t≠s):dG β s b t=β t:=by
 have:Nat.beq t s=false:=by
  cases hb:Nat.beq t s
  ·rfl
  ·exact absurd (beq_eq.1 hb) h
 simp [dG,this]
theorem Mod.new (h:Mod n V0 bw β0 st β a w V){d:Nat}{b:aP}(hd:d<n)(hn:st.boxes d=none)(hl:∀s∈b.cs.ids,∃b',st.boxes s=some b') :
  Mod n V0 bw β0 (st.box d b) (dG β d w.heap.size) a (w.alloc (b.obj β)) V:=by
 have hne:∀s b',st.boxes s=some b'->s≠d:=fun s b' hs e=>by rw [e,hn] at hs;cases hs
 have hβ:∀s b',st.boxes s=some b'->dG β d w.heap.size s=β s:=fun s b' hs=>fH _ _ (hne s b' hs)
 have hlt:∀s b',st.boxes s=some b'->b'.live->β s<w.heap.size:=fun s b' hs l=>aB (h.boxes s b' hs l)
 have hV:∀b' o,V.bC b' o->b'<w.heap.size:=fun b' o hb=>aB (h.oe b' o hb).1
 refine ⟨h.defers,h.size,?_,?_,?_,?_,?_,?_,?_,?_,?_,?_,h.jE,?_⟩
 ·intro t x hx
  rw [h.aw t x hx]
  exact SV.bI fun s hs=>by obtain ⟨b',hb'⟩:=h.w_ t x hx s hs;exact (hβ s b' hb').symm
 ·intro t x hx s hs
  obtain ⟨b',hb'⟩:=h.w_ t x hx s hs
  exact ⟨b',by rw [aj,if_neg (hne s b' hb')];exact hb'⟩
 ·intro s b' hs s' hs'
  rw [aj] at hs
  have:∃b'',st.boxes s'=some b'':=by
   split at hs
   ·simp only [Option.some.injEq] at hs;rw [←hs] at hs';exact hl s' hs'
   ·exact h.wZ s b' hs s' hs'
  obtain ⟨b'',jM⟩:=this
  exact ⟨b'',by rw [aj,if_neg (hne s' b'' jM)];exact jM⟩
 ·intro s b' hs l
  rw [aj] at hs
  split at hs
  ·rename_i e
   simp only [Option.some.injEq] at hs
   rw [e,aO,heap_alloc_new,←hs]
   congr 1
   exact aP.cZ fun s' hs'=>by obtain ⟨b'',jM⟩:=hl s' hs';exact (hβ s' b'' jM).symm
  ·rw [hβ s b' hs,bR _ _ (hlt s b' hs l),h.boxes s b' hs l]
   congr 1
   exact aP.cZ fun s' hs'=>by obtain ⟨b'',jM⟩:=h.wZ s b' hs s' hs';exact (hβ s' b'' jM).symm
 ·intro s s' b1 b2 h1 l1 h2 l2 he
  rw [aj] at h1 h2
  split at h1<;>split at h2
  ·rename_i e1 e2;rw [e1,e2]
  ·rename_i e1 e2;rw [e1,aO,hβ s' b2 h2] at he;have:=hlt s' b2 h2 l2;omega
  ·rename_i e1 e2;rw [e2,aO,hβ s b1 h1] at he;have:=hlt s b1 h1 l1;omega
  ·rw [hβ s b1 h1,hβ s' b2 h2] at he;exact h.inj s s' b1 b2 h1 l1 h2 l2 he
 ·intro b' o hb
  obtain ⟨h1,h2⟩:=h.oe b' o hb
  exact ⟨by rw [bR _ _ (hV b' o hb)];exact h1,h2⟩
 ·intro s b' hs l o ho
  rw [aj] at hs
  split at hs
  ·rename_i e;rw [e,aO] at ho;have:=hV _ o ho;omega
  ·rw [hβ s b' hs] at ho;exact h.sL s b' hs l o ho
 ·exact h.ext.trans ⟨by simp,fun i hi _=>bR _ _ hi,rfl,rfl,rfl⟩
 ·intro s b' hs l
  rw [aj] at hs
  split at hs
  ·rename_i e;rw [e,aO];exact .inl h.ext.size
  ·rw [hβ s b' hs];exact h.own s b' hs l
 ·intro s hs
  obtain ⟨h1,h2⟩:=h.kU s hs
  exact ⟨h1,by rw [fH _ _ (by have:=h.small;omega)];exact h2⟩
 ·exact h.small
theorem Mod.void (h:Mod n V0 bw β0 st β a w V){s:Nat}{ty:TypeId}:Mod n V0 bw β0 (st.box s ⟨.aV [],ty⟩) β a w V:=by
 have hw:∀t b',st.boxes t=some b'->∃b'',(st.box s ⟨.aV [],ty⟩).boxes t=some b'':=by
  intro t b' ht
  rw [aj]
  split
  ·exact ⟨_,rfl⟩
  ·exact ⟨b',ht⟩
 have hb:∀t b',(st.box s ⟨.aV [],ty⟩).boxes t=some b'->b'.live->st.boxes t=some b':=by
  intro t b' ht l
  rw [aj] at ht
  split at ht
  ·cases ht;exact absurd l fD
  ·exact ht
 refine ⟨h.defers,h.size,h.aw,?_,?_,fun t b' ht l=>h.boxes t b' (hb t b' ht l) l,fun t t' b1 b2 h1 l1 h2 l2=>h.inj t t' b1 b2 (hb _ _ h1 l1) l1 (hb _ _ h2 l2) l2,h.oe,fun t b' ht l=>h.sL t b' (hb t b' ht l) l,h.ext,fun t b' ht l=>h.own t b' (hb t b' ht l) l,h.kU,h.jE,h.small⟩
 ·intro t x hx s' hs'
  obtain ⟨b',hb'⟩:=h.w_ t x hx s' hs'
  exact hw s' b' hb'
 ·intro t b' ht s' hs'
  have:∃b'',st.boxes s'=some b'':=by
   rw [aj] at ht
   split at ht
   ·cases ht;cases hs'
   ·exact h.wZ t b' ht s' hs'
  obtain ⟨b'',jM⟩:=this
  exact hw s' b'' jM
theorem Mod.rK (h:Mod n V0 bw β0 st β a w V){s:Nat}{b b':aP}(hs:st.boxes s=some b)(lb:b.live)(hl:∀s'∈b'.cs.ids,∃b'',st.boxes s'=some b'')
  {w':World}(hw:w'.heap=w.heap.setIfInBounds (β s) (b'.obj β))(ho:w'.os=w.os)(ht:w'.tape=w.tape)(hout:w'.output=w.output) :
  Mod n V0 bw β0 (st.box s b') β a w' V:=by
 have hlt:=aB (h.boxes s b hs lb)
 have hg:∀i,w'.heap[i]?=if i=β s then some (b'.obj β) else w.heap[i]?:=by
  intro i
  rw [hw,Array.getElem?_setIfInBounds]
  by_cases e:β s=i
  ·rw [if_pos e,if_pos (by omega),if_pos e.symm]
  ·rw [if_neg e,if_neg (Ne.symm e)]
 refine ⟨h.defers,h.size,h.aw,?_,?_,?_,?_,?_,?_,?_,?_,h.kU,h.jE,h.small⟩
 ·intro t x hx s' hs'
  obtain ⟨b1,hb1⟩:=h.w_ t x hx s' hs'
  rw [aj]
  split
  ·exact ⟨_,rfl⟩
  ·exact ⟨b1,hb1⟩
 ·intro t b1 hb1 s' hs'
  have:∃b'',st.boxes s'=some b'':=by
   rw [aj] at hb1
   split at hb1
   ·simp only [Option.some.injEq] at hb1;rw [←hb1] at hs';exact hl s' hs'
   ·exact h.wZ t b1 hb1 s' hs'
  rw [aj]
  split
  ·exact ⟨_,rfl⟩
  ·exact this
 ·intro t b1 hb1 l1
  rw [aj] at hb1
  rw [hg]
  split at hb1
  ·rename_i e;simp only [Option.some.injEq] at hb1;rw [e,if_pos rfl,hb1]
  ·rename_i e
   rw [if_neg fun he=>e (h.inj t s b1 b hb1 l1 hs lb he)]
   exact h.boxes t b1 hb1 l1
 ·intro t t' b1 b2 h1 l1 h2 l2 he
  have f:∀t b1,(st.box s b').boxes t=some b1->b1.live->∃b2,st.boxes t=some b2/\b2.live:=by
   intro t b1 h1 l1
   rw [aj] at h1
   split at h1
   ·rename_i e;rw [e];exact ⟨b,hs,lb⟩
   ·exact ⟨b1,h1,l1⟩
  obtain ⟨c1,hc1,m1⟩:=f t b1 h1 l1
  obtain ⟨c2,hc2,m2⟩:=f t' b2 h2 l2
  exact h.inj t t' c1 c2 hc1 m1 hc2 m2 he
 ·intro b1 o hb
  obtain ⟨h1,h2⟩:=h.oe b1 o hb
  refine ⟨?_,h2⟩
  rw [hg,if_neg]
  ·exact h1
  ·intro e;rw [e] at hb;exact h.sL s b hs lb o hb
 ·intro t b1 hb1 l1 o
  rw [aj] at hb1
  split at hb1
  ·rename_i e;rw [e];exact h.sL s b hs lb o
  ·exact h.sL t b1 hb1 l1 o
 ·refine ⟨by rw [hw];simpa using h.ext.size,fun i hi hX=>?_,ho.trans h.ext.os,ht.trans h.ext.tape,hout.trans h.ext.out⟩
  rw [hg]
  split
  ·rename_i e
   exfalso
   rcases h.own s b hs lb with h1|h1
   ·omega
   ·exact hX (e▸h.jE _ h1.2)
  ·exact h.ext.bC i hi hX
 ·intro t b1 hb1 l1
  rw [aj] at hb1
  split at hb1
  ·rename_i e;rw [e];exact h.own s b hs lb
  ·exact h.own t b1 hb1 l1
end Go.bF
namespace Go.bF
variable {P:Program} {T:cQ} {n:Nat} {V0:View} {bw:CL} {β0:Nat->Nat} {st:St} {β:Nat->Nat} {a:Act} {w:World} {V:View}
theorem du:∀(sc:List Prop)(k:Prop),yG sc k↔(∀p∈sc,p)/\k
 | [],k=>by simp [yG]
 | p::r,k=>by
  simp only [yG,du r k,List.mem_cons]
  constructor
  ·rintro ⟨h1,h2,h3⟩
   exact ⟨fun q hq=>by rcases hq with rfl|hq;exact h1;exact h2 q hq,h3⟩
  ·rintro ⟨h1,h2⟩
   exact ⟨h1 p (.inl rfl),fun q hq=>h1 q (.inr hq),h2⟩
theorem aC {t:TypeId}{i:TI}(h:jR P t=some i):∃info d z,P.info? t=some info/\P.underlying t=some d/\info.zero=some z/\i.k=jw d/\i.size=info.size/\i.bytes=info.bytes/\i.zero=z.cells.toList.map C.ofConst:=by
 unfold jR at h
 split at h
 ·rename_i info d h1 h2
  split at h
  ·rename_i z hz
   simp only [Option.some.injEq] at h
   subst h
   exact ⟨info,d,z,h1,h2,hz,rfl,rfl,rfl,rfl⟩
  ·cases h
 ·cases h
theorem A7 (β:Nat->Nat)(y:Value):(C.ofConst y).den β=y:=by
 unfold C.ofConst;split<;>rfl
theorem Bx (β:Nat->Nat)(l:List Value):(l.map C.ofConst).map (C.den β)=l:=by
 induction l with
 | nil=>rfl
 | cons y r ih=>simp only [List.map_cons,A7,ih]
theorem Bn (y:Value):(C.ofConst y).ids=[]:=by unfold C.ofConst;split<;>rfl
theorem zy (l:List Value):(l.map C.ofConst).flatMap C.ids=[]:=by
 induction l with
 | nil=>rfl
 | cons y r ih=>simp [Bn]
theorem ao {t:TypeId}{d:TypeDesc}(h:P.underlying t=some d)(w:World):(underlying t).run P w=.ok d w:=by simp [underlying,h]
theorem jv {t:TypeId}{i:TypeInfo}(h:P.info? t=some i)(w:World):(typeInfo t).run P w=.ok i w:=by simp [typeInfo,h]
theorem aL {t:TypeId}{i:TypeInfo}(h:P.info? t=some i)(w:World):(sizeOf t).run P w=.ok i.size w:=by simp [sizeOf,jv h]
theorem hU {t:TypeId}{i:TypeInfo}{z:Value}(h:P.info? t=some i)(hz:i.zero=some z)(w:World):(zeroValue t).run P w=.ok z w:=by
 simp [zeroValue,jv h,hz]
def pI:TK->Bool
 | .struct _|.arr _ _=>true
 | _=>false
theorem fU {t:TypeId}{d:TypeDesc}(h:P.underlying t=some d)(w:World):(isAgg t).run P w=.ok (pI (jw d)) w:=by
 simp only [isAgg,Sem.run_bind,ao h,Result.andThen_ok]
 cases d<;>rfl
def Live (st:St)(x:SV):Prop:=∀s∈x.ids,∃b,st.boxes s=some b
theorem xW {k k':IntKind}(h:uj k k'=true):k=k':=by cases k<;>cases k'<;>simp_all [uj]
theorem Dl {op:BinOp}{k:IntKind}{x y:Int}{sc:List Prop}{v:SV}{xt:TypeId}(h:lC op k x y=.ret sc v)(hsc:∀p∈sc,p) :
  (binOp op xt (.int k x) (.int k y)).run P w=.ok (v.den β) w/\v.ids=[]:=by
 cases op<;>simp only [lC,Q.ret.injEq] at h<;>obtain ⟨rfl,rfl⟩:=h <;>
  simp only [List.mem_cons,List.not_mem_nil,or_false,forall_eq,false_imp_iff,implies_true] at hsc <;>
  refine ⟨?_,rfl⟩ <;>
  simp [binOp,Op.intArith,Op.intDiv,Op.intBits,Op.intCmp,Op.shift,SV.den,C.den,bl,hsc]
 all_goals (try (intro h;omega))
theorem yq {op:BinOp}{k k':IntKind}{x y:Int}{sc:List Prop}{v:SV}{xt:TypeId}(hop:op=.shl\/op=.shr)(h:lC op k x y=.ret sc v)(hsc:∀p∈sc,p) :
  (binOp op xt (.int k x) (.int k' y)).run P w=.ok (v.den β) w/\v.ids=[]:=by
 rcases hop with rfl|rfl<;>simp only [lC,Q.ret.injEq] at h<;>obtain ⟨rfl,rfl⟩:=h <;>
  simp only [List.mem_cons,List.not_mem_nil,or_false,forall_eq] at hsc <;>
  refine ⟨?_,rfl⟩ <;>
  simp [binOp,Op.shift,SV.den,C.den]<;>(intro h;omega)
section eqs
variable {t:TypeId} (d:Nat)
theorem FC (h:P.underlying t=some .bool)(x y:Bool):(Op.equalIn (d+1) t (.bool x) (.bool y)).run P w=.ok (x==y) w:=by
 simp [Op.equalIn,ao h]
theorem xN {e:TypeId}(h:P.underlying t=some (.pointer e))(p:OA):(Op.equalIn (d+1) t (.pointer p) (.pointer none)).run P w=.ok p.isNone w:=by
 cases p<;>simp [Op.equalIn,ao h]
theorem nu {e:TypeId}(h:P.underlying t=some (.slice e))(p:OA)(n c m k:Nat):(Op.equalIn (d+1) t (.slice p n c) (.slice none m k)).run P w=.ok p.isNone w:=by
 cases p<;>simp [Op.equalIn,ao h]
theorem tV {ms:Array (String×TypeId)}(h:P.underlying t=some (.interface ms)){x:Value}(hx:IsIface x):(Op.equalIn (d+1) t x .nilIface).run P w=.ok (aU x) w:=by
 rcases hx with rfl|⟨u,v,rfl⟩<;>simp [Op.equalIn,ao h,aU]
end eqs
theorem jk {t:TypeId}{x y:Value}{r:Bool}(h:∀d,(Op.equalIn (d+1) t x y).run P w=.ok r w):(Op.equal t x y).run P w=.ok r w:=h 9999
theorem AK {op:BinOp}{xt:TypeId}{x y:Bool}(ht:P.underlying xt=some .bool)(hop:op=.eql\/op=.neq) :
  (binOp op xt (.bool x) (.bool y)).run P w=.ok (.bool (if op=.eql then x==y else !(x==y))) w:=by
 have:=jk (w:=w) fun d=>FC d ht x y
 rcases hop with rfl|rfl<;>simp only [binOp,Sem.run_bind,this,Result.andThen_ok,Sem.run_pure]<;>rfl
theorem xq {c:C}{b:Bool}(h:c.bool?=some b):c.den β=.bool b/\c.ids=[]:=by
 cases c with
 | v x=>cases x<;>simp_all [C.bool?,C.den,C.ids]
 | _=>simp_all [C.bool?,C.den,C.ids]
theorem A9 {d:TypeDesc}{k:IntKind}(h:jw d=.int k):d=.int k:=by cases d<;>simp_all [jw]
theorem zj {d:TypeDesc}(h:jw d=.bool):d=.bool:=by cases d<;>simp_all [jw]
theorem A_ {d:TypeDesc}{e:TypeId}(h:jw d=.ptr e):d=.pointer e:=by cases d<;>simp_all [jw]
theorem aQ {d:TypeDesc}{e:TypeId}(h:jw d=.slice e):d=.slice e:=by cases d<;>simp_all [jw]
theorem wh {d:TypeDesc}(h:jw d=.iface):∃ms,d=.interface ms:=by cases d<;>simp_all [jw]
theorem im {d:TypeDesc}{fs:List (TypeId×Nat)}(h:jw d=.struct fs):∃gs,d=.struct gs/\fs=gs.toList.map fun f=>(f.type,f.offset):=by
 cases d<;>simp_all [jw]
theorem lu {d:TypeDesc}{m:Nat}{e:TypeId}(h:jw d=.arr m e):d=.array m e:=by cases d<;>simp_all [jw]
theorem h_ {t:TypeId}{x y:Value}{r:Bool}(neg:Bool)(h:(Op.equal t x y).run P w=.ok r w)
  (hx:(∃p,x=.pointer p/\y=.pointer none)\/(∃p n c m k,x=.slice p n c/\y=.slice none m k)\/(IsIface x/\y=.nilIface)) :
  (binOp (if neg then .neq else .eql) t x y).run P w=.ok (.bool (if neg then !r else r)) w:=by
 rcases hx with ⟨p,rfl,rfl⟩|⟨p,n,c,m,k,rfl,rfl⟩|⟨hx,rfl⟩
 ·cases p<;>cases neg<;>simp only [Bool.false_eq_true,if_false,if_true,binOp,Sem.run_bind,h,Result.andThen_ok,Sem.run_pure]
 ·cases neg<;>simp only [Bool.false_eq_true,if_false,if_true,binOp,Sem.run_bind,h,Result.andThen_ok,Sem.run_pure]
 ·rcases hx with rfl|⟨u,v,rfl⟩<;>cases neg<;>simp only [Bool.false_eq_true,if_false,if_true,binOp,Sem.run_bind,h,Result.andThen_ok,Sem.run_pure]
theorem ny {op:BinOp}{t:TypeId}{x y:Operand}{u v:Value}(h:(∃p,u=.pointer p)\/(∃p n c,u=.slice p n c)\/(∃k n,u=.int k n)\/(∃b,u=.bool b)\/∃c,y=.const c)(hn:v=.nilIface->∃c,y=.const c)(hu:∀cs,u≠.agg cs) :
  (eqGuard op t x y u v).run P w=.ok () w:=by
 have key:∀(m:Sem Unit),m=(match (generalizing:=false) u,v with
   | .nilIface,.nilIface=>do
    if (match (generalizing:=false) x with|.const _=>true|_=>false)||(match (generalizing:=false) y with|.const _=>true|_=>false) then return
    if ← Op.eqGuardIn Op.maxDepth t u v then unsupported (.noEntry "binop/eql: two nil values of an interface type with methods, neither of them the literal nil")
   | .agg _,.agg _=>do
    if !(←program).eqGuardType (←program).depth t then return
    if ← Op.eqGuardIn Op.maxDepth t u v then unsupported (.noEntry "binop/eql: two nil values of an interface type with methods, in a part of a struct or an array")
   | _,_=>pure ())->m.run P w=.ok () w:=by
  intro m hm
  rw [hm]
  clear hm
  revert hn hu
  split
  ·intro hn _;obtain ⟨c,rfl⟩:=hn rfl;simp
  ·rename_i cs _;intro _ hu;exact absurd rfl (hu cs)
  ·intro _ _;rfl
 cases op<;>first|rfl|exact key _ rfl
theorem Iq {xt:TypeId}{i:TI}(hi:jR P xt=some i){x y:C}(neg:Bool){sc:List Prop}{v:SV}
  (h:zM neg i.k x y=.ret sc v)(hsc:∀p∈sc,p) :
  (binOp (if neg then .neq else .eql) xt (x.den β) (y.den β)).run P w=.ok (v.den β) w/\v.ids=[] /\
  ((∃p,x.den β=.pointer p)\/(∃p n c,x.den β=.slice p n c)\/y.den β=.nilIface)/\(y.den β=.nilIface->y=.v .nilIface)/\(∀cs,x.den β≠.agg cs):=by
 obtain ⟨info,d,z,h1,h2,h3,h4,-⟩:=aC hi
 unfold zM at h
 split at h
 ·rename_i e hk
  rw [h4] at hk
  obtain rfl:=A_ hk
  split at h
  ·split at h
   ·simp only [Q.ret.injEq] at h;obtain ⟨rfl,rfl⟩:=h
    refine ⟨?_,by cases neg<;>rfl,.inl ⟨_,rfl⟩,by simp [C.den],by simp [C.den]⟩
    rename_i s o
    have:=h_ (w:=w) neg (jk fun d=>xN d h2 (some ⟨β s,o,none⟩)) (.inl ⟨_,rfl,rfl⟩)
    cases neg<;>exact this
   ·simp only [Q.ret.injEq] at h;obtain ⟨rfl,rfl⟩:=h
    refine ⟨?_,rfl,.inl ⟨_,rfl⟩,by simp [C.den],by simp [C.den]⟩
    exact h_ (w:=w) neg (jk fun d=>xN d h2 _) (.inl ⟨_,rfl,rfl⟩)
   ·cases h
  ·cases h
 ·rename_i e hk
  rw [h4] at hk
  obtain rfl:=aQ hk
  split at h
  ·split at h
   ·simp only [Q.ret.injEq] at h;obtain ⟨rfl,rfl⟩:=h
    refine ⟨?_,by cases neg<;>rfl,.inr (.inl ⟨_,_,_,rfl⟩),by simp [C.den],by simp [C.den]⟩
    rename_i m k _ s o n c
    have:=h_ (w:=w) neg (jk fun d=>nu d h2 (some ⟨β s,o,none⟩) n c m k) (.inr (.inl ⟨_,_,_,_,_,rfl,rfl⟩))
    cases neg<;>exact this
   ·simp only [Q.ret.injEq] at h;obtain ⟨rfl,rfl⟩:=h
    refine ⟨?_,rfl,.inr (.inl ⟨_,_,_,rfl⟩),by simp [C.den],by simp [C.den]⟩
    rename_i m k _ s n c
    have:=h_ (w:=w) neg (jk fun d=>nu d h2 (mA (β s) c) n c m k) (.inr (.inl ⟨_,_,_,_,_,rfl,rfl⟩))
    have e:(mA (β s) c).isNone=Nat.beq c 0:=by cases c<;>rfl
    rw [e] at this
    exact this
   ·simp only [Q.ret.injEq] at h;obtain ⟨rfl,rfl⟩:=h
    refine ⟨?_,rfl,.inr (.inl ⟨_,_,_,rfl⟩),by simp [C.den],by simp [C.den]⟩
    exact h_ (w:=w) neg (jk fun d=>nu d h2 _ _ _ _ _) (.inr (.inl ⟨_,_,_,_,_,rfl,rfl⟩))
   ·cases h
  ·cases h
 ·rename_i hk
  rw [h4] at hk
  obtain ⟨ms,rfl⟩:=wh hk
  split at h
  ·split at h
   ·simp only [Q.ret.injEq] at h;obtain ⟨rfl,rfl⟩:=h
    have hx:=hsc _ (List.mem_singleton.2 rfl)
    refine ⟨?_,rfl,.inr (.inr rfl),fun _=>rfl,?_⟩
    ·exact h_ (w:=w) neg (jk fun d=>tV d h2 hx) (.inr (.inr ⟨hx,rfl⟩))
    ·intro cs e
     rcases hx with hx|⟨u,v,hx⟩<;>· simp only [C.den] at e;rw [hx] at e;cases e
   ·simp only [Q.ret.injEq] at h;obtain ⟨rfl,rfl⟩:=h
    refine ⟨?_,by cases neg<;>rfl,.inr (.inr rfl),fun _=>rfl,by simp [C.den]⟩
    have:=h_ (w:=w) neg (jk fun d=>tV d h2 (x:=.nilIface) (.inl rfl)) (.inr (.inr ⟨.inl rfl,rfl⟩))
    cases neg<;>exact this
   ·cases h
  ·cases h
 ·cases h
theorem Io (hT:cQ.ok P T){op:BinOp}{xt:TypeId}{x y:C}{ox oy:Operand}{sc:List Prop}{v:SV}
  (h:zK T op xt x y=.ret sc v)(hsc:∀p∈sc,p)(hy:y=.v .nilIface->∃c,oy=.const c) :
  (do eqGuard op xt ox oy (x.den β) (y.den β);binOp op xt (x.den β) (y.den β)).run P w=.ok (v.den β) w/\v.ids=[]:=by
 unfold zK at h
 split at h
 ·rename_i i hi
  have hi:=hT _ _ hi
  obtain ⟨info,d,z,h1,h2,h3,h4,-⟩:=aC hi
  split at h
  ·split at h
   ·rename_i k a k' b
    have hg:(eqGuard op xt ox oy (C.den β (.v (.int k a))) (C.den β (.v (.int k' b)))).run P w=.ok () w:=
     ny (.inr (.inr (.inl ⟨_,_,rfl⟩))) (by simp [C.den]) (by simp [C.den])
    have key:(binOp op xt (.int k a) (.int k' b)).run P w=.ok (v.den β) w/\v.ids=[]:=by
     split at h
     ·exact yq (.inl rfl) h hsc
     ·exact yq (.inr rfl) h hsc
     ·split at h
      ·rename_i e;obtain rfl:=xW e;exact Dl h hsc
      ·cases h
    simp only [Sem.run_bind,hg,Result.andThen_ok]
    exact key
   ·cases h
  ·rename_i hk
   rw [h4] at hk
   obtain rfl:=zj hk
   split at h
   ·rename_i a b ha hb
    have hx:=xq (β:=β) ha
    have hy:=xq (β:=β) hb
    have hg:(eqGuard op xt ox oy (x.den β) (y.den β)).run P w=.ok () w:=by
     rw [hx.1,hy.1]
     exact ny (.inr (.inr (.inr (.inl ⟨_,rfl⟩)))) (by simp) (by simp)
    simp only [Sem.run_bind,hg,Result.andThen_ok]
    rw [hx.1,hy.1]
    split at h
    ·simp only [Q.ret.injEq] at h;obtain ⟨rfl,rfl⟩:=h
     exact ⟨AK h2 (.inl rfl),rfl⟩
    ·simp only [Q.ret.injEq] at h;obtain ⟨rfl,rfl⟩:=h
     exact ⟨AK h2 (.inr rfl),rfl⟩
    ·cases h
   ·cases h
  ·have key:∀neg:Bool,zM neg i.k x y=.ret sc v->(do eqGuard (if neg then .neq else .eql) xt ox oy (x.den β) (y.den β);binOp (if neg then .neq else .eql) xt (x.den β) (y.den β)).run P w=.ok (v.den β) w/\v.ids=[]:=by
    intro neg h
    obtain ⟨k1,k2,k3,k4,k5⟩:=Iq (w:=w) (β:=β) hi neg h hsc
    have hg:(eqGuard (if neg then BinOp.neq else BinOp.eql) xt ox oy (x.den β) (y.den β)).run P w=.ok () w:=by
     refine ny ?_ (fun e=>hy (k4 e)) k5
     rcases k3 with k3|k3|k3
     ·exact .inl k3
     ·exact .inr (.inl k3)
     ·exact .inr (.inr (.inr (.inr (hy (k4 k3)))))
    simp only [Sem.run_bind,hg,Result.andThen_ok]
    exact ⟨k1,k2⟩
   split at h
   ·exact key false h
   ·exact key true h
   ·cases h
 ·cases h
end Go.bF
