import Derived.WalkKit
import Derived.Deep.LoopGhost
import Derived.KernelRfl
set_option linter.unusedVariables false
open Go.IntKind (i64 u64 u32)
namespace Go.bo
abbrev OA:=Option Addr
abbrev sm {α:Type}(a:α):Prop:=a=a
structure View where
 w:World
 H:Nat->Prop
 X:Nat->Prop
 hH:∀b,H b->b<w.heap.size
 hX:∀b,X b->H b
def View.bm (V:View)(b:Nat)(o:Obj):Prop:=¬V.H b/\V.w.heap[b]?=some o
def View.at (V:View)(p:Addr)(v:Value):Prop:=¬V.H p.block/\V.w.cell? p=some v
def View.Le (V V':View):Prop:=∀b o,V.bm b o->V'.bm b o
structure dI (X:Nat->Prop) (w w':World):Prop where
 size:w.heap.size<=w'.heap.size
 bm:∀b,b<w.heap.size->¬X b->w'.heap[b]?=w.heap[b]?
 os:w'.os=w.os
 tape:w'.tape=w.tape
 out:w'.output=w.output
def View.to (V:View)(w':World)(h:V.w.heap.size<=w'.heap.size):View:=⟨w',V.H,V.X,fun b hb=>Nat.lt_of_lt_of_le (V.hH b hb) h,V.hX⟩
def View.bU (V:View)(bs:List Nat):View:={ V with X:=fun b=>b∈bs/\V.H b,hX:=fun _ h=>h.2 }
def View.Ic (V:View)(b:Nat):View:={ V with H:=fun x=>V.H x\/(x=b/\b<V.w.heap.size),hH:=fun x h=>h.elim (V.hH x) fun h=>h.1▸h.2,hX:=fun x h=>.inl (V.hX x h) }
def View.oS (V:View)(p:Prop)(b:Nat):View:={ V with H:=fun x=>V.H x\/(p/\x=b/\b<V.w.heap.size),hH:=fun x h=>h.elim (V.hH x) fun h=>h.2.1▸h.2.2,hX:=fun x h=>.inl (V.hX x h) }
def View.shut (V:View):View:={ V with X:=fun _=>False,hX:=fun _ h=>h.elim }
def gj (P : Program)(f : FuncId) : Prop := ∃ fn, P.funcs[f]? = some fn ∧ fn.body.isNone = false ∧ (fn.name == "runtime.NumGoroutine") = false
def ab (P:Program)(f:FuncId)(args:Array Value)(V:View)(R:Value->View->Prop):Prop:=
 gj P f/\Calls P f args V.w fun e w'=>∃r,e=.returned r/\∃hx:dI V.X V.w w',R r (V.to w' hx.size)
inductive C where
 | v (x:Value)|w (x:Value)|tt|ff
 | ptr (s o:Nat)
 | jY (s o n c:Nat)
 | iH (s n c:Nat)
 | yk (f:FuncId) (ss:List Nat)
inductive SV where
 | c (x:C)|agg (cs:List C)|ml (xs:List (Bool×List C))
inductive Cells where
 | lit (cs:List C)|row (vs:List Value)|aT (vs:List Value)
structure aO where
 cs:Cells
 ty:TypeId
def aO.live (b:aO):Prop:=∀vs,b.cs=.aT vs->vs≠[]
def DH (b:aO):List Prop:=
 match b.cs with
 | .aT vs=>[vs≠[]]
 | _=>[]
def MA (b:aO):Prop:=
 match b.cs with
 | .aT vs=>vs≠[]
 | _=>True
def mO:List Prop->Prop->Prop
 | [],k=>k
 | p::r,k=>p->mO r k
def mA (b c:Nat):OA:=if c=0 then none else some ⟨b,0,none⟩
structure St where
 aq:Nat->Option SV
 boxes:Nat->Option aO
def C.den (β:Nat->Nat):C->Value
 | .v x=>x
 | .w x=>x
 | .tt=>.bool true
 | .ff=>.bool false
 | .ptr s o=>.pointer (some ⟨β s,o,none⟩)
 | .jY s o n c=>.slice (some ⟨β s,o,none⟩) n c
 | .iH s n c=>.slice (mA (β s) c) n c
 | .yk f ss=>.func (.func f) #[] (ss.map fun s=>Value.pointer (some ⟨β s,0,none⟩)).toArray
def fP (β:Nat->Nat):Bool×List C->Value
 | (true,cs)=>.agg (cs.map (C.den β)).toArray
 | (false,[c])=>c.den β
 | (false,_)=>.tuple #[]
def nS:Bool×List C->Option SV
 | (true,cs)=>some (.agg cs)
 | (false,[c])=>some (.c c)
 | (false,_)=>none
def SV.den (β:Nat->Nat):SV->Value
 | .c x=>x.den β
 | .agg cs=>.agg (cs.map (C.den β)).toArray
 | .ml xs=>.tuple (xs.map (fP β)).toArray
def SV.cells:SV->List C
 | .c x=>[x]
 | .agg cs=>cs
 | .ml _=>[]
def Cells.den (β:Nat->Nat):Cells->List Value
 | .lit cs=>cs.map (C.den β)
 | .row vs=>vs
 | .aT vs=>vs
def aO.obj (β:Nat->Nat)(b:aO):Obj:=.cells (b.cs.den β).toArray b.ty (0,0)
def C.ids:C->List Nat
 | .ptr s _=>[s]
 | .jY s _ _ _=>[s]
 | .iH s _ _=>[s]
 | .yk _ ss=>ss
 | _=>[]
def SV.ids:SV->List Nat
 | .c x=>x.ids
 | .agg cs=>cs.flatMap C.ids
 | .ml xs=>xs.flatMap fun x=>x.2.flatMap C.ids
def SV.re:SV->Bool
 | .ml _=>true
 | _=>false
def dM:C->List Prop
 | .v (.agg _)|.v (.tuple _)=>[False]
 | .w x=>[x.oneCell'=true]
 | _=>[]
def SV.dM (x:SV):List Prop:=x.cells.flatMap bo.dM
def Cells.ids:Cells->List Nat
 | .lit cs=>cs.flatMap C.ids
 | .row _=>[]
 | .aT _=>[]
def St.put (st:St)(d:Option Nat)(x:SV):St:=
 match d with
 | none=>st
 | some d=>{ st with aq:=fun t=>cond (Nat.beq t d) (some x) (st.aq t) }
def St.box (st:St)(s:Nat)(b:aO):St:={ st with boxes:=fun t=>cond (Nat.beq t s) (some b) (st.boxes t) }
def C.ofConst:Value->C
 | .bool true=>.tt
 | .bool false=>.ff
 | x=>.v x
def SV.ofConst:Value->SV
 | .bool true=>.c .tt
 | .bool false=>.c .ff
 | .agg cs=>.agg (cs.toList.map C.ofConst)
 | x=>.c (.v x)
def St.aS (st:St):Operand->Option SV
 | .tmp t=>st.aq t
 | .const v=>some (.ofConst v)
 | .global g=>some (.c (.v (.pointer (some ⟨g,0,none⟩))))
 | .func f=>some (.c (.yk f []))
inductive TK where
 | int (k:IntKind)|bool|str|ptr (e:TypeId)|slice (e:TypeId)|struct (fs:List (TypeId×Nat))|arr (n:Nat) (e:TypeId)|iface|func|tuple (ts:List TypeId)|other
structure TI where
 k:TK
 size:Nat
 bytes:Nat
 zero:List C
def iD:TypeDesc->TK
 | .int k=>.int k
 | .bool=>.bool
 | .string=>.str
 | .pointer e=>.ptr e
 | .slice e=>.slice e
 | .array n e=>.arr n e
 | .struct fs=>.struct (fs.toList.map fun f=>(f.type,f.offset))
 | .interface _=>.iface
 | .func ..=>.func
 | .tuple es=>.tuple es.toList
 | _=>.other
def iU (P:Program)(t:TypeId):Option TI:=
 match P.info? t,P.underlying t with
 | some i,some d=>
  match i.zero with
  | some z=>some { k:=iD d,size:=i.size,bytes:=i.bytes,zero:=z.cells.toList.map C.ofConst }
  | none=>none
 | _,_=>none
abbrev cw:=List (Nat×TI)
def au {α:Type}:List (Nat×α)->Nat->Option α
 | [],_=>none
 | (s,x)::r,t=>cond (Nat.beq t s) (some x) (au r t)
def cw.ok (P:Program)(T:cw):Prop:=∀t i,au T t=some i->iU P t=some i
inductive sW where
 | int (k:IntKind)|bool|slice|ptr|str|any
inductive qj where
 | one (s:sW)|agg (l:List sW)
inductive Sh where
 | val (s:qj)|ml (l:List qj)|none
def LR:C->sW
 | .v (.int k _)=>.int k
 | .v (.slice ..)=>.slice
 | .v (.pointer _)=>.ptr
 | .v (.string _)=>.str
 | .tt|.ff=>.bool
 | _=>.any
def iY (i:TI):qj:=
 match i.k with
 | .struct _|.arr _ _=>.agg (i.zero.map LR)
 | _=>match i.zero with
  | [z]=>.one (LR z)
  | _=>.one .any
def sW.ex:sW->(C->Prop)->Prop
 | .int k,K=>∃n:Int,K (.v (.int k n))
 | .bool,K=>∃b:Bool,K (.v (.bool b))
 | .slice,K=>∃(a:OA)(n c:Nat),K (.v (.slice a n c))
 | .ptr,K=>∃p:OA,K (.v (.pointer p))
 | .str,K=>∃s:ByteArray,K (.v (.string s))
 | .any,K=>∃x:Value,K (.w x)
def H7:List sW->(List C->Prop)->Prop
 | [],K=>K []
 | s::r,K=>s.ex fun v=>H7 r fun vs=>K (v::vs)
def qj.ex:qj->(SV->Prop)->Prop
 | .one s,K=>s.ex fun c=>K (.c c)
 | .agg l,K=>H7 l fun cs=>K (.agg cs)
def Jb:List qj->(List (Bool×List C)->Prop)->Prop
 | [],K=>K []
 | .one s::r,K=>s.ex fun c=>Jb r fun vs=>K ((false,[c])::vs)
 | .agg l::r,K=>H7 l fun cs=>Jb r fun vs=>K ((true,cs)::vs)
def Sh.ex:Sh->(SV->Prop)->Prop
 | .val s,K=>s.ex K
 | .ml l,K=>Jb l fun vs=>K (.ml vs)
 | .none,K=>K (.ml [])
def K4 (T:cw):List TypeId->Option (List qj)
 | []=>some []
 | t::r=>match au T t,K4 T r with
  | some i,some l=>some (iY i::l)
  | _,_=>Option.none
def NW (T:cw)(t:TypeId):Option Sh:=
 match au T t with
 | some i=>match i.k with
  | .tuple []=>some .none
  | .tuple ts=>match K4 T ts with
   | some l=>some (.ml l)
   | Option.none=>Option.none
  | _=>some (.val (iY i))
 | Option.none=>Option.none
inductive Q where
 | fail
 | ret (sc:List Prop) (x:SV)
 | new (sc:List Prop) (b:aO) (x:Nat->SV)
 | pH (sc:List Prop) (s:Nat) (b:aO)
 | rd (p:OA) (sh:qj)
 | lB (vs:List Value) (o size:Nat) (sh:qj)
 | oc (s:Nat) (vs:List Value) (n c:Nat) (x:OA×Nat ⊕ List Value) (size bytes:Nat) (ty:TypeId)
 | app (old:Option Nat) (ba:OA) (vs:List Value) (n c:Nat) (x:OA×Nat ⊕ List Value) (size bytes:Nat) (ty:TypeId)
def a_ (op:BinOp)(k:IntKind)(a b:Int):Int:=
 match op with
 | .and=>k.wrap ((BitVec.ofInt k.bits a &&& BitVec.ofInt k.bits b).toNat:Int)
 | .or=>k.wrap ((BitVec.ofInt k.bits a ||| BitVec.ofInt k.bits b).toNat:Int)
 | .xor=>k.wrap ((BitVec.ofInt k.bits a ^^^ BitVec.ofInt k.bits b).toNat:Int)
 | _=>k.wrap ((BitVec.ofInt k.bits a &&& ~~~(BitVec.ofInt k.bits b)).toNat:Int)
def kh (op:BinOp)(k:IntKind)(a b:Int):Q:=
 match op with
 | .add=>.ret [] (.c (.v (.int k (k.wrap (a+b)))))
 | .sub=>.ret [] (.c (.v (.int k (k.wrap (a-b)))))
 | .mul=>.ret [] (.c (.v (.int k (k.wrap (a*b)))))
 | .quo=>.ret [b≠0] (.c (.v (.int k (k.wrap (a.tdiv b)))))
 | .rem=>.ret [b≠0] (.c (.v (.int k (a.tmod b))))
 | .and=>.ret [] (.c (.v (.int k (a_ .and k a b))))
 | .or=>.ret [] (.c (.v (.int k (a_ .or k a b))))
 | .xor=>.ret [] (.c (.v (.int k (a_ .xor k a b))))
 | .andNot=>.ret [] (.c (.v (.int k (a_ .andNot k a b))))
 | .shl=>.ret [0<=b] (.c (.v (.int k (k.wrap (a*2^(min b.toNat k.bits))))))
 | .shr=>.ret [0<=b] (.c (.v (.int k (a.fdiv (2^(min b.toNat k.bits))))))
 | .eql=>.ret [] (.c (.v (.bool (a==b))))
 | .neq=>.ret [] (.c (.v (.bool (a != b))))
 | .lss=>.ret [] (.c (.v (.bool (decide (a<b)))))
 | .leq=>.ret [] (.c (.v (.bool (decide (a<=b)))))
 | .gtr=>.ret [] (.c (.v (.bool (decide (a>b)))))
 | .geq=>.ret [] (.c (.v (.bool (decide (a≥b)))))
def C.bool?:C->Option Bool
 | .tt=>some true
 | .ff=>some false
 | .v (.bool b)=>some b
 | _=>none
def cS:Value->Bool
 | .nilIface=>true
 | _=>false
def IsIface (x:Value):Prop:=x=.nilIface\/∃t v,x=.iface t v
def rf:IntKind->IntKind->Bool
 | .i8,.i8|.i16,.i16|.i32,.i32|.i64,.i64|.u8,.u8|.u16,.u16|.u32,.u32|.u64,.u64=>true
 | _,_=>false
def wN (neg:Bool)(k:TK)(x y:C):Q:=
 match k with
 | .ptr _=>match y with
  | .v (.pointer none)=>match x with
   | .ptr _ _=>.ret [] (.c (if neg then .tt else .ff))
   | .v (.pointer p)=>.ret [] (.c (.v (.bool (if neg then !p.isNone else p.isNone))))
   | _=>.fail
  | _=>.fail
 | .slice _=>match y with
  | .v (.slice none _ _)=>match x with
   | .jY _ _ _ _=>.ret [] (.c (if neg then .tt else .ff))
   | .iH _ _ c=>.ret [] (.c (.v (.bool (if neg then !(Nat.beq c 0) else Nat.beq c 0))))
   | .v (.slice a _ _)=>.ret [] (.c (.v (.bool (if neg then !a.isNone else a.isNone))))
   | _=>.fail
  | _=>.fail
 | .iface=>match y with
  | .v .nilIface=>match x with
   | .w y=>.ret [IsIface y] (.c (.v (.bool (if neg then !cS y else cS y))))
   | .v .nilIface=>.ret [] (.c (if neg then .ff else .tt))
   | _=>.fail
  | _=>.fail
 | _=>.fail
def wL (T:cw)(op:BinOp)(xt:TypeId)(x y:C):Q:=
 match au T xt with
 | some i=>match i.k with
  | .int _=>match x,y with
   | .v (.int k a),.v (.int k' b)=>
    match op with
    | .shl|.shr=>kh op k a b
    | _=>if rf k k' then kh op k a b else .fail
   | _,_=>.fail
  | .bool=>match x.bool?,y.bool? with
   | some a,some b=>match op with
    | .eql=>.ret [] (.c (.v (.bool (a==b))))
    | .neq=>.ret [] (.c (.v (.bool (!(a==b)))))
    | _=>.fail
   | _,_=>.fail
  | k=>match op with
   | .eql=>wN false k x y
   | .neq=>wN true k x y
   | _=>.fail
 | none=>.fail
def aj (p:OA)(n:Nat):OA:=p.map fun a=>a.add n
def setCells (cs:List C)(o:Nat)(xs:List C):List C:=cs.take o++xs++cs.drop (o+xs.length)
def dB (vs:List Value)(o:Nat)(xs:List Value):List Value:=
 match xs with
 | [x]=>vs.set o x
 | _=>vs.take o++xs++vs.drop (o+xs.length)
def C.val?:C->Option Value
 | .v x=>some x
 | .w x=>some x
 | .tt=>some (.bool true)
 | .ff=>some (.bool false)
 | _=>none
def i_:List C->Option (List Value)
 | []=>some []
 | c::r=>match c.val?,i_ r with
  | some v,some vs=>some (v::vs)
  | _,_=>none
def gO (bx:Nat->Option aO)(i:TI)(x:SV):Q:=
 match x with
 | .c (.ptr b o)=>match bx b with
  | some ⟨.lit cs,_⟩=>match i.k with
   | .struct _|.arr _ _=>if Nat.ble (o+i.size) cs.length then .ret [] (.agg ((cs.drop o).take i.size)) else .fail
   | _=>match cs[o]? with
    | some c=>.ret [] (.c c)
    | none=>.fail
  | some ⟨.row vs,_⟩=>.lB vs o i.size (iY i)
  | some ⟨.aT vs,_⟩=>if Nat.beq i.size 0 then .fail else .lB vs o i.size (iY i)
  | none=>.fail
 | .c (.v (.pointer p))=>if Nat.beq i.zero.length i.size then .rd p (iY i) else .fail
 | _=>.fail
def fo (bx:Nat->Option aO)(i:TI)(a x:SV):Q:=
 match a with
 | .c (.ptr b o)=>if Nat.beq x.cells.length i.size&&!x.re then match bx b with
   | some ⟨.lit cs,ty⟩=>if Nat.ble (o+i.size) cs.length then .pH x.dM b ⟨.lit (setCells cs o x.cells),ty⟩ else .fail
   | some ⟨.row vs,ty⟩=>match i_ x.cells with
    | some xs=>.pH (x.dM++[o+i.size<=vs.length]) b ⟨.row (dB vs o xs),ty⟩
    | none=>.fail
   | some ⟨.aT vs,ty⟩=>if Nat.beq i.size 0 then .fail else match i_ x.cells with
    | some xs=>.pH (x.dM++[o+i.size<=vs.length]) b ⟨.aT (dB vs o xs),ty⟩
    | none=>.fail
   | none=>.fail
  else .fail
 | _=>.fail
def lA (place:Nat->Option (Nat×Nat))(cells:List C):List (Nat×SV)->Option (List C)
 | []=>some cells
 | (i,x)::r=>match place i with
  | none=>none
  | some (off,size)=>if Nat.beq x.cells.length size&&Nat.ble (off+size) cells.length&&!x.re then lA place (setCells cells off x.cells) r else none
def partsOf (ρ:Operand->Option SV):List (Nat×Operand)->Option (List (Nat×SV))
 | []=>some []
 | (i,o)::r=>match ρ o,partsOf ρ r with
  | some x,some l=>some ((i,x)::l)
  | _,_=>none
def d_ (T:cw):List (TypeId×Nat)->Option (List (Nat×Nat))
 | []=>some []
 | (t,off)::r=>match au T t,d_ T r with
  | some i,some l=>some ((off,i.size)::l)
  | _,_=>none
def rep (n:Nat)(zs:List C):List C:=(List.replicate n zs).flatten
def mj (n:Nat)(zs:List Value):List Value:=
 match zs with
 | [z]=>List.replicate n z
 | _=>(List.replicate n zs).flatten
def pE (a:OA)(m l sz:Nat):OA:=if m=l then a else aj a (l*sz)
def Pz (o m l sz:Nat):Nat:=if m=l then o else o+l*sz
def GW (c:Nat):Option SV->Option (List Prop×Nat)
 | none=>some ([],c)
 | some (.c (.v (.int _ m)))=>some ([0<=m/\m<=(c:Int)],m.toNat)
 | _=>none
def Fg (n m:Nat):Option SV->Option SV->Option (List Prop×Nat)
 | some (.c (.v (.int _ h))),_=>some ([0<=h/\h<=(m:Int)],h.toNat)
 | none,none=>some ([],n)
 | _,_=>none
def IK (h:Nat):Option SV->Option (List Prop×Option Nat)
 | none=>some ([],none)
 | some (.c (.v (.int _ l)))=>some ([0<=l/\l<=(h:Int)],some l.toNat)
 | _=>none
def kP (n c:Nat)(lo hi mx:Option SV):Option (List Prop×Option Nat×Nat×Nat):=
 match GW c mx with
 | none=>none
 | some (p1,m)=>match Fg n m hi mx with
  | none=>none
  | some (p2,h)=>match IK h lo with
   | none=>none
   | some (p3,l)=>some (p1++p2++p3,l,h,m)
def wH (ρ:Operand->Option SV):Option Operand->Option (Option SV)
 | none=>some none
 | some x=>match ρ x with
  | some v=>some (some v)
  | none=>none
def oh (sz:Nat)(x:SV)(lo hi mx:Option SV):Q:=
 match x with
 | .c (.v (.slice a n c))=>match kP n c lo hi mx with
  | some (sc,none,h,m)=>.ret sc (.c (.v (.slice a h m)))
  | some (sc,some l,h,m)=>.ret sc (.c (.v (.slice (pE a m l sz) (h-l) (m-l))))
  | none=>.fail
 | .c (.jY s o n c)=>match kP n c lo hi mx with
  | some (sc,none,h,m)=>.ret sc (.c (.jY s o h m))
  | some (sc,some l,h,m)=>.ret sc (.c (.jY s (Pz o m l sz) (h-l) (m-l)))
  | none=>.fail
 | .c (.iH s n c)=>match mx with
  | none=>match kP n c lo hi none with
   | some (sc,none,h,m)=>.ret sc (.c (.iH s h m))
   | _=>.fail
  | some _=>.fail
 | _=>.fail
def fm (T:cw)(i:TI)(x ix:SV):Q:=
 match ix with
 | .c (.v (.int _ n))=>match i.k with
  | .slice e=>match au T e with
   | some ei=>match x with
    | .c (.v (.slice a len _))=>.ret [a.isSome=true,0<=n/\n<(len:Int)] (.c (.v (.pointer (aj a (n.toNat*ei.size)))))
    | .c (.jY s o len _)=>.ret [0<=n/\n<(len:Int)] (.c (.ptr s (o+n.toNat*ei.size)))
    | .c (.iH s len c)=>.ret [0<=n/\n<(len:Int),len<=c] (.c (.ptr s (n.toNat*ei.size)))
    | _=>.fail
   | none=>.fail
  | .arr len e=>match au T e with
   | some ei=>match x with
    | .c (.ptr s o)=>.ret [0<=n/\n<(len:Int)] (.c (.ptr s (o+n.toNat*ei.size)))
    | _=>.fail
   | none=>.fail
  | _=>.fail
 | _=>.fail
def vv (T:cw)(i:TI)(l c:SV):Q:=
 match i.k with
 | .slice e=>match au T e with
  | some ei=>match l,c with
   | .c (.v (.int _ n)),.c (.v (.int _ m))=>match i_ ei.zero with
    | some zs=>if Nat.beq ei.bytes 0||Nat.beq ei.size 0||!(Nat.beq ei.size zs.length) then .fail else .new [0<=n,n<=m,(ei.bytes:Int)*m<=140737488355328] ⟨.row (mj m.toNat zs),e⟩ fun d=>.c (.jY d 0 n.toNat m.toNat)
    | none=>.fail
   | _,_=>.fail
  | none=>.fail
 | _=>.fail
def rK:List SV->Option (List Nat)
 | []=>some []
 | .c (.ptr s 0)::r=>match rK r with
  | some l=>some (s::l)
  | none=>none
 | _=>none
def bB (ρ:Operand->Option SV):List Operand->Option (List SV)
 | []=>some []
 | o::r=>match ρ o,bB ρ r with
  | some x,some l=>some (x::l)
  | _,_=>none
def bI (a b:Int):Int:=if b<a then b else a
def bz (a b:Int):Int:=if b>a then b else a
def foldI (f:Int->Int->Int)(k:IntKind)(a:Int):List SV->Option Int
 | []=>some a
 | .c (.v (.int k' b))::r=>if rf k k' then foldI f k (f a b) r else none
 | _=>none
def dp (bx:Nat->Option aO)(s:Nat):Option (List Value):=
 match bx s with
 | some ⟨.lit cs,_⟩=>i_ cs
 | some ⟨.row vs,_⟩=>some vs
 | _=>none
def iM (bx:Nat->Option aO)(s:Nat):Option TypeId:=match bx s with|some b=>some b.ty|none=>none
def ig (ws:List Value)(o n:Nat):List Value:=cond (Nat.ble (o+n) ws.length) ((ws.drop o).take n) (List.replicate n (.agg #[]))
def bG (bx:Nat->Option aO)(e:TypeId)(ei:TI)(b x:SV):Q:=
 match i_ ei.zero with
 | none=>.fail
 | some zs=>if Nat.beq ei.bytes 0||Nat.beq ei.size 0||!(Nat.beq ei.size zs.length) then .fail else
  let src:Option (OA×Nat ⊕ List Value):=match x with
   | .c (.v (.slice a k _))=>some (.inl (a,k))
   | .c (.jY s o k _)=>match bx s with
    | some ⟨.row ws,_⟩=>some (.inr (ig ws o (k*ei.size)))
    | _=>match dp bx s with
     | some ws=>if Nat.ble (o+k*ei.size) ws.length then some (.inr ((ws.drop o).take (k*ei.size))) else none
     | none=>none
   | _=>none
  match src with
  | none=>.fail
  | some src=>match b with
   | .c (.v (.slice a n c))=>.app none a [] n c src ei.size ei.bytes e
   | .c (.jY s 0 n c)=>match dp bx s,iM bx s with
    | some vs,some ty=>if Nat.beq ty e then .app (some s) none vs n c src ei.size ei.bytes e else .fail
    | _,_=>.fail
   | .c (.iH s n c)=>match bx s with
    | some ⟨.aT vs,ty⟩=>if Nat.beq ty e then .oc s vs n c src ei.size ei.bytes e else .fail
    | _=>.fail
   | _=>.fail
def iV (b:Builtin)(k:TK)(xs:List SV):Q:=
 match xs with
 | []=>.fail
 | x::r=>match b with
  | .len=>match r,k,x with
   | [],.slice _,.c (.v (.slice _ n _))=>.ret [] (.c (.v (.int .i64 n)))
   | [],.slice _,.c (.jY _ _ n _)=>.ret [] (.c (.v (.int .i64 n)))
   | [],.slice _,.c (.iH _ n _)=>.ret [] (.c (.v (.int .i64 n)))
   | [],.str,.c (.v (.string s))=>.ret [] (.c (.v (.int .i64 s.size)))
   | _,_,_=>.fail
  | .cap=>match r,k,x with
   | [],.slice _,.c (.v (.slice _ _ c))=>.ret [] (.c (.v (.int .i64 c)))
   | [],.slice _,.c (.jY _ _ _ c)=>.ret [] (.c (.v (.int .i64 c)))
   | [],.slice _,.c (.iH _ _ c)=>.ret [] (.c (.v (.int .i64 c)))
   | _,_,_=>.fail
  | .min=>match x with
   | .c (.v (.int k a))=>match foldI bI k a r with
    | some m=>.ret [] (.c (.v (.int k m)))
    | none=>.fail
   | _=>.fail
  | .max=>match x with
   | .c (.v (.int k a))=>match foldI bz k a r with
    | some m=>.ret [] (.c (.v (.int k m)))
    | none=>.fail
   | _=>.fail
  | _=>.fail
def rM (t:TypeId)(i:TI)(v:SV):Q:=
 match i.k with
 | .iface=>.fail
 | _=>match v.ids,v.re with
  | [],false=>.ret [] (.c (.w (.iface t (v.den fun _=>0))))
  | _,_=>.fail
def jE (T:cw)(bx:Nat->Option aO)(t:TypeId)(x:SV):Q:=
 match au T t with
 | some i=>match i.k with
  | .slice e=>match au T e with
   | some ei=>match i_ ei.zero,x with
    | some zs,.c (.jY s o n _)=>match bx s with
     | some ⟨.row vs,ty⟩=>if Nat.beq ei.size 0||!(Nat.beq ei.size zs.length)||!(zs.all Value.oneCell') then .fail else .pH [o+n*ei.size<=vs.length] s ⟨.row (vs.take o++mj n zs++vs.drop (o+n*ei.size)),ty⟩
     | _=>.fail
    | _,_=>.fail
   | none=>.fail
  | _=>.fail
 | none=>.fail
def Cu:List C->Option (List (OA×Nat×Nat))
 | []=>some []
 | .v (.slice p n c)::r=>match Cu r with
  | some l=>some ((p,n,c)::l)
  | none=>none
 | _=>none
def iW (T:cw)(i:TI)(cs:List C)(k:Int):Q:=
 match i.k with
 | .arr n e=>match au T e,Cu cs with
  | some ei,some l=>match ei.k with
   | .slice _=>if Nat.beq ei.size 1&&Nat.beq l.length n then .ret [0<=k/\k<(n:Int)] (.c (.v (.slice (l.getD k.toNat (none,0,0)).1 (l.getD k.toNat (none,0,0)).2.1 (l.getD k.toNat (none,0,0)).2.2))) else .fail
   | _=>.fail
  | _,_=>.fail
 | _=>.fail
def aH (T:cw)(ρ:Operand->Option SV)(bx:Nat->Option aO)(op:Op):Q:=
 match op with
 | .move x|.assign x=>match ρ x with
  | some v=>.ret [] v
  | none=>.fail
 | .pick c a b=>match ρ c with
  | some (.c .tt)=>match ρ a with
   | some v=>.ret [] v
   | none=>.fail
  | some (.c .ff)=>match ρ b with
   | some v=>.ret [] v
   | none=>.fail
  | _=>.fail
 | .alloc t=>match au T t with
  | some i=>.new [] ⟨.lit i.zero,t⟩ fun d=>.c (.ptr d 0)
  | none=>.fail
 | .box t x=>match ρ x with
  | some v=>match v.re with
   | true=>.fail
   | false=>.new v.dM ⟨.lit v.cells,t⟩ fun d=>.c (.ptr d 0)
  | none=>.fail
 | .build t parts=>match au T t,partsOf ρ parts.toList with
  | some i,some ps=>match i.k with
   | .struct fs=>match d_ T fs with
    | some pl=>match lA (fun j=>pl[j]?) i.zero ps with
     | some cs=>.ret (ps.flatMap fun x=>x.2.dM) (.agg cs)
     | none=>.fail
    | none=>.fail
   | .arr _ e=>match au T e with
    | some ei=>match lA (fun j=>some (j*ei.size,ei.size)) i.zero ps with
     | some cs=>.ret (ps.flatMap fun x=>x.2.dM) (.agg cs)
     | none=>.fail
    | none=>.fail
   | _=>.fail
  | _,_=>.fail
 | .buildSlice t len parts=>match au T t,partsOf ρ parts.toList with
  | some i,some ps=>match i.k with
   | .slice e=>match au T e with
    | some ei=>if Nat.ble (len*ei.size) 16777216&&Nat.beq ei.zero.length ei.size&&!(Nat.beq ei.size 0) then match lA (fun j=>some (j*ei.size,ei.size)) (rep len ei.zero) ps with
      | some cs=>.new (ps.flatMap fun x=>x.2.dM) ⟨.lit cs,e⟩ fun d=>.c (.jY d 0 len len)
      | none=>.fail
     else .fail
    | none=>.fail
   | _=>.fail
  | _,_=>.fail
 | .load t a=>match au T t,ρ a with
  | some i,some x=>gO bx i x
  | _,_=>.fail
 | .store t a x=>match au T t,ρ a,ρ x with
  | some i,some av,some xv=>fo bx i av xv
  | _,_,_=>.fail
 | .nilCheck x=>match ρ x with
  | some (.c (.ptr s o))=>.ret [] (.c (.ptr s o))
  | some (.c (.v (.pointer p)))=>.ret [p.isSome=true] (.c (.v (.pointer p)))
  | _=>.fail
 | .binOp o xt x y _=>match ρ x,ρ y with
  | some (.c a),some (.c b)=>match b with
   | .v .nilIface=>match y with
    | .const _=>wL T o xt a b
    | _=>.fail
   | b=>wL T o xt a b
  | _,_=>.fail
 | .unOp .not _ x=>match ρ x with
  | some (.c .tt)=>.ret [] (.c .ff)
  | some (.c .ff)=>.ret [] (.c .tt)
  | some (.c (.v (.bool b)))=>.ret [] (.c (.v (.bool (!b))))
  | _=>.fail
 | .unOp .xor _ x=>match ρ x with
  | some (.c (.v (.int k n)))=>.ret [] (.c (.v (.int k (a_ .xor k (if k.signed then -1 else k.max) n))))
  | _=>.fail
 | .unOp .neg _ x=>match ρ x with
  | some (.c (.v (.int k n)))=>.ret [] (.c (.v (.int k (k.wrap (0-n)))))
  | _=>.fail
 | .convert src dst x=>match au T src,au T dst,ρ x with
  | some _,some i,some (.c (.v (.int _ n)))=>match i.k with
   | .int k=>.ret [] (.c (.v (.int k (k.wrap n))))
   | _=>.fail
  | _,_,_=>.fail
 | .makeFunc (.func f) first caps=>match first.toList with
  | []=>match bB ρ caps.toList with
   | some xs=>match rK xs with
    | some ss=>.ret [] (.c (.yk f ss))
    | none=>.fail
   | none=>.fail
  | _=>.fail
 | .makeSlice t l c=>match au T t,ρ l,ρ c with
  | some i,some lv,some cv=>vv T i lv cv
  | _,_,_=>.fail
 | .slice t x lo hi mx=>match au T t,ρ x,wH ρ lo,wH ρ hi,wH ρ mx with
  | some i,some xv,some l,some h,some m=>match i.k with
   | .slice e=>match au T e with
    | some ei=>oh ei.size xv l h m
    | none=>.fail
   | _=>.fail
  | _,_,_,_,_=>.fail
 | .fieldAddr t x f=>match au T t,ρ x with
  | some i,some xv=>match i.k with
   | .struct fs=>match fs[f]? with
    | some (ft,off)=>match au T ft with
     | some fi=>if Nat.beq fi.size 0 then .fail else match xv with
      | .c (.ptr s o)=>.ret [] (.c (.ptr s (o+off)))
      | .c (.v (.pointer p))=>.ret [p.isSome=true] (.c (.v (.pointer (aj p off))))
      | _=>.fail
     | none=>.fail
    | none=>.fail
   | _=>.fail
  | _,_=>.fail
 | .field t x f=>match au T t,ρ x with
  | some i,some (.agg cs)=>match i.k with
   | .struct fs=>match fs[f]? with
    | some (ft,off)=>match au T ft with
     | some fi=>match fi.k with
      | .struct _|.arr _ _=>.ret [] (.agg ((cs.drop off).take fi.size))
      | _=>match cs[off]? with
       | some c=>.ret [] (.c c)
       | none=>.fail
     | none=>.fail
    | none=>.fail
   | _=>.fail
  | _,_=>.fail
 | .indexAddr t x ix=>match au T t,ρ x,ρ ix with
  | some i,some xv,some iv=>fm T i xv iv
  | _,_,_=>.fail
 | .extract x j=>match ρ x with
  | some (.ml xs)=>match xs[j]? with
   | some v=>match nS v with
    | some y=>.ret [] y
    | none=>.fail
   | none=>.fail
  | _=>.fail
 | .call c=>match c.callee with
  | .builtin .append=>match bB ρ c.args.toList,c.argTypes.toList with
   | some [b,x],[t,t']=>match au T t,au T t' with
    | some i,some i'=>match i.k,i'.k with
     | .slice e,.slice _=>match au T e with
      | some ei=>bG bx e ei b x
      | none=>.fail
     | _,_=>.fail
    | _,_=>.fail
   | _,_=>.fail
  | .builtin .clear=>match bB ρ c.args.toList,c.argTypes.toList with
   | some [x],[t]=>jE T bx t x
   | _,_=>.fail
  | .builtin b=>match bB ρ c.args.toList,c.argTypes.toList with
   | some xs,t::_=>match au T t with
    | some i=>iV b i.k xs
    | none=>.fail
   | _,_=>.fail
  | _=>.fail
 | .index t x ix=>match au T t,ρ x,ρ ix with
  | some i,some (.c (.v (.string s))),some (.c (.v (.int _ n)))=>match i.k with
   | .str=>.ret [0<=n/\n<(s.size:Int)] (.c (.v (.int .u8 ((s.data.toList.getD n.toNat 0).toNat:Int))))
   | _=>.fail
  | some i,some (.agg cs),some (.c (.v (.int _ n)))=>iW T i cs n
  | _,_,_=>.fail
 | .makeInterface t x=>match au T t,ρ x with
  | some i,some v=>rM t i v
  | _,_=>.fail
 | _=>.fail
def vN:List Prop->Prop->Prop
 | [],k=>k
 | p::r,k=>p/\vN r k
def View.GZ (V:View)(p:Addr):Nat->List C->Prop->Prop
 | _,[],k=>k
 | i,c::r,k=>V.at (p.add i) (c.den fun _=>0)/\V.GZ p (i+1) r k
def View.FX (V:View)(p:OA)(x:SV)(k:Prop):Prop:=
 match x with
 | .agg cs=>∃a,p=some a/\V.GZ a 0 cs k
 | .c c=>(∃a,p=some a/\V.at a (c.den fun _=>0))/\k
 | .ml _=>False
def G3 (vs:List Value)(o size:Nat)(x:SV):Prop:=
 match x with
 | .agg cs=>o+size<=vs.length/\(vs.drop o).take size=cs.map (C.den fun _=>0)
 | .c c=>vs[o]?=some (c.den fun _=>0)
 | .ml _=>False
def dE (x:Nat):List Nat->Bool
 | []=>false
 | y::r=>cond (Nat.beq x y) true (dE x r)
def dedup:List Nat->List Nat
 | []=>[]
 | x::r=>let l:=dedup r;cond (dE x l) l (x::l)
def qO (l m:List Nat):Bool:=l.all fun x=>!(dE x m)
def FD (l m:List Nat):Bool:=l.all fun x=>dE x m
def C.rel (L:List Nat)(β:Nat->Nat)(J:C->Value):C->C
 | .ptr s o=>cond (dE s L) (.v (.pointer (some ⟨β s,o,none⟩))) (.ptr s o)
 | .jY s o n c=>cond (dE s L) (.v (.slice (some ⟨β s,o,none⟩) n c)) (.jY s o n c)
 | .iH s n c=>cond (dE s L) (.v (.slice (mA (β s) c) n c)) (.iH s n c)
 | .yk f ss=>cond (qO ss L) (.yk f ss) (.w (J (.yk f ss)))
 | x=>x
def SV.rel (L:List Nat)(β:Nat->Nat)(J:C->Value):SV->SV
 | .c x=>.c (x.rel L β J)
 | .agg cs=>.agg (cs.map (C.rel L β J))
 | .ml xs=>.ml (xs.map fun x=>(x.1,x.2.map (C.rel L β J)))
def aO.rel (L:List Nat)(β:Nat->Nat)(J:C->Value)(b:aO):aO:=
 match b.cs with
 | .row _=>b
 | .aT _=>b
 | .lit cs=>⟨.lit (cs.map (C.rel L β J)),b.ty⟩
def St.rel (st:St)(L:List Nat)(β:Nat->Nat)(J:C->Value):St:=
 ⟨fun t=>match st.aq t with|some x=>some (x.rel L β J)|none=>none,
   fun t=>cond (dE t L) none (match st.boxes t with|some b=>some (b.rel L β J)|none=>none)⟩
def View.sl (V:View)(a:OA)(xs:List Value):Prop:=∀i v,xs[i]?=some v->∃ad,a=some ad/\V.at (ad.add i) v
def kY (s d:Nat):Nat:=cond (Nat.blt s 100000) d (d+200000)
def xK (s:Nat)(vs:List Value)(n c size bytes:Nat)(ty:TypeId)(d:Nat)(st:St)(V:View)(K:St->View->Prop)(k:Nat)(xs:List Value):Prop:=
 (n+k)*bytes<=140737488355328/\n<=c/\c*size<=vs.length/\xs.length=k*size/\(∀v∈xs,v.oneCell'=true) /\
  match st.boxes (kY s d) with
  | some _=>False
  | none=>∀(_:Nat)(_:C->Value)(spare:List Value)(c':Nat),n+k<=c'->c'*size<=(n+k)*size+spare.length ->
   K (((st.box s ⟨.aT [],ty⟩).box (kY s d) ⟨.row (vs.take (n*size)++xs++spare),ty⟩).put (some d) (.c (.jY (kY s d) 0 (n+k) c'))) V
def oX (s:Nat)(vs:List Value)(n c size bytes:Nat)(ty:TypeId)(d:Nat)(st:St)(V:View)(K:St->View->Prop)(k:Nat)(xs:List Value):Prop:=
 (n+k)*bytes<=140737488355328/\n<=c/\c*size<=vs.length/\xs.length=k*size/\(∀v∈xs,v.oneCell'=true) /\
  match st.boxes (kY s d) with
  | some _=>False
  | none=>∀(spare:List Value)(c':Nat),n+k<=c'->c'*size<=(n+k)*size+spare.length ->
   K (((st.box s ⟨.aT [],ty⟩).box (kY s d) ⟨.aT (vs.take (n*size)++xs++spare),ty⟩).put (some d) (.c (.iH (kY s d) (n+k) c'))) V
def xL (vs:List Value)(n c size bytes:Nat)(ty:TypeId)(d:Nat)(st:St)(V:View)(K:St->View->Prop)(k:Nat)(xs:List Value):Prop:=
 (n+k)*bytes<=140737488355328/\c<n+k/\xs.length=k*size/\(∀v∈xs,v.oneCell'=true) /\
  match st.boxes d with
  | some _=>False
  | none=>∀(spare:List Value)(c':Nat),n+k<=c'->c'*size<=(n+k)*size+spare.length ->
   K ((st.box d ⟨.row (vs++xs++spare),ty⟩).put (some d) (.c (.jY d 0 (n+k) c'))) V
def pI (q:Q)(dst:Option Nat)(st:St)(V:View)(K:St->View->Prop):Prop:=
 match q with
 | .fail=>False
 | .ret sc x=>vN sc (K (st.put dst x) V)
 | .new sc b x=>match dst with
  | some d=>match st.boxes d with
   | none=>vN sc (K ((st.box d b).put (some d) (x d)) V)
   | some _=>False
  | none=>False
 | .pH sc s b=>match dst with
  | none=>vN sc (K (st.box s b) V)
  | some _=>False
 | .rd p sh=>sh.ex fun x=>V.FX p x (K (st.put dst x) V)
 | .lB vs o size sh=>sh.ex fun x=>G3 vs o size x/\K (st.put dst x) V
 | .oc s vs n c x size bytes ty=>match dst with
  | none=>False
  | some d=>match x with
   | .inr xs=>oX s vs n c size bytes ty d st V K (xs.length / size) xs
   | .inl (a,k)=>∃xs:List Value,V.sl a xs/\xs.length=k*size/\oX s vs n c size bytes ty d st V K k xs
 | .app old ba vs n c x size bytes ty=>match dst with
  | none=>False
  | some d=>match old with
   | some s=>match x with
    | .inr xs=>xK s vs n c size bytes ty d st V K (xs.length / size) xs
    | .inl (a,k)=>∃xs:List Value,V.sl a xs/\xs.length=k*size/\xK s vs n c size bytes ty d st V K k xs
   | none=>∃vs:List Value,V.sl ba vs/\vs.length=n*size/\n<=c/\(ba.isNone=true->c=0)/\(match x with
    | .inr xs=>xL vs n c size bytes ty d st V K (xs.length / size) xs
    | .inl (a,k)=>∃xs:List Value,V.sl a xs/\xs.length=k*size/\(k=0->K (st.put (some d) (.c (.v (.slice ba n c)))) V)/\(k≠0->xL vs n c size bytes ty d st V K k xs))
def eT (β:Nat->Nat)(s b:Nat):Nat->Nat:=fun t=>cond (Nat.beq t s) b (β t)
def jR:List Nat->(Nat->Nat)->((Nat->Nat)->Prop)->Prop
 | [],β,k=>k β
 | s::r,β,k=>∀b:Nat,jR r (eT β s b) k
def jg (bx:Nat->Option aO)(s:Nat):List Nat:=match bx s with|some b=>b.cs.ids|none=>[]
def reach (bx:Nat->Option aO):Nat->List Nat->List Nat
 | 0,l=>l
 | n+1,l=>reach bx n (dedup (l++l.flatMap (jg bx)))
def fv (bx:Nat->Option aO)(l:List Nat):Bool:=l.all fun s=>FD (jg bx s) l
def HB (bx:Nat->Option aO)(b:aO)(β:Nat->Nat)(s:Nat):List Nat->Prop->Prop
 | [],k=>k
 | t::r,k=>cond (Nat.beq s t) (HB bx b β s r k) (match bx t with
  | some b'=>mO (DH b++DH b') (β s≠β t)->HB bx b β s r k
  | none=>False)
def fO (bx:Nat->Option aO)(β:Nat->Nat)(V:View):List Nat->Prop->Prop
 | [],k=>k
 | s::r,k=>match bx s with
  | some b=>mO (DH b) (V.w.heap[β s]?=some (b.obj β))->mO (DH b) (V.H (β s))->fO bx β V r (HB bx b β s r k)
  | none=>False
def vb (vs:List Value)(n b:Nat):Nat:=
 match vs with
 | []=>n
 | _::_=>b
def cL (bx:Nat->Option aO)(β:Nat->Nat)(n:Nat)(s:Nat):Nat:=
 match bx s with
 | some ⟨.aT vs,_⟩=>vb vs n (β s)
 | _=>β s
def C.kept:C->List Nat
 | .yk _ ss=>0::ss
 | c=>c.ids
def jw (mv:Option (Nat×Nat)):List C->List C->(List C->Prop)->Prop
 | [],_,K=>K []
 | c::r,z::zr,K=>match c with
  | .iH t _ _=>match mv with
   | some (m,nb)=>match Nat.beq t m with
    | true=>∃n c:Nat,jw mv r zr fun cs=>K (.iH nb n c::cs)
    | false=>False
   | none=>False
  | c=>match c.kept with
   | []=>(LR z).ex fun v=>jw mv r zr fun cs=>K (v::cs)
   | _=>jw mv r zr fun cs=>K (c::cs)
 | _,[],_=>False
def dh (T:cw)(mv:Option (Nat×Nat))(β:Nat->Nat)(V:View):List Nat->St->(St->Prop)->Prop
 | [],st,k=>k st
 | s::r,st,k=>match st.boxes s with
  | some ⟨.lit cs,ty⟩=>match au T ty with
   | some i=>jw mv cs i.zero fun cs'=>V.w.heap[β s]?=some (.cells (cs'.map (C.den β)).toArray ty (0,0))/\dh T mv β V r (st.box s ⟨.lit cs',ty⟩) k
   | none=>False
  | some ⟨.row _,ty⟩=>∃vs:List Value,V.w.heap[β s]?=some (.cells vs.toArray ty (0,0))/\dh T mv β V r (st.box s ⟨.row vs,ty⟩) k
  | some ⟨.aT vs,ty⟩=>vs≠[]/\∃vs':List Value,vs'≠[]/\V.w.heap[β s]?=some (.cells vs'.toArray ty (0,0))/\dh T mv β V r (st.box s ⟨.aT vs',ty⟩) k
  | _=>False
def tK (bx:Nat->Option aO)(β:Nat->Nat)(V:View):List Nat->Prop->Prop
 | [],k=>k
 | s::r,k=>match bx s with
  | some b=>mO (DH b) (V.bm (β s) (b.obj β))->tK bx β V r k
  | none=>False
def lR:List C->List Nat
 | []=>[]
 | .iH t _ _::r=>t::lR r
 | _::r=>lR r
def mU (bx:Nat->Option aO)(L:List Nat):List Nat:=dedup (L.flatMap fun s=>match bx s with|some ⟨.lit cs,_⟩=>lR cs|_=>[])
def jy:List SV->List Nat
 | []=>[]
 | .c (.iH s _ _)::_=>[s]
 | .c (.jY s 0 _ _)::_=>[s]
 | .c (.v (.slice none _ _))::_=>[]
 | _::r=>jy r
def qb (nb:Nat):List (Bool×List C)->List (Bool×List C)
 | []=>[]
 | (false,[.v (.slice _ n c)])::r=>(false,[.iH nb n c])::r
 | x::r=>x::qb nb r
def wv (nb:Nat):List C->List C
 | []=>[]
 | .v (.slice _ n c)::r=>.iH nb n c::r
 | x::r=>x::wv nb r
def nX (nb:Nat):SV->SV
 | .c (.v (.slice _ n c))=>.c (.iH nb n c)
 | .agg cs=>.agg (wv nb cs)
 | .ml xs=>.ml (qb nb xs)
 | x=>x
def wA (T:cw):List TypeId->Option TypeId
 | []=>none
 | t::r=>match au T t with
  | some i=>match i.k with
   | .slice e=>some e
   | _=>wA T r
  | none=>none
def El (T:cw)(ty:TypeId):Option TypeId:=
 match au T ty with
 | some i=>match i.k with
  | .slice e=>some e
  | .tuple ts=>wA T ts
  | .struct fs=>wA T (fs.map Prod.fst)
  | _=>none
 | none=>none
def aQ (β:Nat->Nat)(xs:List SV):Array Value:=(xs.map (SV.den β)).toArray
inductive CM where
 | none|bU|rel|fN|give
def dL (m:Option Nat)(d:Nat):Nat:=
 match m with
 | some m=>kY m d
 | Option.none=>d
def Ry (m:Option Nat)(nb:Nat):Option (Nat×Nat):=
 match m with
 | some m=>some (m,nb)
 | Option.none=>Option.none
def Cf (m:Option Nat)(L:List Nat):List Nat:=
 match m with
 | some m=>L.filter fun s=>!(Nat.beq s m)
 | Option.none=>L
def mM (m:Option Nat)(ety:TypeId)(st:St):St:=
 match m with
 | some m=>st.box m ⟨.aT [],ety⟩
 | Option.none=>st
def sS (m:Option Nat)(st:St)(β:Nat->Nat)(b':Nat):Prop:=
 match m with
 | some m=>match st.boxes m with
  | some ⟨.aT vs,_⟩=>vs≠[]/\b'=β m
  | _=>b'=β m
 | Option.none=>False
def bM (T:cw)(give:Bool)(sh:Sh)(L:List Nat)(m:Option Nat)(d:Nat)(ety:TypeId)(β:Nat->Nat)(st:St)(V':View)(K:St->View->Prop)(r':Value)(dJ:View):Prop:=
 ∃(b':Nat)(vs':List Value),(vs'≠[]->dJ.w.heap[b']?=some (.cells vs'.toArray ety (0,0)))/\(vs'≠[]->V'.w.heap.size<=b'\/sS m st β b') /\
  sh.ex fun x=>r'=(cond give (nX (dL m d) x) x).den (eT β (dL m d) b') /\
   dh T (Ry m (dL m d)) (eT β (dL m d) b') dJ (Cf m L) ((mM m ety st).box (dL m d) ⟨.aT vs',ety⟩) fun st'=>K (st'.put (some d) (cond give (nX (dL m d) x) x)) (dJ.shut.oS (vs'≠[]) b')
def iz (st:St)(m:Option Nat)(d:Nat):Bool:=
 match st.boxes (dL m d) with
 | some _=>false
 | Option.none=>true
def dU (P:Program)(T:cw)(m:CM)(f:FuncId)(xs:List SV)(ty:TypeId)(dst:Option Nat)(st:St)(V:View)(K:St->View->Prop):Prop:=
 match NW T ty with
 | Option.none=>False
 | some sh=>match reach st.boxes 3 (dedup (xs.flatMap SV.ids)) with
  | []=>match m with
   | .give=>match dst,El T ty with
    | some d,some ety=>match iz st Option.none d with
     | false=>False
     | true=>∀V':View,V.Le V'->ab P f (aQ (fun _=>0) xs) V' (bM T true sh [] Option.none d ety (fun _=>0) st V' K)
    | _,_=>False
   | .fN=>match sh,dst with
    | .val (.one .ptr),some d=>match st.boxes d with
     | some _=>False
     | Option.none=>match au T ty with
      | some ti=>match ti.k with
       | .ptr e=>match au T e with
        | some ei=>∀V':View,V.Le V'->ab P f (aQ (fun _=>0) xs) V' fun r dJ=>∃b:Nat,H7 (ei.zero.map LR) fun cs=>
          r=.pointer (some ⟨b,0,Option.none⟩)/\V'.w.heap.size<=b/\dJ.bm b (.cells (cs.map (C.den fun _=>0)).toArray e (0,0))/\K ((st.box d ⟨.lit cs,e⟩).put (some d) (.c (.ptr d 0))) (dJ.Ic b)
        | Option.none=>False
       | _=>False
      | Option.none=>False
    | _,_=>False
   | _=>∀V':View,V.Le V'->ab P f (aQ (fun _=>0) xs) V' fun r dJ=>sh.ex fun x=>r=x.den (fun _=>0)/\K (st.put dst x) dJ
  | s::r=>match fv st.boxes (s::r) with
   | false=>False
   | true=>match m with
    | .none|.fN=>False
    | .give=>match dst,El T ty,jy xs,mU st.boxes (s::r) with
     | some d,some ety,[],[]=>match iz st Option.none d with
      | false=>False
      | true=>∀V':View,V.Le V'->jR (s::r) (fun _=>0) fun β=>fO st.boxes β V' (s::r)
       (ab P f (aQ β xs) (V'.bU ((s::r).map (cL st.boxes β V'.w.heap.size))) (bM T true sh (s::r) Option.none d ety β st V' K))
     | some d,some ety,[m],[]=>match iz st (some m) d with
      | false=>False
      | true=>∀V':View,V.Le V'->jR (s::r) (fun _=>0) fun β=>fO st.boxes β V' (s::r)
       (ab P f (aQ β xs) (V'.bU ((s::r).map (cL st.boxes β V'.w.heap.size))) (bM T true sh (s::r) (some m) d ety β st V' K))
     | _,_,_,_=>False
    | .bU=>match mU st.boxes (s::r) with
     | []=>∀V':View,V.Le V'->jR (s::r) (fun _=>0) fun β=>fO st.boxes β V' (s::r)
      (ab P f (aQ β xs) (V'.bU ((s::r).map (cL st.boxes β V'.w.heap.size))) fun r' dJ=>sh.ex fun x=>r'=x.den (fun _=>0)/\dh T Option.none β dJ (s::r) st fun st'=>K (st'.put dst x) dJ.shut)
     | [m]=>match dst,iM st.boxes m with
      | some d,some ety=>match iz st (some m) d with
       | false=>False
       | true=>∀V':View,V.Le V'->jR (s::r) (fun _=>0) fun β=>fO st.boxes β V' (s::r)
        (ab P f (aQ β xs) (V'.bU ((s::r).map (cL st.boxes β V'.w.heap.size))) (bM T false sh (s::r) (some m) d ety β st V' K))
      | _,_=>False
     | _=>False
    | .rel=>match (s::r).all fun t=>Nat.blt t 100000 with
     | false=>False
     | true=>∀V':View,V.Le V'->jR (s::r) (fun _=>0) fun β=>tK st.boxes β V' (s::r)
      (ab P f (aQ β xs) V' fun r' dJ=>sh.ex fun x=>r'=x.den (fun _=>0)/\∀J:C->Value,K ((st.rel (s::r) β J).put dst x) dJ)
def jL (bx:Nat->Option aO):List SV->Option (List Value×Nat×List SV)
 | []=>none
 | x::r=>match x with
  | .c (.iH s n c)=>match bx s with
   | some ⟨.aT vs,_⟩=>some (vs,c,.c (.v (.slice none n c))::r)
   | _=>none
  | x=>match jL bx r with
   | some (vs,c,r')=>some (vs,c,x::r')
   | none=>none
def iE (P:Program)(T:cw)(m:CM)(f:FuncId)(xs:List SV)(ty:TypeId)(dst:Option Nat)(st:St)(V:View)(K:St->View->Prop):Prop:=
 match m with
 | .bU=>match jL st.boxes xs with
  | some (vs,c,xs')=>(vs=[]->c=0/\dU P T .bU f xs' ty dst st V K)/\(vs≠[]->dU P T .bU f xs ty dst st V K)
  | none=>dU P T .bU f xs ty dst st V K
 | m=>dU P T m f xs ty dst st V K
def qJ (ss:List Nat):List SV:=ss.map fun s=>.c (.ptr s 0)
inductive Hint where
 | free|own (l:List Nat)
def fI (op:Op):List Operand:=
 match op with
 | .load _ a=>[a]
 | .store _ a _=>[a]
 | .call ⟨.value f,args,_⟩=>args.toList++[f]
 | .call ⟨.builtin .append,args,_⟩=>args.toList
 | _=>[]
def dw (bx:Nat->Option aO)(op:Op)(l:List Nat):List Nat:=
 match op with
 | .call _=>reach bx 3 (dedup l)
 | _=>l
def A3 (P:Program)(t:TypeId)(name:String):Option FuncId:=
 match P.info? t,P.underlying t with
 | some i,some d=>match i.methods.find? (fun m=>m.name==name) with
  | some m=>match m.path.toList,m.func,d with
   | [],some (f,false),.struct _=>some f
   | _,_,_=>none
  | none=>none
 | _,_=>none
def cd (P:Program)(T:cw)(m:CM)(o:Oper)(st:St)(V:View)(K:St->View->Prop):Prop:=
 match o.op with
 | .call ⟨.value FT,args,_⟩=>match bB st.aS args.toList with
  | some xs=>match st.aS FT with
   | some (.c (.yk f ss))=>iE P T m f (xs++qJ ss) o.type o.dst st V K
   | _=>False
  | none=>False
 | .call ⟨.invoke recv name,args,_⟩=>match bB st.aS args.toList with
  | some xs=>match st.aS recv with
   | some (.c (.w (.iface t v)))=>match A3 P t name with
    | some f=>iE P T m f (.c (.w v)::xs) o.type o.dst st V K
    | none=>False
   | _=>False
  | none=>False
 | op=>pI (aH T st.aS st.boxes op) o.dst st V K
def bV (P:Program)(T:cw)(m:CM)(h:Hint)(o:Oper)(st:St)(V:View)(K:St->View->Prop):Prop:=
 match h with
 | .free=>cd P T m o st V K
 | .own l=>match bB st.aS (fI o.op) with
  | some xs=>match FD (dw st.boxes o.op (xs.flatMap SV.ids)) l with
   | true=>cd P T m o st V K
   | false=>False
  | none=>False
def gQ:SV:=.ml []
def nt (P:Program)(T:cw)(m:CM)(h:Hint)(ops:Array Oper)(o:Oper)(st:St)(V:View)(K:St->View->Prop):Prop:=
 match o.guard with
 | none=>bV P T m h o st V K
 | some (j,b)=>match (ops[j]?).bind (·.dst) with
  | none=>False
  | some g=>match st.aq g with
   | some (.c .tt)=>match b with
    | true=>bV P T m h o st V K
    | false=>K (st.put o.dst gQ) V
   | some (.c .ff)=>match b with
    | true=>K (st.put o.dst gQ) V
    | false=>bV P T m h o st V K
   | some (.c (.v (.bool c)))=>match b with
    | true=>(c=true->bV P T m h o (st.put (some g) (.c .tt)) V K)/\(c=false->K ((st.put (some g) (.c .ff)).put o.dst gQ) V)
    | false=>(c=true->K ((st.put (some g) (.c .tt)).put o.dst gQ) V)/\(c=false->bV P T m h o (st.put (some g) (.c .ff)) V K)
   | some (.ml _)=>K (st.put o.dst gQ) V
   | _=>False
inductive L1 where
 | pure|load|store|alloc|call|iR|odd|fN|app|give
def aV (LF RF:List Nat):Op->L1
 | .move _|.assign _|.pick ..| .build ..| .nilCheck _|.binOp ..| .unOp ..| .convert ..| .makeFunc ..| .slice ..| .fieldAddr ..| .field ..| .indexAddr ..| .extract ..| .index ..| .makeInterface ..=>.pure
 | .load ..=>.load
 | .store ..=>.store
 | .alloc _|.box ..| .buildSlice ..| .makeSlice ..=>.alloc
 | .call ⟨.builtin .len,_,_⟩|.call ⟨.builtin .cap,_,_⟩=>.pure
 | .call ⟨.builtin .append,_,_⟩=>.app
 | .call ⟨.value (.func f),_,_⟩=>match dE f LF with
  | true=>match dE (f+1000000) LF with
   | true=>.give
   | false=>.iR
  | false=>match dE f RF with
   | true=>.odd
   | false=>match dE (f+1000000) RF with
    | true=>.fN
    | false=>.call
 | .call ⟨.value _,_,_⟩=>.iR
 | .call ⟨.invoke _ _,_,_⟩=>.call
 | _=>.odd
def fJ (op:Op):List Nat:=op.operands.toList.filterMap fun|.tmp t=>some t|_=>none
def cR (ops:Array Oper)(o:Oper):List Nat:=
 match o.guard with
 | none=>[]
 | some (j,_)=>match (ops[j]?).bind (·.dst) with
  | some g=>[g]
  | none=>[]
def df (o:Oper):List Nat:=match o.dst with|some d=>[d]|none=>[]
def m_ (c:L1)(h:Hint)(d:List Nat):Option (List Nat×List Nat):=
 match c,h with
 | .pure,.free=>some ([],[])
 | .call,.free=>some ([],[])
 | .alloc,.free=>some (d,d)
 | .load,.own l=>some (l,[])
 | .store,.own l=>some (l,l)
 | .iR,.own l=>some (l,l++d++d.map (·+ 200000))
 | .app,.own l=>some (l,l++d++d.map (·+ 200000))
 | .give,.own l=>some (l,l++d++d.map (·+ 200000))
 | _,_=>none
def kl:L1->Bool
 | .pure|.load|.store|.alloc=>true
 | _=>false
def indep (LF RF:List Nat)(ops:Array Oper)(h1 h2:Hint)(o1 o2:Oper):Bool:=
 kl (aV LF RF o1.op) &&
 qO (df o1) (fJ o2.op++cR ops o2++df o2)&&qO (df o2) (fJ o1.op++cR ops o1) &&
 qO (cR ops o1) (fJ o2.op)&&qO (cR ops o2) (fJ o1.op) &&
 match m_ (aV LF RF o1.op) h1 (df o1),m_ (aV LF RF o2.op) h2 (df o2) with
 | some (r1,w1),some (r2,w2)=>qO w1 r2&&qO w2 r1&&qO w1 w2
 | _,_=>false
def JN (ops:List Oper)(t:Nat):Option Oper:=ops.find? fun o=>match o.dst with|some d=>Nat.beq d t|none=>false
def rR (st:St)(ops:List Oper):Nat->Operand->List Nat
 | 0,_=>[]
 | n+1,.tmp t=>match JN ops t with
  | some o=>match o.op with
   | .alloc _|.box ..| .buildSlice ..| .makeSlice ..=>[t]
   | .call _=>[t,t+200000]
   | .assign x=>rR st ops n x++match st.aq t with
    | some x=>x.ids
    | none=>[]
   | .load _ a=>(rR st ops n a).flatMap (jg st.boxes)
   | op=>op.operands.toList.flatMap (rR st ops n)
  | none=>match st.aq t with
   | some x=>x.ids
   | none=>[]
 | _,_=>[]
def Et (LF RF:List Nat)(st:St)(ops:List Oper)(o:Oper):Hint:=
 match aV LF RF o.op with
 | .load|.store=>.own (dedup ((fI o.op).flatMap (rR st ops 10)))
 | .iR|.app|.give=>.own (reach st.boxes 3 (dedup ((fI o.op).flatMap (rR st ops 10))))
 | _=>.free
def CF (ops:List Oper):List Nat:=
 ops.foldl (fun acc o=>acc++[o.after.toList.foldl (fun s e=>cond (Region.binds .any e) (Nat.lor (Nat.lor (Nat.shiftLeft 1 e.on) (acc.getD e.on 0)) s) s) 0]) []
def HY (m i:Nat):Bool:=Nat.beq (Nat.land (Nat.shiftRight m i) 1) 1
def Gw (LF RF:List Nat)(o:Oper):Bool:=match aV LF RF o.op with|.call|.iR|.odd|.fN|.app|.give=>true|_=>false
def Bh (ops:Array Oper)(done:List Nat)(i:Nat):Bool:=
 match ops[i]? with
 | some o=>!(dE i done)&&o.after.toList.all fun e=>!(Region.binds .any e)||dE e.on done
 | none=>false
def wT (LF RF:List Nat)(ops:Array Oper):Nat->List Nat->List Nat
 | 0,_=>[]
 | n+1,done=>
  let rs:=(List.range ops.size).filter (Bh ops done)
  match rs.find? (fun i=>match ops[i]? with|some o=>!(Gw LF RF o)|none=>false) with
  | some i=>i::wT LF RF ops n (i::done)
  | none=>match rs with
   | i::_=>i::wT LF RF ops n (i::done)
   | []=>[]
def lU (LF RF:List Nat)(ops:Array Oper):List Nat:=wT LF RF ops ops.size []
def qf (LF RF:List Nat)(ops:Array Oper)(hs:List Hint)(an:List Nat):List Nat->Bool
 | []=>true
 | i::r=>(r.all fun j=>HY (an.getD j 0) i||match ops[i]?,ops[j]? with|some a,some b=>indep LF RF ops (hs.getD i .free) (hs.getD j .free) a b|_,_=>false)&&qf LF RF ops hs an r
def mW (ops:Array Oper):List Nat->List Nat->Bool
 | _,[]=>true
 | done,i::r=>Bh ops done i&&mW ops (i::done) r
def Cm (LF RF:List Nat)(ops:Array Oper)(hs:List Hint)(l:List Nat):Bool:=
 Nat.beq l.length ops.size&&((List.range ops.size).all fun i=>dE i l)&&mW ops [] l&&qf LF RF ops hs (CF ops.toList) l
def FK (P:Program)(T:cw)(m:Nat->CM)(hint:Nat->Hint)(ops:Array Oper):List Nat->St->View->(St->View->Prop)->Prop
 | [],st,V,K=>K st V
 | i::r,st,V,K=>match ops[i]? with
  | some o=>nt P T (m i) (hint i) ops o st V fun st' V'=>FK P T m hint ops r st' V' K
  | none=>False
def iy (LF RF:List Nat)(ops:Array Oper)(i:Nat):CM:=
 match ops[i]? with
 | some o=>match aV LF RF o.op with
  | .iR=>.bU
  | .odd=>.rel
  | .fN=>.fN
  | .give=>.give
  | _=>.none
 | Option.none=>.none
def Kv (LF RF:List Nat)(ops:Array Oper)(i:Nat):CM:=
 match ops[i]? with
 | some o=>match aV LF RF o.op with
  | .iR=>.bU
  | .fN=>.fN
  | .give=>.give
  | _=>.rel
 | Option.none=>.none
structure Tm where
 τ:Type
 gh:Bool:=false
 M8:List Nat
 Kf:List Nat
 aq:τ->List (Nat×SV)
 boxes:τ->List (Nat×aO)
structure HJ where
 τ:Type
 aq:τ->List (Nat×SV)
 boxes:τ->List (Nat×aO)
def Cb {α:Type}(f:Nat->Option α):List Nat->List (Nat×α)
 | []=>[]
 | t::r=>match f t with
  | some x=>(t,x)::Cb f r
  | none=>Cb f r
def Tm.at (A:Tm)(st:St):HJ:=⟨A.τ,fun x=>Cb st.aq A.M8++A.aq x,fun x=>Cb st.boxes A.Kf++A.boxes x⟩
def lL (ρ:List (Nat×Nat))(s s':Nat):Bool:=
 match au ρ s' with
 | some t=>Nat.beq s t
 | none=>Nat.beq s s'
def uU (ρ:List (Nat×Nat)):List Nat->List Nat->Bool
 | [],[]=>true
 | s::r,s'::r'=>lL ρ s s'&&uU ρ r r'
 | _,_=>false
def LG (ρ:List (Nat×Nat)):C->C->List Prop
 | .v (.int k a),.v (.int k' b)=>cond (rf k k') [a=b] [False]
 | .v (.bool a),.v (.bool b)=>[a=b]
 | .tt,.v (.bool b)=>[true=b]
 | .ff,.v (.bool b)=>[false=b]
 | .v (.slice a n c),.v (.slice a' n' c')=>[a=a',n=n',c=c']
 | .v (.slice a n c),.iH _ n' c'=>[a=none,n=n',c=c',c=0]
 | .v (.pointer p),.v (.pointer q)=>[p=q]
 | .v x,.v y=>[x=y]
 | .w x,.w y=>[x=y]
 | .w x,.v y=>[x=y]
 | .v x,.w y=>[x=y]
 | .tt,.tt=>[]
 | .ff,.ff=>[]
 | .ptr s o,.ptr s' o'=>cond (lL ρ s s') [o=o'] [False]
 | .jY s o n c,.jY s' o' n' c'=>cond (lL ρ s s') [o=o',n=n',c=c'] [False]
 | .jY s o n c,.iH s' n' c'=>cond (lL ρ s s') [o=0,n=n',c=c',c≠0] [False]
 | .iH s n c,.iH s' n' c'=>cond (lL ρ s s') [n=n',c=c'] [False]
 | .yk f ss,.yk g ts=>cond (uU ρ ss ts) [f=g] [False]
 | _,_=>[False]
def AM (ρ:List (Nat×Nat)):List C->List C->List Prop
 | [],[]=>[]
 | a::r,b::s=>LG ρ a b++AM ρ r s
 | _,_=>[False]
def H6 (ρ:List (Nat×Nat)):SV->SV->List Prop
 | .c a,.c b=>LG ρ a b
 | .agg l,.agg m=>AM ρ l m
 | _,_=>[False]
def SV.plain:SV->Bool
 | .ml _=>false
 | _=>true
def Ef (ρ:List (Nat×Nat))(a b:aO):List Prop:=
 match a.cs,b.cs with
 | .lit l,.lit m=>cond (Nat.beq a.ty b.ty) (AM ρ l m) [False]
 | .row l,.row m=>cond (Nat.beq a.ty b.ty) [l=m] [False]
 | .aT l,.aT m=>cond (Nat.beq a.ty b.ty) [l=m] [False]
 | .row l,.aT m=>cond (Nat.beq a.ty b.ty) [l=m] [False]
 | .lit l,.aT m=>match i_ l with
  | some ws=>cond (Nat.beq a.ty b.ty) [ws=m] [False]
  | none=>[False]
 | _,_=>[False]
def K0:C->C->List (Nat×Nat)
 | .ptr s _,.ptr s' _=>[(s',s)]
 | .jY s _ _ _,.jY s' _ _ _=>[(s',s)]
 | .jY s _ _ _,.iH s' _ _=>[(s',s)]
 | .iH s _ _,.iH s' _ _=>[(s',s)]
 | .yk _ ss,.yk _ ts=>ts.zip ss
 | _,_=>[]
def Fs:List C->List C->List (Nat×Nat)
 | a::r,b::s=>K0 a b++Fs r s
 | _,_=>[]
def K1:SV->SV->List (Nat×Nat)
 | .c a,.c b=>K0 a b
 | .agg l,.agg m=>Fs l m
 | _,_=>[]
def IP (st:St):List (Nat×SV)->List (Nat×Nat)
 | []=>[]
 | (t,x)::r=>match st.aq t with
  | some y=>K1 y x++IP st r
  | none=>IP st r
def Dt (st:St)(ρ:List (Nat×Nat)):List (Nat×aO)->List (Nat×Nat)
 | []=>[]
 | (t,x)::r=>match au ρ t with
  | some s=>match st.boxes s with
   | some y=>(match y.cs,x.cs with|.lit l,.lit m=>Fs l m|_,_=>[])++Dt st ρ r
   | none=>Dt st ρ r
  | none=>Dt st ρ r
def Fq (st:St)(ss:List (Nat×SV))(bs:List (Nat×aO)):List (Nat×Nat):=
 let ρ1:=IP st ss
 let ρ2:=ρ1++Dt st ρ1 bs
 let ρ3:=ρ2++Dt st ρ2 bs
 ρ3++Dt st ρ3 bs
def wP (ρ:List (Nat×Nat))(t:Nat):Nat:=
 match au ρ t with
 | some s=>s
 | none=>t
def vC (ρ:List (Nat×Nat)):List Nat->Bool
 | []=>true
 | t::r=>(Nat.blt t 100000==Nat.blt (wP ρ t) 100000)&&(Nat.blt t 100000||Nat.ble 200000 t||Nat.beq (wP ρ t) t)&&(r.all fun u=>!(Nat.beq (wP ρ t) (wP ρ u)))&&vC ρ r
def kn (ρ:List (Nat×Nat)):List (Nat×aO)->List Nat
 | []=>[]
 | (t,x)::r=>match x.cs with
  | .aT _=>match au ρ t with
   | some _=>t::kn ρ r
   | none=>kn ρ r
  | _=>t::kn ρ r
def Gi (ρ:List (Nat×Nat))(st:St):List (Nat×SV)->List Prop
 | []=>[]
 | (t,x)::r=>match st.aq t with
  | some y=>H6 ρ y x++Gi ρ st r
  | none=>[False]
def C1 (ρ:List (Nat×Nat))(st:St):List (Nat×aO)->List Prop
 | []=>[]
 | (t,x)::r=>match x.cs,au ρ t with
  | .aT l,none=>(l=[])::C1 ρ st r
  | _,_=>match st.boxes (wP ρ t) with
   | some y=>Ef ρ y x++C1 ρ st r
   | none=>[False]
def JM (ρ:List (Nat×Nat))(bs:List (Nat×aO)):List Prop:=cond (vC ρ (kn ρ bs)) [] [False]
def kx (ss:List (Nat×SV))(bs:List (Nat×aO)):Bool:=
 let l:=bs.map (·.1)
 (ss.all fun x=>x.2.ids.all fun s=>dE s l)&&(bs.all fun x=>x.2.cs.ids.all fun s=>dE s l)
def HJ.st (A:HJ)(x:A.τ):St:=⟨au (A.aq x),au (A.boxes x)⟩
def HU:List Prop->Prop
 | []=>True
 | [p]=>p
 | p::r=>p/\HU r
def HJ.fits (A:HJ)(st:St)(x:A.τ)(k:Prop):Prop:=
 let ρ:=Fq st (A.aq x) (A.boxes x)
 HU (Gi ρ st (A.aq x)++C1 ρ st (A.boxes x)++JM ρ (A.boxes x))/\k
def keyOf:Code->Nat
 | .region id _ _=>id
 | .seq a _=>keyOf a
 | .cond _ a b=>match keyOf a with
  | 1000000=>keyOf b
  | n=>n
 | .block _ a=>keyOf a
 | .loop a=>keyOf a
 | .scope a=>keyOf a
 | _=>1000000
abbrev xF:=List (Nat×Tm)
def mr:xF->Nat->Option Tm
 | [],_=>none
 | (s,x)::r,t=>cond (Nat.beq t s) (some x) (mr r t)
def HE (RF:List Nat)(id:Nat):List Nat:=RF.filterMap fun x=>cond (Nat.beq (x / 100000) (100+id)) (some (x%100000)) none
def CA (l:List Nat)(st:St)(V:View)(K:St->View->Prop):Prop:=
 match l with
 | []=>K st V
 | s::r=>match fv st.boxes (s::r)&&(s::r).all fun t=>Nat.blt t 100000 with
  | false=>False
  | true=>∀V':View,V.Le V'->jR (s::r) (fun _=>0) fun β=>tK st.boxes β V' (s::r) (∀J:C->Value,K (st.rel (s::r) β J) V')
def zG (P:Program)(T:cw)(LF RF:List Nat)(ops:Array Oper)(draw:Bool)(st:St)(V:View)(K:St->View->Prop):Prop:=
 match draw with
 | false=>FK P T (Kv LF RF ops) (fun _=>.free) ops (List.range ops.size) st V K
 | true=>let hs:=ops.toList.map (Et LF RF st ops.toList)
  match Cm LF RF ops hs (lU LF RF ops) with
  | true=>FK P T (iy LF RF ops) (fun i=>hs.getD i .free) ops (lU LF RF ops) st V K
  | false=>False
def vc (P:Program)(T:cw)(LF RF:List Nat)(L J:xF):Code->St->View->(Exit->St->View->Prop)->Prop
 | .skip,st,V,K=>K .normal st V
 | .region id ops draw,st,V,K=>match mr J (600000+id) with
  | none=>CA (HE RF id) st V fun st' V'=>zG P T LF RF ops draw st' V' (K .normal)
  | some A=>∃I:A.τ->View->Prop,CA (HE RF id) st V (fun st' V'=>zG P T LF RF ops draw st' V' fun IY dJ=>∃x,(A.at st).fits IY x (I x dJ)) /\
   ∀x V',V.Le V'->I x V'->(kx ((A.at st).aq x) ((A.at st).boxes x)=true/\K .normal ((A.at st).st x) V')
 | .seq a b,st,V,K=>vc P T LF RF L J a st V fun e st' V'=>match e with
  | .normal=>vc P T LF RF L J b st' V' K
  | e=>K e st' V'
 | .cond c a b,st,V,K=>match mr J (keyOf (.cond c a b)) with
  | none=>match st.aS c with
   | some (.c .tt)=>vc P T LF RF L J a st V K
   | some (.c .ff)=>vc P T LF RF L J b st V K
   | some (.c (.v (.bool t)))=>(t=true->vc P T LF RF L J a st V K)/\(t=false->vc P T LF RF L J b st V K)
   | _=>False
  | some A=>match st.aS c with
   | some (.c .tt)=>vc P T LF RF L J a st V K
   | some (.c .ff)=>vc P T LF RF L J b st V K
   | some (.c (.v (.bool t)))=>∃I:A.τ->View->Prop,
    ((t=true->vc P T LF RF L J a st V fun e st' V'=>match e with
     | .normal=>∃x,(A.at st).fits st' x (I x V')
     | e=>K e st' V') /\
      (t=false->vc P T LF RF L J b st V fun e st' V'=>match e with
     | .normal=>∃x,(A.at st).fits st' x (I x V')
     | e=>K e st' V')) /\
    ∀x V',V.Le V'->I x V'->(kx ((A.at st).aq x) ((A.at st).boxes x)=true/\K .normal ((A.at st).st x) V')
   | _=>False
 | .block id a,st,V,K=>match mr J (500000+id) with
  | none=>vc P T LF RF L J a st V fun e st' V'=>match e with
   | .exit i=>cond (Nat.beq i id) (K .normal st' V') (K (.exit i) st' V')
   | e=>K e st' V'
  | some A=>∃I:A.τ->View->Prop,vc P T LF RF L J a st V (fun e st' V'=>match e with
   | .exit i=>cond (Nat.beq i id) (∃x,(A.at st).fits st' x (I x V')) (K (.exit i) st' V')
   | .normal=>∃x,(A.at st).fits st' x (I x V')
   | e=>K e st' V')/\∀x V',V.Le V'->I x V'->(kx ((A.at st).aq x) ((A.at st).boxes x)=true/\K .normal ((A.at st).st x) V')
 | .loop a,st,V,K=>match mr L (keyOf a) with
  | none=>False
  | some A=>match A.gh with
   | false=>∃(I:A.τ->View->Prop)(m:A.τ->Nat),(∃x,(A.at st).fits st x (I x V))/\∀x V',V.Le V'->I x V'->(kx ((A.at st).aq x) ((A.at st).boxes x)=true /\
    vc P T LF RF L J a ((A.at st).st x) V' fun e st' dJ=>match e with
     | .normal=>∃y,m y<m x/\(A.at st).fits st' y (I y dJ)
     | e=>K e st' dJ)
   | true=>∃I:A.τ->Nat->View->Prop,(∃x k,(A.at st).fits st x (I x k V))/\∀x k V',V.Le V'->I x k V'->(kx ((A.at st).aq x) ((A.at st).boxes x)=true /\
    vc P T LF RF L J a ((A.at st).st x) V' fun e st' dJ=>match e with
     | .normal=>∃y k',k'<k/\(A.at st).fits st' y (I y k' dJ)
     | e=>K e st' dJ)
 | .exit id,st,V,K=>K (.exit id) st V
 | .ret,st,V,K=>K .ret st V
 | .scope a,st,V,K=>vc P T LF RF L J a st V fun e st' V'=>match e with
  | .goto _=>False
  | e=>K e st' V'
 | .label _,st,V,K=>K .normal st V
 | _,_,_,_=>False
def jH (T:cw)(st:St):List ResultVar->Option (List SV)
 | []=>some []
 | .tmp t::r=>match st.aq t,jH T st r with
  | some x,some l=>some (x::l)
  | _,_=>none
 | .cell a t::r=>match st.aq a,au T t,jH T st r with
  | some (.c (.ptr s o)),some i,some l=>match gO st.boxes i (.c (.ptr s o)) with
   | .ret _ x=>some (x::l)
   | _=>none
  | _,_,_=>none
def minus (l m:List Nat):List Nat:=l.filter fun x=>!(dE x m)
def D0 (bx:Nat->Option aO)(β:Nat->Nat)(V:View):List Nat->Prop->Prop
 | [],k=>k
 | s::r,k=>match bx s with
  | some ⟨.aT _,_⟩=>False
  | some b=>V.w.heap[β s]?=some (b.obj β)->D0 bx β V r k
  | none=>False
def gX:List (Nat×aO)->List Nat
 | []=>[]
 | (s,b)::r=>match b.cs with
  | .aT _=>gX r
  | _=>s::gX r
def ER (bs:List (Nat×aO))(β0:Nat->Nat)(b:Nat)(k:Prop):Prop:=
 match bs with
 | []=>k
 | (m,x)::r=>match x.cs with
  | .aT vs=>(vs≠[]/\b=β0 m)\/ER r β0 b k
  | _=>ER r β0 b k
def jG (β:Nat->Nat):List SV->Value
 | [x]=>x.den β
 | l=>.tuple (l.map (SV.den β)).toArray
def ph (T:cw)(bx:Nat->Option aO)(s:Nat):Bool:=
 cond (Nat.ble 100000 s) true (match bx s with|some ⟨.row _,ty⟩|some ⟨.aT _,ty⟩=>Nat.ble 2 (T.filter fun x=>Nat.beq x.1 ty).length|_=>false)
def Co (T:cw)(rs:List ResultVar)(bs:List (Nat×aO))(β0:Nat->Nat)(n0:Nat)(R:Value->View->Prop)(st:St)(V:View):Prop:=
 match jH T st rs with
 | none=>False
 | some xs=>let F:=gX bs
  let L:=reach st.boxes 3 (dedup (xs.flatMap SV.ids++F))
  match fv st.boxes L with
  | false=>False
  | true=>match (minus L F).filter (ph T st.boxes) with
   | []=>∀V':View,V.Le V'->jR (minus L F) β0 fun β=>D0 st.boxes β V' F (tK st.boxes β V' (minus L F) (R (jG β xs) V'))
   | [s]=>match st.boxes s with
    | some b=>∀V':View,jR (minus L F) β0 fun β=>V.Le (V'.oS (MA b) (β s))->D0 st.boxes β V' F (mO (DH b) (V'.w.heap[β s]?=some (b.obj β)) ->
      mO (DH b) (n0<=β s\/ER bs β0 (β s) False)->tK st.boxes β V' ((minus L F).filter (!Nat.beq s ·)) (R (jG β xs) V'))
    | none=>False
   | _=>False
def N7 (P:Program)(T:cw)(LF RF:List Nat)(L J:xF)(code:Code)(rs:List ResultVar)(ss:List (Nat×SV))(bs:List (Nat×aO))(β0:Nat->Nat)(V:View)(R:Value->View->Prop):Prop:=
 vc P T LF RF L J code ⟨au ss,au bs⟩ V fun e st V'=>match e with
  | .normal=>Co T rs bs β0 V.w.heap.size R st V'
  | .ret=>Co T rs bs β0 V.w.heap.size R st V'
  | _=>False
def fE (n:Nat):Code->Bool
 | .region _ ops _=>ops.toList.all fun o=>match o.dst with|some d=>Nat.blt d n|none=>true
 | .seq a b=>fE n a&&fE n b
 | .cond _ a b=>fE n a&&fE n b
 | .block _ a=>fE n a
 | .loop a=>fE n a
 | .scope a=>fE n a
 | _=>true
def kR:Nat->List (Nat×SV)->Bool
 | _,[]=>true
 | i,(j,x)::r=>Nat.beq i j&&x.plain&&kR (i+1) r
def wZ (P:Program)(T:cw)(LF RF:List Nat)(L J:xF)(fn:Func)(ss:List (Nat×SV))(bs:List (Nat×aO))(β0:Nat->Nat)(V:View)(R:Value->View->Prop):Prop:=
 match fn.body with
 | some code=>match fE fn.ntmps code&&kR 0 ss&&Nat.ble ss.length fn.ntmps&&Nat.ble fn.ntmps 100000&&(bs.all fun b=>Nat.ble 100000 b.1&&Nat.blt b.1 200000)&&kx ss bs with
  | true=>N7 P T LF RF L J code fn.results.toList ss bs β0 V R
  | false=>False
 | none=>False
theorem View.Le.refl (V:View):V.Le V:=fun _ _ h=>h
theorem View.Le.trans {V V' dJ:View}(h:V.Le V')(k:V'.Le dJ):V.Le dJ:=fun b o x=>k b o (h b o x)
theorem View.Le.at {V V':View}(h:V.Le V'){p:Addr}{v:Value}(k:V.at p v):V'.at p v:=by
 obtain ⟨hH,hc⟩:=k
 unfold World.cell? at hc
 split at hc
 ·rename_i hb
  obtain ⟨h1,h2⟩:=h p.block _ ⟨hH,hb⟩
  refine ⟨h1,?_⟩
  unfold World.cell?
  rw [h2]
  exact hc
 ·cases hc
theorem dI.refl (X:Nat->Prop)(w:World):dI X w w:=⟨Nat.le_refl _,fun _ _ _=>rfl,rfl,rfl,rfl⟩
theorem dI.trans {X:Nat->Prop}{a b c:World}(h:dI X a b)(k:dI X b c):dI X a c:=
 ⟨Nat.le_trans h.size k.size,fun i hi hx=>(k.bm i (Nat.lt_of_lt_of_le hi h.size) hx).trans (h.bm i hi hx),k.os.trans h.os,k.tape.trans h.tape,k.out.trans h.out⟩
theorem dI.mono {X Y:Nat->Prop}{a b:World}(h:dI X a b)(hxy:∀i,X i->Y i):dI Y a b:=
 ⟨h.size,fun i hi hy=>h.bm i hi fun hx=>hy (hxy i hx),h.os,h.tape,h.out⟩
theorem View.Km (V:View)(w':World)(hx:dI V.X V.w w'):V.Le (V.to w' hx.size):=by
 rintro b o ⟨hH,hb⟩
 refine ⟨hH,?_⟩
 have hlt:b<V.w.heap.size:=by
  rcases Nat.lt_or_ge b V.w.heap.size with h|h
  ·exact h
  ·rw [Array.getElem?_eq_none h] at hb;cases hb
 show w'.heap[b]?=some o
 rw [hx.bm b hlt fun hX=>hH (V.hX b hX)]
 exact hb
theorem ab.mono {P:Program}{f:FuncId}{args:Array Value}{V:View}{R R':Value->View->Prop}(h:ab P f args V R)
  (hR:∀r V',V.Le V'->R r V'->R' r V'):ab P f args V R':=
 ⟨h.1,h.2.mono fun _ w' ⟨r,he,hx,hr⟩=>⟨r,he,hx,hR r _ (V.Km w' hx) hr⟩⟩
structure Am where
 ids:List Nat
 B:Nat->Prop
section
variable (n:Nat) (V0:View) (bl:Am) (β0:Nat->Nat)
structure Mod (st:St) (β:Nat->Nat) (a:Act) (w:World) (V:View):Prop where
 defers:a.defers=[]
 size:a.tmps.size=n
 aq:∀t x,st.aq t=some x->a.tmps.getD t undef=x.den β
 um:∀t x,st.aq t=some x->∀s∈x.ids,∃b,st.boxes s=some b
 uk:∀s b,st.boxes s=some b->∀s'∈b.cs.ids,∃b',st.boxes s'=some b'
 boxes:∀s b,st.boxes s=some b->b.live->w.heap[β s]?=some (b.obj β)
 inj:∀s s' b b',st.boxes s=some b->b.live->st.boxes s'=some b'->b'.live->β s=β s'->s=s'
 mo:∀b o,V.bm b o->w.heap[b]?=some o/\¬V0.H b
 qc:∀s b,st.boxes s=some b->b.live->∀o,¬V.bm (β s) o
 ext:dI V0.X V0.w w
 own:∀s b,st.boxes s=some b->b.live->V0.w.heap.size<=β s\/(100000<=s/\bl.B (β s))
 jS:∀s∈bl.ids,(100000<=s/\s<200000)/\β s=β0 s
 iL:∀b,bl.B b->V0.X b
 small:n<=100000
end
theorem bX {cs:List C}{ty:TypeId}:aO.live ⟨.lit cs,ty⟩:=fun _ h=>nomatch h
theorem bK {vs:List Value}{ty:TypeId}:aO.live ⟨.row vs,ty⟩:=fun _ h=>nomatch h
theorem ef {vs:List Value}{ty:TypeId}(h:vs≠[]):aO.live ⟨.aT vs,ty⟩:=fun _ e=>by cases e;exact h
theorem eQ {ty:TypeId}:¬aO.live ⟨.aT [],ty⟩:=fun h=>h [] rfl rfl
theorem dR {b:aO}{k:Prop}:mO (DH b) k↔(b.live->k):=by
 obtain ⟨cs,ty⟩:=b
 cases cs with
 | lit cs=>exact ⟨fun h _=>h,fun h=>h bX⟩
 | row cs=>exact ⟨fun h _=>h,fun h=>h bK⟩
 | aT vs=>exact ⟨fun h l=>h (l vs rfl),fun h l=>h (ef l)⟩
theorem oT {l m:List Prop}{k:Prop}:mO (l++m) k↔mO l (mO m k):=by
 induction l with
 | nil=>exact Iff.rfl
 | cons p r ih=>exact ⟨fun h hp=>ih.1 (h hp),fun h hp=>ih.2 (h hp)⟩
theorem Gl {b:aO}:MA b↔b.live:=by
 obtain ⟨cs,ty⟩:=b
 cases cs with
 | lit cs=>exact ⟨fun _=>bX,fun _=>trivial⟩
 | row cs=>exact ⟨fun _=>bK,fun _=>trivial⟩
 | aT vs=>exact ⟨fun h=>ef h,fun l=>l vs rfl⟩
theorem C.br {β β':Nat->Nat}{c:C}(h:∀s∈c.ids,β s=β' s):c.den β=c.den β':=by
 cases c with
 | v x=>rfl
 | w x=>rfl
 | tt=>rfl
 | ff=>rfl
 | ptr s o=>simp [C.den,h s (by simp [C.ids])]
 | jY s o n c=>simp [C.den,h s (by simp [C.ids])]
 | iH s n c=>simp [C.den,h s (by simp [C.ids])]
 | yk f ss=>
  have:(ss.map fun s=>Value.pointer (some ⟨β s,0,none⟩))=ss.map fun s=>Value.pointer (some ⟨β' s,0,none⟩):=
   List.map_congr_left fun s hs=>by rw [h s (by simpa [C.ids] using hs)]
  simp only [C.den,this]
theorem ju {β β':Nat->Nat}{cs:List C}(h:∀s∈cs.flatMap C.ids,β s=β' s):cs.map (C.den β)=cs.map (C.den β'):=
 List.map_congr_left fun c hc=>C.br fun s hs=>h s (List.mem_flatMap.2 ⟨c,hc,hs⟩)
theorem tD {β β':Nat->Nat}{x:Bool×List C}(h:∀s∈x.2.flatMap C.ids,β s=β' s):fP β x=fP β' x:=by
 obtain ⟨b,cs⟩:=x
 cases b with
 | true=>simp only [fP];rw [ju h]
 | false=>
  match cs,h with
  | [],_=>rfl
  | [c],h=>simp only [fP];exact C.br fun s hs=>h s (by simpa using hs)
  | _::_::_,_=>rfl
theorem SV.br {β β':Nat->Nat}{x:SV}(h:∀s∈x.ids,β s=β' s):x.den β=x.den β':=by
 cases x with
 | c x=>exact C.br h
 | agg cs=>simp only [SV.den];rw [ju h]
 | ml xs=>
  simp only [SV.den]
  congr 2
  exact List.map_congr_left fun x hx=>tD fun s hs=>h s (List.mem_flatMap.2 ⟨x,hx,hs⟩)
theorem Cells.br {β β':Nat->Nat}{x:Cells}(h:∀s∈x.ids,β s=β' s):x.den β=x.den β':=by
 cases x with
 | lit cs=>exact ju h
 | row vs=>rfl
 | aT vs=>rfl
theorem aO.cA {β β':Nat->Nat}{x:aO}(h:∀s∈x.cs.ids,β s=β' s):x.obj β=x.obj β':=by
 simp only [aO.obj];rw [Cells.br h]
variable {P:Program} {T:cw} {n:Nat} {V0:View} {bl:Am} {β0:Nat->Nat} {st:St} {β:Nat->Nat} {a:Act} {w:World} {V:View}
theorem Mod.eval (h:Mod n V0 bl β0 st β a w V){x:Operand}{v:SV}(hx:st.aS x=some v):a.eval x=v.den β:=by
 cases x with
 | tmp t=>exact h.aq t v hx
 | const c=>
  simp only [St.aS,Option.some.injEq] at hx
  subst hx
  simp only [Act.eval]
  unfold SV.ofConst
  split
  ·rfl
  ·rfl
  ·rename_i cs
   simp only [SV.den]
   congr 1
   have:∀l:List Value,(l.map C.ofConst).map (C.den β)=l:=by
    intro l
    induction l with
    | nil=>rfl
    | cons y r ih=>
     simp only [List.map_cons,ih]
     congr 1
     unfold C.ofConst
     split<;>rfl
   rw [this]
  ·rfl
 | global g=>simp only [St.aS,Option.some.injEq] at hx;subst hx;rfl
 | func f=>simp only [St.aS,Option.some.injEq] at hx;subst hx;simp [Act.eval,SV.den,C.den]
theorem Mod.live (h:Mod n V0 bl β0 st β a w V){x:Operand}{v:SV}(hx:st.aS x=some v):∀s∈v.ids,∃b,st.boxes s=some b:=by
 cases x with
 | tmp t=>exact h.um t v hx
 | const c=>
  simp only [St.aS,Option.some.injEq] at hx
  subst hx
  intro s hs
  exfalso
  have h1:∀y,(C.ofConst y).ids=[]:=by
   intro y
   unfold C.ofConst
   split<;>rfl
  unfold SV.ofConst at hs
  split at hs
  ·simp [SV.ids,C.ids] at hs
  ·simp [SV.ids,C.ids] at hs
  ·obtain ⟨c,hc,hs⟩:=List.mem_flatMap.1 hs
   obtain ⟨y,_,rfl⟩:=List.mem_map.1 hc
   rw [h1] at hs;cases hs
  ·simp [SV.ids,C.ids] at hs
 | global g=>simp only [St.aS,Option.some.injEq] at hx;subst hx;intro s hs;simp [SV.ids,C.ids] at hs
 | func f=>simp only [St.aS,Option.some.injEq] at hx;subst hx;intro s hs;simp [SV.ids,C.ids] at hs
theorem beq_eq {a b:Nat}:Nat.beq a b=true↔a=b:=by
 constructor
 ·exact Nat.eq_of_beq_eq_true
 ·intro h;subst h;exact Nat.beq_refl a
theorem cC (st:St)(d:Nat)(x:SV)(t:Nat):(st.put (some d) x).aq t=if t=d then some x else st.aq t:=by
 simp only [St.put]
 by_cases h:t=d
 ·subst h;simp [Nat.beq_refl]
 ·have:Nat.beq t d=false:=by
   cases hb:Nat.beq t d
   ·rfl
   ·exact absurd (beq_eq.1 hb) h
  simp [this,h]
theorem ah (st:St)(s:Nat)(b:aO)(t:Nat):(st.box s b).boxes t=if t=s then some b else st.boxes t:=by
 simp only [St.box]
 by_cases h:t=s
 ·subst h;simp [Nat.beq_refl]
 ·have:Nat.beq t s=false:=by
   cases hb:Nat.beq t s
   ·rfl
   ·exact absurd (beq_eq.1 hb) h
  simp [this,h]
theorem mL (l:Array Value)(d t:Nat)(v:Value)(hd:d<l.size):(l.setIfInBounds d v).getD t undef=if t=d then v else l.getD t undef:=by
 by_cases h:t=d
 ·subst h;simp [hd]
 ·simp [h,Ne.symm h]
theorem Mod.put (h:Mod n V0 bl β0 st β a w V){d:Nat}{x:SV}{v:Value}(hd:d<n)(hv:v=x.den β)(hl:∀s∈x.ids,∃b,st.boxes s=some b) :
  Mod n V0 bl β0 (st.put (some d) x) β (a.put (some d) v) w V where
 defers:=h.defers
 size:=by simp [Act.put,h.size]
 aq:=by
  intro t y hy
  rw [cC] at hy
  show (a.tmps.setIfInBounds d v).getD t undef=_
  rw [mL _ _ _ _ (by rw [h.size];exact hd)]
  split at hy
  ·rename_i e;rw [if_pos e];simp only [Option.some.injEq] at hy;rw [←hy];exact hv
  ·rename_i e;rw [if_neg e];exact h.aq t y hy
 um:=by
  intro t y hy
  rw [cC] at hy
  split at hy
  ·simp only [Option.some.injEq] at hy;rw [←hy];exact hl
  ·exact h.um t y hy
 uk:=h.uk
 boxes:=h.boxes
 inj:=h.inj
 mo:=h.mo
 qc:=h.qc
 ext:=h.ext
 own:=h.own
 jS:=h.jS
 iL:=h.iL
 small:=h.small
theorem Mod.A9 (h:Mod n V0 bl β0 st β a w V){d:Option Nat}{x:SV}{v:Value}(hd:∀k,d=some k->k<n)(hv:v=x.den β)(hl:∀s∈x.ids,∃b,st.boxes s=some b) :
  Mod n V0 bl β0 (st.put d x) β (a.put d v) w V:=by
 cases d with
 | none=>exact h
 | some d=>exact h.put (hd d rfl) hv hl
theorem Mod.drew (h:Mod n V0 bl β0 st β a w V):Mod n V0 bl β0 st β a { w with drawn:=w.drawn+1 } V:=
 ⟨h.defers,h.size,h.aq,h.um,h.uk,h.boxes,h.inj,h.mo,h.qc,⟨h.ext.size,h.ext.bm,h.ext.os,h.ext.tape,h.ext.out⟩,h.own,h.jS,h.iL,h.small⟩
theorem aw {w:World}{b:Nat}{o:Obj}(h:w.heap[b]?=some o):b<w.heap.size:=by
 rcases Nat.lt_or_ge b w.heap.size with h'|h'
 ·exact h'
 ·rw [Array.getElem?_eq_none h'] at h;cases h
theorem bC (w:World)(o:Obj){b:Nat}(h:b<w.heap.size):(w.alloc o).heap[b]?=w.heap[b]?:=by
 show (w.heap.push o)[b]?=_
 rw [Array.getElem?_push,if_neg (by omega)]
theorem heap_alloc_new (w:World)(o:Obj):(w.alloc o).heap[w.heap.size]?=some o:=by
 show (w.heap.push o)[w.heap.size]?=_
 rw [Array.getElem?_push,if_pos rfl]
theorem aN (β:Nat->Nat)(s b:Nat):eT β s b s=b:=by simp [eT,Nat.beq_refl]
theorem eU (β:Nat->Nat){s t:Nat}(b:Nat)(h:t≠s):eT β s b t=β t:=by
 have:Nat.beq t s=false:=by
  cases hb:Nat.beq t s
  ·rfl
  ·exact absurd (beq_eq.1 hb) h
 simp [eT,this]
theorem Mod.new (h:Mod n V0 bl β0 st β a w V){d:Nat}{b:aO}(hd:d<n)(hn:st.boxes d=none)(hl:∀s∈b.cs.ids,∃b',st.boxes s=some b') :
  Mod n V0 bl β0 (st.box d b) (eT β d w.heap.size) a (w.alloc (b.obj β)) V:=by
 have hne:∀s b',st.boxes s=some b'->s≠d:=fun s b' hs e=>by rw [e,hn] at hs;cases hs
 have hβ:∀s b',st.boxes s=some b'->eT β d w.heap.size s=β s:=fun s b' hs=>eU _ _ (hne s b' hs)
 have hlt:∀s b',st.boxes s=some b'->b'.live->β s<w.heap.size:=fun s b' hs l=>aw (h.boxes s b' hs l)
 have hV:∀b' o,V.bm b' o->b'<w.heap.size:=fun b' o hb=>aw (h.mo b' o hb).1
 refine ⟨h.defers,h.size,?_,?_,?_,?_,?_,?_,?_,?_,?_,?_,h.iL,?_⟩
 ·intro t x hx
  rw [h.aq t x hx]
  exact SV.br fun s hs=>by obtain ⟨b',hb'⟩:=h.um t x hx s hs;exact (hβ s b' hb').symm
 ·intro t x hx s hs
  obtain ⟨b',hb'⟩:=h.um t x hx s hs
  exact ⟨b',by rw [ah,if_neg (hne s b' hb')];exact hb'⟩
 ·intro s b' hs s' hs'
  rw [ah] at hs
  have:∃b'',st.boxes s'=some b'':=by
   split at hs
   ·simp only [Option.some.injEq] at hs;rw [←hs] at hs';exact hl s' hs'
   ·exact h.uk s b' hs s' hs'
  obtain ⟨b'',iQ⟩:=this
  exact ⟨b'',by rw [ah,if_neg (hne s' b'' iQ)];exact iQ⟩
 ·intro s b' hs l
  rw [ah] at hs
  split at hs
  ·rename_i e
   simp only [Option.some.injEq] at hs
   rw [e,aN,heap_alloc_new,←hs]
   congr 1
   exact aO.cA fun s' hs'=>by obtain ⟨b'',iQ⟩:=hl s' hs';exact (hβ s' b'' iQ).symm
  ·rw [hβ s b' hs,bC _ _ (hlt s b' hs l),h.boxes s b' hs l]
   congr 1
   exact aO.cA fun s' hs'=>by obtain ⟨b'',iQ⟩:=h.uk s b' hs s' hs';exact (hβ s' b'' iQ).symm
 ·intro s s' b1 b2 h1 l1 h2 l2 he
  rw [ah] at h1 h2
  split at h1<;>split at h2
  ·rename_i e1 e2;rw [e1,e2]
  ·rename_i e1 e2;rw [e1,aN,hβ s' b2 h2] at he;have:=hlt s' b2 h2 l2;omega
  ·rename_i e1 e2;rw [e2,aN,hβ s b1 h1] at he;have:=hlt s b1 h1 l1;omega
  ·rw [hβ s b1 h1,hβ s' b2 h2] at he;exact h.inj s s' b1 b2 h1 l1 h2 l2 he
 ·intro b' o hb
  obtain ⟨h1,h2⟩:=h.mo b' o hb
  exact ⟨by rw [bC _ _ (hV b' o hb)];exact h1,h2⟩
 ·intro s b' hs l o ho
  rw [ah] at hs
  split at hs
  ·rename_i e;rw [e,aN] at ho;have:=hV _ o ho;omega
  ·rw [hβ s b' hs] at ho;exact h.qc s b' hs l o ho
 ·exact h.ext.trans ⟨by simp,fun i hi _=>bC _ _ hi,rfl,rfl,rfl⟩
 ·intro s b' hs l
  rw [ah] at hs
  split at hs
  ·rename_i e;rw [e,aN];exact .inl h.ext.size
  ·rw [hβ s b' hs];exact h.own s b' hs l
 ·intro s hs
  obtain ⟨h1,h2⟩:=h.jS s hs
  exact ⟨h1,by rw [eU _ _ (by have:=h.small;omega)];exact h2⟩
 ·exact h.small
theorem Mod.void (h:Mod n V0 bl β0 st β a w V){s:Nat}{ty:TypeId}:Mod n V0 bl β0 (st.box s ⟨.aT [],ty⟩) β a w V:=by
 have hw:∀t b',st.boxes t=some b'->∃b'',(st.box s ⟨.aT [],ty⟩).boxes t=some b'':=by
  intro t b' ht
  rw [ah]
  split
  ·exact ⟨_,rfl⟩
  ·exact ⟨b',ht⟩
 have hb:∀t b',(st.box s ⟨.aT [],ty⟩).boxes t=some b'->b'.live->st.boxes t=some b':=by
  intro t b' ht l
  rw [ah] at ht
  split at ht
  ·cases ht;exact absurd l eQ
  ·exact ht
 refine ⟨h.defers,h.size,h.aq,?_,?_,fun t b' ht l=>h.boxes t b' (hb t b' ht l) l,fun t t' b1 b2 h1 l1 h2 l2=>h.inj t t' b1 b2 (hb _ _ h1 l1) l1 (hb _ _ h2 l2) l2,h.mo,fun t b' ht l=>h.qc t b' (hb t b' ht l) l,h.ext,fun t b' ht l=>h.own t b' (hb t b' ht l) l,h.jS,h.iL,h.small⟩
 ·intro t x hx s' hs'
  obtain ⟨b',hb'⟩:=h.um t x hx s' hs'
  exact hw s' b' hb'
 ·intro t b' ht s' hs'
  have:∃b'',st.boxes s'=some b'':=by
   rw [ah] at ht
   split at ht
   ·cases ht;cases hs'
   ·exact h.uk t b' ht s' hs'
  obtain ⟨b'',iQ⟩:=this
  exact hw s' b'' iQ
theorem Mod.pH (h:Mod n V0 bl β0 st β a w V){s:Nat}{b b':aO}(hs:st.boxes s=some b)(lb:b.live)(hl:∀s'∈b'.cs.ids,∃b'',st.boxes s'=some b'')
  {w':World}(hw:w'.heap=w.heap.setIfInBounds (β s) (b'.obj β))(ho:w'.os=w.os)(ht:w'.tape=w.tape)(hout:w'.output=w.output) :
  Mod n V0 bl β0 (st.box s b') β a w' V:=by
 have hlt:=aw (h.boxes s b hs lb)
 have hg:∀i,w'.heap[i]?=if i=β s then some (b'.obj β) else w.heap[i]?:=by
  intro i
  rw [hw,Array.getElem?_setIfInBounds]
  by_cases e:β s=i
  ·rw [if_pos e,if_pos (by omega),if_pos e.symm]
  ·rw [if_neg e,if_neg (Ne.symm e)]
 refine ⟨h.defers,h.size,h.aq,?_,?_,?_,?_,?_,?_,?_,?_,h.jS,h.iL,h.small⟩
 ·intro t x hx s' hs'
  obtain ⟨b1,hb1⟩:=h.um t x hx s' hs'
  rw [ah]
  split
  ·exact ⟨_,rfl⟩
  ·exact ⟨b1,hb1⟩
 ·intro t b1 hb1 s' hs'
  have:∃b'',st.boxes s'=some b'':=by
   rw [ah] at hb1
   split at hb1
   ·simp only [Option.some.injEq] at hb1;rw [←hb1] at hs';exact hl s' hs'
   ·exact h.uk t b1 hb1 s' hs'
  rw [ah]
  split
  ·exact ⟨_,rfl⟩
  ·exact this
 ·intro t b1 hb1 l1
  rw [ah] at hb1
  rw [hg]
  split at hb1
  ·rename_i e;simp only [Option.some.injEq] at hb1;rw [e,if_pos rfl,hb1]
  ·rename_i e
   rw [if_neg fun he=>e (h.inj t s b1 b hb1 l1 hs lb he)]
   exact h.boxes t b1 hb1 l1
 ·intro t t' b1 b2 h1 l1 h2 l2 he
  have f:∀t b1,(st.box s b').boxes t=some b1->b1.live->∃b2,st.boxes t=some b2/\b2.live:=by
   intro t b1 h1 l1
   rw [ah] at h1
   split at h1
   ·rename_i e;rw [e];exact ⟨b,hs,lb⟩
   ·exact ⟨b1,h1,l1⟩
  obtain ⟨c1,hc1,m1⟩:=f t b1 h1 l1
  obtain ⟨c2,hc2,m2⟩:=f t' b2 h2 l2
  exact h.inj t t' c1 c2 hc1 m1 hc2 m2 he
 ·intro b1 o hb
  obtain ⟨h1,h2⟩:=h.mo b1 o hb
  refine ⟨?_,h2⟩
  rw [hg,if_neg]
  ·exact h1
  ·intro e;rw [e] at hb;exact h.qc s b hs lb o hb
 ·intro t b1 hb1 l1 o
  rw [ah] at hb1
  split at hb1
  ·rename_i e;rw [e];exact h.qc s b hs lb o
  ·exact h.qc t b1 hb1 l1 o
 ·refine ⟨by rw [hw];simpa using h.ext.size,fun i hi hX=>?_,ho.trans h.ext.os,ht.trans h.ext.tape,hout.trans h.ext.out⟩
  rw [hg]
  split
  ·rename_i e
   exfalso
   rcases h.own s b hs lb with h1|h1
   ·omega
   ·exact hX (e▸h.iL _ h1.2)
  ·exact h.ext.bm i hi hX
 ·intro t b1 hb1 l1
  rw [ah] at hb1
  split at hb1
  ·rename_i e;rw [e];exact h.own s b hs lb
  ·exact h.own t b1 hb1 l1
end Go.bo
namespace Go.bo
variable {P:Program} {T:cw} {n:Nat} {V0:View} {bl:Am} {β0:Nat->Nat} {st:St} {β:Nat->Nat} {a:Act} {w:World} {V:View}
theorem cJ:∀(sc:List Prop)(k:Prop),vN sc k↔(∀p∈sc,p)/\k
 | [],k=>by simp [vN]
 | p::r,k=>by
  simp only [vN,cJ r k,List.mem_cons]
  constructor
  ·rintro ⟨h1,h2,h3⟩
   exact ⟨fun q hq=>by rcases hq with rfl|hq;exact h1;exact h2 q hq,h3⟩
  ·rintro ⟨h1,h2⟩
   exact ⟨h1 p (.inl rfl),fun q hq=>h1 q (.inr hq),h2⟩
theorem ax {t:TypeId}{i:TI}(h:iU P t=some i):∃info d z,P.info? t=some info/\P.underlying t=some d/\info.zero=some z/\i.k=iD d/\i.size=info.size/\i.bytes=info.bytes/\i.zero=z.cells.toList.map C.ofConst:=by
 unfold iU at h
 split at h
 ·rename_i info d h1 h2
  split at h
  ·rename_i z hz
   simp only [Option.some.injEq] at h
   subst h
   exact ⟨info,d,z,h1,h2,hz,rfl,rfl,rfl,rfl⟩
  ·cases h
 ·cases h
theorem yp (β:Nat->Nat)(y:Value):(C.ofConst y).den β=y:=by
 unfold C.ofConst;split<;>rfl
theorem yP (β:Nat->Nat)(l:List Value):(l.map C.ofConst).map (C.den β)=l:=by
 induction l with
 | nil=>rfl
 | cons y r ih=>simp only [List.map_cons,yp,ih]
theorem yI (y:Value):(C.ofConst y).ids=[]:=by unfold C.ofConst;split<;>rfl
theorem wB (l:List Value):(l.map C.ofConst).flatMap C.ids=[]:=by
 induction l with
 | nil=>rfl
 | cons y r ih=>simp [yI]
theorem ai {t:TypeId}{d:TypeDesc}(h:P.underlying t=some d)(w:World):(underlying t).run P w=.ok d w:=by simp [underlying,h]
theorem iC {t:TypeId}{i:TypeInfo}(h:P.info? t=some i)(w:World):(typeInfo t).run P w=.ok i w:=by simp [typeInfo,h]
theorem aK {t:TypeId}{i:TypeInfo}(h:P.info? t=some i)(w:World):(sizeOf t).run P w=.ok i.size w:=by simp [sizeOf,iC h]
theorem gi {t:TypeId}{i:TypeInfo}{z:Value}(h:P.info? t=some i)(hz:i.zero=some z)(w:World):(zeroValue t).run P w=.ok z w:=by
 simp [zeroValue,iC h,hz]
def nH:TK->Bool
 | .struct _|.arr _ _=>true
 | _=>false
theorem fp {t:TypeId}{d:TypeDesc}(h:P.underlying t=some d)(w:World):(isAgg t).run P w=.ok (nH (iD d)) w:=by
 simp only [isAgg,Sem.run_bind,ai h,Result.andThen_ok]
 cases d<;>rfl
def Live (st:St)(x:SV):Prop:=∀s∈x.ids,∃b,st.boxes s=some b
theorem vj {k k':IntKind}(h:rf k k'=true):k=k':=by cases k<;>cases k'<;>simp_all [rf]
theorem A0 {op:BinOp}{k:IntKind}{x y:Int}{sc:List Prop}{v:SV}{xt:TypeId}(h:kh op k x y=.ret sc v)(hsc:∀p∈sc,p) :
  (binOp op xt (.int k x) (.int k y)).run P w=.ok (v.den β) w/\v.ids=[]:=by
 cases op<;>simp only [kh,Q.ret.injEq] at h<;>obtain ⟨rfl,rfl⟩:=h <;>
  simp only [List.mem_cons,List.not_mem_nil,or_false,forall_eq,false_imp_iff,implies_true] at hsc <;>
  refine ⟨?_,rfl⟩ <;>
  simp [binOp,Op.intArith,Op.intDiv,Op.intBits,Op.intCmp,Op.shift,SV.den,C.den,a_,hsc]
 all_goals (try (intro h;omega))
theorem vF {op:BinOp}{k k':IntKind}{x y:Int}{sc:List Prop}{v:SV}{xt:TypeId}(hop:op=.shl\/op=.shr)(h:kh op k x y=.ret sc v)(hsc:∀p∈sc,p) :
  (binOp op xt (.int k x) (.int k' y)).run P w=.ok (v.den β) w/\v.ids=[]:=by
 rcases hop with rfl|rfl<;>simp only [kh,Q.ret.injEq] at h<;>obtain ⟨rfl,rfl⟩:=h <;>
  simp only [List.mem_cons,List.not_mem_nil,or_false,forall_eq] at hsc <;>
  refine ⟨?_,rfl⟩ <;>
  simp [binOp,Op.shift,SV.den,C.den]<;>(intro h;omega)
section eqs
variable {t:TypeId} (d:Nat)
theorem CY (h:P.underlying t=some .bool)(x y:Bool):(Op.equalIn (d+1) t (.bool x) (.bool y)).run P w=.ok (x==y) w:=by
 simp [Op.equalIn,ai h]
theorem uX {e:TypeId}(h:P.underlying t=some (.pointer e))(p:OA):(Op.equalIn (d+1) t (.pointer p) (.pointer none)).run P w=.ok p.isNone w:=by
 cases p<;>simp [Op.equalIn,ai h]
theorem lN {e:TypeId}(h:P.underlying t=some (.slice e))(p:OA)(n c m k:Nat):(Op.equalIn (d+1) t (.slice p n c) (.slice none m k)).run P w=.ok p.isNone w:=by
 cases p<;>simp [Op.equalIn,ai h]
theorem qR {ms:Array (String×TypeId)}(h:P.underlying t=some (.interface ms)){x:Value}(hx:IsIface x):(Op.equalIn (d+1) t x .nilIface).run P w=.ok (cS x) w:=by
 rcases hx with rfl|⟨u,v,rfl⟩<;>simp [Op.equalIn,ai h,cS]
end eqs
theorem ik {t:TypeId}{x y:Value}{r:Bool}(h:∀d,(Op.equalIn (d+1) t x y).run P w=.ok r w):(Op.equal t x y).run P w=.ok r w:=h 9999
theorem xO {op:BinOp}{xt:TypeId}{x y:Bool}(ht:P.underlying xt=some .bool)(hop:op=.eql\/op=.neq) :
  (binOp op xt (.bool x) (.bool y)).run P w=.ok (.bool (if op=.eql then x==y else !(x==y))) w:=by
 have:=ik (w:=w) fun d=>CY d ht x y
 rcases hop with rfl|rfl<;>simp only [binOp,Sem.run_bind,this,Result.andThen_ok,Sem.run_pure]<;>rfl
theorem uD {c:C}{b:Bool}(h:c.bool?=some b):c.den β=.bool b/\c.ids=[]:=by
 cases c with
 | v x=>cases x<;>simp_all [C.bool?,C.den,C.ids]
 | _=>simp_all [C.bool?,C.den,C.ids]
theorem yr {d:TypeDesc}{k:IntKind}(h:iD d=.int k):d=.int k:=by cases d<;>simp_all [iD]
theorem wj {d:TypeDesc}(h:iD d=.bool):d=.bool:=by cases d<;>simp_all [iD]
theorem yv {d:TypeDesc}{e:TypeId}(h:iD d=.ptr e):d=.pointer e:=by cases d<;>simp_all [iD]
theorem aP {d:TypeDesc}{e:TypeId}(h:iD d=.slice e):d=.slice e:=by cases d<;>simp_all [iD]
theorem tE {d:TypeDesc}(h:iD d=.iface):∃ms,d=.interface ms:=by cases d<;>simp_all [iD]
theorem gG {d:TypeDesc}{fs:List (TypeId×Nat)}(h:iD d=.struct fs):∃gs,d=.struct gs/\fs=gs.toList.map fun f=>(f.type,f.offset):=by
 cases d<;>simp_all [iD]
theorem ke {d:TypeDesc}{m:Nat}{e:TypeId}(h:iD d=.arr m e):d=.array m e:=by cases d<;>simp_all [iD]
theorem gx {t:TypeId}{x y:Value}{r:Bool}(neg:Bool)(h:(Op.equal t x y).run P w=.ok r w)
  (hx:(∃p,x=.pointer p/\y=.pointer none)\/(∃p n c m k,x=.slice p n c/\y=.slice none m k)\/(IsIface x/\y=.nilIface)) :
  (binOp (if neg then .neq else .eql) t x y).run P w=.ok (.bool (if neg then !r else r)) w:=by
 rcases hx with ⟨p,rfl,rfl⟩|⟨p,n,c,m,k,rfl,rfl⟩|⟨hx,rfl⟩
 ·cases p<;>cases neg<;>simp only [Bool.false_eq_true,if_false,if_true,binOp,Sem.run_bind,h,Result.andThen_ok,Sem.run_pure]
 ·cases neg<;>simp only [Bool.false_eq_true,if_false,if_true,binOp,Sem.run_bind,h,Result.andThen_ok,Sem.run_pure]
 ·rcases hx with rfl|⟨u,v,rfl⟩<;>cases neg<;>simp only [Bool.false_eq_true,if_false,if_true,binOp,Sem.run_bind,h,Result.andThen_ok,Sem.run_pure]
theorem lO {op:BinOp}{t:TypeId}{x y:Operand}{u v:Value}(h:(∃p,u=.pointer p)\/(∃p n c,u=.slice p n c)\/(∃k n,u=.int k n)\/(∃b,u=.bool b)\/∃c,y=.const c)(hn:v=.nilIface->∃c,y=.const c)(hu:∀cs,u≠.agg cs) :
  (eqGuard op t x y u v).run P w=.ok () w:=by
 have key:∀(m:Sem Unit),m=(match (generalizing:=false) u,v with
   | .nilIface,.nilIface=>do
    if (match (generalizing:=false) x with|.const _=>true|_=>false)||(match (generalizing:=false) y with|.const _=>true|_=>false) then return
    if ← Op.eqGuardIn Op.maxDepth t u v then unsupported (.noEntry "binop/eql: two nil values of an interface type with methods, neither of them the literal nil")
   | .agg _,.agg _=>do
    if !(←program).eqGuardType (←program).depth t then return
    if ← Op.eqGuardIn Op.maxDepth t u v then unsupported (.noEntry "binop/eql: two nil values of an interface type with methods, in a part of a struct or an array")
   | _,_=>pure ())->m.run P w=.ok () w:=by
  intro m hm
  rw [hm]
  clear hm
  revert hn hu
  split
  ·intro hn _;obtain ⟨c,rfl⟩:=hn rfl;simp
  ·rename_i cs _;intro _ hu;exact absurd rfl (hu cs)
  ·intro _ _;rfl
 cases op<;>first|rfl|exact key _ rfl
theorem Fh {xt:TypeId}{i:TI}(hi:iU P xt=some i){x y:C}(neg:Bool){sc:List Prop}{v:SV}
  (h:wN neg i.k x y=.ret sc v)(hsc:∀p∈sc,p) :
  (binOp (if neg then .neq else .eql) xt (x.den β) (y.den β)).run P w=.ok (v.den β) w/\v.ids=[] /\
  ((∃p,x.den β=.pointer p)\/(∃p n c,x.den β=.slice p n c)\/y.den β=.nilIface)/\(y.den β=.nilIface->y=.v .nilIface)/\(∀cs,x.den β≠.agg cs):=by
 obtain ⟨info,d,z,h1,h2,h3,h4,-⟩:=ax hi
 unfold wN at h
 split at h
 ·rename_i e hk
  rw [h4] at hk
  obtain rfl:=yv hk
  split at h
  ·split at h
   ·simp only [Q.ret.injEq] at h;obtain ⟨rfl,rfl⟩:=h
    refine ⟨?_,by cases neg<;>rfl,.inl ⟨_,rfl⟩,by simp [C.den],by simp [C.den]⟩
    rename_i s o
    have:=gx (w:=w) neg (ik fun d=>uX d h2 (some ⟨β s,o,none⟩)) (.inl ⟨_,rfl,rfl⟩)
    cases neg<;>exact this
   ·simp only [Q.ret.injEq] at h;obtain ⟨rfl,rfl⟩:=h
    refine ⟨?_,rfl,.inl ⟨_,rfl⟩,by simp [C.den],by simp [C.den]⟩
    exact gx (w:=w) neg (ik fun d=>uX d h2 _) (.inl ⟨_,rfl,rfl⟩)
   ·cases h
  ·cases h
 ·rename_i e hk
  rw [h4] at hk
  obtain rfl:=aP hk
  split at h
  ·split at h
   ·simp only [Q.ret.injEq] at h;obtain ⟨rfl,rfl⟩:=h
    refine ⟨?_,by cases neg<;>rfl,.inr (.inl ⟨_,_,_,rfl⟩),by simp [C.den],by simp [C.den]⟩
    rename_i m k _ s o n c
    have:=gx (w:=w) neg (ik fun d=>lN d h2 (some ⟨β s,o,none⟩) n c m k) (.inr (.inl ⟨_,_,_,_,_,rfl,rfl⟩))
    cases neg<;>exact this
   ·simp only [Q.ret.injEq] at h;obtain ⟨rfl,rfl⟩:=h
    refine ⟨?_,rfl,.inr (.inl ⟨_,_,_,rfl⟩),by simp [C.den],by simp [C.den]⟩
    rename_i m k _ s n c
    have:=gx (w:=w) neg (ik fun d=>lN d h2 (mA (β s) c) n c m k) (.inr (.inl ⟨_,_,_,_,_,rfl,rfl⟩))
    have e:(mA (β s) c).isNone=Nat.beq c 0:=by cases c<;>rfl
    rw [e] at this
    exact this
   ·simp only [Q.ret.injEq] at h;obtain ⟨rfl,rfl⟩:=h
    refine ⟨?_,rfl,.inr (.inl ⟨_,_,_,rfl⟩),by simp [C.den],by simp [C.den]⟩
    exact gx (w:=w) neg (ik fun d=>lN d h2 _ _ _ _ _) (.inr (.inl ⟨_,_,_,_,_,rfl,rfl⟩))
   ·cases h
  ·cases h
 ·rename_i hk
  rw [h4] at hk
  obtain ⟨ms,rfl⟩:=tE hk
  split at h
  ·split at h
   ·simp only [Q.ret.injEq] at h;obtain ⟨rfl,rfl⟩:=h
    have hx:=hsc _ (List.mem_singleton.2 rfl)
    refine ⟨?_,rfl,.inr (.inr rfl),fun _=>rfl,?_⟩
    ·exact gx (w:=w) neg (ik fun d=>qR d h2 hx) (.inr (.inr ⟨hx,rfl⟩))
    ·intro cs e
     rcases hx with hx|⟨u,v,hx⟩<;>· simp only [C.den] at e;rw [hx] at e;cases e
   ·simp only [Q.ret.injEq] at h;obtain ⟨rfl,rfl⟩:=h
    refine ⟨?_,by cases neg<;>rfl,.inr (.inr rfl),fun _=>rfl,by simp [C.den]⟩
    have:=gx (w:=w) neg (ik fun d=>qR d h2 (x:=.nilIface) (.inl rfl)) (.inr (.inr ⟨.inl rfl,rfl⟩))
    cases neg<;>exact this
   ·cases h
  ·cases h
 ·cases h
theorem Ff (hT:cw.ok P T){op:BinOp}{xt:TypeId}{x y:C}{ox oy:Operand}{sc:List Prop}{v:SV}
  (h:wL T op xt x y=.ret sc v)(hsc:∀p∈sc,p)(hy:y=.v .nilIface->∃c,oy=.const c) :
  (do eqGuard op xt ox oy (x.den β) (y.den β);binOp op xt (x.den β) (y.den β)).run P w=.ok (v.den β) w/\v.ids=[]:=by
 unfold wL at h
 split at h
 ·rename_i i hi
  have hi:=hT _ _ hi
  obtain ⟨info,d,z,h1,h2,h3,h4,-⟩:=ax hi
  split at h
  ·split at h
   ·rename_i k a k' b
    have hg:(eqGuard op xt ox oy (C.den β (.v (.int k a))) (C.den β (.v (.int k' b)))).run P w=.ok () w:=
     lO (.inr (.inr (.inl ⟨_,_,rfl⟩))) (by simp [C.den]) (by simp [C.den])
    have key:(binOp op xt (.int k a) (.int k' b)).run P w=.ok (v.den β) w/\v.ids=[]:=by
     split at h
     ·exact vF (.inl rfl) h hsc
     ·exact vF (.inr rfl) h hsc
     ·split at h
      ·rename_i e;obtain rfl:=vj e;exact A0 h hsc
      ·cases h
    simp only [Sem.run_bind,hg,Result.andThen_ok]
    exact key
   ·cases h
  ·rename_i hk
   rw [h4] at hk
   obtain rfl:=wj hk
   split at h
   ·rename_i a b ha hb
    have hx:=uD (β:=β) ha
    have hy:=uD (β:=β) hb
    have hg:(eqGuard op xt ox oy (x.den β) (y.den β)).run P w=.ok () w:=by
     rw [hx.1,hy.1]
     exact lO (.inr (.inr (.inr (.inl ⟨_,rfl⟩)))) (by simp) (by simp)
    simp only [Sem.run_bind,hg,Result.andThen_ok]
    rw [hx.1,hy.1]
    split at h
    ·simp only [Q.ret.injEq] at h;obtain ⟨rfl,rfl⟩:=h
     exact ⟨xO h2 (.inl rfl),rfl⟩
    ·simp only [Q.ret.injEq] at h;obtain ⟨rfl,rfl⟩:=h
     exact ⟨xO h2 (.inr rfl),rfl⟩
    ·cases h
   ·cases h
  ·have key:∀neg:Bool,wN neg i.k x y=.ret sc v->(do eqGuard (if neg then .neq else .eql) xt ox oy (x.den β) (y.den β);binOp (if neg then .neq else .eql) xt (x.den β) (y.den β)).run P w=.ok (v.den β) w/\v.ids=[]:=by
    intro neg h
    obtain ⟨k1,k2,k3,k4,k5⟩:=Fh (w:=w) (β:=β) hi neg h hsc
    have hg:(eqGuard (if neg then BinOp.neq else BinOp.eql) xt ox oy (x.den β) (y.den β)).run P w=.ok () w:=by
     refine lO ?_ (fun e=>hy (k4 e)) k5
     rcases k3 with k3|k3|k3
     ·exact .inl k3
     ·exact .inr (.inl k3)
     ·exact .inr (.inr (.inr (.inr (hy (k4 k3)))))
    simp only [Sem.run_bind,hg,Result.andThen_ok]
    exact ⟨k1,k2⟩
   split at h
   ·exact key false h
   ·exact key true h
   ·cases h
 ·cases h
end Go.bo
