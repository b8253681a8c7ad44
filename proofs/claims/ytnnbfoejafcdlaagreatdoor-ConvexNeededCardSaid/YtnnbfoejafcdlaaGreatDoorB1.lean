import Derived.WalkKit
import Derived.Deep.LoopGhost
import Derived.KernelRfl
set_option linter.unusedVariables false
open Go.IntKind (i64 u64 u32)
namespace Go.bu
abbrev OA:=Option Addr
abbrev sm {α:Type}(a:α):Prop:=a=a
structure View where
 w:World
 H:Nat->Prop
 X:Nat->Prop
 hH:∀b,H b->b<w.heap.size
 hX:∀b,X b->H b
def View.bq (V:View)(b:Nat)(o:Obj):Prop:=¬V.H b/\V.w.heap[b]?=some o
def View.at (V:View)(p:Addr)(v:Value):Prop:=¬V.H p.block/\V.w.cell? p=some v
def View.Le (V V':View):Prop:=∀b o,V.bq b o->V'.bq b o
structure dW (X:Nat->Prop) (w w':World):Prop where
 size:w.heap.size<=w'.heap.size
 bq:∀b,b<w.heap.size->¬X b->w'.heap[b]?=w.heap[b]?
 os:w'.os=w.os
 tape:w'.tape=w.tape
 out:w'.output=w.output
def View.to (V:View)(w':World)(h:V.w.heap.size<=w'.heap.size):View:=⟨w',V.H,V.X,fun b hb=>Nat.lt_of_lt_of_le (V.hH b hb) h,V.hX⟩
def View.bf (V:View)(bs:List Nat):View:={ V with X:=fun b=>b∈bs/\V.H b,hX:=fun _ h=>h.2 }
def View.FG (V:View)(b:Nat):View:={ V with H:=fun x=>V.H x\/(x=b/\b<V.w.heap.size),hH:=fun x h=>h.elim (V.hH x) fun h=>h.1▸h.2,hX:=fun x h=>.inl (V.hX x h) }
def View.iB (V:View)(p:Prop)(b:Nat):View:={ V with H:=fun x=>V.H x\/(p/\x=b/\b<V.w.heap.size),hH:=fun x h=>h.elim (V.hH x) fun h=>h.2.1▸h.2.2,hX:=fun x h=>.inl (V.hX x h) }
def View.shut (V:View):View:={ V with X:=fun _=>False,hX:=fun _ h=>h.elim }
def gL (P : Program)(f : FuncId) : Prop := ∃ fn, P.funcs[f]? = some fn ∧ fn.body.isNone = false ∧ (fn.name == "runtime.NumGoroutine") = false
def ab (P:Program)(f:FuncId)(args:Array Value)(V:View)(R:Value->View->Prop):Prop:=
 gL P f/\Calls P f args V.w fun e w'=>∃r,e=.returned r/\∃hx:dW V.X V.w w',R r (V.to w' hx.size)
inductive C where
 | v (x:Value)|w (x:Value)|tt|ff
 | ptr (s o:Nat)
 | kr (s o n c:Nat)
 | iX (s n c:Nat)
 | zz (f:FuncId) (ss:List Nat)
inductive SV where
 | c (x:C)|agg (cs:List C)|mV (xs:List (Bool×List C))
inductive Cells where
 | lit (cs:List C)|row (vs:List Value)|aT (vs:List Value)
structure aO where
 cs:Cells
 ty:TypeId
def aO.live (b:aO):Prop:=∀vs,b.cs=.aT vs->vs≠[]
def ET (b:aO):List Prop:=
 match b.cs with
 | .aT vs=>[vs≠[]]
 | _=>[]
def Ox (b:aO):Prop:=
 match b.cs with
 | .aT vs=>vs≠[]
 | _=>True
def nB:List Prop->Prop->Prop
 | [],k=>k
 | p::r,k=>p->nB r k
def mA (b c:Nat):OA:=if c=0 then none else some ⟨b,0,none⟩
structure St where
 aq:Nat->Option SV
 boxes:Nat->Option aO
def C.den (β:Nat->Nat):C->Value
 | .v x=>x
 | .w x=>x
 | .tt=>.bool true
 | .ff=>.bool false
 | .ptr s o=>.pointer (some ⟨β s,o,none⟩)
 | .kr s o n c=>.slice (some ⟨β s,o,none⟩) n c
 | .iX s n c=>.slice (mA (β s) c) n c
 | .zz f ss=>.func (.func f) #[] (ss.map fun s=>Value.pointer (some ⟨β s,0,none⟩)).toArray
def gi (β:Nat->Nat):Bool×List C->Value
 | (true,cs)=>.agg (cs.map (C.den β)).toArray
 | (false,[c])=>c.den β
 | (false,_)=>.tuple #[]
def oN:Bool×List C->Option SV
 | (true,cs)=>some (.agg cs)
 | (false,[c])=>some (.c c)
 | (false,_)=>none
def SV.den (β:Nat->Nat):SV->Value
 | .c x=>x.den β
 | .agg cs=>.agg (cs.map (C.den β)).toArray
 | .mV xs=>.tuple (xs.map (gi β)).toArray
def SV.cells:SV->List C
 | .c x=>[x]
 | .agg cs=>cs
 | .mV _=>[]
def Cells.den (β:Nat->Nat):Cells->List Value
 | .lit cs=>cs.map (C.den β)
 | .row vs=>vs
 | .aT vs=>vs
def aO.obj (β:Nat->Nat)(b:aO):Obj:=.cells (b.cs.den β).toArray b.ty (0,0)
def C.ids:C->List Nat
 | .ptr s _=>[s]
 | .kr s _ _ _=>[s]
 | .iX s _ _=>[s]
 | .zz _ ss=>ss
 | _=>[]
def SV.ids:SV->List Nat
 | .c x=>x.ids
 | .agg cs=>cs.flatMap C.ids
 | .mV xs=>xs.flatMap fun x=>x.2.flatMap C.ids
def SV.sF:SV->Bool
 | .mV _=>true
 | _=>false
def d_:C->List Prop
 | .v (.agg _)|.v (.tuple _)=>[False]
 | .w x=>[x.oneCell'=true]
 | _=>[]
def SV.d_ (x:SV):List Prop:=x.cells.flatMap bu.d_
def Cells.ids:Cells->List Nat
 | .lit cs=>cs.flatMap C.ids
 | .row _=>[]
 | .aT _=>[]
def St.put (st:St)(d:Option Nat)(x:SV):St:=
 match d with
 | none=>st
 | some d=>{ st with aq:=fun t=>cond (Nat.beq t d) (some x) (st.aq t) }
def St.box (st:St)(s:Nat)(b:aO):St:={ st with boxes:=fun t=>cond (Nat.beq t s) (some b) (st.boxes t) }
def C.ofConst:Value->C
 | .bool true=>.tt
 | .bool false=>.ff
 | x=>.v x
def SV.ofConst:Value->SV
 | .bool true=>.c .tt
 | .bool false=>.c .ff
 | .agg cs=>.agg (cs.toList.map C.ofConst)
 | x=>.c (.v x)
def St.aU (st:St):Operand->Option SV
 | .tmp t=>st.aq t
 | .const v=>some (.ofConst v)
 | .global g=>some (.c (.v (.pointer (some ⟨g,0,none⟩))))
 | .func f=>some (.c (.zz f []))
inductive TK where
 | int (k:IntKind)|bool|str|ptr (e:TypeId)|slice (e:TypeId)|struct (fs:List (TypeId×Nat))|arr (n:Nat) (e:TypeId)|iface|func|tuple (ts:List TypeId)|other
structure TI where
 k:TK
 size:Nat
 bytes:Nat
 zero:List C
def iT:TypeDesc->TK
 | .int k=>.int k
 | .bool=>.bool
 | .string=>.str
 | .pointer e=>.ptr e
 | .slice e=>.slice e
 | .array n e=>.arr n e
 | .struct fs=>.struct (fs.toList.map fun f=>(f.type,f.offset))
 | .interface _=>.iface
 | .func ..=>.func
 | .tuple es=>.tuple es.toList
 | _=>.other
def jl (P:Program)(t:TypeId):Option TI:=
 match P.info? t,P.underlying t with
 | some i,some d=>
  match i.zero with
  | some z=>some { k:=iT d,size:=i.size,bytes:=i.bytes,zero:=z.cells.toList.map C.ofConst }
  | none=>none
 | _,_=>none
abbrev cF:=List (Nat×TI)
def ax {α:Type}:List (Nat×α)->Nat->Option α
 | [],_=>none
 | (s,x)::r,t=>cond (Nat.beq t s) (some x) (ax r t)
def cF.ok (P:Program)(T:cF):Prop:=∀t i,ax T t=some i->jl P t=some i
inductive ug where
 | int (k:IntKind)|bool|slice|ptr|str|any
inductive rj where
 | one (s:ug)|agg (l:List ug)
inductive Sh where
 | val (s:rj)|mV (l:List rj)|none
def NI:C->ug
 | .v (.int k _)=>.int k
 | .v (.slice ..)=>.slice
 | .v (.pointer _)=>.ptr
 | .v (.string _)=>.str
 | .tt|.ff=>.bool
 | _=>.any
def jq (i:TI):rj:=
 match i.k with
 | .struct _|.arr _ _=>.agg (i.zero.map NI)
 | _=>match i.zero with
  | [z]=>.one (NI z)
  | _=>.one .any
def ug.ex:ug->(C->Prop)->Prop
 | .int k,K=>∃n:Int,K (.v (.int k n))
 | .bool,K=>∃b:Bool,K (.v (.bool b))
 | .slice,K=>∃(a:OA)(n c:Nat),K (.v (.slice a n c))
 | .ptr,K=>∃p:OA,K (.v (.pointer p))
 | .str,K=>∃s:ByteArray,K (.v (.string s))
 | .any,K=>∃x:Value,K (.w x)
def JC:List ug->(List C->Prop)->Prop
 | [],K=>K []
 | s::r,K=>s.ex fun v=>JC r fun vs=>K (v::vs)
def rj.ex:rj->(SV->Prop)->Prop
 | .one s,K=>s.ex fun c=>K (.c c)
 | .agg l,K=>JC l fun cs=>K (.agg cs)
def KD:List rj->(List (Bool×List C)->Prop)->Prop
 | [],K=>K []
 | .one s::r,K=>s.ex fun c=>KD r fun vs=>K ((false,[c])::vs)
 | .agg l::r,K=>JC l fun cs=>KD r fun vs=>K ((true,cs)::vs)
def Sh.ex:Sh->(SV->Prop)->Prop
 | .val s,K=>s.ex K
 | .mV l,K=>KD l fun vs=>K (.mV vs)
 | .none,K=>K (.mV [])
def MO (T:cF):List TypeId->Option (List rj)
 | []=>some []
 | t::r=>match ax T t,MO T r with
  | some i,some l=>some (jq i::l)
  | _,_=>Option.none
def PZ (T:cF)(t:TypeId):Option Sh:=
 match ax T t with
 | some i=>match i.k with
  | .tuple []=>some .none
  | .tuple ts=>match MO T ts with
   | some l=>some (.mV l)
   | Option.none=>Option.none
  | _=>some (.val (jq i))
 | Option.none=>Option.none
inductive Q where
 | fail
 | ret (sc:List Prop) (x:SV)
 | new (sc:List Prop) (b:aO) (x:Nat->SV)
 | qn (sc:List Prop) (s:Nat) (b:aO)
 | rd (p:OA) (sh:rj)
 | lZ (vs:List Value) (o size:Nat) (sh:rj)
 | oX (s:Nat) (vs:List Value) (n c:Nat) (x:OA×Nat ⊕ List Value) (size bytes:Nat) (ty:TypeId)
 | app (old:Option Nat) (ba:OA) (vs:List Value) (n c:Nat) (x:OA×Nat ⊕ List Value) (size bytes:Nat) (ty:TypeId)
def bg (op:BinOp)(k:IntKind)(a b:Int):Int:=
 match op with
 | .and=>k.wrap ((BitVec.ofInt k.bits a &&& BitVec.ofInt k.bits b).toNat:Int)
 | .or=>k.wrap ((BitVec.ofInt k.bits a ||| BitVec.ofInt k.bits b).toNat:Int)
 | .xor=>k.wrap ((BitVec.ofInt k.bits a ^^^ BitVec.ofInt k.bits b).toNat:Int)
 | _=>k.wrap ((BitVec.ofInt k.bits a &&& ~~~(BitVec.ofInt k.bits b)).toNat:Int)
def kI (op:BinOp)(k:IntKind)(a b:Int):Q:=
 match op with
 | .add=>.ret [] (.c (.v (.int k (k.wrap (a+b)))))
 | .sub=>.ret [] (.c (.v (.int k (k.wrap (a-b)))))
 | .mul=>.ret [] (.c (.v (.int k (k.wrap (a*b)))))
 | .quo=>.ret [b≠0] (.c (.v (.int k (k.wrap (a.tdiv b)))))
 | .rem=>.ret [b≠0] (.c (.v (.int k (a.tmod b))))
 | .and=>.ret [] (.c (.v (.int k (bg .and k a b))))
 | .or=>.ret [] (.c (.v (.int k (bg .or k a b))))
 | .xor=>.ret [] (.c (.v (.int k (bg .xor k a b))))
 | .andNot=>.ret [] (.c (.v (.int k (bg .andNot k a b))))
 | .shl=>.ret [0<=b] (.c (.v (.int k (k.wrap (a*2^(min b.toNat k.bits))))))
 | .shr=>.ret [0<=b] (.c (.v (.int k (a.fdiv (2^(min b.toNat k.bits))))))
 | .eql=>.ret [] (.c (.v (.bool (a==b))))
 | .neq=>.ret [] (.c (.v (.bool (a != b))))
 | .lss=>.ret [] (.c (.v (.bool (decide (a<b)))))
 | .leq=>.ret [] (.c (.v (.bool (decide (a<=b)))))
 | .gtr=>.ret [] (.c (.v (.bool (decide (a>b)))))
 | .geq=>.ret [] (.c (.v (.bool (decide (a≥b)))))
def C.bool?:C->Option Bool
 | .tt=>some true
 | .ff=>some false
 | .v (.bool b)=>some b
 | _=>none
def bL:Value->Bool
 | .nilIface=>true
 | _=>false
def IsIface (x:Value):Prop:=x=.nilIface\/∃t v,x=.iface t v
def sG:IntKind->IntKind->Bool
 | .i8,.i8|.i16,.i16|.i32,.i32|.i64,.i64|.u8,.u8|.u16,.u16|.u32,.u32|.u64,.u64=>true
 | _,_=>false
def xW (neg:Bool)(k:TK)(x y:C):Q:=
 match k with
 | .ptr _=>match y with
  | .v (.pointer none)=>match x with
   | .ptr _ _=>.ret [] (.c (if neg then .tt else .ff))
   | .v (.pointer p)=>.ret [] (.c (.v (.bool (if neg then !p.isNone else p.isNone))))
   | _=>.fail
  | _=>.fail
 | .slice _=>match y with
  | .v (.slice none _ _)=>match x with
   | .kr _ _ _ _=>.ret [] (.c (if neg then .tt else .ff))
   | .iX _ _ c=>.ret [] (.c (.v (.bool (if neg then !(Nat.beq c 0) else Nat.beq c 0))))
   | .v (.slice a _ _)=>.ret [] (.c (.v (.bool (if neg then !a.isNone else a.isNone))))
   | _=>.fail
  | _=>.fail
 | .iface=>match y with
  | .v .nilIface=>match x with
   | .w y=>.ret [IsIface y] (.c (.v (.bool (if neg then !bL y else bL y))))
   | .v .nilIface=>.ret [] (.c (if neg then .ff else .tt))
   | _=>.fail
  | _=>.fail
 | _=>.fail
def xU (T:cF)(op:BinOp)(xt:TypeId)(x y:C):Q:=
 match ax T xt with
 | some i=>match i.k with
  | .int _=>match x,y with
   | .v (.int k a),.v (.int k' b)=>
    match op with
    | .shl|.shr=>kI op k a b
    | _=>if sG k k' then kI op k a b else .fail
   | _,_=>.fail
  | .bool=>match x.bool?,y.bool? with
   | some a,some b=>match op with
    | .eql=>.ret [] (.c (.v (.bool (a==b))))
    | .neq=>.ret [] (.c (.v (.bool (!(a==b)))))
    | _=>.fail
   | _,_=>.fail
  | k=>match op with
   | .eql=>xW false k x y
   | .neq=>xW true k x y
   | _=>.fail
 | none=>.fail
def ah (p:OA)(n:Nat):OA:=p.map fun a=>a.add n
def setCells (cs:List C)(o:Nat)(xs:List C):List C:=cs.take o++xs++cs.drop (o+xs.length)
def cW (vs:List Value)(o:Nat)(xs:List Value):List Value:=
 match xs with
 | [x]=>vs.set o x
 | _=>vs.take o++xs++vs.drop (o+xs.length)
def C.val?:C->Option Value
 | .v x=>some x
 | .w x=>some x
 | .tt=>some (.bool true)
 | .ff=>some (.bool false)
 | _=>none
def js:List C->Option (List Value)
 | []=>some []
 | c::r=>match c.val?,js r with
  | some v,some vs=>some (v::vs)
  | _,_=>none
def g_ (bx:Nat->Option aO)(i:TI)(x:SV):Q:=
 match x with
 | .c (.ptr b o)=>match bx b with
  | some ⟨.lit cs,_⟩=>match i.k with
   | .struct _|.arr _ _=>if Nat.ble (o+i.size) cs.length then .ret [] (.agg ((cs.drop o).take i.size)) else .fail
   | _=>match cs[o]? with
    | some c=>.ret [] (.c c)
    | none=>.fail
  | some ⟨.row vs,_⟩=>.lZ vs o i.size (jq i)
  | some ⟨.aT vs,_⟩=>if Nat.beq i.size 0 then .fail else .lZ vs o i.size (jq i)
  | none=>.fail
 | .c (.v (.pointer p))=>if Nat.beq i.zero.length i.size then .rd p (jq i) else .fail
 | _=>.fail
def fB (bx:Nat->Option aO)(i:TI)(a x:SV):Q:=
 match a with
 | .c (.ptr b o)=>if Nat.beq x.cells.length i.size&&!x.sF then match bx b with
   | some ⟨.lit cs,ty⟩=>if Nat.ble (o+i.size) cs.length then .qn x.d_ b ⟨.lit (setCells cs o x.cells),ty⟩ else .fail
   | some ⟨.row vs,ty⟩=>match js x.cells with
    | some xs=>.qn (x.d_++[o+i.size<=vs.length]) b ⟨.row (cW vs o xs),ty⟩
    | none=>.fail
   | some ⟨.aT vs,ty⟩=>if Nat.beq i.size 0 then .fail else match js x.cells with
    | some xs=>.qn (x.d_++[o+i.size<=vs.length]) b ⟨.aT (cW vs o xs),ty⟩
    | none=>.fail
   | none=>.fail
  else .fail
 | _=>.fail
def lX (place:Nat->Option (Nat×Nat))(cells:List C):List (Nat×SV)->Option (List C)
 | []=>some cells
 | (i,x)::r=>match place i with
  | none=>none
  | some (off,size)=>if Nat.beq x.cells.length size&&Nat.ble (off+size) cells.length&&!x.sF then lX place (setCells cells off x.cells) r else none
def partsOf (ρ:Operand->Option SV):List (Nat×Operand)->Option (List (Nat×SV))
 | []=>some []
 | (i,o)::r=>match ρ o,partsOf ρ r with
  | some x,some l=>some ((i,x)::l)
  | _,_=>none
def eJ (T:cF):List (TypeId×Nat)->Option (List (Nat×Nat))
 | []=>some []
 | (t,off)::r=>match ax T t,eJ T r with
  | some i,some l=>some ((off,i.size)::l)
  | _,_=>none
def rep (n:Nat)(zs:List C):List C:=(List.replicate n zs).flatten
def mS (n:Nat)(zs:List Value):List Value:=
 match zs with
 | [z]=>List.replicate n z
 | _=>(List.replicate n zs).flatten
def ot (a:OA)(m l sz:Nat):OA:=if m=l then a else ah a (l*sz)
def Ry (o m l sz:Nat):Nat:=if m=l then o else o+l*sz
def Ie (c:Nat):Option SV->Option (List Prop×Nat)
 | none=>some ([],c)
 | some (.c (.v (.int _ m)))=>some ([0<=m/\m<=(c:Int)],m.toNat)
 | _=>none
def GA (n m:Nat):Option SV->Option SV->Option (List Prop×Nat)
 | some (.c (.v (.int _ h))),_=>some ([0<=h/\h<=(m:Int)],h.toNat)
 | none,none=>some ([],n)
 | _,_=>none
def Kg (h:Nat):Option SV->Option (List Prop×Option Nat)
 | none=>some ([],none)
 | some (.c (.v (.int _ l)))=>some ([0<=l/\l<=(h:Int)],some l.toNat)
 | _=>none
def lC (n c:Nat)(lo hi mx:Option SV):Option (List Prop×Option Nat×Nat×Nat):=
 match Ie c mx with
 | none=>none
 | some (p1,m)=>match GA n m hi mx with
  | none=>none
  | some (p2,h)=>match Kg h lo with
   | none=>none
   | some (p3,l)=>some (p1++p2++p3,l,h,m)
def xQ (ρ:Operand->Option SV):Option Operand->Option (Option SV)
 | none=>some none
 | some x=>match ρ x with
  | some v=>some (some v)
  | none=>none
def pg (sz:Nat)(x:SV)(lo hi mx:Option SV):Q:=
 match x with
 | .c (.v (.slice a n c))=>match lC n c lo hi mx with
  | some (sc,none,h,m)=>.ret sc (.c (.v (.slice a h m)))
  | some (sc,some l,h,m)=>.ret sc (.c (.v (.slice (ot a m l sz) (h-l) (m-l))))
  | none=>.fail
 | .c (.kr s o n c)=>match lC n c lo hi mx with
  | some (sc,none,h,m)=>.ret sc (.c (.kr s o h m))
  | some (sc,some l,h,m)=>.ret sc (.c (.kr s (Ry o m l sz) (h-l) (m-l)))
  | none=>.fail
 | .c (.iX s n c)=>match mx with
  | none=>match lC n c lo hi none with
   | some (sc,none,h,m)=>.ret sc (.c (.iX s h m))
   | _=>.fail
  | some _=>.fail
 | _=>.fail
def fA (T:cF)(i:TI)(x ix:SV):Q:=
 match ix with
 | .c (.v (.int _ n))=>match i.k with
  | .slice e=>match ax T e with
   | some ei=>match x with
    | .c (.v (.slice a len _))=>.ret [a.isSome=true,0<=n/\n<(len:Int)] (.c (.v (.pointer (ah a (n.toNat*ei.size)))))
    | .c (.kr s o len _)=>.ret [0<=n/\n<(len:Int)] (.c (.ptr s (o+n.toNat*ei.size)))
    | .c (.iX s len c)=>.ret [0<=n/\n<(len:Int),len<=c] (.c (.ptr s (n.toNat*ei.size)))
    | _=>.fail
   | none=>.fail
  | .arr len e=>match ax T e with
   | some ei=>match x with
    | .c (.ptr s o)=>.ret [0<=n/\n<(len:Int)] (.c (.ptr s (o+n.toNat*ei.size)))
    | _=>.fail
   | none=>.fail
  | _=>.fail
 | _=>.fail
def wJ (T:cF)(i:TI)(l c:SV):Q:=
 match i.k with
 | .slice e=>match ax T e with
  | some ei=>match l,c with
   | .c (.v (.int _ n)),.c (.v (.int _ m))=>match js ei.zero with
    | some zs=>if Nat.beq ei.bytes 0||Nat.beq ei.size 0||!(Nat.beq ei.size zs.length) then .fail else .new [0<=n,n<=m,(ei.bytes:Int)*m<=140737488355328] ⟨.row (mS m.toNat zs),e⟩ fun d=>.c (.kr d 0 n.toNat m.toNat)
    | none=>.fail
   | _,_=>.fail
  | none=>.fail
 | _=>.fail
def s_:List SV->Option (List Nat)
 | []=>some []
 | .c (.ptr s 0)::r=>match s_ r with
  | some l=>some (s::l)
  | none=>none
 | _=>none
def bI (ρ:Operand->Option SV):List Operand->Option (List SV)
 | []=>some []
 | o::r=>match ρ o,bI ρ r with
  | some x,some l=>some (x::l)
  | _,_=>none
def bF (a b:Int):Int:=if b<a then b else a
def bE (a b:Int):Int:=if b>a then b else a
def foldI (f:Int->Int->Int)(k:IntKind)(a:Int):List SV->Option Int
 | []=>some a
 | .c (.v (.int k' b))::r=>if sG k k' then foldI f k (f a b) r else none
 | _=>none
def dJ (bx:Nat->Option aO)(s:Nat):Option (List Value):=
 match bx s with
 | some ⟨.lit cs,_⟩=>js cs
 | some ⟨.row vs,_⟩=>some vs
 | _=>none
def ja (bx:Nat->Option aO)(s:Nat):Option TypeId:=match bx s with|some b=>some b.ty|none=>none
def iG (ws:List Value)(o n:Nat):List Value:=cond (Nat.ble (o+n) ws.length) ((ws.drop o).take n) (List.replicate n (.agg #[]))
def bN (bx:Nat->Option aO)(e:TypeId)(ei:TI)(b x:SV):Q:=
 match js ei.zero with
 | none=>.fail
 | some zs=>if Nat.beq ei.bytes 0||Nat.beq ei.size 0||!(Nat.beq ei.size zs.length) then .fail else
  let src:Option (OA×Nat ⊕ List Value):=match x with
   | .c (.v (.slice a k _))=>some (.inl (a,k))
   | .c (.kr s o k _)=>match bx s with
    | some ⟨.row ws,_⟩=>some (.inr (iG ws o (k*ei.size)))
    | _=>match dJ bx s with
     | some ws=>if Nat.ble (o+k*ei.size) ws.length then some (.inr ((ws.drop o).take (k*ei.size))) else none
     | none=>none
   | _=>none
  match src with
  | none=>.fail
  | some src=>match b with
   | .c (.v (.slice a n c))=>.app none a [] n c src ei.size ei.bytes e
   | .c (.kr s 0 n c)=>match dJ bx s,ja bx s with
    | some vs,some ty=>if Nat.beq ty e then .app (some s) none vs n c src ei.size ei.bytes e else .fail
    | _,_=>.fail
   | .c (.iX s n c)=>match bx s with
    | some ⟨.aT vs,ty⟩=>if Nat.beq ty e then .oX s vs n c src ei.size ei.bytes e else .fail
    | _=>.fail
   | _=>.fail
def jm (b:Builtin)(k:TK)(xs:List SV):Q:=
 match xs with
 | []=>.fail
 | x::r=>match b with
  | .len=>match r,k,x with
   | [],.slice _,.c (.v (.slice _ n _))=>.ret [] (.c (.v (.int .i64 n)))
   | [],.slice _,.c (.kr _ _ n _)=>.ret [] (.c (.v (.int .i64 n)))
   | [],.slice _,.c (.iX _ n _)=>.ret [] (.c (.v (.int .i64 n)))
   | [],.str,.c (.v (.string s))=>.ret [] (.c (.v (.int .i64 s.size)))
   | _,_,_=>.fail
  | .cap=>match r,k,x with
   | [],.slice _,.c (.v (.slice _ _ c))=>.ret [] (.c (.v (.int .i64 c)))
   | [],.slice _,.c (.kr _ _ _ c)=>.ret [] (.c (.v (.int .i64 c)))
   | [],.slice _,.c (.iX _ _ c)=>.ret [] (.c (.v (.int .i64 c)))
   | _,_,_=>.fail
  | .min=>match x with
   | .c (.v (.int k a))=>match foldI bF k a r with
    | some m=>.ret [] (.c (.v (.int k m)))
    | none=>.fail
   | _=>.fail
  | .max=>match x with
   | .c (.v (.int k a))=>match foldI bE k a r with
    | some m=>.ret [] (.c (.v (.int k m)))
    | none=>.fail
   | _=>.fail
  | _=>.fail
def tg (t:TypeId)(i:TI)(v:SV):Q:=
 match i.k with
 | .iface=>.fail
 | _=>match v.ids,v.sF with
  | [],false=>.ret [] (.c (.w (.iface t (v.den fun _=>0))))
  | _,_=>.fail
def jW (T:cF)(bx:Nat->Option aO)(t:TypeId)(x:SV):Q:=
 match ax T t with
 | some i=>match i.k with
  | .slice e=>match ax T e with
   | some ei=>match js ei.zero,x with
    | some zs,.c (.kr s o n _)=>match bx s with
     | some ⟨.row vs,ty⟩=>if Nat.beq ei.size 0||!(Nat.beq ei.size zs.length)||!(zs.all Value.oneCell') then .fail else .qn [o+n*ei.size<=vs.length] s ⟨.row (vs.take o++mS n zs++vs.drop (o+n*ei.size)),ty⟩
     | _=>.fail
    | _,_=>.fail
   | none=>.fail
  | _=>.fail
 | none=>.fail
def DA:List C->Option (List (OA×Nat×Nat))
 | []=>some []
 | .v (.slice p n c)::r=>match DA r with
  | some l=>some ((p,n,c)::l)
  | none=>none
 | _=>none
def jn (T:cF)(i:TI)(cs:List C)(k:Int):Q:=
 match i.k with
 | .arr n e=>match ax T e,DA cs with
  | some ei,some l=>match ei.k with
   | .slice _=>if Nat.beq ei.size 1&&Nat.beq l.length n then .ret [0<=k/\k<(n:Int)] (.c (.v (.slice (l.getD k.toNat (none,0,0)).1 (l.getD k.toNat (none,0,0)).2.1 (l.getD k.toNat (none,0,0)).2.2))) else .fail
   | _=>.fail
  | _,_=>.fail
 | _=>.fail
def aH (T:cF)(ρ:Operand->Option SV)(bx:Nat->Option aO)(op:Op):Q:=
 match op with
 | .move x|.assign x=>match ρ x with
  | some v=>.ret [] v
  | none=>.fail
 | .pick c a b=>match ρ c with
  | some (.c .tt)=>match ρ a with
   | some v=>.ret [] v
   | none=>.fail
  | some (.c .ff)=>match ρ b with
   | some v=>.ret [] v
   | none=>.fail
  | _=>.fail
 | .alloc t=>match ax T t with
  | some i=>.new [] ⟨.lit i.zero,t⟩ fun d=>.c (.ptr d 0)
  | none=>.fail
 | .box t x=>match ρ x with
  | some v=>match v.sF with
   | true=>.fail
   | false=>.new v.d_ ⟨.lit v.cells,t⟩ fun d=>.c (.ptr d 0)
  | none=>.fail
 | .build t parts=>match ax T t,partsOf ρ parts.toList with
  | some i,some ps=>match i.k with
   | .struct fs=>match eJ T fs with
    | some pl=>match lX (fun j=>pl[j]?) i.zero ps with
     | some cs=>.ret (ps.flatMap fun x=>x.2.d_) (.agg cs)
     | none=>.fail
    | none=>.fail
   | .arr _ e=>match ax T e with
    | some ei=>match lX (fun j=>some (j*ei.size,ei.size)) i.zero ps with
     | some cs=>.ret (ps.flatMap fun x=>x.2.d_) (.agg cs)
     | none=>.fail
    | none=>.fail
   | _=>.fail
  | _,_=>.fail
 | .buildSlice t len parts=>match ax T t,partsOf ρ parts.toList with
  | some i,some ps=>match i.k with
   | .slice e=>match ax T e with
    | some ei=>if Nat.ble (len*ei.size) 16777216&&Nat.beq ei.zero.length ei.size&&!(Nat.beq ei.size 0) then match lX (fun j=>some (j*ei.size,ei.size)) (rep len ei.zero) ps with
      | some cs=>.new (ps.flatMap fun x=>x.2.d_) ⟨.lit cs,e⟩ fun d=>.c (.kr d 0 len len)
      | none=>.fail
     else .fail
    | none=>.fail
   | _=>.fail
  | _,_=>.fail
 | .load t a=>match ax T t,ρ a with
  | some i,some x=>g_ bx i x
  | _,_=>.fail
 | .store t a x=>match ax T t,ρ a,ρ x with
  | some i,some av,some xv=>fB bx i av xv
  | _,_,_=>.fail
 | .nilCheck x=>match ρ x with
  | some (.c (.ptr s o))=>.ret [] (.c (.ptr s o))
  | some (.c (.v (.pointer p)))=>.ret [p.isSome=true] (.c (.v (.pointer p)))
  | _=>.fail
 | .binOp o xt x y _=>match ρ x,ρ y with
  | some (.c a),some (.c b)=>match b with
   | .v .nilIface=>match y with
    | .const _=>xU T o xt a b
    | _=>.fail
   | b=>xU T o xt a b
  | _,_=>.fail
 | .unOp .not _ x=>match ρ x with
  | some (.c .tt)=>.ret [] (.c .ff)
  | some (.c .ff)=>.ret [] (.c .tt)
  | some (.c (.v (.bool b)))=>.ret [] (.c (.v (.bool (!b))))
  | _=>.fail
 | .unOp .xor _ x=>match ρ x with
  | some (.c (.v (.int k n)))=>.ret [] (.c (.v (.int k (bg .xor k (if k.signed then -1 else k.max) n))))
  | _=>.fail
 | .unOp .neg _ x=>match ρ x with
  | some (.c (.v (.int k n)))=>.ret [] (.c (.v (.int k (k.wrap (0-n)))))
  | _=>.fail
 | .convert src dst x=>match ax T src,ax T dst,ρ x with
  | some _,some i,some (.c (.v (.int _ n)))=>match i.k with
   | .int k=>.ret [] (.c (.v (.int k (k.wrap n))))
   | _=>.fail
  | _,_,_=>.fail
 | .makeFunc (.func f) first caps=>match first.toList with
  | []=>match bI ρ caps.toList with
   | some xs=>match s_ xs with
    | some ss=>.ret [] (.c (.zz f ss))
    | none=>.fail
   | none=>.fail
  | _=>.fail
 | .makeSlice t l c=>match ax T t,ρ l,ρ c with
  | some i,some lv,some cv=>wJ T i lv cv
  | _,_,_=>.fail
 | .slice t x lo hi mx=>match ax T t,ρ x,xQ ρ lo,xQ ρ hi,xQ ρ mx with
  | some i,some xv,some l,some h,some m=>match i.k with
   | .slice e=>match ax T e with
    | some ei=>pg ei.size xv l h m
    | none=>.fail
   | _=>.fail
  | _,_,_,_,_=>.fail
 | .fieldAddr t x f=>match ax T t,ρ x with
  | some i,some xv=>match i.k with
   | .struct fs=>match fs[f]? with
    | some (ft,off)=>match ax T ft with
     | some fi=>if Nat.beq fi.size 0 then .fail else match xv with
      | .c (.ptr s o)=>.ret [] (.c (.ptr s (o+off)))
      | .c (.v (.pointer p))=>.ret [p.isSome=true] (.c (.v (.pointer (ah p off))))
      | _=>.fail
     | none=>.fail
    | none=>.fail
   | _=>.fail
  | _,_=>.fail
 | .field t x f=>match ax T t,ρ x with
  | some i,some (.agg cs)=>match i.k with
   | .struct fs=>match fs[f]? with
    | some (ft,off)=>match ax T ft with
     | some fi=>match fi.k with
      | .struct _|.arr _ _=>.ret [] (.agg ((cs.drop off).take fi.size))
      | _=>match cs[off]? with
       | some c=>.ret [] (.c c)
       | none=>.fail
     | none=>.fail
    | none=>.fail
   | _=>.fail
  | _,_=>.fail
 | .indexAddr t x ix=>match ax T t,ρ x,ρ ix with
  | some i,some xv,some iv=>fA T i xv iv
  | _,_,_=>.fail
 | .extract x j=>match ρ x with
  | some (.mV xs)=>match xs[j]? with
   | some v=>match oN v with
    | some y=>.ret [] y
    | none=>.fail
   | none=>.fail
  | _=>.fail
 | .call c=>match c.callee with
  | .builtin .append=>match bI ρ c.args.toList,c.argTypes.toList with
   | some [b,x],[t,t']=>match ax T t,ax T t' with
    | some i,some i'=>match i.k,i'.k with
     | .slice e,.slice _=>match ax T e with
      | some ei=>bN bx e ei b x
      | none=>.fail
     | _,_=>.fail
    | _,_=>.fail
   | _,_=>.fail
  | .builtin .clear=>match bI ρ c.args.toList,c.argTypes.toList with
   | some [x],[t]=>jW T bx t x
   | _,_=>.fail
  | .builtin b=>match bI ρ c.args.toList,c.argTypes.toList with
   | some xs,t::_=>match ax T t with
    | some i=>jm b i.k xs
    | none=>.fail
   | _,_=>.fail
  | _=>.fail
 | .index t x ix=>match ax T t,ρ x,ρ ix with
  | some i,some (.c (.v (.string s))),some (.c (.v (.int _ n)))=>match i.k with
   | .str=>.ret [0<=n/\n<(s.size:Int)] (.c (.v (.int .u8 ((s.data.toList.getD n.toNat 0).toNat:Int))))
   | _=>.fail
  | some i,some (.agg cs),some (.c (.v (.int _ n)))=>jn T i cs n
  | _,_,_=>.fail
 | .makeInterface t x=>match ax T t,ρ x with
  | some i,some v=>tg t i v
  | _,_=>.fail
 | _=>.fail
def wX:List Prop->Prop->Prop
 | [],k=>k
 | p::r,k=>p/\wX r k
def View.Ii (V:View)(p:Addr):Nat->List C->Prop->Prop
 | _,[],k=>k
 | i,c::r,k=>V.at (p.add i) (c.den fun _=>0)/\V.Ii p (i+1) r k
def View.Hl (V:View)(p:OA)(x:SV)(k:Prop):Prop:=
 match x with
 | .agg cs=>∃a,p=some a/\V.Ii a 0 cs k
 | .c c=>(∃a,p=some a/\V.at a (c.den fun _=>0))/\k
 | .mV _=>False
def Io (vs:List Value)(o size:Nat)(x:SV):Prop:=
 match x with
 | .agg cs=>o+size<=vs.length/\(vs.drop o).take size=cs.map (C.den fun _=>0)
 | .c c=>vs[o]?=some (c.den fun _=>0)
 | .mV _=>False
def dS (x:Nat):List Nat->Bool
 | []=>false
 | y::r=>cond (Nat.beq x y) true (dS x r)
def dedup:List Nat->List Nat
 | []=>[]
 | x::r=>let l:=dedup r;cond (dS x l) l (x::l)
def rW (l m:List Nat):Bool:=l.all fun x=>!(dS x m)
def G5 (l m:List Nat):Bool:=l.all fun x=>dS x m
def C.rel (L:List Nat)(β:Nat->Nat)(J:C->Value):C->C
 | .ptr s o=>cond (dS s L) (.v (.pointer (some ⟨β s,o,none⟩))) (.ptr s o)
 | .kr s o n c=>cond (dS s L) (.v (.slice (some ⟨β s,o,none⟩) n c)) (.kr s o n c)
 | .iX s n c=>cond (dS s L) (.v (.slice (mA (β s) c) n c)) (.iX s n c)
 | .zz f ss=>cond (rW ss L) (.zz f ss) (.w (J (.zz f ss)))
 | x=>x
def SV.rel (L:List Nat)(β:Nat->Nat)(J:C->Value):SV->SV
 | .c x=>.c (x.rel L β J)
 | .agg cs=>.agg (cs.map (C.rel L β J))
 | .mV xs=>.mV (xs.map fun x=>(x.1,x.2.map (C.rel L β J)))
def aO.rel (L:List Nat)(β:Nat->Nat)(J:C->Value)(b:aO):aO:=
 match b.cs with
 | .row _=>b
 | .aT _=>b
 | .lit cs=>⟨.lit (cs.map (C.rel L β J)),b.ty⟩
def St.rel (st:St)(L:List Nat)(β:Nat->Nat)(J:C->Value):St:=
 ⟨fun t=>match st.aq t with|some x=>some (x.rel L β J)|none=>none,
   fun t=>cond (dS t L) none (match st.boxes t with|some b=>some (b.rel L β J)|none=>none)⟩
def View.sl (V:View)(a:OA)(xs:List Value):Prop:=∀i v,xs[i]?=some v->∃ad,a=some ad/\V.at (ad.add i) v
def lI (s d:Nat):Nat:=cond (Nat.blt s 100000) d (d+200000)
def yV (s:Nat)(vs:List Value)(n c size bytes:Nat)(ty:TypeId)(d:Nat)(st:St)(V:View)(K:St->View->Prop)(k:Nat)(xs:List Value):Prop:=
 (n+k)*bytes<=140737488355328/\n<=c/\c*size<=vs.length/\xs.length=k*size/\(∀v∈xs,v.oneCell'=true) /\
  match st.boxes (lI s d) with
  | some _=>False
  | none=>∀(_:Nat)(_:C->Value)(spare:List Value)(c':Nat),n+k<=c'->c'*size<=(n+k)*size+spare.length ->
   K (((st.box s ⟨.aT [],ty⟩).box (lI s d) ⟨.row (vs.take (n*size)++xs++spare),ty⟩).put (some d) (.c (.kr (lI s d) 0 (n+k) c'))) V
def pS (s:Nat)(vs:List Value)(n c size bytes:Nat)(ty:TypeId)(d:Nat)(st:St)(V:View)(K:St->View->Prop)(k:Nat)(xs:List Value):Prop:=
 (n+k)*bytes<=140737488355328/\n<=c/\c*size<=vs.length/\xs.length=k*size/\(∀v∈xs,v.oneCell'=true) /\
  match st.boxes (lI s d) with
  | some _=>False
  | none=>∀(spare:List Value)(c':Nat),n+k<=c'->c'*size<=(n+k)*size+spare.length ->
   K (((st.box s ⟨.aT [],ty⟩).box (lI s d) ⟨.aT (vs.take (n*size)++xs++spare),ty⟩).put (some d) (.c (.iX (lI s d) (n+k) c'))) V
def yW (vs:List Value)(n c size bytes:Nat)(ty:TypeId)(d:Nat)(st:St)(V:View)(K:St->View->Prop)(k:Nat)(xs:List Value):Prop:=
 (n+k)*bytes<=140737488355328/\c<n+k/\xs.length=k*size/\(∀v∈xs,v.oneCell'=true) /\
  match st.boxes d with
  | some _=>False
  | none=>∀(spare:List Value)(c':Nat),n+k<=c'->c'*size<=(n+k)*size+spare.length ->
   K ((st.box d ⟨.row (vs++xs++spare),ty⟩).put (some d) (.c (.kr d 0 (n+k) c'))) V
def qo (q:Q)(dst:Option Nat)(st:St)(V:View)(K:St->View->Prop):Prop:=
 match q with
 | .fail=>False
 | .ret sc x=>wX sc (K (st.put dst x) V)
 | .new sc b x=>match dst with
  | some d=>match st.boxes d with
   | none=>wX sc (K ((st.box d b).put (some d) (x d)) V)
   | some _=>False
  | none=>False
 | .qn sc s b=>match dst with
  | none=>wX sc (K (st.box s b) V)
  | some _=>False
 | .rd p sh=>sh.ex fun x=>V.Hl p x (K (st.put dst x) V)
 | .lZ vs o size sh=>sh.ex fun x=>Io vs o size x/\K (st.put dst x) V
 | .oX s vs n c x size bytes ty=>match dst with
  | none=>False
  | some d=>match x with
   | .inr xs=>pS s vs n c size bytes ty d st V K (xs.length / size) xs
   | .inl (a,k)=>∃xs:List Value,V.sl a xs/\xs.length=k*size/\pS s vs n c size bytes ty d st V K k xs
 | .app old ba vs n c x size bytes ty=>match dst with
  | none=>False
  | some d=>match old with
   | some s=>match x with
    | .inr xs=>yV s vs n c size bytes ty d st V K (xs.length / size) xs
    | .inl (a,k)=>∃xs:List Value,V.sl a xs/\xs.length=k*size/\yV s vs n c size bytes ty d st V K k xs
   | none=>∃vs:List Value,V.sl ba vs/\vs.length=n*size/\n<=c/\(ba.isNone=true->c=0)/\(match x with
    | .inr xs=>yW vs n c size bytes ty d st V K (xs.length / size) xs
    | .inl (a,k)=>∃xs:List Value,V.sl a xs/\xs.length=k*size/\(k=0->K (st.put (some d) (.c (.v (.slice ba n c)))) V)/\(k≠0->yW vs n c size bytes ty d st V K k xs))
def dv (β:Nat->Nat)(s b:Nat):Nat->Nat:=fun t=>cond (Nat.beq t s) b (β t)
def ki:List Nat->(Nat->Nat)->((Nat->Nat)->Prop)->Prop
 | [],β,k=>k β
 | s::r,β,k=>∀b:Nat,ki r (dv β s b) k
def jx (bx:Nat->Option aO)(s:Nat):List Nat:=match bx s with|some b=>b.cs.ids|none=>[]
def reach (bx:Nat->Option aO):Nat->List Nat->List Nat
 | 0,l=>l
 | n+1,l=>reach bx n (dedup (l++l.flatMap (jx bx)))
def fI (bx:Nat->Option aO)(l:List Nat):Bool:=l.all fun s=>G5 (jx bx s) l
def I5 (bx:Nat->Option aO)(b:aO)(β:Nat->Nat)(s:Nat):List Nat->Prop->Prop
 | [],k=>k
 | t::r,k=>cond (Nat.beq s t) (I5 bx b β s r k) (match bx t with
  | some b'=>nB (ET b++ET b') (β s≠β t)->I5 bx b β s r k
  | none=>False)
def gg (bx:Nat->Option aO)(β:Nat->Nat)(V:View):List Nat->Prop->Prop
 | [],k=>k
 | s::r,k=>match bx s with
  | some b=>nB (ET b) (V.w.heap[β s]?=some (b.obj β))->nB (ET b) (V.H (β s))->gg bx β V r (I5 bx b β s r k)
  | none=>False
def vb (vs:List Value)(n b:Nat):Nat:=
 match vs with
 | []=>n
 | _::_=>b
def c_ (bx:Nat->Option aO)(β:Nat->Nat)(n:Nat)(s:Nat):Nat:=
 match bx s with
 | some ⟨.aT vs,_⟩=>vb vs n (β s)
 | _=>β s
def C.kept:C->List Nat
 | .zz _ ss=>0::ss
 | c=>c.ids
def jO (mv:Option (Nat×Nat)):List C->List C->(List C->Prop)->Prop
 | [],_,K=>K []
 | c::r,z::zr,K=>match c with
  | .iX t _ _=>match mv with
   | some (m,nb)=>match Nat.beq t m with
    | true=>∃n c:Nat,jO mv r zr fun cs=>K (.iX nb n c::cs)
    | false=>False
   | none=>False
  | c=>match c.kept with
   | []=>(NI z).ex fun v=>jO mv r zr fun cs=>K (v::cs)
   | _=>jO mv r zr fun cs=>K (c::cs)
 | _,[],_=>False
def dD (T:cF)(mv:Option (Nat×Nat))(β:Nat->Nat)(V:View):List Nat->St->(St->Prop)->Prop
 | [],st,k=>k st
 | s::r,st,k=>match st.boxes s with
  | some ⟨.lit cs,ty⟩=>match ax T ty with
   | some i=>jO mv cs i.zero fun cs'=>V.w.heap[β s]?=some (.cells (cs'.map (C.den β)).toArray ty (0,0))/\dD T mv β V r (st.box s ⟨.lit cs',ty⟩) k
   | none=>False
  | some ⟨.row _,ty⟩=>∃vs:List Value,V.w.heap[β s]?=some (.cells vs.toArray ty (0,0))/\dD T mv β V r (st.box s ⟨.row vs,ty⟩) k
  | some ⟨.aT vs,ty⟩=>vs≠[]/\∃vs':List Value,vs'≠[]/\V.w.heap[β s]?=some (.cells vs'.toArray ty (0,0))/\dD T mv β V r (st.box s ⟨.aT vs',ty⟩) k
  | _=>False
def uL (bx:Nat->Option aO)(β:Nat->Nat)(V:View):List Nat->Prop->Prop
 | [],k=>k
 | s::r,k=>match bx s with
  | some b=>nB (ET b) (V.bq (β s) (b.obj β))->uL bx β V r k
  | none=>False
def my:List C->List Nat
 | []=>[]
 | .iX t _ _::r=>t::my r
 | _::r=>my r
def nH (bx:Nat->Option aO)(L:List Nat):List Nat:=dedup (L.flatMap fun s=>match bx s with|some ⟨.lit cs,_⟩=>my cs|_=>[])
def jQ:List SV->List Nat
 | []=>[]
 | .c (.iX s _ _)::_=>[s]
 | .c (.kr s 0 _ _)::_=>[s]
 | .c (.v (.slice none _ _))::_=>[]
 | _::r=>jQ r
def qU (nb:Nat):List (Bool×List C)->List (Bool×List C)
 | []=>[]
 | (false,[.v (.slice _ n c)])::r=>(false,[.iX nb n c])::r
 | x::r=>x::qU nb r
def xG (nb:Nat):List C->List C
 | []=>[]
 | .v (.slice _ n c)::r=>.iX nb n c::r
 | x::r=>x::xG nb r
def oS (nb:Nat):SV->SV
 | .c (.v (.slice _ n c))=>.c (.iX nb n c)
 | .agg cs=>.agg (xG nb cs)
 | .mV xs=>.mV (qU nb xs)
 | x=>x
def xH (T:cF):List TypeId->Option TypeId
 | []=>none
 | t::r=>match ax T t with
  | some i=>match i.k with
   | .slice e=>some e
   | _=>xH T r
  | none=>none
def FB (T:cF)(ty:TypeId):Option TypeId:=
 match ax T ty with
 | some i=>match i.k with
  | .slice e=>some e
  | .tuple ts=>xH T ts
  | .struct fs=>xH T (fs.map Prod.fst)
  | _=>none
 | none=>none
def aQ (β:Nat->Nat)(xs:List SV):Array Value:=(xs.map (SV.den β)).toArray
inductive CM where
 | none|bf|rel|gf|give
def dZ (m:Option Nat)(d:Nat):Nat:=
 match m with
 | some m=>lI m d
 | Option.none=>d
def T1 (m:Option Nat)(nb:Nat):Option (Nat×Nat):=
 match m with
 | some m=>some (m,nb)
 | Option.none=>Option.none
def Dk (m:Option Nat)(L:List Nat):List Nat:=
 match m with
 | some m=>L.filter fun s=>!(Nat.beq s m)
 | Option.none=>L
def ny (m:Option Nat)(ety:TypeId)(st:St):St:=
 match m with
 | some m=>st.box m ⟨.aT [],ety⟩
 | Option.none=>st
def uf (m:Option Nat)(st:St)(β:Nat->Nat)(b':Nat):Prop:=
 match m with
 | some m=>match st.boxes m with
  | some ⟨.aT vs,_⟩=>vs≠[]/\b'=β m
  | _=>b'=β m
 | Option.none=>False
def bV (T:cF)(give:Bool)(sh:Sh)(L:List Nat)(m:Option Nat)(d:Nat)(ety:TypeId)(β:Nat->Nat)(st:St)(V':View)(K:St->View->Prop)(r':Value)(dX:View):Prop:=
 ∃(b':Nat)(vs':List Value),(vs'≠[]->dX.w.heap[b']?=some (.cells vs'.toArray ety (0,0)))/\(vs'≠[]->V'.w.heap.size<=b'\/uf m st β b') /\
  sh.ex fun x=>r'=(cond give (oS (dZ m d) x) x).den (dv β (dZ m d) b') /\
   dD T (T1 m (dZ m d)) (dv β (dZ m d) b') dX (Dk m L) ((ny m ety st).box (dZ m d) ⟨.aT vs',ety⟩) fun st'=>K (st'.put (some d) (cond give (oS (dZ m d) x) x)) (dX.shut.iB (vs'≠[]) b')
def iP (st:St)(m:Option Nat)(d:Nat):Bool:=
 match st.boxes (dZ m d) with
 | some _=>false
 | Option.none=>true
def ew (P:Program)(T:cF)(m:CM)(f:FuncId)(xs:List SV)(ty:TypeId)(dst:Option Nat)(st:St)(V:View)(K:St->View->Prop):Prop:=
 match PZ T ty with
 | Option.none=>False
 | some sh=>match reach st.boxes 3 (dedup (xs.flatMap SV.ids)) with
  | []=>match m with
   | .give=>match dst,FB T ty with
    | some d,some ety=>match iP st Option.none d with
     | false=>False
     | true=>∀V':View,V.Le V'->ab P f (aQ (fun _=>0) xs) V' (bV T true sh [] Option.none d ety (fun _=>0) st V' K)
    | _,_=>False
   | .gf=>match sh,dst with
    | .val (.one .ptr),some d=>match st.boxes d with
     | some _=>False
     | Option.none=>match ax T ty with
      | some ti=>match ti.k with
       | .ptr e=>match ax T e with
        | some ei=>∀V':View,V.Le V'->ab P f (aQ (fun _=>0) xs) V' fun r dX=>∃b:Nat,JC (ei.zero.map NI) fun cs=>
          r=.pointer (some ⟨b,0,Option.none⟩)/\V'.w.heap.size<=b/\dX.bq b (.cells (cs.map (C.den fun _=>0)).toArray e (0,0))/\K ((st.box d ⟨.lit cs,e⟩).put (some d) (.c (.ptr d 0))) (dX.FG b)
        | Option.none=>False
       | _=>False
      | Option.none=>False
    | _,_=>False
   | _=>∀V':View,V.Le V'->ab P f (aQ (fun _=>0) xs) V' fun r dX=>sh.ex fun x=>r=x.den (fun _=>0)/\K (st.put dst x) dX
  | s::r=>match fI st.boxes (s::r) with
   | false=>False
   | true=>match m with
    | .none|.gf=>False
    | .give=>match dst,FB T ty,jQ xs,nH st.boxes (s::r) with
     | some d,some ety,[],[]=>match iP st Option.none d with
      | false=>False
      | true=>∀V':View,V.Le V'->ki (s::r) (fun _=>0) fun β=>gg st.boxes β V' (s::r)
       (ab P f (aQ β xs) (V'.bf ((s::r).map (c_ st.boxes β V'.w.heap.size))) (bV T true sh (s::r) Option.none d ety β st V' K))
     | some d,some ety,[m],[]=>match iP st (some m) d with
      | false=>False
      | true=>∀V':View,V.Le V'->ki (s::r) (fun _=>0) fun β=>gg st.boxes β V' (s::r)
       (ab P f (aQ β xs) (V'.bf ((s::r).map (c_ st.boxes β V'.w.heap.size))) (bV T true sh (s::r) (some m) d ety β st V' K))
     | _,_,_,_=>False
    | .bf=>match nH st.boxes (s::r) with
     | []=>∀V':View,V.Le V'->ki (s::r) (fun _=>0) fun β=>gg st.boxes β V' (s::r)
      (ab P f (aQ β xs) (V'.bf ((s::r).map (c_ st.boxes β V'.w.heap.size))) fun r' dX=>sh.ex fun x=>r'=x.den (fun _=>0)/\dD T Option.none β dX (s::r) st fun st'=>K (st'.put dst x) dX.shut)
     | [m]=>match dst,ja st.boxes m with
      | some d,some ety=>match iP st (some m) d with
       | false=>False
       | true=>∀V':View,V.Le V'->ki (s::r) (fun _=>0) fun β=>gg st.boxes β V' (s::r)
        (ab P f (aQ β xs) (V'.bf ((s::r).map (c_ st.boxes β V'.w.heap.size))) (bV T false sh (s::r) (some m) d ety β st V' K))
      | _,_=>False
     | _=>False
    | .rel=>match (s::r).all fun t=>Nat.blt t 100000 with
     | false=>False
     | true=>∀V':View,V.Le V'->ki (s::r) (fun _=>0) fun β=>uL st.boxes β V' (s::r)
      (ab P f (aQ β xs) V' fun r' dX=>sh.ex fun x=>r'=x.den (fun _=>0)/\∀J:C->Value,K ((st.rel (s::r) β J).put dst x) dX)
def j9 (bx:Nat->Option aO):List SV->Option (List Value×Nat×List SV)
 | []=>none
 | x::r=>match x with
  | .c (.iX s n c)=>match bx s with
   | some ⟨.aT vs,_⟩=>some (vs,c,.c (.v (.slice none n c))::r)
   | _=>none
  | x=>match j9 bx r with
   | some (vs,c,r')=>some (vs,c,x::r')
   | none=>none
def iU (P:Program)(T:cF)(m:CM)(f:FuncId)(xs:List SV)(ty:TypeId)(dst:Option Nat)(st:St)(V:View)(K:St->View->Prop):Prop:=
 match m with
 | .bf=>match j9 st.boxes xs with
  | some (vs,c,xs')=>(vs=[]->c=0/\ew P T .bf f xs' ty dst st V K)/\(vs≠[]->ew P T .bf f xs ty dst st V K)
  | none=>ew P T .bf f xs ty dst st V K
 | m=>ew P T m f xs ty dst st V K
def rR (ss:List Nat):List SV:=ss.map fun s=>.c (.ptr s 0)
inductive Hint where
 | free|own (l:List Nat)
def fX (op:Op):List Operand:=
 match op with
 | .load _ a=>[a]
 | .store _ a _=>[a]
 | .call ⟨.value f,args,_⟩=>args.toList++[f]
 | .call ⟨.builtin .append,args,_⟩=>args.toList
 | _=>[]
def dN (bx:Nat->Option aO)(op:Op)(l:List Nat):List Nat:=
 match op with
 | .call _=>reach bx 3 (dedup l)
 | _=>l
def B6 (P:Program)(t:TypeId)(name:String):Option FuncId:=
 match P.info? t,P.underlying t with
 | some i,some d=>match i.methods.find? (fun m=>m.name==name) with
  | some m=>match m.path.toList,m.func,d with
   | [],some (f,false),.struct _=>some f
   | _,_,_=>none
  | none=>none
 | _,_=>none
def cC (P:Program)(T:cF)(m:CM)(o:Oper)(st:St)(V:View)(K:St->View->Prop):Prop:=
 match o.op with
 | .call ⟨.value Hj,args,_⟩=>match bI st.aU args.toList with
  | some xs=>match st.aU Hj with
   | some (.c (.zz f ss))=>iU P T m f (xs++rR ss) o.type o.dst st V K
   | _=>False
  | none=>False
 | .call ⟨.invoke recv name,args,_⟩=>match bI st.aU args.toList with
  | some xs=>match st.aU recv with
   | some (.c (.w (.iface t v)))=>match B6 P t name with
    | some f=>iU P T m f (.c (.w v)::xs) o.type o.dst st V K
    | none=>False
   | _=>False
  | none=>False
 | op=>qo (aH T st.aU st.boxes op) o.dst st V K
def ck (P:Program)(T:cF)(m:CM)(h:Hint)(o:Oper)(st:St)(V:View)(K:St->View->Prop):Prop:=
 match h with
 | .free=>cC P T m o st V K
 | .own l=>match bI st.aU (fX o.op) with
  | some xs=>match G5 (dN st.boxes o.op (xs.flatMap SV.ids)) l with
   | true=>cC P T m o st V K
   | false=>False
  | none=>False
def hU:SV:=.mV []
def n_ (P:Program)(T:cF)(m:CM)(h:Hint)(ops:Array Oper)(o:Oper)(st:St)(V:View)(K:St->View->Prop):Prop:=
 match o.guard with
 | none=>ck P T m h o st V K
 | some (j,b)=>match (ops[j]?).bind (·.dst) with
  | none=>False
  | some g=>match st.aq g with
   | some (.c .tt)=>match b with
    | true=>ck P T m h o st V K
    | false=>K (st.put o.dst hU) V
   | some (.c .ff)=>match b with
    | true=>K (st.put o.dst hU) V
    | false=>ck P T m h o st V K
   | some (.c (.v (.bool c)))=>match b with
    | true=>(c=true->ck P T m h o (st.put (some g) (.c .tt)) V K)/\(c=false->K ((st.put (some g) (.c .ff)).put o.dst hU) V)
    | false=>(c=true->K ((st.put (some g) (.c .tt)).put o.dst hU) V)/\(c=false->ck P T m h o (st.put (some g) (.c .ff)) V K)
   | some (.mV _)=>K (st.put o.dst hU) V
   | _=>False
inductive NT where
 | pure|load|store|alloc|call|ji|odd|gf|app|give
def aW (LF RF:List Nat):Op->NT
 | .move _|.assign _|.pick ..| .build ..| .nilCheck _|.binOp ..| .unOp ..| .convert ..| .makeFunc ..| .slice ..| .fieldAddr ..| .field ..| .indexAddr ..| .extract ..| .index ..| .makeInterface ..=>.pure
 | .load ..=>.load
 | .store ..=>.store
 | .alloc _|.box ..| .buildSlice ..| .makeSlice ..=>.alloc
 | .call ⟨.builtin .len,_,_⟩|.call ⟨.builtin .cap,_,_⟩=>.pure
 | .call ⟨.builtin .append,_,_⟩=>.app
 | .call ⟨.value (.func f),_,_⟩=>match dS f LF with
  | true=>match dS (f+1000000) LF with
   | true=>.give
   | false=>.ji
  | false=>match dS f RF with
   | true=>.odd
   | false=>match dS (f+1000000) RF with
    | true=>.gf
    | false=>.call
 | .call ⟨.value _,_,_⟩=>.ji
 | .call ⟨.invoke _ _,_,_⟩=>.call
 | _=>.odd
def fY (op:Op):List Nat:=op.operands.toList.filterMap fun|.tmp t=>some t|_=>none
def dk (ops:Array Oper)(o:Oper):List Nat:=
 match o.guard with
 | none=>[]
 | some (j,_)=>match (ops[j]?).bind (·.dst) with
  | some g=>[g]
  | none=>[]
def dB (o:Oper):List Nat:=match o.dst with|some d=>[d]|none=>[]
def nP (c:NT)(h:Hint)(d:List Nat):Option (List Nat×List Nat):=
 match c,h with
 | .pure,.free=>some ([],[])
 | .call,.free=>some ([],[])
 | .alloc,.free=>some (d,d)
 | .load,.own l=>some (l,[])
 | .store,.own l=>some (l,l)
 | .ji,.own l=>some (l,l++d++d.map (·+ 200000))
 | .app,.own l=>some (l,l++d++d.map (·+ 200000))
 | .give,.own l=>some (l,l++d++d.map (·+ 200000))
 | _,_=>none
def kL:NT->Bool
 | .pure|.load|.store|.alloc=>true
 | _=>false
def indep (LF RF:List Nat)(ops:Array Oper)(h1 h2:Hint)(o1 o2:Oper):Bool:=
 kL (aW LF RF o1.op) &&
 rW (dB o1) (fY o2.op++dk ops o2++dB o2)&&rW (dB o2) (fY o1.op++dk ops o1) &&
 rW (dk ops o1) (fY o2.op)&&rW (dk ops o2) (fY o1.op) &&
 match nP (aW LF RF o1.op) h1 (dB o1),nP (aW LF RF o2.op) h2 (dB o2) with
 | some (r1,w1),some (r2,w2)=>rW w1 r2&&rW w2 r1&&rW w1 w2
 | _,_=>false
def Ll (ops:List Oper)(t:Nat):Option Oper:=ops.find? fun o=>match o.dst with|some d=>Nat.beq d t|none=>false
def tv (st:St)(ops:List Oper):Nat->Operand->List Nat
 | 0,_=>[]
 | n+1,.tmp t=>match Ll ops t with
  | some o=>match o.op with
   | .alloc _|.box ..| .buildSlice ..| .makeSlice ..=>[t]
   | .call _=>[t,t+200000]
   | .assign x=>tv st ops n x++match st.aq t with
    | some x=>x.ids
    | none=>[]
   | .load _ a=>(tv st ops n a).flatMap (jx st.boxes)
   | op=>op.operands.toList.flatMap (tv st ops n)
  | none=>match st.aq t with
   | some x=>x.ids
   | none=>[]
 | _,_=>[]
def FH (LF RF:List Nat)(st:St)(ops:List Oper)(o:Oper):Hint:=
 match aW LF RF o.op with
 | .load|.store=>.own (dedup ((fX o.op).flatMap (tv st ops 10)))
 | .ji|.app|.give=>.own (reach st.boxes 3 (dedup ((fX o.op).flatMap (tv st ops 10))))
 | _=>.free
def DP (ops:List Oper):List Nat:=
 ops.foldl (fun acc o=>acc++[o.after.toList.foldl (fun s e=>cond (Region.binds .any e) (Nat.lor (Nat.lor (Nat.shiftLeft 1 e.on) (acc.getD e.on 0)) s) s) 0]) []
def Jt (m i:Nat):Bool:=Nat.beq (Nat.land (Nat.shiftRight m i) 1) 1
def HT (LF RF:List Nat)(o:Oper):Bool:=match aW LF RF o.op with|.call|.ji|.odd|.gf|.app|.give=>true|_=>false
def Cn (ops:Array Oper)(done:List Nat)(i:Nat):Bool:=
 match ops[i]? with
 | some o=>!(dS i done)&&o.after.toList.all fun e=>!(Region.binds .any e)||dS e.on done
 | none=>false
def ya (LF RF:List Nat)(ops:Array Oper):Nat->List Nat->List Nat
 | 0,_=>[]
 | n+1,done=>
  let rs:=(List.range ops.size).filter (Cn ops done)
  match rs.find? (fun i=>match ops[i]? with|some o=>!(HT LF RF o)|none=>false) with
  | some i=>i::ya LF RF ops n (i::done)
  | none=>match rs with
   | i::_=>i::ya LF RF ops n (i::done)
   | []=>[]
def mB (LF RF:List Nat)(ops:Array Oper):List Nat:=ya LF RF ops ops.size []
def qY (LF RF:List Nat)(ops:Array Oper)(hs:List Hint)(an:List Nat):List Nat->Bool
 | []=>true
 | i::r=>(r.all fun j=>Jt (an.getD j 0) i||match ops[i]?,ops[j]? with|some a,some b=>indep LF RF ops (hs.getD i .free) (hs.getD j .free) a b|_,_=>false)&&qY LF RF ops hs an r
def nL (ops:Array Oper):List Nat->List Nat->Bool
 | _,[]=>true
 | done,i::r=>Cn ops done i&&nL ops (i::done) r
def Dr (LF RF:List Nat)(ops:Array Oper)(hs:List Hint)(l:List Nat):Bool:=
 Nat.beq l.length ops.size&&((List.range ops.size).all fun i=>dS i l)&&nL ops [] l&&qY LF RF ops hs (DP ops.toList) l
def Ha (P:Program)(T:cF)(m:Nat->CM)(hint:Nat->Hint)(ops:Array Oper):List Nat->St->View->(St->View->Prop)->Prop
 | [],st,V,K=>K st V
 | i::r,st,V,K=>match ops[i]? with
  | some o=>n_ P T (m i) (hint i) ops o st V fun st' V'=>Ha P T m hint ops r st' V' K
  | none=>False
def iO (LF RF:List Nat)(ops:Array Oper)(i:Nat):CM:=
 match ops[i]? with
 | some o=>match aW LF RF o.op with
  | .ji=>.bf
  | .odd=>.rel
  | .gf=>.gf
  | .give=>.give
  | _=>.none
 | Option.none=>.none
def Mg (LF RF:List Nat)(ops:Array Oper)(i:Nat):CM:=
 match ops[i]? with
 | some o=>match aW LF RF o.op with
  | .ji=>.bf
  | .gf=>.gf
  | .give=>.give
  | _=>.rel
 | Option.none=>.none
structure Tm where
 τ:Type
 gh:Bool:=false
 O9:List Nat
 LR:List Nat
 aq:τ->List (Nat×SV)
 boxes:τ->List (Nat×aO)
structure Jd where
 τ:Type
 aq:τ->List (Nat×SV)
 boxes:τ->List (Nat×aO)
def Dh {α:Type}(f:Nat->Option α):List Nat->List (Nat×α)
 | []=>[]
 | t::r=>match f t with
  | some x=>(t,x)::Dh f r
  | none=>Dh f r
def Tm.at (A:Tm)(st:St):Jd:=⟨A.τ,fun x=>Dh st.aq A.O9++A.aq x,fun x=>Dh st.boxes A.LR++A.boxes x⟩
def ml (ρ:List (Nat×Nat))(s s':Nat):Bool:=
 match ax ρ s' with
 | some t=>Nat.beq s t
 | none=>Nat.beq s s'
def wg (ρ:List (Nat×Nat)):List Nat->List Nat->Bool
 | [],[]=>true
 | s::r,s'::r'=>ml ρ s s'&&wg ρ r r'
 | _,_=>false
def Nt (ρ:List (Nat×Nat)):C->C->List Prop
 | .v (.int k a),.v (.int k' b)=>cond (sG k k') [a=b] [False]
 | .v (.bool a),.v (.bool b)=>[a=b]
 | .tt,.v (.bool b)=>[true=b]
 | .ff,.v (.bool b)=>[false=b]
 | .v (.slice a n c),.v (.slice a' n' c')=>[a=a',n=n',c=c']
 | .v (.slice a n c),.iX _ n' c'=>[a=none,n=n',c=c',c=0]
 | .v (.pointer p),.v (.pointer q)=>[p=q]
 | .v x,.v y=>[x=y]
 | .w x,.w y=>[x=y]
 | .w x,.v y=>[x=y]
 | .v x,.w y=>[x=y]
 | .tt,.tt=>[]
 | .ff,.ff=>[]
 | .ptr s o,.ptr s' o'=>cond (ml ρ s s') [o=o'] [False]
 | .kr s o n c,.kr s' o' n' c'=>cond (ml ρ s s') [o=o',n=n',c=c'] [False]
 | .kr s o n c,.iX s' n' c'=>cond (ml ρ s s') [o=0,n=n',c=c',c≠0] [False]
 | .iX s n c,.iX s' n' c'=>cond (ml ρ s s') [n=n',c=c'] [False]
 | .zz f ss,.zz g ts=>cond (wg ρ ss ts) [f=g] [False]
 | _,_=>[False]
def BP (ρ:List (Nat×Nat)):List C->List C->List Prop
 | [],[]=>[]
 | a::r,b::s=>Nt ρ a b++BP ρ r s
 | _,_=>[False]
def JB (ρ:List (Nat×Nat)):SV->SV->List Prop
 | .c a,.c b=>Nt ρ a b
 | .agg l,.agg m=>BP ρ l m
 | _,_=>[False]
def SV.plain:SV->Bool
 | .mV _=>false
 | _=>true
def Fv (ρ:List (Nat×Nat))(a b:aO):List Prop:=
 match a.cs,b.cs with
 | .lit l,.lit m=>cond (Nat.beq a.ty b.ty) (BP ρ l m) [False]
 | .row l,.row m=>cond (Nat.beq a.ty b.ty) [l=m] [False]
 | .aT l,.aT m=>cond (Nat.beq a.ty b.ty) [l=m] [False]
 | .row l,.aT m=>cond (Nat.beq a.ty b.ty) [l=m] [False]
 | .lit l,.aT m=>match js l with
  | some ws=>cond (Nat.beq a.ty b.ty) [ws=m] [False]
  | none=>[False]
 | _,_=>[False]
def ML:C->C->List (Nat×Nat)
 | .ptr s _,.ptr s' _=>[(s',s)]
 | .kr s _ _ _,.kr s' _ _ _=>[(s',s)]
 | .kr s _ _ _,.iX s' _ _=>[(s',s)]
 | .iX s _ _,.iX s' _ _=>[(s',s)]
 | .zz _ ss,.zz _ ts=>ts.zip ss
 | _,_=>[]
def GP:List C->List C->List (Nat×Nat)
 | a::r,b::s=>ML a b++GP r s
 | _,_=>[]
def MM:SV->SV->List (Nat×Nat)
 | .c a,.c b=>ML a b
 | .agg l,.agg m=>GP l m
 | _,_=>[]
def Kk (st:St):List (Nat×SV)->List (Nat×Nat)
 | []=>[]
 | (t,x)::r=>match st.aq t with
  | some y=>MM y x++Kk st r
  | none=>Kk st r
def ED (st:St)(ρ:List (Nat×Nat)):List (Nat×aO)->List (Nat×Nat)
 | []=>[]
 | (t,x)::r=>match ax ρ t with
  | some s=>match st.boxes s with
   | some y=>(match y.cs,x.cs with|.lit l,.lit m=>GP l m|_,_=>[])++ED st ρ r
   | none=>ED st ρ r
  | none=>ED st ρ r
def GO (st:St)(ss:List (Nat×SV))(bs:List (Nat×aO)):List (Nat×Nat):=
 let ρ1:=Kk st ss
 let ρ2:=ρ1++ED st ρ1 bs
 let ρ3:=ρ2++ED st ρ2 bs
 ρ3++ED st ρ3 bs
def xY (ρ:List (Nat×Nat))(t:Nat):Nat:=
 match ax ρ t with
 | some s=>s
 | none=>t
def wN (ρ:List (Nat×Nat)):List Nat->Bool
 | []=>true
 | t::r=>(Nat.blt t 100000==Nat.blt (xY ρ t) 100000)&&(Nat.blt t 100000||Nat.ble 200000 t||Nat.beq (xY ρ t) t)&&(r.all fun u=>!(Nat.beq (xY ρ t) (xY ρ u)))&&wN ρ r
def kN (ρ:List (Nat×Nat)):List (Nat×aO)->List Nat
 | []=>[]
 | (t,x)::r=>match x.cs with
  | .aT _=>match ax ρ t with
   | some _=>t::kN ρ r
   | none=>kN ρ r
  | _=>t::kN ρ r
def HE (ρ:List (Nat×Nat))(st:St):List (Nat×SV)->List Prop
 | []=>[]
 | (t,x)::r=>match st.aq t with
  | some y=>JB ρ y x++HE ρ st r
  | none=>[False]
def Ea (ρ:List (Nat×Nat))(st:St):List (Nat×aO)->List Prop
 | []=>[]
 | (t,x)::r=>match x.cs,ax ρ t with
  | .aT l,none=>(l=[])::Ea ρ st r
  | _,_=>match st.boxes (xY ρ t) with
   | some y=>Fv ρ y x++Ea ρ st r
   | none=>[False]
def Lk (ρ:List (Nat×Nat))(bs:List (Nat×aO)):List Prop:=cond (wN ρ (kN ρ bs)) [] [False]
def kW (ss:List (Nat×SV))(bs:List (Nat×aO)):Bool:=
 let l:=bs.map (·.1)
 (ss.all fun x=>x.2.ids.all fun s=>dS s l)&&(bs.all fun x=>x.2.cs.ids.all fun s=>dS s l)
def Jd.st (A:Jd)(x:A.τ):St:=⟨ax (A.aq x),ax (A.boxes x)⟩
def Jo:List Prop->Prop
 | []=>True
 | [p]=>p
 | p::r=>p/\Jo r
def Jd.fits (A:Jd)(st:St)(x:A.τ)(k:Prop):Prop:=
 let ρ:=GO st (A.aq x) (A.boxes x)
 Jo (HE ρ st (A.aq x)++Ea ρ st (A.boxes x)++Lk ρ (A.boxes x))/\k
def keyOf:Code->Nat
 | .region id _ _=>id
 | .seq a _=>keyOf a
 | .cond _ a b=>match keyOf a with
  | 1000000=>keyOf b
  | n=>n
 | .block _ a=>keyOf a
 | .loop a=>keyOf a
 | .scope a=>keyOf a
 | _=>1000000
abbrev yP:=List (Nat×Tm)
def mY:yP->Nat->Option Tm
 | [],_=>none
 | (s,x)::r,t=>cond (Nat.beq t s) (some x) (mY r t)
def I8 (RF:List Nat)(id:Nat):List Nat:=RF.filterMap fun x=>cond (Nat.beq (x / 100000) (100+id)) (some (x%100000)) none
def DI (l:List Nat)(st:St)(V:View)(K:St->View->Prop):Prop:=
 match l with
 | []=>K st V
 | s::r=>match fI st.boxes (s::r)&&(s::r).all fun t=>Nat.blt t 100000 with
  | false=>False
  | true=>∀V':View,V.Le V'->ki (s::r) (fun _=>0) fun β=>uL st.boxes β V' (s::r) (∀J:C->Value,K (st.rel (s::r) β J) V')
def AP (P:Program)(T:cF)(LF RF:List Nat)(ops:Array Oper)(draw:Bool)(st:St)(V:View)(K:St->View->Prop):Prop:=
 match draw with
 | false=>Ha P T (Mg LF RF ops) (fun _=>.free) ops (List.range ops.size) st V K
 | true=>let hs:=ops.toList.map (FH LF RF st ops.toList)
  match Dr LF RF ops hs (mB LF RF ops) with
  | true=>Ha P T (iO LF RF ops) (fun i=>hs.getD i .free) ops (mB LF RF ops) st V K
  | false=>False
def vc (P:Program)(T:cF)(LF RF:List Nat)(L J:yP):Code->St->View->(Exit->St->View->Prop)->Prop
 | .skip,st,V,K=>K .normal st V
 | .region id ops draw,st,V,K=>match mY J (600000+id) with
  | none=>DI (I8 RF id) st V fun st' V'=>AP P T LF RF ops draw st' V' (K .normal)
  | some A=>∃I:A.τ->View->Prop,DI (I8 RF id) st V (fun st' V'=>AP P T LF RF ops draw st' V' fun Kq dX=>∃x,(A.at st).fits Kq x (I x dX)) /\
   ∀x V',V.Le V'->I x V'->(kW ((A.at st).aq x) ((A.at st).boxes x)=true/\K .normal ((A.at st).st x) V')
 | .seq a b,st,V,K=>vc P T LF RF L J a st V fun e st' V'=>match e with
  | .normal=>vc P T LF RF L J b st' V' K
  | e=>K e st' V'
 | .cond c a b,st,V,K=>match mY J (keyOf (.cond c a b)) with
  | none=>match st.aU c with
   | some (.c .tt)=>vc P T LF RF L J a st V K
   | some (.c .ff)=>vc P T LF RF L J b st V K
   | some (.c (.v (.bool t)))=>(t=true->vc P T LF RF L J a st V K)/\(t=false->vc P T LF RF L J b st V K)
   | _=>False
  | some A=>match st.aU c with
   | some (.c .tt)=>vc P T LF RF L J a st V K
   | some (.c .ff)=>vc P T LF RF L J b st V K
   | some (.c (.v (.bool t)))=>∃I:A.τ->View->Prop,
    ((t=true->vc P T LF RF L J a st V fun e st' V'=>match e with
     | .normal=>∃x,(A.at st).fits st' x (I x V')
     | e=>K e st' V') /\
      (t=false->vc P T LF RF L J b st V fun e st' V'=>match e with
     | .normal=>∃x,(A.at st).fits st' x (I x V')
     | e=>K e st' V')) /\
    ∀x V',V.Le V'->I x V'->(kW ((A.at st).aq x) ((A.at st).boxes x)=true/\K .normal ((A.at st).st x) V')
   | _=>False
 | .block id a,st,V,K=>match mY J (500000+id) with
  | none=>vc P T LF RF L J a st V fun e st' V'=>match e with
   | .exit i=>cond (Nat.beq i id) (K .normal st' V') (K (.exit i) st' V')
   | e=>K e st' V'
  | some A=>∃I:A.τ->View->Prop,vc P T LF RF L J a st V (fun e st' V'=>match e with
   | .exit i=>cond (Nat.beq i id) (∃x,(A.at st).fits st' x (I x V')) (K (.exit i) st' V')
   | .normal=>∃x,(A.at st).fits st' x (I x V')
   | e=>K e st' V')/\∀x V',V.Le V'->I x V'->(kW ((A.at st).aq x) ((A.at st).boxes x)=true/\K .normal ((A.at st).st x) V')
 | .loop a,st,V,K=>match mY L (keyOf a) with
  | none=>False
  | some A=>match A.gh with
   | false=>∃(I:A.τ->View->Prop)(m:A.τ->Nat),(∃x,(A.at st).fits st x (I x V))/\∀x V',V.Le V'->I x V'->(kW ((A.at st).aq x) ((A.at st).boxes x)=true /\
    vc P T LF RF L J a ((A.at st).st x) V' fun e st' dX=>match e with
     | .normal=>∃y,m y<m x/\(A.at st).fits st' y (I y dX)
     | e=>K e st' dX)
   | true=>∃I:A.τ->Nat->View->Prop,(∃x k,(A.at st).fits st x (I x k V))/\∀x k V',V.Le V'->I x k V'->(kW ((A.at st).aq x) ((A.at st).boxes x)=true /\
    vc P T LF RF L J a ((A.at st).st x) V' fun e st' dX=>match e with
     | .normal=>∃y k',k'<k/\(A.at st).fits st' y (I y k' dX)
     | e=>K e st' dX)
 | .exit id,st,V,K=>K (.exit id) st V
 | .ret,st,V,K=>K .ret st V
 | .scope a,st,V,K=>vc P T LF RF L J a st V fun e st' V'=>match e with
  | .goto _=>False
  | e=>K e st' V'
 | .label _,st,V,K=>K .normal st V
 | _,_,_,_=>False
def jZ (T:cF)(st:St):List ResultVar->Option (List SV)
 | []=>some []
 | .tmp t::r=>match st.aq t,jZ T st r with
  | some x,some l=>some (x::l)
  | _,_=>none
 | .cell a t::r=>match st.aq a,ax T t,jZ T st r with
  | some (.c (.ptr s o)),some i,some l=>match g_ st.boxes i (.c (.ptr s o)) with
   | .ret _ x=>some (x::l)
   | _=>none
  | _,_,_=>none
def minus (l m:List Nat):List Nat:=l.filter fun x=>!(dS x m)
def Fc (bx:Nat->Option aO)(β:Nat->Nat)(V:View):List Nat->Prop->Prop
 | [],k=>k
 | s::r,k=>match bx s with
  | some ⟨.aT _,_⟩=>False
  | some b=>V.w.heap[β s]?=some (b.obj β)->Fc bx β V r k
  | none=>False
def ig:List (Nat×aO)->List Nat
 | []=>[]
 | (s,b)::r=>match b.cs with
  | .aT _=>ig r
  | _=>s::ig r
def F8 (bs:List (Nat×aO))(β0:Nat->Nat)(b:Nat)(k:Prop):Prop:=
 match bs with
 | []=>k
 | (m,x)::r=>match x.cs with
  | .aT vs=>(vs≠[]/\b=β0 m)\/F8 r β0 b k
  | _=>F8 r β0 b k
def jY (β:Nat->Nat):List SV->Value
 | [x]=>x.den β
 | l=>.tuple (l.map (SV.den β)).toArray
def pZ (T:cF)(bx:Nat->Option aO)(s:Nat):Bool:=
 cond (Nat.ble 100000 s) true (match bx s with|some ⟨.row _,ty⟩|some ⟨.aT _,ty⟩=>Nat.ble 2 (T.filter fun x=>Nat.beq x.1 ty).length|_=>false)
def Dt (T:cF)(rs:List ResultVar)(bs:List (Nat×aO))(β0:Nat->Nat)(n0:Nat)(R:Value->View->Prop)(st:St)(V:View):Prop:=
 match jZ T st rs with
 | none=>False
 | some xs=>let F:=ig bs
  let L:=reach st.boxes 3 (dedup (xs.flatMap SV.ids++F))
  match fI st.boxes L with
  | false=>False
  | true=>match (minus L F).filter (pZ T st.boxes) with
   | []=>∀V':View,V.Le V'->ki (minus L F) β0 fun β=>Fc st.boxes β V' F (uL st.boxes β V' (minus L F) (R (jY β xs) V'))
   | [s]=>match st.boxes s with
    | some b=>∀V':View,ki (minus L F) β0 fun β=>V.Le (V'.iB (Ox b) (β s))->Fc st.boxes β V' F (nB (ET b) (V'.w.heap[β s]?=some (b.obj β)) ->
      nB (ET b) (n0<=β s\/F8 bs β0 (β s) False)->uL st.boxes β V' ((minus L F).filter (!Nat.beq s ·)) (R (jY β xs) V'))
    | none=>False
   | _=>False
def Qb (P:Program)(T:cF)(LF RF:List Nat)(L J:yP)(code:Code)(rs:List ResultVar)(ss:List (Nat×SV))(bs:List (Nat×aO))(β0:Nat->Nat)(V:View)(R:Value->View->Prop):Prop:=
 vc P T LF RF L J code ⟨ax ss,ax bs⟩ V fun e st V'=>match e with
  | .normal=>Dt T rs bs β0 V.w.heap.size R st V'
  | .ret=>Dt T rs bs β0 V.w.heap.size R st V'
  | _=>False
def fU (n:Nat):Code->Bool
 | .region _ ops _=>ops.toList.all fun o=>match o.dst with|some d=>Nat.blt d n|none=>true
 | .seq a b=>fU n a&&fU n b
 | .cond _ a b=>fU n a&&fU n b
 | .block _ a=>fU n a
 | .loop a=>fU n a
 | .scope a=>fU n a
 | _=>true
def lE:Nat->List (Nat×SV)->Bool
 | _,[]=>true
 | i,(j,x)::r=>Nat.beq i j&&x.plain&&lE (i+1) r
def yl (P:Program)(T:cF)(LF RF:List Nat)(L J:yP)(fn:Func)(ss:List (Nat×SV))(bs:List (Nat×aO))(β0:Nat->Nat)(V:View)(R:Value->View->Prop):Prop:=
 match fn.body with
 | some code=>match fU fn.ntmps code&&lE 0 ss&&Nat.ble ss.length fn.ntmps&&Nat.ble fn.ntmps 100000&&(bs.all fun b=>Nat.ble 100000 b.1&&Nat.blt b.1 200000)&&kW ss bs with
  | true=>Qb P T LF RF L J code fn.results.toList ss bs β0 V R
  | false=>False
 | none=>False
theorem View.Le.refl (V:View):V.Le V:=fun _ _ h=>h
theorem View.Le.trans {V V' dX:View}(h:V.Le V')(k:V'.Le dX):V.Le dX:=fun b o x=>k b o (h b o x)
theorem View.Le.at {V V':View}(h:V.Le V'){p:Addr}{v:Value}(k:V.at p v):V'.at p v:=by
 obtain ⟨hH,hc⟩:=k
 unfold World.cell? at hc
 split at hc
 ·rename_i hb
  obtain ⟨h1,h2⟩:=h p.block _ ⟨hH,hb⟩
  refine ⟨h1,?_⟩
  unfold World.cell?
  rw [h2]
  exact hc
 ·cases hc
theorem dW.refl (X:Nat->Prop)(w:World):dW X w w:=⟨Nat.le_refl _,fun _ _ _=>rfl,rfl,rfl,rfl⟩
theorem dW.trans {X:Nat->Prop}{a b c:World}(h:dW X a b)(k:dW X b c):dW X a c:=
 ⟨Nat.le_trans h.size k.size,fun i hi hx=>(k.bq i (Nat.lt_of_lt_of_le hi h.size) hx).trans (h.bq i hi hx),k.os.trans h.os,k.tape.trans h.tape,k.out.trans h.out⟩
theorem dW.mono {X Y:Nat->Prop}{a b:World}(h:dW X a b)(hxy:∀i,X i->Y i):dW Y a b:=
 ⟨h.size,fun i hi hy=>h.bq i hi fun hx=>hy (hxy i hx),h.os,h.tape,h.out⟩
theorem View.L9 (V:View)(w':World)(hx:dW V.X V.w w'):V.Le (V.to w' hx.size):=by
 rintro b o ⟨hH,hb⟩
 refine ⟨hH,?_⟩
 have hlt:b<V.w.heap.size:=by
  rcases Nat.lt_or_ge b V.w.heap.size with h|h
  ·exact h
  ·rw [Array.getElem?_eq_none h] at hb;cases hb
 show w'.heap[b]?=some o
 rw [hx.bq b hlt fun hX=>hH (V.hX b hX)]
 exact hb
theorem ab.mono {P:Program}{f:FuncId}{args:Array Value}{V:View}{R R':Value->View->Prop}(h:ab P f args V R)
  (hR:∀r V',V.Le V'->R r V'->R' r V'):ab P f args V R':=
 ⟨h.1,h.2.mono fun _ w' ⟨r,he,hx,hr⟩=>⟨r,he,hx,hR r _ (V.L9 w' hx) hr⟩⟩
structure Bo where
 ids:List Nat
 B:Nat->Prop
section
variable (n:Nat) (V0:View) (bo:Bo) (β0:Nat->Nat)
structure Mod (st:St) (β:Nat->Nat) (a:Act) (w:World) (V:View):Prop where
 defers:a.defers=[]
 size:a.tmps.size=n
 aq:∀t x,st.aq t=some x->a.tmps.getD t undef=x.den β
 vx:∀t x,st.aq t=some x->∀s∈x.ids,∃b,st.boxes s=some b
 vv:∀s b,st.boxes s=some b->∀s'∈b.cs.ids,∃b',st.boxes s'=some b'
 boxes:∀s b,st.boxes s=some b->b.live->w.heap[β s]?=some (b.obj β)
 inj:∀s s' b b',st.boxes s=some b->b.live->st.boxes s'=some b'->b'.live->β s=β s'->s=s'
 mW:∀b o,V.bq b o->w.heap[b]?=some o/\¬V0.H b
 qV:∀s b,st.boxes s=some b->b.live->∀o,¬V.bq (β s) o
 ext:dW V0.X V0.w w
 own:∀s b,st.boxes s=some b->b.live->V0.w.heap.size<=β s\/(100000<=s/\bo.B (β s))
 kj:∀s∈bo.ids,(100000<=s/\s<200000)/\β s=β0 s
 i_:∀b,bo.B b->V0.X b
 small:n<=100000
end
theorem cx {cs:List C}{ty:TypeId}:aO.live ⟨.lit cs,ty⟩:=fun _ h=>nomatch h
theorem bS {vs:List Value}{ty:TypeId}:aO.live ⟨.row vs,ty⟩:=fun _ h=>nomatch h
theorem eL {vs:List Value}{ty:TypeId}(h:vs≠[]):aO.live ⟨.aT vs,ty⟩:=fun _ e=>by cases e;exact h
theorem fk {ty:TypeId}:¬aO.live ⟨.aT [],ty⟩:=fun h=>h [] rfl rfl
theorem eo {b:aO}{k:Prop}:nB (ET b) k↔(b.live->k):=by
 obtain ⟨cs,ty⟩:=b
 cases cs with
 | lit cs=>exact ⟨fun h _=>h,fun h=>h cx⟩
 | row cs=>exact ⟨fun h _=>h,fun h=>h bS⟩
 | aT vs=>exact ⟨fun h l=>h (l vs rfl),fun h l=>h (eL l)⟩
theorem pP {l m:List Prop}{k:Prop}:nB (l++m) k↔nB l (nB m k):=by
 induction l with
 | nil=>exact Iff.rfl
 | cons p r ih=>exact ⟨fun h hp=>ih.1 (h hp),fun h hp=>ih.2 (h hp)⟩
theorem HH {b:aO}:Ox b↔b.live:=by
 obtain ⟨cs,ty⟩:=b
 cases cs with
 | lit cs=>exact ⟨fun _=>cx,fun _=>trivial⟩
 | row cs=>exact ⟨fun _=>bS,fun _=>trivial⟩
 | aT vs=>exact ⟨fun h=>eL h,fun l=>l vs rfl⟩
theorem C.bA {β β':Nat->Nat}{c:C}(h:∀s∈c.ids,β s=β' s):c.den β=c.den β':=by
 cases c with
 | v x=>rfl
 | w x=>rfl
 | tt=>rfl
 | ff=>rfl
 | ptr s o=>simp [C.den,h s (by simp [C.ids])]
 | kr s o n c=>simp [C.den,h s (by simp [C.ids])]
 | iX s n c=>simp [C.den,h s (by simp [C.ids])]
 | zz f ss=>
  have:(ss.map fun s=>Value.pointer (some ⟨β s,0,none⟩))=ss.map fun s=>Value.pointer (some ⟨β' s,0,none⟩):=
   List.map_congr_left fun s hs=>by rw [h s (by simpa [C.ids] using hs)]
  simp only [C.den,this]
theorem jM {β β':Nat->Nat}{cs:List C}(h:∀s∈cs.flatMap C.ids,β s=β' s):cs.map (C.den β)=cs.map (C.den β'):=
 List.map_congr_left fun c hc=>C.bA fun s hs=>h s (List.mem_flatMap.2 ⟨c,hc,hs⟩)
theorem uB {β β':Nat->Nat}{x:Bool×List C}(h:∀s∈x.2.flatMap C.ids,β s=β' s):gi β x=gi β' x:=by
 obtain ⟨b,cs⟩:=x
 cases b with
 | true=>simp only [gi];rw [jM h]
 | false=>
  match cs,h with
  | [],_=>rfl
  | [c],h=>simp only [gi];exact C.bA fun s hs=>h s (by simpa using hs)
  | _::_::_,_=>rfl
theorem SV.bA {β β':Nat->Nat}{x:SV}(h:∀s∈x.ids,β s=β' s):x.den β=x.den β':=by
 cases x with
 | c x=>exact C.bA h
 | agg cs=>simp only [SV.den];rw [jM h]
 | mV xs=>
  simp only [SV.den]
  congr 2
  exact List.map_congr_left fun x hx=>uB fun s hs=>h s (List.mem_flatMap.2 ⟨x,hx,hs⟩)
theorem Cells.bA {β β':Nat->Nat}{x:Cells}(h:∀s∈x.ids,β s=β' s):x.den β=x.den β':=by
 cases x with
 | lit cs=>exact jM h
 | row vs=>rfl
 | aT vs=>rfl
theorem aO.cM {β β':Nat->Nat}{x:aO}(h:∀s∈x.cs.ids,β s=β' s):x.obj β=x.obj β':=by
 simp only [aO.obj];rw [Cells.bA h]
variable {P:Program} {T:cF} {n:Nat} {V0:View} {bo:Bo} {β0:Nat->Nat} {st:St} {β:Nat->Nat} {a:Act} {w:World} {V:View}
theorem Mod.eval (h:Mod n V0 bo β0 st β a w V){x:Operand}{v:SV}(hx:st.aU x=some v):a.eval x=v.den β:=by
 cases x with
 | tmp t=>exact h.aq t v hx
 | const c=>
  simp only [St.aU,Option.some.injEq] at hx
  subst hx
  simp only [Act.eval]
  unfold SV.ofConst
  split
  ·rfl
  ·rfl
  ·rename_i cs
   simp only [SV.den]
   congr 1
   have:∀l:List Value,(l.map C.ofConst).map (C.den β)=l:=by
    intro l
    induction l with
    | nil=>rfl
    | cons y r ih=>
     simp only [List.map_cons,ih]
     congr 1
     unfold C.ofConst
     split<;>rfl
   rw [this]
  ·rfl
 | global g=>simp only [St.aU,Option.some.injEq] at hx;subst hx;rfl
 | func f=>simp only [St.aU,Option.some.injEq] at hx;subst hx;simp [Act.eval,SV.den,C.den]
theorem Mod.live (h:Mod n V0 bo β0 st β a w V){x:Operand}{v:SV}(hx:st.aU x=some v):∀s∈v.ids,∃b,st.boxes s=some b:=by
 cases x with
 | tmp t=>exact h.vx t v hx
 | const c=>
  simp only [St.aU,Option.some.injEq] at hx
  subst hx
  intro s hs
  exfalso
  have h1:∀y,(C.ofConst y).ids=[]:=by
   intro y
   unfold C.ofConst
   split<;>rfl
  unfold SV.ofConst at hs
  split at hs
  ·simp [SV.ids,C.ids] at hs
  ·simp [SV.ids,C.ids] at hs
  ·obtain ⟨c,hc,hs⟩:=List.mem_flatMap.1 hs
   obtain ⟨y,_,rfl⟩:=List.mem_map.1 hc
   rw [h1] at hs;cases hs
  ·simp [SV.ids,C.ids] at hs
 | global g=>simp only [St.aU,Option.some.injEq] at hx;subst hx;intro s hs;simp [SV.ids,C.ids] at hs
 | func f=>simp only [St.aU,Option.some.injEq] at hx;subst hx;intro s hs;simp [SV.ids,C.ids] at hs
theorem beq_eq {a b:Nat}:Nat.beq a b=true↔a=b:=by
 constructor
 ·exact Nat.eq_of_beq_eq_true
 ·intro h;subst h;exact Nat.beq_refl a
theorem cN (st:St)(d:Nat)(x:SV)(t:Nat):(st.put (some d) x).aq t=if t=d then some x else st.aq t:=by
 simp only [St.put]
 by_cases h:t=d
 ·subst h;simp [Nat.beq_refl]
 ·have:Nat.beq t d=false:=by
   cases hb:Nat.beq t d
   ·rfl
   ·exact absurd (beq_eq.1 hb) h
  simp [this,h]
theorem ai (st:St)(s:Nat)(b:aO)(t:Nat):(st.box s b).boxes t=if t=s then some b else st.boxes t:=by
 simp only [St.box]
 by_cases h:t=s
 ·subst h;simp [Nat.beq_refl]
 ·have:Nat.beq t s=false:=by
   cases hb:Nat.beq t s
   ·rfl
   ·exact absurd (beq_eq.1 hb) h
  simp [this,h]
theorem nw (l:Array Value)(d t:Nat)(v:Value)(hd:d<l.size):(l.setIfInBounds d v).getD t undef=if t=d then v else l.getD t undef:=by
 by_cases h:t=d
 ·subst h;simp [hd]
 ·simp [h,Ne.symm h]
theorem Mod.put (h:Mod n V0 bo β0 st β a w V){d:Nat}{x:SV}{v:Value}(hd:d<n)(hv:v=x.den β)(hl:∀s∈x.ids,∃b,st.boxes s=some b) :
  Mod n V0 bo β0 (st.put (some d) x) β (a.put (some d) v) w V where
 defers:=h.defers
 size:=by simp [Act.put,h.size]
 aq:=by
  intro t y hy
  rw [cN] at hy
  show (a.tmps.setIfInBounds d v).getD t undef=_
  rw [nw _ _ _ _ (by rw [h.size];exact hd)]
  split at hy
  ·rename_i e;rw [if_pos e];simp only [Option.some.injEq] at hy;rw [←hy];exact hv
  ·rename_i e;rw [if_neg e];exact h.aq t y hy
 vx:=by
  intro t y hy
  rw [cN] at hy
  split at hy
  ·simp only [Option.some.injEq] at hy;rw [←hy];exact hl
  ·exact h.vx t y hy
 vv:=h.vv
 boxes:=h.boxes
 inj:=h.inj
 mW:=h.mW
 qV:=h.qV
 ext:=h.ext
 own:=h.own
 kj:=h.kj
 i_:=h.i_
 small:=h.small
theorem Mod.Cf (h:Mod n V0 bo β0 st β a w V){d:Option Nat}{x:SV}{v:Value}(hd:∀k,d=some k->k<n)(hv:v=x.den β)(hl:∀s∈x.ids,∃b,st.boxes s=some b) :
  Mod n V0 bo β0 (st.put d x) β (a.put d v) w V:=by
 cases d with
 | none=>exact h
 | some d=>exact h.put (hd d rfl) hv hl
theorem Mod.drew (h:Mod n V0 bo β0 st β a w V):Mod n V0 bo β0 st β a { w with drawn:=w.drawn+1 } V:=
 ⟨h.defers,h.size,h.aq,h.vx,h.vv,h.boxes,h.inj,h.mW,h.qV,⟨h.ext.size,h.ext.bq,h.ext.os,h.ext.tape,h.ext.out⟩,h.own,h.kj,h.i_,h.small⟩
theorem az {w:World}{b:Nat}{o:Obj}(h:w.heap[b]?=some o):b<w.heap.size:=by
 rcases Nat.lt_or_ge b w.heap.size with h'|h'
 ·exact h'
 ·rw [Array.getElem?_eq_none h'] at h;cases h
theorem bK (w:World)(o:Obj){b:Nat}(h:b<w.heap.size):(w.alloc o).heap[b]?=w.heap[b]?:=by
 show (w.heap.push o)[b]?=_
 rw [Array.getElem?_push,if_neg (by omega)]
theorem heap_alloc_new (w:World)(o:Obj):(w.alloc o).heap[w.heap.size]?=some o:=by
 show (w.heap.push o)[w.heap.size]?=_
 rw [Array.getElem?_push,if_pos rfl]
theorem aN (β:Nat->Nat)(s b:Nat):dv β s b s=b:=by simp [dv,Nat.beq_refl]
theorem fm (β:Nat->Nat){s t:Nat}(b:Nat)(h:t≠s):dv β s b t=β t:=by
 have:Nat.beq t s=false:=by
  cases hb:Nat.beq t s
  ·rfl
  ·exact absurd (beq_eq.1 hb) h
 simp [dv,this]
theorem Mod.new (h:Mod n V0 bo β0 st β a w V){d:Nat}{b:aO}(hd:d<n)(hn:st.boxes d=none)(hl:∀s∈b.cs.ids,∃b',st.boxes s=some b') :
  Mod n V0 bo β0 (st.box d b) (dv β d w.heap.size) a (w.alloc (b.obj β)) V:=by
 have hne:∀s b',st.boxes s=some b'->s≠d:=fun s b' hs e=>by rw [e,hn] at hs;cases hs
 have hβ:∀s b',st.boxes s=some b'->dv β d w.heap.size s=β s:=fun s b' hs=>fm _ _ (hne s b' hs)
 have hlt:∀s b',st.boxes s=some b'->b'.live->β s<w.heap.size:=fun s b' hs l=>az (h.boxes s b' hs l)
 have hV:∀b' o,V.bq b' o->b'<w.heap.size:=fun b' o hb=>az (h.mW b' o hb).1
 refine ⟨h.defers,h.size,?_,?_,?_,?_,?_,?_,?_,?_,?_,?_,h.i_,?_⟩
 ·intro t x hx
  rw [h.aq t x hx]
  exact SV.bA fun s hs=>by obtain ⟨b',hb'⟩:=h.vx t x hx s hs;exact (hβ s b' hb').symm
 ·intro t x hx s hs
  obtain ⟨b',hb'⟩:=h.vx t x hx s hs
  exact ⟨b',by rw [ai,if_neg (hne s b' hb')];exact hb'⟩
 ·intro s b' hs s' hs'
  rw [ai] at hs
  have:∃b'',st.boxes s'=some b'':=by
   split at hs
   ·simp only [Option.some.injEq] at hs;rw [←hs] at hs';exact hl s' hs'
   ·exact h.vv s b' hs s' hs'
  obtain ⟨b'',jg⟩:=this
  exact ⟨b'',by rw [ai,if_neg (hne s' b'' jg)];exact jg⟩
 ·intro s b' hs l
  rw [ai] at hs
  split at hs
  ·rename_i e
   simp only [Option.some.injEq] at hs
   rw [e,aN,heap_alloc_new,←hs]
   congr 1
   exact aO.cM fun s' hs'=>by obtain ⟨b'',jg⟩:=hl s' hs';exact (hβ s' b'' jg).symm
  ·rw [hβ s b' hs,bK _ _ (hlt s b' hs l),h.boxes s b' hs l]
   congr 1
   exact aO.cM fun s' hs'=>by obtain ⟨b'',jg⟩:=h.vv s b' hs s' hs';exact (hβ s' b'' jg).symm
 ·intro s s' b1 b2 h1 l1 h2 l2 he
  rw [ai] at h1 h2
  split at h1<;>split at h2
  ·rename_i e1 e2;rw [e1,e2]
  ·rename_i e1 e2;rw [e1,aN,hβ s' b2 h2] at he;have:=hlt s' b2 h2 l2;omega
  ·rename_i e1 e2;rw [e2,aN,hβ s b1 h1] at he;have:=hlt s b1 h1 l1;omega
  ·rw [hβ s b1 h1,hβ s' b2 h2] at he;exact h.inj s s' b1 b2 h1 l1 h2 l2 he
 ·intro b' o hb
  obtain ⟨h1,h2⟩:=h.mW b' o hb
  exact ⟨by rw [bK _ _ (hV b' o hb)];exact h1,h2⟩
 ·intro s b' hs l o ho
  rw [ai] at hs
  split at hs
  ·rename_i e;rw [e,aN] at ho;have:=hV _ o ho;omega
  ·rw [hβ s b' hs] at ho;exact h.qV s b' hs l o ho
 ·exact h.ext.trans ⟨by simp,fun i hi _=>bK _ _ hi,rfl,rfl,rfl⟩
 ·intro s b' hs l
  rw [ai] at hs
  split at hs
  ·rename_i e;rw [e,aN];exact .inl h.ext.size
  ·rw [hβ s b' hs];exact h.own s b' hs l
 ·intro s hs
  obtain ⟨h1,h2⟩:=h.kj s hs
  exact ⟨h1,by rw [fm _ _ (by have:=h.small;omega)];exact h2⟩
 ·exact h.small
theorem Mod.void (h:Mod n V0 bo β0 st β a w V){s:Nat}{ty:TypeId}:Mod n V0 bo β0 (st.box s ⟨.aT [],ty⟩) β a w V:=by
 have hw:∀t b',st.boxes t=some b'->∃b'',(st.box s ⟨.aT [],ty⟩).boxes t=some b'':=by
  intro t b' ht
  rw [ai]
  split
  ·exact ⟨_,rfl⟩
  ·exact ⟨b',ht⟩
 have hb:∀t b',(st.box s ⟨.aT [],ty⟩).boxes t=some b'->b'.live->st.boxes t=some b':=by
  intro t b' ht l
  rw [ai] at ht
  split at ht
  ·cases ht;exact absurd l fk
  ·exact ht
 refine ⟨h.defers,h.size,h.aq,?_,?_,fun t b' ht l=>h.boxes t b' (hb t b' ht l) l,fun t t' b1 b2 h1 l1 h2 l2=>h.inj t t' b1 b2 (hb _ _ h1 l1) l1 (hb _ _ h2 l2) l2,h.mW,fun t b' ht l=>h.qV t b' (hb t b' ht l) l,h.ext,fun t b' ht l=>h.own t b' (hb t b' ht l) l,h.kj,h.i_,h.small⟩
 ·intro t x hx s' hs'
  obtain ⟨b',hb'⟩:=h.vx t x hx s' hs'
  exact hw s' b' hb'
 ·intro t b' ht s' hs'
  have:∃b'',st.boxes s'=some b'':=by
   rw [ai] at ht
   split at ht
   ·cases ht;cases hs'
   ·exact h.vv t b' ht s' hs'
  obtain ⟨b'',jg⟩:=this
  exact hw s' b'' jg
theorem Mod.qn (h:Mod n V0 bo β0 st β a w V){s:Nat}{b b':aO}(hs:st.boxes s=some b)(lb:b.live)(hl:∀s'∈b'.cs.ids,∃b'',st.boxes s'=some b'')
  {w':World}(hw:w'.heap=w.heap.setIfInBounds (β s) (b'.obj β))(ho:w'.os=w.os)(ht:w'.tape=w.tape)(hout:w'.output=w.output) :
  Mod n V0 bo β0 (st.box s b') β a w' V:=by
 have hlt:=az (h.boxes s b hs lb)
 have hg:∀i,w'.heap[i]?=if i=β s then some (b'.obj β) else w.heap[i]?:=by
  intro i
  rw [hw,Array.getElem?_setIfInBounds]
  by_cases e:β s=i
  ·rw [if_pos e,if_pos (by omega),if_pos e.symm]
  ·rw [if_neg e,if_neg (Ne.symm e)]
 refine ⟨h.defers,h.size,h.aq,?_,?_,?_,?_,?_,?_,?_,?_,h.kj,h.i_,h.small⟩
 ·intro t x hx s' hs'
  obtain ⟨b1,hb1⟩:=h.vx t x hx s' hs'
  rw [ai]
  split
  ·exact ⟨_,rfl⟩
  ·exact ⟨b1,hb1⟩
 ·intro t b1 hb1 s' hs'
  have:∃b'',st.boxes s'=some b'':=by
   rw [ai] at hb1
   split at hb1
   ·simp only [Option.some.injEq] at hb1;rw [←hb1] at hs';exact hl s' hs'
   ·exact h.vv t b1 hb1 s' hs'
  rw [ai]
  split
  ·exact ⟨_,rfl⟩
  ·exact this
 ·intro t b1 hb1 l1
  rw [ai] at hb1
  rw [hg]
  split at hb1
  ·rename_i e;simp only [Option.some.injEq] at hb1;rw [e,if_pos rfl,hb1]
  ·rename_i e
   rw [if_neg fun he=>e (h.inj t s b1 b hb1 l1 hs lb he)]
   exact h.boxes t b1 hb1 l1
 ·intro t t' b1 b2 h1 l1 h2 l2 he
  have f:∀t b1,(st.box s b').boxes t=some b1->b1.live->∃b2,st.boxes t=some b2/\b2.live:=by
   intro t b1 h1 l1
   rw [ai] at h1
   split at h1
   ·rename_i e;rw [e];exact ⟨b,hs,lb⟩
   ·exact ⟨b1,h1,l1⟩
  obtain ⟨c1,hc1,m1⟩:=f t b1 h1 l1
  obtain ⟨c2,hc2,m2⟩:=f t' b2 h2 l2
  exact h.inj t t' c1 c2 hc1 m1 hc2 m2 he
 ·intro b1 o hb
  obtain ⟨h1,h2⟩:=h.mW b1 o hb
  refine ⟨?_,h2⟩
  rw [hg,if_neg]
  ·exact h1
  ·intro e;rw [e] at hb;exact h.qV s b hs lb o hb
 ·intro t b1 hb1 l1 o
  rw [ai] at hb1
  split at hb1
  ·rename_i e;rw [e];exact h.qV s b hs lb o
  ·exact h.qV t b1 hb1 l1 o
 ·refine ⟨by rw [hw];simpa using h.ext.size,fun i hi hX=>?_,ho.trans h.ext.os,ht.trans h.ext.tape,hout.trans h.ext.out⟩
  rw [hg]
  split
  ·rename_i e
   exfalso
   rcases h.own s b hs lb with h1|h1
   ·omega
   ·exact hX (e▸h.i_ _ h1.2)
  ·exact h.ext.bq i hi hX
 ·intro t b1 hb1 l1
  rw [ai] at hb1
  split at hb1
  ·rename_i e;rw [e];exact h.own s b hs lb
  ·exact h.own t b1 hb1 l1
end Go.bu
namespace Go.bu
variable {P:Program} {T:cF} {n:Nat} {V0:View} {bo:Bo} {β0:Nat->Nat} {st:St} {β:Nat->Nat} {a:Act} {w:World} {V:View}
theorem cY:∀(sc:List Prop)(k:Prop),wX sc k↔(∀p∈sc,p)/\k
 | [],k=>by simp [wX]
 | p::r,k=>by
  simp only [wX,cY r k,List.mem_cons]
  constructor
  ·rintro ⟨h1,h2,h3⟩
   exact ⟨fun q hq=>by rcases hq with rfl|hq;exact h1;exact h2 q hq,h3⟩
  ·rintro ⟨h1,h2⟩
   exact ⟨h1 p (.inl rfl),fun q hq=>h1 q (.inr hq),h2⟩
theorem aA {t:TypeId}{i:TI}(h:jl P t=some i):∃info d z,P.info? t=some info/\P.underlying t=some d/\info.zero=some z/\i.k=iT d/\i.size=info.size/\i.bytes=info.bytes/\i.zero=z.cells.toList.map C.ofConst:=by
 unfold jl at h
 split at h
 ·rename_i info d h1 h2
  split at h
  ·rename_i z hz
   simp only [Option.some.injEq] at h
   subst h
   exact ⟨info,d,z,h1,h2,hz,rfl,rfl,rfl,rfl⟩
  ·cases h
 ·cases h
theorem zE (β:Nat->Nat)(y:Value):(C.ofConst y).den β=y:=by
 unfold C.ofConst;split<;>rfl
theorem Ab (β:Nat->Nat)(l:List Value):(l.map C.ofConst).map (C.den β)=l:=by
 induction l with
 | nil=>rfl
 | cons y r ih=>simp only [List.map_cons,zE,ih]
theorem zT (y:Value):(C.ofConst y).ids=[]:=by unfold C.ofConst;split<;>rfl
theorem xI (l:List Value):(l.map C.ofConst).flatMap C.ids=[]:=by
 induction l with
 | nil=>rfl
 | cons y r ih=>simp [zT]
theorem aj {t:TypeId}{d:TypeDesc}(h:P.underlying t=some d)(w:World):(underlying t).run P w=.ok d w:=by simp [underlying,h]
theorem iS {t:TypeId}{i:TypeInfo}(h:P.info? t=some i)(w:World):(typeInfo t).run P w=.ok i w:=by simp [typeInfo,h]
theorem aK {t:TypeId}{i:TypeInfo}(h:P.info? t=some i)(w:World):(sizeOf t).run P w=.ok i.size w:=by simp [sizeOf,iS h]
theorem gK {t:TypeId}{i:TypeInfo}{z:Value}(h:P.info? t=some i)(hz:i.zero=some z)(w:World):(zeroValue t).run P w=.ok z w:=by
 simp [zeroValue,iS h,hz]
def oA:TK->Bool
 | .struct _|.arr _ _=>true
 | _=>false
theorem fC {t:TypeId}{d:TypeDesc}(h:P.underlying t=some d)(w:World):(isAgg t).run P w=.ok (oA (iT d)) w:=by
 simp only [isAgg,Sem.run_bind,aj h,Result.andThen_ok]
 cases d<;>rfl
def Live (st:St)(x:SV):Prop:=∀s∈x.ids,∃b,st.boxes s=some b
theorem wB {k k':IntKind}(h:sG k k'=true):k=k':=by cases k<;>cases k'<;>simp_all [sG]
theorem B1 {op:BinOp}{k:IntKind}{x y:Int}{sc:List Prop}{v:SV}{xt:TypeId}(h:kI op k x y=.ret sc v)(hsc:∀p∈sc,p) :
  (binOp op xt (.int k x) (.int k y)).run P w=.ok (v.den β) w/\v.ids=[]:=by
 cases op<;>simp only [kI,Q.ret.injEq] at h<;>obtain ⟨rfl,rfl⟩:=h <;>
  simp only [List.mem_cons,List.not_mem_nil,or_false,forall_eq,false_imp_iff,implies_true] at hsc <;>
  refine ⟨?_,rfl⟩ <;>
  simp [binOp,Op.intArith,Op.intDiv,Op.intBits,Op.intCmp,Op.shift,SV.den,C.den,bg,hsc]
 all_goals (try (intro h;omega))
theorem wQ {op:BinOp}{k k':IntKind}{x y:Int}{sc:List Prop}{v:SV}{xt:TypeId}(hop:op=.shl\/op=.shr)(h:kI op k x y=.ret sc v)(hsc:∀p∈sc,p) :
  (binOp op xt (.int k x) (.int k' y)).run P w=.ok (v.den β) w/\v.ids=[]:=by
 rcases hop with rfl|rfl<;>simp only [kI,Q.ret.injEq] at h<;>obtain ⟨rfl,rfl⟩:=h <;>
  simp only [List.mem_cons,List.not_mem_nil,or_false,forall_eq] at hsc <;>
  refine ⟨?_,rfl⟩ <;>
  simp [binOp,Op.shift,SV.den,C.den]<;>(intro h;omega)
section eqs
variable {t:TypeId} (d:Nat)
theorem D8 (h:P.underlying t=some .bool)(x y:Bool):(Op.equalIn (d+1) t (.bool x) (.bool y)).run P w=.ok (x==y) w:=by
 simp [Op.equalIn,aj h]
theorem wi {e:TypeId}(h:P.underlying t=some (.pointer e))(p:OA):(Op.equalIn (d+1) t (.pointer p) (.pointer none)).run P w=.ok p.isNone w:=by
 cases p<;>simp [Op.equalIn,aj h]
theorem mo {e:TypeId}(h:P.underlying t=some (.slice e))(p:OA)(n c m k:Nat):(Op.equalIn (d+1) t (.slice p n c) (.slice none m k)).run P w=.ok p.isNone w:=by
 cases p<;>simp [Op.equalIn,aj h]
theorem rZ {ms:Array (String×TypeId)}(h:P.underlying t=some (.interface ms)){x:Value}(hx:IsIface x):(Op.equalIn (d+1) t x .nilIface).run P w=.ok (bL x) w:=by
 rcases hx with rfl|⟨u,v,rfl⟩<;>simp [Op.equalIn,aj h,bL]
end eqs
theorem iI {t:TypeId}{x y:Value}{r:Bool}(h:∀d,(Op.equalIn (d+1) t x y).run P w=.ok r w):(Op.equal t x y).run P w=.ok r w:=h 9999
theorem yZ {op:BinOp}{xt:TypeId}{x y:Bool}(ht:P.underlying xt=some .bool)(hop:op=.eql\/op=.neq) :
  (binOp op xt (.bool x) (.bool y)).run P w=.ok (.bool (if op=.eql then x==y else !(x==y))) w:=by
 have:=iI (w:=w) fun d=>D8 d ht x y
 rcases hop with rfl|rfl<;>simp only [binOp,Sem.run_bind,this,Result.andThen_ok,Sem.run_pure]<;>rfl
theorem vN {c:C}{b:Bool}(h:c.bool?=some b):c.den β=.bool b/\c.ids=[]:=by
 cases c with
 | v x=>cases x<;>simp_all [C.bool?,C.den,C.ids]
 | _=>simp_all [C.bool?,C.den,C.ids]
theorem zG {d:TypeDesc}{k:IntKind}(h:iT d=.int k):d=.int k:=by cases d<;>simp_all [iT]
theorem xA {d:TypeDesc}(h:iT d=.bool):d=.bool:=by cases d<;>simp_all [iT]
theorem zH {d:TypeDesc}{e:TypeId}(h:iT d=.ptr e):d=.pointer e:=by cases d<;>simp_all [iT]
theorem aP {d:TypeDesc}{e:TypeId}(h:iT d=.slice e):d=.slice e:=by cases d<;>simp_all [iT]
theorem uC {d:TypeDesc}(h:iT d=.iface):∃ms,d=.interface ms:=by cases d<;>simp_all [iT]
theorem gT {d:TypeDesc}{fs:List (TypeId×Nat)}(h:iT d=.struct fs):∃gs,d=.struct gs/\fs=gs.toList.map fun f=>(f.type,f.offset):=by
 cases d<;>simp_all [iT]
theorem kF {d:TypeDesc}{m:Nat}{e:TypeId}(h:iT d=.arr m e):d=.array m e:=by cases d<;>simp_all [iT]
theorem gM {t:TypeId}{x y:Value}{r:Bool}(neg:Bool)(h:(Op.equal t x y).run P w=.ok r w)
  (hx:(∃p,x=.pointer p/\y=.pointer none)\/(∃p n c m k,x=.slice p n c/\y=.slice none m k)\/(IsIface x/\y=.nilIface)) :
  (binOp (if neg then .neq else .eql) t x y).run P w=.ok (.bool (if neg then !r else r)) w:=by
 rcases hx with ⟨p,rfl,rfl⟩|⟨p,n,c,m,k,rfl,rfl⟩|⟨hx,rfl⟩
 ·cases p<;>cases neg<;>simp only [Bool.false_eq_true,if_false,if_true,binOp,Sem.run_bind,h,Result.andThen_ok,Sem.run_pure]
 ·cases neg<;>simp only [Bool.false_eq_true,if_false,if_true,binOp,Sem.run_bind,h,Result.andThen_ok,Sem.run_pure]
 ·rcases hx with rfl|⟨u,v,rfl⟩<;>cases neg<;>simp only [Bool.false_eq_true,if_false,if_true,binOp,Sem.run_bind,h,Result.andThen_ok,Sem.run_pure]
theorem mr {op:BinOp}{t:TypeId}{x y:Operand}{u v:Value}(h:(∃p,u=.pointer p)\/(∃p n c,u=.slice p n c)\/(∃k n,u=.int k n)\/(∃b,u=.bool b)\/∃c,y=.const c)(hn:v=.nilIface->∃c,y=.const c)(hu:∀cs,u≠.agg cs) :
  (eqGuard op t x y u v).run P w=.ok () w:=by
 have key:∀(m:Sem Unit),m=(match (generalizing:=false) u,v with
   | .nilIface,.nilIface=>do
    if (match (generalizing:=false) x with|.const _=>true|_=>false)||(match (generalizing:=false) y with|.const _=>true|_=>false) then return
    if ← Op.eqGuardIn Op.maxDepth t u v then unsupported (.noEntry "binop/eql: two nil values of an interface type with methods, neither of them the literal nil")
   | .agg _,.agg _=>do
    if !(←program).eqGuardType (←program).depth t then return
    if ← Op.eqGuardIn Op.maxDepth t u v then unsupported (.noEntry "binop/eql: two nil values of an interface type with methods, in a part of a struct or an array")
   | _,_=>pure ())->m.run P w=.ok () w:=by
  intro m hm
  rw [hm]
  clear hm
  revert hn hu
  split
  ·intro hn _;obtain ⟨c,rfl⟩:=hn rfl;simp
  ·rename_i cs _;intro _ hu;exact absurd rfl (hu cs)
  ·intro _ _;rfl
 cases op<;>first|rfl|exact key _ rfl
theorem GC {xt:TypeId}{i:TI}(hi:jl P xt=some i){x y:C}(neg:Bool){sc:List Prop}{v:SV}
  (h:xW neg i.k x y=.ret sc v)(hsc:∀p∈sc,p) :
  (binOp (if neg then .neq else .eql) xt (x.den β) (y.den β)).run P w=.ok (v.den β) w/\v.ids=[] /\
  ((∃p,x.den β=.pointer p)\/(∃p n c,x.den β=.slice p n c)\/y.den β=.nilIface)/\(y.den β=.nilIface->y=.v .nilIface)/\(∀cs,x.den β≠.agg cs):=by
 obtain ⟨info,d,z,h1,h2,h3,h4,-⟩:=aA hi
 unfold xW at h
 split at h
 ·rename_i e hk
  rw [h4] at hk
  obtain rfl:=zH hk
  split at h
  ·split at h
   ·simp only [Q.ret.injEq] at h;obtain ⟨rfl,rfl⟩:=h
    refine ⟨?_,by cases neg<;>rfl,.inl ⟨_,rfl⟩,by simp [C.den],by simp [C.den]⟩
    rename_i s o
    have:=gM (w:=w) neg (iI fun d=>wi d h2 (some ⟨β s,o,none⟩)) (.inl ⟨_,rfl,rfl⟩)
    cases neg<;>exact this
   ·simp only [Q.ret.injEq] at h;obtain ⟨rfl,rfl⟩:=h
    refine ⟨?_,rfl,.inl ⟨_,rfl⟩,by simp [C.den],by simp [C.den]⟩
    exact gM (w:=w) neg (iI fun d=>wi d h2 _) (.inl ⟨_,rfl,rfl⟩)
   ·cases h
  ·cases h
 ·rename_i e hk
  rw [h4] at hk
  obtain rfl:=aP hk
  split at h
  ·split at h
   ·simp only [Q.ret.injEq] at h;obtain ⟨rfl,rfl⟩:=h
    refine ⟨?_,by cases neg<;>rfl,.inr (.inl ⟨_,_,_,rfl⟩),by simp [C.den],by simp [C.den]⟩
    rename_i m k _ s o n c
    have:=gM (w:=w) neg (iI fun d=>mo d h2 (some ⟨β s,o,none⟩) n c m k) (.inr (.inl ⟨_,_,_,_,_,rfl,rfl⟩))
    cases neg<;>exact this
   ·simp only [Q.ret.injEq] at h;obtain ⟨rfl,rfl⟩:=h
    refine ⟨?_,rfl,.inr (.inl ⟨_,_,_,rfl⟩),by simp [C.den],by simp [C.den]⟩
    rename_i m k _ s n c
    have:=gM (w:=w) neg (iI fun d=>mo d h2 (mA (β s) c) n c m k) (.inr (.inl ⟨_,_,_,_,_,rfl,rfl⟩))
    have e:(mA (β s) c).isNone=Nat.beq c 0:=by cases c<;>rfl
    rw [e] at this
    exact this
   ·simp only [Q.ret.injEq] at h;obtain ⟨rfl,rfl⟩:=h
    refine ⟨?_,rfl,.inr (.inl ⟨_,_,_,rfl⟩),by simp [C.den],by simp [C.den]⟩
    exact gM (w:=w) neg (iI fun d=>mo d h2 _ _ _ _ _) (.inr (.inl ⟨_,_,_,_,_,rfl,rfl⟩))
   ·cases h
  ·cases h
 ·rename_i hk
  rw [h4] at hk
  obtain ⟨ms,rfl⟩:=uC hk
  split at h
  ·split at h
   ·simp only [Q.ret.injEq] at h;obtain ⟨rfl,rfl⟩:=h
    have hx:=hsc _ (List.mem_singleton.2 rfl)
    refine ⟨?_,rfl,.inr (.inr rfl),fun _=>rfl,?_⟩
    ·exact gM (w:=w) neg (iI fun d=>rZ d h2 hx) (.inr (.inr ⟨hx,rfl⟩))
    ·intro cs e
     rcases hx with hx|⟨u,v,hx⟩<;>· simp only [C.den] at e;rw [hx] at e;cases e
   ·simp only [Q.ret.injEq] at h;obtain ⟨rfl,rfl⟩:=h
    refine ⟨?_,by cases neg<;>rfl,.inr (.inr rfl),fun _=>rfl,by simp [C.den]⟩
    have:=gM (w:=w) neg (iI fun d=>rZ d h2 (x:=.nilIface) (.inl rfl)) (.inr (.inr ⟨.inl rfl,rfl⟩))
    cases neg<;>exact this
   ·cases h
  ·cases h
 ·cases h
theorem Gz (hT:cF.ok P T){op:BinOp}{xt:TypeId}{x y:C}{ox oy:Operand}{sc:List Prop}{v:SV}
  (h:xU T op xt x y=.ret sc v)(hsc:∀p∈sc,p)(hy:y=.v .nilIface->∃c,oy=.const c) :
  (do eqGuard op xt ox oy (x.den β) (y.den β);binOp op xt (x.den β) (y.den β)).run P w=.ok (v.den β) w/\v.ids=[]:=by
 unfold xU at h
 split at h
 ·rename_i i hi
  have hi:=hT _ _ hi
  obtain ⟨info,d,z,h1,h2,h3,h4,-⟩:=aA hi
  split at h
  ·split at h
   ·rename_i k a k' b
    have hg:(eqGuard op xt ox oy (C.den β (.v (.int k a))) (C.den β (.v (.int k' b)))).run P w=.ok () w:=
     mr (.inr (.inr (.inl ⟨_,_,rfl⟩))) (by simp [C.den]) (by simp [C.den])
    have key:(binOp op xt (.int k a) (.int k' b)).run P w=.ok (v.den β) w/\v.ids=[]:=by
     split at h
     ·exact wQ (.inl rfl) h hsc
     ·exact wQ (.inr rfl) h hsc
     ·split at h
      ·rename_i e;obtain rfl:=wB e;exact B1 h hsc
      ·cases h
    simp only [Sem.run_bind,hg,Result.andThen_ok]
    exact key
   ·cases h
  ·rename_i hk
   rw [h4] at hk
   obtain rfl:=xA hk
   split at h
   ·rename_i a b ha hb
    have hx:=vN (β:=β) ha
    have hy:=vN (β:=β) hb
    have hg:(eqGuard op xt ox oy (x.den β) (y.den β)).run P w=.ok () w:=by
     rw [hx.1,hy.1]
     exact mr (.inr (.inr (.inr (.inl ⟨_,rfl⟩)))) (by simp) (by simp)
    simp only [Sem.run_bind,hg,Result.andThen_ok]
    rw [hx.1,hy.1]
    split at h
    ·simp only [Q.ret.injEq] at h;obtain ⟨rfl,rfl⟩:=h
     exact ⟨yZ h2 (.inl rfl),rfl⟩
    ·simp only [Q.ret.injEq] at h;obtain ⟨rfl,rfl⟩:=h
     exact ⟨yZ h2 (.inr rfl),rfl⟩
    ·cases h
   ·cases h
  ·have key:∀neg:Bool,xW neg i.k x y=.ret sc v->(do eqGuard (if neg then .neq else .eql) xt ox oy (x.den β) (y.den β);binOp (if neg then .neq else .eql) xt (x.den β) (y.den β)).run P w=.ok (v.den β) w/\v.ids=[]:=by
    intro neg h
    obtain ⟨k1,k2,k3,k4,k5⟩:=GC (w:=w) (β:=β) hi neg h hsc
    have hg:(eqGuard (if neg then BinOp.neq else BinOp.eql) xt ox oy (x.den β) (y.den β)).run P w=.ok () w:=by
     refine mr ?_ (fun e=>hy (k4 e)) k5
     rcases k3 with k3|k3|k3
     ·exact .inl k3
     ·exact .inr (.inl k3)
     ·exact .inr (.inr (.inr (.inr (hy (k4 k3)))))
    simp only [Sem.run_bind,hg,Result.andThen_ok]
    exact ⟨k1,k2⟩
   split at h
   ·exact key false h
   ·exact key true h
   ·cases h
 ·cases h
end Go.bu
