import Derived.WalkKit
import Derived.Deep.LoopGhost
import Derived.KernelRfl
set_option linter.unusedVariables false
open Go.IntKind (i64 u64 u32)
namespace Go.Eng
abbrev OA:=Option Addr
abbrev sm {α:Type}(a:α):Prop:=a=a
structure View where
 w:World
 H:Nat->Prop
 X:Nat->Prop
 hH:∀b,H b->b<w.heap.size
 hX:∀b,X b->H b
def View.bw (V:View)(b:Nat)(o:Obj):Prop:=¬V.H b/\V.w.heap[b]?=some o
def View.at (V:View)(p:Addr)(v:Value):Prop:=¬V.H p.block/\V.w.cell? p=some v
def View.Le (V V':View):Prop:=∀b o,V.bw b o->V'.bw b o
structure il (X:Nat->Prop) (w w':World):Prop where
 size:w.heap.size<=w'.heap.size
 bw:∀b,b<w.heap.size->¬X b->w'.heap[b]?=w.heap[b]?
 os:w'.os=w.os
 tape:w'.tape=w.tape
 out:w'.output=w.output
def View.to (V:View)(w':World)(h:V.w.heap.size<=w'.heap.size):View:=⟨w',V.H,V.X,fun b hb=>Nat.lt_of_lt_of_le (V.hH b hb) h,V.hX⟩
def View.aF (V:View)(bs:List Nat):View:={ V with X:=fun b=>b∈bs/\V.H b,hX:=fun _ h=>h.2 }
def View.Jq (V:View)(b:Nat):View:={ V with H:=fun x=>V.H x\/(x=b/\b<V.w.heap.size),hH:=fun x h=>h.elim (V.hH x) fun h=>h.1▸h.2,hX:=fun x h=>.inl (V.hX x h) }
def View.gX (V:View)(p:Prop)(b:Nat):View:={ V with H:=fun x=>V.H x\/(p/\x=b/\b<V.w.heap.size),hH:=fun x h=>h.elim (V.hH x) fun h=>h.2.1▸h.2.2,hX:=fun x h=>.inl (V.hX x h) }
def View.shut (V:View):View:={ V with X:=fun _=>False,hX:=fun _ h=>h.elim }
def j7 (P : Program)(f : FuncId) : Prop := ∃ fn, P.funcs[f]? = some fn ∧ fn.body.isNone = false ∧ (fn.name == "runtime.NumGoroutine") = false
def ae (P:Program)(f:FuncId)(args:Array Value)(V:View)(R:Value->View->Prop):Prop:=
 j7 P f/\Calls P f args V.w fun e w'=>∃r,e=.returned r/\∃hx:il V.X V.w w',R r (V.to w' hx.size)
inductive C where
 | v (x:Value)|w (x:Value)|tt|ff
 | ptr (s o:Nat)
 | kI (s o n c:Nat)
 | gQ (s n c:Nat)
 | tB (f:FuncId) (ss:List Nat)
inductive SV where
 | c (x:C)|agg (cs:List C)|pt (xs:List (Bool×List C))
inductive Cells where
 | lit (cs:List C)|row (vs:List Value)|aP (vs:List Value)
structure aO where
 cs:Cells
 ty:TypeId
def aO.live (b:aO):Prop:=∀vs,b.cs=.aP vs->vs≠[]
def Ip (b:aO):List Prop:=
 match b.cs with
 | .aP vs=>[vs≠[]]
 | _=>[]
def UK (b:aO):Prop:=
 match b.cs with
 | .aP vs=>vs≠[]
 | _=>True
def pT:List Prop->Prop->Prop
 | [],k=>k
 | p::r,k=>p->pT r k
def mA (b c:Nat):OA:=if c=0 then none else some ⟨b,0,none⟩
structure St where
 ar:Nat->Option SV
 boxes:Nat->Option aO
def C.den (β:Nat->Nat):C->Value
 | .v x=>x
 | .w x=>x
 | .tt=>.bool true
 | .ff=>.bool false
 | .ptr s o=>.pointer (some ⟨β s,o,none⟩)
 | .kI s o n c=>.slice (some ⟨β s,o,none⟩) n c
 | .gQ s n c=>.slice (mA (β s) c) n c
 | .tB f ss=>.func (.func f) #[] (ss.map fun s=>Value.pointer (some ⟨β s,0,none⟩)).toArray
def ir (β:Nat->Nat):Bool×List C->Value
 | (true,cs)=>.agg (cs.map (C.den β)).toArray
 | (false,[c])=>c.den β
 | (false,_)=>.tuple #[]
def rl:Bool×List C->Option SV
 | (true,cs)=>some (.agg cs)
 | (false,[c])=>some (.c c)
 | (false,_)=>none
def SV.den (β:Nat->Nat):SV->Value
 | .c x=>x.den β
 | .agg cs=>.agg (cs.map (C.den β)).toArray
 | .pt xs=>.tuple (xs.map (ir β)).toArray
def SV.cells:SV->List C
 | .c x=>[x]
 | .agg cs=>cs
 | .pt _=>[]
def Cells.den (β:Nat->Nat):Cells->List Value
 | .lit cs=>cs.map (C.den β)
 | .row vs=>vs
 | .aP vs=>vs
def aO.obj (β:Nat->Nat)(b:aO):Obj:=.cells (b.cs.den β).toArray b.ty (0,0)
def C.ids:C->List Nat
 | .ptr s _=>[s]
 | .kI s _ _ _=>[s]
 | .gQ s _ _=>[s]
 | .tB _ ss=>ss
 | _=>[]
def SV.ids:SV->List Nat
 | .c x=>x.ids
 | .agg cs=>cs.flatMap C.ids
 | .pt xs=>xs.flatMap fun x=>x.2.flatMap C.ids
def SV.vF:SV->Bool
 | .pt _=>true
 | _=>false
def eX:C->List Prop
 | .v (.agg _)|.v (.tuple _)=>[False]
 | .w x=>[x.oneCell'=true]
 | _=>[]
def SV.eX (x:SV):List Prop:=x.cells.flatMap Eng.eX
def Cells.ids:Cells->List Nat
 | .lit cs=>cs.flatMap C.ids
 | .row _=>[]
 | .aP _=>[]
def St.put (st:St)(d:Option Nat)(x:SV):St:=
 match d with
 | none=>st
 | some d=>{ st with ar:=fun t=>cond (Nat.beq t d) (some x) (st.ar t) }
def St.box (st:St)(s:Nat)(b:aO):St:={ st with boxes:=fun t=>cond (Nat.beq t s) (some b) (st.boxes t) }
def C.ofConst:Value->C
 | .bool true=>.tt
 | .bool false=>.ff
 | x=>.v x
def SV.ofConst:Value->SV
 | .bool true=>.c .tt
 | .bool false=>.c .ff
 | .agg cs=>.agg (cs.toList.map C.ofConst)
 | x=>.c (.v x)
def St.a_ (st:St):Operand->Option SV
 | .tmp t=>st.ar t
 | .const v=>some (.ofConst v)
 | .global g=>some (.c (.v (.pointer (some ⟨g,0,none⟩))))
 | .func f=>some (.c (.tB f []))
inductive TK where
 | int (k:IntKind)|bool|str|ptr (e:TypeId)|slice (e:TypeId)|struct (fs:List (TypeId×Nat))|arr (n:Nat) (e:TypeId)|iface|func|tuple (ts:List TypeId)|other
structure TI where
 k:TK
 size:Nat
 bytes:Nat
 zero:List C
def jT:TypeDesc->TK
 | .int k=>.int k
 | .bool=>.bool
 | .string=>.str
 | .pointer e=>.ptr e
 | .slice e=>.slice e
 | .array n e=>.arr n e
 | .struct fs=>.struct (fs.toList.map fun f=>(f.type,f.offset))
 | .interface _=>.iface
 | .func ..=>.func
 | .tuple es=>.tuple es.toList
 | _=>.other
def lj (P:Program)(t:TypeId):Option TI:=
 match P.info? t,P.underlying t with
 | some i,some d=>
  match i.zero with
  | some z=>some { k:=jT d,size:=i.size,bytes:=i.bytes,zero:=z.cells.toList.map C.ofConst }
  | none=>none
 | _,_=>none
abbrev cO:=List (Nat×TI)
def ay {α:Type}:List (Nat×α)->Nat->Option α
 | [],_=>none
 | (s,x)::r,t=>cond (Nat.beq t s) (some x) (ay r t)
def cO.ok (P:Program)(T:cO):Prop:=∀t i,ay T t=some i->lj P t=some i
inductive xu where
 | int (k:IntKind)|bool|slice|ptr|str|any
inductive uB where
 | one (s:xu)|agg (l:List xu)
inductive Sh where
 | val (s:uB)|pt (l:List uB)|none
def TD:C->xu
 | .v (.int k _)=>.int k
 | .v (.slice ..)=>.slice
 | .v (.pointer _)=>.ptr
 | .v (.string _)=>.str
 | .tt|.ff=>.bool
 | _=>.any
def kv (i:TI):uB:=
 match i.k with
 | .struct _|.arr _ _=>.agg (i.zero.map TD)
 | _=>match i.zero with
  | [z]=>.one (TD z)
  | _=>.one .any
def xu.ex:xu->(C->Prop)->Prop
 | .int k,K=>∃n:Int,K (.v (.int k n))
 | .bool,K=>∃b:Bool,K (.v (.bool b))
 | .slice,K=>∃(a:OA)(n c:Nat),K (.v (.slice a n c))
 | .ptr,K=>∃p:OA,K (.v (.pointer p))
 | .str,K=>∃s:ByteArray,K (.v (.string s))
 | .any,K=>∃x:Value,K (.w x)
def OS:List xu->(List C->Prop)->Prop
 | [],K=>K []
 | s::r,K=>s.ex fun v=>OS r fun vs=>K (v::vs)
def uB.ex:uB->(SV->Prop)->Prop
 | .one s,K=>s.ex fun c=>K (.c c)
 | .agg l,K=>OS l fun cs=>K (.agg cs)
def Qa:List uB->(List (Bool×List C)->Prop)->Prop
 | [],K=>K []
 | .one s::r,K=>s.ex fun c=>Qa r fun vs=>K ((false,[c])::vs)
 | .agg l::r,K=>OS l fun cs=>Qa r fun vs=>K ((true,cs)::vs)
def Sh.ex:Sh->(SV->Prop)->Prop
 | .val s,K=>s.ex K
 | .pt l,K=>Qa l fun vs=>K (.pt vs)
 | .none,K=>K (.pt [])
def SM (T:cO):List TypeId->Option (List uB)
 | []=>some []
 | t::r=>match ay T t,SM T r with
  | some i,some l=>some (kv i::l)
  | _,_=>Option.none
def WE (T:cO)(t:TypeId):Option Sh:=
 match ay T t with
 | some i=>match i.k with
  | .tuple []=>some .none
  | .tuple ts=>match SM T ts with
   | some l=>some (.pt l)
   | Option.none=>Option.none
  | _=>some (.val (kv i))
 | Option.none=>Option.none
inductive Q where
 | fail
 | ret (sc:List Prop) (x:SV)
 | new (sc:List Prop) (b:aO) (x:Nat->SV)
 | tI (sc:List Prop) (s:Nat) (b:aO)
 | rd (p:OA) (sh:uB)
 | nY (vs:List Value) (o size:Nat) (sh:uB)
 | rF (s:Nat) (vs:List Value) (n c:Nat) (x:OA×Nat ⊕ List Value) (size bytes:Nat) (ty:TypeId)
 | app (old:Option Nat) (ba:OA) (vs:List Value) (n c:Nat) (x:OA×Nat ⊕ List Value) (size bytes:Nat) (ty:TypeId)
def bz (op:BinOp)(k:IntKind)(a b:Int):Int:=
 match op with
 | .and=>k.wrap ((BitVec.ofInt k.bits a &&& BitVec.ofInt k.bits b).toNat:Int)
 | .or=>k.wrap ((BitVec.ofInt k.bits a ||| BitVec.ofInt k.bits b).toNat:Int)
 | .xor=>k.wrap ((BitVec.ofInt k.bits a ^^^ BitVec.ofInt k.bits b).toNat:Int)
 | _=>k.wrap ((BitVec.ofInt k.bits a &&& ~~~(BitVec.ofInt k.bits b)).toNat:Int)
def mq (op:BinOp)(k:IntKind)(a b:Int):Q:=
 match op with
 | .add=>.ret [] (.c (.v (.int k (k.wrap (a+b)))))
 | .sub=>.ret [] (.c (.v (.int k (k.wrap (a-b)))))
 | .mul=>.ret [] (.c (.v (.int k (k.wrap (a*b)))))
 | .quo=>.ret [b≠0] (.c (.v (.int k (k.wrap (a.tdiv b)))))
 | .rem=>.ret [b≠0] (.c (.v (.int k (a.tmod b))))
 | .and=>.ret [] (.c (.v (.int k (bz .and k a b))))
 | .or=>.ret [] (.c (.v (.int k (bz .or k a b))))
 | .xor=>.ret [] (.c (.v (.int k (bz .xor k a b))))
 | .andNot=>.ret [] (.c (.v (.int k (bz .andNot k a b))))
 | .shl=>.ret [0<=b] (.c (.v (.int k (k.wrap (a*2^(min b.toNat k.bits))))))
 | .shr=>.ret [0<=b] (.c (.v (.int k (a.fdiv (2^(min b.toNat k.bits))))))
 | .eql=>.ret [] (.c (.v (.bool (a==b))))
 | .neq=>.ret [] (.c (.v (.bool (a != b))))
 | .lss=>.ret [] (.c (.v (.bool (decide (a<b)))))
 | .leq=>.ret [] (.c (.v (.bool (decide (a<=b)))))
 | .gtr=>.ret [] (.c (.v (.bool (decide (a>b)))))
 | .geq=>.ret [] (.c (.v (.bool (decide (a≥b)))))
def C.bool?:C->Option Bool
 | .tt=>some true
 | .ff=>some false
 | .v (.bool b)=>some b
 | _=>none
def mu:Value->Bool
 | .nilIface=>true
 | _=>false
def IsIface (x:Value):Prop:=x=.nilIface\/∃t v,x=.iface t v
def vG:IntKind->IntKind->Bool
 | .i8,.i8|.i16,.i16|.i32,.i32|.i64,.i64|.u8,.u8|.u16,.u16|.u32,.u32|.u64,.u64=>true
 | _,_=>false
def Bo (neg:Bool)(k:TK)(x y:C):Q:=
 match k with
 | .ptr _=>match y with
  | .v (.pointer none)=>match x with
   | .ptr _ _=>.ret [] (.c (if neg then .tt else .ff))
   | .v (.pointer p)=>.ret [] (.c (.v (.bool (if neg then !p.isNone else p.isNone))))
   | _=>.fail
  | _=>.fail
 | .slice _=>match y with
  | .v (.slice none _ _)=>match x with
   | .kI _ _ _ _=>.ret [] (.c (if neg then .tt else .ff))
   | .gQ _ _ c=>.ret [] (.c (.v (.bool (if neg then !(Nat.beq c 0) else Nat.beq c 0))))
   | .v (.slice a _ _)=>.ret [] (.c (.v (.bool (if neg then !a.isNone else a.isNone))))
   | _=>.fail
  | _=>.fail
 | .iface=>match y with
  | .v .nilIface=>match x with
   | .w y=>.ret [IsIface y] (.c (.v (.bool (if neg then !mu y else mu y))))
   | .v .nilIface=>.ret [] (.c (if neg then .ff else .tt))
   | _=>.fail
  | _=>.fail
 | _=>.fail
def Bm (T:cO)(op:BinOp)(xt:TypeId)(x y:C):Q:=
 match ay T xt with
 | some i=>match i.k with
  | .int _=>match x,y with
   | .v (.int k a),.v (.int k' b)=>
    match op with
    | .shl|.shr=>mq op k a b
    | _=>if vG k k' then mq op k a b else .fail
   | _,_=>.fail
  | .bool=>match x.bool?,y.bool? with
   | some a,some b=>match op with
    | .eql=>.ret [] (.c (.v (.bool (a==b))))
    | .neq=>.ret [] (.c (.v (.bool (!(a==b)))))
    | _=>.fail
   | _,_=>.fail
  | k=>match op with
   | .eql=>Bo false k x y
   | .neq=>Bo true k x y
   | _=>.fail
 | none=>.fail
def ah (p:OA)(n:Nat):OA:=p.map fun a=>a.add n
def setCells (cs:List C)(o:Nat)(xs:List C):List C:=cs.take o++xs++cs.drop (o+xs.length)
def aU (vs:List Value)(o:Nat)(xs:List Value):List Value:=
 match xs with
 | [x]=>vs.set o x
 | _=>vs.take o++xs++vs.drop (o+xs.length)
def C.val?:C->Option Value
 | .v x=>some x
 | .w x=>some x
 | .tt=>some (.bool true)
 | .ff=>some (.bool false)
 | _=>none
def jG:List C->Option (List Value)
 | []=>some []
 | c::r=>match c.val?,jG r with
  | some v,some vs=>some (v::vs)
  | _,_=>none
def jf (bx:Nat->Option aO)(i:TI)(x:SV):Q:=
 match x with
 | .c (.ptr b o)=>match bx b with
  | some ⟨.lit cs,_⟩=>match i.k with
   | .struct _|.arr _ _=>if Nat.ble (o+i.size) cs.length then .ret [] (.agg ((cs.drop o).take i.size)) else .fail
   | _=>match cs[o]? with
    | some c=>.ret [] (.c c)
    | none=>.fail
  | some ⟨.row vs,_⟩=>.nY vs o i.size (kv i)
  | some ⟨.aP vs,_⟩=>if Nat.beq i.size 0 then .fail else .nY vs o i.size (kv i)
  | none=>.fail
 | .c (.v (.pointer p))=>if Nat.beq i.zero.length i.size then .rd p (kv i) else .fail
 | _=>.fail
def gH (bx:Nat->Option aO)(i:TI)(a x:SV):Q:=
 match a with
 | .c (.ptr b o)=>if Nat.beq x.cells.length i.size&&!x.vF then match bx b with
   | some ⟨.lit cs,ty⟩=>if Nat.ble (o+i.size) cs.length then .tI x.eX b ⟨.lit (setCells cs o x.cells),ty⟩ else .fail
   | some ⟨.row vs,ty⟩=>match jG x.cells with
    | some xs=>.tI (x.eX++[o+i.size<=vs.length]) b ⟨.row (aU vs o xs),ty⟩
    | none=>.fail
   | some ⟨.aP vs,ty⟩=>if Nat.beq i.size 0 then .fail else match jG x.cells with
    | some xs=>.tI (x.eX++[o+i.size<=vs.length]) b ⟨.aP (aU vs o xs),ty⟩
    | none=>.fail
   | none=>.fail
  else .fail
 | _=>.fail
def nW (place:Nat->Option (Nat×Nat))(cells:List C):List (Nat×SV)->Option (List C)
 | []=>some cells
 | (i,x)::r=>match place i with
  | none=>none
  | some (off,size)=>if Nat.beq x.cells.length size&&Nat.ble (off+size) cells.length&&!x.vF then nW place (setCells cells off x.cells) r else none
def partsOf (ρ:Operand->Option SV):List (Nat×Operand)->Option (List (Nat×SV))
 | []=>some []
 | (i,o)::r=>match ρ o,partsOf ρ r with
  | some x,some l=>some ((i,x)::l)
  | _,_=>none
def fH (T:cO):List (TypeId×Nat)->Option (List (Nat×Nat))
 | []=>some []
 | (t,off)::r=>match ay T t,fH T r with
  | some i,some l=>some ((off,i.size)::l)
  | _,_=>none
def rep (n:Nat)(zs:List C):List C:=(List.replicate n zs).flatten
def qM (n:Nat)(zs:List Value):List Value:=
 match zs with
 | [z]=>List.replicate n z
 | _=>(List.replicate n zs).flatten
def kx (a:OA)(m l sz:Nat):OA:=if m=l then a else ah a (l*sz)
def Bz (o m l sz:Nat):Nat:=if m=l then o else o+l*sz
def My (c:Nat):Option SV->Option (List Prop×Nat)
 | none=>some ([],c)
 | some (.c (.v (.int _ m)))=>some ([0<=m/\m<=(c:Int)],m.toNat)
 | _=>none
def Km (n m:Nat):Option SV->Option SV->Option (List Prop×Nat)
 | some (.c (.v (.int _ h))),_=>some ([0<=h/\h<=(m:Int)],h.toNat)
 | none,none=>some ([],n)
 | _,_=>none
def PH (h:Nat):Option SV->Option (List Prop×Option Nat)
 | none=>some ([],none)
 | some (.c (.v (.int _ l)))=>some ([0<=l/\l<=(h:Int)],some l.toNat)
 | _=>none
def nh (n c:Nat)(lo hi mx:Option SV):Option (List Prop×Option Nat×Nat×Nat):=
 match My c mx with
 | none=>none
 | some (p1,m)=>match Km n m hi mx with
  | none=>none
  | some (p2,h)=>match PH h lo with
   | none=>none
   | some (p3,l)=>some (p1++p2++p3,l,h,m)
def Bi (ρ:Operand->Option SV):Option Operand->Option (Option SV)
 | none=>some none
 | some x=>match ρ x with
  | some v=>some (some v)
  | none=>none
def rL (sz:Nat)(x:SV)(lo hi mx:Option SV):Q:=
 match x with
 | .c (.v (.slice a n c))=>match nh n c lo hi mx with
  | some (sc,none,h,m)=>.ret sc (.c (.v (.slice a h m)))
  | some (sc,some l,h,m)=>.ret sc (.c (.v (.slice (kx a m l sz) (h-l) (m-l))))
  | none=>.fail
 | .c (.kI s o n c)=>match nh n c lo hi mx with
  | some (sc,none,h,m)=>.ret sc (.c (.kI s o h m))
  | some (sc,some l,h,m)=>.ret sc (.c (.kI s (Bz o m l sz) (h-l) (m-l)))
  | none=>.fail
 | .c (.gQ s n c)=>match mx with
  | none=>match nh n c lo hi none with
   | some (sc,none,h,m)=>.ret sc (.c (.gQ s h m))
   | _=>.fail
  | some _=>.fail
 | _=>.fail
def gG (T:cO)(i:TI)(x ix:SV):Q:=
 match ix with
 | .c (.v (.int _ n))=>match i.k with
  | .slice e=>match ay T e with
   | some ei=>match x with
    | .c (.v (.slice a len _))=>.ret [a.isSome=true,0<=n/\n<(len:Int)] (.c (.v (.pointer (ah a (n.toNat*ei.size)))))
    | .c (.kI s o len _)=>.ret [0<=n/\n<(len:Int)] (.c (.ptr s (o+n.toNat*ei.size)))
    | .c (.gQ s len c)=>.ret [0<=n/\n<(len:Int),len<=c] (.c (.ptr s (n.toNat*ei.size)))
    | _=>.fail
   | none=>.fail
  | .arr len e=>match ay T e with
   | some ei=>match x with
    | .c (.ptr s o)=>.ret [0<=n/\n<(len:Int)] (.c (.ptr s (o+n.toNat*ei.size)))
    | .c (.v (.pointer a))=>.ret [a.isSome=true,0<=n/\n<(len:Int)] (.c (.v (.pointer (ah a (n.toNat*ei.size)))))
    | _=>.fail
   | none=>.fail
  | _=>.fail
 | _=>.fail
def Ae (T:cO)(i:TI)(l c:SV):Q:=
 match i.k with
 | .slice e=>match ay T e with
  | some ei=>match l,c with
   | .c (.v (.int _ n)),.c (.v (.int _ m))=>match jG ei.zero with
    | some zs=>if Nat.beq ei.bytes 0||Nat.beq ei.size 0||!(Nat.beq ei.size zs.length) then .fail else .new [0<=n,n<=m,(ei.bytes:Int)*m<=140737488355328] ⟨.row (qM m.toNat zs),e⟩ fun d=>.c (.kI d 0 n.toNat m.toNat)
    | none=>.fail
   | _,_=>.fail
  | none=>.fail
 | _=>.fail
def we:List SV->Option (List Nat)
 | []=>some []
 | .c (.ptr s 0)::r=>match we r with
  | some l=>some (s::l)
  | none=>none
 | _=>none
def bU (ρ:Operand->Option SV):List Operand->Option (List SV)
 | []=>some []
 | o::r=>match ρ o,bU ρ r with
  | some x,some l=>some (x::l)
  | _,_=>none
def bS (a b:Int):Int:=if b<a then b else a
def bR (a b:Int):Int:=if b>a then b else a
def foldI (f:Int->Int->Int)(k:IntKind)(a:Int):List SV->Option Int
 | []=>some a
 | .c (.v (.int k' b))::r=>if vG k k' then foldI f k (f a b) r else none
 | _=>none
def dS (bx:Nat->Option aO)(s:Nat):Option (List Value):=
 match bx s with
 | some ⟨.lit cs,_⟩=>jG cs
 | some ⟨.row vs,_⟩=>some vs
 | _=>none
def kb (bx:Nat->Option aO)(s:Nat):Option TypeId:=match bx s with|some b=>some b.ty|none=>none
def aM (ws:List Value)(o n:Nat):List Value:=cond (Nat.ble (o+n) ws.length) ((ws.drop o).take n) (List.replicate n (.agg #[]))
def mG (ws:List Value)(k c sz:Nat):List Value:=cond (Nat.ble k c) (aM ws 0 (k*sz)) (List.replicate (k*sz) (.agg #[]))
def cf (bx:Nat->Option aO)(e:TypeId)(ei:TI)(b x:SV):Q:=
 match jG ei.zero with
 | none=>.fail
 | some zs=>if Nat.beq ei.bytes 0||Nat.beq ei.size 0||!(Nat.beq ei.size zs.length) then .fail else
  let src:Option (OA×Nat ⊕ List Value):=match x with
   | .c (.v (.slice a k _))=>some (.inl (a,k))
   | .c (.kI s o k _)=>match bx s with
    | some ⟨.row ws,_⟩=>some (.inr (aM ws o (k*ei.size)))
    | _=>match dS bx s with
     | some ws=>if Nat.ble (o+k*ei.size) ws.length then some (.inr ((ws.drop o).take (k*ei.size))) else none
     | none=>none
   | .c (.gQ s k c)=>match bx s with
    | some ⟨.aP ws,_⟩=>some (.inr (mG ws k c ei.size))
    | _=>none
   | _=>none
  match src with
  | none=>.fail
  | some src=>match b with
   | .c (.v (.slice a n c))=>.app none a [] n c src ei.size ei.bytes e
   | .c (.kI s 0 n c)=>match dS bx s,kb bx s with
    | some vs,some ty=>if Nat.beq ty e then .app (some s) none vs n c src ei.size ei.bytes e else .fail
    | _,_=>.fail
   | .c (.gQ s n c)=>match bx s with
    | some ⟨.aP vs,ty⟩=>if Nat.beq ty e then .rF s vs n c src ei.size ei.bytes e else .fail
    | _=>.fail
   | _=>.fail
def kt (b:Builtin)(k:TK)(xs:List SV):Q:=
 match xs with
 | []=>.fail
 | x::r=>match b with
  | .len=>match r,k,x with
   | [],.slice _,.c (.v (.slice _ n _))=>.ret [] (.c (.v (.int .i64 n)))
   | [],.slice _,.c (.kI _ _ n _)=>.ret [] (.c (.v (.int .i64 n)))
   | [],.slice _,.c (.gQ _ n _)=>.ret [] (.c (.v (.int .i64 n)))
   | [],.str,.c (.v (.string s))=>.ret [] (.c (.v (.int .i64 s.size)))
   | _,_,_=>.fail
  | .cap=>match r,k,x with
   | [],.slice _,.c (.v (.slice _ _ c))=>.ret [] (.c (.v (.int .i64 c)))
   | [],.slice _,.c (.kI _ _ _ c)=>.ret [] (.c (.v (.int .i64 c)))
   | [],.slice _,.c (.gQ _ _ c)=>.ret [] (.c (.v (.int .i64 c)))
   | _,_,_=>.fail
  | .min=>match x with
   | .c (.v (.int k a))=>match foldI bS k a r with
    | some m=>.ret [] (.c (.v (.int k m)))
    | none=>.fail
   | _=>.fail
  | .max=>match x with
   | .c (.v (.int k a))=>match foldI bR k a r with
    | some m=>.ret [] (.c (.v (.int k m)))
    | none=>.fail
   | _=>.fail
  | _=>.fail
def wh (t:TypeId)(i:TI)(v:SV):Q:=
 match i.k with
 | .iface=>.fail
 | _=>match v.ids,v.vF with
  | [],false=>.ret [] (.c (.w (.iface t (v.den fun _=>0))))
  | _,_=>.fail
def lr (T:cO)(bx:Nat->Option aO)(t:TypeId)(x:SV):Q:=
 match ay T t with
 | some i=>match i.k with
  | .slice e=>match ay T e with
   | some ei=>match jG ei.zero,x with
    | some zs,.c (.kI s o n _)=>match bx s with
     | some ⟨.row vs,ty⟩=>if Nat.beq ei.size 0||!(Nat.beq ei.size zs.length)||!(zs.all Value.oneCell') then .fail else .tI [o+n*ei.size<=vs.length] s ⟨.row (vs.take o++qM n zs++vs.drop (o+n*ei.size)),ty⟩
     | _=>.fail
    | _,_=>.fail
   | none=>.fail
  | _=>.fail
 | none=>.fail
def GW:List C->Option (List (OA×Nat×Nat))
 | []=>some []
 | .v (.slice p n c)::r=>match GW r with
  | some l=>some ((p,n,c)::l)
  | none=>none
 | _=>none
def ku (T:cO)(i:TI)(cs:List C)(k:Int):Q:=
 match i.k with
 | .arr n e=>match ay T e,GW cs with
  | some ei,some l=>match ei.k with
   | .slice _=>if Nat.beq ei.size 1&&Nat.beq l.length n then .ret [0<=k/\k<(n:Int)] (.c (.v (.slice (l.getD k.toNat (none,0,0)).1 (l.getD k.toNat (none,0,0)).2.1 (l.getD k.toNat (none,0,0)).2.2))) else .fail
   | _=>.fail
  | _,_=>.fail
 | _=>.fail
def aH (T:cO)(ρ:Operand->Option SV)(bx:Nat->Option aO)(op:Op):Q:=
 match op with
 | .move x|.assign x=>match ρ x with
  | some v=>.ret [] v
  | none=>.fail
 | .pick c a b=>match ρ c with
  | some (.c .tt)=>match ρ a with
   | some v=>.ret [] v
   | none=>.fail
  | some (.c .ff)=>match ρ b with
   | some v=>.ret [] v
   | none=>.fail
  | _=>.fail
 | .alloc t=>match ay T t with
  | some i=>.new [] ⟨.lit i.zero,t⟩ fun d=>.c (.ptr d 0)
  | none=>.fail
 | .box t x=>match ρ x with
  | some v=>match v.vF with
   | true=>.fail
   | false=>.new v.eX ⟨.lit v.cells,t⟩ fun d=>.c (.ptr d 0)
  | none=>.fail
 | .build t parts=>match ay T t,partsOf ρ parts.toList with
  | some i,some ps=>match i.k with
   | .struct fs=>match fH T fs with
    | some pl=>match nW (fun j=>pl[j]?) i.zero ps with
     | some cs=>.ret (ps.flatMap fun x=>x.2.eX) (.agg cs)
     | none=>.fail
    | none=>.fail
   | .arr _ e=>match ay T e with
    | some ei=>match nW (fun j=>some (j*ei.size,ei.size)) i.zero ps with
     | some cs=>.ret (ps.flatMap fun x=>x.2.eX) (.agg cs)
     | none=>.fail
    | none=>.fail
   | _=>.fail
  | _,_=>.fail
 | .buildSlice t len parts=>match ay T t,partsOf ρ parts.toList with
  | some i,some ps=>match i.k with
   | .slice e=>match ay T e with
    | some ei=>if Nat.ble (len*ei.size) 16777216&&Nat.beq ei.zero.length ei.size&&!(Nat.beq ei.size 0) then match nW (fun j=>some (j*ei.size,ei.size)) (rep len ei.zero) ps with
      | some cs=>.new (ps.flatMap fun x=>x.2.eX) ⟨.lit cs,e⟩ fun d=>.c (.kI d 0 len len)
      | none=>.fail
     else .fail
    | none=>.fail
   | _=>.fail
  | _,_=>.fail
 | .load t a=>match ay T t,ρ a with
  | some i,some x=>jf bx i x
  | _,_=>.fail
 | .store t a x=>match ay T t,ρ a,ρ x with
  | some i,some av,some xv=>gH bx i av xv
  | _,_,_=>.fail
 | .nilCheck x=>match ρ x with
  | some (.c (.ptr s o))=>.ret [] (.c (.ptr s o))
  | some (.c (.v (.pointer p)))=>.ret [p.isSome=true] (.c (.v (.pointer p)))
  | _=>.fail
 | .binOp o xt x y _=>match ρ x,ρ y with
  | some (.c a),some (.c b)=>match b with
   | .v .nilIface=>match y with
    | .const _=>Bm T o xt a b
    | _=>.fail
   | b=>Bm T o xt a b
  | _,_=>.fail
 | .unOp .not _ x=>match ρ x with
  | some (.c .tt)=>.ret [] (.c .ff)
  | some (.c .ff)=>.ret [] (.c .tt)
  | some (.c (.v (.bool b)))=>.ret [] (.c (.v (.bool (!b))))
  | _=>.fail
 | .unOp .xor _ x=>match ρ x with
  | some (.c (.v (.int k n)))=>.ret [] (.c (.v (.int k (bz .xor k (if k.signed then -1 else k.max) n))))
  | _=>.fail
 | .unOp .neg _ x=>match ρ x with
  | some (.c (.v (.int k n)))=>.ret [] (.c (.v (.int k (k.wrap (0-n)))))
  | _=>.fail
 | .convert src dst x=>match ay T src,ay T dst,ρ x with
  | some _,some i,some (.c (.v (.int _ n)))=>match i.k with
   | .int k=>.ret [] (.c (.v (.int k (k.wrap n))))
   | _=>.fail
  | _,_,_=>.fail
 | .makeFunc (.func f) first caps=>match first.toList with
  | []=>match bU ρ caps.toList with
   | some xs=>match we xs with
    | some ss=>.ret [] (.c (.tB f ss))
    | none=>.fail
   | none=>.fail
  | _=>.fail
 | .makeSlice t l c=>match ay T t,ρ l,ρ c with
  | some i,some lv,some cv=>Ae T i lv cv
  | _,_,_=>.fail
 | .slice t x lo hi mx=>match ay T t,ρ x,Bi ρ lo,Bi ρ hi,Bi ρ mx with
  | some i,some xv,some l,some h,some m=>match i.k with
   | .slice e=>match ay T e with
    | some ei=>rL ei.size xv l h m
    | none=>.fail
   | _=>.fail
  | _,_,_,_,_=>.fail
 | .fieldAddr t x f=>match ay T t,ρ x with
  | some i,some xv=>match i.k with
   | .struct fs=>match fs[f]? with
    | some (ft,off)=>match ay T ft with
     | some fi=>if Nat.beq fi.size 0 then .fail else match xv with
      | .c (.ptr s o)=>.ret [] (.c (.ptr s (o+off)))
      | .c (.v (.pointer p))=>.ret [p.isSome=true] (.c (.v (.pointer (ah p off))))
      | _=>.fail
     | none=>.fail
    | none=>.fail
   | _=>.fail
  | _,_=>.fail
 | .field t x f=>match ay T t,ρ x with
  | some i,some (.agg cs)=>match i.k with
   | .struct fs=>match fs[f]? with
    | some (ft,off)=>match ay T ft with
     | some fi=>match fi.k with
      | .struct _|.arr _ _=>.ret [] (.agg ((cs.drop off).take fi.size))
      | _=>match cs[off]? with
       | some c=>.ret [] (.c c)
       | none=>.fail
     | none=>.fail
    | none=>.fail
   | _=>.fail
  | _,_=>.fail
 | .indexAddr t x ix=>match ay T t,ρ x,ρ ix with
  | some i,some xv,some iv=>gG T i xv iv
  | _,_,_=>.fail
 | .extract x j=>match ρ x with
  | some (.pt xs)=>match xs[j]? with
   | some v=>match rl v with
    | some y=>.ret [] y
    | none=>.fail
   | none=>.fail
  | _=>.fail
 | .call c=>match c.callee with
  | .builtin .append=>match bU ρ c.args.toList,c.argTypes.toList with
   | some [b,x],[t,t']=>match ay T t,ay T t' with
    | some i,some i'=>match i.k,i'.k with
     | .slice e,.slice _=>match ay T e with
      | some ei=>cf bx e ei b x
      | none=>.fail
     | _,_=>.fail
    | _,_=>.fail
   | _,_=>.fail
  | .builtin .clear=>match bU ρ c.args.toList,c.argTypes.toList with
   | some [x],[t]=>lr T bx t x
   | _,_=>.fail
  | .builtin b=>match bU ρ c.args.toList,c.argTypes.toList with
   | some xs,t::_=>match ay T t with
    | some i=>kt b i.k xs
    | none=>.fail
   | _,_=>.fail
  | _=>.fail
 | .index t x ix=>match ay T t,ρ x,ρ ix with
  | some i,some (.c (.v (.string s))),some (.c (.v (.int _ n)))=>match i.k with
   | .str=>.ret [0<=n/\n<(s.size:Int)] (.c (.v (.int .u8 ((s.data.toList.getD n.toNat 0).toNat:Int))))
   | _=>.fail
  | some i,some (.agg cs),some (.c (.v (.int _ n)))=>ku T i cs n
  | _,_,_=>.fail
 | .makeInterface t x=>match ay T t,ρ x with
  | some i,some v=>wh t i v
  | _,_=>.fail
 | _=>.fail
def Aw:List Prop->Prop->Prop
 | [],k=>k
 | p::r,k=>p/\Aw r k
def View.MD (V:View)(p:Addr):Nat->List C->Prop->Prop
 | _,[],k=>k
 | i,c::r,k=>V.at (p.add i) (c.den fun _=>0)/\V.MD p (i+1) r k
def View.Lm (V:View)(p:OA)(x:SV)(k:Prop):Prop:=
 match x with
 | .agg cs=>∃a,p=some a/\V.MD a 0 cs k
 | .c c=>(∃a,p=some a/\V.at a (c.den fun _=>0))/\k
 | .pt _=>False
def MJ (vs:List Value)(o size:Nat)(x:SV):Prop:=
 match x with
 | .agg cs=>o+size<=vs.length/\(vs.drop o).take size=cs.map (C.den fun _=>0)
 | .c c=>vs[o]?=some (c.den fun _=>0)
 | .pt _=>False
def eI (x:Nat):List Nat->Bool
 | []=>false
 | y::r=>cond (Nat.beq x y) true (eI x r)
def dedup:List Nat->List Nat
 | []=>[]
 | x::r=>let l:=dedup r;cond (eI x l) l (x::l)
def vk (l m:List Nat):Bool:=l.all fun x=>!(eI x m)
def KQ (l m:List Nat):Bool:=l.all fun x=>eI x m
def C.rel (L:List Nat)(β:Nat->Nat)(J:C->Value):C->C
 | .ptr s o=>cond (eI s L) (.v (.pointer (some ⟨β s,o,none⟩))) (.ptr s o)
 | .kI s o n c=>cond (eI s L) (.v (.slice (some ⟨β s,o,none⟩) n c)) (.kI s o n c)
 | .gQ s n c=>cond (eI s L) (.v (.slice (mA (β s) c) n c)) (.gQ s n c)
 | .tB f ss=>cond (vk ss L) (.tB f ss) (.w (J (.tB f ss)))
 | x=>x
def SV.rel (L:List Nat)(β:Nat->Nat)(J:C->Value):SV->SV
 | .c x=>.c (x.rel L β J)
 | .agg cs=>.agg (cs.map (C.rel L β J))
 | .pt xs=>.pt (xs.map fun x=>(x.1,x.2.map (C.rel L β J)))
def aO.rel (L:List Nat)(β:Nat->Nat)(J:C->Value)(b:aO):aO:=
 match b.cs with
 | .row _=>b
 | .aP _=>b
 | .lit cs=>⟨.lit (cs.map (C.rel L β J)),b.ty⟩
def St.rel (st:St)(L:List Nat)(β:Nat->Nat)(J:C->Value):St:=
 ⟨fun t=>match st.ar t with|some x=>some (x.rel L β J)|none=>none,
   fun t=>cond (eI t L) none (match st.boxes t with|some b=>some (b.rel L β J)|none=>none)⟩
def View.sl (V:View)(a:OA)(xs:List Value):Prop:=∀i v,xs[i]?=some v->∃ad,a=some ad/\V.at (ad.add i) v
def nN (s d:Nat):Nat:=cond (Nat.blt s 100000) d (d+200000)
def B_ (s:Nat)(vs:List Value)(n c size bytes:Nat)(ty:TypeId)(d:Nat)(st:St)(V:View)(K:St->View->Prop)(k:Nat)(xs:List Value):Prop:=
 (n+k)*bytes<=140737488355328/\n<=c/\c*size<=vs.length/\xs.length=k*size/\(∀v∈xs,v.oneCell'=true) /\
  match st.boxes (nN s d) with
  | some _=>False
  | none=>∀(_:Nat)(_:C->Value)(spare:List Value)(c':Nat),n+k<=c'->c'*size<=(n+k)*size+spare.length ->
   K (((st.box s ⟨.aP [],ty⟩).box (nN s d) ⟨.row (vs.take (n*size)++xs++spare),ty⟩).put (some d) (.c (.kI (nN s d) 0 (n+k) c'))) V
def sM (s:Nat)(vs:List Value)(n c size bytes:Nat)(ty:TypeId)(d:Nat)(st:St)(V:View)(K:St->View->Prop)(k:Nat)(xs:List Value):Prop:=
 (n+k)*bytes<=140737488355328/\n<=c/\c*size<=vs.length/\xs.length=k*size/\(∀v∈xs,v.oneCell'=true) /\
  match st.boxes (nN s d) with
  | some _=>False
  | none=>∀(spare:List Value)(c':Nat),n+k<=c'->c'*size<=(n+k)*size+spare.length ->
   K (((st.box s ⟨.aP [],ty⟩).box (nN s d) ⟨.aP (vs.take (n*size)++xs++spare),ty⟩).put (some d) (.c (.gQ (nN s d) (n+k) c'))) V
def Cb (vs:List Value)(n c size bytes:Nat)(ty:TypeId)(d:Nat)(st:St)(V:View)(K:St->View->Prop)(k:Nat)(xs:List Value):Prop:=
 (n+k)*bytes<=140737488355328/\c<n+k/\xs.length=k*size/\(∀v∈xs,v.oneCell'=true) /\
  match st.boxes d with
  | some _=>False
  | none=>∀(spare:List Value)(c':Nat),n+k<=c'->c'*size<=(n+k)*size+spare.length ->
   K ((st.box d ⟨.row (vs++xs++spare),ty⟩).put (some d) (.c (.kI d 0 (n+k) c'))) V
def tJ (q:Q)(dst:Option Nat)(st:St)(V:View)(K:St->View->Prop):Prop:=
 match q with
 | .fail=>False
 | .ret sc x=>Aw sc (K (st.put dst x) V)
 | .new sc b x=>match dst with
  | some d=>match st.boxes d with
   | none=>Aw sc (K ((st.box d b).put (some d) (x d)) V)
   | some _=>False
  | none=>False
 | .tI sc s b=>match dst with
  | none=>Aw sc (K (st.box s b) V)
  | some _=>False
 | .rd p sh=>sh.ex fun x=>V.Lm p x (K (st.put dst x) V)
 | .nY vs o size sh=>sh.ex fun x=>MJ vs o size x/\K (st.put dst x) V
 | .rF s vs n c x size bytes ty=>match dst with
  | none=>False
  | some d=>match x with
   | .inr xs=>sM s vs n c size bytes ty d st V K (xs.length / size) xs
   | .inl (a,k)=>∃xs:List Value,V.sl a xs/\xs.length=k*size/\sM s vs n c size bytes ty d st V K k xs
 | .app old ba vs n c x size bytes ty=>match dst with
  | none=>False
  | some d=>match old with
   | some s=>match x with
    | .inr xs=>B_ s vs n c size bytes ty d st V K (xs.length / size) xs
    | .inl (a,k)=>∃xs:List Value,V.sl a xs/\xs.length=k*size/\B_ s vs n c size bytes ty d st V K k xs
   | none=>∃vs:List Value,V.sl ba vs/\vs.length=n*size/\n<=c/\(ba.isNone=true->c=0)/\(match x with
    | .inr xs=>Cb vs n c size bytes ty d st V K (xs.length / size) xs
    | .inl (a,k)=>∃xs:List Value,V.sl a xs/\xs.length=k*size/\(k=0->K (st.put (some d) (.c (.v (.slice ba n c)))) V)/\(k≠0->Cb vs n c size bytes ty d st V K k xs))
def cU (β:Nat->Nat)(s b:Nat):Nat->Nat:=fun t=>cond (Nat.beq t s) b (β t)
def kL:List Nat->(Nat->Nat)->((Nat->Nat)->Prop)->Prop
 | [],β,k=>k β
 | s::r,β,k=>∀b:Nat,kL r (cU β s b) k
def kN (bx:Nat->Option aO)(s:Nat):List Nat:=match bx s with|some b=>b.cs.ids|none=>[]
def reach (bx:Nat->Option aO):Nat->List Nat->List Nat
 | 0,l=>l
 | n+1,l=>reach bx n (dedup (l++l.flatMap (kN bx)))
def gO (bx:Nat->Option aO)(l:List Nat):Bool:=l.all fun s=>KQ (kN bx s) l
def NV (bx:Nat->Option aO)(b:aO)(β:Nat->Nat)(s:Nat):List Nat->Prop->Prop
 | [],k=>k
 | t::r,k=>cond (Nat.beq s t) (NV bx b β s r k) (match bx t with
  | some b'=>pT (Ip b++Ip b') (β s≠β t)->NV bx b β s r k
  | none=>False)
def ij (bx:Nat->Option aO)(β:Nat->Nat)(V:View):List Nat->Prop->Prop
 | [],k=>k
 | s::r,k=>match bx s with
  | some b=>pT (Ip b) (V.w.heap[β s]?=some (b.obj β))->pT (Ip b) (V.H (β s))->ij bx β V r (NV bx b β s r k)
  | none=>False
def vb (vs:List Value)(n b:Nat):Nat:=
 match vs with
 | []=>n
 | _::_=>b
def cS (bx:Nat->Option aO)(β:Nat->Nat)(n:Nat)(s:Nat):Nat:=
 match bx s with
 | some ⟨.aP vs,_⟩=>vb vs n (β s)
 | _=>β s
def C.kept:C->List Nat
 | .tB _ ss=>0::ss
 | c=>c.ids
def kZ (mv:Option (Nat×Nat)):List C->List C->(List C->Prop)->Prop
 | [],_,K=>K []
 | c::r,z::zr,K=>match c with
  | .gQ t _ _=>match mv with
   | some (m,nb)=>match Nat.beq t m with
    | true=>∃n c:Nat,kZ mv r zr fun cs=>K (.gQ nb n c::cs)
    | false=>False
   | none=>False
  | c=>match c.kept with
   | []=>(TD z).ex fun v=>kZ mv r zr fun cs=>K (v::cs)
   | _=>kZ mv r zr fun cs=>K (c::cs)
 | _,[],_=>False
def dL (T:cO)(mv:Option (Nat×Nat))(β:Nat->Nat)(V:View):List Nat->St->(St->Prop)->Prop
 | [],st,k=>k st
 | s::r,st,k=>match st.boxes s with
  | some ⟨.lit cs,ty⟩=>match ay T ty with
   | some i=>kZ mv cs i.zero fun cs'=>V.w.heap[β s]?=some (.cells (cs'.map (C.den β)).toArray ty (0,0))/\dL T mv β V r (st.box s ⟨.lit cs',ty⟩) k
   | none=>False
  | some ⟨.row _,ty⟩=>∃vs:List Value,V.w.heap[β s]?=some (.cells vs.toArray ty (0,0))/\dL T mv β V r (st.box s ⟨.row vs,ty⟩) k
  | some ⟨.aP vs,ty⟩=>vs≠[]/\∃vs':List Value,vs'≠[]/\V.w.heap[β s]?=some (.cells vs'.toArray ty (0,0))/\dL T mv β V r (st.box s ⟨.aP vs',ty⟩) k
  | _=>False
def qj (bx:Nat->Option aO)(β:Nat->Nat)(V:View):List Nat->Prop->Prop
 | [],k=>k
 | s::r,k=>match bx s with
  | some b=>pT (Ip b) (V.bw (β s) (b.obj β))->qj bx β V r k
  | none=>False
def oL:List C->List Nat
 | []=>[]
 | .gQ t _ _::r=>t::oL r
 | _::r=>oL r
def pY (bx:Nat->Option aO)(L:List Nat):List Nat:=dedup (L.flatMap fun s=>match bx s with|some ⟨.lit cs,_⟩=>oL cs|_=>[])
def ld:List SV->List Nat
 | []=>[]
 | .c (.gQ s _ _)::_=>[s]
 | .c (.kI s 0 _ _)::_=>[s]
 | _::r=>ld r
def uq (nb:Nat):List (Bool×List C)->List (Bool×List C)
 | []=>[]
 | (false,[.v (.slice _ n c)])::r=>(false,[.gQ nb n c])::r
 | x::r=>x::uq nb r
def A0 (nb:Nat):List C->List C
 | []=>[]
 | .v (.slice _ n c)::r=>.gQ nb n c::r
 | x::r=>x::A0 nb r
def rz (nb:Nat):SV->SV
 | .c (.v (.slice _ n c))=>.c (.gQ nb n c)
 | .agg cs=>.agg (A0 nb cs)
 | .pt xs=>.pt (uq nb xs)
 | x=>x
def A2 (T:cO):List TypeId->Option TypeId
 | []=>none
 | t::r=>match ay T t with
  | some i=>match i.k with
   | .slice e=>some e
   | _=>A2 T r
  | none=>none
def Jk (T:cO)(ty:TypeId):Option TypeId:=
 match ay T ty with
 | some i=>match i.k with
  | .slice e=>some e
  | .tuple ts=>A2 T ts
  | .struct fs=>A2 T (fs.map Prod.fst)
  | _=>none
 | none=>none
def aL (β:Nat->Nat)(xs:List SV):Array Value:=(xs.map (SV.den β)).toArray
inductive CM where
 | none|aF|rel|ie|give
def eU (m:Option Nat)(d:Nat):Nat:=
 match m with
 | some m=>nN m d
 | Option.none=>d
def mvP (m:Option Nat)(nb:Nat):Option (Nat×Nat):=
 match m with
 | some m=>some (m,nb)
 | Option.none=>Option.none
def C0 (m:Option Nat)(L:List Nat):List Nat:=
 match m with
 | some m=>L.filter fun s=>!(Nat.beq s m)
 | Option.none=>L
def pQ (m:Option Nat)(ety:TypeId)(st:St):St:=
 match m with
 | some m=>st.box m ⟨.aP [],ety⟩
 | Option.none=>st
def xl (m:Option Nat)(st:St)(β:Nat->Nat)(b':Nat):Prop:=
 match m with
 | some m=>match st.boxes m with
  | some ⟨.aP vs,_⟩=>vs≠[]/\b'=β m
  | _=>b'=β m
 | Option.none=>False
def bP (T:cO)(give:Bool)(sh:Sh)(L:List Nat)(m:Option Nat)(d:Nat)(ety:TypeId)(β:Nat->Nat)(st:St)(V':View)(K:St->View->Prop)(r':Value)(eH:View):Prop:=
 ∃(b':Nat)(vs':List Value),(vs'≠[]->eH.w.heap[b']?=some (.cells vs'.toArray ety (0,0)))/\(vs'≠[]->V'.w.heap.size<=b'\/xl m st β b') /\
  sh.ex fun x=>r'=(cond give (rz (eU m d) x) x).den (cU β (eU m d) b') /\
   dL T (mvP m (eU m d)) (cU β (eU m d) b') eH (C0 m L) ((pQ m ety st).box (eU m d) ⟨.aP vs',ety⟩) fun st'=>K (st'.put (some d) (cond give (rz (eU m d) x) x)) (eH.shut.gX (vs'≠[]) b')
def Bw (bx:Nat->Option aO)(m ety:Nat):Bool:=
 match bx m with
 | some ⟨_,t⟩=>Nat.beq t ety
 | Option.none=>true
def dk (st:St)(L:List Nat)(ty:TypeId):St:=L.foldl (fun st s=>st.box s ⟨.aP [],ty⟩) st
def ja (st:St)(m:Option Nat)(d:Nat):Bool:=
 match st.boxes (eU m d) with
 | some _=>false
 | Option.none=>true
def fy (P:Program)(T:cO)(m:CM)(f:FuncId)(xs:List SV)(ty:TypeId)(dst:Option Nat)(st:St)(V:View)(K:St->View->Prop):Prop:=
 match WE T ty with
 | Option.none=>False
 | some sh=>match reach st.boxes 3 (dedup (xs.flatMap SV.ids)) with
  | []=>match m with
   | .give=>match dst,Jk T ty with
    | some d,some ety=>match ja st Option.none d with
     | false=>False
     | true=>∀V':View,V.Le V'->ae P f (aL (fun _=>0) xs) V' (bP T true sh [] Option.none d ety (fun _=>0) st V' K)
    | _,_=>False
   | .ie=>match sh,dst with
    | .val (.one .ptr),some d=>match st.boxes d with
     | some _=>False
     | Option.none=>match ay T ty with
      | some ti=>match ti.k with
       | .ptr e=>match ay T e with
        | some ei=>∀V':View,V.Le V'->ae P f (aL (fun _=>0) xs) V' fun r eH=>∃b:Nat,OS (ei.zero.map TD) fun cs=>
          r=.pointer (some ⟨b,0,Option.none⟩)/\V'.w.heap.size<=b/\eH.bw b (.cells (cs.map (C.den fun _=>0)).toArray e (0,0))/\K ((st.box d ⟨.lit cs,e⟩).put (some d) (.c (.ptr d 0))) (eH.Jq b)
        | Option.none=>False
       | _=>False
      | Option.none=>False
    | _,_=>False
   | _=>∀V':View,V.Le V'->ae P f (aL (fun _=>0) xs) V' fun r eH=>sh.ex fun x=>r=x.den (fun _=>0)/\K (st.put dst x) eH
  | s::r=>match gO st.boxes (s::r) with
   | false=>False
   | true=>match m with
    | .none|.ie=>False
    | .give=>match dst,Jk T ty,ld xs,pY st.boxes (s::r) with
     | some d,some ety,[],[]=>match ja st Option.none d with
      | false=>False
      | true=>∀V':View,V.Le V'->kL (s::r) (fun _=>0) fun β=>ij st.boxes β V' (s::r)
       (ae P f (aL β xs) (V'.aF ((s::r).map (cS st.boxes β V'.w.heap.size))) (bP T true sh (s::r) Option.none d ety β st V' K))
     | some d,some ety,[m],[]=>match Bw st.boxes m ety with
      | true=>match ja st (some m) d with
       | false=>False
       | true=>∀V':View,V.Le V'->kL (s::r) (fun _=>0) fun β=>ij st.boxes β V' (s::r)
        (ae P f (aL β xs) (V'.aF ((s::r).map (cS st.boxes β V'.w.heap.size))) (bP T true sh (s::r) (some m) d ety β st V' K))
      | false=>match ja (dk st (s::r) 0) Option.none d with
       | false=>False
       | true=>match (s::r).all fun t=>Nat.blt t 100000 with
        | false=>False
        | true=>∀V':View,V.Le V'->kL (s::r) (fun _=>0) fun β=>qj st.boxes β V' (s::r)
         (ae P f (aL β xs) V' (bP T true sh [] Option.none d ety (fun _=>0) (dk st (s::r) 0) V' K))
     | _,_,_,_=>False
    | .aF=>match pY st.boxes (s::r) with
     | []=>∀V':View,V.Le V'->kL (s::r) (fun _=>0) fun β=>ij st.boxes β V' (s::r)
      (ae P f (aL β xs) (V'.aF ((s::r).map (cS st.boxes β V'.w.heap.size))) fun r' eH=>sh.ex fun x=>r'=x.den (fun _=>0)/\dL T Option.none β eH (s::r) st fun st'=>K (st'.put dst x) eH.shut)
     | [m]=>match dst,kb st.boxes m with
      | some d,some ety=>match ja st (some m) d with
       | false=>False
       | true=>∀V':View,V.Le V'->kL (s::r) (fun _=>0) fun β=>ij st.boxes β V' (s::r)
        (ae P f (aL β xs) (V'.aF ((s::r).map (cS st.boxes β V'.w.heap.size))) (bP T false sh (s::r) (some m) d ety β st V' K))
      | _,_=>False
     | _=>False
    | .rel=>match (s::r).all fun t=>Nat.blt t 100000 with
     | false=>False
     | true=>∀V':View,V.Le V'->kL (s::r) (fun _=>0) fun β=>qj st.boxes β V' (s::r)
      (ae P f (aL β xs) V' fun r' eH=>sh.ex fun x=>r'=x.den (fun _=>0)/\∀J:C->Value,K ((st.rel (s::r) β J).put dst x) eH)
def lC (bx:Nat->Option aO):List SV->Option (List Value×Nat×List SV)
 | []=>none
 | x::r=>match x with
  | .c (.gQ s n c)=>match bx s with
   | some ⟨.aP vs,_⟩=>some (vs,c,.c (.v (.slice none n c))::r)
   | _=>none
  | x=>match lC bx r with
   | some (vs,c,r')=>some (vs,c,x::r')
   | none=>none
def jU (P:Program)(T:cO)(m:CM)(f:FuncId)(xs:List SV)(ty:TypeId)(dst:Option Nat)(st:St)(V:View)(K:St->View->Prop):Prop:=
 match m with
 | .aF=>match lC st.boxes xs with
  | some (vs,c,xs')=>(vs=[]->c=0/\fy P T .aF f xs' ty dst st V K)/\(vs≠[]->fy P T .aF f xs ty dst st V K)
  | none=>fy P T .aF f xs ty dst st V K
 | m=>fy P T m f xs ty dst st V K
def ve (ss:List Nat):List SV:=ss.map fun s=>.c (.ptr s 0)
inductive Hint where
 | free|own (l:List Nat)
def hZ (op:Op):List Operand:=
 match op with
 | .load _ a=>[a]
 | .store _ a _=>[a]
 | .call ⟨.value f,args,_⟩=>args.toList++[f]
 | .call ⟨.builtin .append,args,_⟩=>args.toList
 | _=>[]
def dZ (bx:Nat->Option aO)(op:Op)(l:List Nat):List Nat:=
 match op with
 | .call _=>reach bx 3 (dedup l)
 | _=>l
def Fe (P:Program)(t:TypeId)(name:String):Option FuncId:=
 match P.info? t,P.underlying t with
 | some i,some d=>match i.methods.find? (fun m=>m.name==name) with
  | some m=>match m.path.toList,m.func,d with
   | [],some (f,false),.struct _=>some f
   | _,_,_=>none
  | none=>none
 | _,_=>none
def cL (P:Program)(T:cO)(m:CM)(o:Oper)(st:St)(V:View)(K:St->View->Prop):Prop:=
 match o.op with
 | .call ⟨.value Lh,args,_⟩=>match bU st.a_ args.toList with
  | some xs=>match st.a_ Lh with
   | some (.c (.tB f ss))=>jU P T m f (xs++ve ss) o.type o.dst st V K
   | _=>False
  | none=>False
 | .call ⟨.invoke recv name,args,_⟩=>match bU st.a_ args.toList with
  | some xs=>match st.a_ recv with
   | some (.c (.w (.iface t v)))=>match Fe P t name with
    | some f=>jU P T m f (.c (.w v)::xs) o.type o.dst st V K
    | none=>False
   | _=>False
  | none=>False
 | op=>tJ (aH T st.a_ st.boxes op) o.dst st V K
def cG (P:Program)(T:cO)(m:CM)(h:Hint)(o:Oper)(st:St)(V:View)(K:St->View->Prop):Prop:=
 match h with
 | .free=>cL P T m o st V K
 | .own l=>match bU st.a_ (hZ o.op) with
  | some xs=>match KQ (dZ st.boxes o.op (xs.flatMap SV.ids)) l with
   | true=>cL P T m o st V K
   | false=>False
  | none=>False
def jk:SV:=.pt []
def qE (P:Program)(T:cO)(m:CM)(h:Hint)(ops:Array Oper)(o:Oper)(st:St)(V:View)(K:St->View->Prop):Prop:=
 match o.guard with
 | none=>cG P T m h o st V K
 | some (j,b)=>match (ops[j]?).bind (·.dst) with
  | none=>False
  | some g=>match st.ar g with
   | some (.c .tt)=>match b with
    | true=>cG P T m h o st V K
    | false=>K (st.put o.dst jk) V
   | some (.c .ff)=>match b with
    | true=>K (st.put o.dst jk) V
    | false=>cG P T m h o st V K
   | some (.c (.v (.bool c)))=>match b with
    | true=>(c=true->cG P T m h o (st.put (some g) (.c .tt)) V K)/\(c=false->K ((st.put (some g) (.c .ff)).put o.dst jk) V)
    | false=>(c=true->K ((st.put (some g) (.c .tt)).put o.dst jk) V)/\(c=false->cG P T m h o (st.put (some g) (.c .ff)) V K)
   | some (.pt _)=>K (st.put o.dst jk) V
   | _=>False
inductive TU where
 | pure|load|store|alloc|call|km|odd|ie|app|give
def bh (LF RF:List Nat):Op->TU
 | .move _|.assign _|.pick ..| .build ..| .nilCheck _|.binOp ..| .unOp ..| .convert ..| .makeFunc ..| .slice ..| .fieldAddr ..| .field ..| .indexAddr ..| .extract ..| .index ..| .makeInterface ..=>.pure
 | .load ..=>.load
 | .store ..=>.store
 | .alloc _|.box ..| .buildSlice ..| .makeSlice ..=>.alloc
 | .call ⟨.builtin .len,_,_⟩|.call ⟨.builtin .cap,_,_⟩=>.pure
 | .call ⟨.builtin .append,_,_⟩=>.app
 | .call ⟨.value (.func f),_,_⟩=>match eI f LF with
  | true=>match eI (f+1000000) LF with
   | true=>.give
   | false=>.km
  | false=>match eI f RF with
   | true=>.odd
   | false=>match eI (f+1000000) RF with
    | true=>.ie
    | false=>.call
 | .call ⟨.value _,_,_⟩=>.km
 | .call ⟨.invoke _ _,_,_⟩=>.call
 | _=>.odd
def h_ (op:Op):List Nat:=op.operands.toList.filterMap fun|.tmp t=>some t|_=>none
def du (ops:Array Oper)(o:Oper):List Nat:=
 match o.guard with
 | none=>[]
 | some (j,_)=>match (ops[j]?).bind (·.dst) with
  | some g=>[g]
  | none=>[]
def dK (o:Oper):List Nat:=match o.dst with|some d=>[d]|none=>[]
def qn (c:TU)(h:Hint)(d:List Nat):Option (List Nat×List Nat):=
 match c,h with
 | .pure,.free=>some ([],[])
 | .call,.free=>some ([],[])
 | .alloc,.free=>some (d,d)
 | .load,.own l=>some (l,[])
 | .store,.own l=>some (l,l)
 | .km,.own l=>some (l,l++d++d.map (·+ 200000))
 | .app,.own l=>some (l,l++d++d.map (·+ 200000))
 | .give,.own l=>some (l,l++d++d.map (·+ 200000))
 | _,_=>none
def mC:TU->Bool
 | .pure|.load|.store|.alloc=>true
 | _=>false
def indep (LF RF:List Nat)(ops:Array Oper)(h1 h2:Hint)(o1 o2:Oper):Bool:=
 mC (bh LF RF o1.op) &&
 vk (dK o1) (h_ o2.op++du ops o2++dK o2)&&vk (dK o2) (h_ o1.op++du ops o1) &&
 vk (du ops o1) (h_ o2.op)&&vk (du ops o2) (h_ o1.op) &&
 match qn (bh LF RF o1.op) h1 (dK o1),qn (bh LF RF o2.op) h2 (dK o2) with
 | some (r1,w1),some (r2,w2)=>vk w1 r2&&vk w2 r1&&vk w1 w2
 | _,_=>false
def Q1 (ops:List Oper)(t:Nat):Option Oper:=ops.find? fun o=>match o.dst with|some d=>Nat.beq d t|none=>false
def wA (st:St)(ops:List Oper):Nat->Operand->List Nat
 | 0,_=>[]
 | n+1,.tmp t=>match Q1 ops t with
  | some o=>match o.op with
   | .alloc _|.box ..| .buildSlice ..| .makeSlice ..=>[t]
   | .call _=>[t,t+200000]
   | .assign x=>wA st ops n x++match st.ar t with
    | some x=>x.ids
    | none=>[]
   | .load _ a=>(wA st ops n a).flatMap (kN st.boxes)
   | op=>op.operands.toList.flatMap (wA st ops n)
  | none=>match st.ar t with
   | some x=>x.ids
   | none=>[]
 | _,_=>[]
def Jr (LF RF:List Nat)(st:St)(ops:List Oper)(o:Oper):Hint:=
 match bh LF RF o.op with
 | .load|.store=>.own (dedup ((hZ o.op).flatMap (wA st ops 10)))
 | .km|.app|.give=>.own (reach st.boxes 3 (dedup ((hZ o.op).flatMap (wA st ops 10))))
 | _=>.free
def Hd (ops:List Oper):List Nat:=
 ops.foldl (fun acc o=>acc++[o.after.toList.foldl (fun s e=>cond (Region.binds .any e) (Nat.lor (Nat.lor (Nat.shiftLeft 1 e.on) (acc.getD e.on 0)) s) s) 0]) []
def OJ (m i:Nat):Bool:=Nat.beq (Nat.land (Nat.shiftRight m i) 1) 1
def Mh (LF RF:List Nat)(o:Oper):Bool:=match bh LF RF o.op with|.call|.km|.odd|.ie|.app|.give=>true|_=>false
def Fx (ops:Array Oper)(done:List Nat)(i:Nat):Bool:=
 match ops[i]? with
 | some o=>!(eI i done)&&o.after.toList.all fun e=>!(Region.binds .any e)||eI e.on done
 | none=>false
def BB (LF RF:List Nat)(ops:Array Oper):Nat->List Nat->List Nat
 | 0,_=>[]
 | n+1,done=>
  let rs:=(List.range ops.size).filter (Fx ops done)
  match rs.find? (fun i=>match ops[i]? with|some o=>!(Mh LF RF o)|none=>false) with
  | some i=>i::BB LF RF ops n (i::done)
  | none=>match rs with
   | i::_=>i::BB LF RF ops n (i::done)
   | []=>[]
def oO (LF RF:List Nat)(ops:Array Oper):List Nat:=BB LF RF ops ops.size []
def uw (LF RF:List Nat)(ops:Array Oper)(hs:List Hint)(an:List Nat):List Nat->Bool
 | []=>true
 | i::r=>(r.all fun j=>OJ (an.getD j 0) i||match ops[i]?,ops[j]? with|some a,some b=>indep LF RF ops (hs.getD i .free) (hs.getD j .free) a b|_,_=>false)&&uw LF RF ops hs an r
def qh (ops:Array Oper):List Nat->List Nat->Bool
 | _,[]=>true
 | done,i::r=>Fx ops done i&&qh ops (i::done) r
def GM (LF RF:List Nat)(ops:Array Oper)(hs:List Hint)(l:List Nat):Bool:=
 Nat.beq l.length ops.size&&((List.range ops.size).all fun i=>eI i l)&&qh ops [] l&&uw LF RF ops hs (Hd ops.toList) l
def KY (P:Program)(T:cO)(m:Nat->CM)(hint:Nat->Hint)(ops:Array Oper):List Nat->St->View->(St->View->Prop)->Prop
 | [],st,V,K=>K st V
 | i::r,st,V,K=>match ops[i]? with
  | some o=>qE P T (m i) (hint i) ops o st V fun st' V'=>KY P T m hint ops r st' V' K
  | none=>False
def jN (LF RF:List Nat)(ops:Array Oper)(i:Nat):CM:=
 match ops[i]? with
 | some o=>match bh LF RF o.op with
  | .km=>.aF
  | .odd=>.rel
  | .ie=>.ie
  | .give=>.give
  | _=>.none
 | Option.none=>.none
def R4 (LF RF:List Nat)(ops:Array Oper)(i:Nat):CM:=
 match ops[i]? with
 | some o=>match bh LF RF o.op with
  | .km=>.aF
  | .ie=>.ie
  | .give=>.give
  | _=>.rel
 | Option.none=>.none
structure Tm where
 τ:Type
 gh:Bool:=false
 VG:List Nat
 Rw:List Nat
 ar:τ->List (Nat×SV)
 boxes:τ->List (Nat×aO)
structure Og where
 τ:Type
 ar:τ->List (Nat×SV)
 boxes:τ->List (Nat×aO)
def Gw {α:Type}(f:Nat->Option α):List Nat->List (Nat×α)
 | []=>[]
 | t::r=>match f t with
  | some x=>(t,x)::Gw f r
  | none=>Gw f r
def Tm.at (A:Tm)(st:St):Og:=⟨A.τ,fun x=>Gw st.ar A.VG++A.ar x,fun x=>Gw st.boxes A.Rw++A.boxes x⟩
def oG (ρ:List (Nat×Nat))(s s':Nat):Bool:=
 match ay ρ s' with
 | some t=>Nat.beq s t
 | none=>Nat.beq s s'
def zJ (ρ:List (Nat×Nat)):List Nat->List Nat->Bool
 | [],[]=>true
 | s::r,s'::r'=>oG ρ s s'&&zJ ρ r r'
 | _,_=>false
def Tq (ρ:List (Nat×Nat)):C->C->List Prop
 | .v (.int k a),.v (.int k' b)=>cond (vG k k') [a=b] [False]
 | .v (.bool a),.v (.bool b)=>[a=b]
 | .tt,.v (.bool b)=>[true=b]
 | .ff,.v (.bool b)=>[false=b]
 | .v (.slice a n c),.v (.slice a' n' c')=>[a=a',n=n',c=c']
 | .v (.slice a n c),.gQ _ n' c'=>[a=none,n=n',c=c',c=0]
 | .v (.pointer p),.v (.pointer q)=>[p=q]
 | .v x,.v y=>[x=y]
 | .w x,.w y=>[x=y]
 | .w x,.v y=>[x=y]
 | .v x,.w y=>[x=y]
 | .tt,.tt=>[]
 | .ff,.ff=>[]
 | .ptr s o,.ptr s' o'=>cond (oG ρ s s') [o=o'] [False]
 | .kI s o n c,.kI s' o' n' c'=>cond (oG ρ s s') [o=o',n=n',c=c'] [False]
 | .kI s o n c,.gQ s' n' c'=>cond (oG ρ s s') [o=0,n=n',c=c',c≠0] [False]
 | .gQ s n c,.gQ s' n' c'=>cond (oG ρ s s') [n=n',c=c'] [False]
 | .tB f ss,.tB g ts=>cond (zJ ρ ss ts) [f=g] [False]
 | _,_=>[False]
def ER (ρ:List (Nat×Nat)):List C->List C->List Prop
 | [],[]=>[]
 | a::r,b::s=>Tq ρ a b++ER ρ r s
 | _,_=>[False]
def OR (ρ:List (Nat×Nat)):SV->SV->List Prop
 | .c a,.c b=>Tq ρ a b
 | .agg l,.agg m=>ER ρ l m
 | _,_=>[False]
def SV.plain:SV->Bool
 | .pt _=>false
 | _=>true
def Je (ρ:List (Nat×Nat))(a b:aO):List Prop:=
 match a.cs,b.cs with
 | .lit l,.lit m=>cond (Nat.beq a.ty b.ty) (ER ρ l m) [False]
 | .row l,.row m=>cond (Nat.beq a.ty b.ty) [l=m] [False]
 | .aP l,.aP m=>cond (Nat.beq a.ty b.ty) [l=m] [False]
 | .row l,.aP m=>cond (Nat.beq a.ty b.ty) [l=m] [False]
 | .lit l,.aP m=>match jG l with
  | some ws=>cond (Nat.beq a.ty b.ty) [ws=m] [False]
  | none=>[False]
 | .lit l,.row m=>match jG l with
  | some ws=>cond (Nat.beq a.ty b.ty) [ws=m] [False]
  | none=>[False]
 | _,_=>[False]
def SH:C->C->List (Nat×Nat)
 | .ptr s _,.ptr s' _=>[(s',s)]
 | .kI s _ _ _,.kI s' _ _ _=>[(s',s)]
 | .kI s _ _ _,.gQ s' _ _=>[(s',s)]
 | .gQ s _ _,.gQ s' _ _=>[(s',s)]
 | .tB _ ss,.tB _ ts=>ts.zip ss
 | _,_=>[]
def Kx:List C->List C->List (Nat×Nat)
 | a::r,b::s=>SH a b++Kx r s
 | _,_=>[]
def SI:SV->SV->List (Nat×Nat)
 | .c a,.c b=>SH a b
 | .agg l,.agg m=>Kx l m
 | _,_=>[]
def PN (st:St):List (Nat×SV)->List (Nat×Nat)
 | []=>[]
 | (t,x)::r=>match st.ar t with
  | some y=>SI y x++PN st r
  | none=>PN st r
def HZ (st:St)(ρ:List (Nat×Nat)):List (Nat×aO)->List (Nat×Nat)
 | []=>[]
 | (t,x)::r=>match ay ρ t with
  | some s=>match st.boxes s with
   | some y=>(match y.cs,x.cs with|.lit l,.lit m=>Kx l m|_,_=>[])++HZ st ρ r
   | none=>HZ st ρ r
  | none=>HZ st ρ r
def Kw (st:St)(ss:List (Nat×SV))(bs:List (Nat×aO)):List (Nat×Nat):=
 let ρ1:=PN st ss
 let ρ2:=ρ1++HZ st ρ1 bs
 let ρ3:=ρ2++HZ st ρ2 bs
 ρ3++HZ st ρ3 bs
def Bq (ρ:List (Nat×Nat))(t:Nat):Nat:=
 match ay ρ t with
 | some s=>s
 | none=>t
def Ai (ρ:List (Nat×Nat)):List Nat->Bool
 | []=>true
 | t::r=>(Nat.blt t 100000==Nat.blt (Bq ρ t) 100000)&&(Nat.blt t 100000||Nat.ble 200000 t||Nat.beq (Bq ρ t) t)&&(r.all fun u=>!(Nat.beq (Bq ρ t) (Bq ρ u)))&&Ai ρ r
def mE (ρ:List (Nat×Nat)):List (Nat×aO)->List Nat
 | []=>[]
 | (t,x)::r=>match x.cs with
  | .aP _=>match ay ρ t with
   | some _=>t::mE ρ r
   | none=>mE ρ r
  | _=>t::mE ρ r
def LX (ρ:List (Nat×Nat))(st:St):List (Nat×SV)->List Prop
 | []=>[]
 | (t,x)::r=>match st.ar t with
  | some y=>OR ρ y x++LX ρ st r
  | none=>[False]
def Hx (ρ:List (Nat×Nat))(st:St):List (Nat×aO)->List Prop
 | []=>[]
 | (t,x)::r=>match x.cs,ay ρ t with
  | .aP l,none=>(l=[])::Hx ρ st r
  | _,_=>match st.boxes (Bq ρ t) with
   | some y=>Je ρ y x++Hx ρ st r
   | none=>[False]
def QZ (ρ:List (Nat×Nat))(bs:List (Nat×aO)):List Prop:=cond (Ai ρ (mE ρ bs)) [] [False]
def mL (ss:List (Nat×SV))(bs:List (Nat×aO)):Bool:=
 let l:=bs.map (·.1)
 (ss.all fun x=>x.2.ids.all fun s=>eI s l)&&(bs.all fun x=>x.2.cs.ids.all fun s=>eI s l)
def Og.st (A:Og)(x:A.τ):St:=⟨ay (A.ar x),ay (A.boxes x)⟩
def OB:List Prop->Prop
 | []=>True
 | [p]=>p
 | p::r=>p/\OB r
def Og.fits (A:Og)(st:St)(x:A.τ)(k:Prop):Prop:=
 let ρ:=Kw st (A.ar x) (A.boxes x)
 OB (LX ρ st (A.ar x)++Hx ρ st (A.boxes x)++QZ ρ (A.boxes x))/\k
def keyOf:Code->Nat
 | .region id _ _=>id
 | .seq a _=>keyOf a
 | .cond _ a b=>match keyOf a with
  | 1000000=>keyOf b
  | n=>n
 | .block _ a=>keyOf a
 | .loop a=>keyOf a
 | .scope a=>keyOf a
 | _=>1000000
abbrev B6:=List (Nat×Tm)
def pA:B6->Nat->Option Tm
 | [],_=>none
 | (s,x)::r,t=>cond (Nat.beq t s) (some x) (pA r t)
def N2 (RF:List Nat)(id:Nat):List Nat:=RF.filterMap fun x=>cond (Nat.beq (x / 100000) (100+id)) (some (x%100000)) none
def G4 (l:List Nat)(st:St)(V:View)(K:St->View->Prop):Prop:=
 match l with
 | []=>K st V
 | s::r=>match gO st.boxes (s::r)&&(s::r).all fun t=>Nat.blt t 100000 with
  | false=>False
  | true=>∀V':View,V.Le V'->kL (s::r) (fun _=>0) fun β=>qj st.boxes β V' (s::r) (∀J:C->Value,K (st.rel (s::r) β J) V')
def DL (P:Program)(T:cO)(LF RF:List Nat)(ops:Array Oper)(draw:Bool)(st:St)(V:View)(K:St->View->Prop):Prop:=
 match draw with
 | false=>KY P T (R4 LF RF ops) (fun _=>.free) ops (List.range ops.size) st V K
 | true=>let hs:=ops.toList.map (Jr LF RF st ops.toList)
  match GM LF RF ops hs (oO LF RF ops) with
  | true=>KY P T (jN LF RF ops) (fun i=>hs.getD i .free) ops (oO LF RF ops) st V K
  | false=>False
def WJ (F:St->View->(Exit->St->View->Prop)->Prop):Nat->St->View->(Exit->St->View->Prop)->Prop
 | 0,_,_,_=>False
 | n+1,st,V,K=>F st V fun e st' V'=>match e with
  | .normal=>WJ F n st' V' K
  | e=>K e st' V'
def vc (P:Program)(T:cO)(LF RF:List Nat)(L J:B6):Code->St->View->(Exit->St->View->Prop)->Prop
 | .skip,st,V,K=>K .normal st V
 | .region id ops draw,st,V,K=>match pA J (600000+id) with
  | none=>G4 (N2 RF id) st V fun st' V'=>DL P T LF RF ops draw st' V' (K .normal)
  | some A=>∃I:A.τ->View->Prop,G4 (N2 RF id) st V (fun st' V'=>DL P T LF RF ops draw st' V' fun KL eH=>∃x,(A.at st).fits KL x (I x eH)) /\
   ∀x V',V.Le V'->I x V'->(mL ((A.at st).ar x) ((A.at st).boxes x)=true/\K .normal ((A.at st).st x) V')
 | .seq a b,st,V,K=>vc P T LF RF L J a st V fun e st' V'=>match e with
  | .normal=>vc P T LF RF L J b st' V' K
  | e=>K e st' V'
 | .cond c a b,st,V,K=>match pA J (keyOf (.cond c a b)) with
  | none=>match st.a_ c with
   | some (.c .tt)=>vc P T LF RF L J a st V K
   | some (.c .ff)=>vc P T LF RF L J b st V K
   | some (.c (.v (.bool t)))=>(t=true->vc P T LF RF L J a st V K)/\(t=false->vc P T LF RF L J b st V K)
   | _=>False
  | some A=>match st.a_ c with
   | some (.c .tt)=>vc P T LF RF L J a st V K
   | some (.c .ff)=>vc P T LF RF L J b st V K
   | some (.c (.v (.bool t)))=>∃I:A.τ->View->Prop,
    ((t=true->vc P T LF RF L J a st V fun e st' V'=>match e with
     | .normal=>∃x,(A.at st).fits st' x (I x V')
     | e=>K e st' V') /\
      (t=false->vc P T LF RF L J b st V fun e st' V'=>match e with
     | .normal=>∃x,(A.at st).fits st' x (I x V')
     | e=>K e st' V')) /\
    ∀x V',V.Le V'->I x V'->(mL ((A.at st).ar x) ((A.at st).boxes x)=true/\K .normal ((A.at st).st x) V')
   | _=>False
 | .block id a,st,V,K=>match pA J (500000+id) with
  | none=>vc P T LF RF L J a st V fun e st' V'=>match e with
   | .exit i=>cond (Nat.beq i id) (K .normal st' V') (K (.exit i) st' V')
   | e=>K e st' V'
  | some A=>∃I:A.τ->View->Prop,vc P T LF RF L J a st V (fun e st' V'=>match e with
   | .exit i=>cond (Nat.beq i id) (∃x,(A.at st).fits st' x (I x V')) (K (.exit i) st' V')
   | .normal=>∃x,(A.at st).fits st' x (I x V')
   | e=>K e st' V')/\∀x V',V.Le V'->I x V'->(mL ((A.at st).ar x) ((A.at st).boxes x)=true/\K .normal ((A.at st).st x) V')
 | .loop a,st,V,K=>match pA L (keyOf a) with
  | none=>WJ (fun st V K=>vc P T LF RF L J a st V K) 3 st V K
  | some A=>match A.gh with
   | false=>∃(I:A.τ->View->Prop)(m:A.τ->Nat),(∃x,(A.at st).fits st x (I x V))/\∀x V',V.Le V'->I x V'->(mL ((A.at st).ar x) ((A.at st).boxes x)=true /\
    vc P T LF RF L J a ((A.at st).st x) V' fun e st' eH=>match e with
     | .normal=>∃y,m y<m x/\(A.at st).fits st' y (I y eH)
     | e=>K e st' eH)
   | true=>∃I:A.τ->Nat->View->Prop,(∃x k,(A.at st).fits st x (I x k V))/\∀x k V',V.Le V'->I x k V'->(mL ((A.at st).ar x) ((A.at st).boxes x)=true /\
    vc P T LF RF L J a ((A.at st).st x) V' fun e st' eH=>match e with
     | .normal=>∃y k',k'<k/\(A.at st).fits st' y (I y k' eH)
     | e=>K e st' eH)
 | .exit id,st,V,K=>K (.exit id) st V
 | .ret,st,V,K=>K .ret st V
 | .scope a,st,V,K=>vc P T LF RF L J a st V fun e st' V'=>match e with
  | .goto _=>False
  | e=>K e st' V'
 | .label _,st,V,K=>K .normal st V
 | _,_,_,_=>False
def lB (T:cO)(st:St):List ResultVar->Option (List SV)
 | []=>some []
 | .tmp t::r=>match st.ar t,lB T st r with
  | some x,some l=>some (x::l)
  | _,_=>none
 | .cell a t::r=>match st.ar a,ay T t,lB T st r with
  | some (.c (.ptr s o)),some i,some l=>match jf st.boxes i (.c (.ptr s o)) with
   | .ret _ x=>some (x::l)
   | _=>none
  | _,_,_=>none
def minus (l m:List Nat):List Nat:=l.filter fun x=>!(eI x m)
def IQ (bx:Nat->Option aO)(β:Nat->Nat)(V:View):List Nat->Prop->Prop
 | [],k=>k
 | s::r,k=>match bx s with
  | some ⟨.aP _,_⟩=>False
  | some b=>V.w.heap[β s]?=some (b.obj β)->IQ bx β V r k
  | none=>False
def jn:List (Nat×aO)->List Nat
 | []=>[]
 | (s,b)::r=>match b.cs with
  | .aP _=>jn r
  | _=>s::jn r
def JP (bs:List (Nat×aO))(β0:Nat->Nat)(b:Nat)(k:Prop):Prop:=
 match bs with
 | []=>k
 | (m,x)::r=>match x.cs with
  | .aP vs=>(vs≠[]/\b=β0 m)\/JP r β0 b k
  | _=>JP r β0 b k
def lA (β:Nat->Nat):List SV->Value
 | [x]=>x.den β
 | l=>.tuple (l.map (SV.den β)).toArray
def sU (T:cO)(bx:Nat->Option aO)(s:Nat):Bool:=
 cond (Nat.ble 100000 s) true (match bx s with|some ⟨.row _,ty⟩|some ⟨.aP _,ty⟩=>Nat.ble 2 (T.filter fun x=>Nat.beq x.1 ty).length|some ⟨.lit _,ty⟩=>Nat.ble 3 (T.filter fun x=>Nat.beq x.1 ty).length|_=>false)
def GP (T:cO)(rs:List ResultVar)(bs:List (Nat×aO))(β0:Nat->Nat)(n0:Nat)(R:Value->View->Prop)(st:St)(V:View):Prop:=
 match lB T st rs with
 | none=>False
 | some xs=>let F:=jn bs
  let L:=reach st.boxes 3 (dedup (xs.flatMap SV.ids++F))
  match gO st.boxes L with
  | false=>False
  | true=>match (minus L F).filter (sU T st.boxes) with
   | []=>∀V':View,V.Le V'->kL (minus L F) β0 fun β=>IQ st.boxes β V' F (qj st.boxes β V' (minus L F) (R (lA β xs) V'))
   | [s]=>match st.boxes s with
    | some b=>∀V':View,kL (minus L F) β0 fun β=>V.Le (V'.gX (UK b) (β s))->IQ st.boxes β V' F (pT (Ip b) (V'.w.heap[β s]?=some (b.obj β)) ->
      pT (Ip b) (n0<=β s\/JP bs β0 (β s) False)->qj st.boxes β V' ((minus L F).filter (!Nat.beq s ·)) (R (lA β xs) V'))
    | none=>False
   | _=>False
def WM (P:Program)(T:cO)(LF RF:List Nat)(L J:B6)(code:Code)(rs:List ResultVar)(ss:List (Nat×SV))(bs:List (Nat×aO))(β0:Nat->Nat)(V:View)(R:Value->View->Prop):Prop:=
 vc P T LF RF L J code ⟨ay ss,ay bs⟩ V fun e st V'=>match e with
  | .normal=>GP T rs bs β0 V.w.heap.size R st V'
  | .ret=>GP T rs bs β0 V.w.heap.size R st V'
  | _=>False
def g_ (n:Nat):Code->Bool
 | .region _ ops _=>ops.toList.all fun o=>match o.dst with|some d=>Nat.blt d n|none=>true
 | .seq a b=>g_ n a&&g_ n b
 | .cond _ a b=>g_ n a&&g_ n b
 | .block _ a=>g_ n a
 | .loop a=>g_ n a
 | .scope a=>g_ n a
 | _=>true
def nk:Nat->List (Nat×SV)->Bool
 | _,[]=>true
 | i,(j,x)::r=>Nat.beq i j&&x.plain&&nk (i+1) r
def BF (P:Program)(T:cO)(LF RF:List Nat)(L J:B6)(fn:Func)(ss:List (Nat×SV))(bs:List (Nat×aO))(β0:Nat->Nat)(V:View)(R:Value->View->Prop):Prop:=
 match fn.body with
 | some code=>match g_ fn.ntmps code&&nk 0 ss&&Nat.ble ss.length fn.ntmps&&Nat.ble fn.ntmps 100000&&(bs.all fun b=>Nat.ble 100000 b.1&&Nat.blt b.1 200000)&&mL ss bs with
  | true=>WM P T LF RF L J code fn.results.toList ss bs β0 V R
  | false=>False
 | none=>False
theorem View.Le.refl (V:View):V.Le V:=fun _ _ h=>h
theorem View.Le.trans {V V' eH:View}(h:V.Le V')(k:V'.Le eH):V.Le eH:=fun b o x=>k b o (h b o x)
theorem View.Le.at {V V':View}(h:V.Le V'){p:Addr}{v:Value}(k:V.at p v):V'.at p v:=by
 obtain ⟨b,a⟩:=k;unfold World.cell? at a;split at a
 ·rename_i c;obtain ⟨d,e⟩:=h p.block _ ⟨b,c⟩;refine ⟨d,?_⟩;unfold World.cell?;rw [e];exact a
 ·cases a
theorem il.refl (X:Nat->Prop)(w:World):il X w w:=⟨Nat.le_refl _,fun _ _ _=>rfl,rfl,rfl,rfl⟩
theorem il.trans {X:Nat->Prop}{a b c:World}(h:il X a b)(k:il X b c):il X a c:=
 ⟨Nat.le_trans h.size k.size,fun i d e=>(k.bw i (Nat.lt_of_lt_of_le d h.size) e).trans (h.bw i d e),k.os.trans h.os,k.tape.trans h.tape,k.out.trans h.out⟩
theorem il.mono {X Y:Nat->Prop}{a b:World}(h:il X a b)(hxy:∀i,X i->Y i):il Y a b:=
 ⟨h.size,fun i c d=>h.bw i c fun e=>d (hxy i e),h.os,h.tape,h.out⟩
theorem View.NT (V:View)(w':World)(hx:il V.X V.w w'):V.Le (V.to w' hx.size):=by
 rintro b o ⟨d,a⟩;refine ⟨d,?_⟩
 have c:b<V.w.heap.size:=by
  rcases Nat.lt_or_ge b V.w.heap.size with h|h
  ·exact h
  ·rw [Array.getElem?_eq_none h] at a;cases a
 show w'.heap[b]?=some o;rw [hx.bw b c fun hX=>d (V.hX b hX)];exact a
theorem ae.mono {P:Program}{f:FuncId}{args:Array Value}{V:View}{R R':Value->View->Prop}(h:ae P f args V R)
  (hR:∀r V',V.Le V'->R r V'->R' r V'):ae P f args V R':=
 ⟨h.1,h.2.mono fun _ b ⟨r,he,a,c⟩=>⟨r,he,a,hR r _ (V.NT b a) c⟩⟩
structure Em where
 ids:List Nat
 B:Nat->Prop
section
variable (n:Nat) (V0:View) (bA:Em) (β0:Nat->Nat)
structure Mod (st:St) (β:Nat->Nat) (a:Act) (w:World) (V:View):Prop where
 defers:a.defers=[]
 size:a.tmps.size=n
 ar:∀t x,st.ar t=some x->a.tmps.getD t undef=x.den β
 xC:∀t x,st.ar t=some x->∀s∈x.ids,∃b,st.boxes s=some b
 xB:∀s b,st.boxes s=some b->∀s'∈b.cs.ids,∃b',st.boxes s'=some b'
 boxes:∀s b,st.boxes s=some b->b.live->w.heap[β s]?=some (b.obj β)
 inj:∀s s' b b',st.boxes s=some b->b.live->st.boxes s'=some b'->b'.live->β s=β s'->s=s'
 ot:∀b o,V.bw b o->w.heap[b]?=some o/\¬V0.H b
 tE:∀s b,st.boxes s=some b->b.live->∀o,¬V.bw (β s) o
 ext:il V0.X V0.w w
 own:∀s b,st.boxes s=some b->b.live->V0.w.heap.size<=β s\/(100000<=s/\bA.B (β s))
 kM:∀s∈bA.ids,(100000<=s/\s<200000)/\β s=β0 s
 jK:∀b,bA.B b->V0.X b
 small:n<=100000
end
theorem cD {cs:List C}{ty:TypeId}:aO.live ⟨.lit cs,ty⟩:=fun _ h=>nomatch h
theorem cq {vs:List Value}{ty:TypeId}:aO.live ⟨.row vs,ty⟩:=fun _ h=>nomatch h
theorem eg {vs:List Value}{ty:TypeId}(h:vs≠[]):aO.live ⟨.aP vs,ty⟩:=fun _ e=>by cases e;exact h
theorem eW {ty:TypeId}:¬aO.live ⟨.aP [],ty⟩:=fun h=>h [] rfl rfl
theorem fu {b:aO}{k:Prop}:pT (Ip b) k↔(b.live->k):=by
 obtain ⟨cs,ty⟩:=b
 cases cs with
 | lit cs=>exact ⟨fun h _=>h,fun h=>h cD⟩
 | row cs=>exact ⟨fun h _=>h,fun h=>h cq⟩
 | aP vs=>exact ⟨fun h l=>h (l vs rfl),fun h l=>h (eg l)⟩
theorem sJ {l m:List Prop}{k:Prop}:pT (l++m) k↔pT l (pT m k):=by
 induction l with
 | nil=>exact Iff.rfl
 | cons p r ih=>exact ⟨fun h a=>ih.1 (h a),fun h a=>ih.2 (h a)⟩
theorem LZ {b:aO}:UK b↔b.live:=by
 obtain ⟨cs,ty⟩:=b
 cases cs with
 | lit cs=>exact ⟨fun _=>cD,fun _=>trivial⟩
 | row cs=>exact ⟨fun _=>cq,fun _=>trivial⟩
 | aP vs=>exact ⟨fun h=>eg h,fun l=>l vs rfl⟩
theorem C.bL {β β':Nat->Nat}{c:C}(h:∀s∈c.ids,β s=β' s):c.den β=c.den β':=by
 cases c with
 | v x=>rfl
 | w x=>rfl
 | tt=>rfl
 | ff=>rfl
 | ptr s o=>simp [C.den,h s (by simp [C.ids])]
 | kI s o n c=>simp [C.den,h s (by simp [C.ids])]
 | gQ s n c=>simp [C.den,h s (by simp [C.ids])]
 | tB f ss=>
  have:(ss.map fun s=>Value.pointer (some ⟨β s,0,none⟩))=ss.map fun s=>Value.pointer (some ⟨β' s,0,none⟩):=
   List.map_congr_left fun s a=>by rw [h s (by simpa [C.ids] using a)]
  simp only [C.den,this]
theorem kX {β β':Nat->Nat}{cs:List C}(h:∀s∈cs.flatMap C.ids,β s=β' s):cs.map (C.den β)=cs.map (C.den β'):=
 List.map_congr_left fun c a=>C.bL fun s b=>h s (List.mem_flatMap.2 ⟨c,a,b⟩)
theorem xY {β β':Nat->Nat}{x:Bool×List C}(h:∀s∈x.2.flatMap C.ids,β s=β' s):ir β x=ir β' x:=by
 obtain ⟨b,cs⟩:=x
 cases b with
 | true=>simp only [ir];rw [kX h]
 | false=>
  match cs,h with
  | [],_=>rfl
  | [c],h=>simp only [ir];exact C.bL fun s a=>h s (by simpa using a)
  | _::_::_,_=>rfl
theorem SV.bL {β β':Nat->Nat}{x:SV}(h:∀s∈x.ids,β s=β' s):x.den β=x.den β':=by
 cases x with
 | c x=>exact C.bL h
 | agg cs=>simp only [SV.den];rw [kX h]
 | pt xs=>
  simp only [SV.den];congr 2;exact List.map_congr_left fun x a=>xY fun s b=>h s (List.mem_flatMap.2 ⟨x,a,b⟩)
theorem Cells.bL {β β':Nat->Nat}{x:Cells}(h:∀s∈x.ids,β s=β' s):x.den β=x.den β':=by
 cases x with
 | lit cs=>exact kX h
 | row vs=>rfl
 | aP vs=>rfl
theorem aO.cI {β β':Nat->Nat}{x:aO}(h:∀s∈x.cs.ids,β s=β' s):x.obj β=x.obj β':=by
 simp only [aO.obj];rw [Cells.bL h]
variable {P:Program} {T:cO} {n:Nat} {V0:View} {bA:Em} {β0:Nat->Nat} {st:St} {β:Nat->Nat} {a:Act} {w:World} {V:View}
theorem Mod.eval (h:Mod n V0 bA β0 st β a w V){x:Operand}{v:SV}(hx:st.a_ x=some v):a.eval x=v.den β:=by
 cases x with
 | tmp t=>exact h.ar t v hx
 | const c=>
  simp only [St.a_,Option.some.injEq] at hx;subst hx;simp only [Act.eval];unfold SV.ofConst;split
  ·rfl
  ·rfl
  ·rename_i cs;simp only [SV.den];congr 1
   have:∀l:List Value,(l.map C.ofConst).map (C.den β)=l:=by
    intro l
    induction l with
    | nil=>rfl
    | cons y r ih=>
     simp only [List.map_cons,ih];congr 1;unfold C.ofConst;split<;>rfl
   rw [this]
  ·rfl
 | global g=>simp only [St.a_,Option.some.injEq] at hx;subst hx;rfl
 | func f=>simp only [St.a_,Option.some.injEq] at hx;subst hx;simp [Act.eval,SV.den,C.den]
theorem Mod.live (h:Mod n V0 bA β0 st β a w V){x:Operand}{v:SV}(hx:st.a_ x=some v):∀s∈v.ids,∃b,st.boxes s=some b:=by
 cases x with
 | tmp t=>exact h.xC t v hx
 | const c=>
  simp only [St.a_,Option.some.injEq] at hx;subst hx;intro s d;exfalso
  have e:∀y,(C.ofConst y).ids=[]:=by
   intro y;unfold C.ofConst;split<;>rfl
  unfold SV.ofConst at d;split at d
  ·simp [SV.ids,C.ids] at d
  ·simp [SV.ids,C.ids] at d
  ·obtain ⟨c,i,d⟩:=List.mem_flatMap.1 d;obtain ⟨y,_,rfl⟩:=List.mem_map.1 i;rw [e] at d;cases d
  ·simp [SV.ids,C.ids] at d
 | global g=>simp only [St.a_,Option.some.injEq] at hx;subst hx;intro s d;simp [SV.ids,C.ids] at d
 | func f=>simp only [St.a_,Option.some.injEq] at hx;subst hx;intro s d;simp [SV.ids,C.ids] at d
theorem beq_eq {a b:Nat}:Nat.beq a b=true↔a=b:=by
 constructor
 ·exact Nat.eq_of_beq_eq_true
 ·intro h;subst h;exact Nat.beq_refl a
theorem cT (st:St)(d:Nat)(x:SV)(t:Nat):(st.put (some d) x).ar t=if t=d then some x else st.ar t:=by
 simp only [St.put];by_cases h:t=d
 ·subst h;simp [Nat.beq_refl]
 ·have:Nat.beq t d=false:=by
   cases hb:Nat.beq t d
   ·rfl
   ·exact absurd (beq_eq.1 hb) h
  simp [this,h]
theorem ao (st:St)(s:Nat)(b:aO)(t:Nat):(st.box s b).boxes t=if t=s then some b else st.boxes t:=by
 simp only [St.box];by_cases h:t=s
 ·subst h;simp [Nat.beq_refl]
 ·have:Nat.beq t s=false:=by
   cases hb:Nat.beq t s
   ·rfl
   ·exact absurd (beq_eq.1 hb) h
  simp [this,h]
theorem pP (l:Array Value)(d t:Nat)(v:Value)(hd:d<l.size):(l.setIfInBounds d v).getD t undef=if t=d then v else l.getD t undef:=by
 by_cases h:t=d
 ·subst h;simp [hd]
 ·simp [h,Ne.symm h]
theorem Mod.put (h:Mod n V0 bA β0 st β a w V){d:Nat}{x:SV}{v:Value}(hd:d<n)(hv:v=x.den β)(hl:∀s∈x.ids,∃b,st.boxes s=some b) :
  Mod n V0 bA β0 (st.put (some d) x) β (a.put (some d) v) w V where
 defers:=h.defers
 size:=by simp [Act.put,h.size]
 ar:=by
  intro t y c;rw [cT] at c;show (a.tmps.setIfInBounds d v).getD t undef=_;rw [pP _ _ _ _ (by rw [h.size];exact hd)];split at c
  ·rename_i e;rw [if_pos e];simp only [Option.some.injEq] at c;rw [←c];exact hv
  ·rename_i e;rw [if_neg e];exact h.ar t y c
 xC:=by
  intro t y c;rw [cT] at c;split at c
  ·simp only [Option.some.injEq] at c;rw [←c];exact hl
  ·exact h.xC t y c
 xB:=h.xB
 boxes:=h.boxes
 inj:=h.inj
 ot:=h.ot
 tE:=h.tE
 ext:=h.ext
 own:=h.own
 kM:=h.kM
 jK:=h.jK
 small:=h.small
theorem Mod.Fl (h:Mod n V0 bA β0 st β a w V){d:Option Nat}{x:SV}{v:Value}(hd:∀k,d=some k->k<n)(hv:v=x.den β)(hl:∀s∈x.ids,∃b,st.boxes s=some b) :
  Mod n V0 bA β0 (st.put d x) β (a.put d v) w V:=by
 cases d with
 | none=>exact h
 | some d=>exact h.put (hd d rfl) hv hl
theorem Mod.drew (h:Mod n V0 bA β0 st β a w V):Mod n V0 bA β0 st β a { w with drawn:=w.drawn+1 } V:=
 ⟨h.defers,h.size,h.ar,h.xC,h.xB,h.boxes,h.inj,h.ot,h.tE,⟨h.ext.size,h.ext.bw,h.ext.os,h.ext.tape,h.ext.out⟩,h.own,h.kM,h.jK,h.small⟩
theorem ax {w:World}{b:Nat}{o:Obj}(h:w.heap[b]?=some o):b<w.heap.size:=by
 rcases Nat.lt_or_ge b w.heap.size with a|a
 ·exact a
 ·rw [Array.getElem?_eq_none a] at h;cases h
theorem dq (w:World)(o:Obj){b:Nat}(h:b<w.heap.size):(w.alloc o).heap[b]?=w.heap[b]?:=by
 show (w.heap.push o)[b]?=_;rw [Array.getElem?_push,if_neg (by omega)]
theorem heap_alloc_new (w:World)(o:Obj):(w.alloc o).heap[w.heap.size]?=some o:=by
 show (w.heap.push o)[w.heap.size]?=_;rw [Array.getElem?_push,if_pos rfl]
theorem aQ (β:Nat->Nat)(s b:Nat):cU β s b s=b:=by simp [cU,Nat.beq_refl]
theorem gi (β:Nat->Nat){s t:Nat}(b:Nat)(h:t≠s):cU β s b t=β t:=by
 have:Nat.beq t s=false:=by
  cases hb:Nat.beq t s
  ·rfl
  ·exact absurd (beq_eq.1 hb) h
 simp [cU,this]
theorem Mod.new (h:Mod n V0 bA β0 st β a w V){d:Nat}{b:aO}(hd:d<n)(hn:st.boxes d=none)(hl:∀s∈b.cs.ids,∃b',st.boxes s=some b') :
  Mod n V0 bA β0 (st.box d b) (cU β d w.heap.size) a (w.alloc (b.obj β)) V:=by
 have q:∀s b',st.boxes s=some b'->s≠d:=fun s b' c e=>by rw [e,hn] at c;cases c
 have hβ:∀s b',st.boxes s=some b'->cU β d w.heap.size s=β s:=fun s b' c=>gi _ _ (q s b' c);have r:∀s b',st.boxes s=some b'->b'.live->β s<w.heap.size:=fun s b' c l=>ax (h.boxes s b' c l);have C:∀b' o,V.bw b' o->b'<w.heap.size:=fun b' o v=>ax (h.ot b' o v).1;refine ⟨h.defers,h.size,?_,?_,?_,?_,?_,?_,?_,?_,?_,?_,h.jK,?_⟩
 ·intro t x y;rw [h.ar t x y];exact SV.bL fun s c=>by obtain ⟨b',p⟩:=h.xC t x y s c;exact (hβ s b' p).symm
 ·intro t x y s c;obtain ⟨b',p⟩:=h.xC t x y s c;exact ⟨b',by rw [ao,if_neg (q s b' p)];exact p⟩
 ·intro s b' c g j;rw [ao] at c
  have:∃f,st.boxes g=some f:=by
   split at c
   ·simp only [Option.some.injEq] at c;rw [←c] at j;exact hl g j
   ·exact h.xB s b' c g j
  obtain ⟨f,u⟩:=this;exact ⟨f,by rw [ao,if_neg (q g f u)];exact u⟩
 ·intro s b' c l;rw [ao] at c;split at c
  ·rename_i e;simp only [Option.some.injEq] at c;rw [e,aQ,heap_alloc_new,←c];congr 1;exact aO.cI fun g j=>by obtain ⟨f,u⟩:=hl g j;exact (hβ g f u).symm
  ·rw [hβ s b' c,dq _ _ (r s b' c l),h.boxes s b' c l];congr 1;exact aO.cI fun g j=>by obtain ⟨f,u⟩:=h.xB s b' c g j;exact (hβ g f u).symm
 ·intro s g b1 b2 k D m E he;rw [ao] at k m;split at k<;>split at m
  ·rename_i z A;rw [z,A]
  ·rename_i z A;rw [z,aQ,hβ g b2 m] at he;have:=r g b2 m E;omega
  ·rename_i z A;rw [A,aQ,hβ s b1 k] at he;have:=r s b1 k D;omega
  ·rw [hβ s b1 k,hβ g b2 m] at he;exact h.inj s g b1 b2 k D m E he
 ·intro b' o v;obtain ⟨k,m⟩:=h.ot b' o v;exact ⟨by rw [dq _ _ (C b' o v)];exact k,m⟩
 ·intro s b' c l o B;rw [ao] at c;split at c
  ·rename_i e;rw [e,aQ] at B;have:=C _ o B;omega
  ·rw [hβ s b' c] at B;exact h.tE s b' c l o B
 ·exact h.ext.trans ⟨by simp,fun i F _=>dq _ _ F,rfl,rfl,rfl⟩
 ·intro s b' c l;rw [ao] at c;split at c
  ·rename_i e;rw [e,aQ];exact .inl h.ext.size
  ·rw [hβ s b' c];exact h.own s b' c l
 ·intro s c;obtain ⟨k,m⟩:=h.kM s c;exact ⟨k,by rw [gi _ _ (by have:=h.small;omega)];exact m⟩
 ·exact h.small
theorem Mod.void (h:Mod n V0 bA β0 st β a w V){s:Nat}{ty:TypeId}:Mod n V0 bA β0 (st.box s ⟨.aP [],ty⟩) β a w V:=by
 have hw:∀t b,st.boxes t=some b->∃d,(st.box s ⟨.aP [],ty⟩).boxes t=some d:=by
  intro t b c;rw [ao];split
  ·exact ⟨_,rfl⟩
  ·exact ⟨b,c⟩
 have g:∀t b,(st.box s ⟨.aP [],ty⟩).boxes t=some b->b.live->st.boxes t=some b:=by
  intro t b c l;rw [ao] at c;split at c
  ·cases c;exact absurd l eW
  ·exact c
 refine ⟨h.defers,h.size,h.ar,?_,?_,fun t b c l=>h.boxes t b (g t b c l) l,fun t m b1 b2 o j p k=>h.inj t m b1 b2 (g _ _ o j) j (g _ _ p k) k,h.ot,fun t b c l=>h.tE t b (g t b c l) l,h.ext,fun t b c l=>h.own t b (g t b c l) l,h.kM,h.jK,h.small⟩
 ·intro t x q f e;obtain ⟨b,i⟩:=h.xC t x q f e;exact hw f b i
 ·intro t b c f e
  have:∃d,st.boxes f=some d:=by
   rw [ao] at c;split at c
   ·cases c;cases e
   ·exact h.xB t b c f e
  obtain ⟨d,r⟩:=this;exact hw f d r
theorem Mod.tI (h:Mod n V0 bA β0 st β a w V){s:Nat}{b b':aO}(hs:st.boxes s=some b)(lb:b.live)(hl:∀s'∈b'.cs.ids,∃b'',st.boxes s'=some b'')
  {w':World}(hw:w'.heap=w.heap.setIfInBounds (β s) (b'.obj β))(ho:w'.os=w.os)(ht:w'.tape=w.tape)(hout:w'.output=w.output) :
  Mod n V0 bA β0 (st.box s b') β a w' V:=by
 have v:=ax (h.boxes s b hs lb)
 have k:∀i,w'.heap[i]?=if i=β s then some (b'.obj β) else w.heap[i]?:=by
  intro i;rw [hw,Array.getElem?_setIfInBounds];by_cases e:β s=i
  ·rw [if_pos e,if_pos (by omega),if_pos e.symm]
  ·rw [if_neg e,if_neg (Ne.symm e)]
 refine ⟨h.defers,h.size,h.ar,?_,?_,?_,?_,?_,?_,?_,?_,h.kM,h.jK,h.small⟩
 ·intro t x y s' d;obtain ⟨b1,c⟩:=h.xC t x y s' d;rw [ao];split
  ·exact ⟨_,rfl⟩
  ·exact ⟨b1,c⟩
 ·intro t b1 c s' d
  have:∃b'',st.boxes s'=some b'':=by
   rw [ao] at c;split at c
   ·simp only [Option.some.injEq] at c;rw [←c] at d;exact hl s' d
   ·exact h.xB t b1 c s' d
  rw [ao];split
  ·exact ⟨_,rfl⟩
  ·exact this
 ·intro t b1 c g;rw [ao] at c;rw [k];split at c
  ·rename_i e;simp only [Option.some.injEq] at c;rw [e,if_pos rfl,c]
  ·rename_i e;rw [if_neg fun he=>e (h.inj t s b1 b c g hs lb he)];exact h.boxes t b1 c g
 ·intro t r b1 b2 j g l z he
  have f:∀t b1,(st.box s b').boxes t=some b1->b1.live->∃b2,st.boxes t=some b2/\b2.live:=by
   intro t b1 j g;rw [ao] at j;split at j
   ·rename_i e;rw [e];exact ⟨b,hs,lb⟩
   ·exact ⟨b1,j,g⟩
  obtain ⟨A,m,B⟩:=f t b1 j g;obtain ⟨C,p,D⟩:=f r b2 l z;exact h.inj t r A C m B p D he
 ·intro b1 o q;obtain ⟨j,l⟩:=h.ot b1 o q;refine ⟨?_,l⟩;rw [k,if_neg]
  ·exact j
  ·intro e;rw [e] at q;exact h.tE s b hs lb o q
 ·intro t b1 c g o;rw [ao] at c;split at c
  ·rename_i e;rw [e];exact h.tE s b hs lb o
  ·exact h.tE t b1 c g o
 ·refine ⟨by rw [hw];simpa using h.ext.size,fun i E u=>?_,ho.trans h.ext.os,ht.trans h.ext.tape,hout.trans h.ext.out⟩;rw [k];split
  ·rename_i e;exfalso;rcases h.own s b hs lb with j|j
   ·omega
   ·exact u (e▸h.jK _ j.2)
  ·exact h.ext.bw i E u
 ·intro t b1 c g;rw [ao] at c;split at c
  ·rename_i e;rw [e];exact h.own s b hs lb
  ·exact h.own t b1 c g
end Go.Eng
