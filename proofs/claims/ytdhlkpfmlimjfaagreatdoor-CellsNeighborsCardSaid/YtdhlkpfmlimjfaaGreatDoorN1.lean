import Derived.WalkKit
import Derived.Deep.LoopGhost
import Derived.KernelRfl
set_option linter.unusedVariables false
open Go.IntKind (i64 u64 u32)
namespace Go.Eng
abbrev OA:=Option Addr
abbrev sm {α:Type}(a:α):Prop:=a=a
structure View where
 w:World
 H:Nat->Prop
 X:Nat->Prop
 hH:∀b,H b->b<w.heap.size
 hX:∀b,X b->H b
def View.aS (V:View)(b:Nat)(o:Obj):Prop:=¬V.H b/\V.w.heap[b]?=some o
def View.at (V:View)(p:Addr)(v:Value):Prop:=¬V.H p.block/\V.w.cell? p=some v
def View.Le (V V':View):Prop:=∀b o,V.aS b o->V'.aS b o
structure eK (X:Nat->Prop) (w w':World):Prop where
 size:w.heap.size<=w'.heap.size
 aS:∀b,b<w.heap.size->¬X b->w'.heap[b]?=w.heap[b]?
 os:w'.os=w.os
 tape:w'.tape=w.tape
 out:w'.output=w.output
def View.to (V:View)(w':World)(h:V.w.heap.size<=w'.heap.size):View:=⟨w',V.H,V.X,fun b hb=>Nat.lt_of_lt_of_le (V.hH b hb) h,V.hX⟩
def View.lend (V:View)(bs:List Nat):View:={ V with X:=fun b=>b∈bs/\V.H b,hX:=fun _ h=>h.2 }
def View.KT (V:View)(b:Nat):View:={ V with H:=fun x=>V.H x\/(x=b/\b<V.w.heap.size),hH:=fun x h=>h.elim (V.hH x) fun h=>h.1▸h.2,hX:=fun x h=>.inl (V.hX x h) }
def View.hideG (V:View)(p:Prop)(b:Nat):View:={ V with H:=fun x=>V.H x\/(p/\x=b/\b<V.w.heap.size),hH:=fun x h=>h.elim (V.hH x) fun h=>h.2.1▸h.2.2,hX:=fun x h=>.inl (V.hX x h) }
def View.shut (V:View):View:={ V with X:=fun _=>False,hX:=fun _ h=>h.elim }
def jN (P : Program)(f : FuncId) : Prop := ∃ fn, P.funcs[f]? = some fn ∧ fn.body.isNone = false ∧ (fn.name == "runtime.NumGoroutine") = false
def Acts (P:Program)(f:FuncId)(args:Array Value)(V:View)(R:Value->View->Prop):Prop:=
 jN P f/\Calls P f args V.w fun e w'=>∃r,e=.returned r/\∃hx:eK V.X V.w w',R r (V.to w' hx.size)
inductive C where
 | v (x:Value)|w (x:Value)|tt|ff
 | ptr (s o:Nat)
 | lu (s o n c:Nat)
 | gD (s n c:Nat)
 | zR (f:FuncId) (ss:List Nat)
inductive SV where
 | c (x:C)|agg (cs:List C)|oB (xs:List (Bool×List C))
inductive Cells where
 | lit (cs:List C)|row (vs:List Value)|aJ (vs:List Value)
structure aF where
 cs:Cells
 ty:TypeId
def aF.live (b:aF):Prop:=∀vs,b.cs=.aJ vs->vs≠[]
def Hs (b:aF):List Prop:=
 match b.cs with
 | .aJ vs=>[vs≠[]]
 | _=>[]
def R7 (b:aF):Prop:=
 match b.cs with
 | .aJ vs=>vs≠[]
 | _=>True
def oV:List Prop->Prop->Prop
 | [],k=>k
 | p::r,k=>p->oV r k
def mA (b c:Nat):OA:=if c=0 then none else some ⟨b,0,none⟩
structure St where
 ao:Nat->Option SV
 boxes:Nat->Option aF
def C.den (β:Nat->Nat):C->Value
 | .v x=>x
 | .w x=>x
 | .tt=>.bool true
 | .ff=>.bool false
 | .ptr s o=>.pointer (some ⟨β s,o,none⟩)
 | .lu s o n c=>.slice (some ⟨β s,o,none⟩) n c
 | .gD s n c=>.slice (mA (β s) c) n c
 | .zR f ss=>.func (.func f) #[] (ss.map fun s=>Value.pointer (some ⟨β s,0,none⟩)).toArray
def ia (β:Nat->Nat):Bool×List C->Value
 | (true,cs)=>.agg (cs.map (C.den β)).toArray
 | (false,[c])=>c.den β
 | (false,_)=>.tuple #[]
def qp:Bool×List C->Option SV
 | (true,cs)=>some (.agg cs)
 | (false,[c])=>some (.c c)
 | (false,_)=>none
def SV.den (β:Nat->Nat):SV->Value
 | .c x=>x.den β
 | .agg cs=>.agg (cs.map (C.den β)).toArray
 | .oB xs=>.tuple (xs.map (ia β)).toArray
def SV.cells:SV->List C
 | .c x=>[x]
 | .agg cs=>cs
 | .oB _=>[]
def Cells.den (β:Nat->Nat):Cells->List Value
 | .lit cs=>cs.map (C.den β)
 | .row vs=>vs
 | .aJ vs=>vs
def aF.obj (β:Nat->Nat)(b:aF):Obj:=.cells (b.cs.den β).toArray b.ty (0,0)
def C.ids:C->List Nat
 | .ptr s _=>[s]
 | .lu s _ _ _=>[s]
 | .gD s _ _=>[s]
 | .zR _ ss=>ss
 | _=>[]
def SV.ids:SV->List Nat
 | .c x=>x.ids
 | .agg cs=>cs.flatMap C.ids
 | .oB xs=>xs.flatMap fun x=>x.2.flatMap C.ids
def SV.uK:SV->Bool
 | .oB _=>true
 | _=>false
def eT:C->List Prop
 | .v (.agg _)|.v (.tuple _)=>[False]
 | .w x=>[x.oneCell'=true]
 | _=>[]
def SV.eT (x:SV):List Prop:=x.cells.flatMap Eng.eT
def Cells.ids:Cells->List Nat
 | .lit cs=>cs.flatMap C.ids
 | .row _=>[]
 | .aJ _=>[]
def St.put (st:St)(d:Option Nat)(x:SV):St:=
 match d with
 | none=>st
 | some d=>{ st with ao:=fun t=>cond (Nat.beq t d) (some x) (st.ao t) }
def St.box (st:St)(s:Nat)(b:aF):St:={ st with boxes:=fun t=>cond (Nat.beq t s) (some b) (st.boxes t) }
def C.ofConst:Value->C
 | .bool true=>.tt
 | .bool false=>.ff
 | x=>.v x
def SV.ofConst:Value->SV
 | .bool true=>.c .tt
 | .bool false=>.c .ff
 | .agg cs=>.agg (cs.toList.map C.ofConst)
 | x=>.c (.v x)
def St.aQ (st:St):Operand->Option SV
 | .tmp t=>st.ao t
 | .const v=>some (.ofConst v)
 | .global g=>some (.c (.v (.pointer (some ⟨g,0,none⟩))))
 | .func f=>some (.c (.zR f []))
inductive TK where
 | int (k:IntKind)|bool|str|ptr (e:TypeId)|slice (e:TypeId)|struct (fs:List (TypeId×Nat))|arr (n:Nat) (e:TypeId)|iface|func|tuple (ts:List TypeId)|other
structure TI where
 k:TK
 size:Nat
 bytes:Nat
 zero:List C
def jH:TypeDesc->TK
 | .int k=>.int k
 | .bool=>.bool
 | .string=>.str
 | .pointer e=>.ptr e
 | .slice e=>.slice e
 | .array n e=>.arr n e
 | .struct fs=>.struct (fs.toList.map fun f=>(f.type,f.offset))
 | .interface _=>.iface
 | .func ..=>.func
 | .tuple es=>.tuple es.toList
 | _=>.other
def j9 (P:Program)(t:TypeId):Option TI:=
 match P.info? t,P.underlying t with
 | some i,some d=>
  match i.zero with
  | some z=>some { k:=jH d,size:=i.size,bytes:=i.bytes,zero:=z.cells.toList.map C.ofConst }
  | none=>none
 | _,_=>none
abbrev cI:=List (Nat×TI)
def au {α:Type}:List (Nat×α)->Nat->Option α
 | [],_=>none
 | (s,x)::r,t=>cond (Nat.beq t s) (some x) (au r t)
def cI.ok (P:Program)(T:cI):Prop:=∀t i,au T t=some i->j9 P t=some i
inductive wD where
 | int (k:IntKind)|bool|slice|ptr|str|any
inductive tJ where
 | one (s:wD)|agg (l:List wD)
inductive Sh where
 | val (s:tJ)|oB (l:List tJ)|none
def Rc:C->wD
 | .v (.int k _)=>.int k
 | .v (.slice ..)=>.slice
 | .v (.pointer _)=>.ptr
 | .v (.string _)=>.str
 | .tt|.ff=>.bool
 | _=>.any
def kf (i:TI):tJ:=
 match i.k with
 | .struct _|.arr _ _=>.agg (i.zero.map Rc)
 | _=>match i.zero with
  | [z]=>.one (Rc z)
  | _=>.one .any
def wD.ex:wD->(C->Prop)->Prop
 | .int k,K=>∃n:Int,K (.v (.int k n))
 | .bool,K=>∃b:Bool,K (.v (.bool b))
 | .slice,K=>∃(a:OA)(n c:Nat),K (.v (.slice a n c))
 | .ptr,K=>∃p:OA,K (.v (.pointer p))
 | .str,K=>∃s:ByteArray,K (.v (.string s))
 | .any,K=>∃x:Value,K (.w x)
def MX:List wD->(List C->Prop)->Prop
 | [],K=>K []
 | s::r,K=>s.ex fun v=>MX r fun vs=>K (v::vs)
def tJ.ex:tJ->(SV->Prop)->Prop
 | .one s,K=>s.ex fun c=>K (.c c)
 | .agg l,K=>MX l fun cs=>K (.agg cs)
def Of:List tJ->(List (Bool×List C)->Prop)->Prop
 | [],K=>K []
 | .one s::r,K=>s.ex fun c=>Of r fun vs=>K ((false,[c])::vs)
 | .agg l::r,K=>MX l fun cs=>Of r fun vs=>K ((true,cs)::vs)
def Sh.ex:Sh->(SV->Prop)->Prop
 | .val s,K=>s.ex K
 | .oB l,K=>Of l fun vs=>K (.oB vs)
 | .none,K=>K (.oB [])
def Qy (T:cI):List TypeId->Option (List tJ)
 | []=>some []
 | t::r=>match au T t,Qy T r with
  | some i,some l=>some (kf i::l)
  | _,_=>Option.none
def T7 (T:cI)(t:TypeId):Option Sh:=
 match au T t with
 | some i=>match i.k with
  | .tuple []=>some .none
  | .tuple ts=>match Qy T ts with
   | some l=>some (.oB l)
   | Option.none=>Option.none
  | _=>some (.val (kf i))
 | Option.none=>Option.none
inductive Q where
 | fail
 | ret (sc:List Prop) (x:SV)
 | new (sc:List Prop) (b:aF) (x:Nat->SV)
 | sG (sc:List Prop) (s:Nat) (b:aF)
 | rd (p:OA) (sh:tJ)
 | ni (vs:List Value) (o size:Nat) (sh:tJ)
 | qK (s:Nat) (vs:List Value) (n c:Nat) (x:OA×Nat ⊕ List Value) (size bytes:Nat) (ty:TypeId)
 | app (old:Option Nat) (ba:OA) (vs:List Value) (n c:Nat) (x:OA×Nat ⊕ List Value) (size bytes:Nat) (ty:TypeId)
def bg (op:BinOp)(k:IntKind)(a b:Int):Int:=
 match op with
 | .and=>k.wrap ((BitVec.ofInt k.bits a &&& BitVec.ofInt k.bits b).toNat:Int)
 | .or=>k.wrap ((BitVec.ofInt k.bits a ||| BitVec.ofInt k.bits b).toNat:Int)
 | .xor=>k.wrap ((BitVec.ofInt k.bits a ^^^ BitVec.ofInt k.bits b).toNat:Int)
 | _=>k.wrap ((BitVec.ofInt k.bits a &&& ~~~(BitVec.ofInt k.bits b)).toNat:Int)
def lV (op:BinOp)(k:IntKind)(a b:Int):Q:=
 match op with
 | .add=>.ret [] (.c (.v (.int k (k.wrap (a+b)))))
 | .sub=>.ret [] (.c (.v (.int k (k.wrap (a-b)))))
 | .mul=>.ret [] (.c (.v (.int k (k.wrap (a*b)))))
 | .quo=>.ret [b≠0] (.c (.v (.int k (k.wrap (a.tdiv b)))))
 | .rem=>.ret [b≠0] (.c (.v (.int k (a.tmod b))))
 | .and=>.ret [] (.c (.v (.int k (bg .and k a b))))
 | .or=>.ret [] (.c (.v (.int k (bg .or k a b))))
 | .xor=>.ret [] (.c (.v (.int k (bg .xor k a b))))
 | .andNot=>.ret [] (.c (.v (.int k (bg .andNot k a b))))
 | .shl=>.ret [0<=b] (.c (.v (.int k (k.wrap (a*2^(min b.toNat k.bits))))))
 | .shr=>.ret [0<=b] (.c (.v (.int k (a.fdiv (2^(min b.toNat k.bits))))))
 | .eql=>.ret [] (.c (.v (.bool (a==b))))
 | .neq=>.ret [] (.c (.v (.bool (a != b))))
 | .lss=>.ret [] (.c (.v (.bool (decide (a<b)))))
 | .leq=>.ret [] (.c (.v (.bool (decide (a<=b)))))
 | .gtr=>.ret [] (.c (.v (.bool (decide (a>b)))))
 | .geq=>.ret [] (.c (.v (.bool (decide (a≥b)))))
def C.bool?:C->Option Bool
 | .tt=>some true
 | .ff=>some false
 | .v (.bool b)=>some b
 | _=>none
def isNilI:Value->Bool
 | .nilIface=>true
 | _=>false
def IsIface (x:Value):Prop:=x=.nilIface\/∃t v,x=.iface t v
def uL:IntKind->IntKind->Bool
 | .i8,.i8|.i16,.i16|.i32,.i32|.i64,.i64|.u8,.u8|.u16,.u16|.u32,.u32|.u64,.u64=>true
 | _,_=>false
def Ay (neg:Bool)(k:TK)(x y:C):Q:=
 match k with
 | .ptr _=>match y with
  | .v (.pointer none)=>match x with
   | .ptr _ _=>.ret [] (.c (if neg then .tt else .ff))
   | .v (.pointer p)=>.ret [] (.c (.v (.bool (if neg then !p.isNone else p.isNone))))
   | _=>.fail
  | _=>.fail
 | .slice _=>match y with
  | .v (.slice none _ _)=>match x with
   | .lu _ _ _ _=>.ret [] (.c (if neg then .tt else .ff))
   | .gD _ _ c=>.ret [] (.c (.v (.bool (if neg then !(Nat.beq c 0) else Nat.beq c 0))))
   | .v (.slice a _ _)=>.ret [] (.c (.v (.bool (if neg then !a.isNone else a.isNone))))
   | _=>.fail
  | _=>.fail
 | .iface=>match y with
  | .v .nilIface=>match x with
   | .w y=>.ret [IsIface y] (.c (.v (.bool (if neg then !isNilI y else isNilI y))))
   | .v .nilIface=>.ret [] (.c (if neg then .ff else .tt))
   | _=>.fail
  | _=>.fail
 | _=>.fail
def Aw (T:cI)(op:BinOp)(xt:TypeId)(x y:C):Q:=
 match au T xt with
 | some i=>match i.k with
  | .int _=>match x,y with
   | .v (.int k a),.v (.int k' b)=>
    match op with
    | .shl|.shr=>lV op k a b
    | _=>if uL k k' then lV op k a b else .fail
   | _,_=>.fail
  | .bool=>match x.bool?,y.bool? with
   | some a,some b=>match op with
    | .eql=>.ret [] (.c (.v (.bool (a==b))))
    | .neq=>.ret [] (.c (.v (.bool (!(a==b)))))
    | _=>.fail
   | _,_=>.fail
  | k=>match op with
   | .eql=>Ay false k x y
   | .neq=>Ay true k x y
   | _=>.fail
 | none=>.fail
def addrAdd (p:OA)(n:Nat):OA:=p.map fun a=>a.add n
def setCells (cs:List C)(o:Nat)(xs:List C):List C:=cs.take o++xs++cs.drop (o+xs.length)
def fa (vs:List Value)(o:Nat)(xs:List Value):List Value:=
 match xs with
 | [x]=>vs.set o x
 | _=>vs.take o++xs++vs.drop (o+xs.length)
def C.val?:C->Option Value
 | .v x=>some x
 | .w x=>some x
 | .tt=>some (.bool true)
 | .ff=>some (.bool false)
 | _=>none
def kh:List C->Option (List Value)
 | []=>some []
 | c::r=>match c.val?,kh r with
  | some v,some vs=>some (v::vs)
  | _,_=>none
def iW (bx:Nat->Option aF)(i:TI)(x:SV):Q:=
 match x with
 | .c (.ptr b o)=>match bx b with
  | some ⟨.lit cs,_⟩=>match i.k with
   | .struct _|.arr _ _=>if Nat.ble (o+i.size) cs.length then .ret [] (.agg ((cs.drop o).take i.size)) else .fail
   | _=>match cs[o]? with
    | some c=>.ret [] (.c c)
    | none=>.fail
  | some ⟨.row vs,_⟩=>.ni vs o i.size (kf i)
  | some ⟨.aJ vs,_⟩=>if Nat.beq i.size 0 then .fail else .ni vs o i.size (kf i)
  | none=>.fail
 | .c (.v (.pointer p))=>if Nat.beq i.zero.length i.size then .rd p (kf i) else .fail
 | _=>.fail
def gj (bx:Nat->Option aF)(i:TI)(a x:SV):Q:=
 match a with
 | .c (.ptr b o)=>if Nat.beq x.cells.length i.size&&!x.uK then match bx b with
   | some ⟨.lit cs,ty⟩=>if Nat.ble (o+i.size) cs.length then .sG x.eT b ⟨.lit (setCells cs o x.cells),ty⟩ else .fail
   | some ⟨.row vs,ty⟩=>match kh x.cells with
    | some xs=>.sG (x.eT++[o+i.size<=vs.length]) b ⟨.row (fa vs o xs),ty⟩
    | none=>.fail
   | some ⟨.aJ vs,ty⟩=>if Nat.beq i.size 0 then .fail else match kh x.cells with
    | some xs=>.sG (x.eT++[o+i.size<=vs.length]) b ⟨.aJ (fa vs o xs),ty⟩
    | none=>.fail
   | none=>.fail
  else .fail
 | _=>.fail
def nf (place:Nat->Option (Nat×Nat))(cells:List C):List (Nat×SV)->Option (List C)
 | []=>some cells
 | (i,x)::r=>match place i with
  | none=>none
  | some (off,size)=>if Nat.beq x.cells.length size&&Nat.ble (off+size) cells.length&&!x.uK then nf place (setCells cells off x.cells) r else none
def partsOf (ρ:Operand->Option SV):List (Nat×Operand)->Option (List (Nat×SV))
 | []=>some []
 | (i,o)::r=>match ρ o,partsOf ρ r with
  | some x,some l=>some ((i,x)::l)
  | _,_=>none
def fw (T:cI):List (TypeId×Nat)->Option (List (Nat×Nat))
 | []=>some []
 | (t,off)::r=>match au T t,fw T r with
  | some i,some l=>some ((off,i.size)::l)
  | _,_=>none
def rep (n:Nat)(zs:List C):List C:=(List.replicate n zs).flatten
def oz (n:Nat)(zs:List Value):List Value:=
 match zs with
 | [z]=>List.replicate n z
 | _=>(List.replicate n zs).flatten
def pJ (a:OA)(m l sz:Nat):OA:=if m=l then a else addrAdd a (l*sz)
def WB (o m l sz:Nat):Nat:=if m=l then o else o+l*sz
def Lj (c:Nat):Option SV->Option (List Prop×Nat)
 | none=>some ([],c)
 | some (.c (.v (.int _ m)))=>some ([0<=m/\m<=(c:Int)],m.toNat)
 | _=>none
def Jt (n m:Nat):Option SV->Option SV->Option (List Prop×Nat)
 | some (.c (.v (.int _ h))),_=>some ([0<=h/\h<=(m:Int)],h.toNat)
 | none,none=>some ([],n)
 | _,_=>none
def NT (h:Nat):Option SV->Option (List Prop×Option Nat)
 | none=>some ([],none)
 | some (.c (.v (.int _ l)))=>some ([0<=l/\l<=(h:Int)],some l.toNat)
 | _=>none
def mN (n c:Nat)(lo hi mx:Option SV):Option (List Prop×Option Nat×Nat×Nat):=
 match Lj c mx with
 | none=>none
 | some (p1,m)=>match Jt n m hi mx with
  | none=>none
  | some (p2,h)=>match NT h lo with
   | none=>none
   | some (p3,l)=>some (p1++p2++p3,l,h,m)
def An (ρ:Operand->Option SV):Option Operand->Option (Option SV)
 | none=>some none
 | some x=>match ρ x with
  | some v=>some (some v)
  | none=>none
def qS (sz:Nat)(x:SV)(lo hi mx:Option SV):Q:=
 match x with
 | .c (.v (.slice a n c))=>match mN n c lo hi mx with
  | some (sc,none,h,m)=>.ret sc (.c (.v (.slice a h m)))
  | some (sc,some l,h,m)=>.ret sc (.c (.v (.slice (pJ a m l sz) (h-l) (m-l))))
  | none=>.fail
 | .c (.lu s o n c)=>match mN n c lo hi mx with
  | some (sc,none,h,m)=>.ret sc (.c (.lu s o h m))
  | some (sc,some l,h,m)=>.ret sc (.c (.lu s (WB o m l sz) (h-l) (m-l)))
  | none=>.fail
 | .c (.gD s n c)=>match mx with
  | none=>match mN n c lo hi none with
   | some (sc,none,h,m)=>.ret sc (.c (.gD s h m))
   | _=>.fail
  | some _=>.fail
 | _=>.fail
def gi (T:cI)(i:TI)(x ix:SV):Q:=
 match ix with
 | .c (.v (.int _ n))=>match i.k with
  | .slice e=>match au T e with
   | some ei=>match x with
    | .c (.v (.slice a len _))=>.ret [a.isSome=true,0<=n/\n<(len:Int)] (.c (.v (.pointer (addrAdd a (n.toNat*ei.size)))))
    | .c (.lu s o len _)=>.ret [0<=n/\n<(len:Int)] (.c (.ptr s (o+n.toNat*ei.size)))
    | .c (.gD s len c)=>.ret [0<=n/\n<(len:Int),len<=c] (.c (.ptr s (n.toNat*ei.size)))
    | _=>.fail
   | none=>.fail
  | .arr len e=>match au T e with
   | some ei=>match x with
    | .c (.ptr s o)=>.ret [0<=n/\n<(len:Int)] (.c (.ptr s (o+n.toNat*ei.size)))
    | .c (.v (.pointer a))=>.ret [a.isSome=true,0<=n/\n<(len:Int)] (.c (.v (.pointer (addrAdd a (n.toNat*ei.size)))))
    | _=>.fail
   | none=>.fail
  | _=>.fail
 | _=>.fail
def yZ (T:cI)(i:TI)(l c:SV):Q:=
 match i.k with
 | .slice e=>match au T e with
  | some ei=>match l,c with
   | .c (.v (.int _ n)),.c (.v (.int _ m))=>match kh ei.zero with
    | some zs=>if Nat.beq ei.bytes 0||Nat.beq ei.size 0||!(Nat.beq ei.size zs.length) then .fail else .new [0<=n,n<=m,(ei.bytes:Int)*m<=140737488355328] ⟨.row (oz m.toNat zs),e⟩ fun d=>.c (.lu d 0 n.toNat m.toNat)
    | none=>.fail
   | _,_=>.fail
  | none=>.fail
 | _=>.fail
def vi:List SV->Option (List Nat)
 | []=>some []
 | .c (.ptr s 0)::r=>match vi r with
  | some l=>some (s::l)
  | none=>none
 | _=>none
def bL (ρ:Operand->Option SV):List Operand->Option (List SV)
 | []=>some []
 | o::r=>match ρ o,bL ρ r with
  | some x,some l=>some (x::l)
  | _,_=>none
def bJ (a b:Int):Int:=if b<a then b else a
def maxI (a b:Int):Int:=if b>a then b else a
def foldI (f:Int->Int->Int)(k:IntKind)(a:Int):List SV->Option Int
 | []=>some a
 | .c (.v (.int k' b))::r=>if uL k k' then foldI f k (f a b) r else none
 | _=>none
def dU (bx:Nat->Option aF)(s:Nat):Option (List Value):=
 match bx s with
 | some ⟨.lit cs,_⟩=>kh cs
 | some ⟨.row vs,_⟩=>some vs
 | _=>none
def jP (bx:Nat->Option aF)(s:Nat):Option TypeId:=match bx s with|some b=>some b.ty|none=>none
def rowTake (ws:List Value)(o n:Nat):List Value:=cond (Nat.ble (o+n) ws.length) ((ws.drop o).take n) (List.replicate n (.agg #[]))
def rowTakeM (ws:List Value)(k c sz:Nat):List Value:=cond (Nat.ble k c) (rowTake ws 0 (k*sz)) (List.replicate (k*sz) (.agg #[]))
def bV (bx:Nat->Option aF)(e:TypeId)(ei:TI)(b x:SV):Q:=
 match kh ei.zero with
 | none=>.fail
 | some zs=>if Nat.beq ei.bytes 0||Nat.beq ei.size 0||!(Nat.beq ei.size zs.length) then .fail else
  let src:Option (OA×Nat ⊕ List Value):=match x with
   | .c (.v (.slice a k _))=>some (.inl (a,k))
   | .c (.lu s o k _)=>match bx s with
    | some ⟨.row ws,_⟩=>some (.inr (rowTake ws o (k*ei.size)))
    | _=>match dU bx s with
     | some ws=>if Nat.ble (o+k*ei.size) ws.length then some (.inr ((ws.drop o).take (k*ei.size))) else none
     | none=>none
   | .c (.gD s k c)=>match bx s with
    | some ⟨.aJ ws,_⟩=>some (.inr (rowTakeM ws k c ei.size))
    | _=>none
   | _=>none
  match src with
  | none=>.fail
  | some src=>match b with
   | .c (.v (.slice a n c))=>.app none a [] n c src ei.size ei.bytes e
   | .c (.lu s 0 n c)=>match dU bx s,jP bx s with
    | some vs,some ty=>if Nat.beq ty e then .app (some s) none vs n c src ei.size ei.bytes e else .fail
    | _,_=>.fail
   | .c (.gD s n c)=>match bx s with
    | some ⟨.aJ vs,ty⟩=>if Nat.beq ty e then .qK s vs n c src ei.size ei.bytes e else .fail
    | _=>.fail
   | _=>.fail
def kd (b:Builtin)(k:TK)(xs:List SV):Q:=
 match xs with
 | []=>.fail
 | x::r=>match b with
  | .len=>match r,k,x with
   | [],.slice _,.c (.v (.slice _ n _))=>.ret [] (.c (.v (.int .i64 n)))
   | [],.slice _,.c (.lu _ _ n _)=>.ret [] (.c (.v (.int .i64 n)))
   | [],.slice _,.c (.gD _ n _)=>.ret [] (.c (.v (.int .i64 n)))
   | [],.str,.c (.v (.string s))=>.ret [] (.c (.v (.int .i64 s.size)))
   | _,_,_=>.fail
  | .cap=>match r,k,x with
   | [],.slice _,.c (.v (.slice _ _ c))=>.ret [] (.c (.v (.int .i64 c)))
   | [],.slice _,.c (.lu _ _ _ c)=>.ret [] (.c (.v (.int .i64 c)))
   | [],.slice _,.c (.gD _ _ c)=>.ret [] (.c (.v (.int .i64 c)))
   | _,_,_=>.fail
  | .min=>match x with
   | .c (.v (.int k a))=>match foldI bJ k a r with
    | some m=>.ret [] (.c (.v (.int k m)))
    | none=>.fail
   | _=>.fail
  | .max=>match x with
   | .c (.v (.int k a))=>match foldI maxI k a r with
    | some m=>.ret [] (.c (.v (.int k m)))
    | none=>.fail
   | _=>.fail
  | _=>.fail
def vk (t:TypeId)(i:TI)(v:SV):Q:=
 match i.k with
 | .iface=>.fail
 | _=>match v.ids,v.uK with
  | [],false=>.ret [] (.c (.w (.iface t (v.den fun _=>0))))
  | _,_=>.fail
def kV (T:cI)(bx:Nat->Option aF)(t:TypeId)(x:SV):Q:=
 match au T t with
 | some i=>match i.k with
  | .slice e=>match au T e with
   | some ei=>match kh ei.zero,x with
    | some zs,.c (.lu s o n _)=>match bx s with
     | some ⟨.row vs,ty⟩=>if Nat.beq ei.size 0||!(Nat.beq ei.size zs.length)||!(zs.all Value.oneCell') then .fail else .sG [o+n*ei.size<=vs.length] s ⟨.row (vs.take o++oz n zs++vs.drop (o+n*ei.size)),ty⟩
     | _=>.fail
    | _,_=>.fail
   | none=>.fail
  | _=>.fail
 | none=>.fail
def FY:List C->Option (List (OA×Nat×Nat))
 | []=>some []
 | .v (.slice p n c)::r=>match FY r with
  | some l=>some ((p,n,c)::l)
  | none=>none
 | _=>none
def ke (T:cI)(i:TI)(cs:List C)(k:Int):Q:=
 match i.k with
 | .arr n e=>match au T e,FY cs with
  | some ei,some l=>match ei.k with
   | .slice _=>if Nat.beq ei.size 1&&Nat.beq l.length n then .ret [0<=k/\k<(n:Int)] (.c (.v (.slice (l.getD k.toNat (none,0,0)).1 (l.getD k.toNat (none,0,0)).2.1 (l.getD k.toNat (none,0,0)).2.2))) else .fail
   | _=>.fail
  | _,_=>.fail
 | _=>.fail
def aC (T:cI)(ρ:Operand->Option SV)(bx:Nat->Option aF)(op:Op):Q:=
 match op with
 | .move x|.assign x=>match ρ x with
  | some v=>.ret [] v
  | none=>.fail
 | .pick c a b=>match ρ c with
  | some (.c .tt)=>match ρ a with
   | some v=>.ret [] v
   | none=>.fail
  | some (.c .ff)=>match ρ b with
   | some v=>.ret [] v
   | none=>.fail
  | _=>.fail
 | .alloc t=>match au T t with
  | some i=>.new [] ⟨.lit i.zero,t⟩ fun d=>.c (.ptr d 0)
  | none=>.fail
 | .box t x=>match ρ x with
  | some v=>match v.uK with
   | true=>.fail
   | false=>.new v.eT ⟨.lit v.cells,t⟩ fun d=>.c (.ptr d 0)
  | none=>.fail
 | .build t parts=>match au T t,partsOf ρ parts.toList with
  | some i,some ps=>match i.k with
   | .struct fs=>match fw T fs with
    | some pl=>match nf (fun j=>pl[j]?) i.zero ps with
     | some cs=>.ret (ps.flatMap fun x=>x.2.eT) (.agg cs)
     | none=>.fail
    | none=>.fail
   | .arr _ e=>match au T e with
    | some ei=>match nf (fun j=>some (j*ei.size,ei.size)) i.zero ps with
     | some cs=>.ret (ps.flatMap fun x=>x.2.eT) (.agg cs)
     | none=>.fail
    | none=>.fail
   | _=>.fail
  | _,_=>.fail
 | .buildSlice t len parts=>match au T t,partsOf ρ parts.toList with
  | some i,some ps=>match i.k with
   | .slice e=>match au T e with
    | some ei=>if Nat.ble (len*ei.size) 16777216&&Nat.beq ei.zero.length ei.size&&!(Nat.beq ei.size 0) then match nf (fun j=>some (j*ei.size,ei.size)) (rep len ei.zero) ps with
      | some cs=>.new (ps.flatMap fun x=>x.2.eT) ⟨.lit cs,e⟩ fun d=>.c (.lu d 0 len len)
      | none=>.fail
     else .fail
    | none=>.fail
   | _=>.fail
  | _,_=>.fail
 | .load t a=>match au T t,ρ a with
  | some i,some x=>iW bx i x
  | _,_=>.fail
 | .store t a x=>match au T t,ρ a,ρ x with
  | some i,some av,some xv=>gj bx i av xv
  | _,_,_=>.fail
 | .nilCheck x=>match ρ x with
  | some (.c (.ptr s o))=>.ret [] (.c (.ptr s o))
  | some (.c (.v (.pointer p)))=>.ret [p.isSome=true] (.c (.v (.pointer p)))
  | _=>.fail
 | .binOp o xt x y _=>match ρ x,ρ y with
  | some (.c a),some (.c b)=>match b with
   | .v .nilIface=>match y with
    | .const _=>Aw T o xt a b
    | _=>.fail
   | b=>Aw T o xt a b
  | _,_=>.fail
 | .unOp .not _ x=>match ρ x with
  | some (.c .tt)=>.ret [] (.c .ff)
  | some (.c .ff)=>.ret [] (.c .tt)
  | some (.c (.v (.bool b)))=>.ret [] (.c (.v (.bool (!b))))
  | _=>.fail
 | .unOp .xor _ x=>match ρ x with
  | some (.c (.v (.int k n)))=>.ret [] (.c (.v (.int k (bg .xor k (if k.signed then -1 else k.max) n))))
  | _=>.fail
 | .unOp .neg _ x=>match ρ x with
  | some (.c (.v (.int k n)))=>.ret [] (.c (.v (.int k (k.wrap (0-n)))))
  | _=>.fail
 | .convert src dst x=>match au T src,au T dst,ρ x with
  | some _,some i,some (.c (.v (.int _ n)))=>match i.k with
   | .int k=>.ret [] (.c (.v (.int k (k.wrap n))))
   | _=>.fail
  | _,_,_=>.fail
 | .makeFunc (.func f) first caps=>match first.toList with
  | []=>match bL ρ caps.toList with
   | some xs=>match vi xs with
    | some ss=>.ret [] (.c (.zR f ss))
    | none=>.fail
   | none=>.fail
  | _=>.fail
 | .makeSlice t l c=>match au T t,ρ l,ρ c with
  | some i,some lv,some cv=>yZ T i lv cv
  | _,_,_=>.fail
 | .slice t x lo hi mx=>match au T t,ρ x,An ρ lo,An ρ hi,An ρ mx with
  | some i,some xv,some l,some h,some m=>match i.k with
   | .slice e=>match au T e with
    | some ei=>qS ei.size xv l h m
    | none=>.fail
   | _=>.fail
  | _,_,_,_,_=>.fail
 | .fieldAddr t x f=>match au T t,ρ x with
  | some i,some xv=>match i.k with
   | .struct fs=>match fs[f]? with
    | some (ft,off)=>match au T ft with
     | some fi=>if Nat.beq fi.size 0 then .fail else match xv with
      | .c (.ptr s o)=>.ret [] (.c (.ptr s (o+off)))
      | .c (.v (.pointer p))=>.ret [p.isSome=true] (.c (.v (.pointer (addrAdd p off))))
      | _=>.fail
     | none=>.fail
    | none=>.fail
   | _=>.fail
  | _,_=>.fail
 | .field t x f=>match au T t,ρ x with
  | some i,some (.agg cs)=>match i.k with
   | .struct fs=>match fs[f]? with
    | some (ft,off)=>match au T ft with
     | some fi=>match fi.k with
      | .struct _|.arr _ _=>.ret [] (.agg ((cs.drop off).take fi.size))
      | _=>match cs[off]? with
       | some c=>.ret [] (.c c)
       | none=>.fail
     | none=>.fail
    | none=>.fail
   | _=>.fail
  | _,_=>.fail
 | .indexAddr t x ix=>match au T t,ρ x,ρ ix with
  | some i,some xv,some iv=>gi T i xv iv
  | _,_,_=>.fail
 | .extract x j=>match ρ x with
  | some (.oB xs)=>match xs[j]? with
   | some v=>match qp v with
    | some y=>.ret [] y
    | none=>.fail
   | none=>.fail
  | _=>.fail
 | .call c=>match c.callee with
  | .builtin .append=>match bL ρ c.args.toList,c.argTypes.toList with
   | some [b,x],[t,t']=>match au T t,au T t' with
    | some i,some i'=>match i.k,i'.k with
     | .slice e,.slice _=>match au T e with
      | some ei=>bV bx e ei b x
      | none=>.fail
     | _,_=>.fail
    | _,_=>.fail
   | _,_=>.fail
  | .builtin .clear=>match bL ρ c.args.toList,c.argTypes.toList with
   | some [x],[t]=>kV T bx t x
   | _,_=>.fail
  | .builtin b=>match bL ρ c.args.toList,c.argTypes.toList with
   | some xs,t::_=>match au T t with
    | some i=>kd b i.k xs
    | none=>.fail
   | _,_=>.fail
  | _=>.fail
 | .index t x ix=>match au T t,ρ x,ρ ix with
  | some i,some (.c (.v (.string s))),some (.c (.v (.int _ n)))=>match i.k with
   | .str=>.ret [0<=n/\n<(s.size:Int)] (.c (.v (.int .u8 ((s.data.toList.getD n.toNat 0).toNat:Int))))
   | _=>.fail
  | some i,some (.agg cs),some (.c (.v (.int _ n)))=>ke T i cs n
  | _,_,_=>.fail
 | .makeInterface t x=>match au T t,ρ x with
  | some i,some v=>vk t i v
  | _,_=>.fail
 | _=>.fail
def zx:List Prop->Prop->Prop
 | [],k=>k
 | p::r,k=>p/\zx r k
def View.Lm (V:View)(p:Addr):Nat->List C->Prop->Prop
 | _,[],k=>k
 | i,c::r,k=>V.at (p.add i) (c.den fun _=>0)/\V.Lm p (i+1) r k
def View.Kq (V:View)(p:OA)(x:SV)(k:Prop):Prop:=
 match x with
 | .agg cs=>∃a,p=some a/\V.Lm a 0 cs k
 | .c c=>(∃a,p=some a/\V.at a (c.den fun _=>0))/\k
 | .oB _=>False
def Lr (vs:List Value)(o size:Nat)(x:SV):Prop:=
 match x with
 | .agg cs=>o+size<=vs.length/\(vs.drop o).take size=cs.map (C.den fun _=>0)
 | .c c=>vs[o]?=some (c.den fun _=>0)
 | .oB _=>False
def eH (x:Nat):List Nat->Bool
 | []=>false
 | y::r=>cond (Nat.beq x y) true (eH x r)
def dedup:List Nat->List Nat
 | []=>[]
 | x::r=>let l:=dedup r;cond (eH x l) l (x::l)
def uw (l m:List Nat):Bool:=l.all fun x=>!(eH x m)
def JU (l m:List Nat):Bool:=l.all fun x=>eH x m
def C.rel (L:List Nat)(β:Nat->Nat)(J:C->Value):C->C
 | .ptr s o=>cond (eH s L) (.v (.pointer (some ⟨β s,o,none⟩))) (.ptr s o)
 | .lu s o n c=>cond (eH s L) (.v (.slice (some ⟨β s,o,none⟩) n c)) (.lu s o n c)
 | .gD s n c=>cond (eH s L) (.v (.slice (mA (β s) c) n c)) (.gD s n c)
 | .zR f ss=>cond (uw ss L) (.zR f ss) (.w (J (.zR f ss)))
 | x=>x
def SV.rel (L:List Nat)(β:Nat->Nat)(J:C->Value):SV->SV
 | .c x=>.c (x.rel L β J)
 | .agg cs=>.agg (cs.map (C.rel L β J))
 | .oB xs=>.oB (xs.map fun x=>(x.1,x.2.map (C.rel L β J)))
def aF.rel (L:List Nat)(β:Nat->Nat)(J:C->Value)(b:aF):aF:=
 match b.cs with
 | .row _=>b
 | .aJ _=>b
 | .lit cs=>⟨.lit (cs.map (C.rel L β J)),b.ty⟩
def St.rel (st:St)(L:List Nat)(β:Nat->Nat)(J:C->Value):St:=
 ⟨fun t=>match st.ao t with|some x=>some (x.rel L β J)|none=>none,
   fun t=>cond (eH t L) none (match st.boxes t with|some b=>some (b.rel L β J)|none=>none)⟩
def View.sl (V:View)(a:OA)(xs:List Value):Prop:=∀i v,xs[i]?=some v->∃ad,a=some ad/\V.at (ad.add i) v
def mW (s d:Nat):Nat:=cond (Nat.blt s 100000) d (d+200000)
def Bn (s:Nat)(vs:List Value)(n c size bytes:Nat)(ty:TypeId)(d:Nat)(st:St)(V:View)(K:St->View->Prop)(k:Nat)(xs:List Value):Prop:=
 (n+k)*bytes<=140737488355328/\n<=c/\c*size<=vs.length/\xs.length=k*size/\(∀v∈xs,v.oneCell'=true) /\
  match st.boxes (mW s d) with
  | some _=>False
  | none=>∀(_:Nat)(_:C->Value)(spare:List Value)(c':Nat),n+k<=c'->c'*size<=(n+k)*size+spare.length ->
   K (((st.box s ⟨.aJ [],ty⟩).box (mW s d) ⟨.row (vs.take (n*size)++xs++spare),ty⟩).put (some d) (.c (.lu (mW s d) 0 (n+k) c'))) V
def rM (s:Nat)(vs:List Value)(n c size bytes:Nat)(ty:TypeId)(d:Nat)(st:St)(V:View)(K:St->View->Prop)(k:Nat)(xs:List Value):Prop:=
 (n+k)*bytes<=140737488355328/\n<=c/\c*size<=vs.length/\xs.length=k*size/\(∀v∈xs,v.oneCell'=true) /\
  match st.boxes (mW s d) with
  | some _=>False
  | none=>∀(spare:List Value)(c':Nat),n+k<=c'->c'*size<=(n+k)*size+spare.length ->
   K (((st.box s ⟨.aJ [],ty⟩).box (mW s d) ⟨.aJ (vs.take (n*size)++xs++spare),ty⟩).put (some d) (.c (.gD (mW s d) (n+k) c'))) V
def Bo (vs:List Value)(n c size bytes:Nat)(ty:TypeId)(d:Nat)(st:St)(V:View)(K:St->View->Prop)(k:Nat)(xs:List Value):Prop:=
 (n+k)*bytes<=140737488355328/\c<n+k/\xs.length=k*size/\(∀v∈xs,v.oneCell'=true) /\
  match st.boxes d with
  | some _=>False
  | none=>∀(spare:List Value)(c':Nat),n+k<=c'->c'*size<=(n+k)*size+spare.length ->
   K ((st.box d ⟨.row (vs++xs++spare),ty⟩).put (some d) (.c (.lu d 0 (n+k) c'))) V
def sH (q:Q)(dst:Option Nat)(st:St)(V:View)(K:St->View->Prop):Prop:=
 match q with
 | .fail=>False
 | .ret sc x=>zx sc (K (st.put dst x) V)
 | .new sc b x=>match dst with
  | some d=>match st.boxes d with
   | none=>zx sc (K ((st.box d b).put (some d) (x d)) V)
   | some _=>False
  | none=>False
 | .sG sc s b=>match dst with
  | none=>zx sc (K (st.box s b) V)
  | some _=>False
 | .rd p sh=>sh.ex fun x=>V.Kq p x (K (st.put dst x) V)
 | .ni vs o size sh=>sh.ex fun x=>Lr vs o size x/\K (st.put dst x) V
 | .qK s vs n c x size bytes ty=>match dst with
  | none=>False
  | some d=>match x with
   | .inr xs=>rM s vs n c size bytes ty d st V K (xs.length / size) xs
   | .inl (a,k)=>∃xs:List Value,V.sl a xs/\xs.length=k*size/\rM s vs n c size bytes ty d st V K k xs
 | .app old ba vs n c x size bytes ty=>match dst with
  | none=>False
  | some d=>match old with
   | some s=>match x with
    | .inr xs=>Bn s vs n c size bytes ty d st V K (xs.length / size) xs
    | .inl (a,k)=>∃xs:List Value,V.sl a xs/\xs.length=k*size/\Bn s vs n c size bytes ty d st V K k xs
   | none=>∃vs:List Value,V.sl ba vs/\vs.length=n*size/\n<=c/\(ba.isNone=true->c=0)/\(match x with
    | .inr xs=>Bo vs n c size bytes ty d st V K (xs.length / size) xs
    | .inl (a,k)=>∃xs:List Value,V.sl a xs/\xs.length=k*size/\(k=0->K (st.put (some d) (.c (.v (.slice ba n c)))) V)/\(k≠0->Bo vs n c size bytes ty d st V K k xs))
def dh (β:Nat->Nat)(s b:Nat):Nat->Nat:=fun t=>cond (Nat.beq t s) b (β t)
def kr:List Nat->(Nat->Nat)->((Nat->Nat)->Prop)->Prop
 | [],β,k=>k β
 | s::r,β,k=>∀b:Nat,kr r (dh β s b) k
def kv (bx:Nat->Option aF)(s:Nat):List Nat:=match bx s with|some b=>b.cs.ids|none=>[]
def reach (bx:Nat->Option aF):Nat->List Nat->List Nat
 | 0,l=>l
 | n+1,l=>reach bx n (dedup (l++l.flatMap (kv bx)))
def gx (bx:Nat->Option aF)(l:List Nat):Bool:=l.all fun s=>JU (kv bx s) l
def Mh (bx:Nat->Option aF)(b:aF)(β:Nat->Nat)(s:Nat):List Nat->Prop->Prop
 | [],k=>k
 | t::r,k=>cond (Nat.beq s t) (Mh bx b β s r k) (match bx t with
  | some b'=>oV (Hs b++Hs b') (β s≠β t)->Mh bx b β s r k
  | none=>False)
def hJ (bx:Nat->Option aF)(β:Nat->Nat)(V:View):List Nat->Prop->Prop
 | [],k=>k
 | s::r,k=>match bx s with
  | some b=>oV (Hs b) (V.w.heap[β s]?=some (b.obj β))->oV (Hs b) (V.H (β s))->hJ bx β V r (Mh bx b β s r k)
  | none=>False
def vb (vs:List Value)(n b:Nat):Nat:=
 match vs with
 | []=>n
 | _::_=>b
def cR (bx:Nat->Option aF)(β:Nat->Nat)(n:Nat)(s:Nat):Nat:=
 match bx s with
 | some ⟨.aJ vs,_⟩=>vb vs n (β s)
 | _=>β s
def C.kept:C->List Nat
 | .zR _ ss=>0::ss
 | c=>c.ids
def kO (mv:Option (Nat×Nat)):List C->List C->(List C->Prop)->Prop
 | [],_,K=>K []
 | c::r,z::zr,K=>match c with
  | .gD t _ _=>match mv with
   | some (m,nb)=>match Nat.beq t m with
    | true=>∃n c:Nat,kO mv r zr fun cs=>K (.gD nb n c::cs)
    | false=>False
   | none=>False
  | c=>match c.kept with
   | []=>(Rc z).ex fun v=>kO mv r zr fun cs=>K (v::cs)
   | _=>kO mv r zr fun cs=>K (c::cs)
 | _,[],_=>False
def dK (T:cI)(mv:Option (Nat×Nat))(β:Nat->Nat)(V:View):List Nat->St->(St->Prop)->Prop
 | [],st,k=>k st
 | s::r,st,k=>match st.boxes s with
  | some ⟨.lit cs,ty⟩=>match au T ty with
   | some i=>kO mv cs i.zero fun cs'=>V.w.heap[β s]?=some (.cells (cs'.map (C.den β)).toArray ty (0,0))/\dK T mv β V r (st.box s ⟨.lit cs',ty⟩) k
   | none=>False
  | some ⟨.row _,ty⟩=>∃vs:List Value,V.w.heap[β s]?=some (.cells vs.toArray ty (0,0))/\dK T mv β V r (st.box s ⟨.row vs,ty⟩) k
  | some ⟨.aJ vs,ty⟩=>vs≠[]/\∃vs':List Value,vs'≠[]/\V.w.heap[β s]?=some (.cells vs'.toArray ty (0,0))/\dK T mv β V r (st.box s ⟨.aJ vs',ty⟩) k
  | _=>False
def pA (bx:Nat->Option aF)(β:Nat->Nat)(V:View):List Nat->Prop->Prop
 | [],k=>k
 | s::r,k=>match bx s with
  | some b=>oV (Hs b) (V.aS (β s) (b.obj β))->pA bx β V r k
  | none=>False
def nL:List C->List Nat
 | []=>[]
 | .gD t _ _::r=>t::nL r
 | _::r=>nL r
def pg (bx:Nat->Option aF)(L:List Nat):List Nat:=dedup (L.flatMap fun s=>match bx s with|some ⟨.lit cs,_⟩=>nL cs|_=>[])
def kQ:List SV->List Nat
 | []=>[]
 | .c (.gD s _ _)::_=>[s]
 | .c (.lu s 0 _ _)::_=>[s]
 | _::r=>kQ r
def tr (nb:Nat):List (Bool×List C)->List (Bool×List C)
 | []=>[]
 | (false,[.v (.slice _ n c)])::r=>(false,[.gD nb n c])::r
 | x::r=>x::tr nb r
def z_ (nb:Nat):List C->List C
 | []=>[]
 | .v (.slice _ n c)::r=>.gD nb n c::r
 | x::r=>x::z_ nb r
def qD (nb:Nat):SV->SV
 | .c (.v (.slice _ n c))=>.c (.gD nb n c)
 | .agg cs=>.agg (z_ nb cs)
 | .oB xs=>.oB (tr nb xs)
 | x=>x
def Aa (T:cI):List TypeId->Option TypeId
 | []=>none
 | t::r=>match au T t with
  | some i=>match i.k with
   | .slice e=>some e
   | _=>Aa T r
  | none=>none
def Iq (T:cI)(ty:TypeId):Option TypeId:=
 match au T ty with
 | some i=>match i.k with
  | .slice e=>some e
  | .tuple ts=>Aa T ts
  | .struct fs=>Aa T (fs.map Prod.fst)
  | _=>none
 | none=>none
def aE (β:Nat->Nat)(xs:List SV):Array Value:=(xs.map (SV.den β)).toArray
inductive CM where
 | none|lend|rel|gZ|give
def eO (m:Option Nat)(d:Nat):Nat:=
 match m with
 | some m=>mW m d
 | Option.none=>d
def Y3 (m:Option Nat)(nb:Nat):Option (Nat×Nat):=
 match m with
 | some m=>some (m,nb)
 | Option.none=>Option.none
def Cl (m:Option Nat)(L:List Nat):List Nat:=
 match m with
 | some m=>L.filter fun s=>!(Nat.beq s m)
 | Option.none=>L
def oT (m:Option Nat)(ety:TypeId)(st:St):St:=
 match m with
 | some m=>st.box m ⟨.aJ [],ety⟩
 | Option.none=>st
def wq (m:Option Nat)(st:St)(β:Nat->Nat)(b':Nat):Prop:=
 match m with
 | some m=>match st.boxes m with
  | some ⟨.aJ vs,_⟩=>vs≠[]/\b'=β m
  | _=>b'=β m
 | Option.none=>False
def bH (T:cI)(give:Bool)(sh:Sh)(L:List Nat)(m:Option Nat)(d:Nat)(ety:TypeId)(β:Nat->Nat)(st:St)(V':View)(K:St->View->Prop)(r':Value)(eF:View):Prop:=
 ∃(b':Nat)(vs':List Value),(vs'≠[]->eF.w.heap[b']?=some (.cells vs'.toArray ety (0,0)))/\(vs'≠[]->V'.w.heap.size<=b'\/wq m st β b') /\
  sh.ex fun x=>r'=(cond give (qD (eO m d) x) x).den (dh β (eO m d) b') /\
   dK T (Y3 m (eO m d)) (dh β (eO m d) b') eF (Cl m L) ((oT m ety st).box (eO m d) ⟨.aJ vs',ety⟩) fun st'=>K (st'.put (some d) (cond give (qD (eO m d) x) x)) (eF.shut.hideG (vs'≠[]) b')
def AE (bx:Nat->Option aF)(m ety:Nat):Bool:=
 match bx m with
 | some ⟨_,t⟩=>Nat.beq t ety
 | Option.none=>true
def di (st:St)(L:List Nat)(ty:TypeId):St:=L.foldl (fun st s=>st.box s ⟨.aJ [],ty⟩) st
def iT (st:St)(m:Option Nat)(d:Nat):Bool:=
 match st.boxes (eO m d) with
 | some _=>false
 | Option.none=>true
def fg (P:Program)(T:cI)(m:CM)(f:FuncId)(xs:List SV)(ty:TypeId)(dst:Option Nat)(st:St)(V:View)(K:St->View->Prop):Prop:=
 match T7 T ty with
 | Option.none=>False
 | some sh=>match reach st.boxes 3 (dedup (xs.flatMap SV.ids)) with
  | []=>match m with
   | .give=>match dst,Iq T ty with
    | some d,some ety=>match iT st Option.none d with
     | false=>False
     | true=>∀V':View,V.Le V'->Acts P f (aE (fun _=>0) xs) V' (bH T true sh [] Option.none d ety (fun _=>0) st V' K)
    | _,_=>False
   | .gZ=>match sh,dst with
    | .val (.one .ptr),some d=>match st.boxes d with
     | some _=>False
     | Option.none=>match au T ty with
      | some ti=>match ti.k with
       | .ptr e=>match au T e with
        | some ei=>∀V':View,V.Le V'->Acts P f (aE (fun _=>0) xs) V' fun r eF=>∃b:Nat,MX (ei.zero.map Rc) fun cs=>
          r=.pointer (some ⟨b,0,Option.none⟩)/\V'.w.heap.size<=b/\eF.aS b (.cells (cs.map (C.den fun _=>0)).toArray e (0,0))/\K ((st.box d ⟨.lit cs,e⟩).put (some d) (.c (.ptr d 0))) (eF.KT b)
        | Option.none=>False
       | _=>False
      | Option.none=>False
    | _,_=>False
   | _=>∀V':View,V.Le V'->Acts P f (aE (fun _=>0) xs) V' fun r eF=>sh.ex fun x=>r=x.den (fun _=>0)/\K (st.put dst x) eF
  | s::r=>match gx st.boxes (s::r) with
   | false=>False
   | true=>match m with
    | .none|.gZ=>False
    | .give=>match dst,Iq T ty,kQ xs,pg st.boxes (s::r) with
     | some d,some ety,[],[]=>match iT st Option.none d with
      | false=>False
      | true=>∀V':View,V.Le V'->kr (s::r) (fun _=>0) fun β=>hJ st.boxes β V' (s::r)
       (Acts P f (aE β xs) (V'.lend ((s::r).map (cR st.boxes β V'.w.heap.size))) (bH T true sh (s::r) Option.none d ety β st V' K))
     | some d,some ety,[m],[]=>match AE st.boxes m ety with
      | true=>match iT st (some m) d with
       | false=>False
       | true=>∀V':View,V.Le V'->kr (s::r) (fun _=>0) fun β=>hJ st.boxes β V' (s::r)
        (Acts P f (aE β xs) (V'.lend ((s::r).map (cR st.boxes β V'.w.heap.size))) (bH T true sh (s::r) (some m) d ety β st V' K))
      | false=>match iT (di st (s::r) 0) Option.none d with
       | false=>False
       | true=>match (s::r).all fun t=>Nat.blt t 100000 with
        | false=>False
        | true=>∀V':View,V.Le V'->kr (s::r) (fun _=>0) fun β=>pA st.boxes β V' (s::r)
         (Acts P f (aE β xs) V' (bH T true sh [] Option.none d ety (fun _=>0) (di st (s::r) 0) V' K))
     | _,_,_,_=>False
    | .lend=>match pg st.boxes (s::r) with
     | []=>∀V':View,V.Le V'->kr (s::r) (fun _=>0) fun β=>hJ st.boxes β V' (s::r)
      (Acts P f (aE β xs) (V'.lend ((s::r).map (cR st.boxes β V'.w.heap.size))) fun r' eF=>sh.ex fun x=>r'=x.den (fun _=>0)/\dK T Option.none β eF (s::r) st fun st'=>K (st'.put dst x) eF.shut)
     | [m]=>match dst,jP st.boxes m with
      | some d,some ety=>match iT st (some m) d with
       | false=>False
       | true=>∀V':View,V.Le V'->kr (s::r) (fun _=>0) fun β=>hJ st.boxes β V' (s::r)
        (Acts P f (aE β xs) (V'.lend ((s::r).map (cR st.boxes β V'.w.heap.size))) (bH T false sh (s::r) (some m) d ety β st V' K))
      | _,_=>False
     | _=>False
    | .rel=>match (s::r).all fun t=>Nat.blt t 100000 with
     | false=>False
     | true=>∀V':View,V.Le V'->kr (s::r) (fun _=>0) fun β=>pA st.boxes β V' (s::r)
      (Acts P f (aE β xs) V' fun r' eF=>sh.ex fun x=>r'=x.den (fun _=>0)/\∀J:C->Value,K ((st.rel (s::r) β J).put dst x) eF)
def kZ (bx:Nat->Option aF):List SV->Option (List Value×Nat×List SV)
 | []=>none
 | x::r=>match x with
  | .c (.gD s n c)=>match bx s with
   | some ⟨.aJ vs,_⟩=>some (vs,c,.c (.v (.slice none n c))::r)
   | _=>none
  | x=>match kZ bx r with
   | some (vs,c,r')=>some (vs,c,x::r')
   | none=>none
def jI (P:Program)(T:cI)(m:CM)(f:FuncId)(xs:List SV)(ty:TypeId)(dst:Option Nat)(st:St)(V:View)(K:St->View->Prop):Prop:=
 match m with
 | .lend=>match kZ st.boxes xs with
  | some (vs,c,xs')=>(vs=[]->c=0/\fg P T .lend f xs' ty dst st V K)/\(vs≠[]->fg P T .lend f xs ty dst st V K)
  | none=>fg P T .lend f xs ty dst st V K
 | m=>fg P T m f xs ty dst st V K
def uj (ss:List Nat):List SV:=ss.map fun s=>.c (.ptr s 0)
inductive Hint where
 | free|own (l:List Nat)
def gW (op:Op):List Operand:=
 match op with
 | .load _ a=>[a]
 | .store _ a _=>[a]
 | .call ⟨.value f,args,_⟩=>args.toList++[f]
 | .call ⟨.builtin .append,args,_⟩=>args.toList
 | _=>[]
def dX (bx:Nat->Option aF)(op:Op)(l:List Nat):List Nat:=
 match op with
 | .call _=>reach bx 3 (dedup l)
 | _=>l
def Ef (P:Program)(t:TypeId)(name:String):Option FuncId:=
 match P.info? t,P.underlying t with
 | some i,some d=>match i.methods.find? (fun m=>m.name==name) with
  | some m=>match m.path.toList,m.func,d with
   | [],some (f,false),.struct _=>some f
   | _,_,_=>none
  | none=>none
 | _,_=>none
def cE (P:Program)(T:cI)(m:CM)(o:Oper)(st:St)(V:View)(K:St->View->Prop):Prop:=
 match o.op with
 | .call ⟨.value Kj,args,_⟩=>match bL st.aQ args.toList with
  | some xs=>match st.aQ Kj with
   | some (.c (.zR f ss))=>jI P T m f (xs++uj ss) o.type o.dst st V K
   | _=>False
  | none=>False
 | .call ⟨.invoke recv name,args,_⟩=>match bL st.aQ args.toList with
  | some xs=>match st.aQ recv with
   | some (.c (.w (.iface t v)))=>match Ef P t name with
    | some f=>jI P T m f (.c (.w v)::xs) o.type o.dst st V K
    | none=>False
   | _=>False
  | none=>False
 | op=>sH (aC T st.aQ st.boxes op) o.dst st V K
def cx (P:Program)(T:cI)(m:CM)(h:Hint)(o:Oper)(st:St)(V:View)(K:St->View->Prop):Prop:=
 match h with
 | .free=>cE P T m o st V K
 | .own l=>match bL st.aQ (gW o.op) with
  | some xs=>match JU (dX st.boxes o.op (xs.flatMap SV.ids)) l with
   | true=>cE P T m o st V K
   | false=>False
  | none=>False
def iZ:SV:=.oB []
def pR (P:Program)(T:cI)(m:CM)(h:Hint)(ops:Array Oper)(o:Oper)(st:St)(V:View)(K:St->View->Prop):Prop:=
 match o.guard with
 | none=>cx P T m h o st V K
 | some (j,b)=>match (ops[j]?).bind (·.dst) with
  | none=>False
  | some g=>match st.ao g with
   | some (.c .tt)=>match b with
    | true=>cx P T m h o st V K
    | false=>K (st.put o.dst iZ) V
   | some (.c .ff)=>match b with
    | true=>K (st.put o.dst iZ) V
    | false=>cx P T m h o st V K
   | some (.c (.v (.bool c)))=>match b with
    | true=>(c=true->cx P T m h o (st.put (some g) (.c .tt)) V K)/\(c=false->K ((st.put (some g) (.c .ff)).put o.dst iZ) V)
    | false=>(c=true->K ((st.put (some g) (.c .tt)).put o.dst iZ) V)/\(c=false->cx P T m h o (st.put (some g) (.c .ff)) V K)
   | some (.oB _)=>K (st.put o.dst iZ) V
   | _=>False
inductive Rn where
 | pure|load|store|alloc|call|jY|odd|gZ|app|give
def aT (LF RF:List Nat):Op->Rn
 | .move _|.assign _|.pick ..| .build ..| .nilCheck _|.binOp ..| .unOp ..| .convert ..| .makeFunc ..| .slice ..| .fieldAddr ..| .field ..| .indexAddr ..| .extract ..| .index ..| .makeInterface ..=>.pure
 | .load ..=>.load
 | .store ..=>.store
 | .alloc _|.box ..| .buildSlice ..| .makeSlice ..=>.alloc
 | .call ⟨.builtin .len,_,_⟩|.call ⟨.builtin .cap,_,_⟩=>.pure
 | .call ⟨.builtin .append,_,_⟩=>.app
 | .call ⟨.value (.func f),_,_⟩=>match eH f LF with
  | true=>match eH (f+1000000) LF with
   | true=>.give
   | false=>.jY
  | false=>match eH f RF with
   | true=>.odd
   | false=>match eH (f+1000000) RF with
    | true=>.gZ
    | false=>.call
 | .call ⟨.value _,_,_⟩=>.jY
 | .call ⟨.invoke _ _,_,_⟩=>.call
 | _=>.odd
def gX (op:Op):List Nat:=op.operands.toList.filterMap fun|.tmp t=>some t|_=>none
def dv (ops:Array Oper)(o:Oper):List Nat:=
 match o.guard with
 | none=>[]
 | some (j,_)=>match (ops[j]?).bind (·.dst) with
  | some g=>[g]
  | none=>[]
def dJ (o:Oper):List Nat:=match o.dst with|some d=>[d]|none=>[]
def pD (c:Rn)(h:Hint)(d:List Nat):Option (List Nat×List Nat):=
 match c,h with
 | .pure,.free=>some ([],[])
 | .call,.free=>some ([],[])
 | .alloc,.free=>some (d,d)
 | .load,.own l=>some (l,[])
 | .store,.own l=>some (l,l)
 | .jY,.own l=>some (l,l++d++d.map (·+ 200000))
 | .app,.own l=>some (l,l++d++d.map (·+ 200000))
 | .give,.own l=>some (l,l++d++d.map (·+ 200000))
 | _,_=>none
def ma:Rn->Bool
 | .pure|.load|.store|.alloc=>true
 | _=>false
def indep (LF RF:List Nat)(ops:Array Oper)(h1 h2:Hint)(o1 o2:Oper):Bool:=
 ma (aT LF RF o1.op) &&
 uw (dJ o1) (gX o2.op++dv ops o2++dJ o2)&&uw (dJ o2) (gX o1.op++dv ops o1) &&
 uw (dv ops o1) (gX o2.op)&&uw (dv ops o2) (gX o1.op) &&
 match pD (aT LF RF o1.op) h1 (dJ o1),pD (aT LF RF o2.op) h2 (dJ o2) with
 | some (r1,w1),some (r2,w2)=>uw w1 r2&&uw w2 r1&&uw w1 w2
 | _,_=>false
def O0 (ops:List Oper)(t:Nat):Option Oper:=ops.find? fun o=>match o.dst with|some d=>Nat.beq d t|none=>false
def vA (st:St)(ops:List Oper):Nat->Operand->List Nat
 | 0,_=>[]
 | n+1,.tmp t=>match O0 ops t with
  | some o=>match o.op with
   | .alloc _|.box ..| .buildSlice ..| .makeSlice ..=>[t]
   | .call _=>[t,t+200000]
   | .assign x=>vA st ops n x++match st.ao t with
    | some x=>x.ids
    | none=>[]
   | .load _ a=>(vA st ops n a).flatMap (kv st.boxes)
   | op=>op.operands.toList.flatMap (vA st ops n)
  | none=>match st.ao t with
   | some x=>x.ids
   | none=>[]
 | _,_=>[]
def Ix (LF RF:List Nat)(st:St)(ops:List Oper)(o:Oper):Hint:=
 match aT LF RF o.op with
 | .load|.store=>.own (dedup ((gW o.op).flatMap (vA st ops 10)))
 | .jY|.app|.give=>.own (reach st.boxes 3 (dedup ((gW o.op).flatMap (vA st ops 10))))
 | _=>.free
def Ga (ops:List Oper):List Nat:=
 ops.foldl (fun acc o=>acc++[o.after.toList.foldl (fun s e=>cond (Region.binds .any e) (Nat.lor (Nat.lor (Nat.shiftLeft 1 e.on) (acc.getD e.on 0)) s) s) 0]) []
def MQ (m i:Nat):Bool:=Nat.beq (Nat.land (Nat.shiftRight m i) 1) 1
def KZ (LF RF:List Nat)(o:Oper):Bool:=match aT LF RF o.op with|.call|.jY|.odd|.gZ|.app|.give=>true|_=>false
def Ev (ops:Array Oper)(done:List Nat)(i:Nat):Bool:=
 match ops[i]? with
 | some o=>!(eH i done)&&o.after.toList.all fun e=>!(Region.binds .any e)||eH e.on done
 | none=>false
def AF (LF RF:List Nat)(ops:Array Oper):Nat->List Nat->List Nat
 | 0,_=>[]
 | n+1,done=>
  let rs:=(List.range ops.size).filter (Ev ops done)
  match rs.find? (fun i=>match ops[i]? with|some o=>!(KZ LF RF o)|none=>false) with
  | some i=>i::AF LF RF ops n (i::done)
  | none=>match rs with
   | i::_=>i::AF LF RF ops n (i::done)
   | []=>[]
def nS (LF RF:List Nat)(ops:Array Oper):List Nat:=AF LF RF ops ops.size []
def tD (LF RF:List Nat)(ops:Array Oper)(hs:List Hint)(an:List Nat):List Nat->Bool
 | []=>true
 | i::r=>(r.all fun j=>MQ (an.getD j 0) i||match ops[i]?,ops[j]? with|some a,some b=>indep LF RF ops (hs.getD i .free) (hs.getD j .free) a b|_,_=>false)&&tD LF RF ops hs an r
def pv (ops:Array Oper):List Nat->List Nat->Bool
 | _,[]=>true
 | done,i::r=>Ev ops done i&&pv ops (i::done) r
def FH (LF RF:List Nat)(ops:Array Oper)(hs:List Hint)(l:List Nat):Bool:=
 Nat.beq l.length ops.size&&((List.range ops.size).all fun i=>eH i l)&&pv ops [] l&&tD LF RF ops hs (Ga ops.toList) l
def JX (P:Program)(T:cI)(m:Nat->CM)(hint:Nat->Hint)(ops:Array Oper):List Nat->St->View->(St->View->Prop)->Prop
 | [],st,V,K=>K st V
 | i::r,st,V,K=>match ops[i]? with
  | some o=>pR P T (m i) (hint i) ops o st V fun st' V'=>JX P T m hint ops r st' V' K
  | none=>False
def jC (LF RF:List Nat)(ops:Array Oper)(i:Nat):CM:=
 match ops[i]? with
 | some o=>match aT LF RF o.op with
  | .jY=>.lend
  | .odd=>.rel
  | .gZ=>.gZ
  | .give=>.give
  | _=>.none
 | Option.none=>.none
def PZ (LF RF:List Nat)(ops:Array Oper)(i:Nat):CM:=
 match ops[i]? with
 | some o=>match aT LF RF o.op with
  | .jY=>.lend
  | .gZ=>.gZ
  | .give=>.give
  | _=>.rel
 | Option.none=>.none
structure Tm where
 τ:Type
 gh:Bool:=false
 Tg:List Nat
 PB:List Nat
 ao:τ->List (Nat×SV)
 boxes:τ->List (Nat×aF)
structure MD where
 τ:Type
 ao:τ->List (Nat×SV)
 boxes:τ->List (Nat×aF)
def Fx {α:Type}(f:Nat->Option α):List Nat->List (Nat×α)
 | []=>[]
 | t::r=>match f t with
  | some x=>(t,x)::Fx f r
  | none=>Fx f r
def Tm.at (A:Tm)(st:St):MD:=⟨A.τ,fun x=>Fx st.ao A.Tg++A.ao x,fun x=>Fx st.boxes A.PB++A.boxes x⟩
def nD (ρ:List (Nat×Nat))(s s':Nat):Bool:=
 match au ρ s' with
 | some t=>Nat.beq s t
 | none=>Nat.beq s s'
def yG (ρ:List (Nat×Nat)):List Nat->List Nat->Bool
 | [],[]=>true
 | s::r,s'::r'=>nD ρ s s'&&yG ρ r r'
 | _,_=>false
def QZ (ρ:List (Nat×Nat)):C->C->List Prop
 | .v (.int k a),.v (.int k' b)=>cond (uL k k') [a=b] [False]
 | .v (.bool a),.v (.bool b)=>[a=b]
 | .tt,.v (.bool b)=>[true=b]
 | .ff,.v (.bool b)=>[false=b]
 | .v (.slice a n c),.v (.slice a' n' c')=>[a=a',n=n',c=c']
 | .v (.slice a n c),.gD _ n' c'=>[a=none,n=n',c=c',c=0]
 | .v (.pointer p),.v (.pointer q)=>[p=q]
 | .v x,.v y=>[x=y]
 | .w x,.w y=>[x=y]
 | .w x,.v y=>[x=y]
 | .v x,.w y=>[x=y]
 | .tt,.tt=>[]
 | .ff,.ff=>[]
 | .ptr s o,.ptr s' o'=>cond (nD ρ s s') [o=o'] [False]
 | .lu s o n c,.lu s' o' n' c'=>cond (nD ρ s s') [o=o',n=n',c=c'] [False]
 | .lu s o n c,.gD s' n' c'=>cond (nD ρ s s') [o=0,n=n',c=c',c≠0] [False]
 | .gD s n c,.gD s' n' c'=>cond (nD ρ s s') [n=n',c=c'] [False]
 | .zR f ss,.zR g ts=>cond (yG ρ ss ts) [f=g] [False]
 | _,_=>[False]
def DZ (ρ:List (Nat×Nat)):List C->List C->List Prop
 | [],[]=>[]
 | a::r,b::s=>QZ ρ a b++DZ ρ r s
 | _,_=>[False]
def MV (ρ:List (Nat×Nat)):SV->SV->List Prop
 | .c a,.c b=>QZ ρ a b
 | .agg l,.agg m=>DZ ρ l m
 | _,_=>[False]
def SV.plain:SV->Bool
 | .oB _=>false
 | _=>true
def Ie (ρ:List (Nat×Nat))(a b:aF):List Prop:=
 match a.cs,b.cs with
 | .lit l,.lit m=>cond (Nat.beq a.ty b.ty) (DZ ρ l m) [False]
 | .row l,.row m=>cond (Nat.beq a.ty b.ty) [l=m] [False]
 | .aJ l,.aJ m=>cond (Nat.beq a.ty b.ty) [l=m] [False]
 | .row l,.aJ m=>cond (Nat.beq a.ty b.ty) [l=m] [False]
 | .lit l,.aJ m=>match kh l with
  | some ws=>cond (Nat.beq a.ty b.ty) [ws=m] [False]
  | none=>[False]
 | _,_=>[False]
def Qu:C->C->List (Nat×Nat)
 | .ptr s _,.ptr s' _=>[(s',s)]
 | .lu s _ _ _,.lu s' _ _ _=>[(s',s)]
 | .lu s _ _ _,.gD s' _ _=>[(s',s)]
 | .gD s _ _,.gD s' _ _=>[(s',s)]
 | .zR _ ss,.zR _ ts=>ts.zip ss
 | _,_=>[]
def JE:List C->List C->List (Nat×Nat)
 | a::r,b::s=>Qu a b++JE r s
 | _,_=>[]
def Qv:SV->SV->List (Nat×Nat)
 | .c a,.c b=>Qu a b
 | .agg l,.agg m=>JE l m
 | _,_=>[]
def NX (st:St):List (Nat×SV)->List (Nat×Nat)
 | []=>[]
 | (t,x)::r=>match st.ao t with
  | some y=>Qv y x++NX st r
  | none=>NX st r
def Hb (st:St)(ρ:List (Nat×Nat)):List (Nat×aF)->List (Nat×Nat)
 | []=>[]
 | (t,x)::r=>match au ρ t with
  | some s=>match st.boxes s with
   | some y=>(match y.cs,x.cs with|.lit l,.lit m=>JE l m|_,_=>[])++Hb st ρ r
   | none=>Hb st ρ r
  | none=>Hb st ρ r
def JD (st:St)(ss:List (Nat×SV))(bs:List (Nat×aF)):List (Nat×Nat):=
 let ρ1:=NX st ss
 let ρ2:=ρ1++Hb st ρ1 bs
 let ρ3:=ρ2++Hb st ρ2 bs
 ρ3++Hb st ρ3 bs
def AB (ρ:List (Nat×Nat))(t:Nat):Nat:=
 match au ρ t with
 | some s=>s
 | none=>t
def zf (ρ:List (Nat×Nat)):List Nat->Bool
 | []=>true
 | t::r=>(Nat.blt t 100000==Nat.blt (AB ρ t) 100000)&&(Nat.blt t 100000||Nat.ble 200000 t||Nat.beq (AB ρ t) t)&&(r.all fun u=>!(Nat.beq (AB ρ t) (AB ρ u)))&&zf ρ r
def mc (ρ:List (Nat×Nat)):List (Nat×aF)->List Nat
 | []=>[]
 | (t,x)::r=>match x.cs with
  | .aJ _=>match au ρ t with
   | some _=>t::mc ρ r
   | none=>mc ρ r
  | _=>t::mc ρ r
def KI (ρ:List (Nat×Nat))(st:St):List (Nat×SV)->List Prop
 | []=>[]
 | (t,x)::r=>match st.ao t with
  | some y=>MV ρ y x++KI ρ st r
  | none=>[False]
def Gx (ρ:List (Nat×Nat))(st:St):List (Nat×aF)->List Prop
 | []=>[]
 | (t,x)::r=>match x.cs,au ρ t with
  | .aJ l,none=>(l=[])::Gx ρ st r
  | _,_=>match st.boxes (AB ρ t) with
   | some y=>Ie ρ y x++Gx ρ st r
   | none=>[False]
def OZ (ρ:List (Nat×Nat))(bs:List (Nat×aF)):List Prop:=cond (zf ρ (mc ρ bs)) [] [False]
def mq (ss:List (Nat×SV))(bs:List (Nat×aF)):Bool:=
 let l:=bs.map (·.1)
 (ss.all fun x=>x.2.ids.all fun s=>eH s l)&&(bs.all fun x=>x.2.cs.ids.all fun s=>eH s l)
def MD.st (A:MD)(x:A.τ):St:=⟨au (A.ao x),au (A.boxes x)⟩
def MM:List Prop->Prop
 | []=>True
 | [p]=>p
 | p::r=>p/\MM r
def MD.fits (A:MD)(st:St)(x:A.τ)(k:Prop):Prop:=
 let ρ:=JD st (A.ao x) (A.boxes x)
 MM (KI ρ st (A.ao x)++Gx ρ st (A.boxes x)++OZ ρ (A.boxes x))/\k
def keyOf:Code->Nat
 | .region id _ _=>id
 | .seq a _=>keyOf a
 | .cond _ a b=>match keyOf a with
  | 1000000=>keyOf b
  | n=>n
 | .block _ a=>keyOf a
 | .loop a=>keyOf a
 | .scope a=>keyOf a
 | _=>1000000
abbrev Bg:=List (Nat×Tm)
def oE:Bg->Nat->Option Tm
 | [],_=>none
 | (s,x)::r,t=>cond (Nat.beq t s) (some x) (oE r t)
def Ml (RF:List Nat)(id:Nat):List Nat:=RF.filterMap fun x=>cond (Nat.beq (x / 100000) (100+id)) (some (x%100000)) none
def F6 (l:List Nat)(st:St)(V:View)(K:St->View->Prop):Prop:=
 match l with
 | []=>K st V
 | s::r=>match gx st.boxes (s::r)&&(s::r).all fun t=>Nat.blt t 100000 with
  | false=>False
  | true=>∀V':View,V.Le V'->kr (s::r) (fun _=>0) fun β=>pA st.boxes β V' (s::r) (∀J:C->Value,K (st.rel (s::r) β J) V')
def C7 (P:Program)(T:cI)(LF RF:List Nat)(ops:Array Oper)(draw:Bool)(st:St)(V:View)(K:St->View->Prop):Prop:=
 match draw with
 | false=>JX P T (PZ LF RF ops) (fun _=>.free) ops (List.range ops.size) st V K
 | true=>let hs:=ops.toList.map (Ix LF RF st ops.toList)
  match FH LF RF ops hs (nS LF RF ops) with
  | true=>JX P T (jC LF RF ops) (fun i=>hs.getD i .free) ops (nS LF RF ops) st V K
  | false=>False
def Ui (F:St->View->(Exit->St->View->Prop)->Prop):Nat->St->View->(Exit->St->View->Prop)->Prop
 | 0,_,_,_=>False
 | n+1,st,V,K=>F st V fun e st' V'=>match e with
  | .normal=>Ui F n st' V' K
  | e=>K e st' V'
def vc (P:Program)(T:cI)(LF RF:List Nat)(L J:Bg):Code->St->View->(Exit->St->View->Prop)->Prop
 | .skip,st,V,K=>K .normal st V
 | .region id ops draw,st,V,K=>match oE J (600000+id) with
  | none=>F6 (Ml RF id) st V fun st' V'=>C7 P T LF RF ops draw st' V' (K .normal)
  | some A=>∃I:A.τ->View->Prop,F6 (Ml RF id) st V (fun st' V'=>C7 P T LF RF ops draw st' V' fun JP eF=>∃x,(A.at st).fits JP x (I x eF)) /\
   ∀x V',V.Le V'->I x V'->(mq ((A.at st).ao x) ((A.at st).boxes x)=true/\K .normal ((A.at st).st x) V')
 | .seq a b,st,V,K=>vc P T LF RF L J a st V fun e st' V'=>match e with
  | .normal=>vc P T LF RF L J b st' V' K
  | e=>K e st' V'
 | .cond c a b,st,V,K=>match oE J (keyOf (.cond c a b)) with
  | none=>match st.aQ c with
   | some (.c .tt)=>vc P T LF RF L J a st V K
   | some (.c .ff)=>vc P T LF RF L J b st V K
   | some (.c (.v (.bool t)))=>(t=true->vc P T LF RF L J a st V K)/\(t=false->vc P T LF RF L J b st V K)
   | _=>False
  | some A=>match st.aQ c with
   | some (.c .tt)=>vc P T LF RF L J a st V K
   | some (.c .ff)=>vc P T LF RF L J b st V K
   | some (.c (.v (.bool t)))=>∃I:A.τ->View->Prop,
    ((t=true->vc P T LF RF L J a st V fun e st' V'=>match e with
     | .normal=>∃x,(A.at st).fits st' x (I x V')
     | e=>K e st' V') /\
      (t=false->vc P T LF RF L J b st V fun e st' V'=>match e with
     | .normal=>∃x,(A.at st).fits st' x (I x V')
     | e=>K e st' V')) /\
    ∀x V',V.Le V'->I x V'->(mq ((A.at st).ao x) ((A.at st).boxes x)=true/\K .normal ((A.at st).st x) V')
   | _=>False
 | .block id a,st,V,K=>match oE J (500000+id) with
  | none=>vc P T LF RF L J a st V fun e st' V'=>match e with
   | .exit i=>cond (Nat.beq i id) (K .normal st' V') (K (.exit i) st' V')
   | e=>K e st' V'
  | some A=>∃I:A.τ->View->Prop,vc P T LF RF L J a st V (fun e st' V'=>match e with
   | .exit i=>cond (Nat.beq i id) (∃x,(A.at st).fits st' x (I x V')) (K (.exit i) st' V')
   | .normal=>∃x,(A.at st).fits st' x (I x V')
   | e=>K e st' V')/\∀x V',V.Le V'->I x V'->(mq ((A.at st).ao x) ((A.at st).boxes x)=true/\K .normal ((A.at st).st x) V')
 | .loop a,st,V,K=>match oE L (keyOf a) with
  | none=>Ui (fun st V K=>vc P T LF RF L J a st V K) 3 st V K
  | some A=>match A.gh with
   | false=>∃(I:A.τ->View->Prop)(m:A.τ->Nat),(∃x,(A.at st).fits st x (I x V))/\∀x V',V.Le V'->I x V'->(mq ((A.at st).ao x) ((A.at st).boxes x)=true /\
    vc P T LF RF L J a ((A.at st).st x) V' fun e st' eF=>match e with
     | .normal=>∃y,m y<m x/\(A.at st).fits st' y (I y eF)
     | e=>K e st' eF)
   | true=>∃I:A.τ->Nat->View->Prop,(∃x k,(A.at st).fits st x (I x k V))/\∀x k V',V.Le V'->I x k V'->(mq ((A.at st).ao x) ((A.at st).boxes x)=true /\
    vc P T LF RF L J a ((A.at st).st x) V' fun e st' eF=>match e with
     | .normal=>∃y k',k'<k/\(A.at st).fits st' y (I y k' eF)
     | e=>K e st' eF)
 | .exit id,st,V,K=>K (.exit id) st V
 | .ret,st,V,K=>K .ret st V
 | .scope a,st,V,K=>vc P T LF RF L J a st V fun e st' V'=>match e with
  | .goto _=>False
  | e=>K e st' V'
 | .label _,st,V,K=>K .normal st V
 | _,_,_,_=>False
def kY (T:cI)(st:St):List ResultVar->Option (List SV)
 | []=>some []
 | .tmp t::r=>match st.ao t,kY T st r with
  | some x,some l=>some (x::l)
  | _,_=>none
 | .cell a t::r=>match st.ao a,au T t,kY T st r with
  | some (.c (.ptr s o)),some i,some l=>match iW st.boxes i (.c (.ptr s o)) with
   | .ret _ x=>some (x::l)
   | _=>none
  | _,_,_=>none
def minus (l m:List Nat):List Nat:=l.filter fun x=>!(eH x m)
def HM (bx:Nat->Option aF)(β:Nat->Nat)(V:View):List Nat->Prop->Prop
 | [],k=>k
 | s::r,k=>match bx s with
  | some ⟨.aJ _,_⟩=>False
  | some b=>V.w.heap[β s]?=some (b.obj β)->HM bx β V r k
  | none=>False
def jf:List (Nat×aF)->List Nat
 | []=>[]
 | (s,b)::r=>match b.cs with
  | .aJ _=>jf r
  | _=>s::jf r
def IY (bs:List (Nat×aF))(β0:Nat->Nat)(b:Nat)(k:Prop):Prop:=
 match bs with
 | []=>k
 | (m,x)::r=>match x.cs with
  | .aJ vs=>(vs≠[]/\b=β0 m)\/IY r β0 b k
  | _=>IY r β0 b k
def kX (β:Nat->Nat):List SV->Value
 | [x]=>x.den β
 | l=>.tuple (l.map (SV.den β)).toArray
def rS (T:cI)(bx:Nat->Option aF)(s:Nat):Bool:=
 cond (Nat.ble 100000 s) true (match bx s with|some ⟨.row _,ty⟩|some ⟨.aJ _,ty⟩=>Nat.ble 2 (T.filter fun x=>Nat.beq x.1 ty).length|some ⟨.lit _,ty⟩=>Nat.ble 3 (T.filter fun x=>Nat.beq x.1 ty).length|_=>false)
def FN (T:cI)(rs:List ResultVar)(bs:List (Nat×aF))(β0:Nat->Nat)(n0:Nat)(R:Value->View->Prop)(st:St)(V:View):Prop:=
 match kY T st rs with
 | none=>False
 | some xs=>let F:=jf bs
  let L:=reach st.boxes 3 (dedup (xs.flatMap SV.ids++F))
  match gx st.boxes L with
  | false=>False
  | true=>match (minus L F).filter (rS T st.boxes) with
   | []=>∀V':View,V.Le V'->kr (minus L F) β0 fun β=>HM st.boxes β V' F (pA st.boxes β V' (minus L F) (R (kX β xs) V'))
   | [s]=>match st.boxes s with
    | some b=>∀V':View,kr (minus L F) β0 fun β=>V.Le (V'.hideG (R7 b) (β s))->HM st.boxes β V' F (oV (Hs b) (V'.w.heap[β s]?=some (b.obj β)) ->
      oV (Hs b) (n0<=β s\/IY bs β0 (β s) False)->pA st.boxes β V' ((minus L F).filter (!Nat.beq s ·)) (R (kX β xs) V'))
    | none=>False
   | _=>False
def Ul (P:Program)(T:cI)(LF RF:List Nat)(L J:Bg)(code:Code)(rs:List ResultVar)(ss:List (Nat×SV))(bs:List (Nat×aF))(β0:Nat->Nat)(V:View)(R:Value->View->Prop):Prop:=
 vc P T LF RF L J code ⟨au ss,au bs⟩ V fun e st V'=>match e with
  | .normal=>FN T rs bs β0 V.w.heap.size R st V'
  | .ret=>FN T rs bs β0 V.w.heap.size R st V'
  | _=>False
def gS (n:Nat):Code->Bool
 | .region _ ops _=>ops.toList.all fun o=>match o.dst with|some d=>Nat.blt d n|none=>true
 | .seq a b=>gS n a&&gS n b
 | .cond _ a b=>gS n a&&gS n b
 | .block _ a=>gS n a
 | .loop a=>gS n a
 | .scope a=>gS n a
 | _=>true
def mP:Nat->List (Nat×SV)->Bool
 | _,[]=>true
 | i,(j,x)::r=>Nat.beq i j&&x.plain&&mP (i+1) r
def AL (P:Program)(T:cI)(LF RF:List Nat)(L J:Bg)(fn:Func)(ss:List (Nat×SV))(bs:List (Nat×aF))(β0:Nat->Nat)(V:View)(R:Value->View->Prop):Prop:=
 match fn.body with
 | some code=>match gS fn.ntmps code&&mP 0 ss&&Nat.ble ss.length fn.ntmps&&Nat.ble fn.ntmps 100000&&(bs.all fun b=>Nat.ble 100000 b.1&&Nat.blt b.1 200000)&&mq ss bs with
  | true=>Ul P T LF RF L J code fn.results.toList ss bs β0 V R
  | false=>False
 | none=>False
theorem View.Le.refl (V:View):V.Le V:=fun _ _ h=>h
theorem View.Le.trans {V V' eF:View}(h:V.Le V')(k:V'.Le eF):V.Le eF:=fun b o x=>k b o (h b o x)
theorem View.Le.at {V V':View}(h:V.Le V'){p:Addr}{v:Value}(k:V.at p v):V'.at p v:=by
 obtain ⟨b,a⟩:=k;unfold World.cell? at a;split at a
 ·rename_i c;obtain ⟨d,e⟩:=h p.block _ ⟨b,c⟩;refine ⟨d,?_⟩;unfold World.cell?;rw [e];exact a
 ·cases a
theorem eK.refl (X:Nat->Prop)(w:World):eK X w w:=⟨Nat.le_refl _,fun _ _ _=>rfl,rfl,rfl,rfl⟩
theorem eK.trans {X:Nat->Prop}{a b c:World}(h:eK X a b)(k:eK X b c):eK X a c:=
 ⟨Nat.le_trans h.size k.size,fun i d e=>(k.aS i (Nat.lt_of_lt_of_le d h.size) e).trans (h.aS i d e),k.os.trans h.os,k.tape.trans h.tape,k.out.trans h.out⟩
theorem eK.mono {X Y:Nat->Prop}{a b:World}(h:eK X a b)(hxy:∀i,X i->Y i):eK Y a b:=
 ⟨h.size,fun i c d=>h.aS i c fun e=>d (hxy i e),h.os,h.tape,h.out⟩
theorem View.Mf (V:View)(w':World)(hx:eK V.X V.w w'):V.Le (V.to w' hx.size):=by
 rintro b o ⟨d,a⟩;refine ⟨d,?_⟩
 have c:b<V.w.heap.size:=by
  rcases Nat.lt_or_ge b V.w.heap.size with h|h
  ·exact h
  ·rw [Array.getElem?_eq_none h] at a;cases a
 show w'.heap[b]?=some o;rw [hx.aS b c fun hX=>d (V.hX b hX)];exact a
theorem Acts.mono {P:Program}{f:FuncId}{args:Array Value}{V:View}{R R':Value->View->Prop}(h:Acts P f args V R)
  (hR:∀r V',V.Le V'->R r V'->R' r V'):Acts P f args V R':=
 ⟨h.1,h.2.mono fun _ b ⟨r,he,a,c⟩=>⟨r,he,a,hR r _ (V.Mf b a) c⟩⟩
structure DF where
 ids:List Nat
 B:Nat->Prop
section
variable (n:Nat) (V0:View) (bh:DF) (β0:Nat->Nat)
structure Mod (st:St) (β:Nat->Nat) (a:Act) (w:World) (V:View):Prop where
 defers:a.defers=[]
 size:a.tmps.size=n
 ao:∀t x,st.ao t=some x->a.tmps.getD t undef=x.den β
 wG:∀t x,st.ao t=some x->∀s∈x.ids,∃b,st.boxes s=some b
 wF:∀s b,st.boxes s=some b->∀s'∈b.cs.ids,∃b',st.boxes s'=some b'
 boxes:∀s b,st.boxes s=some b->b.live->w.heap[β s]?=some (b.obj β)
 inj:∀s s' b b',st.boxes s=some b->b.live->st.boxes s'=some b'->b'.live->β s=β s'->s=s'
 nu:∀b o,V.aS b o->w.heap[b]?=some o/\¬V0.H b
 sw:∀s b,st.boxes s=some b->b.live->∀o,¬V.aS (β s) o
 ext:eK V0.X V0.w w
 own:∀s b,st.boxes s=some b->b.live->V0.w.heap.size<=β s\/(100000<=s/\bh.B (β s))
 ku:∀s∈bh.ids,(100000<=s/\s<200000)/\β s=β0 s
 jz:∀b,bh.B b->V0.X b
 small:n<=100000
end
theorem cB {cs:List C}{ty:TypeId}:aF.live ⟨.lit cs,ty⟩:=fun _ h=>nomatch h
theorem cd {vs:List Value}{ty:TypeId}:aF.live ⟨.row vs,ty⟩:=fun _ h=>nomatch h
theorem dZ {vs:List Value}{ty:TypeId}(h:vs≠[]):aF.live ⟨.aJ vs,ty⟩:=fun _ e=>by cases e;exact h
theorem eQ {ty:TypeId}:¬aF.live ⟨.aJ [],ty⟩:=fun h=>h [] rfl rfl
theorem e_ {b:aF}{k:Prop}:oV (Hs b) k↔(b.live->k):=by
 obtain ⟨cs,ty⟩:=b
 cases cs with
 | lit cs=>exact ⟨fun h _=>h,fun h=>h cB⟩
 | row cs=>exact ⟨fun h _=>h,fun h=>h cd⟩
 | aJ vs=>exact ⟨fun h l=>h (l vs rfl),fun h l=>h (dZ l)⟩
theorem rJ {l m:List Prop}{k:Prop}:oV (l++m) k↔oV l (oV m k):=by
 induction l with
 | nil=>exact Iff.rfl
 | cons p r ih=>exact ⟨fun h a=>ih.1 (h a),fun h a=>ih.2 (h a)⟩
theorem KM {b:aF}:R7 b↔b.live:=by
 obtain ⟨cs,ty⟩:=b
 cases cs with
 | lit cs=>exact ⟨fun _=>cB,fun _=>trivial⟩
 | row cs=>exact ⟨fun _=>cd,fun _=>trivial⟩
 | aJ vs=>exact ⟨fun h=>dZ h,fun l=>l vs rfl⟩
theorem C.br {β β':Nat->Nat}{c:C}(h:∀s∈c.ids,β s=β' s):c.den β=c.den β':=by
 cases c with
 | v x=>rfl
 | w x=>rfl
 | tt=>rfl
 | ff=>rfl
 | ptr s o=>simp [C.den,h s (by simp [C.ids])]
 | lu s o n c=>simp [C.den,h s (by simp [C.ids])]
 | gD s n c=>simp [C.den,h s (by simp [C.ids])]
 | zR f ss=>
  have:(ss.map fun s=>Value.pointer (some ⟨β s,0,none⟩))=ss.map fun s=>Value.pointer (some ⟨β' s,0,none⟩):=
   List.map_congr_left fun s a=>by rw [h s (by simpa [C.ids] using a)]
  simp only [C.den,this]
theorem kN {β β':Nat->Nat}{cs:List C}(h:∀s∈cs.flatMap C.ids,β s=β' s):cs.map (C.den β)=cs.map (C.den β'):=
 List.map_congr_left fun c a=>C.br fun s b=>h s (List.mem_flatMap.2 ⟨c,a,b⟩)
theorem wX {β β':Nat->Nat}{x:Bool×List C}(h:∀s∈x.2.flatMap C.ids,β s=β' s):ia β x=ia β' x:=by
 obtain ⟨b,cs⟩:=x
 cases b with
 | true=>simp only [ia];rw [kN h]
 | false=>
  match cs,h with
  | [],_=>rfl
  | [c],h=>simp only [ia];exact C.br fun s a=>h s (by simpa using a)
  | _::_::_,_=>rfl
theorem SV.br {β β':Nat->Nat}{x:SV}(h:∀s∈x.ids,β s=β' s):x.den β=x.den β':=by
 cases x with
 | c x=>exact C.br h
 | agg cs=>simp only [SV.den];rw [kN h]
 | oB xs=>
  simp only [SV.den];congr 2;exact List.map_congr_left fun x a=>wX fun s b=>h s (List.mem_flatMap.2 ⟨x,a,b⟩)
theorem Cells.br {β β':Nat->Nat}{x:Cells}(h:∀s∈x.ids,β s=β' s):x.den β=x.den β':=by
 cases x with
 | lit cs=>exact kN h
 | row vs=>rfl
 | aJ vs=>rfl
theorem aF.cz {β β':Nat->Nat}{x:aF}(h:∀s∈x.cs.ids,β s=β' s):x.obj β=x.obj β':=by
 simp only [aF.obj];rw [Cells.br h]
variable {P:Program} {T:cI} {n:Nat} {V0:View} {bh:DF} {β0:Nat->Nat} {st:St} {β:Nat->Nat} {a:Act} {w:World} {V:View}
theorem Mod.eval (h:Mod n V0 bh β0 st β a w V){x:Operand}{v:SV}(hx:st.aQ x=some v):a.eval x=v.den β:=by
 cases x with
 | tmp t=>exact h.ao t v hx
 | const c=>
  simp only [St.aQ,Option.some.injEq] at hx;subst hx;simp only [Act.eval];unfold SV.ofConst;split
  ·rfl
  ·rfl
  ·rename_i cs;simp only [SV.den];congr 1
   have:∀l:List Value,(l.map C.ofConst).map (C.den β)=l:=by
    intro l
    induction l with
    | nil=>rfl
    | cons y r ih=>
     simp only [List.map_cons,ih];congr 1;unfold C.ofConst;split<;>rfl
   rw [this]
  ·rfl
 | global g=>simp only [St.aQ,Option.some.injEq] at hx;subst hx;rfl
 | func f=>simp only [St.aQ,Option.some.injEq] at hx;subst hx;simp [Act.eval,SV.den,C.den]
theorem Mod.live (h:Mod n V0 bh β0 st β a w V){x:Operand}{v:SV}(hx:st.aQ x=some v):∀s∈v.ids,∃b,st.boxes s=some b:=by
 cases x with
 | tmp t=>exact h.wG t v hx
 | const c=>
  simp only [St.aQ,Option.some.injEq] at hx;subst hx;intro s d;exfalso
  have e:∀y,(C.ofConst y).ids=[]:=by
   intro y;unfold C.ofConst;split<;>rfl
  unfold SV.ofConst at d;split at d
  ·simp [SV.ids,C.ids] at d
  ·simp [SV.ids,C.ids] at d
  ·obtain ⟨c,i,d⟩:=List.mem_flatMap.1 d;obtain ⟨y,_,rfl⟩:=List.mem_map.1 i;rw [e] at d;cases d
  ·simp [SV.ids,C.ids] at d
 | global g=>simp only [St.aQ,Option.some.injEq] at hx;subst hx;intro s d;simp [SV.ids,C.ids] at d
 | func f=>simp only [St.aQ,Option.some.injEq] at hx;subst hx;intro s d;simp [SV.ids,C.ids] at d
theorem beq_eq {a b:Nat}:Nat.beq a b=true↔a=b:=by
 constructor
 ·exact Nat.eq_of_beq_eq_true
 ·intro h;subst h;exact Nat.beq_refl a
theorem cS (st:St)(d:Nat)(x:SV)(t:Nat):(st.put (some d) x).ao t=if t=d then some x else st.ao t:=by
 simp only [St.put];by_cases h:t=d
 ·subst h;simp [Nat.beq_refl]
 ·have:Nat.beq t d=false:=by
   cases hb:Nat.beq t d
   ·rfl
   ·exact absurd (beq_eq.1 hb) h
  simp [this,h]
theorem ah (st:St)(s:Nat)(b:aF)(t:Nat):(st.box s b).boxes t=if t=s then some b else st.boxes t:=by
 simp only [St.box];by_cases h:t=s
 ·subst h;simp [Nat.beq_refl]
 ·have:Nat.beq t s=false:=by
   cases hb:Nat.beq t s
   ·rfl
   ·exact absurd (beq_eq.1 hb) h
  simp [this,h]
theorem BW (l:Array Value)(d t:Nat)(v:Value)(hd:d<l.size):(l.setIfInBounds d v).getD t undef=if t=d then v else l.getD t undef:=by
 by_cases h:t=d
 ·subst h;simp [hd]
 ·simp [h,Ne.symm h]
theorem Mod.put (h:Mod n V0 bh β0 st β a w V){d:Nat}{x:SV}{v:Value}(hd:d<n)(hv:v=x.den β)(hl:∀s∈x.ids,∃b,st.boxes s=some b) :
  Mod n V0 bh β0 (st.put (some d) x) β (a.put (some d) v) w V where
 defers:=h.defers
 size:=by simp [Act.put,h.size]
 ao:=by
  intro t y c;rw [cS] at c;show (a.tmps.setIfInBounds d v).getD t undef=_;rw [BW _ _ _ _ (by rw [h.size];exact hd)];split at c
  ·rename_i e;rw [if_pos e];simp only [Option.some.injEq] at c;rw [←c];exact hv
  ·rename_i e;rw [if_neg e];exact h.ao t y c
 wG:=by
  intro t y c;rw [cS] at c;split at c
  ·simp only [Option.some.injEq] at c;rw [←c];exact hl
  ·exact h.wG t y c
 wF:=h.wF
 boxes:=h.boxes
 inj:=h.inj
 nu:=h.nu
 sw:=h.sw
 ext:=h.ext
 own:=h.own
 ku:=h.ku
 jz:=h.jz
 small:=h.small
theorem Mod.Ej (h:Mod n V0 bh β0 st β a w V){d:Option Nat}{x:SV}{v:Value}(hd:∀k,d=some k->k<n)(hv:v=x.den β)(hl:∀s∈x.ids,∃b,st.boxes s=some b) :
  Mod n V0 bh β0 (st.put d x) β (a.put d v) w V:=by
 cases d with
 | none=>exact h
 | some d=>exact h.put (hd d rfl) hv hl
theorem Mod.drew (h:Mod n V0 bh β0 st β a w V):Mod n V0 bh β0 st β a { w with drawn:=w.drawn+1 } V:=
 ⟨h.defers,h.size,h.ao,h.wG,h.wF,h.boxes,h.inj,h.nu,h.sw,⟨h.ext.size,h.ext.aS,h.ext.os,h.ext.tape,h.ext.out⟩,h.own,h.ku,h.jz,h.small⟩
theorem ar {w:World}{b:Nat}{o:Obj}(h:w.heap[b]?=some o):b<w.heap.size:=by
 rcases Nat.lt_or_ge b w.heap.size with a|a
 ·exact a
 ·rw [Array.getElem?_eq_none a] at h;cases h
theorem bO (w:World)(o:Obj){b:Nat}(h:b<w.heap.size):(w.alloc o).heap[b]?=w.heap[b]?:=by
 show (w.heap.push o)[b]?=_;rw [Array.getElem?_push,if_neg (by omega)]
theorem heap_alloc_new (w:World)(o:Obj):(w.alloc o).heap[w.heap.size]?=some o:=by
 show (w.heap.push o)[w.heap.size]?=_;rw [Array.getElem?_push,if_pos rfl]
theorem aI (β:Nat->Nat)(s b:Nat):dh β s b s=b:=by simp [dh,Nat.beq_refl]
theorem fV (β:Nat->Nat){s t:Nat}(b:Nat)(h:t≠s):dh β s b t=β t:=by
 have:Nat.beq t s=false:=by
  cases hb:Nat.beq t s
  ·rfl
  ·exact absurd (beq_eq.1 hb) h
 simp [dh,this]
theorem Mod.new (h:Mod n V0 bh β0 st β a w V){d:Nat}{b:aF}(hd:d<n)(hn:st.boxes d=none)(hl:∀s∈b.cs.ids,∃b',st.boxes s=some b') :
  Mod n V0 bh β0 (st.box d b) (dh β d w.heap.size) a (w.alloc (b.obj β)) V:=by
 have q:∀s b',st.boxes s=some b'->s≠d:=fun s b' c e=>by rw [e,hn] at c;cases c
 have hβ:∀s b',st.boxes s=some b'->dh β d w.heap.size s=β s:=fun s b' c=>fV _ _ (q s b' c);have r:∀s b',st.boxes s=some b'->b'.live->β s<w.heap.size:=fun s b' c l=>ar (h.boxes s b' c l);have E:∀b' o,V.aS b' o->b'<w.heap.size:=fun b' o v=>ar (h.nu b' o v).1;refine ⟨h.defers,h.size,?_,?_,?_,?_,?_,?_,?_,?_,?_,?_,h.jz,?_⟩
 ·intro t x y;rw [h.ao t x y];exact SV.br fun s c=>by obtain ⟨b',p⟩:=h.wG t x y s c;exact (hβ s b' p).symm
 ·intro t x y s c;obtain ⟨b',p⟩:=h.wG t x y s c;exact ⟨b',by rw [ah,if_neg (q s b' p)];exact p⟩
 ·intro s b' c g j;rw [ah] at c
  have:∃f,st.boxes g=some f:=by
   split at c
   ·simp only [Option.some.injEq] at c;rw [←c] at j;exact hl g j
   ·exact h.wF s b' c g j
  obtain ⟨f,u⟩:=this;exact ⟨f,by rw [ah,if_neg (q g f u)];exact u⟩
 ·intro s b' c l;rw [ah] at c;split at c
  ·rename_i e;simp only [Option.some.injEq] at c;rw [e,aI,heap_alloc_new,←c];congr 1;exact aF.cz fun g j=>by obtain ⟨f,u⟩:=hl g j;exact (hβ g f u).symm
  ·rw [hβ s b' c,bO _ _ (r s b' c l),h.boxes s b' c l];congr 1;exact aF.cz fun g j=>by obtain ⟨f,u⟩:=h.wF s b' c g j;exact (hβ g f u).symm
 ·intro s g z A k F m G he;rw [ah] at k m;split at k<;>split at m
  ·rename_i B C;rw [B,C]
  ·rename_i B C;rw [B,aI,hβ g A m] at he;have:=r g A m G;omega
  ·rename_i B C;rw [C,aI,hβ s z k] at he;have:=r s z k F;omega
  ·rw [hβ s z k,hβ g A m] at he;exact h.inj s g z A k F m G he
 ·intro b' o v;obtain ⟨k,m⟩:=h.nu b' o v;exact ⟨by rw [bO _ _ (E b' o v)];exact k,m⟩
 ·intro s b' c l o D;rw [ah] at c;split at c
  ·rename_i e;rw [e,aI] at D;have:=E _ o D;omega
  ·rw [hβ s b' c] at D;exact h.sw s b' c l o D
 ·exact h.ext.trans ⟨by simp,fun i H _=>bO _ _ H,rfl,rfl,rfl⟩
 ·intro s b' c l;rw [ah] at c;split at c
  ·rename_i e;rw [e,aI];exact .inl h.ext.size
  ·rw [hβ s b' c];exact h.own s b' c l
 ·intro s c;obtain ⟨k,m⟩:=h.ku s c;exact ⟨k,by rw [fV _ _ (by have:=h.small;omega)];exact m⟩
 ·exact h.small
theorem Mod.void (h:Mod n V0 bh β0 st β a w V){s:Nat}{ty:TypeId}:Mod n V0 bh β0 (st.box s ⟨.aJ [],ty⟩) β a w V:=by
 have hw:∀t b,st.boxes t=some b->∃d,(st.box s ⟨.aJ [],ty⟩).boxes t=some d:=by
  intro t b c;rw [ah];split
  ·exact ⟨_,rfl⟩
  ·exact ⟨b,c⟩
 have g:∀t b,(st.box s ⟨.aJ [],ty⟩).boxes t=some b->b.live->st.boxes t=some b:=by
  intro t b c l;rw [ah] at c;split at c
  ·cases c;exact absurd l eQ
  ·exact c
 refine ⟨h.defers,h.size,h.ao,?_,?_,fun t b c l=>h.boxes t b (g t b c l) l,fun t m o p q j r k=>h.inj t m o p (g _ _ q j) j (g _ _ r k) k,h.nu,fun t b c l=>h.sw t b (g t b c l) l,h.ext,fun t b c l=>h.own t b (g t b c l) l,h.ku,h.jz,h.small⟩
 ·intro t x u f e;obtain ⟨b,i⟩:=h.wG t x u f e;exact hw f b i
 ·intro t b c f e
  have:∃d,st.boxes f=some d:=by
   rw [ah] at c;split at c
   ·cases c;cases e
   ·exact h.wF t b c f e
  obtain ⟨d,v⟩:=this;exact hw f d v
theorem Mod.sG (h:Mod n V0 bh β0 st β a w V){s:Nat}{b b':aF}(hs:st.boxes s=some b)(lb:b.live)(hl:∀s'∈b'.cs.ids,∃b'',st.boxes s'=some b'')
  {w':World}(hw:w'.heap=w.heap.setIfInBounds (β s) (b'.obj β))(ho:w'.os=w.os)(ht:w'.tape=w.tape)(hout:w'.output=w.output) :
  Mod n V0 bh β0 (st.box s b') β a w' V:=by
 have z:=ar (h.boxes s b hs lb)
 have m:∀i,w'.heap[i]?=if i=β s then some (b'.obj β) else w.heap[i]?:=by
  intro i;rw [hw,Array.getElem?_setIfInBounds];by_cases e:β s=i
  ·rw [if_pos e,if_pos (by omega),if_pos e.symm]
  ·rw [if_neg e,if_neg (Ne.symm e)]
 refine ⟨h.defers,h.size,h.ao,?_,?_,?_,?_,?_,?_,?_,?_,h.ku,h.jz,h.small⟩
 ·intro t x A s' g;obtain ⟨d,c⟩:=h.wG t x A s' g;rw [ah];split
  ·exact ⟨_,rfl⟩
  ·exact ⟨d,c⟩
 ·intro t d c s' g
  have:∃b'',st.boxes s'=some b'':=by
   rw [ah] at c;split at c
   ·simp only [Option.some.injEq] at c;rw [←c] at g;exact hl s' g
   ·exact h.wF t d c s' g
  rw [ah];split
  ·exact ⟨_,rfl⟩
  ·exact this
 ·intro t d c j;rw [ah] at c;rw [m];split at c
  ·rename_i e;simp only [Option.some.injEq] at c;rw [e,if_pos rfl,c]
  ·rename_i e;rw [if_neg fun he=>e (h.inj t s d b c j hs lb he)];exact h.boxes t d c j
 ·intro t v d l k j p B he
  have f:∀t d,(st.box s b').boxes t=some d->d.live->∃l,st.boxes t=some l/\l.live:=by
   intro t d k j;rw [ah] at k;split at k
   ·rename_i e;rw [e];exact ⟨b,hs,lb⟩
   ·exact ⟨d,k,j⟩
  obtain ⟨C,q,D⟩:=f t d k j;obtain ⟨E,r,F⟩:=f v l p B;exact h.inj t v C E q D r F he
 ·intro d o u;obtain ⟨k,p⟩:=h.nu d o u;refine ⟨?_,p⟩;rw [m,if_neg]
  ·exact k
  ·intro e;rw [e] at u;exact h.sw s b hs lb o u
 ·intro t d c j o;rw [ah] at c;split at c
  ·rename_i e;rw [e];exact h.sw s b hs lb o
  ·exact h.sw t d c j o
 ·refine ⟨by rw [hw];simpa using h.ext.size,fun i G y=>?_,ho.trans h.ext.os,ht.trans h.ext.tape,hout.trans h.ext.out⟩;rw [m];split
  ·rename_i e;exfalso;rcases h.own s b hs lb with k|k
   ·omega
   ·exact y (e▸h.jz _ k.2)
  ·exact h.ext.aS i G y
 ·intro t d c j;rw [ah] at c;split at c
  ·rename_i e;rw [e];exact h.own s b hs lb
  ·exact h.own t d c j
end Go.Eng
