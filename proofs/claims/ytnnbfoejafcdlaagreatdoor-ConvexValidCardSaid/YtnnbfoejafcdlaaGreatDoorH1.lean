import Derived.WalkKit
import Derived.Deep.LoopGhost
import Derived.KernelRfl
set_option linter.unusedVariables false
open Go.IntKind (i64 u64 u32)
namespace Go.bE
abbrev OA:=Option Addr
abbrev sm {α:Type}(a:α):Prop:=a=a
structure View where
 w:World
 H:Nat->Prop
 X:Nat->Prop
 hH:∀b,H b->b<w.heap.size
 hX:∀b,X b->H b
def View.bG (V:View)(b:Nat)(o:Obj):Prop:=¬V.H b/\V.w.heap[b]?=some o
def View.at (V:View)(p:Addr)(v:Value):Prop:=¬V.H p.block/\V.w.cell? p=some v
def View.Le (V V':View):Prop:=∀b o,V.bG b o->V'.bG b o
structure eM (X:Nat->Prop) (w w':World):Prop where
 size:w.heap.size<=w'.heap.size
 bG:∀b,b<w.heap.size->¬X b->w'.heap[b]?=w.heap[b]?
 os:w'.os=w.os
 tape:w'.tape=w.tape
 out:w'.output=w.output
def View.to (V:View)(w':World)(h:V.w.heap.size<=w'.heap.size):View:=⟨w',V.H,V.X,fun b hb=>Nat.lt_of_lt_of_le (V.hH b hb) h,V.hX⟩
def View.cG (V:View)(bs:List Nat):View:={ V with X:=fun b=>b∈bs/\V.H b,hX:=fun _ h=>h.2 }
def View.Ox (V:View)(b:Nat):View:={ V with H:=fun x=>V.H x\/(x=b/\b<V.w.heap.size),hH:=fun x h=>h.elim (V.hH x) fun h=>h.1▸h.2,hX:=fun x h=>.inl (V.hX x h) }
def View.mf (V:View)(p:Prop)(b:Nat):View:={ V with H:=fun x=>V.H x\/(p/\x=b/\b<V.w.heap.size),hH:=fun x h=>h.elim (V.hH x) fun h=>h.2.1▸h.2.2,hX:=fun x h=>.inl (V.hX x h) }
def View.shut (V:View):View:={ V with X:=fun _=>False,hX:=fun _ h=>h.elim }
def iJ (P : Program)(f : FuncId) : Prop := ∃ fn, P.funcs[f]? = some fn ∧ fn.body.isNone = false ∧ (fn.name == "runtime.NumGoroutine") = false
def ab (P:Program)(f:FuncId)(args:Array Value)(V:View)(R:Value->View->Prop):Prop:=
 iJ P f/\Calls P f args V.w fun e w'=>∃r,e=.returned r/\∃hx:eM V.X V.w w',R r (V.to w' hx.size)
inductive C where
 | v (x:Value)|w (x:Value)|tt|ff
 | ptr (s o:Nat)
 | lR (s o n c:Nat)
 | jY (s n c:Nat)
 | CC (f:FuncId) (ss:List Nat)
inductive SV where
 | c (x:C)|agg (cs:List C)|oQ (xs:List (Bool×List C))
inductive Cells where
 | lit (cs:List C)|row (vs:List Value)|a_ (vs:List Value)
structure aQ where
 cs:Cells
 ty:TypeId
def aQ.live (b:aQ):Prop:=∀vs,b.cs=.a_ vs->vs≠[]
def IL (b:aQ):List Prop:=
 match b.cs with
 | .a_ vs=>[vs≠[]]
 | _=>[]
def TS (b:aQ):Prop:=
 match b.cs with
 | .a_ vs=>vs≠[]
 | _=>True
def pG:List Prop->Prop->Prop
 | [],k=>k
 | p::r,k=>p->pG r k
def mA (b c:Nat):OA:=if c=0 then none else some ⟨b,0,none⟩
structure St where
 au:Nat->Option SV
 boxes:Nat->Option aQ
def C.den (β:Nat->Nat):C->Value
 | .v x=>x
 | .w x=>x
 | .tt=>.bool true
 | .ff=>.bool false
 | .ptr s o=>.pointer (some ⟨β s,o,none⟩)
 | .lR s o n c=>.slice (some ⟨β s,o,none⟩) n c
 | .jY s n c=>.slice (mA (β s) c) n c
 | .CC f ss=>.func (.func f) #[] (ss.map fun s=>Value.pointer (some ⟨β s,0,none⟩)).toArray
def im (β:Nat->Nat):Bool×List C->Value
 | (true,cs)=>.agg (cs.map (C.den β)).toArray
 | (false,[c])=>c.den β
 | (false,_)=>.tuple #[]
def qJ:Bool×List C->Option SV
 | (true,cs)=>some (.agg cs)
 | (false,[c])=>some (.c c)
 | (false,_)=>none
def SV.den (β:Nat->Nat):SV->Value
 | .c x=>x.den β
 | .agg cs=>.agg (cs.map (C.den β)).toArray
 | .oQ xs=>.tuple (xs.map (im β)).toArray
def SV.cells:SV->List C
 | .c x=>[x]
 | .agg cs=>cs
 | .oQ _=>[]
def Cells.den (β:Nat->Nat):Cells->List Value
 | .lit cs=>cs.map (C.den β)
 | .row vs=>vs
 | .a_ vs=>vs
def aQ.obj (β:Nat->Nat)(b:aQ):Obj:=.cells (b.cs.den β).toArray b.ty (0,0)
def C.ids:C->List Nat
 | .ptr s _=>[s]
 | .lR s _ _ _=>[s]
 | .jY s _ _=>[s]
 | .CC _ ss=>ss
 | _=>[]
def SV.ids:SV->List Nat
 | .c x=>x.ids
 | .agg cs=>cs.flatMap C.ids
 | .oQ xs=>xs.flatMap fun x=>x.2.flatMap C.ids
def SV.vB:SV->Bool
 | .oQ _=>true
 | _=>false
def eW:C->List Prop
 | .v (.agg _)|.v (.tuple _)=>[False]
 | .w x=>[x.oneCell'=true]
 | _=>[]
def SV.eW (x:SV):List Prop:=x.cells.flatMap bE.eW
def Cells.ids:Cells->List Nat
 | .lit cs=>cs.flatMap C.ids
 | .row _=>[]
 | .a_ _=>[]
def St.put (st:St)(d:Option Nat)(x:SV):St:=
 match d with
 | none=>st
 | some d=>{ st with au:=fun t=>cond (Nat.beq t d) (some x) (st.au t) }
def St.box (st:St)(s:Nat)(b:aQ):St:={ st with boxes:=fun t=>cond (Nat.beq t s) (some b) (st.boxes t) }
def C.ofConst:Value->C
 | .bool true=>.tt
 | .bool false=>.ff
 | x=>.v x
def SV.ofConst:Value->SV
 | .bool true=>.c .tt
 | .bool false=>.c .ff
 | .agg cs=>.agg (cs.toList.map C.ofConst)
 | x=>.c (.v x)
def St.aY (st:St):Operand->Option SV
 | .tmp t=>st.au t
 | .const v=>some (.ofConst v)
 | .global g=>some (.c (.v (.pointer (some ⟨g,0,none⟩))))
 | .func f=>some (.c (.CC f []))
inductive TK where
 | int (k:IntKind)|bool|str|ptr (e:TypeId)|slice (e:TypeId)|struct (fs:List (TypeId×Nat))|arr (n:Nat) (e:TypeId)|iface|func|tuple (ts:List TypeId)|other
structure TI where
 k:TK
 size:Nat
 bytes:Nat
 zero:List C
def jT:TypeDesc->TK
 | .int k=>.int k
 | .bool=>.bool
 | .string=>.str
 | .pointer e=>.ptr e
 | .slice e=>.slice e
 | .array n e=>.arr n e
 | .struct fs=>.struct (fs.toList.map fun f=>(f.type,f.offset))
 | .interface _=>.iface
 | .func ..=>.func
 | .tuple es=>.tuple es.toList
 | _=>.other
def kq (P:Program)(t:TypeId):Option TI:=
 match P.info? t,P.underlying t with
 | some i,some d=>
  match i.zero with
  | some z=>some { k:=jT d,size:=i.size,bytes:=i.bytes,zero:=z.cells.toList.map C.ofConst }
  | none=>none
 | _,_=>none
abbrev cV:=List (Nat×TI)
def aC {α:Type}:List (Nat×α)->Nat->Option α
 | [],_=>none
 | (s,x)::r,t=>cond (Nat.beq t s) (some x) (aC r t)
def cV.ok (P:Program)(T:cV):Prop:=∀t i,aC T t=some i->kq P t=some i
inductive xi where
 | int (k:IntKind)|bool|slice|ptr|str|any
inductive uh where
 | one (s:xi)|agg (l:List xi)
inductive Sh where
 | val (s:uh)|oQ (l:List uh)|none
def S0:C->xi
 | .v (.int k _)=>.int k
 | .v (.slice ..)=>.slice
 | .v (.pointer _)=>.ptr
 | .v (.string _)=>.str
 | .tt|.ff=>.bool
 | _=>.any
def kv (i:TI):uh:=
 match i.k with
 | .struct _|.arr _ _=>.agg (i.zero.map S0)
 | _=>match i.zero with
  | [z]=>.one (S0 z)
  | _=>.one .any
def xi.ex:xi->(C->Prop)->Prop
 | .int k,K=>∃n:Int,K (.v (.int k n))
 | .bool,K=>∃b:Bool,K (.v (.bool b))
 | .slice,K=>∃(a:OA)(n c:Nat),K (.v (.slice a n c))
 | .ptr,K=>∃p:OA,K (.v (.pointer p))
 | .str,K=>∃s:ByteArray,K (.v (.string s))
 | .any,K=>∃x:Value,K (.w x)
def Ol:List xi->(List C->Prop)->Prop
 | [],K=>K []
 | s::r,K=>s.ex fun v=>Ol r fun vs=>K (v::vs)
def uh.ex:uh->(SV->Prop)->Prop
 | .one s,K=>s.ex fun c=>K (.c c)
 | .agg l,K=>Ol l fun cs=>K (.agg cs)
def PA:List uh->(List (Bool×List C)->Prop)->Prop
 | [],K=>K []
 | .one s::r,K=>s.ex fun c=>PA r fun vs=>K ((false,[c])::vs)
 | .agg l::r,K=>Ol l fun cs=>PA r fun vs=>K ((true,cs)::vs)
def Sh.ex:Sh->(SV->Prop)->Prop
 | .val s,K=>s.ex K
 | .oQ l,K=>PA l fun vs=>K (.oQ vs)
 | .none,K=>K (.oQ [])
def R7 (T:cV):List TypeId->Option (List uh)
 | []=>some []
 | t::r=>match aC T t,R7 T r with
  | some i,some l=>some (kv i::l)
  | _,_=>Option.none
def VF (T:cV)(t:TypeId):Option Sh:=
 match aC T t with
 | some i=>match i.k with
  | .tuple []=>some .none
  | .tuple ts=>match R7 T ts with
   | some l=>some (.oQ l)
   | Option.none=>Option.none
  | _=>some (.val (kv i))
 | Option.none=>Option.none
inductive Q where
 | fail
 | ret (sc:List Prop) (x:SV)
 | new (sc:List Prop) (b:aQ) (x:Nat->SV)
 | sW (sc:List Prop) (s:Nat) (b:aQ)
 | rd (p:OA) (sh:uh)
 | nO (vs:List Value) (o size:Nat) (sh:uh)
 | qY (s:Nat) (vs:List Value) (n c:Nat) (x:OA×Nat ⊕ List Value) (size bytes:Nat) (ty:TypeId)
 | app (old:Option Nat) (ba:OA) (vs:List Value) (n c:Nat) (x:OA×Nat ⊕ List Value) (size bytes:Nat) (ty:TypeId)
def bz (op:BinOp)(k:IntKind)(a b:Int):Int:=
 match op with
 | .and=>k.wrap ((BitVec.ofInt k.bits a &&& BitVec.ofInt k.bits b).toNat:Int)
 | .or=>k.wrap ((BitVec.ofInt k.bits a ||| BitVec.ofInt k.bits b).toNat:Int)
 | .xor=>k.wrap ((BitVec.ofInt k.bits a ^^^ BitVec.ofInt k.bits b).toNat:Int)
 | _=>k.wrap ((BitVec.ofInt k.bits a &&& ~~~(BitVec.ofInt k.bits b)).toNat:Int)
def mi (op:BinOp)(k:IntKind)(a b:Int):Q:=
 match op with
 | .add=>.ret [] (.c (.v (.int k (k.wrap (a+b)))))
 | .sub=>.ret [] (.c (.v (.int k (k.wrap (a-b)))))
 | .mul=>.ret [] (.c (.v (.int k (k.wrap (a*b)))))
 | .quo=>.ret [b≠0] (.c (.v (.int k (k.wrap (a.tdiv b)))))
 | .rem=>.ret [b≠0] (.c (.v (.int k (a.tmod b))))
 | .and=>.ret [] (.c (.v (.int k (bz .and k a b))))
 | .or=>.ret [] (.c (.v (.int k (bz .or k a b))))
 | .xor=>.ret [] (.c (.v (.int k (bz .xor k a b))))
 | .andNot=>.ret [] (.c (.v (.int k (bz .andNot k a b))))
 | .shl=>.ret [0<=b] (.c (.v (.int k (k.wrap (a*2^(min b.toNat k.bits))))))
 | .shr=>.ret [0<=b] (.c (.v (.int k (a.fdiv (2^(min b.toNat k.bits))))))
 | .eql=>.ret [] (.c (.v (.bool (a==b))))
 | .neq=>.ret [] (.c (.v (.bool (a != b))))
 | .lss=>.ret [] (.c (.v (.bool (decide (a<b)))))
 | .leq=>.ret [] (.c (.v (.bool (decide (a<=b)))))
 | .gtr=>.ret [] (.c (.v (.bool (decide (a>b)))))
 | .geq=>.ret [] (.c (.v (.bool (decide (a≥b)))))
def C.bool?:C->Option Bool
 | .tt=>some true
 | .ff=>some false
 | .v (.bool b)=>some b
 | _=>none
def cF:Value->Bool
 | .nilIface=>true
 | _=>false
def IsIface (x:Value):Prop:=x=.nilIface\/∃t v,x=.iface t v
def vC:IntKind->IntKind->Bool
 | .i8,.i8|.i16,.i16|.i32,.i32|.i64,.i64|.u8,.u8|.u16,.u16|.u32,.u32|.u64,.u64=>true
 | _,_=>false
def Bw (neg:Bool)(k:TK)(x y:C):Q:=
 match k with
 | .ptr _=>match y with
  | .v (.pointer none)=>match x with
   | .ptr _ _=>.ret [] (.c (if neg then .tt else .ff))
   | .v (.pointer p)=>.ret [] (.c (.v (.bool (if neg then !p.isNone else p.isNone))))
   | _=>.fail
  | _=>.fail
 | .slice _=>match y with
  | .v (.slice none _ _)=>match x with
   | .lR _ _ _ _=>.ret [] (.c (if neg then .tt else .ff))
   | .jY _ _ c=>.ret [] (.c (.v (.bool (if neg then !(Nat.beq c 0) else Nat.beq c 0))))
   | .v (.slice a _ _)=>.ret [] (.c (.v (.bool (if neg then !a.isNone else a.isNone))))
   | _=>.fail
  | _=>.fail
 | .iface=>match y with
  | .v .nilIface=>match x with
   | .w y=>.ret [IsIface y] (.c (.v (.bool (if neg then !cF y else cF y))))
   | .v .nilIface=>.ret [] (.c (if neg then .ff else .tt))
   | _=>.fail
  | _=>.fail
 | _=>.fail
def Bu (T:cV)(op:BinOp)(xt:TypeId)(x y:C):Q:=
 match aC T xt with
 | some i=>match i.k with
  | .int _=>match x,y with
   | .v (.int k a),.v (.int k' b)=>
    match op with
    | .shl|.shr=>mi op k a b
    | _=>if vC k k' then mi op k a b else .fail
   | _,_=>.fail
  | .bool=>match x.bool?,y.bool? with
   | some a,some b=>match op with
    | .eql=>.ret [] (.c (.v (.bool (a==b))))
    | .neq=>.ret [] (.c (.v (.bool (!(a==b)))))
    | _=>.fail
   | _,_=>.fail
  | k=>match op with
   | .eql=>Bw false k x y
   | .neq=>Bw true k x y
   | _=>.fail
 | none=>.fail
def ah (p:OA)(n:Nat):OA:=p.map fun a=>a.add n
def setCells (cs:List C)(o:Nat)(xs:List C):List C:=cs.take o++xs++cs.drop (o+xs.length)
def dg (vs:List Value)(o:Nat)(xs:List Value):List Value:=
 match xs with
 | [x]=>vs.set o x
 | _=>vs.take o++xs++vs.drop (o+xs.length)
def C.val?:C->Option Value
 | .v x=>some x
 | .w x=>some x
 | .tt=>some (.bool true)
 | .ff=>some (.bool false)
 | _=>none
def ky:List C->Option (List Value)
 | []=>some []
 | c::r=>match c.val?,ky r with
  | some v,some vs=>some (v::vs)
  | _,_=>none
def iY (bx:Nat->Option aQ)(i:TI)(x:SV):Q:=
 match x with
 | .c (.ptr b o)=>match bx b with
  | some ⟨.lit cs,_⟩=>match i.k with
   | .struct _|.arr _ _=>if Nat.ble (o+i.size) cs.length then .ret [] (.agg ((cs.drop o).take i.size)) else .fail
   | _=>match cs[o]? with
    | some c=>.ret [] (.c c)
    | none=>.fail
  | some ⟨.row vs,_⟩=>.nO vs o i.size (kv i)
  | some ⟨.a_ vs,_⟩=>if Nat.beq i.size 0 then .fail else .nO vs o i.size (kv i)
  | none=>.fail
 | .c (.v (.pointer p))=>if Nat.beq i.zero.length i.size then .rd p (kv i) else .fail
 | _=>.fail
def gH (bx:Nat->Option aQ)(i:TI)(a x:SV):Q:=
 match a with
 | .c (.ptr b o)=>if Nat.beq x.cells.length i.size&&!x.vB then match bx b with
   | some ⟨.lit cs,ty⟩=>if Nat.ble (o+i.size) cs.length then .sW x.eW b ⟨.lit (setCells cs o x.cells),ty⟩ else .fail
   | some ⟨.row vs,ty⟩=>match ky x.cells with
    | some xs=>.sW (x.eW++[o+i.size<=vs.length]) b ⟨.row (dg vs o xs),ty⟩
    | none=>.fail
   | some ⟨.a_ vs,ty⟩=>if Nat.beq i.size 0 then .fail else match ky x.cells with
    | some xs=>.sW (x.eW++[o+i.size<=vs.length]) b ⟨.a_ (dg vs o xs),ty⟩
    | none=>.fail
   | none=>.fail
  else .fail
 | _=>.fail
def nN (place:Nat->Option (Nat×Nat))(cells:List C):List (Nat×SV)->Option (List C)
 | []=>some cells
 | (i,x)::r=>match place i with
  | none=>none
  | some (off,size)=>if Nat.beq x.cells.length size&&Nat.ble (off+size) cells.length&&!x.vB then nN place (setCells cells off x.cells) r else none
def partsOf (ρ:Operand->Option SV):List (Nat×Operand)->Option (List (Nat×SV))
 | []=>some []
 | (i,o)::r=>match ρ o,partsOf ρ r with
  | some x,some l=>some ((i,x)::l)
  | _,_=>none
def fr (T:cV):List (TypeId×Nat)->Option (List (Nat×Nat))
 | []=>some []
 | (t,off)::r=>match aC T t,fr T r with
  | some i,some l=>some ((off,i.size)::l)
  | _,_=>none
def rep (n:Nat)(zs:List C):List C:=(List.replicate n zs).flatten
def oP (n:Nat)(zs:List Value):List Value:=
 match zs with
 | [z]=>List.replicate n z
 | _=>(List.replicate n zs).flatten
def sU (a:OA)(m l sz:Nat):OA:=if m=l then a else ah a (l*sz)
def X5 (o m l sz:Nat):Nat:=if m=l then o else o+l*sz
def MD (c:Nat):Option SV->Option (List Prop×Nat)
 | none=>some ([],c)
 | some (.c (.v (.int _ m)))=>some ([0<=m/\m<=(c:Int)],m.toNat)
 | _=>none
def Kt (n m:Nat):Option SV->Option SV->Option (List Prop×Nat)
 | some (.c (.v (.int _ h))),_=>some ([0<=h/\h<=(m:Int)],h.toNat)
 | none,none=>some ([],n)
 | _,_=>none
def O2 (h:Nat):Option SV->Option (List Prop×Option Nat)
 | none=>some ([],none)
 | some (.c (.v (.int _ l)))=>some ([0<=l/\l<=(h:Int)],some l.toNat)
 | _=>none
def nj (n c:Nat)(lo hi mx:Option SV):Option (List Prop×Option Nat×Nat×Nat):=
 match MD c mx with
 | none=>none
 | some (p1,m)=>match Kt n m hi mx with
  | none=>none
  | some (p2,h)=>match O2 h lo with
   | none=>none
   | some (p3,l)=>some (p1++p2++p3,l,h,m)
def Bo (ρ:Operand->Option SV):Option Operand->Option (Option SV)
 | none=>some none
 | some x=>match ρ x with
  | some v=>some (some v)
  | none=>none
def rf (sz:Nat)(x:SV)(lo hi mx:Option SV):Q:=
 match x with
 | .c (.v (.slice a n c))=>match nj n c lo hi mx with
  | some (sc,none,h,m)=>.ret sc (.c (.v (.slice a h m)))
  | some (sc,some l,h,m)=>.ret sc (.c (.v (.slice (sU a m l sz) (h-l) (m-l))))
  | none=>.fail
 | .c (.lR s o n c)=>match nj n c lo hi mx with
  | some (sc,none,h,m)=>.ret sc (.c (.lR s o h m))
  | some (sc,some l,h,m)=>.ret sc (.c (.lR s (X5 o m l sz) (h-l) (m-l)))
  | none=>.fail
 | .c (.jY s n c)=>match mx with
  | none=>match nj n c lo hi none with
   | some (sc,none,h,m)=>.ret sc (.c (.jY s h m))
   | _=>.fail
  | some _=>.fail
 | _=>.fail
def gG (T:cV)(i:TI)(x ix:SV):Q:=
 match ix with
 | .c (.v (.int _ n))=>match i.k with
  | .slice e=>match aC T e with
   | some ei=>match x with
    | .c (.v (.slice a len _))=>.ret [a.isSome=true,0<=n/\n<(len:Int)] (.c (.v (.pointer (ah a (n.toNat*ei.size)))))
    | .c (.lR s o len _)=>.ret [0<=n/\n<(len:Int)] (.c (.ptr s (o+n.toNat*ei.size)))
    | .c (.jY s len c)=>.ret [0<=n/\n<(len:Int),len<=c] (.c (.ptr s (n.toNat*ei.size)))
    | _=>.fail
   | none=>.fail
  | .arr len e=>match aC T e with
   | some ei=>match x with
    | .c (.ptr s o)=>.ret [0<=n/\n<(len:Int)] (.c (.ptr s (o+n.toNat*ei.size)))
    | _=>.fail
   | none=>.fail
  | _=>.fail
 | _=>.fail
def Ad (T:cV)(i:TI)(l c:SV):Q:=
 match i.k with
 | .slice e=>match aC T e with
  | some ei=>match l,c with
   | .c (.v (.int _ n)),.c (.v (.int _ m))=>match ky ei.zero with
    | some zs=>if Nat.beq ei.bytes 0||Nat.beq ei.size 0||!(Nat.beq ei.size zs.length) then .fail else .new [0<=n,n<=m,(ei.bytes:Int)*m<=140737488355328] ⟨.row (oP m.toNat zs),e⟩ fun d=>.c (.lR d 0 n.toNat m.toNat)
    | none=>.fail
   | _,_=>.fail
  | none=>.fail
 | _=>.fail
def vS:List SV->Option (List Nat)
 | []=>some []
 | .c (.ptr s 0)::r=>match vS r with
  | some l=>some (s::l)
  | none=>none
 | _=>none
def bS (ρ:Operand->Option SV):List Operand->Option (List SV)
 | []=>some []
 | o::r=>match ρ o,bS ρ r with
  | some x,some l=>some (x::l)
  | _,_=>none
def b_ (a b:Int):Int:=if b<a then b else a
def bP (a b:Int):Int:=if b>a then b else a
def foldI (f:Int->Int->Int)(k:IntKind)(a:Int):List SV->Option Int
 | []=>some a
 | .c (.v (.int k' b))::r=>if vC k k' then foldI f k (f a b) r else none
 | _=>none
def ef (bx:Nat->Option aQ)(s:Nat):Option (List Value):=
 match bx s with
 | some ⟨.lit cs,_⟩=>ky cs
 | some ⟨.row vs,_⟩=>some vs
 | _=>none
def kc (bx:Nat->Option aQ)(s:Nat):Option TypeId:=match bx s with|some b=>some b.ty|none=>none
def jC (ws:List Value)(o n:Nat):List Value:=cond (Nat.ble (o+n) ws.length) ((ws.drop o).take n) (List.replicate n (.agg #[]))
def bX (bx:Nat->Option aQ)(e:TypeId)(ei:TI)(b x:SV):Q:=
 match ky ei.zero with
 | none=>.fail
 | some zs=>if Nat.beq ei.bytes 0||Nat.beq ei.size 0||!(Nat.beq ei.size zs.length) then .fail else
  let src:Option (OA×Nat ⊕ List Value):=match x with
   | .c (.v (.slice a k _))=>some (.inl (a,k))
   | .c (.lR s o k _)=>match bx s with
    | some ⟨.row ws,_⟩=>some (.inr (jC ws o (k*ei.size)))
    | _=>match ef bx s with
     | some ws=>if Nat.ble (o+k*ei.size) ws.length then some (.inr ((ws.drop o).take (k*ei.size))) else none
     | none=>none
   | _=>none
  match src with
  | none=>.fail
  | some src=>match b with
   | .c (.v (.slice a n c))=>.app none a [] n c src ei.size ei.bytes e
   | .c (.lR s 0 n c)=>match ef bx s,kc bx s with
    | some vs,some ty=>if Nat.beq ty e then .app (some s) none vs n c src ei.size ei.bytes e else .fail
    | _,_=>.fail
   | .c (.jY s n c)=>match bx s with
    | some ⟨.a_ vs,ty⟩=>if Nat.beq ty e then .qY s vs n c src ei.size ei.bytes e else .fail
    | _=>.fail
   | _=>.fail
def kr (b:Builtin)(k:TK)(xs:List SV):Q:=
 match xs with
 | []=>.fail
 | x::r=>match b with
  | .len=>match r,k,x with
   | [],.slice _,.c (.v (.slice _ n _))=>.ret [] (.c (.v (.int .i64 n)))
   | [],.slice _,.c (.lR _ _ n _)=>.ret [] (.c (.v (.int .i64 n)))
   | [],.slice _,.c (.jY _ n _)=>.ret [] (.c (.v (.int .i64 n)))
   | [],.str,.c (.v (.string s))=>.ret [] (.c (.v (.int .i64 s.size)))
   | _,_,_=>.fail
  | .cap=>match r,k,x with
   | [],.slice _,.c (.v (.slice _ _ c))=>.ret [] (.c (.v (.int .i64 c)))
   | [],.slice _,.c (.lR _ _ _ c)=>.ret [] (.c (.v (.int .i64 c)))
   | [],.slice _,.c (.jY _ _ c)=>.ret [] (.c (.v (.int .i64 c)))
   | _,_,_=>.fail
  | .min=>match x with
   | .c (.v (.int k a))=>match foldI b_ k a r with
    | some m=>.ret [] (.c (.v (.int k m)))
    | none=>.fail
   | _=>.fail
  | .max=>match x with
   | .c (.v (.int k a))=>match foldI bP k a r with
    | some m=>.ret [] (.c (.v (.int k m)))
    | none=>.fail
   | _=>.fail
  | _=>.fail
def vU (t:TypeId)(i:TI)(v:SV):Q:=
 match i.k with
 | .iface=>.fail
 | _=>match v.ids,v.vB with
  | [],false=>.ret [] (.c (.w (.iface t (v.den fun _=>0))))
  | _,_=>.fail
def lf (T:cV)(bx:Nat->Option aQ)(t:TypeId)(x:SV):Q:=
 match aC T t with
 | some i=>match i.k with
  | .slice e=>match aC T e with
   | some ei=>match ky ei.zero,x with
    | some zs,.c (.lR s o n _)=>match bx s with
     | some ⟨.row vs,ty⟩=>if Nat.beq ei.size 0||!(Nat.beq ei.size zs.length)||!(zs.all Value.oneCell') then .fail else .sW [o+n*ei.size<=vs.length] s ⟨.row (vs.take o++oP n zs++vs.drop (o+n*ei.size)),ty⟩
     | _=>.fail
    | _,_=>.fail
   | none=>.fail
  | _=>.fail
 | none=>.fail
def Hd:List C->Option (List (OA×Nat×Nat))
 | []=>some []
 | .v (.slice p n c)::r=>match Hd r with
  | some l=>some ((p,n,c)::l)
  | none=>none
 | _=>none
def kt (T:cV)(i:TI)(cs:List C)(k:Int):Q:=
 match i.k with
 | .arr n e=>match aC T e,Hd cs with
  | some ei,some l=>match ei.k with
   | .slice _=>if Nat.beq ei.size 1&&Nat.beq l.length n then .ret [0<=k/\k<(n:Int)] (.c (.v (.slice (l.getD k.toNat (none,0,0)).1 (l.getD k.toNat (none,0,0)).2.1 (l.getD k.toNat (none,0,0)).2.2))) else .fail
   | _=>.fail
  | _,_=>.fail
 | _=>.fail
def aJ (T:cV)(ρ:Operand->Option SV)(bx:Nat->Option aQ)(op:Op):Q:=
 match op with
 | .move x|.assign x=>match ρ x with
  | some v=>.ret [] v
  | none=>.fail
 | .pick c a b=>match ρ c with
  | some (.c .tt)=>match ρ a with
   | some v=>.ret [] v
   | none=>.fail
  | some (.c .ff)=>match ρ b with
   | some v=>.ret [] v
   | none=>.fail
  | _=>.fail
 | .alloc t=>match aC T t with
  | some i=>.new [] ⟨.lit i.zero,t⟩ fun d=>.c (.ptr d 0)
  | none=>.fail
 | .box t x=>match ρ x with
  | some v=>match v.vB with
   | true=>.fail
   | false=>.new v.eW ⟨.lit v.cells,t⟩ fun d=>.c (.ptr d 0)
  | none=>.fail
 | .build t parts=>match aC T t,partsOf ρ parts.toList with
  | some i,some ps=>match i.k with
   | .struct fs=>match fr T fs with
    | some pl=>match nN (fun j=>pl[j]?) i.zero ps with
     | some cs=>.ret (ps.flatMap fun x=>x.2.eW) (.agg cs)
     | none=>.fail
    | none=>.fail
   | .arr _ e=>match aC T e with
    | some ei=>match nN (fun j=>some (j*ei.size,ei.size)) i.zero ps with
     | some cs=>.ret (ps.flatMap fun x=>x.2.eW) (.agg cs)
     | none=>.fail
    | none=>.fail
   | _=>.fail
  | _,_=>.fail
 | .buildSlice t len parts=>match aC T t,partsOf ρ parts.toList with
  | some i,some ps=>match i.k with
   | .slice e=>match aC T e with
    | some ei=>if Nat.ble (len*ei.size) 16777216&&Nat.beq ei.zero.length ei.size&&!(Nat.beq ei.size 0) then match nN (fun j=>some (j*ei.size,ei.size)) (rep len ei.zero) ps with
      | some cs=>.new (ps.flatMap fun x=>x.2.eW) ⟨.lit cs,e⟩ fun d=>.c (.lR d 0 len len)
      | none=>.fail
     else .fail
    | none=>.fail
   | _=>.fail
  | _,_=>.fail
 | .load t a=>match aC T t,ρ a with
  | some i,some x=>iY bx i x
  | _,_=>.fail
 | .store t a x=>match aC T t,ρ a,ρ x with
  | some i,some av,some xv=>gH bx i av xv
  | _,_,_=>.fail
 | .nilCheck x=>match ρ x with
  | some (.c (.ptr s o))=>.ret [] (.c (.ptr s o))
  | some (.c (.v (.pointer p)))=>.ret [p.isSome=true] (.c (.v (.pointer p)))
  | _=>.fail
 | .binOp o xt x y _=>match ρ x,ρ y with
  | some (.c a),some (.c b)=>match b with
   | .v .nilIface=>match y with
    | .const _=>Bu T o xt a b
    | _=>.fail
   | b=>Bu T o xt a b
  | _,_=>.fail
 | .unOp .not _ x=>match ρ x with
  | some (.c .tt)=>.ret [] (.c .ff)
  | some (.c .ff)=>.ret [] (.c .tt)
  | some (.c (.v (.bool b)))=>.ret [] (.c (.v (.bool (!b))))
  | _=>.fail
 | .unOp .xor _ x=>match ρ x with
  | some (.c (.v (.int k n)))=>.ret [] (.c (.v (.int k (bz .xor k (if k.signed then -1 else k.max) n))))
  | _=>.fail
 | .unOp .neg _ x=>match ρ x with
  | some (.c (.v (.int k n)))=>.ret [] (.c (.v (.int k (k.wrap (0-n)))))
  | _=>.fail
 | .convert src dst x=>match aC T src,aC T dst,ρ x with
  | some _,some i,some (.c (.v (.int _ n)))=>match i.k with
   | .int k=>.ret [] (.c (.v (.int k (k.wrap n))))
   | _=>.fail
  | _,_,_=>.fail
 | .makeFunc (.func f) first caps=>match first.toList with
  | []=>match bS ρ caps.toList with
   | some xs=>match vS xs with
    | some ss=>.ret [] (.c (.CC f ss))
    | none=>.fail
   | none=>.fail
  | _=>.fail
 | .makeSlice t l c=>match aC T t,ρ l,ρ c with
  | some i,some lv,some cv=>Ad T i lv cv
  | _,_,_=>.fail
 | .slice t x lo hi mx=>match aC T t,ρ x,Bo ρ lo,Bo ρ hi,Bo ρ mx with
  | some i,some xv,some l,some h,some m=>match i.k with
   | .slice e=>match aC T e with
    | some ei=>rf ei.size xv l h m
    | none=>.fail
   | _=>.fail
  | _,_,_,_,_=>.fail
 | .fieldAddr t x f=>match aC T t,ρ x with
  | some i,some xv=>match i.k with
   | .struct fs=>match fs[f]? with
    | some (ft,off)=>match aC T ft with
     | some fi=>if Nat.beq fi.size 0 then .fail else match xv with
      | .c (.ptr s o)=>.ret [] (.c (.ptr s (o+off)))
      | .c (.v (.pointer p))=>.ret [p.isSome=true] (.c (.v (.pointer (ah p off))))
      | _=>.fail
     | none=>.fail
    | none=>.fail
   | _=>.fail
  | _,_=>.fail
 | .field t x f=>match aC T t,ρ x with
  | some i,some (.agg cs)=>match i.k with
   | .struct fs=>match fs[f]? with
    | some (ft,off)=>match aC T ft with
     | some fi=>match fi.k with
      | .struct _|.arr _ _=>.ret [] (.agg ((cs.drop off).take fi.size))
      | _=>match cs[off]? with
       | some c=>.ret [] (.c c)
       | none=>.fail
     | none=>.fail
    | none=>.fail
   | _=>.fail
  | _,_=>.fail
 | .indexAddr t x ix=>match aC T t,ρ x,ρ ix with
  | some i,some xv,some iv=>gG T i xv iv
  | _,_,_=>.fail
 | .extract x j=>match ρ x with
  | some (.oQ xs)=>match xs[j]? with
   | some v=>match qJ v with
    | some y=>.ret [] y
    | none=>.fail
   | none=>.fail
  | _=>.fail
 | .call c=>match c.callee with
  | .builtin .append=>match bS ρ c.args.toList,c.argTypes.toList with
   | some [b,x],[t,t']=>match aC T t,aC T t' with
    | some i,some i'=>match i.k,i'.k with
     | .slice e,.slice _=>match aC T e with
      | some ei=>bX bx e ei b x
      | none=>.fail
     | _,_=>.fail
    | _,_=>.fail
   | _,_=>.fail
  | .builtin .clear=>match bS ρ c.args.toList,c.argTypes.toList with
   | some [x],[t]=>lf T bx t x
   | _,_=>.fail
  | .builtin b=>match bS ρ c.args.toList,c.argTypes.toList with
   | some xs,t::_=>match aC T t with
    | some i=>kr b i.k xs
    | none=>.fail
   | _,_=>.fail
  | _=>.fail
 | .index t x ix=>match aC T t,ρ x,ρ ix with
  | some i,some (.c (.v (.string s))),some (.c (.v (.int _ n)))=>match i.k with
   | .str=>.ret [0<=n/\n<(s.size:Int)] (.c (.v (.int .u8 ((s.data.toList.getD n.toNat 0).toNat:Int))))
   | _=>.fail
  | some i,some (.agg cs),some (.c (.v (.int _ n)))=>kt T i cs n
  | _,_,_=>.fail
 | .makeInterface t x=>match aC T t,ρ x with
  | some i,some v=>vU t i v
  | _,_=>.fail
 | _=>.fail
def Aq:List Prop->Prop->Prop
 | [],k=>k
 | p::r,k=>p/\Aq r k
def View.MJ (V:View)(p:Addr):Nat->List C->Prop->Prop
 | _,[],k=>k
 | i,c::r,k=>V.at (p.add i) (c.den fun _=>0)/\V.MJ p (i+1) r k
def View.Ln (V:View)(p:OA)(x:SV)(k:Prop):Prop:=
 match x with
 | .agg cs=>∃a,p=some a/\V.MJ a 0 cs k
 | .c c=>(∃a,p=some a/\V.at a (c.den fun _=>0))/\k
 | .oQ _=>False
def MN (vs:List Value)(o size:Nat)(x:SV):Prop:=
 match x with
 | .agg cs=>o+size<=vs.length/\(vs.drop o).take size=cs.map (C.den fun _=>0)
 | .c c=>vs[o]?=some (c.den fun _=>0)
 | .oQ _=>False
def eI (x:Nat):List Nat->Bool
 | []=>false
 | y::r=>cond (Nat.beq x y) true (eI x r)
def dedup:List Nat->List Nat
 | []=>[]
 | x::r=>let l:=dedup r;cond (eI x l) l (x::l)
def u_ (l m:List Nat):Bool:=l.all fun x=>!(eI x m)
def KS (l m:List Nat):Bool:=l.all fun x=>eI x m
def C.rel (L:List Nat)(β:Nat->Nat)(J:C->Value):C->C
 | .ptr s o=>cond (eI s L) (.v (.pointer (some ⟨β s,o,none⟩))) (.ptr s o)
 | .lR s o n c=>cond (eI s L) (.v (.slice (some ⟨β s,o,none⟩) n c)) (.lR s o n c)
 | .jY s n c=>cond (eI s L) (.v (.slice (mA (β s) c) n c)) (.jY s n c)
 | .CC f ss=>cond (u_ ss L) (.CC f ss) (.w (J (.CC f ss)))
 | x=>x
def SV.rel (L:List Nat)(β:Nat->Nat)(J:C->Value):SV->SV
 | .c x=>.c (x.rel L β J)
 | .agg cs=>.agg (cs.map (C.rel L β J))
 | .oQ xs=>.oQ (xs.map fun x=>(x.1,x.2.map (C.rel L β J)))
def aQ.rel (L:List Nat)(β:Nat->Nat)(J:C->Value)(b:aQ):aQ:=
 match b.cs with
 | .row _=>b
 | .a_ _=>b
 | .lit cs=>⟨.lit (cs.map (C.rel L β J)),b.ty⟩
def St.rel (st:St)(L:List Nat)(β:Nat->Nat)(J:C->Value):St:=
 ⟨fun t=>match st.au t with|some x=>some (x.rel L β J)|none=>none,
   fun t=>cond (eI t L) none (match st.boxes t with|some b=>some (b.rel L β J)|none=>none)⟩
def View.sl (V:View)(a:OA)(xs:List Value):Prop:=∀i v,xs[i]?=some v->∃ad,a=some ad/\V.at (ad.add i) v
def nC (s d:Nat):Nat:=cond (Nat.blt s 100000) d (d+200000)
def Ce (s:Nat)(vs:List Value)(n c size bytes:Nat)(ty:TypeId)(d:Nat)(st:St)(V:View)(K:St->View->Prop)(k:Nat)(xs:List Value):Prop:=
 (n+k)*bytes<=140737488355328/\n<=c/\c*size<=vs.length/\xs.length=k*size/\(∀v∈xs,v.oneCell'=true) /\
  match st.boxes (nC s d) with
  | some _=>False
  | none=>∀(_:Nat)(_:C->Value)(spare:List Value)(c':Nat),n+k<=c'->c'*size<=(n+k)*size+spare.length ->
   K (((st.box s ⟨.a_ [],ty⟩).box (nC s d) ⟨.row (vs.take (n*size)++xs++spare),ty⟩).put (some d) (.c (.lR (nC s d) 0 (n+k) c'))) V
def r_ (s:Nat)(vs:List Value)(n c size bytes:Nat)(ty:TypeId)(d:Nat)(st:St)(V:View)(K:St->View->Prop)(k:Nat)(xs:List Value):Prop:=
 (n+k)*bytes<=140737488355328/\n<=c/\c*size<=vs.length/\xs.length=k*size/\(∀v∈xs,v.oneCell'=true) /\
  match st.boxes (nC s d) with
  | some _=>False
  | none=>∀(spare:List Value)(c':Nat),n+k<=c'->c'*size<=(n+k)*size+spare.length ->
   K (((st.box s ⟨.a_ [],ty⟩).box (nC s d) ⟨.a_ (vs.take (n*size)++xs++spare),ty⟩).put (some d) (.c (.jY (nC s d) (n+k) c'))) V
def Cf (vs:List Value)(n c size bytes:Nat)(ty:TypeId)(d:Nat)(st:St)(V:View)(K:St->View->Prop)(k:Nat)(xs:List Value):Prop:=
 (n+k)*bytes<=140737488355328/\c<n+k/\xs.length=k*size/\(∀v∈xs,v.oneCell'=true) /\
  match st.boxes d with
  | some _=>False
  | none=>∀(spare:List Value)(c':Nat),n+k<=c'->c'*size<=(n+k)*size+spare.length ->
   K ((st.box d ⟨.row (vs++xs++spare),ty⟩).put (some d) (.c (.lR d 0 (n+k) c'))) V
def sZ (q:Q)(dst:Option Nat)(st:St)(V:View)(K:St->View->Prop):Prop:=
 match q with
 | .fail=>False
 | .ret sc x=>Aq sc (K (st.put dst x) V)
 | .new sc b x=>match dst with
  | some d=>match st.boxes d with
   | none=>Aq sc (K ((st.box d b).put (some d) (x d)) V)
   | some _=>False
  | none=>False
 | .sW sc s b=>match dst with
  | none=>Aq sc (K (st.box s b) V)
  | some _=>False
 | .rd p sh=>sh.ex fun x=>V.Ln p x (K (st.put dst x) V)
 | .nO vs o size sh=>sh.ex fun x=>MN vs o size x/\K (st.put dst x) V
 | .qY s vs n c x size bytes ty=>match dst with
  | none=>False
  | some d=>match x with
   | .inr xs=>r_ s vs n c size bytes ty d st V K (xs.length / size) xs
   | .inl (a,k)=>∃xs:List Value,V.sl a xs/\xs.length=k*size/\r_ s vs n c size bytes ty d st V K k xs
 | .app old ba vs n c x size bytes ty=>match dst with
  | none=>False
  | some d=>match old with
   | some s=>match x with
    | .inr xs=>Ce s vs n c size bytes ty d st V K (xs.length / size) xs
    | .inl (a,k)=>∃xs:List Value,V.sl a xs/\xs.length=k*size/\Ce s vs n c size bytes ty d st V K k xs
   | none=>∃vs:List Value,V.sl ba vs/\vs.length=n*size/\n<=c/\(ba.isNone=true->c=0)/\(match x with
    | .inr xs=>Cf vs n c size bytes ty d st V K (xs.length / size) xs
    | .inl (a,k)=>∃xs:List Value,V.sl a xs/\xs.length=k*size/\(k=0->K (st.put (some d) (.c (.v (.slice ba n c)))) V)/\(k≠0->Cf vs n c size bytes ty d st V K k xs))
def fV (β:Nat->Nat)(s b:Nat):Nat->Nat:=fun t=>cond (Nat.beq t s) b (β t)
def lI:List Nat->(Nat->Nat)->((Nat->Nat)->Prop)->Prop
 | [],β,k=>k β
 | s::r,β,k=>∀b:Nat,lI r (fV β s b) k
def kF (bx:Nat->Option aQ)(s:Nat):List Nat:=match bx s with|some b=>b.cs.ids|none=>[]
def reach (bx:Nat->Option aQ):Nat->List Nat->List Nat
 | 0,l=>l
 | n+1,l=>reach bx n (dedup (l++l.flatMap (kF bx)))
def gN (bx:Nat->Option aQ)(l:List Nat):Bool:=l.all fun s=>KS (kF bx s) l
def NC (bx:Nat->Option aQ)(b:aQ)(β:Nat->Nat)(s:Nat):List Nat->Prop->Prop
 | [],k=>k
 | t::r,k=>cond (Nat.beq s t) (NC bx b β s r k) (match bx t with
  | some b'=>pG (IL b++IL b') (β s≠β t)->NC bx b β s r k
  | none=>False)
def ik (bx:Nat->Option aQ)(β:Nat->Nat)(V:View):List Nat->Prop->Prop
 | [],k=>k
 | s::r,k=>match bx s with
  | some b=>pG (IL b) (V.w.heap[β s]?=some (b.obj β))->pG (IL b) (V.H (β s))->ik bx β V r (NC bx b β s r k)
  | none=>False
def vb (vs:List Value)(n b:Nat):Nat:=
 match vs with
 | []=>n
 | _::_=>b
def dG (bx:Nat->Option aQ)(β:Nat->Nat)(n:Nat)(s:Nat):Nat:=
 match bx s with
 | some ⟨.a_ vs,_⟩=>vb vs n (β s)
 | _=>β s
def C.kept:C->List Nat
 | .CC _ ss=>0::ss
 | c=>c.ids
def kT (mv:Option (Nat×Nat)):List C->List C->(List C->Prop)->Prop
 | [],_,K=>K []
 | c::r,z::zr,K=>match c with
  | .jY t _ _=>match mv with
   | some (m,nb)=>match Nat.beq t m with
    | true=>∃n c:Nat,kT mv r zr fun cs=>K (.jY nb n c::cs)
    | false=>False
   | none=>False
  | c=>match c.kept with
   | []=>(S0 z).ex fun v=>kT mv r zr fun cs=>K (v::cs)
   | _=>kT mv r zr fun cs=>K (c::cs)
 | _,[],_=>False
def dY (T:cV)(mv:Option (Nat×Nat))(β:Nat->Nat)(V:View):List Nat->St->(St->Prop)->Prop
 | [],st,k=>k st
 | s::r,st,k=>match st.boxes s with
  | some ⟨.lit cs,ty⟩=>match aC T ty with
   | some i=>kT mv cs i.zero fun cs'=>V.w.heap[β s]?=some (.cells (cs'.map (C.den β)).toArray ty (0,0))/\dY T mv β V r (st.box s ⟨.lit cs',ty⟩) k
   | none=>False
  | some ⟨.row _,ty⟩=>∃vs:List Value,V.w.heap[β s]?=some (.cells vs.toArray ty (0,0))/\dY T mv β V r (st.box s ⟨.row vs,ty⟩) k
  | some ⟨.a_ vs,ty⟩=>vs≠[]/\∃vs':List Value,vs'≠[]/\V.w.heap[β s]?=some (.cells vs'.toArray ty (0,0))/\dY T mv β V r (st.box s ⟨.a_ vs',ty⟩) k
  | _=>False
def xW (bx:Nat->Option aQ)(β:Nat->Nat)(V:View):List Nat->Prop->Prop
 | [],k=>k
 | s::r,k=>match bx s with
  | some b=>pG (IL b) (V.bG (β s) (b.obj β))->xW bx β V r k
  | none=>False
def ot:List C->List Nat
 | []=>[]
 | .jY t _ _::r=>t::ot r
 | _::r=>ot r
def pO (bx:Nat->Option aQ)(L:List Nat):List Nat:=dedup (L.flatMap fun s=>match bx s with|some ⟨.lit cs,_⟩=>ot cs|_=>[])
def kV:List SV->List Nat
 | []=>[]
 | .c (.jY s _ _)::_=>[s]
 | .c (.lR s 0 _ _)::_=>[s]
 | .c (.v (.slice none _ _))::_=>[]
 | _::r=>kV r
def tV (nb:Nat):List (Bool×List C)->List (Bool×List C)
 | []=>[]
 | (false,[.v (.slice _ n c)])::r=>(false,[.jY nb n c])::r
 | x::r=>x::tV nb r
def A7 (nb:Nat):List C->List C
 | []=>[]
 | .v (.slice _ n c)::r=>.jY nb n c::r
 | x::r=>x::A7 nb r
def qR (nb:Nat):SV->SV
 | .c (.v (.slice _ n c))=>.c (.jY nb n c)
 | .agg cs=>.agg (A7 nb cs)
 | .oQ xs=>.oQ (tV nb xs)
 | x=>x
def A8 (T:cV):List TypeId->Option TypeId
 | []=>none
 | t::r=>match aC T t with
  | some i=>match i.k with
   | .slice e=>some e
   | _=>A8 T r
  | none=>none
def JE (T:cV)(ty:TypeId):Option TypeId:=
 match aC T ty with
 | some i=>match i.k with
  | .slice e=>some e
  | .tuple ts=>A8 T ts
  | .struct fs=>A8 T (fs.map Prod.fst)
  | _=>none
 | none=>none
def aT (β:Nat->Nat)(xs:List SV):Array Value:=(xs.map (SV.den β)).toArray
inductive CM where
 | none|cG|rel|ig|give
def eU (m:Option Nat)(d:Nat):Nat:=
 match m with
 | some m=>nC m d
 | Option.none=>d
def mvP (m:Option Nat)(nb:Nat):Option (Nat×Nat):=
 match m with
 | some m=>some (m,nb)
 | Option.none=>Option.none
def GU (m:Option Nat)(L:List Nat):List Nat:=
 match m with
 | some m=>L.filter fun s=>!(Nat.beq s m)
 | Option.none=>L
def pC (m:Option Nat)(ety:TypeId)(st:St):St:=
 match m with
 | some m=>st.box m ⟨.a_ [],ety⟩
 | Option.none=>st
def xd (m:Option Nat)(st:St)(β:Nat->Nat)(b':Nat):Prop:=
 match m with
 | some m=>match st.boxes m with
  | some ⟨.a_ vs,_⟩=>vs≠[]/\b'=β m
  | _=>b'=β m
 | Option.none=>False
def cj (T:cV)(give:Bool)(sh:Sh)(L:List Nat)(m:Option Nat)(d:Nat)(ety:TypeId)(β:Nat->Nat)(st:St)(V':View)(K:St->View->Prop)(r':Value)(eN:View):Prop:=
 ∃(b':Nat)(vs':List Value),(vs'≠[]->eN.w.heap[b']?=some (.cells vs'.toArray ety (0,0)))/\(vs'≠[]->V'.w.heap.size<=b'\/xd m st β b') /\
  sh.ex fun x=>r'=(cond give (qR (eU m d) x) x).den (fV β (eU m d) b') /\
   dY T (mvP m (eU m d)) (fV β (eU m d) b') eN (GU m L) ((pC m ety st).box (eU m d) ⟨.a_ vs',ety⟩) fun st'=>K (st'.put (some d) (cond give (qR (eU m d) x) x)) (eN.shut.mf (vs'≠[]) b')
def jM (st:St)(m:Option Nat)(d:Nat):Bool:=
 match st.boxes (eU m d) with
 | some _=>false
 | Option.none=>true
def fj (P:Program)(T:cV)(m:CM)(f:FuncId)(xs:List SV)(ty:TypeId)(dst:Option Nat)(st:St)(V:View)(K:St->View->Prop):Prop:=
 match VF T ty with
 | Option.none=>False
 | some sh=>match reach st.boxes 3 (dedup (xs.flatMap SV.ids)) with
  | []=>match m with
   | .give=>match dst,JE T ty with
    | some d,some ety=>match jM st Option.none d with
     | false=>False
     | true=>∀V':View,V.Le V'->ab P f (aT (fun _=>0) xs) V' (cj T true sh [] Option.none d ety (fun _=>0) st V' K)
    | _,_=>False
   | .ig=>match sh,dst with
    | .val (.one .ptr),some d=>match st.boxes d with
     | some _=>False
     | Option.none=>match aC T ty with
      | some ti=>match ti.k with
       | .ptr e=>match aC T e with
        | some ei=>∀V':View,V.Le V'->ab P f (aT (fun _=>0) xs) V' fun r eN=>∃b:Nat,Ol (ei.zero.map S0) fun cs=>
          r=.pointer (some ⟨b,0,Option.none⟩)/\V'.w.heap.size<=b/\eN.bG b (.cells (cs.map (C.den fun _=>0)).toArray e (0,0))/\K ((st.box d ⟨.lit cs,e⟩).put (some d) (.c (.ptr d 0))) (eN.Ox b)
        | Option.none=>False
       | _=>False
      | Option.none=>False
    | _,_=>False
   | _=>∀V':View,V.Le V'->ab P f (aT (fun _=>0) xs) V' fun r eN=>sh.ex fun x=>r=x.den (fun _=>0)/\K (st.put dst x) eN
  | s::r=>match gN st.boxes (s::r) with
   | false=>False
   | true=>match m with
    | .none|.ig=>False
    | .give=>match dst,JE T ty,kV xs,pO st.boxes (s::r) with
     | some d,some ety,[],[]=>match jM st Option.none d with
      | false=>False
      | true=>∀V':View,V.Le V'->lI (s::r) (fun _=>0) fun β=>ik st.boxes β V' (s::r)
       (ab P f (aT β xs) (V'.cG ((s::r).map (dG st.boxes β V'.w.heap.size))) (cj T true sh (s::r) Option.none d ety β st V' K))
     | some d,some ety,[m],[]=>match jM st (some m) d with
      | false=>False
      | true=>∀V':View,V.Le V'->lI (s::r) (fun _=>0) fun β=>ik st.boxes β V' (s::r)
       (ab P f (aT β xs) (V'.cG ((s::r).map (dG st.boxes β V'.w.heap.size))) (cj T true sh (s::r) (some m) d ety β st V' K))
     | _,_,_,_=>False
    | .cG=>match pO st.boxes (s::r) with
     | []=>∀V':View,V.Le V'->lI (s::r) (fun _=>0) fun β=>ik st.boxes β V' (s::r)
      (ab P f (aT β xs) (V'.cG ((s::r).map (dG st.boxes β V'.w.heap.size))) fun r' eN=>sh.ex fun x=>r'=x.den (fun _=>0)/\dY T Option.none β eN (s::r) st fun st'=>K (st'.put dst x) eN.shut)
     | [m]=>match dst,kc st.boxes m with
      | some d,some ety=>match jM st (some m) d with
       | false=>False
       | true=>∀V':View,V.Le V'->lI (s::r) (fun _=>0) fun β=>ik st.boxes β V' (s::r)
        (ab P f (aT β xs) (V'.cG ((s::r).map (dG st.boxes β V'.w.heap.size))) (cj T false sh (s::r) (some m) d ety β st V' K))
      | _,_=>False
     | _=>False
    | .rel=>match (s::r).all fun t=>Nat.blt t 100000 with
     | false=>False
     | true=>∀V':View,V.Le V'->lI (s::r) (fun _=>0) fun β=>xW st.boxes β V' (s::r)
      (ab P f (aT β xs) V' fun r' eN=>sh.ex fun x=>r'=x.den (fun _=>0)/\∀J:C->Value,K ((st.rel (s::r) β J).put dst x) eN)
def lx (bx:Nat->Option aQ):List SV->Option (List Value×Nat×List SV)
 | []=>none
 | x::r=>match x with
  | .c (.jY s n c)=>match bx s with
   | some ⟨.a_ vs,_⟩=>some (vs,c,.c (.v (.slice none n c))::r)
   | _=>none
  | x=>match lx bx r with
   | some (vs,c,r')=>some (vs,c,x::r')
   | none=>none
def jU (P:Program)(T:cV)(m:CM)(f:FuncId)(xs:List SV)(ty:TypeId)(dst:Option Nat)(st:St)(V:View)(K:St->View->Prop):Prop:=
 match m with
 | .cG=>match lx st.boxes xs with
  | some (vs,c,xs')=>(vs=[]->c=0/\fj P T .cG f xs' ty dst st V K)/\(vs≠[]->fj P T .cG f xs ty dst st V K)
  | none=>fj P T .cG f xs ty dst st V K
 | m=>fj P T m f xs ty dst st V K
def uW (ss:List Nat):List SV:=ss.map fun s=>.c (.ptr s 0)
inductive Hint where
 | free|own (l:List Nat)
def ib (op:Op):List Operand:=
 match op with
 | .load _ a=>[a]
 | .store _ a _=>[a]
 | .call ⟨.value f,args,_⟩=>args.toList++[f]
 | .call ⟨.builtin .append,args,_⟩=>args.toList
 | _=>[]
def eC (bx:Nat->Option aQ)(op:Op)(l:List Nat):List Nat:=
 match op with
 | .call _=>reach bx 3 (dedup l)
 | _=>l
def Fp (P:Program)(t:TypeId)(name:String):Option FuncId:=
 match P.info? t,P.underlying t with
 | some i,some d=>match i.methods.find? (fun m=>m.name==name) with
  | some m=>match m.path.toList,m.func,d with
   | [],some (f,false),.struct _=>some f
   | _,_,_=>none
  | none=>none
 | _,_=>none
def cO (P:Program)(T:cV)(m:CM)(o:Oper)(st:St)(V:View)(K:St->View->Prop):Prop:=
 match o.op with
 | .call ⟨.value Li,args,_⟩=>match bS st.aY args.toList with
  | some xs=>match st.aY Li with
   | some (.c (.CC f ss))=>jU P T m f (xs++uW ss) o.type o.dst st V K
   | _=>False
  | none=>False
 | .call ⟨.invoke recv name,args,_⟩=>match bS st.aY args.toList with
  | some xs=>match st.aY recv with
   | some (.c (.w (.iface t v)))=>match Fp P t name with
    | some f=>jU P T m f (.c (.w v)::xs) o.type o.dst st V K
    | none=>False
   | _=>False
  | none=>False
 | op=>sZ (aJ T st.aY st.boxes op) o.dst st V K
def cH (P:Program)(T:cV)(m:CM)(h:Hint)(o:Oper)(st:St)(V:View)(K:St->View->Prop):Prop:=
 match h with
 | .free=>cO P T m o st V K
 | .own l=>match bS st.aY (ib o.op) with
  | some xs=>match KS (eC st.boxes o.op (xs.flatMap SV.ids)) l with
   | true=>cO P T m o st V K
   | false=>False
  | none=>False
def ja:SV:=.oQ []
def qj (P:Program)(T:cV)(m:CM)(h:Hint)(ops:Array Oper)(o:Oper)(st:St)(V:View)(K:St->View->Prop):Prop:=
 match o.guard with
 | none=>cH P T m h o st V K
 | some (j,b)=>match (ops[j]?).bind (·.dst) with
  | none=>False
  | some g=>match st.au g with
   | some (.c .tt)=>match b with
    | true=>cH P T m h o st V K
    | false=>K (st.put o.dst ja) V
   | some (.c .ff)=>match b with
    | true=>K (st.put o.dst ja) V
    | false=>cH P T m h o st V K
   | some (.c (.v (.bool c)))=>match b with
    | true=>(c=true->cH P T m h o (st.put (some g) (.c .tt)) V K)/\(c=false->K ((st.put (some g) (.c .ff)).put o.dst ja) V)
    | false=>(c=true->K ((st.put (some g) (.c .tt)).put o.dst ja) V)/\(c=false->cH P T m h o (st.put (some g) (.c .ff)) V K)
   | some (.oQ _)=>K (st.put o.dst ja) V
   | _=>False
inductive Ta where
 | pure|load|store|alloc|call|kl|odd|ig|app|give
def bf (LF RF:List Nat):Op->Ta
 | .move _|.assign _|.pick ..| .build ..| .nilCheck _|.binOp ..| .unOp ..| .convert ..| .makeFunc ..| .slice ..| .fieldAddr ..| .field ..| .indexAddr ..| .extract ..| .index ..| .makeInterface ..=>.pure
 | .load ..=>.load
 | .store ..=>.store
 | .alloc _|.box ..| .buildSlice ..| .makeSlice ..=>.alloc
 | .call ⟨.builtin .len,_,_⟩|.call ⟨.builtin .cap,_,_⟩=>.pure
 | .call ⟨.builtin .append,_,_⟩=>.app
 | .call ⟨.value (.func f),_,_⟩=>match eI f LF with
  | true=>match eI (f+1000000) LF with
   | true=>.give
   | false=>.kl
  | false=>match eI f RF with
   | true=>.odd
   | false=>match eI (f+1000000) RF with
    | true=>.ig
    | false=>.call
 | .call ⟨.value _,_,_⟩=>.kl
 | .call ⟨.invoke _ _,_,_⟩=>.call
 | _=>.odd
def ic (op:Op):List Nat:=op.operands.toList.filterMap fun|.tmp t=>some t|_=>none
def dK (ops:Array Oper)(o:Oper):List Nat:=
 match o.guard with
 | none=>[]
 | some (j,_)=>match (ops[j]?).bind (·.dst) with
  | some g=>[g]
  | none=>[]
def dX (o:Oper):List Nat:=match o.dst with|some d=>[d]|none=>[]
def pV (c:Ta)(h:Hint)(d:List Nat):Option (List Nat×List Nat):=
 match c,h with
 | .pure,.free=>some ([],[])
 | .call,.free=>some ([],[])
 | .alloc,.free=>some (d,d)
 | .load,.own l=>some (l,[])
 | .store,.own l=>some (l,l)
 | .kl,.own l=>some (l,l++d++d.map (·+ 200000))
 | .app,.own l=>some (l,l++d++d.map (·+ 200000))
 | .give,.own l=>some (l,l++d++d.map (·+ 200000))
 | _,_=>none
def mr:Ta->Bool
 | .pure|.load|.store|.alloc=>true
 | _=>false
def indep (LF RF:List Nat)(ops:Array Oper)(h1 h2:Hint)(o1 o2:Oper):Bool:=
 mr (bf LF RF o1.op) &&
 u_ (dX o1) (ic o2.op++dK ops o2++dX o2)&&u_ (dX o2) (ic o1.op++dK ops o1) &&
 u_ (dK ops o1) (ic o2.op)&&u_ (dK ops o2) (ic o1.op) &&
 match pV (bf LF RF o1.op) h1 (dX o1),pV (bf LF RF o2.op) h2 (dX o2) with
 | some (r1,w1),some (r2,w2)=>u_ w1 r2&&u_ w2 r1&&u_ w1 w2
 | _,_=>false
def Qo (ops:List Oper)(t:Nat):Option Oper:=ops.find? fun o=>match o.dst with|some d=>Nat.beq d t|none=>false
def wc (st:St)(ops:List Oper):Nat->Operand->List Nat
 | 0,_=>[]
 | n+1,.tmp t=>match Qo ops t with
  | some o=>match o.op with
   | .alloc _|.box ..| .buildSlice ..| .makeSlice ..=>[t]
   | .call _=>[t,t+200000]
   | .assign x=>wc st ops n x++match st.au t with
    | some x=>x.ids
    | none=>[]
   | .load _ a=>(wc st ops n a).flatMap (kF st.boxes)
   | op=>op.operands.toList.flatMap (wc st ops n)
  | none=>match st.au t with
   | some x=>x.ids
   | none=>[]
 | _,_=>[]
def JJ (LF RF:List Nat)(st:St)(ops:List Oper)(o:Oper):Hint:=
 match bf LF RF o.op with
 | .load|.store=>.own (dedup ((ib o.op).flatMap (wc st ops 10)))
 | .kl|.app|.give=>.own (reach st.boxes 3 (dedup ((ib o.op).flatMap (wc st ops 10))))
 | _=>.free
def Hu (ops:List Oper):List Nat:=
 ops.foldl (fun acc o=>acc++[o.after.toList.foldl (fun s e=>cond (Region.binds .any e) (Nat.lor (Nat.lor (Nat.shiftLeft 1 e.on) (acc.getD e.on 0)) s) s) 0]) []
def Oa (m i:Nat):Bool:=Nat.beq (Nat.land (Nat.shiftRight m i) 1) 1
def Me (LF RF:List Nat)(o:Oper):Bool:=match bf LF RF o.op with|.call|.kl|.odd|.ig|.app|.give=>true|_=>false
def FH (ops:Array Oper)(done:List Nat)(i:Nat):Bool:=
 match ops[i]? with
 | some o=>!(eI i done)&&o.after.toList.all fun e=>!(Region.binds .any e)||eI e.on done
 | none=>false
def BF (LF RF:List Nat)(ops:Array Oper):Nat->List Nat->List Nat
 | 0,_=>[]
 | n+1,done=>
  let rs:=(List.range ops.size).filter (FH ops done)
  match rs.find? (fun i=>match ops[i]? with|some o=>!(Me LF RF o)|none=>false) with
  | some i=>i::BF LF RF ops n (i::done)
  | none=>match rs with
   | i::_=>i::BF LF RF ops n (i::done)
   | []=>[]
def oz (LF RF:List Nat)(ops:Array Oper):List Nat:=BF LF RF ops ops.size []
def t_ (LF RF:List Nat)(ops:Array Oper)(hs:List Hint)(an:List Nat):List Nat->Bool
 | []=>true
 | i::r=>(r.all fun j=>Oa (an.getD j 0) i||match ops[i]?,ops[j]? with|some a,some b=>indep LF RF ops (hs.getD i .free) (hs.getD j .free) a b|_,_=>false)&&t_ LF RF ops hs an r
def pS (ops:Array Oper):List Nat->List Nat->Bool
 | _,[]=>true
 | done,i::r=>FH ops done i&&pS ops (i::done) r
def G4 (LF RF:List Nat)(ops:Array Oper)(hs:List Hint)(l:List Nat):Bool:=
 Nat.beq l.length ops.size&&((List.range ops.size).all fun i=>eI i l)&&pS ops [] l&&t_ LF RF ops hs (Hu ops.toList) l
def KZ (P:Program)(T:cV)(m:Nat->CM)(hint:Nat->Hint)(ops:Array Oper):List Nat->St->View->(St->View->Prop)->Prop
 | [],st,V,K=>K st V
 | i::r,st,V,K=>match ops[i]? with
  | some o=>qj P T (m i) (hint i) ops o st V fun st' V'=>KZ P T m hint ops r st' V' K
  | none=>False
def jL (LF RF:List Nat)(ops:Array Oper)(i:Nat):CM:=
 match ops[i]? with
 | some o=>match bf LF RF o.op with
  | .kl=>.cG
  | .odd=>.rel
  | .ig=>.ig
  | .give=>.give
  | _=>.none
 | Option.none=>.none
def Rg (LF RF:List Nat)(ops:Array Oper)(i:Nat):CM:=
 match ops[i]? with
 | some o=>match bf LF RF o.op with
  | .kl=>.cG
  | .ig=>.ig
  | .give=>.give
  | _=>.rel
 | Option.none=>.none
structure Tm where
 τ:Type
 gh:Bool:=false
 UM:List Nat
 QR:List Nat
 au:τ->List (Nat×SV)
 boxes:τ->List (Nat×aQ)
structure NX where
 τ:Type
 au:τ->List (Nat×SV)
 boxes:τ->List (Nat×aQ)
def GO {α:Type}(f:Nat->Option α):List Nat->List (Nat×α)
 | []=>[]
 | t::r=>match f t with
  | some x=>(t,x)::GO f r
  | none=>GO f r
def Tm.at (A:Tm)(st:St):NX:=⟨A.τ,fun x=>GO st.au A.UM++A.au x,fun x=>GO st.boxes A.QR++A.boxes x⟩
def oc (ρ:List (Nat×Nat))(s s':Nat):Bool:=
 match aC ρ s' with
 | some t=>Nat.beq s t
 | none=>Nat.beq s s'
def zJ (ρ:List (Nat×Nat)):List Nat->List Nat->Bool
 | [],[]=>true
 | s::r,s'::r'=>oc ρ s s'&&zJ ρ r r'
 | _,_=>false
def SJ (ρ:List (Nat×Nat)):C->C->List Prop
 | .v (.int k a),.v (.int k' b)=>cond (vC k k') [a=b] [False]
 | .v (.bool a),.v (.bool b)=>[a=b]
 | .tt,.v (.bool b)=>[true=b]
 | .ff,.v (.bool b)=>[false=b]
 | .v (.slice a n c),.v (.slice a' n' c')=>[a=a',n=n',c=c']
 | .v (.slice a n c),.jY _ n' c'=>[a=none,n=n',c=c',c=0]
 | .v (.pointer p),.v (.pointer q)=>[p=q]
 | .v x,.v y=>[x=y]
 | .w x,.w y=>[x=y]
 | .w x,.v y=>[x=y]
 | .v x,.w y=>[x=y]
 | .tt,.tt=>[]
 | .ff,.ff=>[]
 | .ptr s o,.ptr s' o'=>cond (oc ρ s s') [o=o'] [False]
 | .lR s o n c,.lR s' o' n' c'=>cond (oc ρ s s') [o=o',n=n',c=c'] [False]
 | .lR s o n c,.jY s' n' c'=>cond (oc ρ s s') [o=0,n=n',c=c',c≠0] [False]
 | .jY s n c,.jY s' n' c'=>cond (oc ρ s s') [n=n',c=c'] [False]
 | .CC f ss,.CC g ts=>cond (zJ ρ ss ts) [f=g] [False]
 | _,_=>[False]
def E3 (ρ:List (Nat×Nat)):List C->List C->List Prop
 | [],[]=>[]
 | a::r,b::s=>SJ ρ a b++E3 ρ r s
 | _,_=>[False]
def Oj (ρ:List (Nat×Nat)):SV->SV->List Prop
 | .c a,.c b=>SJ ρ a b
 | .agg l,.agg m=>E3 ρ l m
 | _,_=>[False]
def SV.plain:SV->Bool
 | .oQ _=>false
 | _=>true
def Jv (ρ:List (Nat×Nat))(a b:aQ):List Prop:=
 match a.cs,b.cs with
 | .lit l,.lit m=>cond (Nat.beq a.ty b.ty) (E3 ρ l m) [False]
 | .row l,.row m=>cond (Nat.beq a.ty b.ty) [l=m] [False]
 | .a_ l,.a_ m=>cond (Nat.beq a.ty b.ty) [l=m] [False]
 | .row l,.a_ m=>cond (Nat.beq a.ty b.ty) [l=m] [False]
 | .lit l,.a_ m=>match ky l with
  | some ws=>cond (Nat.beq a.ty b.ty) [ws=m] [False]
  | none=>[False]
 | _,_=>[False]
def R0:C->C->List (Nat×Nat)
 | .ptr s _,.ptr s' _=>[(s',s)]
 | .lR s _ _ _,.lR s' _ _ _=>[(s',s)]
 | .lR s _ _ _,.jY s' _ _=>[(s',s)]
 | .jY s _ _,.jY s' _ _=>[(s',s)]
 | .CC _ ss,.CC _ ts=>ts.zip ss
 | _,_=>[]
def KF:List C->List C->List (Nat×Nat)
 | a::r,b::s=>R0 a b++KF r s
 | _,_=>[]
def R3:SV->SV->List (Nat×Nat)
 | .c a,.c b=>R0 a b
 | .agg l,.agg m=>KF l m
 | _,_=>[]
def O7 (st:St):List (Nat×SV)->List (Nat×Nat)
 | []=>[]
 | (t,x)::r=>match st.au t with
  | some y=>R3 y x++O7 st r
  | none=>O7 st r
def Ir (st:St)(ρ:List (Nat×Nat)):List (Nat×aQ)->List (Nat×Nat)
 | []=>[]
 | (t,x)::r=>match aC ρ t with
  | some s=>match st.boxes s with
   | some y=>(match y.cs,x.cs with|.lit l,.lit m=>KF l m|_,_=>[])++Ir st ρ r
   | none=>Ir st ρ r
  | none=>Ir st ρ r
def KE (st:St)(ss:List (Nat×SV))(bs:List (Nat×aQ)):List (Nat×Nat):=
 let ρ1:=O7 st ss
 let ρ2:=ρ1++Ir st ρ1 bs
 let ρ3:=ρ2++Ir st ρ2 bs
 ρ3++Ir st ρ3 bs
def BB (ρ:List (Nat×Nat))(t:Nat):Nat:=
 match aC ρ t with
 | some s=>s
 | none=>t
def Ah (ρ:List (Nat×Nat)):List Nat->Bool
 | []=>true
 | t::r=>(Nat.blt t 100000==Nat.blt (BB ρ t) 100000)&&(Nat.blt t 100000||Nat.ble 200000 t||Nat.beq (BB ρ t) t)&&(r.all fun u=>!(Nat.beq (BB ρ t) (BB ρ u)))&&Ah ρ r
def mw (ρ:List (Nat×Nat)):List (Nat×aQ)->List Nat
 | []=>[]
 | (t,x)::r=>match x.cs with
  | .a_ _=>match aC ρ t with
   | some _=>t::mw ρ r
   | none=>mw ρ r
  | _=>t::mw ρ r
def LR (ρ:List (Nat×Nat))(st:St):List (Nat×SV)->List Prop
 | []=>[]
 | (t,x)::r=>match st.au t with
  | some y=>Oj ρ y x++LR ρ st r
  | none=>[False]
def HU (ρ:List (Nat×Nat))(st:St):List (Nat×aQ)->List Prop
 | []=>[]
 | (t,x)::r=>match x.cs,aC ρ t with
  | .a_ l,none=>(l=[])::HU ρ st r
  | _,_=>match st.boxes (BB ρ t) with
   | some y=>Jv ρ y x++HU ρ st r
   | none=>[False]
def Qn (ρ:List (Nat×Nat))(bs:List (Nat×aQ)):List Prop:=cond (Ah ρ (mw ρ bs)) [] [False]
def mF (ss:List (Nat×SV))(bs:List (Nat×aQ)):Bool:=
 let l:=bs.map (·.1)
 (ss.all fun x=>x.2.ids.all fun s=>eI s l)&&(bs.all fun x=>x.2.cs.ids.all fun s=>eI s l)
def NX.st (A:NX)(x:A.τ):St:=⟨aC (A.au x),aC (A.boxes x)⟩
def N8:List Prop->Prop
 | []=>True
 | [p]=>p
 | p::r=>p/\N8 r
def NX.fits (A:NX)(st:St)(x:A.τ)(k:Prop):Prop:=
 let ρ:=KE st (A.au x) (A.boxes x)
 N8 (LR ρ st (A.au x)++HU ρ st (A.boxes x)++Qn ρ (A.boxes x))/\k
def keyOf:Code->Nat
 | .region id _ _=>id
 | .seq a _=>keyOf a
 | .cond _ a b=>match keyOf a with
  | 1000000=>keyOf b
  | n=>n
 | .block _ a=>keyOf a
 | .loop a=>keyOf a
 | .scope a=>keyOf a
 | _=>1000000
abbrev B9:=List (Nat×Tm)
def oT:B9->Nat->Option Tm
 | [],_=>none
 | (s,x)::r,t=>cond (Nat.beq t s) (some x) (oT r t)
def NG (RF:List Nat)(id:Nat):List Nat:=RF.filterMap fun x=>cond (Nat.beq (x / 100000) (100+id)) (some (x%100000)) none
def Hk (l:List Nat)(st:St)(V:View)(K:St->View->Prop):Prop:=
 match l with
 | []=>K st V
 | s::r=>match gN st.boxes (s::r)&&(s::r).all fun t=>Nat.blt t 100000 with
  | false=>False
  | true=>∀V':View,V.Le V'->lI (s::r) (fun _=>0) fun β=>xW st.boxes β V' (s::r) (∀J:C->Value,K (st.rel (s::r) β J) V')
def DW (P:Program)(T:cV)(LF RF:List Nat)(ops:Array Oper)(draw:Bool)(st:St)(V:View)(K:St->View->Prop):Prop:=
 match draw with
 | false=>KZ P T (Rg LF RF ops) (fun _=>.free) ops (List.range ops.size) st V K
 | true=>let hs:=ops.toList.map (JJ LF RF st ops.toList)
  match G4 LF RF ops hs (oz LF RF ops) with
  | true=>KZ P T (jL LF RF ops) (fun i=>hs.getD i .free) ops (oz LF RF ops) st V K
  | false=>False
def vc (P:Program)(T:cV)(LF RF:List Nat)(L J:B9):Code->St->View->(Exit->St->View->Prop)->Prop
 | .skip,st,V,K=>K .normal st V
 | .region id ops draw,st,V,K=>match oT J (600000+id) with
  | none=>Hk (NG RF id) st V fun st' V'=>DW P T LF RF ops draw st' V' (K .normal)
  | some A=>∃I:A.τ->View->Prop,Hk (NG RF id) st V (fun st' V'=>DW P T LF RF ops draw st' V' fun Pf eN=>∃x,(A.at st).fits Pf x (I x eN)) /\
   ∀x V',V.Le V'->I x V'->(mF ((A.at st).au x) ((A.at st).boxes x)=true/\K .normal ((A.at st).st x) V')
 | .seq a b,st,V,K=>vc P T LF RF L J a st V fun e st' V'=>match e with
  | .normal=>vc P T LF RF L J b st' V' K
  | e=>K e st' V'
 | .cond c a b,st,V,K=>match oT J (keyOf (.cond c a b)) with
  | none=>match st.aY c with
   | some (.c .tt)=>vc P T LF RF L J a st V K
   | some (.c .ff)=>vc P T LF RF L J b st V K
   | some (.c (.v (.bool t)))=>(t=true->vc P T LF RF L J a st V K)/\(t=false->vc P T LF RF L J b st V K)
   | _=>False
  | some A=>match st.aY c with
   | some (.c .tt)=>vc P T LF RF L J a st V K
   | some (.c .ff)=>vc P T LF RF L J b st V K
   | some (.c (.v (.bool t)))=>∃I:A.τ->View->Prop,
    ((t=true->vc P T LF RF L J a st V fun e st' V'=>match e with
     | .normal=>∃x,(A.at st).fits st' x (I x V')
     | e=>K e st' V') /\
      (t=false->vc P T LF RF L J b st V fun e st' V'=>match e with
     | .normal=>∃x,(A.at st).fits st' x (I x V')
     | e=>K e st' V')) /\
    ∀x V',V.Le V'->I x V'->(mF ((A.at st).au x) ((A.at st).boxes x)=true/\K .normal ((A.at st).st x) V')
   | _=>False
 | .block id a,st,V,K=>match oT J (500000+id) with
  | none=>vc P T LF RF L J a st V fun e st' V'=>match e with
   | .exit i=>cond (Nat.beq i id) (K .normal st' V') (K (.exit i) st' V')
   | e=>K e st' V'
  | some A=>∃I:A.τ->View->Prop,vc P T LF RF L J a st V (fun e st' V'=>match e with
   | .exit i=>cond (Nat.beq i id) (∃x,(A.at st).fits st' x (I x V')) (K (.exit i) st' V')
   | .normal=>∃x,(A.at st).fits st' x (I x V')
   | e=>K e st' V')/\∀x V',V.Le V'->I x V'->(mF ((A.at st).au x) ((A.at st).boxes x)=true/\K .normal ((A.at st).st x) V')
 | .loop a,st,V,K=>match oT L (keyOf a) with
  | none=>False
  | some A=>match A.gh with
   | false=>∃(I:A.τ->View->Prop)(m:A.τ->Nat),(∃x,(A.at st).fits st x (I x V))/\∀x V',V.Le V'->I x V'->(mF ((A.at st).au x) ((A.at st).boxes x)=true /\
    vc P T LF RF L J a ((A.at st).st x) V' fun e st' eN=>match e with
     | .normal=>∃y,m y<m x/\(A.at st).fits st' y (I y eN)
     | e=>K e st' eN)
   | true=>∃I:A.τ->Nat->View->Prop,(∃x k,(A.at st).fits st x (I x k V))/\∀x k V',V.Le V'->I x k V'->(mF ((A.at st).au x) ((A.at st).boxes x)=true /\
    vc P T LF RF L J a ((A.at st).st x) V' fun e st' eN=>match e with
     | .normal=>∃y k',k'<k/\(A.at st).fits st' y (I y k' eN)
     | e=>K e st' eN)
 | .exit id,st,V,K=>K (.exit id) st V
 | .ret,st,V,K=>K .ret st V
 | .scope a,st,V,K=>vc P T LF RF L J a st V fun e st' V'=>match e with
  | .goto _=>False
  | e=>K e st' V'
 | .label _,st,V,K=>K .normal st V
 | _,_,_,_=>False
def lj (T:cV)(st:St):List ResultVar->Option (List SV)
 | []=>some []
 | .tmp t::r=>match st.au t,lj T st r with
  | some x,some l=>some (x::l)
  | _,_=>none
 | .cell a t::r=>match st.au a,aC T t,lj T st r with
  | some (.c (.ptr s o)),some i,some l=>match iY st.boxes i (.c (.ptr s o)) with
   | .ret _ x=>some (x::l)
   | _=>none
  | _,_,_=>none
def minus (l m:List Nat):List Nat:=l.filter fun x=>!(eI x m)
def I8 (bx:Nat->Option aQ)(β:Nat->Nat)(V:View):List Nat->Prop->Prop
 | [],k=>k
 | s::r,k=>match bx s with
  | some ⟨.a_ _,_⟩=>False
  | some b=>V.w.heap[β s]?=some (b.obj β)->I8 bx β V r k
  | none=>False
def jj:List (Nat×aQ)->List Nat
 | []=>[]
 | (s,b)::r=>match b.cs with
  | .a_ _=>jj r
  | _=>s::jj r
def J1 (bs:List (Nat×aQ))(β0:Nat->Nat)(b:Nat)(k:Prop):Prop:=
 match bs with
 | []=>k
 | (m,x)::r=>match x.cs with
  | .a_ vs=>(vs≠[]/\b=β0 m)\/J1 r β0 b k
  | _=>J1 r β0 b k
def lh (β:Nat->Nat):List SV->Value
 | [x]=>x.den β
 | l=>.tuple (l.map (SV.den β)).toArray
def sF (T:cV)(bx:Nat->Option aQ)(s:Nat):Bool:=
 cond (Nat.ble 100000 s) true (match bx s with|some ⟨.row _,ty⟩|some ⟨.a_ _,ty⟩=>Nat.ble 2 (T.filter fun x=>Nat.beq x.1 ty).length|_=>false)
def G8 (T:cV)(rs:List ResultVar)(bs:List (Nat×aQ))(β0:Nat->Nat)(n0:Nat)(R:Value->View->Prop)(st:St)(V:View):Prop:=
 match lj T st rs with
 | none=>False
 | some xs=>let F:=jj bs
  let L:=reach st.boxes 3 (dedup (xs.flatMap SV.ids++F))
  match gN st.boxes L with
  | false=>False
  | true=>match (minus L F).filter (sF T st.boxes) with
   | []=>∀V':View,V.Le V'->lI (minus L F) β0 fun β=>I8 st.boxes β V' F (xW st.boxes β V' (minus L F) (R (lh β xs) V'))
   | [s]=>match st.boxes s with
    | some b=>∀V':View,lI (minus L F) β0 fun β=>V.Le (V'.mf (TS b) (β s))->I8 st.boxes β V' F (pG (IL b) (V'.w.heap[β s]?=some (b.obj β)) ->
      pG (IL b) (n0<=β s\/J1 bs β0 (β s) False)->xW st.boxes β V' ((minus L F).filter (!Nat.beq s ·)) (R (lh β xs) V'))
    | none=>False
   | _=>False
def VU (P:Program)(T:cV)(LF RF:List Nat)(L J:B9)(code:Code)(rs:List ResultVar)(ss:List (Nat×SV))(bs:List (Nat×aQ))(β0:Nat->Nat)(V:View)(R:Value->View->Prop):Prop:=
 vc P T LF RF L J code ⟨aC ss,aC bs⟩ V fun e st V'=>match e with
  | .normal=>G8 T rs bs β0 V.w.heap.size R st V'
  | .ret=>G8 T rs bs β0 V.w.heap.size R st V'
  | _=>False
def hU (n:Nat):Code->Bool
 | .region _ ops _=>ops.toList.all fun o=>match o.dst with|some d=>Nat.blt d n|none=>true
 | .seq a b=>hU n a&&hU n b
 | .cond _ a b=>hU n a&&hU n b
 | .block _ a=>hU n a
 | .loop a=>hU n a
 | .scope a=>hU n a
 | _=>true
def nq:Nat->List (Nat×SV)->Bool
 | _,[]=>true
 | i,(j,x)::r=>Nat.beq i j&&x.plain&&nq (i+1) r
def BH (P:Program)(T:cV)(LF RF:List Nat)(L J:B9)(fn:Func)(ss:List (Nat×SV))(bs:List (Nat×aQ))(β0:Nat->Nat)(V:View)(R:Value->View->Prop):Prop:=
 match fn.body with
 | some code=>match hU fn.ntmps code&&nq 0 ss&&Nat.ble ss.length fn.ntmps&&Nat.ble fn.ntmps 100000&&(bs.all fun b=>Nat.ble 100000 b.1&&Nat.blt b.1 200000)&&mF ss bs with
  | true=>VU P T LF RF L J code fn.results.toList ss bs β0 V R
  | false=>False
 | none=>False
theorem View.Le.refl (V:View):V.Le V:=fun _ _ h=>h
theorem View.Le.trans {V V' eN:View}(h:V.Le V')(k:V'.Le eN):V.Le eN:=fun b o x=>k b o (h b o x)
theorem View.Le.at {V V':View}(h:V.Le V'){p:Addr}{v:Value}(k:V.at p v):V'.at p v:=by
 obtain ⟨hH,hc⟩:=k
 unfold World.cell? at hc
 split at hc
 ·rename_i hb
  obtain ⟨h1,h2⟩:=h p.block _ ⟨hH,hb⟩
  refine ⟨h1,?_⟩
  unfold World.cell?
  rw [h2]
  exact hc
 ·cases hc
theorem eM.refl (X:Nat->Prop)(w:World):eM X w w:=⟨Nat.le_refl _,fun _ _ _=>rfl,rfl,rfl,rfl⟩
theorem eM.trans {X:Nat->Prop}{a b c:World}(h:eM X a b)(k:eM X b c):eM X a c:=
 ⟨Nat.le_trans h.size k.size,fun i hi hx=>(k.bG i (Nat.lt_of_lt_of_le hi h.size) hx).trans (h.bG i hi hx),k.os.trans h.os,k.tape.trans h.tape,k.out.trans h.out⟩
theorem eM.mono {X Y:Nat->Prop}{a b:World}(h:eM X a b)(hxy:∀i,X i->Y i):eM Y a b:=
 ⟨h.size,fun i hi hy=>h.bG i hi fun hx=>hy (hxy i hx),h.os,h.tape,h.out⟩
theorem View.Q6 (V:View)(w':World)(hx:eM V.X V.w w'):V.Le (V.to w' hx.size):=by
 rintro b o ⟨hH,hb⟩
 refine ⟨hH,?_⟩
 have hlt:b<V.w.heap.size:=by
  rcases Nat.lt_or_ge b V.w.heap.size with h|h
  ·exact h
  ·rw [Array.getElem?_eq_none h] at hb;cases hb
 show w'.heap[b]?=some o
 rw [hx.bG b hlt fun hX=>hH (V.hX b hX)]
 exact hb
theorem ab.mono {P:Program}{f:FuncId}{args:Array Value}{V:View}{R R':Value->View->Prop}(h:ab P f args V R)
  (hR:∀r V',V.Le V'->R r V'->R' r V'):ab P f args V R':=
 ⟨h.1,h.2.mono fun _ w' ⟨r,he,hx,hr⟩=>⟨r,he,hx,hR r _ (V.Q6 w' hx) hr⟩⟩
structure Ey where
 ids:List Nat
 B:Nat->Prop
section
variable (n:Nat) (V0:View) (bC:Ey) (β0:Nat->Nat)
structure Mod (st:St) (β:Nat->Nat) (a:Act) (w:World) (V:View):Prop where
 defers:a.defers=[]
 size:a.tmps.size=n
 au:∀t x,st.au t=some x->a.tmps.getD t undef=x.den β
 yP:∀t x,st.au t=some x->∀s∈x.ids,∃b,st.boxes s=some b
 yO:∀s b,st.boxes s=some b->∀s'∈b.cs.ids,∃b',st.boxes s'=some b'
 boxes:∀s b,st.boxes s=some b->b.live->w.heap[β s]?=some (b.obj β)
 inj:∀s s' b b',st.boxes s=some b->b.live->st.boxes s'=some b'->b'.live->β s=β s'->s=s'
 oR:∀b o,V.bG b o->w.heap[b]?=some o/\¬V0.H b
 tW:∀s b,st.boxes s=some b->b.live->∀o,¬V.bG (β s) o
 ext:eM V0.X V0.w w
 own:∀s b,st.boxes s=some b->b.live->V0.w.heap.size<=β s\/(100000<=s/\bC.B (β s))
 lJ:∀s∈bC.ids,(100000<=s/\s<200000)/\β s=β0 s
 kb:∀b,bC.B b->V0.X b
 small:n<=100000
end
theorem cL {cs:List C}{ty:TypeId}:aQ.live ⟨.lit cs,ty⟩:=fun _ h=>nomatch h
theorem cd {vs:List Value}{ty:TypeId}:aQ.live ⟨.row vs,ty⟩:=fun _ h=>nomatch h
theorem fw {vs:List Value}{ty:TypeId}(h:vs≠[]):aQ.live ⟨.a_ vs,ty⟩:=fun _ e=>by cases e;exact h
theorem fS {ty:TypeId}:¬aQ.live ⟨.a_ [],ty⟩:=fun h=>h [] rfl rfl
theorem fe {b:aQ}{k:Prop}:pG (IL b) k↔(b.live->k):=by
 obtain ⟨cs,ty⟩:=b
 cases cs with
 | lit cs=>exact ⟨fun h _=>h,fun h=>h cL⟩
 | row cs=>exact ⟨fun h _=>h,fun h=>h cd⟩
 | a_ vs=>exact ⟨fun h l=>h (l vs rfl),fun h l=>h (fw l)⟩
theorem rX {l m:List Prop}{k:Prop}:pG (l++m) k↔pG l (pG m k):=by
 induction l with
 | nil=>exact Iff.rfl
 | cons p r ih=>exact ⟨fun h hp=>ih.1 (h hp),fun h hp=>ih.2 (h hp)⟩
theorem LU {b:aQ}:TS b↔b.live:=by
 obtain ⟨cs,ty⟩:=b
 cases cs with
 | lit cs=>exact ⟨fun _=>cL,fun _=>trivial⟩
 | row cs=>exact ⟨fun _=>cd,fun _=>trivial⟩
 | a_ vs=>exact ⟨fun h=>fw h,fun l=>l vs rfl⟩
theorem C.bL {β β':Nat->Nat}{c:C}(h:∀s∈c.ids,β s=β' s):c.den β=c.den β':=by
 cases c with
 | v x=>rfl
 | w x=>rfl
 | tt=>rfl
 | ff=>rfl
 | ptr s o=>simp [C.den,h s (by simp [C.ids])]
 | lR s o n c=>simp [C.den,h s (by simp [C.ids])]
 | jY s n c=>simp [C.den,h s (by simp [C.ids])]
 | CC f ss=>
  have:(ss.map fun s=>Value.pointer (some ⟨β s,0,none⟩))=ss.map fun s=>Value.pointer (some ⟨β' s,0,none⟩):=
   List.map_congr_left fun s hs=>by rw [h s (by simpa [C.ids] using hs)]
  simp only [C.den,this]
theorem kR {β β':Nat->Nat}{cs:List C}(h:∀s∈cs.flatMap C.ids,β s=β' s):cs.map (C.den β)=cs.map (C.den β'):=
 List.map_congr_left fun c hc=>C.bL fun s hs=>h s (List.mem_flatMap.2 ⟨c,hc,hs⟩)
theorem xO {β β':Nat->Nat}{x:Bool×List C}(h:∀s∈x.2.flatMap C.ids,β s=β' s):im β x=im β' x:=by
 obtain ⟨b,cs⟩:=x
 cases b with
 | true=>simp only [im];rw [kR h]
 | false=>
  match cs,h with
  | [],_=>rfl
  | [c],h=>simp only [im];exact C.bL fun s hs=>h s (by simpa using hs)
  | _::_::_,_=>rfl
theorem SV.bL {β β':Nat->Nat}{x:SV}(h:∀s∈x.ids,β s=β' s):x.den β=x.den β':=by
 cases x with
 | c x=>exact C.bL h
 | agg cs=>simp only [SV.den];rw [kR h]
 | oQ xs=>
  simp only [SV.den]
  congr 2
  exact List.map_congr_left fun x hx=>xO fun s hs=>h s (List.mem_flatMap.2 ⟨x,hx,hs⟩)
theorem Cells.bL {β β':Nat->Nat}{x:Cells}(h:∀s∈x.ids,β s=β' s):x.den β=x.den β':=by
 cases x with
 | lit cs=>exact kR h
 | row vs=>rfl
 | a_ vs=>rfl
theorem aQ.di {β β':Nat->Nat}{x:aQ}(h:∀s∈x.cs.ids,β s=β' s):x.obj β=x.obj β':=by
 simp only [aQ.obj];rw [Cells.bL h]
variable {P:Program} {T:cV} {n:Nat} {V0:View} {bC:Ey} {β0:Nat->Nat} {st:St} {β:Nat->Nat} {a:Act} {w:World} {V:View}
theorem Mod.eval (h:Mod n V0 bC β0 st β a w V){x:Operand}{v:SV}(hx:st.aY x=some v):a.eval x=v.den β:=by
 cases x with
 | tmp t=>exact h.au t v hx
 | const c=>
  simp only [St.aY,Option.some.injEq] at hx
  subst hx
  simp only [Act.eval]
  unfold SV.ofConst
  split
  ·rfl
  ·rfl
  ·rename_i cs
   simp only [SV.den]
   congr 1
   have:∀l:List Value,(l.map C.ofConst).map (C.den β)=l:=by
    intro l
    induction l with
    | nil=>rfl
    | cons y r ih=>
     simp only [List.map_cons,ih]
     congr 1
     unfold C.ofConst
     split<;>rfl
   rw [this]
  ·rfl
 | global g=>simp only [St.aY,Option.some.injEq] at hx;subst hx;rfl
 | func f=>simp only [St.aY,Option.some.injEq] at hx;subst hx;simp [Act.eval,SV.den,C.den]
theorem Mod.live (h:Mod n V0 bC β0 st β a w V){x:Operand}{v:SV}(hx:st.aY x=some v):∀s∈v.ids,∃b,st.boxes s=some b:=by
 cases x with
 | tmp t=>exact h.yP t v hx
 | const c=>
  simp only [St.aY,Option.some.injEq] at hx
  subst hx
  intro s hs
  exfalso
  have h1:∀y,(C.ofConst y).ids=[]:=by
   intro y
   unfold C.ofConst
   split<;>rfl
  unfold SV.ofConst at hs
  split at hs
  ·simp [SV.ids,C.ids] at hs
  ·simp [SV.ids,C.ids] at hs
  ·obtain ⟨c,hc,hs⟩:=List.mem_flatMap.1 hs
   obtain ⟨y,_,rfl⟩:=List.mem_map.1 hc
   rw [h1] at hs;cases hs
  ·simp [SV.ids,C.ids] at hs
 | global g=>simp only [St.aY,Option.some.injEq] at hx;subst hx;intro s hs;simp [SV.ids,C.ids] at hs
 | func f=>simp only [St.aY,Option.some.injEq] at hx;subst hx;intro s hs;simp [SV.ids,C.ids] at hs
theorem beq_eq {a b:Nat}:Nat.beq a b=true↔a=b:=by
 constructor
 ·exact Nat.eq_of_beq_eq_true
 ·intro h;subst h;exact Nat.beq_refl a
theorem dk (st:St)(d:Nat)(x:SV)(t:Nat):(st.put (some d) x).au t=if t=d then some x else st.au t:=by
 simp only [St.put]
 by_cases h:t=d
 ·subst h;simp [Nat.beq_refl]
 ·have:Nat.beq t d=false:=by
   cases hb:Nat.beq t d
   ·rfl
   ·exact absurd (beq_eq.1 hb) h
  simp [this,h]
theorem ai (st:St)(s:Nat)(b:aQ)(t:Nat):(st.box s b).boxes t=if t=s then some b else st.boxes t:=by
 simp only [St.box]
 by_cases h:t=s
 ·subst h;simp [Nat.beq_refl]
 ·have:Nat.beq t s=false:=by
   cases hb:Nat.beq t s
   ·rfl
   ·exact absurd (beq_eq.1 hb) h
  simp [this,h]
theorem pB (l:Array Value)(d t:Nat)(v:Value)(hd:d<l.size):(l.setIfInBounds d v).getD t undef=if t=d then v else l.getD t undef:=by
 by_cases h:t=d
 ·subst h;simp [hd]
 ·simp [h,Ne.symm h]
theorem Mod.put (h:Mod n V0 bC β0 st β a w V){d:Nat}{x:SV}{v:Value}(hd:d<n)(hv:v=x.den β)(hl:∀s∈x.ids,∃b,st.boxes s=some b) :
  Mod n V0 bC β0 (st.put (some d) x) β (a.put (some d) v) w V where
 defers:=h.defers
 size:=by simp [Act.put,h.size]
 au:=by
  intro t y hy
  rw [dk] at hy
  show (a.tmps.setIfInBounds d v).getD t undef=_
  rw [pB _ _ _ _ (by rw [h.size];exact hd)]
  split at hy
  ·rename_i e;rw [if_pos e];simp only [Option.some.injEq] at hy;rw [←hy];exact hv
  ·rename_i e;rw [if_neg e];exact h.au t y hy
 yP:=by
  intro t y hy
  rw [dk] at hy
  split at hy
  ·simp only [Option.some.injEq] at hy;rw [←hy];exact hl
  ·exact h.yP t y hy
 yO:=h.yO
 boxes:=h.boxes
 inj:=h.inj
 oR:=h.oR
 tW:=h.tW
 ext:=h.ext
 own:=h.own
 lJ:=h.lJ
 kb:=h.kb
 small:=h.small
theorem Mod.Fx (h:Mod n V0 bC β0 st β a w V){d:Option Nat}{x:SV}{v:Value}(hd:∀k,d=some k->k<n)(hv:v=x.den β)(hl:∀s∈x.ids,∃b,st.boxes s=some b) :
  Mod n V0 bC β0 (st.put d x) β (a.put d v) w V:=by
 cases d with
 | none=>exact h
 | some d=>exact h.put (hd d rfl) hv hl
theorem Mod.drew (h:Mod n V0 bC β0 st β a w V):Mod n V0 bC β0 st β a { w with drawn:=w.drawn+1 } V:=
 ⟨h.defers,h.size,h.au,h.yP,h.yO,h.boxes,h.inj,h.oR,h.tW,⟨h.ext.size,h.ext.bG,h.ext.os,h.ext.tape,h.ext.out⟩,h.own,h.lJ,h.kb,h.small⟩
theorem aE {w:World}{b:Nat}{o:Obj}(h:w.heap[b]?=some o):b<w.heap.size:=by
 rcases Nat.lt_or_ge b w.heap.size with h'|h'
 ·exact h'
 ·rw [Array.getElem?_eq_none h'] at h;cases h
theorem bT (w:World)(o:Obj){b:Nat}(h:b<w.heap.size):(w.alloc o).heap[b]?=w.heap[b]?:=by
 show (w.heap.push o)[b]?=_
 rw [Array.getElem?_push,if_neg (by omega)]
theorem heap_alloc_new (w:World)(o:Obj):(w.alloc o).heap[w.heap.size]?=some o:=by
 show (w.heap.push o)[w.heap.size]?=_
 rw [Array.getElem?_push,if_pos rfl]
theorem aP (β:Nat->Nat)(s b:Nat):fV β s b s=b:=by simp [fV,Nat.beq_refl]
theorem fW (β:Nat->Nat){s t:Nat}(b:Nat)(h:t≠s):fV β s b t=β t:=by
 have:Nat.beq t s=false:=by
  cases hb:Nat.beq t s
  ·rfl
  ·exact absurd (beq_eq.1 hb) h
 simp [fV,this]
theorem Mod.new (h:Mod n V0 bC β0 st β a w V){d:Nat}{b:aQ}(hd:d<n)(hn:st.boxes d=none)(hl:∀s∈b.cs.ids,∃b',st.boxes s=some b') :
  Mod n V0 bC β0 (st.box d b) (fV β d w.heap.size) a (w.alloc (b.obj β)) V:=by
 have hne:∀s b',st.boxes s=some b'->s≠d:=fun s b' hs e=>by rw [e,hn] at hs;cases hs
 have hβ:∀s b',st.boxes s=some b'->fV β d w.heap.size s=β s:=fun s b' hs=>fW _ _ (hne s b' hs)
 have hlt:∀s b',st.boxes s=some b'->b'.live->β s<w.heap.size:=fun s b' hs l=>aE (h.boxes s b' hs l)
 have hV:∀b' o,V.bG b' o->b'<w.heap.size:=fun b' o hb=>aE (h.oR b' o hb).1
 refine ⟨h.defers,h.size,?_,?_,?_,?_,?_,?_,?_,?_,?_,?_,h.kb,?_⟩
 ·intro t x hx
  rw [h.au t x hx]
  exact SV.bL fun s hs=>by obtain ⟨b',hb'⟩:=h.yP t x hx s hs;exact (hβ s b' hb').symm
 ·intro t x hx s hs
  obtain ⟨b',hb'⟩:=h.yP t x hx s hs
  exact ⟨b',by rw [ai,if_neg (hne s b' hb')];exact hb'⟩
 ·intro s b' hs s' hs'
  rw [ai] at hs
  have:∃b'',st.boxes s'=some b'':=by
   split at hs
   ·simp only [Option.some.injEq] at hs;rw [←hs] at hs';exact hl s' hs'
   ·exact h.yO s b' hs s' hs'
  obtain ⟨b'',kj⟩:=this
  exact ⟨b'',by rw [ai,if_neg (hne s' b'' kj)];exact kj⟩
 ·intro s b' hs l
  rw [ai] at hs
  split at hs
  ·rename_i e
   simp only [Option.some.injEq] at hs
   rw [e,aP,heap_alloc_new,←hs]
   congr 1
   exact aQ.di fun s' hs'=>by obtain ⟨b'',kj⟩:=hl s' hs';exact (hβ s' b'' kj).symm
  ·rw [hβ s b' hs,bT _ _ (hlt s b' hs l),h.boxes s b' hs l]
   congr 1
   exact aQ.di fun s' hs'=>by obtain ⟨b'',kj⟩:=h.yO s b' hs s' hs';exact (hβ s' b'' kj).symm
 ·intro s s' b1 b2 h1 l1 h2 l2 he
  rw [ai] at h1 h2
  split at h1<;>split at h2
  ·rename_i e1 e2;rw [e1,e2]
  ·rename_i e1 e2;rw [e1,aP,hβ s' b2 h2] at he;have:=hlt s' b2 h2 l2;omega
  ·rename_i e1 e2;rw [e2,aP,hβ s b1 h1] at he;have:=hlt s b1 h1 l1;omega
  ·rw [hβ s b1 h1,hβ s' b2 h2] at he;exact h.inj s s' b1 b2 h1 l1 h2 l2 he
 ·intro b' o hb
  obtain ⟨h1,h2⟩:=h.oR b' o hb
  exact ⟨by rw [bT _ _ (hV b' o hb)];exact h1,h2⟩
 ·intro s b' hs l o ho
  rw [ai] at hs
  split at hs
  ·rename_i e;rw [e,aP] at ho;have:=hV _ o ho;omega
  ·rw [hβ s b' hs] at ho;exact h.tW s b' hs l o ho
 ·exact h.ext.trans ⟨by simp,fun i hi _=>bT _ _ hi,rfl,rfl,rfl⟩
 ·intro s b' hs l
  rw [ai] at hs
  split at hs
  ·rename_i e;rw [e,aP];exact .inl h.ext.size
  ·rw [hβ s b' hs];exact h.own s b' hs l
 ·intro s hs
  obtain ⟨h1,h2⟩:=h.lJ s hs
  exact ⟨h1,by rw [fW _ _ (by have:=h.small;omega)];exact h2⟩
 ·exact h.small
theorem Mod.void (h:Mod n V0 bC β0 st β a w V){s:Nat}{ty:TypeId}:Mod n V0 bC β0 (st.box s ⟨.a_ [],ty⟩) β a w V:=by
 have hw:∀t b',st.boxes t=some b'->∃b'',(st.box s ⟨.a_ [],ty⟩).boxes t=some b'':=by
  intro t b' ht
  rw [ai]
  split
  ·exact ⟨_,rfl⟩
  ·exact ⟨b',ht⟩
 have hb:∀t b',(st.box s ⟨.a_ [],ty⟩).boxes t=some b'->b'.live->st.boxes t=some b':=by
  intro t b' ht l
  rw [ai] at ht
  split at ht
  ·cases ht;exact absurd l fS
  ·exact ht
 refine ⟨h.defers,h.size,h.au,?_,?_,fun t b' ht l=>h.boxes t b' (hb t b' ht l) l,fun t t' b1 b2 h1 l1 h2 l2=>h.inj t t' b1 b2 (hb _ _ h1 l1) l1 (hb _ _ h2 l2) l2,h.oR,fun t b' ht l=>h.tW t b' (hb t b' ht l) l,h.ext,fun t b' ht l=>h.own t b' (hb t b' ht l) l,h.lJ,h.kb,h.small⟩
 ·intro t x hx s' hs'
  obtain ⟨b',hb'⟩:=h.yP t x hx s' hs'
  exact hw s' b' hb'
 ·intro t b' ht s' hs'
  have:∃b'',st.boxes s'=some b'':=by
   rw [ai] at ht
   split at ht
   ·cases ht;cases hs'
   ·exact h.yO t b' ht s' hs'
  obtain ⟨b'',kj⟩:=this
  exact hw s' b'' kj
theorem Mod.sW (h:Mod n V0 bC β0 st β a w V){s:Nat}{b b':aQ}(hs:st.boxes s=some b)(lb:b.live)(hl:∀s'∈b'.cs.ids,∃b'',st.boxes s'=some b'')
  {w':World}(hw:w'.heap=w.heap.setIfInBounds (β s) (b'.obj β))(ho:w'.os=w.os)(ht:w'.tape=w.tape)(hout:w'.output=w.output) :
  Mod n V0 bC β0 (st.box s b') β a w' V:=by
 have hlt:=aE (h.boxes s b hs lb)
 have hg:∀i,w'.heap[i]?=if i=β s then some (b'.obj β) else w.heap[i]?:=by
  intro i
  rw [hw,Array.getElem?_setIfInBounds]
  by_cases e:β s=i
  ·rw [if_pos e,if_pos (by omega),if_pos e.symm]
  ·rw [if_neg e,if_neg (Ne.symm e)]
 refine ⟨h.defers,h.size,h.au,?_,?_,?_,?_,?_,?_,?_,?_,h.lJ,h.kb,h.small⟩
 ·intro t x hx s' hs'
  obtain ⟨b1,hb1⟩:=h.yP t x hx s' hs'
  rw [ai]
  split
  ·exact ⟨_,rfl⟩
  ·exact ⟨b1,hb1⟩
 ·intro t b1 hb1 s' hs'
  have:∃b'',st.boxes s'=some b'':=by
   rw [ai] at hb1
   split at hb1
   ·simp only [Option.some.injEq] at hb1;rw [←hb1] at hs';exact hl s' hs'
   ·exact h.yO t b1 hb1 s' hs'
  rw [ai]
  split
  ·exact ⟨_,rfl⟩
  ·exact this
 ·intro t b1 hb1 l1
  rw [ai] at hb1
  rw [hg]
  split at hb1
  ·rename_i e;simp only [Option.some.injEq] at hb1;rw [e,if_pos rfl,hb1]
  ·rename_i e
   rw [if_neg fun he=>e (h.inj t s b1 b hb1 l1 hs lb he)]
   exact h.boxes t b1 hb1 l1
 ·intro t t' b1 b2 h1 l1 h2 l2 he
  have f:∀t b1,(st.box s b').boxes t=some b1->b1.live->∃b2,st.boxes t=some b2/\b2.live:=by
   intro t b1 h1 l1
   rw [ai] at h1
   split at h1
   ·rename_i e;rw [e];exact ⟨b,hs,lb⟩
   ·exact ⟨b1,h1,l1⟩
  obtain ⟨c1,hc1,m1⟩:=f t b1 h1 l1
  obtain ⟨c2,hc2,m2⟩:=f t' b2 h2 l2
  exact h.inj t t' c1 c2 hc1 m1 hc2 m2 he
 ·intro b1 o hb
  obtain ⟨h1,h2⟩:=h.oR b1 o hb
  refine ⟨?_,h2⟩
  rw [hg,if_neg]
  ·exact h1
  ·intro e;rw [e] at hb;exact h.tW s b hs lb o hb
 ·intro t b1 hb1 l1 o
  rw [ai] at hb1
  split at hb1
  ·rename_i e;rw [e];exact h.tW s b hs lb o
  ·exact h.tW t b1 hb1 l1 o
 ·refine ⟨by rw [hw];simpa using h.ext.size,fun i hi hX=>?_,ho.trans h.ext.os,ht.trans h.ext.tape,hout.trans h.ext.out⟩
  rw [hg]
  split
  ·rename_i e
   exfalso
   rcases h.own s b hs lb with h1|h1
   ·omega
   ·exact hX (e▸h.kb _ h1.2)
  ·exact h.ext.bG i hi hX
 ·intro t b1 hb1 l1
  rw [ai] at hb1
  split at hb1
  ·rename_i e;rw [e];exact h.own s b hs lb
  ·exact h.own t b1 hb1 l1
end Go.bE
namespace Go.bE
variable {P:Program} {T:cV} {n:Nat} {V0:View} {bC:Ey} {β0:Nat->Nat} {st:St} {β:Nat->Nat} {a:Act} {w:World} {V:View}
theorem dE:∀(sc:List Prop)(k:Prop),Aq sc k↔(∀p∈sc,p)/\k
 | [],k=>by simp [Aq]
 | p::r,k=>by
  simp only [Aq,dE r k,List.mem_cons]
  constructor
  ·rintro ⟨h1,h2,h3⟩
   exact ⟨fun q hq=>by rcases hq with rfl|hq;exact h1;exact h2 q hq,h3⟩
  ·rintro ⟨h1,h2⟩
   exact ⟨h1 p (.inl rfl),fun q hq=>h1 q (.inr hq),h2⟩
theorem aF {t:TypeId}{i:TI}(h:kq P t=some i):∃info d z,P.info? t=some info/\P.underlying t=some d/\info.zero=some z/\i.k=jT d/\i.size=info.size/\i.bytes=info.bytes/\i.zero=z.cells.toList.map C.ofConst:=by
 unfold kq at h
 split at h
 ·rename_i info d h1 h2
  split at h
  ·rename_i z hz
   simp only [Option.some.injEq] at h
   subst h
   exact ⟨info,d,z,h1,h2,hz,rfl,rfl,rfl,rfl⟩
  ·cases h
 ·cases h
theorem CI (β:Nat->Nat)(y:Value):(C.ofConst y).den β=y:=by
 unfold C.ofConst;split<;>rfl
theorem Df (β:Nat->Nat)(l:List Value):(l.map C.ofConst).map (C.den β)=l:=by
 induction l with
 | nil=>rfl
 | cons y r ih=>simp only [List.map_cons,CI,ih]
theorem CW (y:Value):(C.ofConst y).ids=[]:=by unfold C.ofConst;split<;>rfl
theorem A9 (l:List Value):(l.map C.ofConst).flatMap C.ids=[]:=by
 induction l with
 | nil=>rfl
 | cons y r ih=>simp [CW]
theorem aj {t:TypeId}{d:TypeDesc}(h:P.underlying t=some d)(w:World):(underlying t).run P w=.ok d w:=by simp [underlying,h]
theorem jP {t:TypeId}{i:TypeInfo}(h:P.info? t=some i)(w:World):(typeInfo t).run P w=.ok i w:=by simp [typeInfo,h]
theorem aL {t:TypeId}{i:TypeInfo}(h:P.info? t=some i)(w:World):(sizeOf t).run P w=.ok i.size w:=by simp [sizeOf,jP h]
theorem iI {t:TypeId}{i:TypeInfo}{z:Value}(h:P.info? t=some i)(hz:i.zero=some z)(w:World):(zeroValue t).run P w=.ok z w:=by
 simp [zeroValue,jP h,hz]
def qw:TK->Bool
 | .struct _|.arr _ _=>true
 | _=>false
theorem gI {t:TypeId}{d:TypeDesc}(h:P.underlying t=some d)(w:World):(isAgg t).run P w=.ok (qw (jT d)) w:=by
 simp only [isAgg,Sem.run_bind,aj h,Result.andThen_ok]
 cases d<;>rfl
def Live (st:St)(x:SV):Prop:=∀s∈x.ids,∃b,st.boxes s=some b
theorem zU {k k':IntKind}(h:vC k k'=true):k=k':=by cases k<;>cases k'<;>simp_all [vC]
theorem Fi {op:BinOp}{k:IntKind}{x y:Int}{sc:List Prop}{v:SV}{xt:TypeId}(h:mi op k x y=.ret sc v)(hsc:∀p∈sc,p) :
  (binOp op xt (.int k x) (.int k y)).run P w=.ok (v.den β) w/\v.ids=[]:=by
 cases op<;>simp only [mi,Q.ret.injEq] at h<;>obtain ⟨rfl,rfl⟩:=h <;>
  simp only [List.mem_cons,List.not_mem_nil,or_false,forall_eq,false_imp_iff,implies_true] at hsc <;>
  refine ⟨?_,rfl⟩ <;>
  simp [binOp,Op.intArith,Op.intDiv,Op.intBits,Op.intCmp,Op.shift,SV.den,C.den,bz,hsc]
 all_goals (try (intro h;omega))
theorem Ak {op:BinOp}{k k':IntKind}{x y:Int}{sc:List Prop}{v:SV}{xt:TypeId}(hop:op=.shl\/op=.shr)(h:mi op k x y=.ret sc v)(hsc:∀p∈sc,p) :
  (binOp op xt (.int k x) (.int k' y)).run P w=.ok (v.den β) w/\v.ids=[]:=by
 rcases hop with rfl|rfl<;>simp only [mi,Q.ret.injEq] at h<;>obtain ⟨rfl,rfl⟩:=h <;>
  simp only [List.mem_cons,List.not_mem_nil,or_false,forall_eq] at hsc <;>
  refine ⟨?_,rfl⟩ <;>
  simp [binOp,Op.shift,SV.den,C.den]<;>(intro h;omega)
section eqs
variable {t:TypeId} (d:Nat)
theorem HR (h:P.underlying t=some .bool)(x y:Bool):(Op.equalIn (d+1) t (.bool x) (.bool y)).run P w=.ok (x==y) w:=by
 simp [Op.equalIn,aj h]
theorem zL {e:TypeId}(h:P.underlying t=some (.pointer e))(p:OA):(Op.equalIn (d+1) t (.pointer p) (.pointer none)).run P w=.ok p.isNone w:=by
 cases p<;>simp [Op.equalIn,aj h]
theorem oe {e:TypeId}(h:P.underlying t=some (.slice e))(p:OA)(n c m k:Nat):(Op.equalIn (d+1) t (.slice p n c) (.slice none m k)).run P w=.ok p.isNone w:=by
 cases p<;>simp [Op.equalIn,aj h]
theorem vf {ms:Array (String×TypeId)}(h:P.underlying t=some (.interface ms)){x:Value}(hx:IsIface x):(Op.equalIn (d+1) t x .nilIface).run P w=.ok (cF x) w:=by
 rcases hx with rfl|⟨u,v,rfl⟩<;>simp [Op.equalIn,aj h,cF]
end eqs
theorem jE {t:TypeId}{x y:Value}{r:Bool}(h:∀d,(Op.equalIn (d+1) t x y).run P w=.ok r w):(Op.equal t x y).run P w=.ok r w:=h 9999
theorem Cj {op:BinOp}{xt:TypeId}{x y:Bool}(ht:P.underlying xt=some .bool)(hop:op=.eql\/op=.neq) :
  (binOp op xt (.bool x) (.bool y)).run P w=.ok (.bool (if op=.eql then x==y else !(x==y))) w:=by
 have:=jE (w:=w) fun d=>HR d ht x y
 rcases hop with rfl|rfl<;>simp only [binOp,Sem.run_bind,this,Result.andThen_ok,Sem.run_pure]<;>rfl
theorem zf {c:C}{b:Bool}(h:c.bool?=some b):c.den β=.bool b/\c.ids=[]:=by
 cases c with
 | v x=>cases x<;>simp_all [C.bool?,C.den,C.ids]
 | _=>simp_all [C.bool?,C.den,C.ids]
theorem CK {d:TypeDesc}{k:IntKind}(h:jT d=.int k):d=.int k:=by cases d<;>simp_all [jT]
theorem AU {d:TypeDesc}(h:jT d=.bool):d=.bool:=by cases d<;>simp_all [jT]
theorem CL {d:TypeDesc}{e:TypeId}(h:jT d=.ptr e):d=.pointer e:=by cases d<;>simp_all [jT]
theorem aS {d:TypeDesc}{e:TypeId}(h:jT d=.slice e):d=.slice e:=by cases d<;>simp_all [jT]
theorem xP {d:TypeDesc}(h:jT d=.iface):∃ms,d=.interface ms:=by cases d<;>simp_all [jT]
theorem iS {d:TypeDesc}{fs:List (TypeId×Nat)}(h:jT d=.struct fs):∃gs,d=.struct gs/\fs=gs.toList.map fun f=>(f.type,f.offset):=by
 cases d<;>simp_all [jT]
theorem me {d:TypeDesc}{m:Nat}{e:TypeId}(h:jT d=.arr m e):d=.array m e:=by cases d<;>simp_all [jT]
theorem iL {t:TypeId}{x y:Value}{r:Bool}(neg:Bool)(h:(Op.equal t x y).run P w=.ok r w)
  (hx:(∃p,x=.pointer p/\y=.pointer none)\/(∃p n c m k,x=.slice p n c/\y=.slice none m k)\/(IsIface x/\y=.nilIface)) :
  (binOp (if neg then .neq else .eql) t x y).run P w=.ok (.bool (if neg then !r else r)) w:=by
 rcases hx with ⟨p,rfl,rfl⟩|⟨p,n,c,m,k,rfl,rfl⟩|⟨hx,rfl⟩
 ·cases p<;>cases neg<;>simp only [Bool.false_eq_true,if_false,if_true,binOp,Sem.run_bind,h,Result.andThen_ok,Sem.run_pure]
 ·cases neg<;>simp only [Bool.false_eq_true,if_false,if_true,binOp,Sem.run_bind,h,Result.andThen_ok,Sem.run_pure]
 ·rcases hx with rfl|⟨u,v,rfl⟩<;>cases neg<;>simp only [Bool.false_eq_true,if_false,if_true,binOp,Sem.run_bind,h,Result.andThen_ok,Sem.run_pure]
theorem og {op:BinOp}{t:TypeId}{x y:Operand}{u v:Value}(h:(∃p,u=.pointer p)\/(∃p n c,u=.slice p n c)\/(∃k n,u=.int k n)\/(∃b,u=.bool b)\/∃c,y=.const c)(hn:v=.nilIface->∃c,y=.const c)(hu:∀cs,u≠.agg cs) :
  (eqGuard op t x y u v).run P w=.ok () w:=by
 have key:∀(m:Sem Unit),m=(match (generalizing:=false) u,v with
   | .nilIface,.nilIface=>do
    if (match (generalizing:=false) x with|.const _=>true|_=>false)||(match (generalizing:=false) y with|.const _=>true|_=>false) then return
    if ← Op.eqGuardIn Op.maxDepth t u v then unsupported (.noEntry "binop/eql: two nil values of an interface type with methods, neither of them the literal nil")
   | .agg _,.agg _=>do
    if !(←program).eqGuardType (←program).depth t then return
    if ← Op.eqGuardIn Op.maxDepth t u v then unsupported (.noEntry "binop/eql: two nil values of an interface type with methods, in a part of a struct or an array")
   | _,_=>pure ())->m.run P w=.ok () w:=by
  intro m hm
  rw [hm]
  clear hm
  revert hn hu
  split
  ·intro hn _;obtain ⟨c,rfl⟩:=hn rfl;simp
  ·rename_i cs _;intro _ hu;exact absurd rfl (hu cs)
  ·intro _ _;rfl
 cases op<;>first|rfl|exact key _ rfl
theorem Ku {xt:TypeId}{i:TI}(hi:kq P xt=some i){x y:C}(neg:Bool){sc:List Prop}{v:SV}
  (h:Bw neg i.k x y=.ret sc v)(hsc:∀p∈sc,p) :
  (binOp (if neg then .neq else .eql) xt (x.den β) (y.den β)).run P w=.ok (v.den β) w/\v.ids=[] /\
  ((∃p,x.den β=.pointer p)\/(∃p n c,x.den β=.slice p n c)\/y.den β=.nilIface)/\(y.den β=.nilIface->y=.v .nilIface)/\(∀cs,x.den β≠.agg cs):=by
 obtain ⟨info,d,z,h1,h2,h3,h4,-⟩:=aF hi
 unfold Bw at h
 split at h
 ·rename_i e hk
  rw [h4] at hk
  obtain rfl:=CL hk
  split at h
  ·split at h
   ·simp only [Q.ret.injEq] at h;obtain ⟨rfl,rfl⟩:=h
    refine ⟨?_,by cases neg<;>rfl,.inl ⟨_,rfl⟩,by simp [C.den],by simp [C.den]⟩
    rename_i s o
    have:=iL (w:=w) neg (jE fun d=>zL d h2 (some ⟨β s,o,none⟩)) (.inl ⟨_,rfl,rfl⟩)
    cases neg<;>exact this
   ·simp only [Q.ret.injEq] at h;obtain ⟨rfl,rfl⟩:=h
    refine ⟨?_,rfl,.inl ⟨_,rfl⟩,by simp [C.den],by simp [C.den]⟩
    exact iL (w:=w) neg (jE fun d=>zL d h2 _) (.inl ⟨_,rfl,rfl⟩)
   ·cases h
  ·cases h
 ·rename_i e hk
  rw [h4] at hk
  obtain rfl:=aS hk
  split at h
  ·split at h
   ·simp only [Q.ret.injEq] at h;obtain ⟨rfl,rfl⟩:=h
    refine ⟨?_,by cases neg<;>rfl,.inr (.inl ⟨_,_,_,rfl⟩),by simp [C.den],by simp [C.den]⟩
    rename_i m k _ s o n c
    have:=iL (w:=w) neg (jE fun d=>oe d h2 (some ⟨β s,o,none⟩) n c m k) (.inr (.inl ⟨_,_,_,_,_,rfl,rfl⟩))
    cases neg<;>exact this
   ·simp only [Q.ret.injEq] at h;obtain ⟨rfl,rfl⟩:=h
    refine ⟨?_,rfl,.inr (.inl ⟨_,_,_,rfl⟩),by simp [C.den],by simp [C.den]⟩
    rename_i m k _ s n c
    have:=iL (w:=w) neg (jE fun d=>oe d h2 (mA (β s) c) n c m k) (.inr (.inl ⟨_,_,_,_,_,rfl,rfl⟩))
    have e:(mA (β s) c).isNone=Nat.beq c 0:=by cases c<;>rfl
    rw [e] at this
    exact this
   ·simp only [Q.ret.injEq] at h;obtain ⟨rfl,rfl⟩:=h
    refine ⟨?_,rfl,.inr (.inl ⟨_,_,_,rfl⟩),by simp [C.den],by simp [C.den]⟩
    exact iL (w:=w) neg (jE fun d=>oe d h2 _ _ _ _ _) (.inr (.inl ⟨_,_,_,_,_,rfl,rfl⟩))
   ·cases h
  ·cases h
 ·rename_i hk
  rw [h4] at hk
  obtain ⟨ms,rfl⟩:=xP hk
  split at h
  ·split at h
   ·simp only [Q.ret.injEq] at h;obtain ⟨rfl,rfl⟩:=h
    have hx:=hsc _ (List.mem_singleton.2 rfl)
    refine ⟨?_,rfl,.inr (.inr rfl),fun _=>rfl,?_⟩
    ·exact iL (w:=w) neg (jE fun d=>vf d h2 hx) (.inr (.inr ⟨hx,rfl⟩))
    ·intro cs e
     rcases hx with hx|⟨u,v,hx⟩<;>· simp only [C.den] at e;rw [hx] at e;cases e
   ·simp only [Q.ret.injEq] at h;obtain ⟨rfl,rfl⟩:=h
    refine ⟨?_,by cases neg<;>rfl,.inr (.inr rfl),fun _=>rfl,by simp [C.den]⟩
    have:=iL (w:=w) neg (jE fun d=>vf d h2 (x:=.nilIface) (.inl rfl)) (.inr (.inr ⟨.inl rfl,rfl⟩))
    cases neg<;>exact this
   ·cases h
  ·cases h
 ·cases h
theorem Ks (hT:cV.ok P T){op:BinOp}{xt:TypeId}{x y:C}{ox oy:Operand}{sc:List Prop}{v:SV}
  (h:Bu T op xt x y=.ret sc v)(hsc:∀p∈sc,p)(hy:y=.v .nilIface->∃c,oy=.const c) :
  (do eqGuard op xt ox oy (x.den β) (y.den β);binOp op xt (x.den β) (y.den β)).run P w=.ok (v.den β) w/\v.ids=[]:=by
 unfold Bu at h
 split at h
 ·rename_i i hi
  have hi:=hT _ _ hi
  obtain ⟨info,d,z,h1,h2,h3,h4,-⟩:=aF hi
  split at h
  ·split at h
   ·rename_i k a k' b
    have hg:(eqGuard op xt ox oy (C.den β (.v (.int k a))) (C.den β (.v (.int k' b)))).run P w=.ok () w:=
     og (.inr (.inr (.inl ⟨_,_,rfl⟩))) (by simp [C.den]) (by simp [C.den])
    have key:(binOp op xt (.int k a) (.int k' b)).run P w=.ok (v.den β) w/\v.ids=[]:=by
     split at h
     ·exact Ak (.inl rfl) h hsc
     ·exact Ak (.inr rfl) h hsc
     ·split at h
      ·rename_i e;obtain rfl:=zU e;exact Fi h hsc
      ·cases h
    simp only [Sem.run_bind,hg,Result.andThen_ok]
    exact key
   ·cases h
  ·rename_i hk
   rw [h4] at hk
   obtain rfl:=AU hk
   split at h
   ·rename_i a b ha hb
    have hx:=zf (β:=β) ha
    have hy:=zf (β:=β) hb
    have hg:(eqGuard op xt ox oy (x.den β) (y.den β)).run P w=.ok () w:=by
     rw [hx.1,hy.1]
     exact og (.inr (.inr (.inr (.inl ⟨_,rfl⟩)))) (by simp) (by simp)
    simp only [Sem.run_bind,hg,Result.andThen_ok]
    rw [hx.1,hy.1]
    split at h
    ·simp only [Q.ret.injEq] at h;obtain ⟨rfl,rfl⟩:=h
     exact ⟨Cj h2 (.inl rfl),rfl⟩
    ·simp only [Q.ret.injEq] at h;obtain ⟨rfl,rfl⟩:=h
     exact ⟨Cj h2 (.inr rfl),rfl⟩
    ·cases h
   ·cases h
  ·have key:∀neg:Bool,Bw neg i.k x y=.ret sc v->(do eqGuard (if neg then .neq else .eql) xt ox oy (x.den β) (y.den β);binOp (if neg then .neq else .eql) xt (x.den β) (y.den β)).run P w=.ok (v.den β) w/\v.ids=[]:=by
    intro neg h
    obtain ⟨k1,k2,k3,k4,k5⟩:=Ku (w:=w) (β:=β) hi neg h hsc
    have hg:(eqGuard (if neg then BinOp.neq else BinOp.eql) xt ox oy (x.den β) (y.den β)).run P w=.ok () w:=by
     refine og ?_ (fun e=>hy (k4 e)) k5
     rcases k3 with k3|k3|k3
     ·exact .inl k3
     ·exact .inr (.inl k3)
     ·exact .inr (.inr (.inr (.inr (hy (k4 k3)))))
    simp only [Sem.run_bind,hg,Result.andThen_ok]
    exact ⟨k1,k2⟩
   split at h
   ·exact key false h
   ·exact key true h
   ·cases h
 ·cases h
end Go.bE
