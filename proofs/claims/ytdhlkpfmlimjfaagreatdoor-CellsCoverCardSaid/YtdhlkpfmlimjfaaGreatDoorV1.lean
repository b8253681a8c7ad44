import Derived.WalkKit
import Derived.Deep.LoopGhost
import Derived.KernelRfl
set_option linter.unusedVariables false
open Go.IntKind (i64 u64 u32)
namespace Go.Eng
abbrev OA:=Option Addr
abbrev sm {α:Type}(a:α):Prop:=a=a
structure View where
 w:World
 H:Nat->Prop
 X:Nat->Prop
 hH:∀b,H b->b<w.heap.size
 hX:∀b,X b->H b
def View.aW (V:View)(b:Nat)(o:Obj):Prop:=¬V.H b/\V.w.heap[b]?=some o
def View.at (V:View)(p:Addr)(v:Value):Prop:=¬V.H p.block/\V.w.cell? p=some v
def View.Le (V V':View):Prop:=∀b o,V.aW b o->V'.aW b o
structure dP (X:Nat->Prop) (w w':World):Prop where
 size:w.heap.size<=w'.heap.size
 aW:∀b,b<w.heap.size->¬X b->w'.heap[b]?=w.heap[b]?
 os:w'.os=w.os
 tape:w'.tape=w.tape
 out:w'.output=w.output
def View.to (V:View)(w':World)(h:V.w.heap.size<=w'.heap.size):View:=⟨w',V.H,V.X,fun b hb=>Nat.lt_of_lt_of_le (V.hH b hb) h,V.hX⟩
def View.lend (V:View)(bs:List Nat):View:={ V with X:=fun b=>b∈bs/\V.H b,hX:=fun _ h=>h.2 }
def View.JL (V:View)(b:Nat):View:={ V with H:=fun x=>V.H x\/(x=b/\b<V.w.heap.size),hH:=fun x h=>h.elim (V.hH x) fun h=>h.1▸h.2,hX:=fun x h=>.inl (V.hX x h) }
def View.hideG (V:View)(p:Prop)(b:Nat):View:={ V with H:=fun x=>V.H x\/(p/\x=b/\b<V.w.heap.size),hH:=fun x h=>h.elim (V.hH x) fun h=>h.2.1▸h.2.2,hX:=fun x h=>.inl (V.hX x h) }
def View.shut (V:View):View:={ V with X:=fun _=>False,hX:=fun _ h=>h.elim }
def ju (P : Program)(f : FuncId) : Prop := ∃ fn, P.funcs[f]? = some fn ∧ fn.body.isNone = false ∧ (fn.name == "runtime.NumGoroutine") = false
def Acts (P:Program)(f:FuncId)(args:Array Value)(V:View)(R:Value->View->Prop):Prop:=
 ju P f/\Calls P f args V.w fun e w'=>∃r,e=.returned r/\∃hx:dP V.X V.w w',R r (V.to w' hx.size)
inductive C where
 | v (x:Value)|w (x:Value)|tt|ff
 | ptr (s o:Nat)
 | kK (s o n c:Nat)
 | fU (s n c:Nat)
 | A5 (f:FuncId) (ss:List Nat)
inductive SV where
 | c (x:C)|agg (cs:List C)|nT (xs:List (Bool×List C))
inductive Cells where
 | lit (cs:List C)|row (vs:List Value)|aK (vs:List Value)
structure aG where
 cs:Cells
 ty:TypeId
def aG.live (b:aG):Prop:=∀vs,b.cs=.aK vs->vs≠[]
def Gx (b:aG):List Prop:=
 match b.cs with
 | .aK vs=>[vs≠[]]
 | _=>[]
def Rg (b:aG):Prop:=
 match b.cs with
 | .aK vs=>vs≠[]
 | _=>True
def ou:List Prop->Prop->Prop
 | [],k=>k
 | p::r,k=>p->ou r k
def mA (b c:Nat):OA:=if c=0 then none else some ⟨b,0,none⟩
structure St where
 ao:Nat->Option SV
 boxes:Nat->Option aG
def C.den (β:Nat->Nat):C->Value
 | .v x=>x
 | .w x=>x
 | .tt=>.bool true
 | .ff=>.bool false
 | .ptr s o=>.pointer (some ⟨β s,o,none⟩)
 | .kK s o n c=>.slice (some ⟨β s,o,none⟩) n c
 | .fU s n c=>.slice (mA (β s) c) n c
 | .A5 f ss=>.func (.func f) #[] (ss.map fun s=>Value.pointer (some ⟨β s,0,none⟩)).toArray
def gy (β:Nat->Nat):Bool×List C->Value
 | (true,cs)=>.agg (cs.map (C.den β)).toArray
 | (false,[c])=>c.den β
 | (false,_)=>.tuple #[]
def pP:Bool×List C->Option SV
 | (true,cs)=>some (.agg cs)
 | (false,[c])=>some (.c c)
 | (false,_)=>none
def SV.den (β:Nat->Nat):SV->Value
 | .c x=>x.den β
 | .agg cs=>.agg (cs.map (C.den β)).toArray
 | .nT xs=>.tuple (xs.map (gy β)).toArray
def SV.cells:SV->List C
 | .c x=>[x]
 | .agg cs=>cs
 | .nT _=>[]
def Cells.den (β:Nat->Nat):Cells->List Value
 | .lit cs=>cs.map (C.den β)
 | .row vs=>vs
 | .aK vs=>vs
def aG.obj (β:Nat->Nat)(b:aG):Obj:=.cells (b.cs.den β).toArray b.ty (0,0)
def C.ids:C->List Nat
 | .ptr s _=>[s]
 | .kK s _ _ _=>[s]
 | .fU s _ _=>[s]
 | .A5 _ ss=>ss
 | _=>[]
def SV.ids:SV->List Nat
 | .c x=>x.ids
 | .agg cs=>cs.flatMap C.ids
 | .nT xs=>xs.flatMap fun x=>x.2.flatMap C.ids
def SV.uh:SV->Bool
 | .nT _=>true
 | _=>false
def dZ:C->List Prop
 | .v (.agg _)|.v (.tuple _)=>[False]
 | .w x=>[x.oneCell'=true]
 | _=>[]
def SV.dZ (x:SV):List Prop:=x.cells.flatMap Eng.dZ
def Cells.ids:Cells->List Nat
 | .lit cs=>cs.flatMap C.ids
 | .row _=>[]
 | .aK _=>[]
def St.put (st:St)(d:Option Nat)(x:SV):St:=
 match d with
 | none=>st
 | some d=>{ st with ao:=fun t=>cond (Nat.beq t d) (some x) (st.ao t) }
def St.box (st:St)(s:Nat)(b:aG):St:={ st with boxes:=fun t=>cond (Nat.beq t s) (some b) (st.boxes t) }
def C.ofConst:Value->C
 | .bool true=>.tt
 | .bool false=>.ff
 | x=>.v x
def SV.ofConst:Value->SV
 | .bool true=>.c .tt
 | .bool false=>.c .ff
 | .agg cs=>.agg (cs.toList.map C.ofConst)
 | x=>.c (.v x)
def St.aP (st:St):Operand->Option SV
 | .tmp t=>st.ao t
 | .const v=>some (.ofConst v)
 | .global g=>some (.c (.v (.pointer (some ⟨g,0,none⟩))))
 | .func f=>some (.c (.A5 f []))
inductive TK where
 | int (k:IntKind)|bool|str|ptr (e:TypeId)|slice (e:TypeId)|struct (fs:List (TypeId×Nat))|arr (n:Nat) (e:TypeId)|iface|func|tuple (ts:List TypeId)|other
structure TI where
 k:TK
 size:Nat
 bytes:Nat
 zero:List C
def jo:TypeDesc->TK
 | .int k=>.int k
 | .bool=>.bool
 | .string=>.str
 | .pointer e=>.ptr e
 | .slice e=>.slice e
 | .array n e=>.arr n e
 | .struct fs=>.struct (fs.toList.map fun f=>(f.type,f.offset))
 | .interface _=>.iface
 | .func ..=>.func
 | .tuple es=>.tuple es.toList
 | _=>.other
def jL (P:Program)(t:TypeId):Option TI:=
 match P.info? t,P.underlying t with
 | some i,some d=>
  match i.zero with
  | some z=>some { k:=jo d,size:=i.size,bytes:=i.bytes,zero:=z.cells.toList.map C.ofConst }
  | none=>none
 | _,_=>none
abbrev cB:=List (Nat×TI)
def au {α:Type}:List (Nat×α)->Nat->Option α
 | [],_=>none
 | (s,x)::r,t=>cond (Nat.beq t s) (some x) (au r t)
def cB.ok (P:Program)(T:cB):Prop:=∀t i,au T t=some i->jL P t=some i
inductive vL where
 | int (k:IntKind)|bool|slice|ptr|str|any
inductive sW where
 | one (s:vL)|agg (l:List vL)
inductive Sh where
 | val (s:sW)|nT (l:List sW)|none
def QE:C->vL
 | .v (.int k _)=>.int k
 | .v (.slice ..)=>.slice
 | .v (.pointer _)=>.ptr
 | .v (.string _)=>.str
 | .tt|.ff=>.bool
 | _=>.any
def jQ (i:TI):sW:=
 match i.k with
 | .struct _|.arr _ _=>.agg (i.zero.map QE)
 | _=>match i.zero with
  | [z]=>.one (QE z)
  | _=>.one .any
def vL.ex:vL->(C->Prop)->Prop
 | .int k,K=>∃n:Int,K (.v (.int k n))
 | .bool,K=>∃b:Bool,K (.v (.bool b))
 | .slice,K=>∃(a:OA)(n c:Nat),K (.v (.slice a n c))
 | .ptr,K=>∃p:OA,K (.v (.pointer p))
 | .str,K=>∃s:ByteArray,K (.v (.string s))
 | .any,K=>∃x:Value,K (.w x)
def Mb:List vL->(List C->Prop)->Prop
 | [],K=>K []
 | s::r,K=>s.ex fun v=>Mb r fun vs=>K (v::vs)
def sW.ex:sW->(SV->Prop)->Prop
 | .one s,K=>s.ex fun c=>K (.c c)
 | .agg l,K=>Mb l fun cs=>K (.agg cs)
def NK:List sW->(List (Bool×List C)->Prop)->Prop
 | [],K=>K []
 | .one s::r,K=>s.ex fun c=>NK r fun vs=>K ((false,[c])::vs)
 | .agg l::r,K=>Mb l fun cs=>NK r fun vs=>K ((true,cs)::vs)
def Sh.ex:Sh->(SV->Prop)->Prop
 | .val s,K=>s.ex K
 | .nT l,K=>NK l fun vs=>K (.nT vs)
 | .none,K=>K (.nT [])
def PZ (T:cB):List TypeId->Option (List sW)
 | []=>some []
 | t::r=>match au T t,PZ T r with
  | some i,some l=>some (jQ i::l)
  | _,_=>Option.none
def Tv (T:cB)(t:TypeId):Option Sh:=
 match au T t with
 | some i=>match i.k with
  | .tuple []=>some .none
  | .tuple ts=>match PZ T ts with
   | some l=>some (.nT l)
   | Option.none=>Option.none
  | _=>some (.val (jQ i))
 | Option.none=>Option.none
inductive Q where
 | fail
 | ret (sc:List Prop) (x:SV)
 | new (sc:List Prop) (b:aG) (x:Nat->SV)
 | rX (sc:List Prop) (s:Nat) (b:aG)
 | rd (p:OA) (sh:sW)
 | mG (vs:List Value) (o size:Nat) (sh:sW)
 | qe (s:Nat) (vs:List Value) (n c:Nat) (x:OA×Nat ⊕ List Value) (size bytes:Nat) (ty:TypeId)
 | app (old:Option Nat) (ba:OA) (vs:List Value) (n c:Nat) (x:OA×Nat ⊕ List Value) (size bytes:Nat) (ty:TypeId)
def aX (op:BinOp)(k:IntKind)(a b:Int):Int:=
 match op with
 | .and=>k.wrap ((BitVec.ofInt k.bits a &&& BitVec.ofInt k.bits b).toNat:Int)
 | .or=>k.wrap ((BitVec.ofInt k.bits a ||| BitVec.ofInt k.bits b).toNat:Int)
 | .xor=>k.wrap ((BitVec.ofInt k.bits a ^^^ BitVec.ofInt k.bits b).toNat:Int)
 | _=>k.wrap ((BitVec.ofInt k.bits a &&& ~~~(BitVec.ofInt k.bits b)).toNat:Int)
def ld (op:BinOp)(k:IntKind)(a b:Int):Q:=
 match op with
 | .add=>.ret [] (.c (.v (.int k (k.wrap (a+b)))))
 | .sub=>.ret [] (.c (.v (.int k (k.wrap (a-b)))))
 | .mul=>.ret [] (.c (.v (.int k (k.wrap (a*b)))))
 | .quo=>.ret [b≠0] (.c (.v (.int k (k.wrap (a.tdiv b)))))
 | .rem=>.ret [b≠0] (.c (.v (.int k (a.tmod b))))
 | .and=>.ret [] (.c (.v (.int k (aX .and k a b))))
 | .or=>.ret [] (.c (.v (.int k (aX .or k a b))))
 | .xor=>.ret [] (.c (.v (.int k (aX .xor k a b))))
 | .andNot=>.ret [] (.c (.v (.int k (aX .andNot k a b))))
 | .shl=>.ret [0<=b] (.c (.v (.int k (k.wrap (a*2^(min b.toNat k.bits))))))
 | .shr=>.ret [0<=b] (.c (.v (.int k (a.fdiv (2^(min b.toNat k.bits))))))
 | .eql=>.ret [] (.c (.v (.bool (a==b))))
 | .neq=>.ret [] (.c (.v (.bool (a != b))))
 | .lss=>.ret [] (.c (.v (.bool (decide (a<b)))))
 | .leq=>.ret [] (.c (.v (.bool (decide (a<=b)))))
 | .gtr=>.ret [] (.c (.v (.bool (decide (a>b)))))
 | .geq=>.ret [] (.c (.v (.bool (decide (a≥b)))))
def C.bool?:C->Option Bool
 | .tt=>some true
 | .ff=>some false
 | .v (.bool b)=>some b
 | _=>none
def isNilI:Value->Bool
 | .nilIface=>true
 | _=>false
def IsIface (x:Value):Prop:=x=.nilIface\/∃t v,x=.iface t v
def ui:IntKind->IntKind->Bool
 | .i8,.i8|.i16,.i16|.i32,.i32|.i64,.i64|.u8,.u8|.u16,.u16|.u32,.u32|.u64,.u64=>true
 | _,_=>false
def zF (neg:Bool)(k:TK)(x y:C):Q:=
 match k with
 | .ptr _=>match y with
  | .v (.pointer none)=>match x with
   | .ptr _ _=>.ret [] (.c (if neg then .tt else .ff))
   | .v (.pointer p)=>.ret [] (.c (.v (.bool (if neg then !p.isNone else p.isNone))))
   | _=>.fail
  | _=>.fail
 | .slice _=>match y with
  | .v (.slice none _ _)=>match x with
   | .kK _ _ _ _=>.ret [] (.c (if neg then .tt else .ff))
   | .fU _ _ c=>.ret [] (.c (.v (.bool (if neg then !(Nat.beq c 0) else Nat.beq c 0))))
   | .v (.slice a _ _)=>.ret [] (.c (.v (.bool (if neg then !a.isNone else a.isNone))))
   | _=>.fail
  | _=>.fail
 | .iface=>match y with
  | .v .nilIface=>match x with
   | .w y=>.ret [IsIface y] (.c (.v (.bool (if neg then !isNilI y else isNilI y))))
   | .v .nilIface=>.ret [] (.c (if neg then .ff else .tt))
   | _=>.fail
  | _=>.fail
 | _=>.fail
def zC (T:cB)(op:BinOp)(xt:TypeId)(x y:C):Q:=
 match au T xt with
 | some i=>match i.k with
  | .int _=>match x,y with
   | .v (.int k a),.v (.int k' b)=>
    match op with
    | .shl|.shr=>ld op k a b
    | _=>if ui k k' then ld op k a b else .fail
   | _,_=>.fail
  | .bool=>match x.bool?,y.bool? with
   | some a,some b=>match op with
    | .eql=>.ret [] (.c (.v (.bool (a==b))))
    | .neq=>.ret [] (.c (.v (.bool (!(a==b)))))
    | _=>.fail
   | _,_=>.fail
  | k=>match op with
   | .eql=>zF false k x y
   | .neq=>zF true k x y
   | _=>.fail
 | none=>.fail
def addrAdd (p:OA)(n:Nat):OA:=p.map fun a=>a.add n
def setCells (cs:List C)(o:Nat)(xs:List C):List C:=cs.take o++xs++cs.drop (o+xs.length)
def cD (vs:List Value)(o:Nat)(xs:List Value):List Value:=
 match xs with
 | [x]=>vs.set o x
 | _=>vs.take o++xs++vs.drop (o+xs.length)
def C.val?:C->Option Value
 | .v x=>some x
 | .w x=>some x
 | .tt=>some (.bool true)
 | .ff=>some (.bool false)
 | _=>none
def jT:List C->Option (List Value)
 | []=>some []
 | c::r=>match c.val?,jT r with
  | some v,some vs=>some (v::vs)
  | _,_=>none
def iw (bx:Nat->Option aG)(i:TI)(x:SV):Q:=
 match x with
 | .c (.ptr b o)=>match bx b with
  | some ⟨.lit cs,_⟩=>match i.k with
   | .struct _|.arr _ _=>if Nat.ble (o+i.size) cs.length then .ret [] (.agg ((cs.drop o).take i.size)) else .fail
   | _=>match cs[o]? with
    | some c=>.ret [] (.c c)
    | none=>.fail
  | some ⟨.row vs,_⟩=>.mG vs o i.size (jQ i)
  | some ⟨.aK vs,_⟩=>if Nat.beq i.size 0 then .fail else .mG vs o i.size (jQ i)
  | none=>.fail
 | .c (.v (.pointer p))=>if Nat.beq i.zero.length i.size then .rd p (jQ i) else .fail
 | _=>.fail
def fG (bx:Nat->Option aG)(i:TI)(a x:SV):Q:=
 match a with
 | .c (.ptr b o)=>if Nat.beq x.cells.length i.size&&!x.uh then match bx b with
   | some ⟨.lit cs,ty⟩=>if Nat.ble (o+i.size) cs.length then .rX x.dZ b ⟨.lit (setCells cs o x.cells),ty⟩ else .fail
   | some ⟨.row vs,ty⟩=>match jT x.cells with
    | some xs=>.rX (x.dZ++[o+i.size<=vs.length]) b ⟨.row (cD vs o xs),ty⟩
    | none=>.fail
   | some ⟨.aK vs,ty⟩=>if Nat.beq i.size 0 then .fail else match jT x.cells with
    | some xs=>.rX (x.dZ++[o+i.size<=vs.length]) b ⟨.aK (cD vs o xs),ty⟩
    | none=>.fail
   | none=>.fail
  else .fail
 | _=>.fail
def mE (place:Nat->Option (Nat×Nat))(cells:List C):List (Nat×SV)->Option (List C)
 | []=>some cells
 | (i,x)::r=>match place i with
  | none=>none
  | some (off,size)=>if Nat.beq x.cells.length size&&Nat.ble (off+size) cells.length&&!x.uh then mE place (setCells cells off x.cells) r else none
def partsOf (ρ:Operand->Option SV):List (Nat×Operand)->Option (List (Nat×SV))
 | []=>some []
 | (i,o)::r=>match ρ o,partsOf ρ r with
  | some x,some l=>some ((i,x)::l)
  | _,_=>none
def eJ (T:cB):List (TypeId×Nat)->Option (List (Nat×Nat))
 | []=>some []
 | (t,off)::r=>match au T t,eJ T r with
  | some i,some l=>some ((off,i.size)::l)
  | _,_=>none
def rep (n:Nat)(zs:List C):List C:=(List.replicate n zs).flatten
def nP (n:Nat)(zs:List Value):List Value:=
 match zs with
 | [z]=>List.replicate n z
 | _=>(List.replicate n zs).flatten
def jR (a:OA)(m l sz:Nat):OA:=if m=l then a else addrAdd a (l*sz)
def VD (o m l sz:Nat):Nat:=if m=l then o else o+l*sz
def Kk (c:Nat):Option SV->Option (List Prop×Nat)
 | none=>some ([],c)
 | some (.c (.v (.int _ m)))=>some ([0<=m/\m<=(c:Int)],m.toNat)
 | _=>none
def Iu (n m:Nat):Option SV->Option SV->Option (List Prop×Nat)
 | some (.c (.v (.int _ h))),_=>some ([0<=h/\h<=(m:Int)],h.toNat)
 | none,none=>some ([],n)
 | _,_=>none
def MW (h:Nat):Option SV->Option (List Prop×Option Nat)
 | none=>some ([],none)
 | some (.c (.v (.int _ l)))=>some ([0<=l/\l<=(h:Int)],some l.toNat)
 | _=>none
def ml (n c:Nat)(lo hi mx:Option SV):Option (List Prop×Option Nat×Nat×Nat):=
 match Kk c mx with
 | none=>none
 | some (p1,m)=>match Iu n m hi mx with
  | none=>none
  | some (p2,h)=>match MW h lo with
   | none=>none
   | some (p3,l)=>some (p1++p2++p3,l,h,m)
def zu (ρ:Operand->Option SV):Option Operand->Option (Option SV)
 | none=>some none
 | some x=>match ρ x with
  | some v=>some (some v)
  | none=>none
def qk (sz:Nat)(x:SV)(lo hi mx:Option SV):Q:=
 match x with
 | .c (.v (.slice a n c))=>match ml n c lo hi mx with
  | some (sc,none,h,m)=>.ret sc (.c (.v (.slice a h m)))
  | some (sc,some l,h,m)=>.ret sc (.c (.v (.slice (jR a m l sz) (h-l) (m-l))))
  | none=>.fail
 | .c (.kK s o n c)=>match ml n c lo hi mx with
  | some (sc,none,h,m)=>.ret sc (.c (.kK s o h m))
  | some (sc,some l,h,m)=>.ret sc (.c (.kK s (VD o m l sz) (h-l) (m-l)))
  | none=>.fail
 | .c (.fU s n c)=>match mx with
  | none=>match ml n c lo hi none with
   | some (sc,none,h,m)=>.ret sc (.c (.fU s h m))
   | _=>.fail
  | some _=>.fail
 | _=>.fail
def fF (T:cB)(i:TI)(x ix:SV):Q:=
 match ix with
 | .c (.v (.int _ n))=>match i.k with
  | .slice e=>match au T e with
   | some ei=>match x with
    | .c (.v (.slice a len _))=>.ret [a.isSome=true,0<=n/\n<(len:Int)] (.c (.v (.pointer (addrAdd a (n.toNat*ei.size)))))
    | .c (.kK s o len _)=>.ret [0<=n/\n<(len:Int)] (.c (.ptr s (o+n.toNat*ei.size)))
    | .c (.fU s len c)=>.ret [0<=n/\n<(len:Int),len<=c] (.c (.ptr s (n.toNat*ei.size)))
    | _=>.fail
   | none=>.fail
  | .arr len e=>match au T e with
   | some ei=>match x with
    | .c (.ptr s o)=>.ret [0<=n/\n<(len:Int)] (.c (.ptr s (o+n.toNat*ei.size)))
    | .c (.v (.pointer a))=>.ret [a.isSome=true,0<=n/\n<(len:Int)] (.c (.v (.pointer (addrAdd a (n.toNat*ei.size)))))
    | _=>.fail
   | none=>.fail
  | _=>.fail
 | _=>.fail
def yh (T:cB)(i:TI)(l c:SV):Q:=
 match i.k with
 | .slice e=>match au T e with
  | some ei=>match l,c with
   | .c (.v (.int _ n)),.c (.v (.int _ m))=>match jT ei.zero with
    | some zs=>if Nat.beq ei.bytes 0||Nat.beq ei.size 0||!(Nat.beq ei.size zs.length) then .fail else .new [0<=n,n<=m,(ei.bytes:Int)*m<=140737488355328] ⟨.row (nP m.toNat zs),e⟩ fun d=>.c (.kK d 0 n.toNat m.toNat)
    | none=>.fail
   | _,_=>.fail
  | none=>.fail
 | _=>.fail
def uJ:List SV->Option (List Nat)
 | []=>some []
 | .c (.ptr s 0)::r=>match uJ r with
  | some l=>some (s::l)
  | none=>none
 | _=>none
def bH (ρ:Operand->Option SV):List Operand->Option (List SV)
 | []=>some []
 | o::r=>match ρ o,bH ρ r with
  | some x,some l=>some (x::l)
  | _,_=>none
def bD (a b:Int):Int:=if b<a then b else a
def maxI (a b:Int):Int:=if b>a then b else a
def foldI (f:Int->Int->Int)(k:IntKind)(a:Int):List SV->Option Int
 | []=>some a
 | .c (.v (.int k' b))::r=>if ui k k' then foldI f k (f a b) r else none
 | _=>none
def dA (bx:Nat->Option aG)(s:Nat):Option (List Value):=
 match bx s with
 | some ⟨.lit cs,_⟩=>jT cs
 | some ⟨.row vs,_⟩=>some vs
 | _=>none
def jy (bx:Nat->Option aG)(s:Nat):Option TypeId:=match bx s with|some b=>some b.ty|none=>none
def rowTake (ws:List Value)(o n:Nat):List Value:=cond (Nat.ble (o+n) ws.length) ((ws.drop o).take n) (List.replicate n (.agg #[]))
def rowTakeM (ws:List Value)(k c sz:Nat):List Value:=cond (Nat.ble k c) (rowTake ws 0 (k*sz)) (List.replicate (k*sz) (.agg #[]))
def bQ (bx:Nat->Option aG)(e:TypeId)(ei:TI)(b x:SV):Q:=
 match jT ei.zero with
 | none=>.fail
 | some zs=>if Nat.beq ei.bytes 0||Nat.beq ei.size 0||!(Nat.beq ei.size zs.length) then .fail else
  let src:Option (OA×Nat ⊕ List Value):=match x with
   | .c (.v (.slice a k _))=>some (.inl (a,k))
   | .c (.kK s o k _)=>match bx s with
    | some ⟨.row ws,_⟩=>some (.inr (rowTake ws o (k*ei.size)))
    | _=>match dA bx s with
     | some ws=>if Nat.ble (o+k*ei.size) ws.length then some (.inr ((ws.drop o).take (k*ei.size))) else none
     | none=>none
   | .c (.fU s k c)=>match bx s with
    | some ⟨.aK ws,_⟩=>some (.inr (rowTakeM ws k c ei.size))
    | _=>none
   | _=>none
  match src with
  | none=>.fail
  | some src=>match b with
   | .c (.v (.slice a n c))=>.app none a [] n c src ei.size ei.bytes e
   | .c (.kK s 0 n c)=>match dA bx s,jy bx s with
    | some vs,some ty=>if Nat.beq ty e then .app (some s) none vs n c src ei.size ei.bytes e else .fail
    | _,_=>.fail
   | .c (.fU s n c)=>match bx s with
    | some ⟨.aK vs,ty⟩=>if Nat.beq ty e then .qe s vs n c src ei.size ei.bytes e else .fail
    | _=>.fail
   | _=>.fail
def jO (b:Builtin)(k:TK)(xs:List SV):Q:=
 match xs with
 | []=>.fail
 | x::r=>match b with
  | .len=>match r,k,x with
   | [],.slice _,.c (.v (.slice _ n _))=>.ret [] (.c (.v (.int .i64 n)))
   | [],.slice _,.c (.kK _ _ n _)=>.ret [] (.c (.v (.int .i64 n)))
   | [],.slice _,.c (.fU _ n _)=>.ret [] (.c (.v (.int .i64 n)))
   | [],.str,.c (.v (.string s))=>.ret [] (.c (.v (.int .i64 s.size)))
   | _,_,_=>.fail
  | .cap=>match r,k,x with
   | [],.slice _,.c (.v (.slice _ _ c))=>.ret [] (.c (.v (.int .i64 c)))
   | [],.slice _,.c (.kK _ _ _ c)=>.ret [] (.c (.v (.int .i64 c)))
   | [],.slice _,.c (.fU _ _ c)=>.ret [] (.c (.v (.int .i64 c)))
   | _,_,_=>.fail
  | .min=>match x with
   | .c (.v (.int k a))=>match foldI bD k a r with
    | some m=>.ret [] (.c (.v (.int k m)))
    | none=>.fail
   | _=>.fail
  | .max=>match x with
   | .c (.v (.int k a))=>match foldI maxI k a r with
    | some m=>.ret [] (.c (.v (.int k m)))
    | none=>.fail
   | _=>.fail
  | _=>.fail
def uL (t:TypeId)(i:TI)(v:SV):Q:=
 match i.k with
 | .iface=>.fail
 | _=>match v.ids,v.uh with
  | [],false=>.ret [] (.c (.w (.iface t (v.den fun _=>0))))
  | _,_=>.fail
def kq (T:cB)(bx:Nat->Option aG)(t:TypeId)(x:SV):Q:=
 match au T t with
 | some i=>match i.k with
  | .slice e=>match au T e with
   | some ei=>match jT ei.zero,x with
    | some zs,.c (.kK s o n _)=>match bx s with
     | some ⟨.row vs,ty⟩=>if Nat.beq ei.size 0||!(Nat.beq ei.size zs.length)||!(zs.all Value.oneCell') then .fail else .rX [o+n*ei.size<=vs.length] s ⟨.row (vs.take o++nP n zs++vs.drop (o+n*ei.size)),ty⟩
     | _=>.fail
    | _,_=>.fail
   | none=>.fail
  | _=>.fail
 | none=>.fail
def E7:List C->Option (List (OA×Nat×Nat))
 | []=>some []
 | .v (.slice p n c)::r=>match E7 r with
  | some l=>some ((p,n,c)::l)
  | none=>none
 | _=>none
def jP (T:cB)(i:TI)(cs:List C)(k:Int):Q:=
 match i.k with
 | .arr n e=>match au T e,E7 cs with
  | some ei,some l=>match ei.k with
   | .slice _=>if Nat.beq ei.size 1&&Nat.beq l.length n then .ret [0<=k/\k<(n:Int)] (.c (.v (.slice (l.getD k.toNat (none,0,0)).1 (l.getD k.toNat (none,0,0)).2.1 (l.getD k.toNat (none,0,0)).2.2))) else .fail
   | _=>.fail
  | _,_=>.fail
 | _=>.fail
def aD (T:cB)(ρ:Operand->Option SV)(bx:Nat->Option aG)(op:Op):Q:=
 match op with
 | .move x|.assign x=>match ρ x with
  | some v=>.ret [] v
  | none=>.fail
 | .pick c a b=>match ρ c with
  | some (.c .tt)=>match ρ a with
   | some v=>.ret [] v
   | none=>.fail
  | some (.c .ff)=>match ρ b with
   | some v=>.ret [] v
   | none=>.fail
  | _=>.fail
 | .alloc t=>match au T t with
  | some i=>.new [] ⟨.lit i.zero,t⟩ fun d=>.c (.ptr d 0)
  | none=>.fail
 | .box t x=>match ρ x with
  | some v=>match v.uh with
   | true=>.fail
   | false=>.new v.dZ ⟨.lit v.cells,t⟩ fun d=>.c (.ptr d 0)
  | none=>.fail
 | .build t parts=>match au T t,partsOf ρ parts.toList with
  | some i,some ps=>match i.k with
   | .struct fs=>match eJ T fs with
    | some pl=>match mE (fun j=>pl[j]?) i.zero ps with
     | some cs=>.ret (ps.flatMap fun x=>x.2.dZ) (.agg cs)
     | none=>.fail
    | none=>.fail
   | .arr _ e=>match au T e with
    | some ei=>match mE (fun j=>some (j*ei.size,ei.size)) i.zero ps with
     | some cs=>.ret (ps.flatMap fun x=>x.2.dZ) (.agg cs)
     | none=>.fail
    | none=>.fail
   | _=>.fail
  | _,_=>.fail
 | .buildSlice t len parts=>match au T t,partsOf ρ parts.toList with
  | some i,some ps=>match i.k with
   | .slice e=>match au T e with
    | some ei=>if Nat.ble (len*ei.size) 16777216&&Nat.beq ei.zero.length ei.size&&!(Nat.beq ei.size 0) then match mE (fun j=>some (j*ei.size,ei.size)) (rep len ei.zero) ps with
      | some cs=>.new (ps.flatMap fun x=>x.2.dZ) ⟨.lit cs,e⟩ fun d=>.c (.kK d 0 len len)
      | none=>.fail
     else .fail
    | none=>.fail
   | _=>.fail
  | _,_=>.fail
 | .load t a=>match au T t,ρ a with
  | some i,some x=>iw bx i x
  | _,_=>.fail
 | .store t a x=>match au T t,ρ a,ρ x with
  | some i,some av,some xv=>fG bx i av xv
  | _,_,_=>.fail
 | .nilCheck x=>match ρ x with
  | some (.c (.ptr s o))=>.ret [] (.c (.ptr s o))
  | some (.c (.v (.pointer p)))=>.ret [p.isSome=true] (.c (.v (.pointer p)))
  | _=>.fail
 | .binOp o xt x y _=>match ρ x,ρ y with
  | some (.c a),some (.c b)=>match b with
   | .v .nilIface=>match y with
    | .const _=>zC T o xt a b
    | _=>.fail
   | b=>zC T o xt a b
  | _,_=>.fail
 | .unOp .not _ x=>match ρ x with
  | some (.c .tt)=>.ret [] (.c .ff)
  | some (.c .ff)=>.ret [] (.c .tt)
  | some (.c (.v (.bool b)))=>.ret [] (.c (.v (.bool (!b))))
  | _=>.fail
 | .unOp .xor _ x=>match ρ x with
  | some (.c (.v (.int k n)))=>.ret [] (.c (.v (.int k (aX .xor k (if k.signed then -1 else k.max) n))))
  | _=>.fail
 | .unOp .neg _ x=>match ρ x with
  | some (.c (.v (.int k n)))=>.ret [] (.c (.v (.int k (k.wrap (0-n)))))
  | _=>.fail
 | .convert src dst x=>match au T src,au T dst,ρ x with
  | some _,some i,some (.c (.v (.int _ n)))=>match i.k with
   | .int k=>.ret [] (.c (.v (.int k (k.wrap n))))
   | _=>.fail
  | _,_,_=>.fail
 | .makeFunc (.func f) first caps=>match first.toList with
  | []=>match bH ρ caps.toList with
   | some xs=>match uJ xs with
    | some ss=>.ret [] (.c (.A5 f ss))
    | none=>.fail
   | none=>.fail
  | _=>.fail
 | .makeSlice t l c=>match au T t,ρ l,ρ c with
  | some i,some lv,some cv=>yh T i lv cv
  | _,_,_=>.fail
 | .slice t x lo hi mx=>match au T t,ρ x,zu ρ lo,zu ρ hi,zu ρ mx with
  | some i,some xv,some l,some h,some m=>match i.k with
   | .slice e=>match au T e with
    | some ei=>qk ei.size xv l h m
    | none=>.fail
   | _=>.fail
  | _,_,_,_,_=>.fail
 | .fieldAddr t x f=>match au T t,ρ x with
  | some i,some xv=>match i.k with
   | .struct fs=>match fs[f]? with
    | some (ft,off)=>match au T ft with
     | some fi=>if Nat.beq fi.size 0 then .fail else match xv with
      | .c (.ptr s o)=>.ret [] (.c (.ptr s (o+off)))
      | .c (.v (.pointer p))=>.ret [p.isSome=true] (.c (.v (.pointer (addrAdd p off))))
      | _=>.fail
     | none=>.fail
    | none=>.fail
   | _=>.fail
  | _,_=>.fail
 | .field t x f=>match au T t,ρ x with
  | some i,some (.agg cs)=>match i.k with
   | .struct fs=>match fs[f]? with
    | some (ft,off)=>match au T ft with
     | some fi=>match fi.k with
      | .struct _|.arr _ _=>.ret [] (.agg ((cs.drop off).take fi.size))
      | _=>match cs[off]? with
       | some c=>.ret [] (.c c)
       | none=>.fail
     | none=>.fail
    | none=>.fail
   | _=>.fail
  | _,_=>.fail
 | .indexAddr t x ix=>match au T t,ρ x,ρ ix with
  | some i,some xv,some iv=>fF T i xv iv
  | _,_,_=>.fail
 | .extract x j=>match ρ x with
  | some (.nT xs)=>match xs[j]? with
   | some v=>match pP v with
    | some y=>.ret [] y
    | none=>.fail
   | none=>.fail
  | _=>.fail
 | .call c=>match c.callee with
  | .builtin .append=>match bH ρ c.args.toList,c.argTypes.toList with
   | some [b,x],[t,t']=>match au T t,au T t' with
    | some i,some i'=>match i.k,i'.k with
     | .slice e,.slice _=>match au T e with
      | some ei=>bQ bx e ei b x
      | none=>.fail
     | _,_=>.fail
    | _,_=>.fail
   | _,_=>.fail
  | .builtin .clear=>match bH ρ c.args.toList,c.argTypes.toList with
   | some [x],[t]=>kq T bx t x
   | _,_=>.fail
  | .builtin b=>match bH ρ c.args.toList,c.argTypes.toList with
   | some xs,t::_=>match au T t with
    | some i=>jO b i.k xs
    | none=>.fail
   | _,_=>.fail
  | _=>.fail
 | .index t x ix=>match au T t,ρ x,ρ ix with
  | some i,some (.c (.v (.string s))),some (.c (.v (.int _ n)))=>match i.k with
   | .str=>.ret [0<=n/\n<(s.size:Int)] (.c (.v (.int .u8 ((s.data.toList.getD n.toNat 0).toNat:Int))))
   | _=>.fail
  | some i,some (.agg cs),some (.c (.v (.int _ n)))=>jP T i cs n
  | _,_,_=>.fail
 | .makeInterface t x=>match au T t,ρ x with
  | some i,some v=>uL t i v
  | _,_=>.fail
 | _=>.fail
def yB:List Prop->Prop->Prop
 | [],k=>k
 | p::r,k=>p/\yB r k
def View.Kp (V:View)(p:Addr):Nat->List C->Prop->Prop
 | _,[],k=>k
 | i,c::r,k=>V.at (p.add i) (c.den fun _=>0)/\V.Kp p (i+1) r k
def View.Ji (V:View)(p:OA)(x:SV)(k:Prop):Prop:=
 match x with
 | .agg cs=>∃a,p=some a/\V.Kp a 0 cs k
 | .c c=>(∃a,p=some a/\V.at a (c.den fun _=>0))/\k
 | .nT _=>False
def Kt (vs:List Value)(o size:Nat)(x:SV):Prop:=
 match x with
 | .agg cs=>o+size<=vs.length/\(vs.drop o).take size=cs.map (C.den fun _=>0)
 | .c c=>vs[o]?=some (c.den fun _=>0)
 | .nT _=>False
def dM (x:Nat):List Nat->Bool
 | []=>false
 | y::r=>cond (Nat.beq x y) true (dM x r)
def dedup:List Nat->List Nat
 | []=>[]
 | x::r=>let l:=dedup r;cond (dM x l) l (x::l)
def tR (l m:List Nat):Bool:=l.all fun x=>!(dM x m)
def IX (l m:List Nat):Bool:=l.all fun x=>dM x m
def C.rel (L:List Nat)(β:Nat->Nat)(J:C->Value):C->C
 | .ptr s o=>cond (dM s L) (.v (.pointer (some ⟨β s,o,none⟩))) (.ptr s o)
 | .kK s o n c=>cond (dM s L) (.v (.slice (some ⟨β s,o,none⟩) n c)) (.kK s o n c)
 | .fU s n c=>cond (dM s L) (.v (.slice (mA (β s) c) n c)) (.fU s n c)
 | .A5 f ss=>cond (tR ss L) (.A5 f ss) (.w (J (.A5 f ss)))
 | x=>x
def SV.rel (L:List Nat)(β:Nat->Nat)(J:C->Value):SV->SV
 | .c x=>.c (x.rel L β J)
 | .agg cs=>.agg (cs.map (C.rel L β J))
 | .nT xs=>.nT (xs.map fun x=>(x.1,x.2.map (C.rel L β J)))
def aG.rel (L:List Nat)(β:Nat->Nat)(J:C->Value)(b:aG):aG:=
 match b.cs with
 | .row _=>b
 | .aK _=>b
 | .lit cs=>⟨.lit (cs.map (C.rel L β J)),b.ty⟩
def St.rel (st:St)(L:List Nat)(β:Nat->Nat)(J:C->Value):St:=
 ⟨fun t=>match st.ao t with|some x=>some (x.rel L β J)|none=>none,
   fun t=>cond (dM t L) none (match st.boxes t with|some b=>some (b.rel L β J)|none=>none)⟩
def View.sl (V:View)(a:OA)(xs:List Value):Prop:=∀i v,xs[i]?=some v->∃ad,a=some ad/\V.at (ad.add i) v
def mz (s d:Nat):Nat:=cond (Nat.blt s 100000) d (d+200000)
def AG (s:Nat)(vs:List Value)(n c size bytes:Nat)(ty:TypeId)(d:Nat)(st:St)(V:View)(K:St->View->Prop)(k:Nat)(xs:List Value):Prop:=
 (n+k)*bytes<=140737488355328/\n<=c/\c*size<=vs.length/\xs.length=k*size/\(∀v∈xs,v.oneCell'=true) /\
  match st.boxes (mz s d) with
  | some _=>False
  | none=>∀(_:Nat)(_:C->Value)(spare:List Value)(c':Nat),n+k<=c'->c'*size<=(n+k)*size+spare.length ->
   K (((st.box s ⟨.aK [],ty⟩).box (mz s d) ⟨.row (vs.take (n*size)++xs++spare),ty⟩).put (some d) (.c (.kK (mz s d) 0 (n+k) c'))) V
def qY (s:Nat)(vs:List Value)(n c size bytes:Nat)(ty:TypeId)(d:Nat)(st:St)(V:View)(K:St->View->Prop)(k:Nat)(xs:List Value):Prop:=
 (n+k)*bytes<=140737488355328/\n<=c/\c*size<=vs.length/\xs.length=k*size/\(∀v∈xs,v.oneCell'=true) /\
  match st.boxes (mz s d) with
  | some _=>False
  | none=>∀(spare:List Value)(c':Nat),n+k<=c'->c'*size<=(n+k)*size+spare.length ->
   K (((st.box s ⟨.aK [],ty⟩).box (mz s d) ⟨.aK (vs.take (n*size)++xs++spare),ty⟩).put (some d) (.c (.fU (mz s d) (n+k) c'))) V
def AH (vs:List Value)(n c size bytes:Nat)(ty:TypeId)(d:Nat)(st:St)(V:View)(K:St->View->Prop)(k:Nat)(xs:List Value):Prop:=
 (n+k)*bytes<=140737488355328/\c<n+k/\xs.length=k*size/\(∀v∈xs,v.oneCell'=true) /\
  match st.boxes d with
  | some _=>False
  | none=>∀(spare:List Value)(c':Nat),n+k<=c'->c'*size<=(n+k)*size+spare.length ->
   K ((st.box d ⟨.row (vs++xs++spare),ty⟩).put (some d) (.c (.kK d 0 (n+k) c'))) V
def rY (q:Q)(dst:Option Nat)(st:St)(V:View)(K:St->View->Prop):Prop:=
 match q with
 | .fail=>False
 | .ret sc x=>yB sc (K (st.put dst x) V)
 | .new sc b x=>match dst with
  | some d=>match st.boxes d with
   | none=>yB sc (K ((st.box d b).put (some d) (x d)) V)
   | some _=>False
  | none=>False
 | .rX sc s b=>match dst with
  | none=>yB sc (K (st.box s b) V)
  | some _=>False
 | .rd p sh=>sh.ex fun x=>V.Ji p x (K (st.put dst x) V)
 | .mG vs o size sh=>sh.ex fun x=>Kt vs o size x/\K (st.put dst x) V
 | .qe s vs n c x size bytes ty=>match dst with
  | none=>False
  | some d=>match x with
   | .inr xs=>qY s vs n c size bytes ty d st V K (xs.length / size) xs
   | .inl (a,k)=>∃xs:List Value,V.sl a xs/\xs.length=k*size/\qY s vs n c size bytes ty d st V K k xs
 | .app old ba vs n c x size bytes ty=>match dst with
  | none=>False
  | some d=>match old with
   | some s=>match x with
    | .inr xs=>AG s vs n c size bytes ty d st V K (xs.length / size) xs
    | .inl (a,k)=>∃xs:List Value,V.sl a xs/\xs.length=k*size/\AG s vs n c size bytes ty d st V K k xs
   | none=>∃vs:List Value,V.sl ba vs/\vs.length=n*size/\n<=c/\(ba.isNone=true->c=0)/\(match x with
    | .inr xs=>AH vs n c size bytes ty d st V K (xs.length / size) xs
    | .inl (a,k)=>∃xs:List Value,V.sl a xs/\xs.length=k*size/\(k=0->K (st.put (some d) (.c (.v (.slice ba n c)))) V)/\(k≠0->AH vs n c size bytes ty d st V K k xs))
def cR (β:Nat->Nat)(s b:Nat):Nat->Nat:=fun t=>cond (Nat.beq t s) b (β t)
def jX:List Nat->(Nat->Nat)->((Nat->Nat)->Prop)->Prop
 | [],β,k=>k β
 | s::r,β,k=>∀b:Nat,jX r (cR β s b) k
def jZ (bx:Nat->Option aG)(s:Nat):List Nat:=match bx s with|some b=>b.cs.ids|none=>[]
def reach (bx:Nat->Option aG):Nat->List Nat->List Nat
 | 0,l=>l
 | n+1,l=>reach bx n (dedup (l++l.flatMap (jZ bx)))
def fK (bx:Nat->Option aG)(l:List Nat):Bool:=l.all fun s=>IX (jZ bx s) l
def Lt (bx:Nat->Option aG)(b:aG)(β:Nat->Nat)(s:Nat):List Nat->Prop->Prop
 | [],k=>k
 | t::r,k=>cond (Nat.beq s t) (Lt bx b β s r k) (match bx t with
  | some b'=>ou (Gx b++Gx b') (β s≠β t)->Lt bx b β s r k
  | none=>False)
def gk (bx:Nat->Option aG)(β:Nat->Nat)(V:View):List Nat->Prop->Prop
 | [],k=>k
 | s::r,k=>match bx s with
  | some b=>ou (Gx b) (V.w.heap[β s]?=some (b.obj β))->ou (Gx b) (V.H (β s))->gk bx β V r (Lt bx b β s r k)
  | none=>False
def vb (vs:List Value)(n b:Nat):Nat:=
 match vs with
 | []=>n
 | _::_=>b
def cE (bx:Nat->Option aG)(β:Nat->Nat)(n:Nat)(s:Nat):Nat:=
 match bx s with
 | some ⟨.aK vs,_⟩=>vb vs n (β s)
 | _=>β s
def C.kept:C->List Nat
 | .A5 _ ss=>0::ss
 | c=>c.ids
def ki (mv:Option (Nat×Nat)):List C->List C->(List C->Prop)->Prop
 | [],_,K=>K []
 | c::r,z::zr,K=>match c with
  | .fU t _ _=>match mv with
   | some (m,nb)=>match Nat.beq t m with
    | true=>∃n c:Nat,ki mv r zr fun cs=>K (.fU nb n c::cs)
    | false=>False
   | none=>False
  | c=>match c.kept with
   | []=>(QE z).ex fun v=>ki mv r zr fun cs=>K (v::cs)
   | _=>ki mv r zr fun cs=>K (c::cs)
 | _,[],_=>False
def du (T:cB)(mv:Option (Nat×Nat))(β:Nat->Nat)(V:View):List Nat->St->(St->Prop)->Prop
 | [],st,k=>k st
 | s::r,st,k=>match st.boxes s with
  | some ⟨.lit cs,ty⟩=>match au T ty with
   | some i=>ki mv cs i.zero fun cs'=>V.w.heap[β s]?=some (.cells (cs'.map (C.den β)).toArray ty (0,0))/\du T mv β V r (st.box s ⟨.lit cs',ty⟩) k
   | none=>False
  | some ⟨.row _,ty⟩=>∃vs:List Value,V.w.heap[β s]?=some (.cells vs.toArray ty (0,0))/\du T mv β V r (st.box s ⟨.row vs,ty⟩) k
  | some ⟨.aK vs,ty⟩=>vs≠[]/\∃vs':List Value,vs'≠[]/\V.w.heap[β s]?=some (.cells vs'.toArray ty (0,0))/\du T mv β V r (st.box s ⟨.aK vs',ty⟩) k
  | _=>False
def oM (bx:Nat->Option aG)(β:Nat->Nat)(V:View):List Nat->Prop->Prop
 | [],k=>k
 | s::r,k=>match bx s with
  | some b=>ou (Gx b) (V.aW (β s) (b.obj β))->oM bx β V r k
  | none=>False
def nh:List C->List Nat
 | []=>[]
 | .fU t _ _::r=>t::nh r
 | _::r=>nh r
def oC (bx:Nat->Option aG)(L:List Nat):List Nat:=dedup (L.flatMap fun s=>match bx s with|some ⟨.lit cs,_⟩=>nh cs|_=>[])
def kk:List SV->List Nat
 | []=>[]
 | .c (.fU s _ _)::_=>[s]
 | .c (.kK s 0 _ _)::_=>[s]
 | _::r=>kk r
def sM (nb:Nat):List (Bool×List C)->List (Bool×List C)
 | []=>[]
 | (false,[.v (.slice _ n c)])::r=>(false,[.fU nb n c])::r
 | x::r=>x::sM nb r
def yY (nb:Nat):List C->List C
 | []=>[]
 | .v (.slice _ n c)::r=>.fU nb n c::r
 | x::r=>x::yY nb r
def pX (nb:Nat):SV->SV
 | .c (.v (.slice _ n c))=>.c (.fU nb n c)
 | .agg cs=>.agg (yY nb cs)
 | .nT xs=>.nT (sM nb xs)
 | x=>x
def yZ (T:cB):List TypeId->Option TypeId
 | []=>none
 | t::r=>match au T t with
  | some i=>match i.k with
   | .slice e=>some e
   | _=>yZ T r
  | none=>none
def Hw (T:cB)(ty:TypeId):Option TypeId:=
 match au T ty with
 | some i=>match i.k with
  | .slice e=>some e
  | .tuple ts=>yZ T ts
  | .struct fs=>yZ T (fs.map Prod.fst)
  | _=>none
 | none=>none
def aF (β:Nat->Nat)(xs:List SV):Array Value:=(xs.map (SV.den β)).toArray
inductive CM where
 | none|lend|rel|gg|give
def dW (m:Option Nat)(d:Nat):Nat:=
 match m with
 | some m=>mz m d
 | Option.none=>d
def X5 (m:Option Nat)(nb:Nat):Option (Nat×Nat):=
 match m with
 | some m=>some (m,nb)
 | Option.none=>Option.none
def BI (m:Option Nat)(L:List Nat):List Nat:=
 match m with
 | some m=>L.filter fun s=>!(Nat.beq s m)
 | Option.none=>L
def oq (m:Option Nat)(ety:TypeId)(st:St):St:=
 match m with
 | some m=>st.box m ⟨.aK [],ety⟩
 | Option.none=>st
def vI (m:Option Nat)(st:St)(β:Nat->Nat)(b':Nat):Prop:=
 match m with
 | some m=>match st.boxes m with
  | some ⟨.aK vs,_⟩=>vs≠[]/\b'=β m
  | _=>b'=β m
 | Option.none=>False
def bz (T:cB)(give:Bool)(sh:Sh)(L:List Nat)(m:Option Nat)(d:Nat)(ety:TypeId)(β:Nat->Nat)(st:St)(V':View)(K:St->View->Prop)(r':Value)(dK:View):Prop:=
 ∃(b':Nat)(vs':List Value),(vs'≠[]->dK.w.heap[b']?=some (.cells vs'.toArray ety (0,0)))/\(vs'≠[]->V'.w.heap.size<=b'\/vI m st β b') /\
  sh.ex fun x=>r'=(cond give (pX (dW m d) x) x).den (cR β (dW m d) b') /\
   du T (X5 m (dW m d)) (cR β (dW m d) b') dK (BI m L) ((oq m ety st).box (dW m d) ⟨.aK vs',ety⟩) fun st'=>K (st'.put (some d) (cond give (pX (dW m d) x) x)) (dK.shut.hideG (vs'≠[]) b')
def zK (bx:Nat->Option aG)(m ety:Nat):Bool:=
 match bx m with
 | some ⟨_,t⟩=>Nat.beq t ety
 | Option.none=>true
def cS (st:St)(L:List Nat)(ty:TypeId):St:=L.foldl (fun st s=>st.box s ⟨.aK [],ty⟩) st
def im (st:St)(m:Option Nat)(d:Nat):Bool:=
 match st.boxes (dW m d) with
 | some _=>false
 | Option.none=>true
def eu (P:Program)(T:cB)(m:CM)(f:FuncId)(xs:List SV)(ty:TypeId)(dst:Option Nat)(st:St)(V:View)(K:St->View->Prop):Prop:=
 match Tv T ty with
 | Option.none=>False
 | some sh=>match reach st.boxes 3 (dedup (xs.flatMap SV.ids)) with
  | []=>match m with
   | .give=>match dst,Hw T ty with
    | some d,some ety=>match im st Option.none d with
     | false=>False
     | true=>∀V':View,V.Le V'->Acts P f (aF (fun _=>0) xs) V' (bz T true sh [] Option.none d ety (fun _=>0) st V' K)
    | _,_=>False
   | .gg=>match sh,dst with
    | .val (.one .ptr),some d=>match st.boxes d with
     | some _=>False
     | Option.none=>match au T ty with
      | some ti=>match ti.k with
       | .ptr e=>match au T e with
        | some ei=>∀V':View,V.Le V'->Acts P f (aF (fun _=>0) xs) V' fun r dK=>∃b:Nat,Mb (ei.zero.map QE) fun cs=>
          r=.pointer (some ⟨b,0,Option.none⟩)/\V'.w.heap.size<=b/\dK.aW b (.cells (cs.map (C.den fun _=>0)).toArray e (0,0))/\K ((st.box d ⟨.lit cs,e⟩).put (some d) (.c (.ptr d 0))) (dK.JL b)
        | Option.none=>False
       | _=>False
      | Option.none=>False
    | _,_=>False
   | _=>∀V':View,V.Le V'->Acts P f (aF (fun _=>0) xs) V' fun r dK=>sh.ex fun x=>r=x.den (fun _=>0)/\K (st.put dst x) dK
  | s::r=>match fK st.boxes (s::r) with
   | false=>False
   | true=>match m with
    | .none|.gg=>False
    | .give=>match dst,Hw T ty,kk xs,oC st.boxes (s::r) with
     | some d,some ety,[],[]=>match im st Option.none d with
      | false=>False
      | true=>∀V':View,V.Le V'->jX (s::r) (fun _=>0) fun β=>gk st.boxes β V' (s::r)
       (Acts P f (aF β xs) (V'.lend ((s::r).map (cE st.boxes β V'.w.heap.size))) (bz T true sh (s::r) Option.none d ety β st V' K))
     | some d,some ety,[m],[]=>match zK st.boxes m ety with
      | true=>match im st (some m) d with
       | false=>False
       | true=>∀V':View,V.Le V'->jX (s::r) (fun _=>0) fun β=>gk st.boxes β V' (s::r)
        (Acts P f (aF β xs) (V'.lend ((s::r).map (cE st.boxes β V'.w.heap.size))) (bz T true sh (s::r) (some m) d ety β st V' K))
      | false=>match im (cS st (s::r) 0) Option.none d with
       | false=>False
       | true=>match (s::r).all fun t=>Nat.blt t 100000 with
        | false=>False
        | true=>∀V':View,V.Le V'->jX (s::r) (fun _=>0) fun β=>oM st.boxes β V' (s::r)
         (Acts P f (aF β xs) V' (bz T true sh [] Option.none d ety (fun _=>0) (cS st (s::r) 0) V' K))
     | _,_,_,_=>False
    | .lend=>match oC st.boxes (s::r) with
     | []=>∀V':View,V.Le V'->jX (s::r) (fun _=>0) fun β=>gk st.boxes β V' (s::r)
      (Acts P f (aF β xs) (V'.lend ((s::r).map (cE st.boxes β V'.w.heap.size))) fun r' dK=>sh.ex fun x=>r'=x.den (fun _=>0)/\du T Option.none β dK (s::r) st fun st'=>K (st'.put dst x) dK.shut)
     | [m]=>match dst,jy st.boxes m with
      | some d,some ety=>match im st (some m) d with
       | false=>False
       | true=>∀V':View,V.Le V'->jX (s::r) (fun _=>0) fun β=>gk st.boxes β V' (s::r)
        (Acts P f (aF β xs) (V'.lend ((s::r).map (cE st.boxes β V'.w.heap.size))) (bz T false sh (s::r) (some m) d ety β st V' K))
      | _,_=>False
     | _=>False
    | .rel=>match (s::r).all fun t=>Nat.blt t 100000 with
     | false=>False
     | true=>∀V':View,V.Le V'->jX (s::r) (fun _=>0) fun β=>oM st.boxes β V' (s::r)
      (Acts P f (aF β xs) V' fun r' dK=>sh.ex fun x=>r'=x.den (fun _=>0)/\∀J:C->Value,K ((st.rel (s::r) β J).put dst x) dK)
def kx (bx:Nat->Option aG):List SV->Option (List Value×Nat×List SV)
 | []=>none
 | x::r=>match x with
  | .c (.fU s n c)=>match bx s with
   | some ⟨.aK vs,_⟩=>some (vs,c,.c (.v (.slice none n c))::r)
   | _=>none
  | x=>match kx bx r with
   | some (vs,c,r')=>some (vs,c,x::r')
   | none=>none
def jq (P:Program)(T:cB)(m:CM)(f:FuncId)(xs:List SV)(ty:TypeId)(dst:Option Nat)(st:St)(V:View)(K:St->View->Prop):Prop:=
 match m with
 | .lend=>match kx st.boxes xs with
  | some (vs,c,xs')=>(vs=[]->c=0/\eu P T .lend f xs' ty dst st V K)/\(vs≠[]->eu P T .lend f xs ty dst st V K)
  | none=>eu P T .lend f xs ty dst st V K
 | m=>eu P T m f xs ty dst st V K
def tK (ss:List Nat):List SV:=ss.map fun s=>.c (.ptr s 0)
inductive Hint where
 | free|own (l:List Nat)
def fY (op:Op):List Operand:=
 match op with
 | .load _ a=>[a]
 | .store _ a _=>[a]
 | .call ⟨.value f,args,_⟩=>args.toList++[f]
 | .call ⟨.builtin .append,args,_⟩=>args.toList
 | _=>[]
def dD (bx:Nat->Option aG)(op:Op)(l:List Nat):List Nat:=
 match op with
 | .call _=>reach bx 3 (dedup l)
 | _=>l
def DH (P:Program)(t:TypeId)(name:String):Option FuncId:=
 match P.info? t,P.underlying t with
 | some i,some d=>match i.methods.find? (fun m=>m.name==name) with
  | some m=>match m.path.toList,m.func,d with
   | [],some (f,false),.struct _=>some f
   | _,_,_=>none
  | none=>none
 | _,_=>none
def cu (P:Program)(T:cB)(m:CM)(o:Oper)(st:St)(V:View)(K:St->View->Prop):Prop:=
 match o.op with
 | .call ⟨.value Jf,args,_⟩=>match bH st.aP args.toList with
  | some xs=>match st.aP Jf with
   | some (.c (.A5 f ss))=>jq P T m f (xs++tK ss) o.type o.dst st V K
   | _=>False
  | none=>False
 | .call ⟨.invoke recv name,args,_⟩=>match bH st.aP args.toList with
  | some xs=>match st.aP recv with
   | some (.c (.w (.iface t v)))=>match DH P t name with
    | some f=>jq P T m f (.c (.w v)::xs) o.type o.dst st V K
    | none=>False
   | _=>False
  | none=>False
 | op=>rY (aD T st.aP st.boxes op) o.dst st V K
def cf (P:Program)(T:cB)(m:CM)(h:Hint)(o:Oper)(st:St)(V:View)(K:St->View->Prop):Prop:=
 match h with
 | .free=>cu P T m o st V K
 | .own l=>match bH st.aP (fY o.op) with
  | some xs=>match IX (dD st.boxes o.op (xs.flatMap SV.ids)) l with
   | true=>cu P T m o st V K
   | false=>False
  | none=>False
def iA:SV:=.nT []
def pg (P:Program)(T:cB)(m:CM)(h:Hint)(ops:Array Oper)(o:Oper)(st:St)(V:View)(K:St->View->Prop):Prop:=
 match o.guard with
 | none=>cf P T m h o st V K
 | some (j,b)=>match (ops[j]?).bind (·.dst) with
  | none=>False
  | some g=>match st.ao g with
   | some (.c .tt)=>match b with
    | true=>cf P T m h o st V K
    | false=>K (st.put o.dst iA) V
   | some (.c .ff)=>match b with
    | true=>K (st.put o.dst iA) V
    | false=>cf P T m h o st V K
   | some (.c (.v (.bool c)))=>match b with
    | true=>(c=true->cf P T m h o (st.put (some g) (.c .tt)) V K)/\(c=false->K ((st.put (some g) (.c .ff)).put o.dst iA) V)
    | false=>(c=true->K ((st.put (some g) (.c .tt)).put o.dst iA) V)/\(c=false->cf P T m h o (st.put (some g) (.c .ff)) V K)
   | some (.nT _)=>K (st.put o.dst iA) V
   | _=>False
inductive QI where
 | pure|load|store|alloc|call|jH|odd|gg|app|give
def aS (LF RF:List Nat):Op->QI
 | .move _|.assign _|.pick ..| .build ..| .nilCheck _|.binOp ..| .unOp ..| .convert ..| .makeFunc ..| .slice ..| .fieldAddr ..| .field ..| .indexAddr ..| .extract ..| .index ..| .makeInterface ..=>.pure
 | .load ..=>.load
 | .store ..=>.store
 | .alloc _|.box ..| .buildSlice ..| .makeSlice ..=>.alloc
 | .call ⟨.builtin .len,_,_⟩|.call ⟨.builtin .cap,_,_⟩=>.pure
 | .call ⟨.builtin .append,_,_⟩=>.app
 | .call ⟨.value (.func f),_,_⟩=>match dM f LF with
  | true=>match dM (f+1000000) LF with
   | true=>.give
   | false=>.jH
  | false=>match dM f RF with
   | true=>.odd
   | false=>match dM (f+1000000) RF with
    | true=>.gg
    | false=>.call
 | .call ⟨.value _,_,_⟩=>.jH
 | .call ⟨.invoke _ _,_,_⟩=>.call
 | _=>.odd
def fZ (op:Op):List Nat:=op.operands.toList.filterMap fun|.tmp t=>some t|_=>none
def cV (ops:Array Oper)(o:Oper):List Nat:=
 match o.guard with
 | none=>[]
 | some (j,_)=>match (ops[j]?).bind (·.dst) with
  | some g=>[g]
  | none=>[]
def dq (o:Oper):List Nat:=match o.dst with|some d=>[d]|none=>[]
def oO (c:QI)(h:Hint)(d:List Nat):Option (List Nat×List Nat):=
 match c,h with
 | .pure,.free=>some ([],[])
 | .call,.free=>some ([],[])
 | .alloc,.free=>some (d,d)
 | .load,.own l=>some (l,[])
 | .store,.own l=>some (l,l)
 | .jH,.own l=>some (l,l++d++d.map (·+ 200000))
 | .app,.own l=>some (l,l++d++d.map (·+ 200000))
 | .give,.own l=>some (l,l++d++d.map (·+ 200000))
 | _,_=>none
def lu:QI->Bool
 | .pure|.load|.store|.alloc=>true
 | _=>false
def indep (LF RF:List Nat)(ops:Array Oper)(h1 h2:Hint)(o1 o2:Oper):Bool:=
 lu (aS LF RF o1.op) &&
 tR (dq o1) (fZ o2.op++cV ops o2++dq o2)&&tR (dq o2) (fZ o1.op++cV ops o1) &&
 tR (cV ops o1) (fZ o2.op)&&tR (cV ops o2) (fZ o1.op) &&
 match oO (aS LF RF o1.op) h1 (dq o1),oO (aS LF RF o2.op) h2 (dq o2) with
 | some (r1,w1),some (r2,w2)=>tR w1 r2&&tR w2 r1&&tR w1 w2
 | _,_=>false
def Ot (ops:List Oper)(t:Nat):Option Oper:=ops.find? fun o=>match o.dst with|some d=>Nat.beq d t|none=>false
def uW (st:St)(ops:List Oper):Nat->Operand->List Nat
 | 0,_=>[]
 | n+1,.tmp t=>match Ot ops t with
  | some o=>match o.op with
   | .alloc _|.box ..| .buildSlice ..| .makeSlice ..=>[t]
   | .call _=>[t,t+200000]
   | .assign x=>uW st ops n x++match st.ao t with
    | some x=>x.ids
    | none=>[]
   | .load _ a=>(uW st ops n a).flatMap (jZ st.boxes)
   | op=>op.operands.toList.flatMap (uW st ops n)
  | none=>match st.ao t with
   | some x=>x.ids
   | none=>[]
 | _,_=>[]
def HA (LF RF:List Nat)(st:St)(ops:List Oper)(o:Oper):Hint:=
 match aS LF RF o.op with
 | .load|.store=>.own (dedup ((fY o.op).flatMap (uW st ops 10)))
 | .jH|.app|.give=>.own (reach st.boxes 3 (dedup ((fY o.op).flatMap (uW st ops 10))))
 | _=>.free
def Fk (ops:List Oper):List Nat:=
 ops.foldl (fun acc o=>acc++[o.after.toList.foldl (fun s e=>cond (Region.binds .any e) (Nat.lor (Nat.lor (Nat.shiftLeft 1 e.on) (acc.getD e.on 0)) s) s) 0]) []
def LU (m i:Nat):Bool:=Nat.beq (Nat.land (Nat.shiftRight m i) 1) 1
def JU (LF RF:List Nat)(o:Oper):Bool:=match aS LF RF o.op with|.call|.jH|.odd|.gg|.app|.give=>true|_=>false
def D1 (ops:Array Oper)(done:List Nat)(i:Nat):Bool:=
 match ops[i]? with
 | some o=>!(dM i done)&&o.after.toList.all fun e=>!(Region.binds .any e)||dM e.on done
 | none=>false
def zP (LF RF:List Nat)(ops:Array Oper):Nat->List Nat->List Nat
 | 0,_=>[]
 | n+1,done=>
  let rs:=(List.range ops.size).filter (D1 ops done)
  match rs.find? (fun i=>match ops[i]? with|some o=>!(JU LF RF o)|none=>false) with
  | some i=>i::zP LF RF ops n (i::done)
  | none=>match rs with
   | i::_=>i::zP LF RF ops n (i::done)
   | []=>[]
def nt (LF RF:List Nat)(ops:Array Oper):List Nat:=zP LF RF ops ops.size []
def sP (LF RF:List Nat)(ops:Array Oper)(hs:List Hint)(an:List Nat):List Nat->Bool
 | []=>true
 | i::r=>(r.all fun j=>LU (an.getD j 0) i||match ops[i]?,ops[j]? with|some a,some b=>indep LF RF ops (hs.getD i .free) (hs.getD j .free) a b|_,_=>false)&&sP LF RF ops hs an r
def oK (ops:Array Oper):List Nat->List Nat->Bool
 | _,[]=>true
 | done,i::r=>D1 ops done i&&oK ops (i::done) r
def E0 (LF RF:List Nat)(ops:Array Oper)(hs:List Hint)(l:List Nat):Bool:=
 Nat.beq l.length ops.size&&((List.range ops.size).all fun i=>dM i l)&&oK ops [] l&&sP LF RF ops hs (Fk ops.toList) l
def I4 (P:Program)(T:cB)(m:Nat->CM)(hint:Nat->Hint)(ops:Array Oper):List Nat->St->View->(St->View->Prop)->Prop
 | [],st,V,K=>K st V
 | i::r,st,V,K=>match ops[i]? with
  | some o=>pg P T (m i) (hint i) ops o st V fun st' V'=>I4 P T m hint ops r st' V' K
  | none=>False
def jh (LF RF:List Nat)(ops:Array Oper)(i:Nat):CM:=
 match ops[i]? with
 | some o=>match aS LF RF o.op with
  | .jH=>.lend
  | .odd=>.rel
  | .gg=>.gg
  | .give=>.give
  | _=>.none
 | Option.none=>.none
def Pm (LF RF:List Nat)(ops:Array Oper)(i:Nat):CM:=
 match ops[i]? with
 | some o=>match aS LF RF o.op with
  | .jH=>.lend
  | .gg=>.gg
  | .give=>.give
  | _=>.rel
 | Option.none=>.none
structure Tm where
 τ:Type
 gh:Bool:=false
 SB:List Nat
 O1:List Nat
 ao:τ->List (Nat×SV)
 boxes:τ->List (Nat×aG)
structure LD where
 τ:Type
 ao:τ->List (Nat×SV)
 boxes:τ->List (Nat×aG)
def ES {α:Type}(f:Nat->Option α):List Nat->List (Nat×α)
 | []=>[]
 | t::r=>match f t with
  | some x=>(t,x)::ES f r
  | none=>ES f r
def Tm.at (A:Tm)(st:St):LD:=⟨A.τ,fun x=>ES st.ao A.SB++A.ao x,fun x=>ES st.boxes A.O1++A.boxes x⟩
def mY (ρ:List (Nat×Nat))(s s':Nat):Bool:=
 match au ρ s' with
 | some t=>Nat.beq s t
 | none=>Nat.beq s s'
def xN (ρ:List (Nat×Nat)):List Nat->List Nat->Bool
 | [],[]=>true
 | s::r,s'::r'=>mY ρ s s'&&xN ρ r r'
 | _,_=>false
def Qq (ρ:List (Nat×Nat)):C->C->List Prop
 | .v (.int k a),.v (.int k' b)=>cond (ui k k') [a=b] [False]
 | .v (.bool a),.v (.bool b)=>[a=b]
 | .tt,.v (.bool b)=>[true=b]
 | .ff,.v (.bool b)=>[false=b]
 | .v (.slice a n c),.v (.slice a' n' c')=>[a=a',n=n',c=c']
 | .v (.slice a n c),.fU _ n' c'=>[a=none,n=n',c=c',c=0]
 | .v (.pointer p),.v (.pointer q)=>[p=q]
 | .v x,.v y=>[x=y]
 | .w x,.w y=>[x=y]
 | .w x,.v y=>[x=y]
 | .v x,.w y=>[x=y]
 | .tt,.tt=>[]
 | .ff,.ff=>[]
 | .ptr s o,.ptr s' o'=>cond (mY ρ s s') [o=o'] [False]
 | .kK s o n c,.kK s' o' n' c'=>cond (mY ρ s s') [o=o',n=n',c=c'] [False]
 | .kK s o n c,.fU s' n' c'=>cond (mY ρ s s') [o=0,n=n',c=c',c≠0] [False]
 | .fU s n c,.fU s' n' c'=>cond (mY ρ s s') [n=n',c=c'] [False]
 | .A5 f ss,.A5 g ts=>cond (xN ρ ss ts) [f=g] [False]
 | _,_=>[False]
def Dq (ρ:List (Nat×Nat)):List C->List C->List Prop
 | [],[]=>[]
 | a::r,b::s=>Qq ρ a b++Dq ρ r s
 | _,_=>[False]
def L_ (ρ:List (Nat×Nat)):SV->SV->List Prop
 | .c a,.c b=>Qq ρ a b
 | .agg l,.agg m=>Dq ρ l m
 | _,_=>[False]
def SV.plain:SV->Bool
 | .nT _=>false
 | _=>true
def Hn (ρ:List (Nat×Nat))(a b:aG):List Prop:=
 match a.cs,b.cs with
 | .lit l,.lit m=>cond (Nat.beq a.ty b.ty) (Dq ρ l m) [False]
 | .row l,.row m=>cond (Nat.beq a.ty b.ty) [l=m] [False]
 | .aK l,.aK m=>cond (Nat.beq a.ty b.ty) [l=m] [False]
 | .row l,.aK m=>cond (Nat.beq a.ty b.ty) [l=m] [False]
 | .lit l,.aK m=>match jT l with
  | some ws=>cond (Nat.beq a.ty b.ty) [ws=m] [False]
  | none=>[False]
 | _,_=>[False]
def PV:C->C->List (Nat×Nat)
 | .ptr s _,.ptr s' _=>[(s',s)]
 | .kK s _ _ _,.kK s' _ _ _=>[(s',s)]
 | .kK s _ _ _,.fU s' _ _=>[(s',s)]
 | .fU s _ _,.fU s' _ _=>[(s',s)]
 | .A5 _ ss,.A5 _ ts=>ts.zip ss
 | _,_=>[]
def IF:List C->List C->List (Nat×Nat)
 | a::r,b::s=>PV a b++IF r s
 | _,_=>[]
def PW:SV->SV->List (Nat×Nat)
 | .c a,.c b=>PV a b
 | .agg l,.agg m=>IF l m
 | _,_=>[]
def M6 (st:St):List (Nat×SV)->List (Nat×Nat)
 | []=>[]
 | (t,x)::r=>match st.ao t with
  | some y=>PW y x++M6 st r
  | none=>M6 st r
def Ge (st:St)(ρ:List (Nat×Nat)):List (Nat×aG)->List (Nat×Nat)
 | []=>[]
 | (t,x)::r=>match au ρ t with
  | some s=>match st.boxes s with
   | some y=>(match y.cs,x.cs with|.lit l,.lit m=>IF l m|_,_=>[])++Ge st ρ r
   | none=>Ge st ρ r
  | none=>Ge st ρ r
def IE (st:St)(ss:List (Nat×SV))(bs:List (Nat×aG)):List (Nat×Nat):=
 let ρ1:=M6 st ss
 let ρ2:=ρ1++Ge st ρ1 bs
 let ρ3:=ρ2++Ge st ρ2 bs
 ρ3++Ge st ρ3 bs
def zI (ρ:List (Nat×Nat))(t:Nat):Nat:=
 match au ρ t with
 | some s=>s
 | none=>t
def yn (ρ:List (Nat×Nat)):List Nat->Bool
 | []=>true
 | t::r=>(Nat.blt t 100000==Nat.blt (zI ρ t) 100000)&&(Nat.blt t 100000||Nat.ble 200000 t||Nat.beq (zI ρ t) t)&&(r.all fun u=>!(Nat.beq (zI ρ t) (zI ρ u)))&&yn ρ r
def lD (ρ:List (Nat×Nat)):List (Nat×aG)->List Nat
 | []=>[]
 | (t,x)::r=>match x.cs with
  | .aK _=>match au ρ t with
   | some _=>t::lD ρ r
   | none=>lD ρ r
  | _=>t::lD ρ r
def JD (ρ:List (Nat×Nat))(st:St):List (Nat×SV)->List Prop
 | []=>[]
 | (t,x)::r=>match st.ao t with
  | some y=>L_ ρ y x++JD ρ st r
  | none=>[False]
def FJ (ρ:List (Nat×Nat))(st:St):List (Nat×aG)->List Prop
 | []=>[]
 | (t,x)::r=>match x.cs,au ρ t with
  | .aK l,none=>(l=[])::FJ ρ st r
  | _,_=>match st.boxes (zI ρ t) with
   | some y=>Hn ρ y x++FJ ρ st r
   | none=>[False]
def Oq (ρ:List (Nat×Nat))(bs:List (Nat×aG)):List Prop:=cond (yn ρ (lD ρ bs)) [] [False]
def lK (ss:List (Nat×SV))(bs:List (Nat×aG)):Bool:=
 let l:=bs.map (·.1)
 (ss.all fun x=>x.2.ids.all fun s=>dM s l)&&(bs.all fun x=>x.2.cs.ids.all fun s=>dM s l)
def LD.st (A:LD)(x:A.τ):St:=⟨au (A.ao x),au (A.boxes x)⟩
def LP:List Prop->Prop
 | []=>True
 | [p]=>p
 | p::r=>p/\LP r
def LD.fits (A:LD)(st:St)(x:A.τ)(k:Prop):Prop:=
 let ρ:=IE st (A.ao x) (A.boxes x)
 LP (JD ρ st (A.ao x)++FJ ρ st (A.boxes x)++Oq ρ (A.boxes x))/\k
def keyOf:Code->Nat
 | .region id _ _=>id
 | .seq a _=>keyOf a
 | .cond _ a b=>match keyOf a with
  | 1000000=>keyOf b
  | n=>n
 | .block _ a=>keyOf a
 | .loop a=>keyOf a
 | .scope a=>keyOf a
 | _=>1000000
abbrev Az:=List (Nat×Tm)
def nV:Az->Nat->Option Tm
 | [],_=>none
 | (s,x)::r,t=>cond (Nat.beq t s) (some x) (nV r t)
def Lv (RF:List Nat)(id:Nat):List Nat:=RF.filterMap fun x=>cond (Nat.beq (x / 100000) (100+id)) (some (x%100000)) none
def Fc (l:List Nat)(st:St)(V:View)(K:St->View->Prop):Prop:=
 match l with
 | []=>K st V
 | s::r=>match fK st.boxes (s::r)&&(s::r).all fun t=>Nat.blt t 100000 with
  | false=>False
  | true=>∀V':View,V.Le V'->jX (s::r) (fun _=>0) fun β=>oM st.boxes β V' (s::r) (∀J:C->Value,K (st.rel (s::r) β J) V')
def Cv (P:Program)(T:cB)(LF RF:List Nat)(ops:Array Oper)(draw:Bool)(st:St)(V:View)(K:St->View->Prop):Prop:=
 match draw with
 | false=>I4 P T (Pm LF RF ops) (fun _=>.free) ops (List.range ops.size) st V K
 | true=>let hs:=ops.toList.map (HA LF RF st ops.toList)
  match E0 LF RF ops hs (nt LF RF ops) with
  | true=>I4 P T (jh LF RF ops) (fun i=>hs.getD i .free) ops (nt LF RF ops) st V K
  | false=>False
def TD (F:St->View->(Exit->St->View->Prop)->Prop):Nat->St->View->(Exit->St->View->Prop)->Prop
 | 0,_,_,_=>False
 | n+1,st,V,K=>F st V fun e st' V'=>match e with
  | .normal=>TD F n st' V' K
  | e=>K e st' V'
def vc (P:Program)(T:cB)(LF RF:List Nat)(L J:Az):Code->St->View->(Exit->St->View->Prop)->Prop
 | .skip,st,V,K=>K .normal st V
 | .region id ops draw,st,V,K=>match nV J (600000+id) with
  | none=>Fc (Lv RF id) st V fun st' V'=>Cv P T LF RF ops draw st' V' (K .normal)
  | some A=>∃I:A.τ->View->Prop,Fc (Lv RF id) st V (fun st' V'=>Cv P T LF RF ops draw st' V' fun IU dK=>∃x,(A.at st).fits IU x (I x dK)) /\
   ∀x V',V.Le V'->I x V'->(lK ((A.at st).ao x) ((A.at st).boxes x)=true/\K .normal ((A.at st).st x) V')
 | .seq a b,st,V,K=>vc P T LF RF L J a st V fun e st' V'=>match e with
  | .normal=>vc P T LF RF L J b st' V' K
  | e=>K e st' V'
 | .cond c a b,st,V,K=>match nV J (keyOf (.cond c a b)) with
  | none=>match st.aP c with
   | some (.c .tt)=>vc P T LF RF L J a st V K
   | some (.c .ff)=>vc P T LF RF L J b st V K
   | some (.c (.v (.bool t)))=>(t=true->vc P T LF RF L J a st V K)/\(t=false->vc P T LF RF L J b st V K)
   | _=>False
  | some A=>match st.aP c with
   | some (.c .tt)=>vc P T LF RF L J a st V K
   | some (.c .ff)=>vc P T LF RF L J b st V K
   | some (.c (.v (.bool t)))=>∃I:A.τ->View->Prop,
    ((t=true->vc P T LF RF L J a st V fun e st' V'=>match e with
     | .normal=>∃x,(A.at st).fits st' x (I x V')
     | e=>K e st' V') /\
      (t=false->vc P T LF RF L J b st V fun e st' V'=>match e with
     | .normal=>∃x,(A.at st).fits st' x (I x V')
     | e=>K e st' V')) /\
    ∀x V',V.Le V'->I x V'->(lK ((A.at st).ao x) ((A.at st).boxes x)=true/\K .normal ((A.at st).st x) V')
   | _=>False
 | .block id a,st,V,K=>match nV J (500000+id) with
  | none=>vc P T LF RF L J a st V fun e st' V'=>match e with
   | .exit i=>cond (Nat.beq i id) (K .normal st' V') (K (.exit i) st' V')
   | e=>K e st' V'
  | some A=>∃I:A.τ->View->Prop,vc P T LF RF L J a st V (fun e st' V'=>match e with
   | .exit i=>cond (Nat.beq i id) (∃x,(A.at st).fits st' x (I x V')) (K (.exit i) st' V')
   | .normal=>∃x,(A.at st).fits st' x (I x V')
   | e=>K e st' V')/\∀x V',V.Le V'->I x V'->(lK ((A.at st).ao x) ((A.at st).boxes x)=true/\K .normal ((A.at st).st x) V')
 | .loop a,st,V,K=>match nV L (keyOf a) with
  | none=>TD (fun st V K=>vc P T LF RF L J a st V K) 3 st V K
  | some A=>match A.gh with
   | false=>∃(I:A.τ->View->Prop)(m:A.τ->Nat),(∃x,(A.at st).fits st x (I x V))/\∀x V',V.Le V'->I x V'->(lK ((A.at st).ao x) ((A.at st).boxes x)=true /\
    vc P T LF RF L J a ((A.at st).st x) V' fun e st' dK=>match e with
     | .normal=>∃y,m y<m x/\(A.at st).fits st' y (I y dK)
     | e=>K e st' dK)
   | true=>∃I:A.τ->Nat->View->Prop,(∃x k,(A.at st).fits st x (I x k V))/\∀x k V',V.Le V'->I x k V'->(lK ((A.at st).ao x) ((A.at st).boxes x)=true /\
    vc P T LF RF L J a ((A.at st).st x) V' fun e st' dK=>match e with
     | .normal=>∃y k',k'<k/\(A.at st).fits st' y (I y k' dK)
     | e=>K e st' dK)
 | .exit id,st,V,K=>K (.exit id) st V
 | .ret,st,V,K=>K .ret st V
 | .scope a,st,V,K=>vc P T LF RF L J a st V fun e st' V'=>match e with
  | .goto _=>False
  | e=>K e st' V'
 | .label _,st,V,K=>K .normal st V
 | _,_,_,_=>False
def ku (T:cB)(st:St):List ResultVar->Option (List SV)
 | []=>some []
 | .tmp t::r=>match st.ao t,ku T st r with
  | some x,some l=>some (x::l)
  | _,_=>none
 | .cell a t::r=>match st.ao a,au T t,ku T st r with
  | some (.c (.ptr s o)),some i,some l=>match iw st.boxes i (.c (.ptr s o)) with
   | .ret _ x=>some (x::l)
   | _=>none
  | _,_,_=>none
def minus (l m:List Nat):List Nat:=l.filter fun x=>!(dM x m)
def GV (bx:Nat->Option aG)(β:Nat->Nat)(V:View):List Nat->Prop->Prop
 | [],k=>k
 | s::r,k=>match bx s with
  | some ⟨.aK _,_⟩=>False
  | some b=>V.w.heap[β s]?=some (b.obj β)->GV bx β V r k
  | none=>False
def iG:List (Nat×aG)->List Nat
 | []=>[]
 | (s,b)::r=>match b.cs with
  | .aK _=>iG r
  | _=>s::iG r
def HY (bs:List (Nat×aG))(β0:Nat->Nat)(b:Nat)(k:Prop):Prop:=
 match bs with
 | []=>k
 | (m,x)::r=>match x.cs with
  | .aK vs=>(vs≠[]/\b=β0 m)\/HY r β0 b k
  | _=>HY r β0 b k
def kt (β:Nat->Nat):List SV->Value
 | [x]=>x.den β
 | l=>.tuple (l.map (SV.den β)).toArray
def rD (T:cB)(bx:Nat->Option aG)(s:Nat):Bool:=
 cond (Nat.ble 100000 s) true (match bx s with|some ⟨.row _,ty⟩|some ⟨.aK _,ty⟩=>Nat.ble 2 (T.filter fun x=>Nat.beq x.1 ty).length|some ⟨.lit _,ty⟩=>Nat.ble 3 (T.filter fun x=>Nat.beq x.1 ty).length|_=>false)
def E2 (T:cB)(rs:List ResultVar)(bs:List (Nat×aG))(β0:Nat->Nat)(n0:Nat)(R:Value->View->Prop)(st:St)(V:View):Prop:=
 match ku T st rs with
 | none=>False
 | some xs=>let F:=iG bs
  let L:=reach st.boxes 3 (dedup (xs.flatMap SV.ids++F))
  match fK st.boxes L with
  | false=>False
  | true=>match (minus L F).filter (rD T st.boxes) with
   | []=>∀V':View,V.Le V'->jX (minus L F) β0 fun β=>GV st.boxes β V' F (oM st.boxes β V' (minus L F) (R (kt β xs) V'))
   | [s]=>match st.boxes s with
    | some b=>∀V':View,jX (minus L F) β0 fun β=>V.Le (V'.hideG (Rg b) (β s))->GV st.boxes β V' F (ou (Gx b) (V'.w.heap[β s]?=some (b.obj β)) ->
      ou (Gx b) (n0<=β s\/HY bs β0 (β s) False)->oM st.boxes β V' ((minus L F).filter (!Nat.beq s ·)) (R (kt β xs) V'))
    | none=>False
   | _=>False
def TH (P:Program)(T:cB)(LF RF:List Nat)(L J:Az)(code:Code)(rs:List ResultVar)(ss:List (Nat×SV))(bs:List (Nat×aG))(β0:Nat->Nat)(V:View)(R:Value->View->Prop):Prop:=
 vc P T LF RF L J code ⟨au ss,au bs⟩ V fun e st V'=>match e with
  | .normal=>E2 T rs bs β0 V.w.heap.size R st V'
  | .ret=>E2 T rs bs β0 V.w.heap.size R st V'
  | _=>False
def fV (n:Nat):Code->Bool
 | .region _ ops _=>ops.toList.all fun o=>match o.dst with|some d=>Nat.blt d n|none=>true
 | .seq a b=>fV n a&&fV n b
 | .cond _ a b=>fV n a&&fV n b
 | .block _ a=>fV n a
 | .loop a=>fV n a
 | .scope a=>fV n a
 | _=>true
def mq:Nat->List (Nat×SV)->Bool
 | _,[]=>true
 | i,(j,x)::r=>Nat.beq i j&&x.plain&&mq (i+1) r
def zV (P:Program)(T:cB)(LF RF:List Nat)(L J:Az)(fn:Func)(ss:List (Nat×SV))(bs:List (Nat×aG))(β0:Nat->Nat)(V:View)(R:Value->View->Prop):Prop:=
 match fn.body with
 | some code=>match fV fn.ntmps code&&mq 0 ss&&Nat.ble ss.length fn.ntmps&&Nat.ble fn.ntmps 100000&&(bs.all fun b=>Nat.ble 100000 b.1&&Nat.blt b.1 200000)&&lK ss bs with
  | true=>TH P T LF RF L J code fn.results.toList ss bs β0 V R
  | false=>False
 | none=>False
theorem View.Le.refl (V:View):V.Le V:=fun _ _ h=>h
theorem View.Le.trans {V V' dK:View}(h:V.Le V')(k:V'.Le dK):V.Le dK:=fun b o x=>k b o (h b o x)
theorem View.Le.at {V V':View}(h:V.Le V'){p:Addr}{v:Value}(k:V.at p v):V'.at p v:=by
 obtain ⟨b,a⟩:=k
 unfold World.cell? at a
 split at a
 ·rename_i c
  obtain ⟨d,e⟩:=h p.block _ ⟨b,c⟩
  refine ⟨d,?_⟩
  unfold World.cell?
  rw [e]
  exact a
 ·cases a
theorem dP.refl (X:Nat->Prop)(w:World):dP X w w:=⟨Nat.le_refl _,fun _ _ _=>rfl,rfl,rfl,rfl⟩
theorem dP.trans {X:Nat->Prop}{a b c:World}(h:dP X a b)(k:dP X b c):dP X a c:=
 ⟨Nat.le_trans h.size k.size,fun i d e=>(k.aW i (Nat.lt_of_lt_of_le d h.size) e).trans (h.aW i d e),k.os.trans h.os,k.tape.trans h.tape,k.out.trans h.out⟩
theorem dP.mono {X Y:Nat->Prop}{a b:World}(h:dP X a b)(hxy:∀i,X i->Y i):dP Y a b:=
 ⟨h.size,fun i c d=>h.aW i c fun e=>d (hxy i e),h.os,h.tape,h.out⟩
theorem View.Lr (V:View)(w':World)(hx:dP V.X V.w w'):V.Le (V.to w' hx.size):=by
 rintro b o ⟨d,a⟩
 refine ⟨d,?_⟩
 have c:b<V.w.heap.size:=by
  rcases Nat.lt_or_ge b V.w.heap.size with h|h
  ·exact h
  ·rw [Array.getElem?_eq_none h] at a;cases a
 show w'.heap[b]?=some o
 rw [hx.aW b c fun hX=>d (V.hX b hX)]
 exact a
theorem Acts.mono {P:Program}{f:FuncId}{args:Array Value}{V:View}{R R':Value->View->Prop}(h:Acts P f args V R)
  (hR:∀r V',V.Le V'->R r V'->R' r V'):Acts P f args V R':=
 ⟨h.1,h.2.mono fun _ b ⟨r,he,a,c⟩=>⟨r,he,a,hR r _ (V.Lr b a) c⟩⟩
structure C1 where
 ids:List Nat
 B:Nat->Prop
section
variable (n:Nat) (V0:View) (aY:C1) (β0:Nat->Nat)
structure Mod (st:St) (β:Nat->Nat) (a:Act) (w:World) (V:View):Prop where
 defers:a.defers=[]
 size:a.tmps.size=n
 ao:∀t x,st.ao t=some x->a.tmps.getD t undef=x.den β
 vP:∀t x,st.ao t=some x->∀s∈x.ids,∃b,st.boxes s=some b
 vO:∀s b,st.boxes s=some b->∀s'∈b.cs.ids,∃b',st.boxes s'=some b'
 boxes:∀s b,st.boxes s=some b->b.live->w.heap[β s]?=some (b.obj β)
 inj:∀s s' b b',st.boxes s=some b->b.live->st.boxes s'=some b'->b'.live->β s=β s'->s=s'
 mN:∀b o,V.aW b o->w.heap[b]?=some o/\¬V0.H b
 rS:∀s b,st.boxes s=some b->b.live->∀o,¬V.aW (β s) o
 ext:dP V0.X V0.w w
 own:∀s b,st.boxes s=some b->b.live->V0.w.heap.size<=β s\/(100000<=s/\aY.B (β s))
 jY:∀s∈aY.ids,(100000<=s/\s<200000)/\β s=β0 s
 jd:∀b,aY.B b->V0.X b
 small:n<=100000
end
theorem cj {cs:List C}{ty:TypeId}:aG.live ⟨.lit cs,ty⟩:=fun _ h=>nomatch h
theorem bT {vs:List Value}{ty:TypeId}:aG.live ⟨.row vs,ty⟩:=fun _ h=>nomatch h
theorem dE {vs:List Value}{ty:TypeId}(h:vs≠[]):aG.live ⟨.aK vs,ty⟩:=fun _ e=>by cases e;exact h
theorem dY {ty:TypeId}:¬aG.live ⟨.aK [],ty⟩:=fun h=>h [] rfl rfl
theorem eo {b:aG}{k:Prop}:ou (Gx b) k↔(b.live->k):=by
 obtain ⟨cs,ty⟩:=b
 cases cs with
 | lit cs=>exact ⟨fun h _=>h,fun h=>h cj⟩
 | row cs=>exact ⟨fun h _=>h,fun h=>h bT⟩
 | aK vs=>exact ⟨fun h l=>h (l vs rfl),fun h l=>h (dE l)⟩
theorem qU {l m:List Prop}{k:Prop}:ou (l++m) k↔ou l (ou m k):=by
 induction l with
 | nil=>exact Iff.rfl
 | cons p r ih=>exact ⟨fun h a=>ih.1 (h a),fun h a=>ih.2 (h a)⟩
theorem JG {b:aG}:Rg b↔b.live:=by
 obtain ⟨cs,ty⟩:=b
 cases cs with
 | lit cs=>exact ⟨fun _=>cj,fun _=>trivial⟩
 | row cs=>exact ⟨fun _=>bT,fun _=>trivial⟩
 | aK vs=>exact ⟨fun h=>dE h,fun l=>l vs rfl⟩
theorem C.bh {β β':Nat->Nat}{c:C}(h:∀s∈c.ids,β s=β' s):c.den β=c.den β':=by
 cases c with
 | v x=>rfl
 | w x=>rfl
 | tt=>rfl
 | ff=>rfl
 | ptr s o=>simp [C.den,h s (by simp [C.ids])]
 | kK s o n c=>simp [C.den,h s (by simp [C.ids])]
 | fU s n c=>simp [C.den,h s (by simp [C.ids])]
 | A5 f ss=>
  have:(ss.map fun s=>Value.pointer (some ⟨β s,0,none⟩))=ss.map fun s=>Value.pointer (some ⟨β' s,0,none⟩):=
   List.map_congr_left fun s a=>by rw [h s (by simpa [C.ids] using a)]
  simp only [C.den,this]
theorem kg {β β':Nat->Nat}{cs:List C}(h:∀s∈cs.flatMap C.ids,β s=β' s):cs.map (C.den β)=cs.map (C.den β'):=
 List.map_congr_left fun c a=>C.bh fun s b=>h s (List.mem_flatMap.2 ⟨c,a,b⟩)
theorem wh {β β':Nat->Nat}{x:Bool×List C}(h:∀s∈x.2.flatMap C.ids,β s=β' s):gy β x=gy β' x:=by
 obtain ⟨b,cs⟩:=x
 cases b with
 | true=>simp only [gy];rw [kg h]
 | false=>
  match cs,h with
  | [],_=>rfl
  | [c],h=>simp only [gy];exact C.bh fun s a=>h s (by simpa using a)
  | _::_::_,_=>rfl
theorem SV.bh {β β':Nat->Nat}{x:SV}(h:∀s∈x.ids,β s=β' s):x.den β=x.den β':=by
 cases x with
 | c x=>exact C.bh h
 | agg cs=>simp only [SV.den];rw [kg h]
 | nT xs=>
  simp only [SV.den]
  congr 2
  exact List.map_congr_left fun x a=>wh fun s b=>h s (List.mem_flatMap.2 ⟨x,a,b⟩)
theorem Cells.bh {β β':Nat->Nat}{x:Cells}(h:∀s∈x.ids,β s=β' s):x.den β=x.den β':=by
 cases x with
 | lit cs=>exact kg h
 | row vs=>rfl
 | aK vs=>rfl
theorem aG.ch {β β':Nat->Nat}{x:aG}(h:∀s∈x.cs.ids,β s=β' s):x.obj β=x.obj β':=by
 simp only [aG.obj];rw [Cells.bh h]
variable {P:Program} {T:cB} {n:Nat} {V0:View} {aY:C1} {β0:Nat->Nat} {st:St} {β:Nat->Nat} {a:Act} {w:World} {V:View}
theorem Mod.eval (h:Mod n V0 aY β0 st β a w V){x:Operand}{v:SV}(hx:st.aP x=some v):a.eval x=v.den β:=by
 cases x with
 | tmp t=>exact h.ao t v hx
 | const c=>
  simp only [St.aP,Option.some.injEq] at hx
  subst hx
  simp only [Act.eval]
  unfold SV.ofConst
  split
  ·rfl
  ·rfl
  ·rename_i cs
   simp only [SV.den]
   congr 1
   have:∀l:List Value,(l.map C.ofConst).map (C.den β)=l:=by
    intro l
    induction l with
    | nil=>rfl
    | cons y r ih=>
     simp only [List.map_cons,ih]
     congr 1
     unfold C.ofConst
     split<;>rfl
   rw [this]
  ·rfl
 | global g=>simp only [St.aP,Option.some.injEq] at hx;subst hx;rfl
 | func f=>simp only [St.aP,Option.some.injEq] at hx;subst hx;simp [Act.eval,SV.den,C.den]
theorem Mod.live (h:Mod n V0 aY β0 st β a w V){x:Operand}{v:SV}(hx:st.aP x=some v):∀s∈v.ids,∃b,st.boxes s=some b:=by
 cases x with
 | tmp t=>exact h.vP t v hx
 | const c=>
  simp only [St.aP,Option.some.injEq] at hx
  subst hx
  intro s d
  exfalso
  have e:∀y,(C.ofConst y).ids=[]:=by
   intro y
   unfold C.ofConst
   split<;>rfl
  unfold SV.ofConst at d
  split at d
  ·simp [SV.ids,C.ids] at d
  ·simp [SV.ids,C.ids] at d
  ·obtain ⟨c,i,d⟩:=List.mem_flatMap.1 d
   obtain ⟨y,_,rfl⟩:=List.mem_map.1 i
   rw [e] at d;cases d
  ·simp [SV.ids,C.ids] at d
 | global g=>simp only [St.aP,Option.some.injEq] at hx;subst hx;intro s d;simp [SV.ids,C.ids] at d
 | func f=>simp only [St.aP,Option.some.injEq] at hx;subst hx;intro s d;simp [SV.ids,C.ids] at d
theorem beq_eq {a b:Nat}:Nat.beq a b=true↔a=b:=by
 constructor
 ·exact Nat.eq_of_beq_eq_true
 ·intro h;subst h;exact Nat.beq_refl a
theorem cG (st:St)(d:Nat)(x:SV)(t:Nat):(st.put (some d) x).ao t=if t=d then some x else st.ao t:=by
 simp only [St.put]
 by_cases h:t=d
 ·subst h;simp [Nat.beq_refl]
 ·have:Nat.beq t d=false:=by
   cases hb:Nat.beq t d
   ·rfl
   ·exact absurd (beq_eq.1 hb) h
  simp [this,h]
theorem ah (st:St)(s:Nat)(b:aG)(t:Nat):(st.box s b).boxes t=if t=s then some b else st.boxes t:=by
 simp only [St.box]
 by_cases h:t=s
 ·subst h;simp [Nat.beq_refl]
 ·have:Nat.beq t s=false:=by
   cases hb:Nat.beq t s
   ·rfl
   ·exact absurd (beq_eq.1 hb) h
  simp [this,h]
theorem oo (l:Array Value)(d t:Nat)(v:Value)(hd:d<l.size):(l.setIfInBounds d v).getD t undef=if t=d then v else l.getD t undef:=by
 by_cases h:t=d
 ·subst h;simp [hd]
 ·simp [h,Ne.symm h]
theorem Mod.put (h:Mod n V0 aY β0 st β a w V){d:Nat}{x:SV}{v:Value}(hd:d<n)(hv:v=x.den β)(hl:∀s∈x.ids,∃b,st.boxes s=some b) :
  Mod n V0 aY β0 (st.put (some d) x) β (a.put (some d) v) w V where
 defers:=h.defers
 size:=by simp [Act.put,h.size]
 ao:=by
  intro t y c
  rw [cG] at c
  show (a.tmps.setIfInBounds d v).getD t undef=_
  rw [oo _ _ _ _ (by rw [h.size];exact hd)]
  split at c
  ·rename_i e;rw [if_pos e];simp only [Option.some.injEq] at c;rw [←c];exact hv
  ·rename_i e;rw [if_neg e];exact h.ao t y c
 vP:=by
  intro t y c
  rw [cG] at c
  split at c
  ·simp only [Option.some.injEq] at c;rw [←c];exact hl
  ·exact h.vP t y c
 vO:=h.vO
 boxes:=h.boxes
 inj:=h.inj
 mN:=h.mN
 rS:=h.rS
 ext:=h.ext
 own:=h.own
 jY:=h.jY
 jd:=h.jd
 small:=h.small
theorem Mod.DT (h:Mod n V0 aY β0 st β a w V){d:Option Nat}{x:SV}{v:Value}(hd:∀k,d=some k->k<n)(hv:v=x.den β)(hl:∀s∈x.ids,∃b,st.boxes s=some b) :
  Mod n V0 aY β0 (st.put d x) β (a.put d v) w V:=by
 cases d with
 | none=>exact h
 | some d=>exact h.put (hd d rfl) hv hl
theorem Mod.drew (h:Mod n V0 aY β0 st β a w V):Mod n V0 aY β0 st β a { w with drawn:=w.drawn+1 } V:=
 ⟨h.defers,h.size,h.ao,h.vP,h.vO,h.boxes,h.inj,h.mN,h.rS,⟨h.ext.size,h.ext.aW,h.ext.os,h.ext.tape,h.ext.out⟩,h.own,h.jY,h.jd,h.small⟩
theorem ar {w:World}{b:Nat}{o:Obj}(h:w.heap[b]?=some o):b<w.heap.size:=by
 rcases Nat.lt_or_ge b w.heap.size with a|a
 ·exact a
 ·rw [Array.getElem?_eq_none a] at h;cases h
theorem bJ (w:World)(o:Obj){b:Nat}(h:b<w.heap.size):(w.alloc o).heap[b]?=w.heap[b]?:=by
 show (w.heap.push o)[b]?=_
 rw [Array.getElem?_push,if_neg (by omega)]
theorem heap_alloc_new (w:World)(o:Obj):(w.alloc o).heap[w.heap.size]?=some o:=by
 show (w.heap.push o)[w.heap.size]?=_
 rw [Array.getElem?_push,if_pos rfl]
theorem aI (β:Nat->Nat)(s b:Nat):cR β s b s=b:=by simp [cR,Nat.beq_refl]
theorem fo (β:Nat->Nat){s t:Nat}(b:Nat)(h:t≠s):cR β s b t=β t:=by
 have:Nat.beq t s=false:=by
  cases hb:Nat.beq t s
  ·rfl
  ·exact absurd (beq_eq.1 hb) h
 simp [cR,this]
theorem Mod.new (h:Mod n V0 aY β0 st β a w V){d:Nat}{b:aG}(hd:d<n)(hn:st.boxes d=none)(hl:∀s∈b.cs.ids,∃b',st.boxes s=some b') :
  Mod n V0 aY β0 (st.box d b) (cR β d w.heap.size) a (w.alloc (b.obj β)) V:=by
 have q:∀s b',st.boxes s=some b'->s≠d:=fun s b' c e=>by rw [e,hn] at c;cases c
 have hβ:∀s b',st.boxes s=some b'->cR β d w.heap.size s=β s:=fun s b' c=>fo _ _ (q s b' c)
 have r:∀s b',st.boxes s=some b'->b'.live->β s<w.heap.size:=fun s b' c l=>ar (h.boxes s b' c l)
 have C:∀b' o,V.aW b' o->b'<w.heap.size:=fun b' o v=>ar (h.mN b' o v).1
 refine ⟨h.defers,h.size,?_,?_,?_,?_,?_,?_,?_,?_,?_,?_,h.jd,?_⟩
 ·intro t x y
  rw [h.ao t x y]
  exact SV.bh fun s c=>by obtain ⟨b',p⟩:=h.vP t x y s c;exact (hβ s b' p).symm
 ·intro t x y s c
  obtain ⟨b',p⟩:=h.vP t x y s c
  exact ⟨b',by rw [ah,if_neg (q s b' p)];exact p⟩
 ·intro s b' c g j
  rw [ah] at c
  have:∃f,st.boxes g=some f:=by
   split at c
   ·simp only [Option.some.injEq] at c;rw [←c] at j;exact hl g j
   ·exact h.vO s b' c g j
  obtain ⟨f,u⟩:=this
  exact ⟨f,by rw [ah,if_neg (q g f u)];exact u⟩
 ·intro s b' c l
  rw [ah] at c
  split at c
  ·rename_i e
   simp only [Option.some.injEq] at c
   rw [e,aI,heap_alloc_new,←c]
   congr 1
   exact aG.ch fun g j=>by obtain ⟨f,u⟩:=hl g j;exact (hβ g f u).symm
  ·rw [hβ s b' c,bJ _ _ (r s b' c l),h.boxes s b' c l]
   congr 1
   exact aG.ch fun g j=>by obtain ⟨f,u⟩:=h.vO s b' c g j;exact (hβ g f u).symm
 ·intro s g b1 b2 k D m E he
  rw [ah] at k m
  split at k<;>split at m
  ·rename_i z A;rw [z,A]
  ·rename_i z A;rw [z,aI,hβ g b2 m] at he;have:=r g b2 m E;omega
  ·rename_i z A;rw [A,aI,hβ s b1 k] at he;have:=r s b1 k D;omega
  ·rw [hβ s b1 k,hβ g b2 m] at he;exact h.inj s g b1 b2 k D m E he
 ·intro b' o v
  obtain ⟨k,m⟩:=h.mN b' o v
  exact ⟨by rw [bJ _ _ (C b' o v)];exact k,m⟩
 ·intro s b' c l o B
  rw [ah] at c
  split at c
  ·rename_i e;rw [e,aI] at B;have:=C _ o B;omega
  ·rw [hβ s b' c] at B;exact h.rS s b' c l o B
 ·exact h.ext.trans ⟨by simp,fun i F _=>bJ _ _ F,rfl,rfl,rfl⟩
 ·intro s b' c l
  rw [ah] at c
  split at c
  ·rename_i e;rw [e,aI];exact .inl h.ext.size
  ·rw [hβ s b' c];exact h.own s b' c l
 ·intro s c
  obtain ⟨k,m⟩:=h.jY s c
  exact ⟨k,by rw [fo _ _ (by have:=h.small;omega)];exact m⟩
 ·exact h.small
theorem Mod.void (h:Mod n V0 aY β0 st β a w V){s:Nat}{ty:TypeId}:Mod n V0 aY β0 (st.box s ⟨.aK [],ty⟩) β a w V:=by
 have hw:∀t b,st.boxes t=some b->∃d,(st.box s ⟨.aK [],ty⟩).boxes t=some d:=by
  intro t b c
  rw [ah]
  split
  ·exact ⟨_,rfl⟩
  ·exact ⟨b,c⟩
 have g:∀t b,(st.box s ⟨.aK [],ty⟩).boxes t=some b->b.live->st.boxes t=some b:=by
  intro t b c l
  rw [ah] at c
  split at c
  ·cases c;exact absurd l dY
  ·exact c
 refine ⟨h.defers,h.size,h.ao,?_,?_,fun t b c l=>h.boxes t b (g t b c l) l,fun t m b1 b2 o j p k=>h.inj t m b1 b2 (g _ _ o j) j (g _ _ p k) k,h.mN,fun t b c l=>h.rS t b (g t b c l) l,h.ext,fun t b c l=>h.own t b (g t b c l) l,h.jY,h.jd,h.small⟩
 ·intro t x q f e
  obtain ⟨b,i⟩:=h.vP t x q f e
  exact hw f b i
 ·intro t b c f e
  have:∃d,st.boxes f=some d:=by
   rw [ah] at c
   split at c
   ·cases c;cases e
   ·exact h.vO t b c f e
  obtain ⟨d,r⟩:=this
  exact hw f d r
theorem Mod.rX (h:Mod n V0 aY β0 st β a w V){s:Nat}{b b':aG}(hs:st.boxes s=some b)(lb:b.live)(hl:∀s'∈b'.cs.ids,∃b'',st.boxes s'=some b'')
  {w':World}(hw:w'.heap=w.heap.setIfInBounds (β s) (b'.obj β))(ho:w'.os=w.os)(ht:w'.tape=w.tape)(hout:w'.output=w.output) :
  Mod n V0 aY β0 (st.box s b') β a w' V:=by
 have v:=ar (h.boxes s b hs lb)
 have k:∀i,w'.heap[i]?=if i=β s then some (b'.obj β) else w.heap[i]?:=by
  intro i
  rw [hw,Array.getElem?_setIfInBounds]
  by_cases e:β s=i
  ·rw [if_pos e,if_pos (by omega),if_pos e.symm]
  ·rw [if_neg e,if_neg (Ne.symm e)]
 refine ⟨h.defers,h.size,h.ao,?_,?_,?_,?_,?_,?_,?_,?_,h.jY,h.jd,h.small⟩
 ·intro t x y s' d
  obtain ⟨b1,c⟩:=h.vP t x y s' d
  rw [ah]
  split
  ·exact ⟨_,rfl⟩
  ·exact ⟨b1,c⟩
 ·intro t b1 c s' d
  have:∃b'',st.boxes s'=some b'':=by
   rw [ah] at c
   split at c
   ·simp only [Option.some.injEq] at c;rw [←c] at d;exact hl s' d
   ·exact h.vO t b1 c s' d
  rw [ah]
  split
  ·exact ⟨_,rfl⟩
  ·exact this
 ·intro t b1 c g
  rw [ah] at c
  rw [k]
  split at c
  ·rename_i e;simp only [Option.some.injEq] at c;rw [e,if_pos rfl,c]
  ·rename_i e
   rw [if_neg fun he=>e (h.inj t s b1 b c g hs lb he)]
   exact h.boxes t b1 c g
 ·intro t r b1 b2 j g l z he
  have f:∀t b1,(st.box s b').boxes t=some b1->b1.live->∃b2,st.boxes t=some b2/\b2.live:=by
   intro t b1 j g
   rw [ah] at j
   split at j
   ·rename_i e;rw [e];exact ⟨b,hs,lb⟩
   ·exact ⟨b1,j,g⟩
  obtain ⟨A,m,B⟩:=f t b1 j g
  obtain ⟨C,p,D⟩:=f r b2 l z
  exact h.inj t r A C m B p D he
 ·intro b1 o q
  obtain ⟨j,l⟩:=h.mN b1 o q
  refine ⟨?_,l⟩
  rw [k,if_neg]
  ·exact j
  ·intro e;rw [e] at q;exact h.rS s b hs lb o q
 ·intro t b1 c g o
  rw [ah] at c
  split at c
  ·rename_i e;rw [e];exact h.rS s b hs lb o
  ·exact h.rS t b1 c g o
 ·refine ⟨by rw [hw];simpa using h.ext.size,fun i E u=>?_,ho.trans h.ext.os,ht.trans h.ext.tape,hout.trans h.ext.out⟩
  rw [k]
  split
  ·rename_i e
   exfalso
   rcases h.own s b hs lb with j|j
   ·omega
   ·exact u (e▸h.jd _ j.2)
  ·exact h.ext.aW i E u
 ·intro t b1 c g
  rw [ah] at c
  split at c
  ·rename_i e;rw [e];exact h.own s b hs lb
  ·exact h.own t b1 c g
end Go.Eng
