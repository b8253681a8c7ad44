import Derived.WalkKit
import Derived.Deep.LoopGhost
import Derived.KernelRfl
set_option linter.all false
abbrev Go.Calls.s:=@Go.Calls.mono
def Eq.m{α:Sort _}{a b c:α}(h:a=b)(g:b=c):a=c:=Eq.trans h g
def Iff.m{a b c:Prop}(h:a<->b)(g:b<->c):a<->c:=Iff.trans h g
abbrev Qq0:=@Int.toNat_natCast
abbrev Qq1:=@List.getElem?_eq_getElem
abbrev Qq2:=@Nat.le_refl
abbrev Qq3:=@List.length_append
abbrev Qq4:=@Nat.zero_le
abbrev Qq5:=@List.mem_cons
abbrev Qq6:=@List.mem_singleton
abbrev Qq7:=@List.length_take
abbrev Qq8:=@List.mem_cons_of_mem
abbrev Qq9:=@List.getElem_mem
abbrev Qw0:=@Nat.mul_le_mul_right
abbrev Qw1:=@Option.some.injEq
abbrev Qw2:=@Int.eq_ofNat_of_zero_le
abbrev Qw3:=@List.mem_append
abbrev Qw4:=@List.drop_eq_getElem_cons
abbrev Qw5:=@List.mem_cons_self
abbrev Qw6:=@List.length_cons
abbrev Qw7:=@Nat.le_trans
abbrev Qw8:=@List.length_eq_zero_iff
abbrev Qw9:=@List.getElem?_eq_some_iff
abbrev Qx0:=@List.getElem?_append_left
abbrev Qx1:=@Bool.and_eq_true
abbrev Qx2:=@List.append_nil
abbrev Qx3:=@List.getD_eq_getElem?_getD
abbrev Qx4:=@List.pairwise_cons
abbrev Qx5:=@Nat.pow_le_pow_right
abbrev Qx6:=@Int.natAbs_natCast
abbrev Qx7:=@List.not_mem_nil
abbrev Qx8:=@List.drop_of_length_le
abbrev Qx9:=@Nat.mod_eq_of_lt
abbrev Qy0:=@List.flatMap_cons
abbrev Qy1:=@List.mem_flatMap
abbrev Qy2:=@List.take_length
abbrev Qy3:=@List.append_assoc
abbrev Qy4:=@List.take_succ_eq_append_getElem
abbrev Qy5:=@List.length_map
abbrev Qy6:=@Nat.lt_of_lt_of_le
abbrev Qy7:=@List.getElem?_take
abbrev Qy8:=@List.getElem?_append_right
abbrev Qy9:=@Nat.eq_zero_or_pos
abbrev Qz0:=@List.take_add_one
abbrev Qz1:=@List.mem_map
abbrev Qz2:=@Nat.zero_add
abbrev Qz3:=@Nat.lt_or_ge
abbrev Qz4:=@List.all_eq_true
abbrev Qz5:=@List.mem_append_left
abbrev Qz6:=@Bool.not_eq_true'
abbrev Qz7:=@List.getElem?_eq_none
abbrev Qz8:=@Nat.mul_le_mul_left
abbrev Qz9:=@Nat.pow_add
abbrev Qk0:=@Nat.le_of_ble_eq_true
abbrev Qk1:=@Nat.add_mul
abbrev Qk2:=@Int.tmod_eq_emod_of_nonneg
abbrev Qk3:=@Nat.two_pow_pos
abbrev Qk4:=@List.cons.injEq
abbrev Qk5:=@Nat.mul_one
abbrev Qk6:=@List.mem_append_right
abbrev Qk7:=@Bool.eq_iff_iff
abbrev Qk8:=@Nat.pow_succ
abbrev Qk9:=@List.length_nil
abbrev Qj0:=@Bool.false_eq_true
abbrev Qj1:=@Nat.add_zero
abbrev Qj2:=@Int.tdiv_eq_ediv_of_nonneg
abbrev Qj3:=@Nat.min_eq_left
abbrev Qj4:=@BitVec.ofInt_natCast
abbrev Qj5:=@Nat.gcd_dvd_left
abbrev Qj6:=@Nat.mul_zero
abbrev Qj7:=@Nat.mod_lt
abbrev Qj8:=@Nat.div_eq_of_lt
abbrev Qj9:=@BitVec.toNat_ofNat
abbrev Qv0:=@Rat.num_eq_zero
abbrev Qv1:=@Bool.not_eq_false'
abbrev Qv2:=@List.map_congr_left
abbrev Qv3:=@Int.natAbs_mul
abbrev Qv4:=@List.take_of_length_le
abbrev Qv5:=@Nat.mul_comm
abbrev Qv6:=@List.mem_of_getElem?
abbrev Qv7:=@Rat.mul_pos
abbrev Qv8:=@Rat.mul_inv_cancel
abbrev Qv9:=@Bool.false_ne_true
abbrev Qb0:=@Nat.beq_refl
abbrev Qb1:=@List.take_append_drop
abbrev Qb2:=@Nat.div_lt_iff_lt_mul
abbrev Qb3:=@Nat.mul_add
abbrev Qb4:=@List.drop_set_of_lt
abbrev Qb5:=@List.length_drop
abbrev Qb6:=@Nat.mul_ne_zero
abbrev Qb7:=@List.mem_filter
abbrev Qb8:=@Option.some.inj
abbrev Qb9:=@Nat.gcd_dvd_right
abbrev Qn0:=@Nat.mul_assoc
abbrev Qn1:=@Int.natCast_mul
abbrev Qn2:=@Nat.not_lt_zero
abbrev Qn3:=@List.map_cons
abbrev Qn4:=@Nat.add_assoc
abbrev Qn5:=@Nat.add_sub_cancel_left
abbrev Qn6:=@List.mem_of_mem_take
abbrev Qn7:=@List.forall_mem_cons
abbrev Qn8:=@List.getElem?_drop
abbrev Qn9:=@Nat.sub_add_cancel
abbrev Qm0:=@Nat.lt_of_le_of_lt
abbrev Qm1:=@List.nil_append
abbrev Qm2:=@Int.sign_eq_zero_iff_zero
abbrev Qm3:=@Array.mk.injEq
abbrev Qm4:=@Prod.mk.injEq
abbrev Qm5:=@List.foldl_cons
abbrev Qm6:=@Nat.mul_lt_mul_of_pos_right
abbrev Qm7:=@Nat.div_le_self
abbrev Qm8:=@List.getElem?_set_ne
abbrev Qm9:=@List.mem_iff_getElem
abbrev Qc0:=@Int.sign_eq_neg_one_of_neg
abbrev Qc1:=@List.flatMap_append
abbrev Qc2:=@List.pairwise_iff_getElem
abbrev Qc3:=@Bool.not_eq_eq_eq_not
abbrev Qc4:=@Nat.zero_mul
abbrev Qc5:=@Nat.div_add_mod
abbrev Qc6:=@Option.isSome_iff_exists
abbrev Qc7:=@List.set_eq_of_length_le
abbrev Qc8:=@Nat.one_lt_two_pow
abbrev Qc9:=@Nat.xor_lt_two_pow
abbrev Qd0:=@List.cons_append
abbrev Qd1:=@Nat.one_mul
abbrev Qd2:=@List.mem_reverse
abbrev Qd3:=@List.pairwise_singleton
abbrev Qd4:=@List.take_zero
abbrev Qd5:=@Nat.gcd_comm
abbrev Qd6:=@Int.natAbs_neg
abbrev Qd7:=@Array.ext'
abbrev Qd8:=@Rat.intCast_mul
abbrev Qd9:=@Rat.num_intCast
abbrev Qf0:=@Int.sign_eq_one_of_pos
abbrev Qf1:=@Array.toList_map
abbrev Qf2:=@Option.getD_some
abbrev Qf3:=@Nat.mul_div_cancel
abbrev Qf4:=@List.length_singleton
abbrev Qf5:=@List.getElem_set_self
abbrev Qf6:=@Nat.gcd_zero_right
abbrev Qf7:=@Nat.add_sub_cancel
abbrev Qf8:=@Nat.mul_le_mul
abbrev Qf9:=@Classical.byContradiction
abbrev Qg0:=@Nat.testBit_eq_decide_div_mod_eq
abbrev Qg1:=@Nat.add_mul_div_left
abbrev Qg2:=@List.ext_getElem?
abbrev Qg3:=@Nat.mod_add_div
abbrev Qg4:=@Int.lt_trichotomy
abbrev Qg5:=@Int.mul_ediv_cancel_left
abbrev Qg6:=@Rat.mul_eq_zero
abbrev Qg7:=@List.take_append_getElem
abbrev Qg8:=@Nat.succ_mul
abbrev Qg9:=@Int.mul_comm
abbrev Qh0:=@Rat.mkRat_one
abbrev Qh1:=@List.getElem_of_mem
abbrev Qh2:=@List.length_pos_iff
abbrev Qh3:=@List.drop_drop
abbrev Qh4:=@Array.getElem?_eq_none
abbrev Qh5:=@Nat.and_lt_two_pow
abbrev Qh6:=@List.map_append
abbrev Qh7:=@Bool.or_eq_true
abbrev Qh8:=@Rat.intCast_inj
abbrev Qh9:=@Int.natAbs_dvd_natAbs
abbrev Qp0:=@Rat.mul_pos_iff_of_pos_left
abbrev Qp1:=@List.getElem?_set
abbrev Qp2:=@Array.getElem?_eq_some_iff
abbrev Qp3:=@List.mem_of_mem_drop
abbrev Qp4:=@List.pairwise_append
abbrev Qp5:=@Array.getElem_toList
abbrev Qp6:=@Nat.le_add_right
abbrev Qp7:=@List.drop_length
abbrev Qp8:=@List.getElem_map
abbrev Qp9:=@List.take_replicate
abbrev Qr0:=@Nat.gcd_eq_zero_iff
abbrev Qr1:=@List.countP_pos_iff
abbrev Qr2:=@List.mem_map_of_mem
abbrev Qr3:=@List.eq_of_mem_replicate
abbrev Qr4:=@Nat.le_of_lt
abbrev Qr5:=@List.getElem_append_left
abbrev Qr6:=@List.set_eq_take_append_cons_drop
abbrev Qr7:=@List.getElem?_replicate
abbrev Qr8:=@Rat.num_mkRat
abbrev Qr9:=@Rat.sub_eq_add_neg
abbrev Qs0:=@Nat.dvd_trans
abbrev Qs1:=@Rat.intCast_add
abbrev Qs2:=@Rat.intCast_neg
abbrev Qs3:=@List.getElem?_set_self
abbrev Qs4:=@Int.natAbs_ediv_of_dvd
abbrev Qs5:=@List.getElem_cons_zero
abbrev Qs6:=@List.getElem?_map
abbrev Qs7:=@Rat.neg_num
abbrev Qs8:=@Rat.mkRat_self
abbrev Qs9:=@List.drop_zero
abbrev Qt0:=@Nat.le_div_iff_mul_le
abbrev Qt1:=@List.getElem!_eq_getElem?_getD
abbrev Qt2:=@Option.getD_none
abbrev Qt3:=@Nat.shiftLeft_add_eq_or_of_lt
abbrev Qt4:=@Nat.mul_lt_mul''
abbrev Qt5:=@List.take_append_of_le_length
abbrev Qt6:=@List.any_eq_true
abbrev Qt7:=@Int.sign_neg_iff
abbrev Qt8:=@Nat.zero_lt_succ
abbrev Qt9:=@List.take_subset
abbrev Wq0:=@List.take_set
abbrev Wq1:=@Rat.den_mkRat
abbrev Wq2:=@Nat.le_of_dvd
abbrev Wq3:=@Nat.lt_irrefl
abbrev Wq4:=@Int.not_lt
abbrev Wq5:=@Option.map_some
abbrev Wq6:=@Nat.mul_eq_zero
abbrev Wq7:=@Array.length_toList
abbrev Wq8:=@Nat.pow_mul
abbrev Wq9:=@Nat.pow_pos
abbrev Ww0:=@Int.mul_neg
abbrev Ww1:=@Int.sign_eq_neg_one_iff_neg
abbrev Ww2:=@Int.mul_lt_mul_of_pos_right
abbrev Ww3:=@Rat.mkRat_mul_mkRat
abbrev Ww4:=@Int.mul_eq_zero
abbrev Ww5:=@Int.le_refl
abbrev Ww6:=@Int.fdiv_eq_ediv_of_nonneg
abbrev Ww7:=@Int.lt_of_mul_lt_mul_right
abbrev Ww8:=@Nat.add_comm
abbrev Ww9:=@Nat.div_mul_cancel
abbrev Wx0:=@Int.add_zero
abbrev Wx1:=@Array.mapM_eq_mapM_toList
abbrev Wx2:=@Nat.add_mul_mod_self_left
abbrev Wx3:=@Rat.num_nonneg
abbrev Wx4:=@List.getElem_append_right
abbrev Wx5:=@List.getLastD_eq_getLast?
abbrev Wx6:=@Int.eq_of_mul_eq_mul_left
abbrev Wx7:=@Nat.or_lt_two_pow
abbrev Wx8:=@Nat.gcd_pos_of_pos_right
abbrev Wx9:=@Nat.gcd_zero_left
abbrev Wy0:=@List.getElem_take
abbrev Wy1:=@List.map_take
abbrev Wy2:=@List.map_drop
abbrev Wy3:=@Int.neg_mul
abbrev Wy4:=@Nat.mul_pos
abbrev Wy5:=@Int.one_mul
abbrev Wy6:=@Rat.inv_pos
abbrev Wy7:=@Nat.shiftLeft_eq
abbrev Wy8:=@Int.natCast_emod
abbrev Wy9:=@Rat.mkRat_eq_iff
abbrev Wz0:=@List.flatMap_nil
abbrev Wz1:=@Nat.sub_zero
abbrev Wz2:=@BitVec.toNat_or
abbrev Wz3:=@Nat.mul_add_div
abbrev Wz4:=@Nat.mul_add_mod
abbrev Wz5:=@Nat.zero_div
abbrev Wz6:=@Rat.mul_def'
abbrev Wz7:=@Nat.testBit_xor
abbrev Wz8:=@Rat.intCast_sub
abbrev Wz9:=@List.length_set
abbrev Wk0:=@List.mem_range
abbrev Wk1:=@List.take_take
abbrev Wk2:=@Int.ofNat_tmod
abbrev Wk3:=@Bool.and_false
abbrev Wk4:=@Rat.mul_nonneg
abbrev Wk5:=@Iff.rfl
abbrev Wk6:=@Nat.le_succ
abbrev Wk7:=@Rat.neg_den
open Go.IntKind (i64 u64 u32)
abbrev pz:=@List
abbrev md:=Bool
abbrev un:=Go.Value
abbrev tt:Prop:=true=true
namespace Go.Eng
abbrev OA:=Option Addr
abbrev sm {α:Type}(a:α):Prop:=a=a
structure View where
 w:World
 H:Nat->Prop
 X:Nat->Prop
 hH:∀b,H b->b<w.heap.size
 hX:∀b,X b->H b
abbrev _root_.ut:=View
def View.bg (V:View)(b:Nat)(o:Obj):Prop:=¬V.H b/\V.w.heap[b]?=some o
def View.at (V:View)(p:Addr)(v:Value):Prop:=¬V.H p.block/\V.w.cell? p=some v
def View.Le (V V':View):Prop:=∀b o,V.bg b o->V'.bg b o
structure iP (X:Nat->Prop) (w w':World):Prop where
 size:w.heap.size<=w'.heap.size
 bg:∀b,b<w.heap.size->¬X b->w'.heap[b]?=w.heap[b]?
 os:w'.os=w.os
 tape:w'.tape=w.tape
 out:w'.output=w.output
 dr:w.drawn<=w'.drawn
def View.to (V:View)(w':World)(h:V.w.heap.size<=w'.heap.size):View:=⟨w',V.H,V.X,λb hb=>Qy6 (V.hH b hb) h,V.hX⟩
def View.ar (V:View)(bs:List Nat):View:={ V with X:=λb=>b∈bs/\V.H b,hX:=λ_ h=>h.2 }
def View.QJ (V:View)(b:Nat):View:={ V with H:=λx=>V.H x\/(x=b/\b<V.w.heap.size),hH:=λx h=>h.elim (V.hH x) λh=>h.1▸h.2,hX:=λx h=>.inl (V.hX x h) }
def View.bu (V:View)(p:Prop)(b:Nat):View:={ V with H:=λx=>V.H x\/(p/\x=b/\b<V.w.heap.size),hH:=λx h=>h.elim (V.hH x) λh=>h.2.1▸h.2.2,hX:=λx h=>.inl (V.hX x h) }
def View.shut (V:View):View:={ V with X:=λ_=>False,hX:=λ_ h=>h.elim }
def iC (P : Program)(f : FuncId) : Prop := ∃ fn, P.funcs[f]? = some fn ∧ fn.body.isNone = false ∧ (fn.name == "runtime.NumGoroutine") = false
def aa (P:Program)(f:FuncId)(args:Array Value)(V:View)(R:Value->View->Prop):Prop:=
 iC P f/\Calls P f args V.w λe w'=>∃r,e=.returned r/\∃hx:iP V.X V.w w',R r (V.to w' hx.size)
inductive C where
 | v (x:Value)|w (x:Value)|tt|ff
 | ptr (s o:Nat)
 | oI (s o n c:Nat)
 | eJ (s n c:Nat)
 | CG (f:FuncId) (ss:List Nat)
inductive SV where
 | c (x:C)|agg (cs:List C)|vL (xs:List (Bool×List C))
inductive Cells where
 | lit (cs:List C)|row (vs:List Value)|aB (vs:List Value)
structure aW where
 cs:Cells
 ty:TypeId
def aW.live (b:aW):Prop:=∀vs,b.cs=.aB vs->vs≠[]
def Pj (b:aW):List Prop:=
 match b.cs with
 | .aB vs=>[vs≠[]]
 | _=>[]
def gdP (b:aW):Prop:=
 match b.cs with
 | .aB vs=>vs≠[]
 | _=>True
def uu:List Prop->Prop->Prop
 | [],k=>k
 | p::r,k=>p->uu r k
def mA (b c:Nat):OA:=if c=0 then none else some ⟨b,0,none⟩
structure St where
 ax:Nat->Option SV
 boxes:Nat->Option aW
def C.den (β:Nat->Nat):C->Value
 | .v x=>x
 | .w x=>x
 | .tt=>.bool true
 | .ff=>.bool false
 | .ptr s o=>.pointer (some ⟨β s,o,none⟩)
 | .oI s o n c=>.slice (some ⟨β s,o,none⟩) n c
 | .eJ s n c=>.slice (mA (β s) c) n c
 | .CG f ss=>.func (.func f) #[] (ss.map λs=>Value.pointer (some ⟨β s,0,none⟩)).toArray
def j8 (β:Nat->Nat):Bool×List C->Value
 | (true,cs)=>.agg (cs.map (C.den β)).toArray
 | (false,[c])=>c.den β
 | (false,_)=>.tuple #[]
def wg:Bool×List C->Option SV
 | (true,cs)=>some (.agg cs)
 | (false,[c])=>some (.c c)
 | (false,_)=>none
def SV.den (β:Nat->Nat):SV->Value
 | .c x=>x.den β
 | .agg cs=>.agg (cs.map (C.den β)).toArray
 | .vL xs=>.tuple (xs.map (j8 β)).toArray
def SV.cells:SV->List C
 | .c x=>[x]
 | .agg cs=>cs
 | .vL _=>[]
def Cells.den (β:Nat->Nat):Cells->List Value
 | .lit cs=>cs.map (C.den β)
 | .row vs=>vs
 | .aB vs=>vs
def aW.obj (β:Nat->Nat)(b:aW):Obj:=.cells (b.cs.den β).toArray b.ty (0,0)
def C.ids:C->List Nat
 | .ptr s _=>[s]
 | .oI s _ _ _=>[s]
 | .eJ s _ _=>[s]
 | .CG _ ss=>ss
 | _=>[]
def SV.ids:SV->List Nat
 | .c x=>x.ids
 | .agg cs=>cs.flatMap C.ids
 | .vL xs=>xs.flatMap λx=>x.2.flatMap C.ids
def SV.AG:SV->Bool
 | .vL _=>true
 | _=>false
def gV:C->List Prop
 | .v (.agg _)|.v (.tuple _)=>[False]
 | .w x=>[x.oneCell'=true]
 | _=>[]
def SV.gV (x:SV):List Prop:=x.cells.flatMap Eng.gV
def Cells.ids:Cells->List Nat
 | .lit cs=>cs.flatMap C.ids
 | .row _=>[]
 | .aB _=>[]
def St.put (st:St)(d:Option Nat)(x:SV):St:=
 match d with
 | none=>st
 | some d=>{ st with ax:=λt=>cond (Nat.beq t d) (some x) (st.ax t) }
def St.box (st:St)(s:Nat)(b:aW):St:={ st with boxes:=λt=>cond (Nat.beq t s) (some b) (st.boxes t) }
def C.ofConst:Value->C
 | .bool true=>.tt
 | .bool false=>.ff
 | x=>.v x
def SV.ofConst:Value->SV
 | .bool true=>.c .tt
 | .bool false=>.c .ff
 | .agg cs=>.agg (cs.toList.map C.ofConst)
 | x=>.c (.v x)
def St.bC (st:St):Operand->Option SV
 | .tmp t=>st.ax t
 | .const v=>some (.ofConst v)
 | .global g=>some (.c (.v (.pointer (some ⟨g,0,none⟩))))
 | .func f=>some (.c (.CG f []))
inductive TK where
 | int (k:IntKind)|bool|str|ptr (e:TypeId)|slice (e:TypeId)|struct (fs:List (TypeId×Nat))|arr (n:Nat) (e:TypeId)|iface|func|tuple (ts:List TypeId)|other
structure TI where
 k:TK
 size:Nat
 bytes:Nat
 zero:List C
def mI:TypeDesc->TK
 | .int k=>.int k
 | .bool=>.bool
 | .string=>.str
 | .pointer e=>.ptr e
 | .slice e=>.slice e
 | .array n e=>.arr n e
 | .struct fs=>.struct (fs.toList.map λf=>(f.type,f.offset))
 | .interface _=>.iface
 | .func ..=>.func
 | .tuple es=>.tuple es.toList
 | _=>.other
def ou (P:Program)(t:TypeId):Option TI:=
 match P.info? t,P.underlying t with
 | some i,some d=>
  match i.zero with
  | some z=>some { k:=mI d,size:=i.size,bytes:=i.bytes,zero:=z.cells.toList.map C.ofConst }
  | none=>none
 | _,_=>none
abbrev eu:=List (Nat×TI)
def aC {α:Type}:List (Nat×α)->Nat->Option α
 | [],_=>none
 | (s,x)::r,t=>cond (Nat.beq t s) (some x) (aC r t)
def eu.ok (P:Program)(T:eu):Prop:=∀t i,aC T t=some i->ou P t=some i
inductive CF where
 | int (k:IntKind)|bool|slice|ptr|str|any
inductive zJ where
 | one (s:CF)|agg (l:List CF)
inductive Sh where
 | val (s:zJ)|vL (l:List zJ)|none
def shC:C->CF
 | .v (.int k _)=>.int k
 | .v (.slice ..)=>.slice
 | .v (.pointer _)=>.ptr
 | .v (.string _)=>.str
 | .tt|.ff=>.bool
 | _=>.any
def nD (i:TI):zJ:=
 match i.k with
 | .struct _|.arr _ _=>.agg (i.zero.map shC)
 | _=>match i.zero with
  | [z]=>.one (shC z)
  | _=>.one .any
def CF.ex:CF->(C->Prop)->Prop
 | .int k,K=>∃n:Int,K (.v (.int k n))
 | .bool,K=>∃b:Bool,K (.v (.bool b))
 | .slice,K=>∃(a:OA)(n c:Nat),K (.v (.slice a n c))
 | .ptr,K=>∃p:OA,K (.v (.pointer p))
 | .str,K=>∃s:ByteArray,K (.v (.string s))
 | .any,K=>∃x:Value,K (.w x)
def XA:List CF->(List C->Prop)->Prop
 | [],K=>K []
 | s::r,K=>s.ex λv=>XA r λvs=>K (v::vs)
def zJ.ex:zJ->(SV->Prop)->Prop
 | .one s,K=>s.ex λc=>K (.c c)
 | .agg l,K=>XA l λcs=>K (.agg cs)
def Ze:List zJ->(List (Bool×List C)->Prop)->Prop
 | [],K=>K []
 | .one s::r,K=>s.ex λc=>Ze r λvs=>K ((false,[c])::vs)
 | .agg l::r,K=>XA l λcs=>Ze r λvs=>K ((true,cs)::vs)
def Sh.ex:Sh->(SV->Prop)->Prop
 | .val s,K=>s.ex K
 | .vL l,K=>Ze l λvs=>K (.vL vs)
 | .none,K=>K (.vL [])
def shTs (T:eu):List TypeId->Option (List zJ)
 | []=>some []
 | t::r=>match aC T t,shTs T r with
  | some i,some l=>some (nD i::l)
  | _,_=>Option.none
def shOf (T:eu)(t:TypeId):Option Sh:=
 match aC T t with
 | some i=>match i.k with
  | .tuple []=>some .none
  | .tuple ts=>match shTs T ts with
   | some l=>some (.vL l)
   | Option.none=>Option.none
  | _=>some (.val (nD i))
 | Option.none=>Option.none
inductive Q where
 | fail
 | ret (sc:List Prop) (x:SV)
 | new (sc:List Prop) (b:aW) (x:Nat->SV)
 | yw (sc:List Prop) (s:Nat) (b:aW)
 | rd (p:OA) (sh:zJ)
 | rM (vs:List Value) (o size:Nat) (sh:zJ)
 | wH (s:Nat) (vs:List Value) (n c:Nat) (x:OA×Nat ⊕ List Value) (size bytes:Nat) (ty:TypeId)
 | app (old:Option Nat) (ba:OA) (vs:List Value) (n c:Nat) (x:OA×Nat ⊕ List Value) (size bytes:Nat) (ty:TypeId)
def b_ (op:BinOp)(k:IntKind)(a b:Int):Int:=
 match op with
 | .and=>k.wrap ((BitVec.ofInt k.bits a &&& BitVec.ofInt k.bits b).toNat:Int)
 | .or=>k.wrap ((BitVec.ofInt k.bits a ||| BitVec.ofInt k.bits b).toNat:Int)
 | .xor=>k.wrap ((BitVec.ofInt k.bits a ^^^ BitVec.ofInt k.bits b).toNat:Int)
 | _=>k.wrap ((BitVec.ofInt k.bits a &&& ~~~(BitVec.ofInt k.bits b)).toNat:Int)
def pR (op:BinOp)(k:IntKind)(a b:Int):Q:=
 match op with
 | .add=>.ret [] (.c (.v (.int k (k.wrap (a+b)))))
 | .sub=>.ret [] (.c (.v (.int k (k.wrap (a-b)))))
 | .mul=>.ret [] (.c (.v (.int k (k.wrap (a*b)))))
 | .quo=>.ret [b≠0] (.c (.v (.int k (k.wrap (a.tdiv b)))))
 | .rem=>.ret [b≠0] (.c (.v (.int k (a.tmod b))))
 | .and=>.ret [] (.c (.v (.int k (b_ .and k a b))))
 | .or=>.ret [] (.c (.v (.int k (b_ .or k a b))))
 | .xor=>.ret [] (.c (.v (.int k (b_ .xor k a b))))
 | .andNot=>.ret [] (.c (.v (.int k (b_ .andNot k a b))))
 | .shl=>.ret [0<=b] (.c (.v (.int k (k.wrap (a*2^(min b.toNat k.bits))))))
 | .shr=>.ret [0<=b] (.c (.v (.int k (a.fdiv (2^(min b.toNat k.bits))))))
 | .eql=>.ret [] (.c (.v (.bool (a==b))))
 | .neq=>.ret [] (.c (.v (.bool (a != b))))
 | .lss=>.ret [] (.c (.v (.bool (decide (a<b)))))
 | .leq=>.ret [] (.c (.v (.bool (decide (a<=b)))))
 | .gtr=>.ret [] (.c (.v (.bool (decide (a>b)))))
 | .geq=>.ret [] (.c (.v (.bool (decide (a≥b)))))
def C.bool?:C->Option Bool
 | .tt=>some true
 | .ff=>some false
 | .v (.bool b)=>some b
 | _=>none
def jQ:Value->Bool
 | .nilIface=>true
 | _=>false
def IsIface (x:Value):Prop:=x=.nilIface\/∃t v,x=.iface t v
def AH:IntKind->IntKind->Bool
 | .i8,.i8|.i16,.i16|.i32,.i32|.i64,.i64|.u8,.u8|.u16,.u16|.u32,.u32|.u64,.u64=>true
 | _,_=>false
def Gg (neg:Bool)(k:TK)(x y:C):Q:=
 match k with
 | .ptr _=>match y with
  | .v (.pointer none)=>match x with
   | .ptr _ _=>.ret [] (.c (if neg then .tt else .ff))
   | .v (.pointer p)=>.ret [] (.c (.v (.bool (if neg then !p.isNone else p.isNone))))
   | _=>.fail
  | _=>.fail
 | .slice _=>match y with
  | .v (.slice none _ _)=>match x with
   | .oI _ _ _ _=>.ret [] (.c (if neg then .tt else .ff))
   | .eJ _ _ c=>.ret [] (.c (.v (.bool (if neg then !(Nat.beq c 0) else Nat.beq c 0))))
   | .v (.slice a _ _)=>.ret [] (.c (.v (.bool (if neg then !a.isNone else a.isNone))))
   | _=>.fail
  | _=>.fail
 | .iface=>match y with
  | .v .nilIface=>match x with
   | .w y=>.ret [IsIface y] (.c (.v (.bool (if neg then !jQ y else jQ y))))
   | .v .nilIface=>.ret [] (.c (if neg then .ff else .tt))
   | _=>.fail
  | _=>.fail
 | _=>.fail
def Ge (T:eu)(op:BinOp)(xt:TypeId)(x y:C):Q:=
 match aC T xt with
 | some i=>match i.k with
  | .int _=>match x,y with
   | .v (.int k a),.v (.int k' b)=>
    match op with
    | .shl|.shr=>pR op k a b
    | _=>if AH k k' then pR op k a b else .fail
   | _,_=>.fail
  | .bool=>match x.bool?,y.bool? with
   | some a,some b=>match op with
    | .eql=>.ret [] (.c (.v (.bool (a==b))))
    | .neq=>.ret [] (.c (.v (.bool (!(a==b)))))
    | _=>.fail
   | _,_=>.fail
  | k=>match op with
   | .eql=>Gg false k x y
   | .neq=>Gg true k x y
   | _=>.fail
 | none=>.fail
def ae (p:OA)(n:Nat):OA:=p.map λa=>a.add n
def setCells (cs:List C)(o:Nat)(xs:List C):List C:=cs.take o++xs++cs.drop (o+xs.length)
def eK (vs:List Value)(o:Nat)(xs:List Value):List Value:=
 match xs with
 | [x]=>vs.set o x
 | _=>vs.take o++xs++vs.drop (o+xs.length)
def C.val?:C->Option Value
 | .v x=>some x
 | .w x=>some x
 | .tt=>some (.bool true)
 | .ff=>some (.bool false)
 | _=>none
def mu:List C->Option (List Value)
 | []=>some []
 | c::r=>match c.val?,mu r with
  | some v,some vs=>some (v::vs)
  | _,_=>none
def lD (bx:Nat->Option aW)(i:TI)(x:SV):Q:=
 match x with
 | .c (.ptr b o)=>match bx b with
  | some ⟨.lit cs,_⟩=>match i.k with
   | .struct _|.arr _ _=>if Nat.ble (o+i.size) cs.length then .ret [] (.agg ((cs.drop o).take i.size)) else .fail
   | _=>match cs[o]? with
    | some c=>.ret [] (.c c)
    | none=>.fail
  | some ⟨.row vs,_⟩=>.rM vs o i.size (nD i)
  | some ⟨.aB vs,_⟩=>if Nat.beq i.size 0 then .fail else .rM vs o i.size (nD i)
  | none=>.fail
 | .c (.v (.pointer p))=>if Nat.beq i.zero.length i.size then .rd p (nD i) else .fail
 | _=>.fail
def je (bx:Nat->Option aW)(i:TI)(a x:SV):Q:=
 match a with
 | .c (.ptr b o)=>if Nat.beq x.cells.length i.size&&!x.AG then match bx b with
   | some ⟨.lit cs,ty⟩=>if Nat.ble (o+i.size) cs.length then .yw x.gV b ⟨.lit (setCells cs o x.cells),ty⟩ else .fail
   | some ⟨.row vs,ty⟩=>match mu x.cells with
    | some xs=>.yw (x.gV++[o+i.size<=vs.length]) b ⟨.row (eK vs o xs),ty⟩
    | none=>.fail
   | some ⟨.aB vs,ty⟩=>if Nat.beq i.size 0 then .fail else match mu x.cells with
    | some xs=>.yw (x.gV++[o+i.size<=vs.length]) b ⟨.aB (eK vs o xs),ty⟩
    | none=>.fail
   | none=>.fail
  else .fail
 | _=>.fail
def rJ (place:Nat->Option (Nat×Nat))(cells:List C):List (Nat×SV)->Option (List C)
 | []=>some cells
 | (i,x)::r=>match place i with
  | none=>none
  | some (off,size)=>if Nat.beq x.cells.length size&&Nat.ble (off+size) cells.length&&!x.AG then rJ place (setCells cells off x.cells) r else none
def partsOf (ρ:Operand->Option SV):List (Nat×Operand)->Option (List (Nat×SV))
 | []=>some []
 | (i,o)::r=>match ρ o,partsOf ρ r with
  | some x,some l=>some ((i,x)::l)
  | _,_=>none
def il (T:eu):List (TypeId×Nat)->Option (List (Nat×Nat))
 | []=>some []
 | (t,off)::r=>match aC T t,il T r with
  | some i,some l=>some ((off,i.size)::l)
  | _,_=>none
def rep (n:Nat)(zs:List C):List C:=(List.replicate n zs).flatten
def vE (n:Nat)(zs:List Value):List Value:=
 match zs with
 | [z]=>List.replicate n z
 | _=>(List.replicate n zs).flatten
def rP (a:OA)(m l sz:Nat):OA:=if m=l then a else ae a (l*sz)
def Jj (o m l sz:Nat):Nat:=if m=l then o else o+l*sz
def U2 (c:Nat):Option SV->Option (List Prop×Nat)
 | none=>some ([],c)
 | some (.c (.v (.int _ m)))=>some ([0<=m/\m<=(c:Int)],m.toNat)
 | _=>none
def Sk (n m:Nat):Option SV->Option SV->Option (List Prop×Nat)
 | some (.c (.v (.int _ h))),_=>some ([0<=h/\h<=(m:Int)],h.toNat)
 | none,none=>some ([],n)
 | _,_=>none
def YQ (h:Nat):Option SV->Option (List Prop×Option Nat)
 | none=>some ([],none)
 | some (.c (.v (.int _ l)))=>some ([0<=l/\l<=(h:Int)],some l.toNat)
 | _=>none
def qT (n c:Nat)(lo hi mx:Option SV):Option (List Prop×Option Nat×Nat×Nat):=
 match U2 c mx with
 | none=>none
 | some (p1,m)=>match Sk n m hi mx with
  | none=>none
  | some (p2,h)=>match YQ h lo with
   | none=>none
   | some (p3,l)=>some (p1++p2++p3,l,h,m)
def F7 (ρ:Operand->Option SV):Option Operand->Option (Option SV)
 | none=>some none
 | some x=>match ρ x with
  | some v=>some (some v)
  | none=>none
def wL (sz:Nat)(x:SV)(lo hi mx:Option SV):Q:=
 match x with
 | .c (.v (.slice a n c))=>match qT n c lo hi mx with
  | some (sc,none,h,m)=>.ret sc (.c (.v (.slice a h m)))
  | some (sc,some l,h,m)=>.ret sc (.c (.v (.slice (rP a m l sz) (h-l) (m-l))))
  | none=>.fail
 | .c (.oI s o n c)=>match qT n c lo hi mx with
  | some (sc,none,h,m)=>.ret sc (.c (.oI s o h m))
  | some (sc,some l,h,m)=>.ret sc (.c (.oI s (Jj o m l sz) (h-l) (m-l)))
  | none=>.fail
 | .c (.eJ s n c)=>match mx with
  | none=>match qT n c lo hi none with
   | some (sc,none,h,m)=>.ret sc (.c (.eJ s h m))
   | _=>.fail
  | some _=>.fail
 | _=>.fail
def jd (T:eu)(i:TI)(x ix:SV):Q:=
 match ix with
 | .c (.v (.int _ n))=>match i.k with
  | .slice e=>match aC T e with
   | some ei=>match x with
    | .c (.v (.slice a len _))=>.ret [a.isSome=true,0<=n/\n<(len:Int)] (.c (.v (.pointer (ae a (n.toNat*ei.size)))))
    | .c (.oI s o len _)=>.ret [0<=n/\n<(len:Int)] (.c (.ptr s (o+n.toNat*ei.size)))
    | .c (.eJ s len c)=>.ret [0<=n/\n<(len:Int),len<=c] (.c (.ptr s (n.toNat*ei.size)))
    | _=>.fail
   | none=>.fail
  | .arr len e=>match aC T e with
   | some ei=>match x with
    | .c (.ptr s o)=>.ret [0<=n/\n<(len:Int)] (.c (.ptr s (o+n.toNat*ei.size)))
    | .c (.v (.pointer a))=>.ret [a.isSome=true,0<=n/\n<(len:Int)] (.c (.v (.pointer (ae a (n.toNat*ei.size)))))
    | _=>.fail
   | none=>.fail
  | _=>.fail
 | _=>.fail
def ES (T:eu)(i:TI)(l c:SV):Q:=
 match i.k with
 | .slice e=>match aC T e with
  | some ei=>match l,c with
   | .c (.v (.int _ n)),.c (.v (.int _ m))=>match mu ei.zero with
    | some zs=>if Nat.beq ei.bytes 0||Nat.beq ei.size 0||!(Nat.beq ei.size zs.length) then .fail else .new [0<=n,n<=m,(ei.bytes:Int)*m<=140737488355328] ⟨.row (vE m.toNat zs),e⟩ λd=>.c (.oI d 0 n.toNat m.toNat)
    | none=>.fail
   | _,_=>.fail
  | none=>.fail
 | _=>.fail
def Bp:List SV->Option (List Nat)
 | []=>some []
 | .c (.ptr s 0)::r=>match Bp r with
  | some l=>some (s::l)
  | none=>none
 | _=>none
def cR (ρ:Operand->Option SV):List Operand->Option (List SV)
 | []=>some []
 | o::r=>match ρ o,cR ρ r with
  | some x,some l=>some (x::l)
  | _,_=>none
def cK (a b:Int):Int:=if b<a then b else a
def ch (a b:Int):Int:=if b>a then b else a
def foldI (f:Int->Int->Int)(k:IntKind)(a:Int):List SV->Option Int
 | []=>some a
 | .c (.v (.int k' b))::r=>if AH k k' then foldI f k (f a b) r else none
 | _=>none
def fV (bx:Nat->Option aW)(s:Nat):Option (List Value):=
 match bx s with
 | some ⟨.lit cs,_⟩=>mu cs
 | some ⟨.row vs,_⟩=>some vs
 | _=>none
def mR (bx:Nat->Option aW)(s:Nat):Option TypeId:=match bx s with|some b=>some b.ty|none=>none
def aA (ws:List Value)(o n:Nat):List Value:=cond (Nat.ble (o+n) ws.length) ((ws.drop o).take n) (List.replicate n (.agg #[]))
def qg (ws:List Value)(k c sz:Nat):List Value:=cond (Nat.ble k c) (aA ws 0 (k*sz)) (List.replicate (k*sz) (.agg #[]))
def df (bx:Nat->Option aW)(e:TypeId)(ei:TI)(b x:SV):Q:=
 match mu ei.zero with
 | none=>.fail
 | some zs=>if Nat.beq ei.bytes 0||Nat.beq ei.size 0||!(Nat.beq ei.size zs.length) then .fail else
  let src:Option (OA×Nat ⊕ List Value):=match x with
   | .c (.v (.slice a k _))=>some (.inl (a,k))
   | .c (.oI s o k _)=>match bx s with
    | some ⟨.row ws,_⟩=>some (.inr (aA ws o (k*ei.size)))
    | _=>match fV bx s with
     | some ws=>if Nat.ble (o+k*ei.size) ws.length then some (.inr ((ws.drop o).take (k*ei.size))) else none
     | none=>none
   | .c (.eJ s k c)=>match bx s with
    | some ⟨.aB ws,_⟩=>some (.inr (qg ws k c ei.size))
    | _=>none
   | _=>none
  match src with
  | none=>.fail
  | some src=>match b with
   | .c (.v (.slice a n c))=>.app none a [] n c src ei.size ei.bytes e
   | .c (.oI s 0 n c)=>match fV bx s,mR bx s with
    | some vs,some ty=>if Nat.beq ty e then .app (some s) none vs n c src ei.size ei.bytes e else .fail
    | _,_=>.fail
   | .c (.eJ s n c)=>match bx s with
    | some ⟨.aB vs,ty⟩=>if Nat.beq ty e then .wH s vs n c src ei.size ei.bytes e else .fail
    | _=>.fail
   | _=>.fail
def nw (b:Builtin)(k:TK)(xs:List SV):Q:=
 match xs with
 | []=>.fail
 | x::r=>match b with
  | .len=>match r,k,x with
   | [],.slice _,.c (.v (.slice _ n _))=>.ret [] (.c (.v (.int .i64 n)))
   | [],.slice _,.c (.oI _ _ n _)=>.ret [] (.c (.v (.int .i64 n)))
   | [],.slice _,.c (.eJ _ n _)=>.ret [] (.c (.v (.int .i64 n)))
   | [],.str,.c (.v (.string s))=>.ret [] (.c (.v (.int .i64 s.size)))
   | _,_,_=>.fail
  | .cap=>match r,k,x with
   | [],.slice _,.c (.v (.slice _ _ c))=>.ret [] (.c (.v (.int .i64 c)))
   | [],.slice _,.c (.oI _ _ _ c)=>.ret [] (.c (.v (.int .i64 c)))
   | [],.slice _,.c (.eJ _ _ c)=>.ret [] (.c (.v (.int .i64 c)))
   | _,_,_=>.fail
  | .min=>match x with
   | .c (.v (.int k a))=>match foldI cK k a r with
    | some m=>.ret [] (.c (.v (.int k m)))
    | none=>.fail
   | _=>.fail
  | .max=>match x with
   | .c (.v (.int k a))=>match foldI ch k a r with
    | some m=>.ret [] (.c (.v (.int k m)))
    | none=>.fail
   | _=>.fail
  | _=>.fail
def Br (t:TypeId)(i:TI)(v:SV):Q:=
 match i.k with
 | .iface=>.fail
 | _=>match v.ids,v.AG with
  | [],false=>.ret [] (.c (.w (.iface t (v.den λ_=>0))))
  | _,_=>.fail
def oE (T:eu)(bx:Nat->Option aW)(t:TypeId)(x:SV):Q:=
 match aC T t with
 | some i=>match i.k with
  | .slice e=>match aC T e with
   | some ei=>match mu ei.zero,x with
    | some zs,.c (.oI s o n _)=>match bx s with
     | some ⟨.row vs,ty⟩=>if Nat.beq ei.size 0||!(Nat.beq ei.size zs.length)||!(zs.all Value.oneCell') then .fail else .yw [o+n*ei.size<=vs.length] s ⟨.row (vs.take o++vE n zs++vs.drop (o+n*ei.size)),ty⟩
     | _=>.fail
    | _,_=>.fail
   | none=>.fail
  | _=>.fail
 | none=>.fail
def Nb:List C->Option (List (OA×Nat×Nat))
 | []=>some []
 | .v (.slice p n c)::r=>match Nb r with
  | some l=>some ((p,n,c)::l)
  | none=>none
 | _=>none
def ny (T:eu)(i:TI)(cs:List C)(k:Int):Q:=
 match i.k with
 | .arr n e=>match aC T e,Nb cs with
  | some ei,some l=>match ei.k with
   | .slice _=>if Nat.beq ei.size 1&&Nat.beq l.length n then .ret [0<=k/\k<(n:Int)] (.c (.v (.slice (l.getD k.toNat (none,0,0)).1 (l.getD k.toNat (none,0,0)).2.1 (l.getD k.toNat (none,0,0)).2.2))) else .fail
   | _=>.fail
  | _,_=>.fail
 | _=>.fail
def aS (T:eu)(ρ:Operand->Option SV)(bx:Nat->Option aW)(op:Op):Q:=
 match op with
 | .move x|.assign x=>match ρ x with
  | some v=>.ret [] v
  | none=>.fail
 | .pick c a b=>match ρ c with
  | some (.c .tt)=>match ρ a with
   | some v=>.ret [] v
   | none=>.fail
  | some (.c .ff)=>match ρ b with
   | some v=>.ret [] v
   | none=>.fail
  | _=>.fail
 | .alloc t=>match aC T t with
  | some i=>.new [] ⟨.lit i.zero,t⟩ λd=>.c (.ptr d 0)
  | none=>.fail
 | .box t x=>match ρ x with
  | some v=>match v.AG with
   | true=>.fail
   | false=>.new v.gV ⟨.lit v.cells,t⟩ λd=>.c (.ptr d 0)
  | none=>.fail
 | .build t parts=>match aC T t,partsOf ρ parts.toList with
  | some i,some ps=>match i.k with
   | .struct fs=>match il T fs with
    | some pl=>match rJ (λj=>pl[j]?) i.zero ps with
     | some cs=>.ret (ps.flatMap λx=>x.2.gV) (.agg cs)
     | none=>.fail
    | none=>.fail
   | .arr _ e=>match aC T e with
    | some ei=>match rJ (λj=>some (j*ei.size,ei.size)) i.zero ps with
     | some cs=>.ret (ps.flatMap λx=>x.2.gV) (.agg cs)
     | none=>.fail
    | none=>.fail
   | _=>.fail
  | _,_=>.fail
 | .buildSlice t len parts=>match aC T t,partsOf ρ parts.toList with
  | some i,some ps=>match i.k with
   | .slice e=>match aC T e with
    | some ei=>if Nat.ble (len*ei.size) 16777216&&Nat.beq ei.zero.length ei.size&&!(Nat.beq ei.size 0) then match rJ (λj=>some (j*ei.size,ei.size)) (rep len ei.zero) ps with
      | some cs=>.new (ps.flatMap λx=>x.2.gV) ⟨.lit cs,e⟩ λd=>.c (.oI d 0 len len)
      | none=>.fail
     else .fail
    | none=>.fail
   | _=>.fail
  | _,_=>.fail
 | .load t a=>match aC T t,ρ a with
  | some i,some x=>lD bx i x
  | _,_=>.fail
 | .store t a x=>match aC T t,ρ a,ρ x with
  | some i,some av,some xv=>je bx i av xv
  | _,_,_=>.fail
 | .nilCheck x=>match ρ x with
  | some (.c (.ptr s o))=>.ret [] (.c (.ptr s o))
  | some (.c (.v (.pointer p)))=>.ret [p.isSome=true] (.c (.v (.pointer p)))
  | _=>.fail
 | .binOp o xt x y _=>match ρ x,ρ y with
  | some (.c a),some (.c b)=>match b with
   | .v .nilIface=>match y with
    | .const _=>Ge T o xt a b
    | _=>.fail
   | b=>Ge T o xt a b
  | _,_=>.fail
 | .unOp .not _ x=>match ρ x with
  | some (.c .tt)=>.ret [] (.c .ff)
  | some (.c .ff)=>.ret [] (.c .tt)
  | some (.c (.v (.bool b)))=>.ret [] (.c (.v (.bool (!b))))
  | _=>.fail
 | .unOp .xor _ x=>match ρ x with
  | some (.c (.v (.int k n)))=>.ret [] (.c (.v (.int k (b_ .xor k (if k.signed then -1 else k.max) n))))
  | _=>.fail
 | .unOp .neg _ x=>match ρ x with
  | some (.c (.v (.int k n)))=>.ret [] (.c (.v (.int k (k.wrap (0-n)))))
  | _=>.fail
 | .convert src dst x=>match aC T src,aC T dst,ρ x with
  | some _,some i,some (.c (.v (.int _ n)))=>match i.k with
   | .int k=>.ret [] (.c (.v (.int k (k.wrap n))))
   | _=>.fail
  | _,_,_=>.fail
 | .makeFunc (.func f) first caps=>match first.toList with
  | []=>match cR ρ caps.toList with
   | some xs=>match Bp xs with
    | some ss=>.ret [] (.c (.CG f ss))
    | none=>.fail
   | none=>.fail
  | _=>.fail
 | .makeSlice t l c=>match aC T t,ρ l,ρ c with
  | some i,some lv,some cv=>ES T i lv cv
  | _,_,_=>.fail
 | .slice t x lo hi mx=>match aC T t,ρ x,F7 ρ lo,F7 ρ hi,F7 ρ mx with
  | some i,some xv,some l,some h,some m=>match i.k with
   | .slice e=>match aC T e with
    | some ei=>wL ei.size xv l h m
    | none=>.fail
   | _=>.fail
  | _,_,_,_,_=>.fail
 | .fieldAddr t x f=>match aC T t,ρ x with
  | some i,some xv=>match i.k with
   | .struct fs=>match fs[f]? with
    | some (ft,off)=>match aC T ft with
     | some fi=>if Nat.beq fi.size 0 then .fail else match xv with
      | .c (.ptr s o)=>.ret [] (.c (.ptr s (o+off)))
      | .c (.v (.pointer p))=>.ret [p.isSome=true] (.c (.v (.pointer (ae p off))))
      | _=>.fail
     | none=>.fail
    | none=>.fail
   | _=>.fail
  | _,_=>.fail
 | .field t x f=>match aC T t,ρ x with
  | some i,some (.agg cs)=>match i.k with
   | .struct fs=>match fs[f]? with
    | some (ft,off)=>match aC T ft with
     | some fi=>match fi.k with
      | .struct _|.arr _ _=>.ret [] (.agg ((cs.drop off).take fi.size))
      | _=>match cs[off]? with
       | some c=>.ret [] (.c c)
       | none=>.fail
     | none=>.fail
    | none=>.fail
   | _=>.fail
  | _,_=>.fail
 | .indexAddr t x ix=>match aC T t,ρ x,ρ ix with
  | some i,some xv,some iv=>jd T i xv iv
  | _,_,_=>.fail
 | .extract x j=>match ρ x with
  | some (.vL xs)=>match xs[j]? with
   | some v=>match wg v with
    | some y=>.ret [] y
    | none=>.fail
   | none=>.fail
  | _=>.fail
 | .call c=>match c.callee with
  | .builtin .append=>match cR ρ c.args.toList,c.argTypes.toList with
   | some [b,x],[t,t']=>match aC T t,aC T t' with
    | some i,some i'=>match i.k,i'.k with
     | .slice e,.slice _=>match aC T e with
      | some ei=>df bx e ei b x
      | none=>.fail
     | _,_=>.fail
    | _,_=>.fail
   | _,_=>.fail
  | .builtin .clear=>match cR ρ c.args.toList,c.argTypes.toList with
   | some [x],[t]=>oE T bx t x
   | _,_=>.fail
  | .builtin b=>match cR ρ c.args.toList,c.argTypes.toList with
   | some xs,t::_=>match aC T t with
    | some i=>nw b i.k xs
    | none=>.fail
   | _,_=>.fail
  | _=>.fail
 | .index t x ix=>match aC T t,ρ x,ρ ix with
  | some i,some (.c (.v (.string s))),some (.c (.v (.int _ n)))=>match i.k with
   | .str=>.ret [0<=n/\n<(s.size:Int)] (.c (.v (.int .u8 ((s.data.toList.getD n.toNat 0).toNat:Int))))
   | _=>.fail
  | some i,some (.agg cs),some (.c (.v (.int _ n)))=>ny T i cs n
  | _,_,_=>.fail
 | .makeInterface t x=>match aC T t,ρ x with
  | some i,some v=>Br t i v
  | _,_=>.fail
 | _=>.fail
def Fc:List Prop->Prop->Prop
 | [],k=>k
 | p::r,k=>p/\Fc r k
def View.U6 (V:View)(p:Addr):Nat->List C->Prop->Prop
 | _,[],k=>k
 | i,c::r,k=>V.at (p.add i) (c.den λ_=>0)/\V.U6 p (i+1) r k
def View.U5 (V:View)(p:OA)(x:SV)(k:Prop):Prop:=
 match x with
 | .agg cs=>∃a,p=some a/\V.U6 a 0 cs k
 | .c c=>(∃a,p=some a/\V.at a (c.den λ_=>0))/\k
 | .vL _=>False
def Vd (vs:List Value)(o size:Nat)(x:SV):Prop:=
 match x with
 | .agg cs=>o+size<=vs.length/\(vs.drop o).take size=cs.map (C.den λ_=>0)
 | .c c=>vs[o]?=some (c.den λ_=>0)
 | .vL _=>False
def iQ (x:Nat):List Nat->Bool
 | []=>false
 | y::r=>cond (Nat.beq x y) true (iQ x r)
def dedup:List Nat->List Nat
 | []=>[]
 | x::r=>let l:=dedup r;cond (iQ x l) l (x::l)
def Db (l m:List Nat):Bool:=l.all λx=>!(iQ x m)
def SS (l m:List Nat):Bool:=l.all λx=>iQ x m
def C.rel (L:List Nat)(β:Nat->Nat)(J:C->Value):C->C
 | .ptr s o=>cond (iQ s L) (.v (.pointer (some ⟨β s,o,none⟩))) (.ptr s o)
 | .oI s o n c=>cond (iQ s L) (.v (.slice (some ⟨β s,o,none⟩) n c)) (.oI s o n c)
 | .eJ s n c=>cond (iQ s L) (.v (.slice (mA (β s) c) n c)) (.eJ s n c)
 | .CG f ss=>cond (Db ss L) (.CG f ss) (.w (J (.CG f ss)))
 | x=>x
def SV.rel (L:List Nat)(β:Nat->Nat)(J:C->Value):SV->SV
 | .c x=>.c (x.rel L β J)
 | .agg cs=>.agg (cs.map (C.rel L β J))
 | .vL xs=>.vL (xs.map λx=>(x.1,x.2.map (C.rel L β J)))
def aW.rel (L:List Nat)(β:Nat->Nat)(J:C->Value)(b:aW):aW:=
 match b.cs with
 | .row _=>b
 | .aB _=>b
 | .lit cs=>⟨.lit (cs.map (C.rel L β J)),b.ty⟩
def St.rel (st:St)(L:List Nat)(β:Nat->Nat)(J:C->Value):St:=
 ⟨λt=>match st.ax t with|some x=>some (x.rel L β J)|none=>none,
   λt=>cond (iQ t L) none (match st.boxes t with|some b=>some (b.rel L β J)|none=>none)⟩
def View.sl (V:View)(a:OA)(xs:List Value):Prop:=∀i v,xs[i]?=some v->∃ad,a=some ad/\V.at (ad.add i) v
def rK (s d:Nat):Nat:=cond (Nat.blt s 100000) d (d+200000)
def Hk (s:Nat)(vs:List Value)(n c size bytes:Nat)(ty:TypeId)(d:Nat)(st:St)(V:View)(K:St->View->Prop)(k:Nat)(xs:List Value):Prop:=
 (n+k)*bytes<=140737488355328/\n<=c/\c*size<=vs.length/\xs.length=k*size/\(∀v∈xs,v.oneCell'=true) /\
  match st.boxes (rK s d) with
  | some _=>False
  | none=>∀(_:Nat)(_:C->Value)(spare:List Value)(c':Nat),n+k<=c'->c'*size<=(n+k)*size+spare.length ->
   K (((st.box s ⟨.aB [],ty⟩).box (rK s d) ⟨.row (vs.take (n*size)++xs++spare),ty⟩).put (some d) (.c (.oI (rK s d) 0 (n+k) c'))) V
def xE (s:Nat)(vs:List Value)(n c size bytes:Nat)(ty:TypeId)(d:Nat)(st:St)(V:View)(K:St->View->Prop)(k:Nat)(xs:List Value):Prop:=
 (n+k)*bytes<=140737488355328/\n<=c/\c*size<=vs.length/\xs.length=k*size/\(∀v∈xs,v.oneCell'=true) /\
  match st.boxes (rK s d) with
  | some _=>False
  | none=>∀(spare:List Value)(c':Nat),n+k<=c'->c'*size<=(n+k)*size+spare.length ->
   K (((st.box s ⟨.aB [],ty⟩).box (rK s d) ⟨.aB (vs.take (n*size)++xs++spare),ty⟩).put (some d) (.c (.eJ (rK s d) (n+k) c'))) V
def Hl (vs:List Value)(n c size bytes:Nat)(ty:TypeId)(d:Nat)(st:St)(V:View)(K:St->View->Prop)(k:Nat)(xs:List Value):Prop:=
 (n+k)*bytes<=140737488355328/\c<n+k/\xs.length=k*size/\(∀v∈xs,v.oneCell'=true) /\
  match st.boxes d with
  | some _=>False
  | none=>∀(spare:List Value)(c':Nat),n+k<=c'->c'*size<=(n+k)*size+spare.length ->
   K ((st.box d ⟨.row (vs++xs++spare),ty⟩).put (some d) (.c (.oI d 0 (n+k) c'))) V
def yx (q:Q)(dst:Option Nat)(st:St)(V:View)(K:St->View->Prop):Prop:=
 match q with
 | .fail=>False
 | .ret sc x=>Fc sc (K (st.put dst x) V)
 | .new sc b x=>match dst with
  | some d=>match st.boxes d with
   | none=>Fc sc (K ((st.box d b).put (some d) (x d)) V)
   | some _=>False
  | none=>False
 | .yw sc s b=>match dst with
  | none=>Fc sc (K (st.box s b) V)
  | some _=>False
 | .rd p sh=>sh.ex λx=>V.U5 p x (K (st.put dst x) V)
 | .rM vs o size sh=>sh.ex λx=>Vd vs o size x/\K (st.put dst x) V
 | .wH s vs n c x size bytes ty=>match dst with
  | none=>False
  | some d=>match x with
   | .inr xs=>xE s vs n c size bytes ty d st V K (xs.length / size) xs
   | .inl (a,k)=>∃xs:List Value,V.sl a xs/\xs.length=k*size/\xE s vs n c size bytes ty d st V K k xs
 | .app old ba vs n c x size bytes ty=>match dst with
  | none=>False
  | some d=>match old with
   | some s=>match x with
    | .inr xs=>Hk s vs n c size bytes ty d st V K (xs.length / size) xs
    | .inl (a,k)=>∃xs:List Value,V.sl a xs/\xs.length=k*size/\Hk s vs n c size bytes ty d st V K k xs
   | none=>∃vs:List Value,V.sl ba vs/\vs.length=n*size/\n<=c/\(ba.isNone=true->c=0)/\(match x with
    | .inr xs=>Hl vs n c size bytes ty d st V K (xs.length / size) xs
    | .inl (a,k)=>∃xs:List Value,V.sl a xs/\xs.length=k*size/\(k=0->K (st.put (some d) (.c (.v (.slice ba n c)))) V)/\(k≠0->Hl vs n c size bytes ty d st V K k xs))
def dq (β:Nat->Nat)(s b:Nat):Nat->Nat:=λt=>cond (Nat.beq t s) b (β t)
def mP:List Nat->(Nat->Nat)->((Nat->Nat)->Prop)->Prop
 | [],β,k=>k β
 | s::r,β,k=>∀b:Nat,mP r (dq β s b) k
def nK (bx:Nat->Option aW)(s:Nat):List Nat:=match bx s with|some b=>b.cs.ids|none=>[]
def reach (bx:Nat->Option aW):Nat->List Nat->List Nat
 | 0,l=>l
 | n+1,l=>reach bx n (dedup (l++l.flatMap (nK bx)))
def ju (bx:Nat->Option aW)(l:List Nat):Bool:=l.all λs=>SS (nK bx s) l
def WK (bx:Nat->Option aW)(b:aW)(β:Nat->Nat)(s:Nat):List Nat->Prop->Prop
 | [],k=>k
 | t::r,k=>cond (Nat.beq s t) (WK bx b β s r k) (match bx t with
  | some b'=>uu (Pj b++Pj b') (β s≠β t)->WK bx b β s r k
  | none=>False)
def jY (bx:Nat->Option aW)(β:Nat->Nat)(V:View):List Nat->Prop->Prop
 | [],k=>k
 | s::r,k=>match bx s with
  | some b=>uu (Pj b) (V.w.heap[β s]?=some (b.obj β))->uu (Pj b) (V.H (β s))->jY bx β V r (WK bx b β s r k)
  | none=>False
def vb (vs:List Value)(n b:Nat):Nat:=
 match vs with
 | []=>n
 | _::_=>b
def eN (bx:Nat->Option aW)(β:Nat->Nat)(n:Nat)(s:Nat):Nat:=
 match bx s with
 | some ⟨.aB vs,_⟩=>vb vs n (β s)
 | _=>β s
def C.kept:C->List Nat
 | .CG _ ss=>0::ss
 | c=>c.ids
def nZ (mv:Option (Nat×Nat)):List C->List C->(List C->Prop)->Prop
 | [],_,K=>K []
 | c::r,z::zr,K=>match c with
  | .eJ t _ _=>match mv with
   | some (m,nb)=>match Nat.beq t m with
    | true=>∃n c:Nat,nZ mv r zr λcs=>K (.eJ nb n c::cs)
    | false=>False
   | none=>False
  | c=>match c.kept with
   | []=>(shC z).ex λv=>nZ mv r zr λcs=>K (v::cs)
   | _=>nZ mv r zr λcs=>K (c::cs)
 | _,[],_=>False
def fP (T:eu)(mv:Option (Nat×Nat))(β:Nat->Nat)(V:View):List Nat->St->(St->Prop)->Prop
 | [],st,k=>k st
 | s::r,st,k=>match st.boxes s with
  | some ⟨.lit cs,ty⟩=>match aC T ty with
   | some i=>nZ mv cs i.zero λcs'=>V.w.heap[β s]?=some (.cells (cs'.map (C.den β)).toArray ty (0,0))/\fP T mv β V r (st.box s ⟨.lit cs',ty⟩) k
   | none=>False
  | some ⟨.row _,ty⟩=>∃vs:List Value,V.w.heap[β s]?=some (.cells vs.toArray ty (0,0))/\fP T mv β V r (st.box s ⟨.row vs,ty⟩) k
  | some ⟨.aB vs,ty⟩=>vs≠[]/\∃vs':List Value,vs'≠[]/\V.w.heap[β s]?=some (.cells vs'.toArray ty (0,0))/\fP T mv β V r (st.box s ⟨.aB vs',ty⟩) k
  | _=>False
def sZ (bx:Nat->Option aW)(β:Nat->Nat)(V:View):List Nat->Prop->Prop
 | [],k=>k
 | s::r,k=>match bx s with
  | some b=>uu (Pj b) (V.bg (β s) (b.obj β))->sZ bx β V r k
  | none=>False
def sU:List C->List Nat
 | []=>[]
 | .eJ t _ _::r=>t::sU r
 | _::r=>sU r
def uF (bx:Nat->Option aW)(L:List Nat):List Nat:=dedup (L.flatMap λs=>match bx s with|some ⟨.lit cs,_⟩=>sU cs|_=>[])
def oa:List SV->List Nat
 | []=>[]
 | .c (.eJ s _ _)::_=>[s]
 | .c (.oI s 0 _ _)::_=>[s]
 | _::r=>oa r
def yZ (nb:Nat):List (Bool×List C)->List (Bool×List C)
 | []=>[]
 | (false,[.v (.slice _ n c)])::r=>(false,[.eJ nb n c])::r
 | x::r=>x::yZ nb r
def FN (nb:Nat):List C->List C
 | []=>[]
 | .v (.slice _ n c)::r=>.eJ nb n c::r
 | x::r=>x::FN nb r
def wB (nb:Nat):SV->SV
 | .c (.v (.slice _ n c))=>.c (.eJ nb n c)
 | .agg cs=>.agg (FN nb cs)
 | .vL xs=>.vL (yZ nb xs)
 | x=>x
def FO (T:eu):List TypeId->Option TypeId
 | []=>none
 | t::r=>match aC T t with
  | some i=>match i.k with
   | .slice e=>some e
   | _=>FO T r
  | none=>none
def QD (T:eu)(ty:TypeId):Option TypeId:=
 match aC T ty with
 | some i=>match i.k with
  | .slice e=>some e
  | .tuple ts=>FO T ts
  | .struct fs=>FO T (fs.map Prod.fst)
  | _=>none
 | none=>none
def aH (β:Nat->Nat)(xs:List SV):Array Value:=(xs.map (SV.den β)).toArray
inductive CM where
 | none|ar|rel|jW|give
def gT (m:Option Nat)(d:Nat):Nat:=
 match m with
 | some m=>rK m d
 | Option.none=>d
def mvP (m:Option Nat)(nb:Nat):Option (Nat×Nat):=
 match m with
 | some m=>some (m,nb)
 | Option.none=>Option.none
def Ix (m:Option Nat)(L:List Nat):List Nat:=
 match m with
 | some m=>L.filter λs=>!(Nat.beq s m)
 | Option.none=>L
def um (m:Option Nat)(ety:TypeId)(st:St):St:=
 match m with
 | some m=>st.box m ⟨.aB [],ety⟩
 | Option.none=>st
def Cz (m:Option Nat)(st:St)(β:Nat->Nat)(b':Nat):Prop:=
 match m with
 | some m=>match st.boxes m with
  | some ⟨.aB vs,_⟩=>vs≠[]/\b'=β m
  | _=>b'=β m
 | Option.none=>False
def cI (T:eu)(give:Bool)(sh:Sh)(L:List Nat)(m:Option Nat)(d:Nat)(ety:TypeId)(β:Nat->Nat)(st:St)(V':View)(K:St->View->Prop)(r':Value)(fu:View):Prop:=
 ∃(b':Nat)(vs':List Value),(vs'≠[]->fu.w.heap[b']?=some (.cells vs'.toArray ety (0,0)))/\(vs'≠[]->V'.w.heap.size<=b'\/Cz m st β b') /\
  sh.ex λx=>r'=(cond give (wB (gT m d) x) x).den (dq β (gT m d) b') /\
   fP T (mvP m (gT m d)) (dq β (gT m d) b') fu (Ix m L) ((um m ety st).box (gT m d) ⟨.aB vs',ety⟩) λst'=>K (st'.put (some d) (cond give (wB (gT m d) x) x)) (fu.shut.bu (vs'≠[]) b')
def Gp (bx:Nat->Option aW)(m ety:Nat):Bool:=
 match bx m with
 | some ⟨_,t⟩=>Nat.beq t ety
 | Option.none=>true
def eG (st:St)(L:List Nat)(ty:TypeId):St:=L.foldl (λst s=>st.box s ⟨.aB [],ty⟩) st
def lr (st:St)(m:Option Nat)(d:Nat):Bool:=
 match st.boxes (gT m d) with
 | some _=>false
 | Option.none=>true
def hZ (P:Program)(T:eu)(m:CM)(f:FuncId)(xs:List SV)(ty:TypeId)(dst:Option Nat)(st:St)(V:View)(K:St->View->Prop):Prop:=
 match shOf T ty with
 | Option.none=>False
 | some sh=>match reach st.boxes 3 (dedup (xs.flatMap SV.ids)) with
  | []=>match m with
   | .give=>match dst,QD T ty with
    | some d,some ety=>match lr st Option.none d with
     | false=>False
     | true=>∀V':View,V.Le V'->aa P f (aH (λ_=>0) xs) V' (cI T true sh [] Option.none d ety (λ_=>0) st V' K)
    | _,Option.none=>∀V':View,V.Le V'->aa P f (aH (λ_=>0) xs) V' λr fu=>sh.ex λx=>r=x.den (λ_=>0)/\K (st.put dst x) fu
    | _,_=>False
   | .jW=>match sh,dst with
    | .val (.one .ptr),some d=>match st.boxes d with
     | some _=>False
     | Option.none=>match aC T ty with
      | some ti=>match ti.k with
       | .ptr e=>match aC T e with
        | some ei=>∀V':View,V.Le V'->aa P f (aH (λ_=>0) xs) V' λr fu=>∃b:Nat,XA (ei.zero.map shC) λcs=>
          r=.pointer (some ⟨b,0,Option.none⟩)/\V'.w.heap.size<=b/\fu.bg b (.cells (cs.map (C.den λ_=>0)).toArray e (0,0))/\K ((st.box d ⟨.lit cs,e⟩).put (some d) (.c (.ptr d 0))) (fu.QJ b)
        | Option.none=>False
       | _=>False
      | Option.none=>False
    | _,_=>False
   | _=>∀V':View,V.Le V'->aa P f (aH (λ_=>0) xs) V' λr fu=>sh.ex λx=>r=x.den (λ_=>0)/\K (st.put dst x) fu
  | s::r=>match ju st.boxes (s::r) with
   | false=>False
   | true=>match m with
    | .none|.jW=>False
    | .give=>match dst,QD T ty,oa xs,uF st.boxes (s::r) with
     | some d,some ety,[],[]=>match lr st Option.none d with
      | false=>False
      | true=>∀V':View,V.Le V'->mP (s::r) (λ_=>0) λβ=>jY st.boxes β V' (s::r)
       (aa P f (aH β xs) (V'.ar ((s::r).map (eN st.boxes β V'.w.heap.size))) (cI T true sh (s::r) Option.none d ety β st V' K))
     | some d,some ety,[m],[]=>match Gp st.boxes m ety with
      | true=>match lr st (some m) d with
       | false=>False
       | true=>∀V':View,V.Le V'->mP (s::r) (λ_=>0) λβ=>jY st.boxes β V' (s::r)
        (aa P f (aH β xs) (V'.ar ((s::r).map (eN st.boxes β V'.w.heap.size))) (cI T true sh (s::r) (some m) d ety β st V' K))
      | false=>match lr (eG st (s::r) 0) Option.none d with
       | false=>False
       | true=>match (s::r).all λt=>Nat.blt t 100000 with
        | false=>False
        | true=>∀V':View,V.Le V'->mP (s::r) (λ_=>0) λβ=>sZ st.boxes β V' (s::r)
         (aa P f (aH β xs) V' (cI T true sh [] Option.none d ety (λ_=>0) (eG st (s::r) 0) V' K))
     | _,Option.none,_,_=>match (s::r).all λt=>Nat.blt t 100000 with
      | false=>False
      | true=>∀V':View,V.Le V'->mP (s::r) (λ_=>0) λβ=>sZ st.boxes β V' (s::r)
       (aa P f (aH β xs) V' λr' fu=>sh.ex λx=>r'=x.den (λ_=>0)/\K ((eG st (s::r) 0).put dst x) fu)
     | _,_,_,_=>False
    | .ar=>match uF st.boxes (s::r) with
     | []=>∀V':View,V.Le V'->mP (s::r) (λ_=>0) λβ=>jY st.boxes β V' (s::r)
      (aa P f (aH β xs) (V'.ar ((s::r).map (eN st.boxes β V'.w.heap.size))) λr' fu=>sh.ex λx=>r'=x.den (λ_=>0)/\fP T Option.none β fu (s::r) st λst'=>K (st'.put dst x) fu.shut)
     | [m]=>match dst,mR st.boxes m with
      | some d,some ety=>match lr st (some m) d with
       | false=>False
       | true=>∀V':View,V.Le V'->mP (s::r) (λ_=>0) λβ=>jY st.boxes β V' (s::r)
        (aa P f (aH β xs) (V'.ar ((s::r).map (eN st.boxes β V'.w.heap.size))) (cI T false sh (s::r) (some m) d ety β st V' K))
      | _,_=>False
     | _=>False
    | .rel=>match (s::r).all λt=>Nat.blt t 100000 with
     | false=>False
     | true=>∀V':View,V.Le V'->mP (s::r) (λ_=>0) λβ=>sZ st.boxes β V' (s::r)
      (aa P f (aH β xs) V' λr' fu=>sh.ex λx=>r'=x.den (λ_=>0)/\∀J:C->Value,K ((st.rel (s::r) β J).put dst x) fu)
def oJ (bx:Nat->Option aW):List SV->Option (List Value×Nat×List SV)
 | []=>none
 | x::r=>match x with
  | .c (.eJ s n c)=>match bx s with
   | some ⟨.aB vs,_⟩=>some (vs,c,.c (.v (.slice none n c))::r)
   | _=>none
  | x=>match oJ bx r with
   | some (vs,c,r')=>some (vs,c,x::r')
   | none=>none
def mJ (P:Program)(T:eu)(m:CM)(f:FuncId)(xs:List SV)(ty:TypeId)(dst:Option Nat)(st:St)(V:View)(K:St->View->Prop):Prop:=
 match m with
 | .ar=>match oJ st.boxes xs with
  | some (vs,c,xs')=>(vs=[]->c=0/\hZ P T .ar f xs' ty dst st V K)/\(vs≠[]->hZ P T .ar f xs ty dst st V K)
  | none=>hZ P T .ar f xs ty dst st V K
 | m=>hZ P T m f xs ty dst st V K
def Ak (ss:List Nat):List SV:=ss.map λs=>.c (.ptr s 0)
inductive Hint where
 | free|own (l:List Nat)
def jS (op:Op):List Operand:=
 match op with
 | .load _ a=>[a]
 | .store _ a _=>[a]
 | .call ⟨.value f,args,_⟩=>args.toList++[f]
 | .call ⟨.builtin .append,args,_⟩=>args.toList
 | _=>[]
def fY (bx:Nat->Option aW)(op:Op)(l:List Nat):List Nat:=
 match op with
 | .call _=>reach bx 3 (dedup l)
 | _=>l
def KS (P:Program)(t:TypeId)(name:String):Option FuncId:=
 match P.info? t,P.underlying t with
 | some i,some d=>match i.methods.find? (λm=>m.name==name) with
  | some m=>match m.path.toList,m.func,d with
   | [],some (f,false),.struct _=>some f
   | _,_,_=>none
  | none=>none
 | _,_=>none
def dY (P:Program)(T:eu)(m:CM)(o:Oper)(st:St)(V:View)(K:St->View->Prop):Prop:=
 match o.op with
 | .call ⟨.value Tk,args,_⟩=>match cR st.bC args.toList with
  | some xs=>match st.bC Tk with
   | some (.c (.CG f ss))=>mJ P T m f (xs++Ak ss) o.type o.dst st V K
   | _=>False
  | none=>False
 | .call ⟨.invoke recv name,args,_⟩=>match cR st.bC args.toList with
  | some xs=>match st.bC recv with
   | some (.c (.w (.iface t v)))=>match KS P t name with
    | some f=>mJ P T m f (.c (.w v)::xs) o.type o.dst st V K
    | none=>False
   | _=>False
  | none=>False
 | op=>yx (aS T st.bC st.boxes op) o.dst st V K
def dR (P:Program)(T:eu)(m:CM)(h:Hint)(o:Oper)(st:St)(V:View)(K:St->View->Prop):Prop:=
 match h with
 | .free=>dY P T m o st V K
 | .own l=>match cR st.bC (jS o.op) with
  | some xs=>match SS (fY st.boxes o.op (xs.flatMap SV.ids)) l with
   | true=>dY P T m o st V K
   | false=>False
  | none=>False
def lJ:SV:=.vL []
def vo (P:Program)(T:eu)(m:CM)(h:Hint)(ops:Array Oper)(o:Oper)(st:St)(V:View)(K:St->View->Prop):Prop:=
 match o.guard with
 | none=>dR P T m h o st V K
 | some (j,b)=>match (ops[j]?).bind (·.dst) with
  | none=>False
  | some g=>match st.ax g with
   | some (.c .tt)=>match b with
    | true=>dR P T m h o st V K
    | false=>K (st.put o.dst lJ) V
   | some (.c .ff)=>match b with
    | true=>K (st.put o.dst lJ) V
    | false=>dR P T m h o st V K
   | some (.c (.v (.bool c)))=>match b with
    | true=>(c=true->dR P T m h o (st.put (some g) (.c .tt)) V K)/\(c=false->K ((st.put (some g) (.c .ff)).put o.dst lJ) V)
    | false=>(c=true->K ((st.put (some g) (.c .tt)).put o.dst lJ) V)/\(c=false->dR P T m h o (st.put (some g) (.c .ff)) V K)
   | some (.vL _)=>K (st.put o.dst lJ) V
   | _=>False
inductive Cls where
 | pure|load|store|alloc|call|nj|odd|jW|app|give
def bG (LF RF:List Nat):Op->Cls
 | .move _|.assign _|.pick ..| .build ..| .nilCheck _|.binOp ..| .unOp ..| .convert ..| .makeFunc ..| .slice ..| .fieldAddr ..| .field ..| .indexAddr ..| .extract ..| .index ..| .makeInterface ..=>.pure
 | .load ..=>.load
 | .store ..=>.store
 | .alloc _|.box ..| .buildSlice ..| .makeSlice ..=>.alloc
 | .call ⟨.builtin .len,_,_⟩|.call ⟨.builtin .cap,_,_⟩=>.pure
 | .call ⟨.builtin .append,_,_⟩=>.app
 | .call ⟨.value (.func f),_,_⟩=>match iQ f LF with
  | true=>match iQ (f+1000000) LF with
   | true=>.give
   | false=>.nj
  | false=>match iQ f RF with
   | true=>.odd
   | false=>match iQ (f+1000000) RF with
    | true=>.jW
    | false=>.call
 | .call ⟨.value _,_,_⟩=>.nj
 | .call ⟨.invoke _ _,_,_⟩=>.call
 | _=>.odd
def jT (op:Op):List Nat:=op.operands.toList.filterMap λ|.tmp t=>some t|_=>none
def gE (ops:Array Oper)(o:Oper):List Nat:=
 match o.guard with
 | none=>[]
 | some (j,_)=>match (ops[j]?).bind (·.dst) with
  | some g=>[g]
  | none=>[]
def fN (o:Oper):List Nat:=match o.dst with|some d=>[d]|none=>[]
def uR (c:Cls)(h:Hint)(d:List Nat):Option (List Nat×List Nat):=
 match c,h with
 | .pure,.free=>some ([],[])
 | .call,.free=>some ([],[])
 | .alloc,.free=>some (d,d)
 | .load,.own l=>some (l,[])
 | .store,.own l=>some (l,l)
 | .nj,.own l=>some (l,l++d++d.map (·+ 200000))
 | .app,.own l=>some (l,l++d++d.map (·+ 200000))
 | .give,.own l=>some (l,l++d++d.map (·+ 200000))
 | _,_=>none
def pZ:Cls->Bool
 | .pure|.load|.store|.alloc=>true
 | _=>false
def indep (LF RF:List Nat)(ops:Array Oper)(h1 h2:Hint)(o1 o2:Oper):Bool:=
 pZ (bG LF RF o1.op) &&
 Db (fN o1) (jT o2.op++gE ops o2++fN o2)&&Db (fN o2) (jT o1.op++gE ops o1) &&
 Db (gE ops o1) (jT o2.op)&&Db (gE ops o2) (jT o1.op) &&
 match uR (bG LF RF o1.op) h1 (fN o1),uR (bG LF RF o2.op) h2 (fN o2) with
 | some (r1,w1),some (r2,w2)=>Db w1 r2&&Db w2 r1&&Db w1 w2
 | _,_=>false
def fstOf (ops:List Oper)(t:Nat):Option Oper:=ops.find? λo=>match o.dst with|some d=>Nat.beq d t|none=>false
def BD (st:St)(ops:List Oper):Nat->Operand->List Nat
 | 0,_=>[]
 | n+1,.tmp t=>match fstOf ops t with
  | some o=>match o.op with
   | .alloc _|.box ..| .buildSlice ..| .makeSlice ..=>[t]
   | .call _=>[t,t+200000]
   | .assign x=>BD st ops n x++match st.ax t with
    | some x=>x.ids
    | none=>[]
   | .load _ a=>(BD st ops n a).flatMap (nK st.boxes)
   | op=>op.operands.toList.flatMap (BD st ops n)
  | none=>match st.ax t with
   | some x=>x.ids
   | none=>[]
 | _,_=>[]
def QK (LF RF:List Nat)(st:St)(ops:List Oper)(o:Oper):Hint:=
 match bG LF RF o.op with
 | .load|.store=>.own (dedup ((jS o.op).flatMap (BD st ops 10)))
 | .nj|.app|.give=>.own (reach st.boxes 3 (dedup ((jS o.op).flatMap (BD st ops 10))))
 | _=>.free
def Nq (ops:List Oper):List Nat:=
 ops.foldl (λacc o=>acc++[o.after.toList.foldl (λs e=>cond (Region.binds .any e) (Nat.lor (Nat.lor (Nat.shiftLeft 1 e.on) (acc.getD e.on 0)) s) s) 0]) []
def Xq (m i:Nat):Bool:=Nat.beq (Nat.land (Nat.shiftRight m i) 1) 1
def Ut (LF RF:List Nat)(o:Oper):Bool:=match bG LF RF o.op with|.call|.nj|.odd|.jW|.app|.give=>true|_=>false
def La (ops:Array Oper)(done:List Nat)(i:Nat):Bool:=
 match ops[i]? with
 | some o=>!(iQ i done)&&o.after.toList.all λe=>!(Region.binds .any e)||iQ e.on done
 | none=>false
def Gs (LF RF:List Nat)(ops:Array Oper):Nat->List Nat->List Nat
 | 0,_=>[]
 | n+1,done=>
  let rs:=(List.range ops.size).filter (La ops done)
  match rs.find? (λi=>match ops[i]? with|some o=>!(Ut LF RF o)|none=>false) with
  | some i=>i::Gs LF RF ops n (i::done)
  | none=>match rs with
   | i::_=>i::Gs LF RF ops n (i::done)
   | []=>[]
def tm (LF RF:List Nat)(ops:Array Oper):List Nat:=Gs LF RF ops ops.size []
def zw (LF RF:List Nat)(ops:Array Oper)(hs:List Hint)(an:List Nat):List Nat->Bool
 | []=>true
 | i::r=>(r.all λj=>Xq (an.getD j 0) i||match ops[i]?,ops[j]? with|some a,some b=>indep LF RF ops (hs.getD i .free) (hs.getD j .free) a b|_,_=>false)&&zw LF RF ops hs an r
def uK (ops:Array Oper):List Nat->List Nat->Bool
 | _,[]=>true
 | done,i::r=>La ops done i&&uK ops (i::done) r
def MQ (LF RF:List Nat)(ops:Array Oper)(hs:List Hint)(l:List Nat):Bool:=
 Nat.beq l.length ops.size&&((List.range ops.size).all λi=>iQ i l)&&uK ops [] l&&zw LF RF ops hs (Nq ops.toList) l
def S6 (P:Program)(T:eu)(m:Nat->CM)(hint:Nat->Hint)(ops:Array Oper):List Nat->St->View->(St->View->Prop)->Prop
 | [],st,V,K=>K st V
 | i::r,st,V,K=>match ops[i]? with
  | some o=>vo P T (m i) (hint i) ops o st V λst' V'=>S6 P T m hint ops r st' V' K
  | none=>False
def mD (LF RF:List Nat)(ops:Array Oper)(i:Nat):CM:=
 match ops[i]? with
 | some o=>match bG LF RF o.op with
  | .nj=>.ar
  | .odd=>.rel
  | .jW=>.jW
  | .give=>.give
  | _=>.none
 | Option.none=>.none
def modeN (LF RF:List Nat)(ops:Array Oper)(i:Nat):CM:=
 match ops[i]? with
 | some o=>match bG LF RF o.op with
  | .nj=>.ar
  | .jW=>.jW
  | .give=>.give
  | _=>.rel
 | Option.none=>.none
structure Tm where
 τ:Type
 gh:Bool:=false
 keep:List Nat
 keepB:List Nat
 ax:τ->List (Nat×SV)
 boxes:τ->List (Nat×aW)
structure W8 where
 τ:Type
 ax:τ->List (Nat×SV)
 boxes:τ->List (Nat×aW)
def My {α:Type}(f:Nat->Option α):List Nat->List (Nat×α)
 | []=>[]
 | t::r=>match f t with
  | some x=>(t,x)::My f r
  | none=>My f r
def Tm.at (A:Tm)(st:St):W8:=⟨A.τ,λx=>My st.ax A.keep++A.ax x,λx=>My st.boxes A.keepB++A.boxes x⟩
def sH (ρ:List (Nat×Nat))(s s':Nat):Bool:=
 match aC ρ s' with
 | some t=>Nat.beq s t
 | none=>Nat.beq s s'
def Eu (ρ:List (Nat×Nat)):List Nat->List Nat->Bool
 | [],[]=>true
 | s::r,s'::r'=>sH ρ s s'&&Eu ρ r r'
 | _,_=>false
def eqC (ρ:List (Nat×Nat)):C->C->List Prop
 | .v (.int k a),.v (.int k' b)=>cond (AH k k') [a=b] [False]
 | .v (.bool a),.v (.bool b)=>[a=b]
 | .tt,.v (.bool b)=>[true=b]
 | .ff,.v (.bool b)=>[false=b]
 | .v (.slice a n c),.v (.slice a' n' c')=>[a=a',n=n',c=c']
 | .v (.slice a n c),.eJ _ n' c'=>[a=none,n=n',c=c',c=0]
 | .v (.pointer p),.v (.pointer q)=>[p=q]
 | .v x,.v y=>[x=y]
 | .w x,.w y=>[x=y]
 | .w x,.v y=>[x=y]
 | .v x,.w y=>[x=y]
 | .tt,.tt=>[]
 | .ff,.ff=>[]
 | .ptr s o,.ptr s' o'=>cond (sH ρ s s') [o=o'] [False]
 | .oI s o n c,.oI s' o' n' c'=>cond (sH ρ s s') [o=o',n=n',c=c'] [False]
 | .oI s o n c,.eJ s' n' c'=>cond (sH ρ s s') [o=0,n=n',c=c',c≠0] [False]
 | .eJ s n c,.eJ s' n' c'=>cond (sH ρ s s') [n=n',c=c'] [False]
 | .CG f ss,.CG g ts=>cond (Eu ρ ss ts) [f=g] [False]
 | _,_=>[False]
def KA (ρ:List (Nat×Nat)):List C->List C->List Prop
 | [],[]=>[]
 | a::r,b::s=>eqC ρ a b++KA ρ r s
 | _,_=>[False]
def Xy (ρ:List (Nat×Nat)):SV->SV->List Prop
 | .c a,.c b=>eqC ρ a b
 | .agg l,.agg m=>KA ρ l m
 | _,_=>[False]
def SV.plain:SV->Bool
 | .vL _=>false
 | _=>true
def Qt (ρ:List (Nat×Nat))(a b:aW):List Prop:=
 match a.cs,b.cs with
 | .lit l,.lit m=>cond (Nat.beq a.ty b.ty) (KA ρ l m) [False]
 | .row l,.row m=>cond (Nat.beq a.ty b.ty) [l=m] [False]
 | .aB l,.aB m=>cond (Nat.beq a.ty b.ty) [l=m] [False]
 | .row l,.aB m=>cond (Nat.beq a.ty b.ty) [l=m] [False]
 | .lit l,.aB m=>match mu l with
  | some ws=>cond (Nat.beq a.ty b.ty) [ws=m] [False]
  | none=>[False]
 | .lit l,.row m=>match mu l with
  | some ws=>cond (Nat.beq a.ty b.ty) [ws=m] [False]
  | none=>[False]
 | _,_=>[False]
def renC:C->C->List (Nat×Nat)
 | .ptr s _,.ptr s' _=>[(s',s)]
 | .oI s _ _ _,.oI s' _ _ _=>[(s',s)]
 | .oI s _ _ _,.eJ s' _ _=>[(s',s)]
 | .eJ s _ _,.eJ s' _ _=>[(s',s)]
 | .CG _ ss,.CG _ ts=>ts.zip ss
 | _,_=>[]
def Sv:List C->List C->List (Nat×Nat)
 | a::r,b::s=>renC a b++Sv r s
 | _,_=>[]
def renSV:SV->SV->List (Nat×Nat)
 | .c a,.c b=>renC a b
 | .agg l,.agg m=>Sv l m
 | _,_=>[]
def YU (st:St):List (Nat×SV)->List (Nat×Nat)
 | []=>[]
 | (t,x)::r=>match st.ax t with
  | some y=>renSV y x++YU st r
  | none=>YU st r
def OU (st:St)(ρ:List (Nat×Nat)):List (Nat×aW)->List (Nat×Nat)
 | []=>[]
 | (t,x)::r=>match aC ρ t with
  | some s=>match st.boxes s with
   | some y=>(match y.cs,x.cs with|.lit l,.lit m=>Sv l m|_,_=>[])++OU st ρ r
   | none=>OU st ρ r
  | none=>OU st ρ r
def Su (st:St)(ss:List (Nat×SV))(bs:List (Nat×aW)):List (Nat×Nat):=
 let ρ1:=YU st ss
 let ρ2:=ρ1++OU st ρ1 bs
 let ρ3:=ρ2++OU st ρ2 bs
 ρ3++OU st ρ3 bs
def I8 (ρ:List (Nat×Nat))(t:Nat):Nat:=
 match aC ρ t with
 | some s=>s
 | none=>t
def EV (ρ:List (Nat×Nat)):List Nat->Bool
 | []=>true
 | t::r=>(Nat.blt t 100000==Nat.blt (I8 ρ t) 100000)&&(Nat.blt t 100000||Nat.ble 200000 t||Nat.beq (I8 ρ t) t)&&(r.all λu=>!(Nat.beq (I8 ρ t) (I8 ρ u)))&&EV ρ r
def qc (ρ:List (Nat×Nat)):List (Nat×aW)->List Nat
 | []=>[]
 | (t,x)::r=>match x.cs with
  | .aB _=>match aC ρ t with
   | some _=>t::qc ρ r
   | none=>qc ρ r
  | _=>t::qc ρ r
def T6 (ρ:List (Nat×Nat))(st:St):List (Nat×SV)->List Prop
 | []=>[]
 | (t,x)::r=>match st.ax t with
  | some y=>Xy ρ y x++T6 ρ st r
  | none=>[False]
def N9 (ρ:List (Nat×Nat))(st:St):List (Nat×aW)->List Prop
 | []=>[]
 | (t,x)::r=>match x.cs,aC ρ t with
  | .aB l,none=>(l=[])::N9 ρ st r
  | _,_=>match st.boxes (I8 ρ t) with
   | some y=>Qt ρ y x++N9 ρ st r
   | none=>[False]
def fitR (ρ:List (Nat×Nat))(bs:List (Nat×aW)):List Prop:=cond (EV ρ (qc ρ bs)) [] [False]
def qm (ss:List (Nat×SV))(bs:List (Nat×aW)):Bool:=
 let l:=bs.map (·.1)
 (ss.all λx=>x.2.ids.all λs=>iQ s l)&&(bs.all λx=>x.2.cs.ids.all λs=>iQ s l)
def W8.st (A:W8)(x:A.τ):St:=⟨aC (A.ax x),aC (A.boxes x)⟩
def Xl:List Prop->Prop
 | []=>True
 | [p]=>p
 | p::r=>p/\Xl r
def W8.fits (A:W8)(st:St)(x:A.τ)(k:Prop):Prop:=
 let ρ:=Su st (A.ax x) (A.boxes x)
 Xl (T6 ρ st (A.ax x)++N9 ρ st (A.boxes x)++fitR ρ (A.boxes x))/\k
def keyOf:Code->Nat
 | .region id _ _=>id
 | .seq a _=>keyOf a
 | .cond _ a b=>match keyOf a with
  | 1000000=>keyOf b
  | n=>n
 | .block _ a=>keyOf a
 | .loop a=>keyOf a
 | .scope a=>keyOf a
 | _=>1000000
abbrev Hc:=List (Nat×Tm)
def tO:Hc->Nat->Option Tm
 | [],_=>none
 | (s,x)::r,t=>cond (Nat.beq t s) (some x) (tO r t)
def WN (RF:List Nat)(id:Nat):List Nat:=RF.filterMap λx=>cond (Nat.beq (x / 100000) (100+id)) (some (x%100000)) none
def Nm (l:List Nat)(st:St)(V:View)(K:St->View->Prop):Prop:=
 match l with
 | []=>K st V
 | s::r=>match ju st.boxes (s::r)&&(s::r).all λt=>Nat.blt t 100000 with
  | false=>False
  | true=>∀V':View,V.Le V'->mP (s::r) (λ_=>0) λβ=>sZ st.boxes β V' (s::r) (∀J:C->Value,K (st.rel (s::r) β J) V')
def Jt (P:Program)(T:eu)(LF RF:List Nat)(ops:Array Oper)(draw:Bool)(st:St)(V:View)(K:St->View->Prop):Prop:=
 match draw with
 | false=>S6 P T (modeN LF RF ops) (λ_=>.free) ops (List.range ops.size) st V K
 | true=>let hs:=ops.toList.map (QK LF RF st ops.toList)
  match MQ LF RF ops hs (tm LF RF ops) with
  | true=>S6 P T (mD LF RF ops) (λi=>hs.getD i .free) ops (tm LF RF ops) st V K
  | false=>False
def unr (F:St->View->(Exit->St->View->Prop)->Prop):Nat->St->View->(Exit->St->View->Prop)->Prop
 | 0,_,_,_=>False
 | n+1,st,V,K=>F st V λe st' V'=>match e with
  | .normal=>unr F n st' V' K
  | e=>K e st' V'
def vc (P:Program)(T:eu)(LF RF:List Nat)(L J:Hc):Code->St->View->(Exit->St->View->Prop)->Prop
 | .skip,st,V,K=>K .normal st V
 | .region id ops draw,st,V,K=>match tO J (600000+id) with
  | none=>Nm (WN RF id) st V λst' V'=>Jt P T LF RF ops draw st' V' (K .normal)
  | some A=>∃I:A.τ->View->Prop,Nm (WN RF id) st V (λst' V'=>Jt P T LF RF ops draw st' V' λSM fu=>∃x,(A.at st).fits SM x (I x fu)) /\
   ∀x V',V.Le V'->I x V'->(qm ((A.at st).ax x) ((A.at st).boxes x)=true/\K .normal ((A.at st).st x) V')
 | .seq a b,st,V,K=>vc P T LF RF L J a st V λe st' V'=>match e with
  | .normal=>vc P T LF RF L J b st' V' K
  | e=>K e st' V'
 | .cond c a b,st,V,K=>match tO J (keyOf (.cond c a b)) with
  | none=>match st.bC c with
   | some (.c .tt)=>vc P T LF RF L J a st V K
   | some (.c .ff)=>vc P T LF RF L J b st V K
   | some (.c (.v (.bool t)))=>(t=true->vc P T LF RF L J a st V K)/\(t=false->vc P T LF RF L J b st V K)
   | _=>False
  | some A=>match st.bC c with
   | some (.c .tt)=>vc P T LF RF L J a st V K
   | some (.c .ff)=>vc P T LF RF L J b st V K
   | some (.c (.v (.bool t)))=>∃I:A.τ->View->Prop,
    ((t=true->vc P T LF RF L J a st V λe st' V'=>match e with
     | .normal=>∃x,(A.at st).fits st' x (I x V')
     | e=>K e st' V') /\
      (t=false->vc P T LF RF L J b st V λe st' V'=>match e with
     | .normal=>∃x,(A.at st).fits st' x (I x V')
     | e=>K e st' V')) /\
    ∀x V',V.Le V'->I x V'->(qm ((A.at st).ax x) ((A.at st).boxes x)=true/\K .normal ((A.at st).st x) V')
   | _=>False
 | .block id a,st,V,K=>match tO J (500000+id) with
  | none=>vc P T LF RF L J a st V λe st' V'=>match e with
   | .exit i=>cond (Nat.beq i id) (K .normal st' V') (K (.exit i) st' V')
   | e=>K e st' V'
  | some A=>∃I:A.τ->View->Prop,vc P T LF RF L J a st V (λe st' V'=>match e with
   | .exit i=>cond (Nat.beq i id) (∃x,(A.at st).fits st' x (I x V')) (K (.exit i) st' V')
   | .normal=>∃x,(A.at st).fits st' x (I x V')
   | e=>K e st' V')/\∀x V',V.Le V'->I x V'->(qm ((A.at st).ax x) ((A.at st).boxes x)=true/\K .normal ((A.at st).st x) V')
 | .loop a,st,V,K=>match tO L (keyOf a) with
  | none=>unr (λst V K=>vc P T LF RF L J a st V K) 3 st V K
  | some A=>match A.gh with
   | false=>∃(I:A.τ->View->Prop)(m:A.τ->Nat),(∃x,(A.at st).fits st x (I x V))/\∀x V',V.Le V'->I x V'->(qm ((A.at st).ax x) ((A.at st).boxes x)=true /\
    vc P T LF RF L J a ((A.at st).st x) V' λe st' fu=>match e with
     | .normal=>∃y,m y<m x/\(A.at st).fits st' y (I y fu)
     | e=>K e st' fu)
   | true=>∃I:A.τ->Nat->View->Prop,(∃x k,(A.at st).fits st x (I x k V))/\∀x k V',V.Le V'->I x k V'->(qm ((A.at st).ax x) ((A.at st).boxes x)=true /\
    vc P T LF RF L J a ((A.at st).st x) V' λe st' fu=>match e with
     | .normal=>∃y k',k'<k/\(A.at st).fits st' y (I y k' fu)
     | e=>K e st' fu)
 | .exit id,st,V,K=>K (.exit id) st V
 | .ret,st,V,K=>K .ret st V
 | .scope a,st,V,K=>vc P T LF RF L J a st V λe st' V'=>match e with
  | .goto _=>False
  | e=>K e st' V'
 | .label _,st,V,K=>K .normal st V
 | _,_,_,_=>False
def oH (T:eu)(st:St):List ResultVar->Option (List SV)
 | []=>some []
 | .tmp t::r=>match st.ax t,oH T st r with
  | some x,some l=>some (x::l)
  | _,_=>none
 | .cell a t::r=>match st.ax a,aC T t,oH T st r with
  | some (.c (.ptr s o)),some i,some l=>match lD st.boxes i (.c (.ptr s o)) with
   | .ret _ x=>some (x::l)
   | _=>none
  | _,_,_=>none
def minus (l m:List Nat):List Nat:=l.filter λx=>!(iQ x m)
def PM (bx:Nat->Option aW)(β:Nat->Nat)(V:View):List Nat->Prop->Prop
 | [],k=>k
 | s::r,k=>match bx s with
  | some ⟨.aB _,_⟩=>False
  | some b=>V.w.heap[β s]?=some (b.obj β)->PM bx β V r k
  | none=>False
def lR:List (Nat×aW)->List Nat
 | []=>[]
 | (s,b)::r=>match b.cs with
  | .aB _=>lR r
  | _=>s::lR r
def Ru (bs:List (Nat×aW))(β0:Nat->Nat)(b:Nat)(k:Prop):Prop:=
 match bs with
 | []=>k
 | (m,x)::r=>match x.cs with
  | .aB vs=>(vs≠[]/\b=β0 m)\/Ru r β0 b k
  | _=>Ru r β0 b k
def oG (β:Nat->Nat):List SV->Value
 | [x]=>x.den β
 | l=>.tuple (l.map (SV.den β)).toArray
def xN (T:eu)(bx:Nat->Option aW)(s:Nat):Bool:=
 cond (Nat.ble 100000 s) true (match bx s with|some ⟨.row _,ty⟩|some ⟨.aB _,ty⟩=>Nat.ble 2 (T.filter λx=>Nat.beq x.1 ty).length|some ⟨.lit _,ty⟩=>Nat.ble 3 (T.filter λx=>Nat.beq x.1 ty).length|_=>false)
def MZ (T:eu)(rs:List ResultVar)(bs:List (Nat×aW))(β0:Nat->Nat)(n0:Nat)(R:Value->View->Prop)(st:St)(V:View):Prop:=
 match oH T st rs with
 | none=>False
 | some xs=>let F:=lR bs
  let L:=reach st.boxes 3 (dedup (xs.flatMap SV.ids++F))
  match ju st.boxes L with
  | false=>False
  | true=>match (minus L F).filter (xN T st.boxes) with
   | []=>∀V':View,V.Le V'->mP (minus L F) β0 λβ=>PM st.boxes β V' F (sZ st.boxes β V' (minus L F) (R (oG β xs) V'))
   | [s]=>match st.boxes s with
    | some b=>∀V':View,mP (minus L F) β0 λβ=>V.Le (V'.bu (gdP b) (β s))->PM st.boxes β V' F (uu (Pj b) (V'.w.heap[β s]?=some (b.obj β)) ->
      uu (Pj b) (n0<=β s\/Ru bs β0 (β s) False)->sZ st.boxes β V' ((minus L F).filter (!Nat.beq s ·)) (R (oG β xs) V'))
    | none=>False
   | _=>False
def vcFn (P:Program)(T:eu)(LF RF:List Nat)(L J:Hc)(code:Code)(rs:List ResultVar)(ss:List (Nat×SV))(bs:List (Nat×aW))(β0:Nat->Nat)(V:View)(R:Value->View->Prop):Prop:=
 vc P T LF RF L J code ⟨aC ss,aC bs⟩ V λe st V'=>match e with
  | .normal=>MZ T rs bs β0 V.w.heap.size R st V'
  | .ret=>MZ T rs bs β0 V.w.heap.size R st V'
  | _=>False
def jK (n:Nat):Code->Bool
 | .region _ ops _=>ops.toList.all λo=>match o.dst with|some d=>Nat.blt d n|none=>true
 | .seq a b=>jK n a&&jK n b
 | .cond _ a b=>jK n a&&jK n b
 | .block _ a=>jK n a
 | .loop a=>jK n a
 | .scope a=>jK n a
 | _=>true
def qW:Nat->List (Nat×SV)->Bool
 | _,[]=>true
 | i,(j,x)::r=>Nat.beq i j&&x.plain&&qW (i+1) r
def GC (P:Program)(T:eu)(LF RF:List Nat)(L J:Hc)(fn:Func)(ss:List (Nat×SV))(bs:List (Nat×aW))(β0:Nat->Nat)(V:View)(R:Value->View->Prop):Prop:=
 match fn.body with
 | some code=>match jK fn.ntmps code&&qW 0 ss&&Nat.ble ss.length fn.ntmps&&Nat.ble fn.ntmps 100000&&(bs.all λb=>Nat.ble 100000 b.1&&Nat.blt b.1 200000)&&qm ss bs with
  | true=>vcFn P T LF RF L J code fn.results.toList ss bs β0 V R
  | false=>False
 | none=>False
theorem View.Le.refl (V:ut):V.Le V:=λ_ _ h=>h
def View.Le.m {V V' fu:ut}(h:V.Le V')(k:V'.Le fu):V.Le fu:=λb o x=>k b o (h b o x)
def View.Le.at {V V':ut}(h:V.Le V'){p:Addr}{v:un}(k:V.at p v):V'.at p v:=by obtain ⟨b,a⟩:=k;unfold World.cell? at a;split at a;{rename_i c;have ⟨d,e⟩:=h p.block _ ⟨b,c⟩;refine ⟨d,?_⟩<;>grind [World.cell?]};{cases a}
theorem iP.refl (X:Nat->Prop)(w:World):iP X w w:=⟨Qq2 _,λ_ _ _=>rfl,rfl,rfl,rfl,Qq2 _⟩
def iP.m {X:Nat->Prop}{a b c:World}(h:iP X a b)(k:iP X b c):iP X a c:=
 ⟨Qw7 h.size k.size,λi d e=>(k.bg i (Qy6 d h.size) e).m (h.bg i d e),k.os.m h.os,k.tape.m h.tape,k.out.m h.out,Qw7 h.dr k.dr⟩
def iP.s {X Y:Nat->Prop}{a b:World}(h:iP X a b)(hxy:∀i,X i->Y i):iP Y a b:=
 ⟨h.size,λi c d=>h.bg i c λe=>d (hxy i e),h.os,h.tape,h.out,h.dr⟩
def View.Rj (V:ut)(w':World)(hx:iP V.X V.w w'):V.Le (V.to w' hx.size):=by rintro b o ⟨a,d⟩;refine ⟨a,?_⟩;have c:b<V.w.heap.size:=by{grind};show w'.heap[b]?=some o;grind [hx.bg,V.hX]
def aa.s {P:Program}{f:FuncId}{args:Array un}{V:ut}{R R':un->ut->Prop}(h:aa P f args V R)
  (hR:∀r V',V.Le V'->R r V'->R' r V'):aa P f args V R':=
 ⟨h.1,h.2.s λ_ b ⟨r,he,a,c⟩=>⟨r,he,a,hR r _ (V.Rj b a) c⟩⟩
structure J8 where
 ids:List Nat
 B:Nat->Prop
section
variable (n:Nat) (V0:View) (bQ:J8) (β0:Nat->Nat)
structure Mod (st:St) (β:Nat->Nat) (a:Act) (w:World) (V:View):Prop where
 defers:a.defers=[]
 size:a.tmps.size=n
 ax:∀t x,st.ax t=some x->a.tmps.getD t undef=x.den β
 CL:∀t x,st.ax t=some x->∀s∈x.ids,∃b,st.boxes s=some b
 CK:∀s b,st.boxes s=some b->∀s'∈b.cs.ids,∃b',st.boxes s'=some b'
 boxes:∀s b,st.boxes s=some b->b.live->w.heap[β s]?=some (b.obj β)
 inj:∀s s' b b',st.boxes s=some b->b.live->st.boxes s'=some b'->b'.live->β s=β s'->s=s'
 qZ:∀b o,V.bg b o->w.heap[b]?=some o/\¬V0.H b
 yg:∀s b,st.boxes s=some b->b.live->∀o,¬V.bg (β s) o
 ext:iP V0.X V0.w w
 own:∀s b,st.boxes s=some b->b.live->V0.w.heap.size<=β s\/(100000<=s/\bQ.B (β s))
 nJ:∀s∈bQ.ids,(100000<=s/\s<200000)/\β s=β0 s
 my:∀b,bQ.B b->V0.X b
 small:n<=100000
end
theorem dM {cs:pz C}{ty:TypeId}:aW.live ⟨.lit cs,ty⟩:=λ_ h=>nomatch h
theorem dN {vs:pz un}{ty:TypeId}:aW.live ⟨.row vs,ty⟩:=λ_ h=>nomatch h
theorem fZ {vs:pz un}{ty:TypeId}(h:vs≠[]):aW.live ⟨.aB vs,ty⟩:=λ_ e=>by cases e;exact h
theorem fQ {ty:TypeId}:¬aW.live ⟨.aB [],ty⟩:=λh=>h [] rfl rfl
theorem kd {b:aW}{k:Prop}:uu (Pj b) k↔(b.live->k):=by obtain ⟨cs,ty⟩:=b;(cases cs with|lit cs=>exact ⟨λh _=>h,λh=>h dM⟩|row cs=>exact ⟨λh _=>h,λh=>h dN⟩|aB vs=>exact ⟨λh l=>h (l vs rfl),λh l=>h (fZ l)⟩)
theorem xw {l m:pz Prop}{k:Prop}:uu (l++m) k↔uu l (uu m k):=by
 induction l with
 | nil=>exact Wk5
 | cons p r ih=>exact ⟨λh a=>ih.1 (h a),λh a=>ih.2 (h a)⟩
def Ud {b:aW}:gdP b↔b.live:=by obtain ⟨cs,ty⟩:=b;(cases cs with|lit cs=>exact ⟨λ_=>dM,λ_=>trivial⟩|row cs=>exact ⟨λ_=>dN,λ_=>trivial⟩|aB vs=>exact ⟨λh=>fZ h,λl=>l vs rfl⟩)
theorem C.bZ {β β':Nat->Nat}{c:C}(h:∀s∈c.ids,β s=β' s):c.den β=c.den β':=by
 cases c with
 | v x=>rfl
 | w x=>rfl
 | tt=>rfl
 | ff=>rfl
 | ptr s o=>simp [C.den,h s (by simp [C.ids])]
 | oI s o n c=>simp [C.den,h s (by simp [C.ids])]
 | eJ s n c=>simp [C.den,h s (by simp [C.ids])]
 | CG f ss=>
  have:(ss.map λs=>Value.pointer (some ⟨β s,0,none⟩))=ss.map λs=>Value.pointer (some ⟨β' s,0,none⟩):=
   Qv2 λs a=>by rw [h s (by simpa [C.ids] using a)]
  simp only [C.den,this]
theorem nX {β β':Nat->Nat}{cs:pz C}(h:∀s∈cs.flatMap C.ids,β s=β' s):cs.map (C.den β)=cs.map (C.den β'):=
 Qv2 λc a=>C.bZ λs b=>h s (Qy1.2 ⟨c,a,b⟩)
def C_ {β β':Nat->Nat}{x:md×pz C}(h:∀s∈x.2.flatMap C.ids,β s=β' s):j8 β x=j8 β' x:=by
 obtain ⟨b,cs⟩:=x
 cases b with
 | true=>simp only [j8];rw [nX h]
 | false=>
  match cs,h with
  | [],_=>rfl
  | [c],h=>simp only [j8];exact C.bZ λs a=>h s (by simpa using a)
  | _::_::_,_=>rfl
theorem SV.bZ {β β':Nat->Nat}{x:SV}(h:∀s∈x.ids,β s=β' s):x.den β=x.den β':=by (cases x with|c x=>exact C.bZ h|agg cs=>{simp only [SV.den];rw [nX h]}|vL xs=>{simp only [SV.den];congr 2;exact Qv2 λx a=>C_ λs b=>h s (Qy1.2 ⟨x,a,b⟩)})
theorem Cells.bZ {β β':Nat->Nat}{x:Cells}(h:∀s∈x.ids,β s=β' s):x.den β=x.den β':=by (cases x with|lit cs=>exact nX h|row vs=>rfl|aB vs=>rfl)
theorem aW.dG {β β':Nat->Nat}{x:aW}(h:∀s∈x.cs.ids,β s=β' s):x.obj β=x.obj β':=by simp only [aW.obj];rw [Cells.bZ h]
variable {P:Program} {T:eu} {n:Nat} {V0:View} {bQ:J8} {β0:Nat->Nat} {st:St} {β:Nat->Nat} {a:Act} {w:World} {V:View}
theorem Mod.eval (h:Mod n V0 bQ β0 st β a w V){x:Operand}{v:SV}(hx:st.bC x=some v):a.eval x=v.den β:=by
 cases x with
 | tmp t=>exact h.ax t v hx
 | const c=>
  simp only [St.bC,Qw1] at hx;subst hx;simp only [Act.eval];unfold SV.ofConst;split
  ·rfl
  ·rfl
  ·rename_i cs;simp only [SV.den];congr 1
   have:∀l:pz un,(l.map C.ofConst).map (C.den β)=l:=by
    intro l
    induction l with
    | nil=>rfl
    | cons y r ih=>
     simp only [Qn3,ih];congr 1;unfold C.ofConst;split<;>rfl
   rw [this]
  ·rfl
 | global g=>simp only [St.bC,Qw1] at hx;subst hx;rfl
 | func f=>simp only [St.bC,Qw1] at hx;subst hx;simp [Act.eval,SV.den,C.den]
def Mod.live (h:Mod n V0 bQ β0 st β a w V){x:Operand}{v:SV}(hx:st.bC x=some v):∀s∈v.ids,∃b,st.boxes s=some b:=by (cases x with|const c=>{simp only [St.bC,Qw1] at hx;subst hx;intro s d;exfalso;have e:∀y,(C.ofConst y).ids=[]:=by{intro y;unfold C.ofConst;split<;>rfl};unfold SV.ofConst at d;grind [SV.ids,C.ids]}|_=>grind [h.CL,St.bC,SV.ids,C.ids])
def beq_eq {a b:Nat}:Nat.beq a b=true↔a=b:=by constructor;{exact Nat.eq_of_beq_eq_true};{intro h;subst h;exact Qb0 a}
theorem eO (st:St)(d:Nat)(x:SV)(t:Nat):(st.put (some d) x).ax t=if t=d then some x else st.ax t:=by grind [St.put,Nat.beq_refl,beq_eq.1]
theorem aj (st:St)(s:Nat)(b:aW)(t:Nat):(st.box s b).boxes t=if t=s then some b else st.boxes t:=by grind [St.box,Nat.beq_refl,beq_eq.1]
def H7 (l:Array un)(d t:Nat)(v:un)(hd:d<l.size):(l.setIfInBounds d v).getD t undef=if t=d then v else l.getD t undef:=by by_cases h:t=d;{subst h;simp [hd]};{simp [h,Ne.symm h]}
theorem Mod.put (h:Mod n V0 bQ β0 st β a w V){d:Nat}{x:SV}{v:un}(hd:d<n)(hv:v=x.den β)(hl:∀s∈x.ids,∃b,st.boxes s=some b) :
  Mod n V0 bQ β0 (st.put (some d) x) β (a.put (some d) v) w V where
 defers:=h.defers
 size:=by simp [Act.put,h.size]
 ax:=by
  intro t y c;rw [eO] at c;show (a.tmps.setIfInBounds d v).getD t undef=_;rw [H7 _ _ _ _ (by rw [h.size];exact hd)];grind [h.ax]
 CL:=by intro t y c;rw [eO] at c;split at c;{simp only [Qw1] at c;rw [←c];exact hl};{exact h.CL t y c}
 CK:=h.CK
 boxes:=h.boxes
 inj:=h.inj
 qZ:=h.qZ
 yg:=h.yg
 ext:=h.ext
 own:=h.own
 nJ:=h.nJ
 my:=h.my
 small:=h.small
def Mod.IY (h:Mod n V0 bQ β0 st β a w V){d:Option Nat}{x:SV}{v:un}(hd:∀k,d=some k->k<n)(hv:v=x.den β)(hl:∀s∈x.ids,∃b,st.boxes s=some b) :
  Mod n V0 bQ β0 (st.put d x) β (a.put d v) w V:=by (cases d with|none=>exact h|some d=>exact h.put (hd d rfl) hv hl)
def Mod.drew (h:Mod n V0 bQ β0 st β a w V):Mod n V0 bQ β0 st β a { w with drawn:=w.drawn+1 } V:=
 ⟨h.defers,h.size,h.ax,h.CL,h.CK,h.boxes,h.inj,h.qZ,h.yg,⟨h.ext.size,h.ext.bg,h.ext.os,h.ext.tape,h.ext.out,Nat.le_succ_of_le h.ext.dr⟩,h.own,h.nJ,h.my,h.small⟩
def aG {w:World}{b:Nat}{o:Obj}(h:w.heap[b]?=some o):b<w.heap.size:=by grind
theorem fo (w:World)(o:Obj){b:Nat}(h:b<w.heap.size):(w.alloc o).heap[b]?=w.heap[b]?:=by show (w.heap.push o)[b]?=_;grind
def heap_alloc_new (w:World)(o:Obj):(w.alloc o).heap[w.heap.size]?=some o:=by show (w.heap.push o)[w.heap.size]?=_;rw [Array.getElem?_push,if_pos rfl]
theorem aZ (β:Nat->Nat)(s b:Nat):dq β s b s=b:=by simp [dq,Qb0]
theorem iM (β:Nat->Nat){s t:Nat}(b:Nat)(h:t≠s):dq β s b t=β t:=by have:Nat.beq t s=false:=by{grind [beq_eq.1]};simp [dq,this]
def Mod.new (h:Mod n V0 bQ β0 st β a w V){d:Nat}{b:aW}(hd:d<n)(hn:st.boxes d=none)(hl:∀s∈b.cs.ids,∃b',st.boxes s=some b') :
  Mod n V0 bQ β0 (st.box d b) (dq β d w.heap.size) a (w.alloc (b.obj β)) V:=by have r:∀s b',st.boxes s=some b'->s≠d:=λs b' c e=>by{rw [e,hn] at c;cases c};have hβ:∀s b',st.boxes s=some b'->dq β d w.heap.size s=β s:=λs b' c=>iM _ _ (r s b' c);have f:∀s b',st.boxes s=some b'->b'.live->β s<w.heap.size:=λs b' c l=>aG (h.boxes s b' c l);have A:∀b' o,V.bg b' o->b'<w.heap.size:=λb' o B=>aG (h.qZ b' o B).1;refine ⟨h.defers,h.size,?_,?_,?_,?_,?_,?_,?_,?_,?_,?_,h.my,?_⟩;{intro t x m;rw [h.ax t x m];exact SV.bZ λs c=>by{have ⟨b',g⟩:=h.CL t x m s c;exact (hβ s b' g).symm}};{intro t x m s c;have ⟨b',g⟩:=h.CL t x m s c;grind [aj]};{grind [aj,h.CK]};{intro s b' c l;rw [aj] at c;split at c;{rename_i e;simp only [Qw1] at c;rw [e,aZ,heap_alloc_new,←c];grind [aW.dG]};{rw [hβ s b' c,fo _ _ (f s b' c l),h.boxes s b' c l];grind [aW.dG,h.CK]}};{intro s u v y j C k D he;rw [aj] at j k;split at j<;>split at k;{rename_i p q;rw [p,q]};{rename_i p q;rw [p,aZ,hβ u y k] at he;have:=f u y k D;omega};{rename_i p q;rw [q,aZ,hβ s v j] at he;have:=f s v j C;omega};grind [h.inj]};{grind [h.qZ,fo]};{intro s b' c l o z;rw [aj] at c;split at c;{rename_i e;rw [e,aZ] at z;have:=A _ o z;omega};grind [h.yg]};{exact h.ext.m ⟨by simp,λi E _=>fo _ _ E,rfl,rfl,rfl,Qq2 _⟩};{intro s b' c l;rw [aj] at c;split at c;{rename_i e;rw [e,aZ];exact .inl h.ext.size};{rw [hβ s b' c];exact h.own s b' c l}};{intro s c;have ⟨j,k⟩:=h.nJ s c;grind [iM,h.small]};{exact h.small}
def Mod.void (h:Mod n V0 bQ β0 st β a w V){s:Nat}{ty:TypeId}:Mod n V0 bQ β0 (st.box s ⟨.aB [],ty⟩) β a w V:=by have hw:∀t b,st.boxes t=some b->∃b'',(st.box s ⟨.aB [],ty⟩).boxes t=some b'':=by{grind [aj]};have e:∀t b,(st.box s ⟨.aB [],ty⟩).boxes t=some b->b.live->st.boxes t=some b:=by{grind [aj,fQ]};refine ⟨h.defers,h.size,h.ax,?_,?_,λt b c l=>h.boxes t b (e t b c l) l,λt k m o p i q j=>h.inj t k m o (e _ _ p i) i (e _ _ q j) j,h.qZ,λt b c l=>h.yg t b (e t b c l) l,h.ext,λt b c l=>h.own t b (e t b c l) l,h.nJ,h.my,h.small⟩;{intro t x r f d;have ⟨b,g⟩:=h.CL t x r f d;exact hw f b g};{intro t b c f d;have:∃b'',st.boxes f=some b'':=by{rw [aj] at c;split at c;{cases c;cases d};grind [h.CK]};grind}
def Mod.yw (h:Mod n V0 bQ β0 st β a w V){s:Nat}{b b':aW}(hs:st.boxes s=some b)(lb:b.live)(hl:∀s'∈b'.cs.ids,∃b'',st.boxes s'=some b'')
  {w':World}(hw:w'.heap=w.heap.setIfInBounds (β s) (b'.obj β))(ho:w'.os=w.os)(ht:w'.tape=w.tape)(hout:w'.output=w.output)(hdr:w.drawn<=w'.drawn:=by first|exact Qq2 _|exact Wk6 _) :
  Mod n V0 bQ β0 (st.box s b') β a w' V:=by have l:=aG (h.boxes s b hs lb);have o:∀i,w'.heap[i]?=if i=β s then some (b'.obj β) else w.heap[i]?:=by{grind};refine ⟨h.defers,h.size,h.ax,?_,?_,?_,?_,?_,?_,?_,?_,h.nJ,h.my,h.small⟩;{intro t x m s' g;have ⟨d,c⟩:=h.CL t x m s' g;grind [aj]};{grind [aj,h.CK]};{grind [aj,h.inj,h.boxes]};{intro t p d j q k r u he;have f:∀t d,(st.box s b').boxes t=some d->d.live->∃j,st.boxes t=some j/\j.live:=by{grind [aj]};grind [h.inj]};{grind [h.qZ,h.yg]};{grind [aj,h.yg]};{refine ⟨by rw [hw];simpa using h.ext.size,λi v y=>?_,ho.m h.ext.os,ht.m h.ext.tape,hout.m h.ext.out,Qw7 h.ext.dr hdr⟩<;>grind [h.own,h.my,h.ext.bg]};{intro t d c k;rw [aj] at c;split at c;{rename_i e;rw [e];exact h.own s b hs lb};{exact h.own t d c k}}
end Go.Eng
namespace Go.Eng
variable {P:Program} {T:eu} {n:Nat} {V0:View} {bQ:J8} {β0:Nat->Nat} {st:St} {β:Nat->Nat} {a:Act} {w:World} {V:View}
theorem fG:∀(sc:pz Prop)(k:Prop),Fc sc k↔(∀p∈sc,p)/\k
 | [],k=>by simp [Fc]
 | p::r,k=>by
  simp only [Fc,fG r k,Qq5];constructor
  ·grind
  ·rintro ⟨h1,h2⟩;exact ⟨h1 p (.inl rfl),λq hq=>h1 q (.inr hq),h2⟩
def aI {t:TypeId}{i:TI}(h:ou P t=some i):∃info d z,P.info? t=some info/\P.underlying t=some d/\info.zero=some z/\i.k=mI d/\i.size=info.size/\i.bytes=info.bytes/\i.zero=z.cells.toList.map C.ofConst:=by unfold ou at h;grind
theorem HW (β:Nat->Nat)(y:un):(C.ofConst y).den β=y:=by unfold C.ofConst;split<;>rfl
def IA (β:Nat->Nat)(l:pz un):(l.map C.ofConst).map (C.den β)=l:=by induction l<;>grind [HW]
def Ig (y:un):(C.ofConst y).ids=[]:=by unfold C.ofConst;split<;>rfl
def FT (l:pz un):(l.map C.ofConst).flatMap C.ids=[]:=by
 induction l with
 | nil=>rfl
 | cons y r ih=>simp [Ig]
def ai {t:TypeId}{d:TypeDesc}(h:P.underlying t=some d)(w:World):(underlying t).run P w=.ok d w:=by simp [underlying,h]
def mF {t:TypeId}{i:TypeInfo}(h:P.info? t=some i)(w:World):(typeInfo t).run P w=.ok i w:=by simp [typeInfo,h]
def aR {t:TypeId}{i:TypeInfo}(h:P.info? t=some i)(w:World):(sizeOf t).run P w=.ok i.size w:=by simp [sizeOf,mF h]
def kE {t:TypeId}{i:TypeInfo}{z:un}(h:P.info? t=some i)(hz:i.zero=some z)(w:World):(zeroValue t).run P w=.ok z w:=by simp [zeroValue,mF h,hz]
def vN:TK->Bool
 | .struct _|.arr _ _=>true
 | _=>false
def jh {t:TypeId}{d:TypeDesc}(h:P.underlying t=some d)(w:World):(isAgg t).run P w=.ok (vN (mI d)) w:=by simp only [isAgg,Sem.run_bind,ai h,Result.andThen_ok];cases d<;>rfl
def Live (st:St)(x:SV):Prop:=∀s∈x.ids,∃b,st.boxes s=some b
theorem EG {k k':IntKind}(h:AH k k'=true):k=k':=by cases k<;>cases k'<;>simp_all [AH]
theorem KN {op:BinOp}{k:IntKind}{x y:Int}{sc:pz Prop}{v:SV}{xt:TypeId}(h:pR op k x y=.ret sc v)(hsc:∀p∈sc,p) :
  (binOp op xt (.int k x) (.int k y)).run P w=.ok (v.den β) w/\v.ids=[]:=by
 cases op<;>simp only [pR,Q.ret.injEq] at h<;>obtain ⟨rfl,rfl⟩:=h <;>
  simp only [Qq5,Qx7,or_false,forall_eq,false_imp_iff,implies_true] at hsc <;>
  refine ⟨?_,rfl⟩ <;>
  simp [binOp,Op.intArith,Op.intDiv,Op.intBits,Op.intCmp,Op.shift,SV.den,C.den,b_,hsc]
 all_goals (try (intro h;omega))
theorem OY {op:BinOp}{k k':IntKind}{x y:Int}{sc:pz Prop}{v:SV}{xt:TypeId}(hop:op=.shl\/op=.shr)(h:pR op k x y=.ret sc v)(hsc:∀p∈sc,p) :
  (binOp op xt (.int k x) (.int k' y)).run P w=.ok (v.den β) w/\v.ids=[]:=by
 rcases hop with rfl|rfl<;>simp only [pR,Q.ret.injEq] at h<;>obtain ⟨rfl,rfl⟩:=h <;>
  simp only [Qq5,Qx7,or_false,forall_eq] at hsc <;>
  refine ⟨?_,rfl⟩ <;>
  simp [binOp,Op.shift,SV.den,C.den]<;>(intro h;omega)
section eqs
variable {t:TypeId} (d:Nat)
def N7 (h:P.underlying t=some .bool)(x y:md):(Op.equalIn (d+1) t (.bool x) (.bool y)).run P w=.ok (x==y) w:=by simp [Op.equalIn,ai h]
def Ew {e:TypeId}(h:P.underlying t=some (.pointer e))(p:OA):(Op.equalIn (d+1) t (.pointer p) (.pointer none)).run P w=.ok p.isNone w:=by cases p<;>simp [Op.equalIn,ai h]
def sI {e:TypeId}(h:P.underlying t=some (.slice e))(p:OA)(n c m k:Nat):(Op.equalIn (d+1) t (.slice p n c) (.slice none m k)).run P w=.ok p.isNone w:=by cases p<;>simp [Op.equalIn,ai h]
def At {ms:Array (String×TypeId)}(h:P.underlying t=some (.interface ms)){x:un}(hx:IsIface x):(Op.equalIn (d+1) t x .nilIface).run P w=.ok (jQ x) w:=by rcases hx with rfl|⟨u,v,rfl⟩<;>simp [Op.equalIn,ai h,jQ]
end eqs
def mr {t:TypeId}{x y:un}{r:md}(h:∀d,(Op.equalIn (d+1) t x y).run P w=.ok r w):(Op.equal t x y).run P w=.ok r w:=h 9999
def Hq {op:BinOp}{xt:TypeId}{x y:md}(ht:P.underlying xt=some .bool)(hop:op=.eql\/op=.neq) :
  (binOp op xt (.bool x) (.bool y)).run P w=.ok (.bool (if op=.eql then x==y else !(x==y))) w:=by have:=mr (w:=w) λd=>N7 d ht x y;rcases hop with rfl|rfl<;>simp only [binOp,Sem.run_bind,this,Result.andThen_ok,Sem.run_pure]<;>rfl
def D9 {c:C}{b:md}(h:c.bool?=some b):c.den β=.bool b/\c.ids=[]:=by (cases c with|v x=>{cases x<;>simp_all [C.bool?,C.den,C.ids]}|_=>simp_all [C.bool?,C.den,C.ids])
def HY {d:TypeDesc}{k:IntKind}(h:mI d=.int k):d=.int k:=by cases d<;>simp_all [mI]
def FF {d:TypeDesc}(h:mI d=.bool):d=.bool:=by cases d<;>simp_all [mI]
def HZ {d:TypeDesc}{e:TypeId}(h:mI d=.ptr e):d=.pointer e:=by cases d<;>simp_all [mI]
def bh {d:TypeDesc}{e:TypeId}(h:mI d=.slice e):d=.slice e:=by cases d<;>simp_all [mI]
def Da {d:TypeDesc}(h:mI d=.iface):∃ms,d=.interface ms:=by cases d<;>simp_all [mI]
def kV {d:TypeDesc}{fs:pz (TypeId×Nat)}(h:mI d=.struct fs):∃gs,d=.struct gs/\fs=gs.toList.map λf=>(f.type,f.offset):=by cases d<;>simp_all [mI]
def pL {d:TypeDesc}{m:Nat}{e:TypeId}(h:mI d=.arr m e):d=.array m e:=by cases d<;>simp_all [mI]
def kK {t:TypeId}{x y:un}{r:md}(neg:md)(h:(Op.equal t x y).run P w=.ok r w)
  (hx:(∃p,x=.pointer p/\y=.pointer none)\/(∃p n c m k,x=.slice p n c/\y=.slice none m k)\/(IsIface x/\y=.nilIface)) :
  (binOp (if neg then .neq else .eql) t x y).run P w=.ok (.bool (if neg then !r else r)) w:=by rcases hx with ⟨p,rfl,rfl⟩|⟨p,n,c,m,k,rfl,rfl⟩|⟨hx,rfl⟩;{cases p<;>cases neg<;>simp only [Qj0,if_false,if_true,binOp,Sem.run_bind,h,Result.andThen_ok,Sem.run_pure]};{cases neg<;>simp only [Qj0,if_false,if_true,binOp,Sem.run_bind,h,Result.andThen_ok,Sem.run_pure]};{rcases hx with rfl|⟨u,v,rfl⟩<;>cases neg<;>simp only [Qj0,if_false,if_true,binOp,Sem.run_bind,h,Result.andThen_ok,Sem.run_pure]}
def sJ {op:BinOp}{t:TypeId}{x y:Operand}{u v:un}(h:(∃p,u=.pointer p)\/(∃p n c,u=.slice p n c)\/(∃k n,u=.int k n)\/(∃b,u=.bool b)\/∃c,y=.const c)(hn:v=.nilIface->∃c,y=.const c)(hu:∀cs,u≠.agg cs) :
  (eqGuard op t x y u v).run P w=.ok () w:=by
 have key:∀(m:Sem Unit),m=(match (generalizing:=false) u,v with
   | .nilIface,.nilIface=>do
    if (match (generalizing:=false) x with|.const _=>true|_=>false)||(match (generalizing:=false) y with|.const _=>true|_=>false) then return
    if ← Op.eqGuardIn Op.maxDepth t u v then unsupported (.noEntry "binop/eql: two nil values of an interface type with methods, neither of them the literal nil")
   | .agg _,.agg _=>do
    if !(←program).eqGuardType (←program).depth t then return
    if ← Op.eqGuardIn Op.maxDepth t u v then unsupported (.noEntry "binop/eql: two nil values of an interface type with methods, in a part of a struct or an array")
   | _,_=>pure ())->m.run P w=.ok () w:=by
  intro m hm;rw [hm];clear hm;revert hn hu;split
  ·intro hn _;obtain ⟨c,rfl⟩:=hn rfl;simp
  ·rename_i cs _;intro _ hu;exact absurd rfl (hu cs)
  ·intro _ _;rfl
 cases op<;>first|rfl|exact key _ rfl
def Sl {xt:TypeId}{i:TI}(hi:ou P xt=some i){x y:C}(neg:md){sc:pz Prop}{v:SV}
  (h:Gg neg i.k x y=.ret sc v)(hsc:∀p∈sc,p) :
  (binOp (if neg then .neq else .eql) xt (x.den β) (y.den β)).run P w=.ok (v.den β) w/\v.ids=[] /\
  ((∃p,x.den β=.pointer p)\/(∃p n c,x.den β=.slice p n c)\/y.den β=.nilIface)/\(y.den β=.nilIface->y=.v .nilIface)/\(∀cs,x.den β≠.agg cs):=by obtain ⟨info,d,z,j,b,l,g,-⟩:=aI hi;unfold Gg at h;split at h;{rename_i e a;rw [g] at a;obtain rfl:=HZ a;split at h;{split at h;{simp only [Q.ret.injEq] at h;obtain ⟨rfl,rfl⟩:=h;refine ⟨?_,by cases neg<;>rfl,.inl ⟨_,rfl⟩,by simp [C.den],by simp [C.den]⟩;rename_i s o;have:=kK (w:=w) neg (mr λd=>Ew d b (some ⟨β s,o,none⟩)) (.inl ⟨_,rfl,rfl⟩);cases neg<;>exact this};{simp only [Q.ret.injEq] at h;obtain ⟨rfl,rfl⟩:=h;refine ⟨?_,rfl,.inl ⟨_,rfl⟩,by simp [C.den],by simp [C.den]⟩;exact kK (w:=w) neg (mr λd=>Ew d b _) (.inl ⟨_,rfl,rfl⟩)};{cases h}};{cases h}};{rename_i e a;rw [g] at a;obtain rfl:=bh a;split at h;{split at h;{simp only [Q.ret.injEq] at h;obtain ⟨rfl,rfl⟩:=h;refine ⟨?_,by cases neg<;>rfl,.inr (.inl ⟨_,_,_,rfl⟩),by simp [C.den],by simp [C.den]⟩;rename_i m k _ s o n c;have:=kK (w:=w) neg (mr λd=>sI d b (some ⟨β s,o,none⟩) n c m k) (.inr (.inl ⟨_,_,_,_,_,rfl,rfl⟩));cases neg<;>exact this};{simp only [Q.ret.injEq] at h;obtain ⟨rfl,rfl⟩:=h;refine ⟨?_,rfl,.inr (.inl ⟨_,_,_,rfl⟩),by simp [C.den],by simp [C.den]⟩;rename_i m k _ s n c;have:=kK (w:=w) neg (mr λd=>sI d b (mA (β s) c) n c m k) (.inr (.inl ⟨_,_,_,_,_,rfl,rfl⟩));have e:(mA (β s) c).isNone=Nat.beq c 0:=by{cases c<;>rfl};rw [e] at this;exact this};{simp only [Q.ret.injEq] at h;obtain ⟨rfl,rfl⟩:=h;refine ⟨?_,rfl,.inr (.inl ⟨_,_,_,rfl⟩),by simp [C.den],by simp [C.den]⟩;exact kK (w:=w) neg (mr λd=>sI d b _ _ _ _ _) (.inr (.inl ⟨_,_,_,_,_,rfl,rfl⟩))};{cases h}};{cases h}};{rename_i a;rw [g] at a;obtain ⟨ms,rfl⟩:=Da a;split at h;{split at h;{simp only [Q.ret.injEq] at h;obtain ⟨rfl,rfl⟩:=h;have f:=hsc _ (Qq6.2 rfl);refine ⟨?_,rfl,.inr (.inr rfl),λ_=>rfl,?_⟩;{exact kK (w:=w) neg (mr λd=>At d b f) (.inr (.inr ⟨f,rfl⟩))};{intro cs e;rcases f with f|⟨u,v,f⟩<;>· simp only [C.den] at e;rw [f] at e;cases e}};{simp only [Q.ret.injEq] at h;obtain ⟨rfl,rfl⟩:=h;refine ⟨?_,by cases neg<;>rfl,.inr (.inr rfl),λ_=>rfl,by simp [C.den]⟩;have:=kK (w:=w) neg (mr λd=>At d b (x:=.nilIface) (.inl rfl)) (.inr (.inr ⟨.inl rfl,rfl⟩));cases neg<;>exact this};{cases h}};{cases h}};{cases h}
def Sj (hT:eu.ok P T){op:BinOp}{xt:TypeId}{x y:C}{ox oy:Operand}{sc:pz Prop}{v:SV}
  (h:Ge T op xt x y=.ret sc v)(hsc:∀p∈sc,p)(hy:y=.v .nilIface->∃c,oy=.const c) :
  (do eqGuard op xt ox oy (x.den β) (y.den β);binOp op xt (x.den β) (y.den β)).run P w=.ok (v.den β) w/\v.ids=[]:=by
 unfold Ge at h;split at h
 ·rename_i i f;have f:=hT _ _ f;obtain ⟨info,d,z,u,j,A,o,-⟩:=aI f;split at h
  ·split at h
   ·rename_i k a l b
    have g:(eqGuard op xt ox oy (C.den β (.v (.int k a))) (C.den β (.v (.int l b)))).run P w=.ok () w:=
     sJ (.inr (.inr (.inl ⟨_,_,rfl⟩))) (by simp [C.den]) (by simp [C.den])
    have key:(binOp op xt (.int k a) (.int l b)).run P w=.ok (v.den β) w/\v.ids=[]:=by grind [OY,EG,KN]
    simp only [Sem.run_bind,g,Result.andThen_ok];exact key
   ·cases h
  ·rename_i m;rw [o] at m;obtain rfl:=FF m;split at h;{rename_i a b q r;have n:=D9 (β:=β) q;have hy:=D9 (β:=β) r;have g:(eqGuard op xt ox oy (x.den β) (y.den β)).run P w=.ok () w:=by{rw [n.1,hy.1];exact sJ (.inr (.inr (.inr (.inl ⟨_,rfl⟩)))) (by simp) (by simp)};simp only [Sem.run_bind,g,Result.andThen_ok];rw [n.1,hy.1];split at h;{simp only [Q.ret.injEq] at h;obtain ⟨rfl,rfl⟩:=h;exact ⟨Hq j (.inl rfl),rfl⟩};{simp only [Q.ret.injEq] at h;obtain ⟨rfl,rfl⟩:=h;exact ⟨Hq j (.inr rfl),rfl⟩};{cases h}};{cases h}
  ·have key:∀neg:md,Gg neg i.k x y=.ret sc v->(do eqGuard (if neg then .neq else .eql) xt ox oy (x.den β) (y.den β);binOp (if neg then .neq else .eql) xt (x.den β) (y.den β)).run P w=.ok (v.den β) w/\v.ids=[]:=by{intro neg h;have ⟨B,D,E,s,t⟩:=Sl (w:=w) (β:=β) f neg h hsc;have g:(eqGuard (if neg then BinOp.neq else BinOp.eql) xt ox oy (x.den β) (y.den β)).run P w=.ok () w:=by{refine sJ ?_ (λe=>hy (s e)) t<;>grind};grind [Sem.run_bind,Result.andThen_ok]};grind
 ·cases h
end Go.Eng
