import Derived.WalkKit
import Derived.Deep.LoopGhost
import Derived.KernelRfl
set_option linter.all false
abbrev Go.Calls.s:=@Go.Calls.mono
def Eq.m{α:Sort _}{a b c:α}(h:a=b)(g:b=c):a=c:=Eq.trans h g
def Iff.m{a b c:Prop}(h:a<->b)(g:b<->c):a<->c:=Iff.trans h g
abbrev Qq0:=@Int.toNat_natCast
abbrev Qq1:=@List.getElem?_eq_getElem
abbrev Qq2:=@Nat.le_refl
abbrev Qq3:=@List.length_append
abbrev Qq4:=@Nat.zero_le
abbrev Qq5:=@List.mem_singleton
abbrev Qq6:=@List.mem_cons
abbrev Qq7:=@List.length_take
abbrev Qq8:=@List.mem_cons_of_mem
abbrev Qq9:=@List.getElem_mem
abbrev Qw0:=@Nat.mul_le_mul_right
abbrev Qw1:=@Option.some.injEq
abbrev Qw2:=@Int.eq_ofNat_of_zero_le
abbrev Qw3:=@List.mem_append
abbrev Qw4:=@List.drop_eq_getElem_cons
abbrev Qw5:=@List.length_eq_zero_iff
abbrev Qw6:=@List.mem_cons_self
abbrev Qw7:=@Bool.and_eq_true
abbrev Qw8:=@Nat.le_trans
abbrev Qw9:=@List.length_cons
abbrev Qx0:=@List.getElem?_eq_some_iff
abbrev Qx1:=@List.getElem?_append_left
abbrev Qx2:=@Nat.pow_le_pow_right
abbrev Qx3:=@List.append_nil
abbrev Qx4:=@List.pairwise_cons
abbrev Qx5:=@Nat.lt_of_lt_of_le
abbrev Qx6:=@Int.natAbs_natCast
abbrev Qx7:=@List.drop_of_length_le
abbrev Qx8:=@List.getD_eq_getElem?_getD
abbrev Qx9:=@Bool.not_eq_true'
abbrev Qy0:=@List.not_mem_nil
abbrev Qy1:=@Nat.mod_eq_of_lt
abbrev Qy2:=@List.flatMap_cons
abbrev Qy3:=@List.getElem?_take
abbrev Qy4:=@List.mem_flatMap
abbrev Qy5:=@List.take_length
abbrev Qy6:=@List.append_assoc
abbrev Qy7:=@List.take_succ_eq_append_getElem
abbrev Qy8:=@List.getElem?_append_right
abbrev Qy9:=@Nat.eq_zero_or_pos
abbrev Qz0:=@List.mem_map
abbrev Qz1:=@Nat.zero_add
abbrev Qz2:=@Nat.lt_or_ge
abbrev Qz3:=@List.all_eq_true
abbrev Qz4:=@List.mem_append_left
abbrev Qz5:=@Bool.eq_iff_iff
abbrev Qz6:=@List.getElem?_eq_none
abbrev Qz7:=@Nat.mul_le_mul_left
abbrev Qz8:=@Nat.pow_add
abbrev Qz9:=@List.take_add_one
abbrev Qk0:=@Nat.le_of_ble_eq_true
abbrev Qk1:=@Nat.add_mul
abbrev Qk2:=@Int.tmod_eq_emod_of_nonneg
abbrev Qk3:=@List.length_map
abbrev Qk4:=@Nat.two_pow_pos
abbrev Qk5:=@List.cons.injEq
abbrev Qk6:=@Nat.mul_one
abbrev Qk7:=@List.mem_append_right
abbrev Qk8:=@Nat.pow_succ
abbrev Qk9:=@Bool.false_eq_true
abbrev Qj0:=@Bool.not_eq_false'
abbrev Qj1:=@Nat.add_zero
abbrev Qj2:=@Int.tdiv_eq_ediv_of_nonneg
abbrev Qj3:=@Nat.min_eq_left
abbrev Qj4:=@BitVec.ofInt_natCast
abbrev Qj5:=@Nat.gcd_dvd_left
abbrev Qj6:=@List.length_nil
abbrev Qj7:=@Nat.mul_zero
abbrev Qj8:=@Nat.mod_lt
abbrev Qj9:=@Nat.div_eq_of_lt
abbrev Qv0:=@BitVec.toNat_ofNat
abbrev Qv1:=@Rat.num_eq_zero
abbrev Qv2:=@List.map_congr_left
abbrev Qv3:=@Int.natAbs_mul
abbrev Qv4:=@Nat.mul_comm
abbrev Qv5:=@List.mem_of_getElem?
abbrev Qv6:=@Option.some.inj
abbrev Qv7:=@Bool.false_ne_true
abbrev Qv8:=@Nat.beq_refl
abbrev Qv9:=@List.take_append_drop
abbrev Qb0:=@Nat.div_lt_iff_lt_mul
abbrev Qb1:=@Nat.mul_add
abbrev Qb2:=@List.drop_set_of_lt
abbrev Qb3:=@Nat.mul_ne_zero
abbrev Qb4:=@List.mem_filter
abbrev Qb5:=@Nat.gcd_dvd_right
abbrev Qb6:=@List.mem_of_mem_take
abbrev Qb7:=@List.take_of_length_le
abbrev Qb8:=@Nat.mul_assoc
abbrev Qb9:=@Rat.mul_inv_cancel
abbrev Qn0:=@List.nil_append
abbrev Qn1:=@Int.natCast_mul
abbrev Qn2:=@List.length_drop
abbrev Qn3:=@List.map_cons
abbrev Qn4:=@Nat.add_sub_cancel_left
abbrev Qn5:=@Nat.add_assoc
abbrev Qn6:=@List.forall_mem_cons
abbrev Qn7:=@List.getElem?_drop
abbrev Qn8:=@Nat.sub_add_cancel
abbrev Qn9:=@Nat.lt_of_le_of_lt
abbrev Qm0:=@Nat.not_lt_zero
abbrev Qm1:=@Int.sign_eq_zero_iff_zero
abbrev Qm2:=@Array.mk.injEq
abbrev Qm3:=@Prod.mk.injEq
abbrev Qm4:=@Nat.mul_lt_mul_of_pos_right
abbrev Qm5:=@Nat.div_le_self
abbrev Qm6:=@List.getElem?_set_ne
abbrev Qm7:=@Int.sign_eq_neg_one_of_neg
abbrev Qm8:=@List.flatMap_append
abbrev Qm9:=@List.pairwise_iff_getElem
abbrev Qc0:=@Bool.not_eq_eq_eq_not
abbrev Qc1:=@Nat.zero_mul
abbrev Qc2:=@List.length_singleton
abbrev Qc3:=@Nat.div_add_mod
abbrev Qc4:=@Option.isSome_iff_exists
abbrev Qc5:=@List.set_eq_of_length_le
abbrev Qc6:=@Nat.one_lt_two_pow
abbrev Qc7:=@Nat.xor_lt_two_pow
abbrev Qc8:=@List.cons_append
abbrev Qc9:=@Nat.one_mul
abbrev Qd0:=@List.mem_reverse
abbrev Qd1:=@List.mem_iff_getElem
abbrev Qd2:=@List.pairwise_singleton
abbrev Qd3:=@List.take_zero
abbrev Qd4:=@Nat.gcd_comm
abbrev Qd5:=@Int.natAbs_neg
abbrev Qd6:=@Array.ext'
abbrev Qd7:=@List.foldl_cons
abbrev Qd8:=@Rat.intCast_mul
abbrev Qd9:=@Rat.num_intCast
abbrev Qf0:=@Int.sign_eq_one_of_pos
abbrev Qf1:=@Array.getElem?_eq_some_iff
abbrev Qf2:=@Array.toList_map
abbrev Qf3:=@Option.getD_some
abbrev Qf4:=@Nat.mul_div_cancel
abbrev Qf5:=@List.getElem_set_self
abbrev Qf6:=@Nat.gcd_zero_right
abbrev Qf7:=@Nat.add_sub_cancel
abbrev Qf8:=@Nat.mul_le_mul
abbrev Qf9:=@Rat.mul_pos
abbrev Qg0:=@Nat.testBit_eq_decide_div_mod_eq
abbrev Qg1:=@Nat.add_mul_div_left
abbrev Qg2:=@List.ext_getElem?
abbrev Qg3:=@Bool.or_eq_true
abbrev Qg4:=@Nat.mod_add_div
abbrev Qg5:=@Int.lt_trichotomy
abbrev Qg6:=@Int.mul_ediv_cancel_left
abbrev Qg7:=@Rat.mul_eq_zero
abbrev Qg8:=@List.take_append_getElem
abbrev Qg9:=@Nat.succ_mul
abbrev Qh0:=@Int.mul_comm
abbrev Qh1:=@Rat.mkRat_one
abbrev Qh2:=@Nat.gcd_eq_zero_iff
abbrev Qh3:=@List.getElem_of_mem
abbrev Qh4:=@List.length_pos_iff
abbrev Qh5:=@List.drop_drop
abbrev Qh6:=@Array.getElem?_eq_none
abbrev Qh7:=@Nat.and_lt_two_pow
abbrev Qh8:=@List.map_append
abbrev Qh9:=@Rat.intCast_inj
abbrev Qp0:=@Int.natAbs_dvd_natAbs
abbrev Qp1:=@Rat.mul_pos_iff_of_pos_left
abbrev Qp2:=@List.getElem?_set
abbrev Qp3:=@List.mem_of_mem_drop
abbrev Qp4:=@List.pairwise_append
abbrev Qp5:=@Array.getElem_toList
abbrev Qp6:=@Classical.byContradiction
abbrev Qp7:=@Nat.le_add_right
abbrev Qp8:=@List.getElem_map
abbrev Qp9:=@List.take_replicate
abbrev Qr0:=@List.countP_pos_iff
abbrev Qr1:=@List.mem_map_of_mem
abbrev Qr2:=@List.eq_of_mem_replicate
abbrev Qr3:=@Nat.le_of_lt
abbrev Qr4:=@List.getElem_append_left
abbrev Qr5:=@List.set_eq_take_append_cons_drop
abbrev Qr6:=@List.getElem?_replicate
abbrev Qr7:=@Rat.num_mkRat
abbrev Qr8:=@Rat.sub_eq_add_neg
abbrev Qr9:=@Nat.pos_of_ne_zero
abbrev Qs0:=@Nat.dvd_trans
abbrev Qs1:=@Rat.intCast_add
abbrev Qs2:=@Rat.intCast_neg
abbrev Qs3:=@List.getElem?_set_self
abbrev Qs4:=@Int.natAbs_ediv_of_dvd
abbrev Qs5:=@List.getElem_cons_zero
abbrev Qs6:=@Option.map_eq_some_iff
abbrev Qs7:=@List.getElem?_map
abbrev Qs8:=@Rat.neg_num
abbrev Qs9:=@Nat.gcd_zero_left
abbrev Qt0:=@Int.le_refl
abbrev Qt1:=@Rat.mkRat_self
abbrev Qt2:=@Nat.le_div_iff_mul_le
abbrev Qt3:=@List.getElem!_eq_getElem?_getD
abbrev Qt4:=@Option.getD_none
abbrev Qt5:=@Nat.shiftLeft_add_eq_or_of_lt
abbrev Qt6:=@Nat.mul_lt_mul''
abbrev Qt7:=@List.drop_length
abbrev Qt8:=@List.take_append_of_le_length
abbrev Qt9:=@List.any_eq_true
abbrev Wq0:=@Int.sign_neg_iff
abbrev Wq1:=@Nat.zero_lt_succ
abbrev Wq2:=@List.take_subset
abbrev Wq3:=@List.take_set
abbrev Wq4:=@Rat.den_mkRat
abbrev Wq5:=@Nat.le_of_dvd
abbrev Wq6:=@Nat.lt_irrefl
abbrev Wq7:=@Int.not_lt
abbrev Wq8:=@Nat.mul_eq_zero
abbrev Wq9:=@Array.length_toList
abbrev Ww0:=@Nat.pow_mul
abbrev Ww1:=@Nat.pow_pos
abbrev Ww2:=@Int.mul_neg
abbrev Ww3:=@Int.sign_eq_neg_one_iff_neg
abbrev Ww4:=@Int.mul_lt_mul_of_pos_right
abbrev Ww5:=@Nat.gcd_le_left
abbrev Ww6:=@Rat.mkRat_mul_mkRat
abbrev Ww7:=@Int.mul_eq_zero
abbrev Ww8:=@Int.fdiv_eq_ediv_of_nonneg
abbrev Ww9:=@Int.lt_of_mul_lt_mul_right
abbrev Wx0:=@Nat.add_comm
abbrev Wx1:=@Nat.div_mul_cancel
abbrev Wx2:=@Int.add_zero
abbrev Wx3:=@Array.mapM_eq_mapM_toList
abbrev Wx4:=@Nat.add_mul_mod_self_left
abbrev Wx5:=@Rat.num_nonneg
abbrev Wx6:=@List.getElem_append_right
abbrev Wx7:=@List.drop_zero
abbrev Wx8:=@List.getLastD_eq_getLast?
abbrev Wx9:=@Int.eq_of_mul_eq_mul_left
abbrev Wy0:=@Nat.or_lt_two_pow
abbrev Wy1:=@Nat.gcd_pos_of_pos_right
abbrev Wy2:=@List.getElem_take
abbrev Wy3:=@List.map_take
abbrev Wy4:=@List.map_drop
abbrev Wy5:=@Int.neg_mul
abbrev Wy6:=@Nat.mul_pos
abbrev Wy7:=@Bool.true_and
abbrev Wy8:=@Int.one_mul
abbrev Wy9:=@Rat.inv_pos
abbrev Wz0:=@Nat.shiftLeft_eq
abbrev Wz1:=@Int.natCast_emod
abbrev Wz2:=@Rat.mkRat_eq_iff
abbrev Wz3:=@List.flatMap_nil
abbrev Wz4:=@Option.map_some
abbrev Wz5:=@List.map_map
abbrev Wz6:=@Nat.sub_zero
abbrev Wz7:=@BitVec.toNat_or
abbrev Wz8:=@Nat.mul_add_div
abbrev Wz9:=@Nat.mul_add_mod
abbrev Wk0:=@Nat.zero_div
abbrev Wk1:=@Rat.mul_def'
abbrev Wk2:=@Nat.testBit_xor
abbrev Wk3:=@Rat.intCast_sub
abbrev Wk4:=@List.length_set
abbrev Wk5:=@List.mem_range
abbrev Wk6:=@List.take_take
abbrev Wk7:=@Int.ofNat_tmod
abbrev Wk8:=@Bool.and_false
abbrev Wk9:=@Rat.mul_nonneg
abbrev Wj0:=@Nat.le_succ
abbrev Wj1:=@Rat.neg_den
open Go.IntKind (i64 u64 u32)
abbrev pz:=@List
abbrev md:=Bool
abbrev un:=Go.Value
abbrev tt:Prop:=true=true
namespace Go.Eng
abbrev OA:=Option Addr
abbrev sm {α:Type}(a:α):Prop:=a=a
structure View where
 w:World
 H:Nat->Prop
 X:Nat->Prop
 hH:∀b,H b->b<w.heap.size
 hX:∀b,X b->H b
abbrev _root_.ut:=View
def View.a_ (V:View)(b:Nat)(o:Obj):Prop:=¬V.H b/\V.w.heap[b]?=some o
def View.at (V:View)(p:Addr)(v:Value):Prop:=¬V.H p.block/\V.w.cell? p=some v
def View.Le (V V':View):Prop:=∀b o,V.a_ b o->V'.a_ b o
structure ir (X:Nat->Prop) (w w':World):Prop where
 size:w.heap.size<=w'.heap.size
 a_:∀b,b<w.heap.size->¬X b->w'.heap[b]?=w.heap[b]?
 os:w'.os=w.os
 tape:w'.tape=w.tape
 out:w'.output=w.output
 dr:w.drawn<=w'.drawn
def View.to (V:View)(w':World)(h:V.w.heap.size<=w'.heap.size):View:=⟨w',V.H,V.X,λb hb=>Qx5 (V.hH b hb) h,V.hX⟩
def View.ar (V:View)(bs:List Nat):View:={ V with X:=λb=>b∈bs/\V.H b,hX:=λ_ h=>h.2 }
def View.Qr (V:View)(b:Nat):View:={ V with H:=λx=>V.H x\/(x=b/\b<V.w.heap.size),hH:=λx h=>h.elim (V.hH x) λh=>h.1▸h.2,hX:=λx h=>.inl (V.hX x h) }
def View.bg (V:View)(p:Prop)(b:Nat):View:={ V with H:=λx=>V.H x\/(p/\x=b/\b<V.w.heap.size),hH:=λx h=>h.elim (V.hH x) λh=>h.2.1▸h.2.2,hX:=λx h=>.inl (V.hX x h) }
def View.shut (V:View):View:={ V with X:=λ_=>False,hX:=λ_ h=>h.elim }
def gF (P : Program)(f : FuncId) : Prop := ∃ fn, P.funcs[f]? = some fn ∧ fn.body.isNone = false ∧ (fn.name == "runtime.NumGoroutine") = false
def aa (P:Program)(f:FuncId)(args:Array Value)(V:View)(R:Value->View->Prop):Prop:=
 gF P f/\Calls P f args V.w λe w'=>∃r,e=.returned r/\∃hx:ir V.X V.w w',R r (V.to w' hx.size)
inductive C where
 | v (x:Value)|w (x:Value)|tt|ff
 | ptr (s o:Nat)
 | oF (s o n c:Nat)
 | eM (s n c:Nat)
 | Ck (f:FuncId) (ss:List Nat)
inductive SV where
 | c (x:C)|agg (cs:List C)|vk (xs:List (Bool×List C))
inductive Cells where
 | lit (cs:List C)|row (vs:List Value)|aB (vs:List Value)
structure aV where
 cs:Cells
 ty:TypeId
def aV.live (b:aV):Prop:=∀vs,b.cs=.aB vs->vs≠[]
def OX (b:aV):List Prop:=
 match b.cs with
 | .aB vs=>[vs≠[]]
 | _=>[]
def gdP (b:aV):Prop:=
 match b.cs with
 | .aB vs=>vs≠[]
 | _=>True
def ue:List Prop->Prop->Prop
 | [],k=>k
 | p::r,k=>p->ue r k
def mA (b c:Nat):OA:=if c=0 then none else some ⟨b,0,none⟩
structure St where
 ax:Nat->Option SV
 boxes:Nat->Option aV
def C.den (β:Nat->Nat):C->Value
 | .v x=>x
 | .w x=>x
 | .tt=>.bool true
 | .ff=>.bool false
 | .ptr s o=>.pointer (some ⟨β s,o,none⟩)
 | .oF s o n c=>.slice (some ⟨β s,o,none⟩) n c
 | .eM s n c=>.slice (mA (β s) c) n c
 | .Ck f ss=>.func (.func f) #[] (ss.map λs=>Value.pointer (some ⟨β s,0,none⟩)).toArray
def j9 (β:Nat->Nat):Bool×List C->Value
 | (true,cs)=>.agg (cs.map (C.den β)).toArray
 | (false,[c])=>c.den β
 | (false,_)=>.tuple #[]
def vJ:Bool×List C->Option SV
 | (true,cs)=>some (.agg cs)
 | (false,[c])=>some (.c c)
 | (false,_)=>none
def SV.den (β:Nat->Nat):SV->Value
 | .c x=>x.den β
 | .agg cs=>.agg (cs.map (C.den β)).toArray
 | .vk xs=>.tuple (xs.map (j9 β)).toArray
def SV.cells:SV->List C
 | .c x=>[x]
 | .agg cs=>cs
 | .vk _=>[]
def Cells.den (β:Nat->Nat):Cells->List Value
 | .lit cs=>cs.map (C.den β)
 | .row vs=>vs
 | .aB vs=>vs
def aV.obj (β:Nat->Nat)(b:aV):Obj:=.cells (b.cs.den β).toArray b.ty (0,0)
def C.ids:C->List Nat
 | .ptr s _=>[s]
 | .oF s _ _ _=>[s]
 | .eM s _ _=>[s]
 | .Ck _ ss=>ss
 | _=>[]
def SV.ids:SV->List Nat
 | .c x=>x.ids
 | .agg cs=>cs.flatMap C.ids
 | .vk xs=>xs.flatMap λx=>x.2.flatMap C.ids
def SV.Ap:SV->Bool
 | .vk _=>true
 | _=>false
def gN:C->List Prop
 | .v (.agg _)|.v (.tuple _)=>[False]
 | .w x=>[x.oneCell'=true]
 | _=>[]
def SV.gN (x:SV):List Prop:=x.cells.flatMap Eng.gN
def Cells.ids:Cells->List Nat
 | .lit cs=>cs.flatMap C.ids
 | .row _=>[]
 | .aB _=>[]
def St.put (st:St)(d:Option Nat)(x:SV):St:=
 match d with
 | none=>st
 | some d=>{ st with ax:=λt=>cond (Nat.beq t d) (some x) (st.ax t) }
def St.box (st:St)(s:Nat)(b:aV):St:={ st with boxes:=λt=>cond (Nat.beq t s) (some b) (st.boxes t) }
def C.ofConst:Value->C
 | .bool true=>.tt
 | .bool false=>.ff
 | x=>.v x
def SV.ofConst:Value->SV
 | .bool true=>.c .tt
 | .bool false=>.c .ff
 | .agg cs=>.agg (cs.toList.map C.ofConst)
 | x=>.c (.v x)
def St.bz (st:St):Operand->Option SV
 | .tmp t=>st.ax t
 | .const v=>some (.ofConst v)
 | .global g=>some (.c (.v (.pointer (some ⟨g,0,none⟩))))
 | .func f=>some (.c (.Ck f []))
inductive TK where
 | int (k:IntKind)|bool|str|ptr (e:TypeId)|slice (e:TypeId)|struct (fs:List (TypeId×Nat))|arr (n:Nat) (e:TypeId)|iface|func|tuple (ts:List TypeId)|other
structure TI where
 k:TK
 size:Nat
 bytes:Nat
 zero:List C
def mw:TypeDesc->TK
 | .int k=>.int k
 | .bool=>.bool
 | .string=>.str
 | .pointer e=>.ptr e
 | .slice e=>.slice e
 | .array n e=>.arr n e
 | .struct fs=>.struct (fs.toList.map λf=>(f.type,f.offset))
 | .interface _=>.iface
 | .func ..=>.func
 | .tuple es=>.tuple es.toList
 | _=>.other
def oh (P:Program)(t:TypeId):Option TI:=
 match P.info? t,P.underlying t with
 | some i,some d=>
  match i.zero with
  | some z=>some { k:=mw d,size:=i.size,bytes:=i.bytes,zero:=z.cells.toList.map C.ofConst }
  | none=>none
 | _,_=>none
abbrev d_:=List (Nat×TI)
def aD {α:Type}:List (Nat×α)->Nat->Option α
 | [],_=>none
 | (s,x)::r,t=>cond (Nat.beq t s) (some x) (aD r t)
def d_.ok (P:Program)(T:d_):Prop:=∀t i,aD T t=some i->oh P t=some i
inductive Cj where
 | int (k:IntKind)|bool|slice|ptr|str|any
inductive zj where
 | one (s:Cj)|agg (l:List Cj)
inductive Sh where
 | val (s:zj)|vk (l:List zj)|none
def shC:C->Cj
 | .v (.int k _)=>.int k
 | .v (.slice ..)=>.slice
 | .v (.pointer _)=>.ptr
 | .v (.string _)=>.str
 | .tt|.ff=>.bool
 | _=>.any
def nq (i:TI):zj:=
 match i.k with
 | .struct _|.arr _ _=>.agg (i.zero.map shC)
 | _=>match i.zero with
  | [z]=>.one (shC z)
  | _=>.one .any
def Cj.ex:Cj->(C->Prop)->Prop
 | .int k,K=>∃n:Int,K (.v (.int k n))
 | .bool,K=>∃b:Bool,K (.v (.bool b))
 | .slice,K=>∃(a:OA)(n c:Nat),K (.v (.slice a n c))
 | .ptr,K=>∃p:OA,K (.v (.pointer p))
 | .str,K=>∃s:ByteArray,K (.v (.string s))
 | .any,K=>∃x:Value,K (.w x)
def Xo:List Cj->(List C->Prop)->Prop
 | [],K=>K []
 | s::r,K=>s.ex λv=>Xo r λvs=>K (v::vs)
def zj.ex:zj->(SV->Prop)->Prop
 | .one s,K=>s.ex λc=>K (.c c)
 | .agg l,K=>Xo l λcs=>K (.agg cs)
def Y8:List zj->(List (Bool×List C)->Prop)->Prop
 | [],K=>K []
 | .one s::r,K=>s.ex λc=>Y8 r λvs=>K ((false,[c])::vs)
 | .agg l::r,K=>Xo l λcs=>Y8 r λvs=>K ((true,cs)::vs)
def Sh.ex:Sh->(SV->Prop)->Prop
 | .val s,K=>s.ex K
 | .vk l,K=>Y8 l λvs=>K (.vk vs)
 | .none,K=>K (.vk [])
def shTs (T:d_):List TypeId->Option (List zj)
 | []=>some []
 | t::r=>match aD T t,shTs T r with
  | some i,some l=>some (nq i::l)
  | _,_=>Option.none
def shOf (T:d_)(t:TypeId):Option Sh:=
 match aD T t with
 | some i=>match i.k with
  | .tuple []=>some .none
  | .tuple ts=>match shTs T ts with
   | some l=>some (.vk l)
   | Option.none=>Option.none
  | _=>some (.val (nq i))
 | Option.none=>Option.none
inductive Q where
 | fail
 | ret (sc:List Prop) (x:SV)
 | new (sc:List Prop) (b:aV) (x:Nat->SV)
 | xU (sc:List Prop) (s:Nat) (b:aV)
 | rd (p:OA) (sh:zj)
 | rI (vs:List Value) (o size:Nat) (sh:zj)
 | vV (s:Nat) (vs:List Value) (n c:Nat) (x:OA×Nat ⊕ List Value) (size bytes:Nat) (ty:TypeId)
 | app (old:Option Nat) (ba:OA) (vs:List Value) (n c:Nat) (x:OA×Nat ⊕ List Value) (size bytes:Nat) (ty:TypeId)
def bW (op:BinOp)(k:IntKind)(a b:Int):Int:=
 match op with
 | .and=>k.wrap ((BitVec.ofInt k.bits a &&& BitVec.ofInt k.bits b).toNat:Int)
 | .or=>k.wrap ((BitVec.ofInt k.bits a ||| BitVec.ofInt k.bits b).toNat:Int)
 | .xor=>k.wrap ((BitVec.ofInt k.bits a ^^^ BitVec.ofInt k.bits b).toNat:Int)
 | _=>k.wrap ((BitVec.ofInt k.bits a &&& ~~~(BitVec.ofInt k.bits b)).toNat:Int)
def pQ (op:BinOp)(k:IntKind)(a b:Int):Q:=
 match op with
 | .add=>.ret [] (.c (.v (.int k (k.wrap (a+b)))))
 | .sub=>.ret [] (.c (.v (.int k (k.wrap (a-b)))))
 | .mul=>.ret [] (.c (.v (.int k (k.wrap (a*b)))))
 | .quo=>.ret [b≠0] (.c (.v (.int k (k.wrap (a.tdiv b)))))
 | .rem=>.ret [b≠0] (.c (.v (.int k (a.tmod b))))
 | .and=>.ret [] (.c (.v (.int k (bW .and k a b))))
 | .or=>.ret [] (.c (.v (.int k (bW .or k a b))))
 | .xor=>.ret [] (.c (.v (.int k (bW .xor k a b))))
 | .andNot=>.ret [] (.c (.v (.int k (bW .andNot k a b))))
 | .shl=>.ret [0<=b] (.c (.v (.int k (k.wrap (a*2^(min b.toNat k.bits))))))
 | .shr=>.ret [0<=b] (.c (.v (.int k (a.fdiv (2^(min b.toNat k.bits))))))
 | .eql=>.ret [] (.c (.v (.bool (a==b))))
 | .neq=>.ret [] (.c (.v (.bool (a != b))))
 | .lss=>.ret [] (.c (.v (.bool (decide (a<b)))))
 | .leq=>.ret [] (.c (.v (.bool (decide (a<=b)))))
 | .gtr=>.ret [] (.c (.v (.bool (decide (a>b)))))
 | .geq=>.ret [] (.c (.v (.bool (decide (a≥b)))))
def C.bool?:C->Option Bool
 | .tt=>some true
 | .ff=>some false
 | .v (.bool b)=>some b
 | _=>none
def gy:Value->Bool
 | .nilIface=>true
 | _=>false
def IsIface (x:Value):Prop:=x=.nilIface\/∃t v,x=.iface t v
def Aq:IntKind->IntKind->Bool
 | .i8,.i8|.i16,.i16|.i32,.i32|.i64,.i64|.u8,.u8|.u16,.u16|.u32,.u32|.u64,.u64=>true
 | _,_=>false
def F6 (neg:Bool)(k:TK)(x y:C):Q:=
 match k with
 | .ptr _=>match y with
  | .v (.pointer none)=>match x with
   | .ptr _ _=>.ret [] (.c (if neg then .tt else .ff))
   | .v (.pointer p)=>.ret [] (.c (.v (.bool (if neg then !p.isNone else p.isNone))))
   | _=>.fail
  | _=>.fail
 | .slice _=>match y with
  | .v (.slice none _ _)=>match x with
   | .oF _ _ _ _=>.ret [] (.c (if neg then .tt else .ff))
   | .eM _ _ c=>.ret [] (.c (.v (.bool (if neg then !(Nat.beq c 0) else Nat.beq c 0))))
   | .v (.slice a _ _)=>.ret [] (.c (.v (.bool (if neg then !a.isNone else a.isNone))))
   | _=>.fail
  | _=>.fail
 | .iface=>match y with
  | .v .nilIface=>match x with
   | .w y=>.ret [IsIface y] (.c (.v (.bool (if neg then !gy y else gy y))))
   | .v .nilIface=>.ret [] (.c (if neg then .ff else .tt))
   | _=>.fail
  | _=>.fail
 | _=>.fail
def F4 (T:d_)(op:BinOp)(xt:TypeId)(x y:C):Q:=
 match aD T xt with
 | some i=>match i.k with
  | .int _=>match x,y with
   | .v (.int k a),.v (.int k' b)=>
    match op with
    | .shl|.shr=>pQ op k a b
    | _=>if Aq k k' then pQ op k a b else .fail
   | _,_=>.fail
  | .bool=>match x.bool?,y.bool? with
   | some a,some b=>match op with
    | .eql=>.ret [] (.c (.v (.bool (a==b))))
    | .neq=>.ret [] (.c (.v (.bool (!(a==b)))))
    | _=>.fail
   | _,_=>.fail
  | k=>match op with
   | .eql=>F6 false k x y
   | .neq=>F6 true k x y
   | _=>.fail
 | none=>.fail
def ae (p:OA)(n:Nat):OA:=p.map λa=>a.add n
def setCells (cs:List C)(o:Nat)(xs:List C):List C:=cs.take o++xs++cs.drop (o+xs.length)
def eA (vs:List Value)(o:Nat)(xs:List Value):List Value:=
 match xs with
 | [x]=>vs.set o x
 | _=>vs.take o++xs++vs.drop (o+xs.length)
def C.val?:C->Option Value
 | .v x=>some x
 | .w x=>some x
 | .tt=>some (.bool true)
 | .ff=>some (.bool false)
 | _=>none
def ma:List C->Option (List Value)
 | []=>some []
 | c::r=>match c.val?,ma r with
  | some v,some vs=>some (v::vs)
  | _,_=>none
def k_ (bx:Nat->Option aV)(i:TI)(x:SV):Q:=
 match x with
 | .c (.ptr b o)=>match bx b with
  | some ⟨.lit cs,_⟩=>match i.k with
   | .struct _|.arr _ _=>if Nat.ble (o+i.size) cs.length then .ret [] (.agg ((cs.drop o).take i.size)) else .fail
   | _=>match cs[o]? with
    | some c=>.ret [] (.c c)
    | none=>.fail
  | some ⟨.row vs,_⟩=>.rI vs o i.size (nq i)
  | some ⟨.aB vs,_⟩=>if Nat.beq i.size 0 then .fail else .rI vs o i.size (nq i)
  | none=>.fail
 | .c (.v (.pointer p))=>if Nat.beq i.zero.length i.size then .rd p (nq i) else .fail
 | _=>.fail
def i_ (bx:Nat->Option aV)(i:TI)(a x:SV):Q:=
 match a with
 | .c (.ptr b o)=>if Nat.beq x.cells.length i.size&&!x.Ap then match bx b with
   | some ⟨.lit cs,ty⟩=>if Nat.ble (o+i.size) cs.length then .xU x.gN b ⟨.lit (setCells cs o x.cells),ty⟩ else .fail
   | some ⟨.row vs,ty⟩=>match ma x.cells with
    | some xs=>.xU (x.gN++[o+i.size<=vs.length]) b ⟨.row (eA vs o xs),ty⟩
    | none=>.fail
   | some ⟨.aB vs,ty⟩=>if Nat.beq i.size 0 then .fail else match ma x.cells with
    | some xs=>.xU (x.gN++[o+i.size<=vs.length]) b ⟨.aB (eA vs o xs),ty⟩
    | none=>.fail
   | none=>.fail
  else .fail
 | _=>.fail
def rE (place:Nat->Option (Nat×Nat))(cells:List C):List (Nat×SV)->Option (List C)
 | []=>some cells
 | (i,x)::r=>match place i with
  | none=>none
  | some (off,size)=>if Nat.beq x.cells.length size&&Nat.ble (off+size) cells.length&&!x.Ap then rE place (setCells cells off x.cells) r else none
def partsOf (ρ:Operand->Option SV):List (Nat×Operand)->Option (List (Nat×SV))
 | []=>some []
 | (i,o)::r=>match ρ o,partsOf ρ r with
  | some x,some l=>some ((i,x)::l)
  | _,_=>none
def ie (T:d_):List (TypeId×Nat)->Option (List (Nat×Nat))
 | []=>some []
 | (t,off)::r=>match aD T t,ie T r with
  | some i,some l=>some ((off,i.size)::l)
  | _,_=>none
def rep (n:Nat)(zs:List C):List C:=(List.replicate n zs).flatten
def vd (n:Nat)(zs:List Value):List Value:=
 match zs with
 | [z]=>List.replicate n z
 | _=>(List.replicate n zs).flatten
def sT (a:OA)(m l sz:Nat):OA:=if m=l then a else ae a (l*sz)
def IZ (o m l sz:Nat):Nat:=if m=l then o else o+l*sz
def UT (c:Nat):Option SV->Option (List Prop×Nat)
 | none=>some ([],c)
 | some (.c (.v (.int _ m)))=>some ([0<=m/\m<=(c:Int)],m.toNat)
 | _=>none
def R4 (n m:Nat):Option SV->Option SV->Option (List Prop×Nat)
 | some (.c (.v (.int _ h))),_=>some ([0<=h/\h<=(m:Int)],h.toNat)
 | none,none=>some ([],n)
 | _,_=>none
def YH (h:Nat):Option SV->Option (List Prop×Option Nat)
 | none=>some ([],none)
 | some (.c (.v (.int _ l)))=>some ([0<=l/\l<=(h:Int)],some l.toNat)
 | _=>none
def qQ (n c:Nat)(lo hi mx:Option SV):Option (List Prop×Option Nat×Nat×Nat):=
 match UT c mx with
 | none=>none
 | some (p1,m)=>match R4 n m hi mx with
  | none=>none
  | some (p2,h)=>match YH h lo with
   | none=>none
   | some (p3,l)=>some (p1++p2++p3,l,h,m)
def FV (ρ:Operand->Option SV):Option Operand->Option (Option SV)
 | none=>some none
 | some x=>match ρ x with
  | some v=>some (some v)
  | none=>none
def wa (sz:Nat)(x:SV)(lo hi mx:Option SV):Q:=
 match x with
 | .c (.v (.slice a n c))=>match qQ n c lo hi mx with
  | some (sc,none,h,m)=>.ret sc (.c (.v (.slice a h m)))
  | some (sc,some l,h,m)=>.ret sc (.c (.v (.slice (sT a m l sz) (h-l) (m-l))))
  | none=>.fail
 | .c (.oF s o n c)=>match qQ n c lo hi mx with
  | some (sc,none,h,m)=>.ret sc (.c (.oF s o h m))
  | some (sc,some l,h,m)=>.ret sc (.c (.oF s (IZ o m l sz) (h-l) (m-l)))
  | none=>.fail
 | .c (.eM s n c)=>match mx with
  | none=>match qQ n c lo hi none with
   | some (sc,none,h,m)=>.ret sc (.c (.eM s h m))
   | _=>.fail
  | some _=>.fail
 | _=>.fail
def iZ (T:d_)(i:TI)(x ix:SV):Q:=
 match ix with
 | .c (.v (.int _ n))=>match i.k with
  | .slice e=>match aD T e with
   | some ei=>match x with
    | .c (.v (.slice a len _))=>.ret [a.isSome=true,0<=n/\n<(len:Int)] (.c (.v (.pointer (ae a (n.toNat*ei.size)))))
    | .c (.oF s o len _)=>.ret [0<=n/\n<(len:Int)] (.c (.ptr s (o+n.toNat*ei.size)))
    | .c (.eM s len c)=>.ret [0<=n/\n<(len:Int),len<=c] (.c (.ptr s (n.toNat*ei.size)))
    | _=>.fail
   | none=>.fail
  | .arr len e=>match aD T e with
   | some ei=>match x with
    | .c (.ptr s o)=>.ret [0<=n/\n<(len:Int)] (.c (.ptr s (o+n.toNat*ei.size)))
    | .c (.v (.pointer a))=>.ret [a.isSome=true,0<=n/\n<(len:Int)] (.c (.v (.pointer (ae a (n.toNat*ei.size)))))
    | _=>.fail
   | none=>.fail
  | _=>.fail
 | _=>.fail
def EB (T:d_)(i:TI)(l c:SV):Q:=
 match i.k with
 | .slice e=>match aD T e with
  | some ei=>match l,c with
   | .c (.v (.int _ n)),.c (.v (.int _ m))=>match ma ei.zero with
    | some zs=>if Nat.beq ei.bytes 0||Nat.beq ei.size 0||!(Nat.beq ei.size zs.length) then .fail else .new [0<=n,n<=m,(ei.bytes:Int)*m<=140737488355328] ⟨.row (vd m.toNat zs),e⟩ λd=>.c (.oF d 0 n.toNat m.toNat)
    | none=>.fail
   | _,_=>.fail
  | none=>.fail
 | _=>.fail
def A7:List SV->Option (List Nat)
 | []=>some []
 | .c (.ptr s 0)::r=>match A7 r with
  | some l=>some (s::l)
  | none=>none
 | _=>none
def cO (ρ:Operand->Option SV):List Operand->Option (List SV)
 | []=>some []
 | o::r=>match ρ o,cO ρ r with
  | some x,some l=>some (x::l)
  | _,_=>none
def cI (a b:Int):Int:=if b<a then b else a
def bZ (a b:Int):Int:=if b>a then b else a
def foldI (f:Int->Int->Int)(k:IntKind)(a:Int):List SV->Option Int
 | []=>some a
 | .c (.v (.int k' b))::r=>if Aq k k' then foldI f k (f a b) r else none
 | _=>none
def fR (bx:Nat->Option aV)(s:Nat):Option (List Value):=
 match bx s with
 | some ⟨.lit cs,_⟩=>ma cs
 | some ⟨.row vs,_⟩=>some vs
 | _=>none
def mH (bx:Nat->Option aV)(s:Nat):Option TypeId:=match bx s with|some b=>some b.ty|none=>none
def aI (ws:List Value)(o n:Nat):List Value:=cond (Nat.ble (o+n) ws.length) ((ws.drop o).take n) (List.replicate n (.agg #[]))
def qf (ws:List Value)(k c sz:Nat):List Value:=cond (Nat.ble k c) (aI ws 0 (k*sz)) (List.replicate (k*sz) (.agg #[]))
def cY (bx:Nat->Option aV)(e:TypeId)(ei:TI)(b x:SV):Q:=
 match ma ei.zero with
 | none=>.fail
 | some zs=>if Nat.beq ei.bytes 0||Nat.beq ei.size 0||!(Nat.beq ei.size zs.length) then .fail else
  let src:Option (OA×Nat ⊕ List Value):=match x with
   | .c (.v (.slice a k _))=>some (.inl (a,k))
   | .c (.oF s o k _)=>match bx s with
    | some ⟨.row ws,_⟩=>some (.inr (aI ws o (k*ei.size)))
    | _=>match fR bx s with
     | some ws=>if Nat.ble (o+k*ei.size) ws.length then some (.inr ((ws.drop o).take (k*ei.size))) else none
     | none=>none
   | .c (.eM s k c)=>match bx s with
    | some ⟨.aB ws,_⟩=>some (.inr (qf ws k c ei.size))
    | _=>none
   | _=>none
  match src with
  | none=>.fail
  | some src=>match b with
   | .c (.v (.slice a n c))=>.app none a [] n c src ei.size ei.bytes e
   | .c (.oF s 0 n c)=>match fR bx s,mH bx s with
    | some vs,some ty=>if Nat.beq ty e then .app (some s) none vs n c src ei.size ei.bytes e else .fail
    | _,_=>.fail
   | .c (.eM s n c)=>match bx s with
    | some ⟨.aB vs,ty⟩=>if Nat.beq ty e then .vV s vs n c src ei.size ei.bytes e else .fail
    | _=>.fail
   | _=>.fail
def nj (b:Builtin)(k:TK)(xs:List SV):Q:=
 match xs with
 | []=>.fail
 | x::r=>match b with
  | .len=>match r,k,x with
   | [],.slice _,.c (.v (.slice _ n _))=>.ret [] (.c (.v (.int .i64 n)))
   | [],.slice _,.c (.oF _ _ n _)=>.ret [] (.c (.v (.int .i64 n)))
   | [],.slice _,.c (.eM _ n _)=>.ret [] (.c (.v (.int .i64 n)))
   | [],.str,.c (.v (.string s))=>.ret [] (.c (.v (.int .i64 s.size)))
   | _,_,_=>.fail
  | .cap=>match r,k,x with
   | [],.slice _,.c (.v (.slice _ _ c))=>.ret [] (.c (.v (.int .i64 c)))
   | [],.slice _,.c (.oF _ _ _ c)=>.ret [] (.c (.v (.int .i64 c)))
   | [],.slice _,.c (.eM _ _ c)=>.ret [] (.c (.v (.int .i64 c)))
   | _,_,_=>.fail
  | .min=>match x with
   | .c (.v (.int k a))=>match foldI cI k a r with
    | some m=>.ret [] (.c (.v (.int k m)))
    | none=>.fail
   | _=>.fail
  | .max=>match x with
   | .c (.v (.int k a))=>match foldI bZ k a r with
    | some m=>.ret [] (.c (.v (.int k m)))
    | none=>.fail
   | _=>.fail
  | _=>.fail
def A9 (t:TypeId)(i:TI)(v:SV):Q:=
 match i.k with
 | .iface=>.fail
 | _=>match v.ids,v.Ap with
  | [],false=>.ret [] (.c (.w (.iface t (v.den λ_=>0))))
  | _,_=>.fail
def oA (T:d_)(bx:Nat->Option aV)(t:TypeId)(x:SV):Q:=
 match aD T t with
 | some i=>match i.k with
  | .slice e=>match aD T e with
   | some ei=>match ma ei.zero,x with
    | some zs,.c (.oF s o n _)=>match bx s with
     | some ⟨.row vs,ty⟩=>if Nat.beq ei.size 0||!(Nat.beq ei.size zs.length)||!(zs.all Value.oneCell') then .fail else .xU [o+n*ei.size<=vs.length] s ⟨.row (vs.take o++vd n zs++vs.drop (o+n*ei.size)),ty⟩
     | _=>.fail
    | _,_=>.fail
   | none=>.fail
  | _=>.fail
 | none=>.fail
def MP:List C->Option (List (OA×Nat×Nat))
 | []=>some []
 | .v (.slice p n c)::r=>match MP r with
  | some l=>some ((p,n,c)::l)
  | none=>none
 | _=>none
def nk (T:d_)(i:TI)(cs:List C)(k:Int):Q:=
 match i.k with
 | .arr n e=>match aD T e,MP cs with
  | some ei,some l=>match ei.k with
   | .slice _=>if Nat.beq ei.size 1&&Nat.beq l.length n then .ret [0<=k/\k<(n:Int)] (.c (.v (.slice (l.getD k.toNat (none,0,0)).1 (l.getD k.toNat (none,0,0)).2.1 (l.getD k.toNat (none,0,0)).2.2))) else .fail
   | _=>.fail
  | _,_=>.fail
 | _=>.fail
def aR (T:d_)(ρ:Operand->Option SV)(bx:Nat->Option aV)(op:Op):Q:=
 match op with
 | .move x|.assign x=>match ρ x with
  | some v=>.ret [] v
  | none=>.fail
 | .pick c a b=>match ρ c with
  | some (.c .tt)=>match ρ a with
   | some v=>.ret [] v
   | none=>.fail
  | some (.c .ff)=>match ρ b with
   | some v=>.ret [] v
   | none=>.fail
  | _=>.fail
 | .alloc t=>match aD T t with
  | some i=>.new [] ⟨.lit i.zero,t⟩ λd=>.c (.ptr d 0)
  | none=>.fail
 | .box t x=>match ρ x with
  | some v=>match v.Ap with
   | true=>.fail
   | false=>.new v.gN ⟨.lit v.cells,t⟩ λd=>.c (.ptr d 0)
  | none=>.fail
 | .build t parts=>match aD T t,partsOf ρ parts.toList with
  | some i,some ps=>match i.k with
   | .struct fs=>match ie T fs with
    | some pl=>match rE (λj=>pl[j]?) i.zero ps with
     | some cs=>.ret (ps.flatMap λx=>x.2.gN) (.agg cs)
     | none=>.fail
    | none=>.fail
   | .arr _ e=>match aD T e with
    | some ei=>match rE (λj=>some (j*ei.size,ei.size)) i.zero ps with
     | some cs=>.ret (ps.flatMap λx=>x.2.gN) (.agg cs)
     | none=>.fail
    | none=>.fail
   | _=>.fail
  | _,_=>.fail
 | .buildSlice t len parts=>match aD T t,partsOf ρ parts.toList with
  | some i,some ps=>match i.k with
   | .slice e=>match aD T e with
    | some ei=>if Nat.ble (len*ei.size) 16777216&&Nat.beq ei.zero.length ei.size&&!(Nat.beq ei.size 0) then match rE (λj=>some (j*ei.size,ei.size)) (rep len ei.zero) ps with
      | some cs=>.new (ps.flatMap λx=>x.2.gN) ⟨.lit cs,e⟩ λd=>.c (.oF d 0 len len)
      | none=>.fail
     else .fail
    | none=>.fail
   | _=>.fail
  | _,_=>.fail
 | .load t a=>match aD T t,ρ a with
  | some i,some x=>k_ bx i x
  | _,_=>.fail
 | .store t a x=>match aD T t,ρ a,ρ x with
  | some i,some av,some xv=>i_ bx i av xv
  | _,_,_=>.fail
 | .nilCheck x=>match ρ x with
  | some (.c (.ptr s o))=>.ret [] (.c (.ptr s o))
  | some (.c (.v (.pointer p)))=>.ret [p.isSome=true] (.c (.v (.pointer p)))
  | _=>.fail
 | .binOp o xt x y _=>match ρ x,ρ y with
  | some (.c a),some (.c b)=>match b with
   | .v .nilIface=>match y with
    | .const _=>F4 T o xt a b
    | _=>.fail
   | b=>F4 T o xt a b
  | _,_=>.fail
 | .unOp .not _ x=>match ρ x with
  | some (.c .tt)=>.ret [] (.c .ff)
  | some (.c .ff)=>.ret [] (.c .tt)
  | some (.c (.v (.bool b)))=>.ret [] (.c (.v (.bool (!b))))
  | _=>.fail
 | .unOp .xor _ x=>match ρ x with
  | some (.c (.v (.int k n)))=>.ret [] (.c (.v (.int k (bW .xor k (if k.signed then -1 else k.max) n))))
  | _=>.fail
 | .unOp .neg _ x=>match ρ x with
  | some (.c (.v (.int k n)))=>.ret [] (.c (.v (.int k (k.wrap (0-n)))))
  | _=>.fail
 | .convert src dst x=>match aD T src,aD T dst,ρ x with
  | some _,some i,some (.c (.v (.int _ n)))=>match i.k with
   | .int k=>.ret [] (.c (.v (.int k (k.wrap n))))
   | _=>.fail
  | _,_,_=>.fail
 | .makeFunc (.func f) first caps=>match first.toList with
  | []=>match cO ρ caps.toList with
   | some xs=>match A7 xs with
    | some ss=>.ret [] (.c (.Ck f ss))
    | none=>.fail
   | none=>.fail
  | _=>.fail
 | .makeSlice t l c=>match aD T t,ρ l,ρ c with
  | some i,some lv,some cv=>EB T i lv cv
  | _,_,_=>.fail
 | .slice t x lo hi mx=>match aD T t,ρ x,FV ρ lo,FV ρ hi,FV ρ mx with
  | some i,some xv,some l,some h,some m=>match i.k with
   | .slice e=>match aD T e with
    | some ei=>wa ei.size xv l h m
    | none=>.fail
   | _=>.fail
  | _,_,_,_,_=>.fail
 | .fieldAddr t x f=>match aD T t,ρ x with
  | some i,some xv=>match i.k with
   | .struct fs=>match fs[f]? with
    | some (ft,off)=>match aD T ft with
     | some fi=>if Nat.beq fi.size 0 then .fail else match xv with
      | .c (.ptr s o)=>.ret [] (.c (.ptr s (o+off)))
      | .c (.v (.pointer p))=>.ret [p.isSome=true] (.c (.v (.pointer (ae p off))))
      | _=>.fail
     | none=>.fail
    | none=>.fail
   | _=>.fail
  | _,_=>.fail
 | .field t x f=>match aD T t,ρ x with
  | some i,some (.agg cs)=>match i.k with
   | .struct fs=>match fs[f]? with
    | some (ft,off)=>match aD T ft with
     | some fi=>match fi.k with
      | .struct _|.arr _ _=>.ret [] (.agg ((cs.drop off).take fi.size))
      | _=>match cs[off]? with
       | some c=>.ret [] (.c c)
       | none=>.fail
     | none=>.fail
    | none=>.fail
   | _=>.fail
  | _,_=>.fail
 | .indexAddr t x ix=>match aD T t,ρ x,ρ ix with
  | some i,some xv,some iv=>iZ T i xv iv
  | _,_,_=>.fail
 | .extract x j=>match ρ x with
  | some (.vk xs)=>match xs[j]? with
   | some v=>match vJ v with
    | some y=>.ret [] y
    | none=>.fail
   | none=>.fail
  | _=>.fail
 | .call c=>match c.callee with
  | .builtin .append=>match cO ρ c.args.toList,c.argTypes.toList with
   | some [b,x],[t,t']=>match aD T t,aD T t' with
    | some i,some i'=>match i.k,i'.k with
     | .slice e,.slice _=>match aD T e with
      | some ei=>cY bx e ei b x
      | none=>.fail
     | _,_=>.fail
    | _,_=>.fail
   | _,_=>.fail
  | .builtin .clear=>match cO ρ c.args.toList,c.argTypes.toList with
   | some [x],[t]=>oA T bx t x
   | _,_=>.fail
  | .builtin b=>match cO ρ c.args.toList,c.argTypes.toList with
   | some xs,t::_=>match aD T t with
    | some i=>nj b i.k xs
    | none=>.fail
   | _,_=>.fail
  | _=>.fail
 | .index t x ix=>match aD T t,ρ x,ρ ix with
  | some i,some (.c (.v (.string s))),some (.c (.v (.int _ n)))=>match i.k with
   | .str=>.ret [0<=n/\n<(s.size:Int)] (.c (.v (.int .u8 ((s.data.toList.getD n.toNat 0).toNat:Int))))
   | _=>.fail
  | some i,some (.agg cs),some (.c (.v (.int _ n)))=>nk T i cs n
  | _,_,_=>.fail
 | .makeInterface t x=>match aD T t,ρ x with
  | some i,some v=>A9 t i v
  | _,_=>.fail
 | _=>.fail
def EW:List Prop->Prop->Prop
 | [],k=>k
 | p::r,k=>p/\EW r k
def View.UY (V:View)(p:Addr):Nat->List C->Prop->Prop
 | _,[],k=>k
 | i,c::r,k=>V.at (p.add i) (c.den λ_=>0)/\V.UY p (i+1) r k
def View.UX (V:View)(p:OA)(x:SV)(k:Prop):Prop:=
 match x with
 | .agg cs=>∃a,p=some a/\V.UY a 0 cs k
 | .c c=>(∃a,p=some a/\V.at a (c.den λ_=>0))/\k
 | .vk _=>False
def U6 (vs:List Value)(o size:Nat)(x:SV):Prop:=
 match x with
 | .agg cs=>o+size<=vs.length/\(vs.drop o).take size=cs.map (C.den λ_=>0)
 | .c c=>vs[o]?=some (c.den λ_=>0)
 | .vk _=>False
def iM (x:Nat):List Nat->Bool
 | []=>false
 | y::r=>cond (Nat.beq x y) true (iM x r)
def dedup:List Nat->List Nat
 | []=>[]
 | x::r=>let l:=dedup r;cond (iM x l) l (x::l)
def CQ (l m:List Nat):Bool:=l.all λx=>!(iM x m)
def SC (l m:List Nat):Bool:=l.all λx=>iM x m
def C.rel (L:List Nat)(β:Nat->Nat)(J:C->Value):C->C
 | .ptr s o=>cond (iM s L) (.v (.pointer (some ⟨β s,o,none⟩))) (.ptr s o)
 | .oF s o n c=>cond (iM s L) (.v (.slice (some ⟨β s,o,none⟩) n c)) (.oF s o n c)
 | .eM s n c=>cond (iM s L) (.v (.slice (mA (β s) c) n c)) (.eM s n c)
 | .Ck f ss=>cond (CQ ss L) (.Ck f ss) (.w (J (.Ck f ss)))
 | x=>x
def SV.rel (L:List Nat)(β:Nat->Nat)(J:C->Value):SV->SV
 | .c x=>.c (x.rel L β J)
 | .agg cs=>.agg (cs.map (C.rel L β J))
 | .vk xs=>.vk (xs.map λx=>(x.1,x.2.map (C.rel L β J)))
def aV.rel (L:List Nat)(β:Nat->Nat)(J:C->Value)(b:aV):aV:=
 match b.cs with
 | .row _=>b
 | .aB _=>b
 | .lit cs=>⟨.lit (cs.map (C.rel L β J)),b.ty⟩
def St.rel (st:St)(L:List Nat)(β:Nat->Nat)(J:C->Value):St:=
 ⟨λt=>match st.ax t with|some x=>some (x.rel L β J)|none=>none,
   λt=>cond (iM t L) none (match st.boxes t with|some b=>some (b.rel L β J)|none=>none)⟩
def View.sl (V:View)(a:OA)(xs:List Value):Prop:=∀i v,xs[i]?=some v->∃ad,a=some ad/\V.at (ad.add i) v
def rF (s d:Nat):Nat:=cond (Nat.blt s 100000) d (d+200000)
def G4 (s:Nat)(vs:List Value)(n c size bytes:Nat)(ty:TypeId)(d:Nat)(st:St)(V:View)(K:St->View->Prop)(k:Nat)(xs:List Value):Prop:=
 (n+k)*bytes<=140737488355328/\n<=c/\c*size<=vs.length/\xs.length=k*size/\(∀v∈xs,v.oneCell'=true) /\
  match st.boxes (rF s d) with
  | some _=>False
  | none=>∀(_:Nat)(_:C->Value)(spare:List Value)(c':Nat),n+k<=c'->c'*size<=(n+k)*size+spare.length ->
   K (((st.box s ⟨.aB [],ty⟩).box (rF s d) ⟨.row (vs.take (n*size)++xs++spare),ty⟩).put (some d) (.c (.oF (rF s d) 0 (n+k) c'))) V
def wZ (s:Nat)(vs:List Value)(n c size bytes:Nat)(ty:TypeId)(d:Nat)(st:St)(V:View)(K:St->View->Prop)(k:Nat)(xs:List Value):Prop:=
 (n+k)*bytes<=140737488355328/\n<=c/\c*size<=vs.length/\xs.length=k*size/\(∀v∈xs,v.oneCell'=true) /\
  match st.boxes (rF s d) with
  | some _=>False
  | none=>∀(spare:List Value)(c':Nat),n+k<=c'->c'*size<=(n+k)*size+spare.length ->
   K (((st.box s ⟨.aB [],ty⟩).box (rF s d) ⟨.aB (vs.take (n*size)++xs++spare),ty⟩).put (some d) (.c (.eM (rF s d) (n+k) c'))) V
def G5 (vs:List Value)(n c size bytes:Nat)(ty:TypeId)(d:Nat)(st:St)(V:View)(K:St->View->Prop)(k:Nat)(xs:List Value):Prop:=
 (n+k)*bytes<=140737488355328/\c<n+k/\xs.length=k*size/\(∀v∈xs,v.oneCell'=true) /\
  match st.boxes d with
  | some _=>False
  | none=>∀(spare:List Value)(c':Nat),n+k<=c'->c'*size<=(n+k)*size+spare.length ->
   K ((st.box d ⟨.row (vs++xs++spare),ty⟩).put (some d) (.c (.oF d 0 (n+k) c'))) V
def xV (q:Q)(dst:Option Nat)(st:St)(V:View)(K:St->View->Prop):Prop:=
 match q with
 | .fail=>False
 | .ret sc x=>EW sc (K (st.put dst x) V)
 | .new sc b x=>match dst with
  | some d=>match st.boxes d with
   | none=>EW sc (K ((st.box d b).put (some d) (x d)) V)
   | some _=>False
  | none=>False
 | .xU sc s b=>match dst with
  | none=>EW sc (K (st.box s b) V)
  | some _=>False
 | .rd p sh=>sh.ex λx=>V.UX p x (K (st.put dst x) V)
 | .rI vs o size sh=>sh.ex λx=>U6 vs o size x/\K (st.put dst x) V
 | .vV s vs n c x size bytes ty=>match dst with
  | none=>False
  | some d=>match x with
   | .inr xs=>wZ s vs n c size bytes ty d st V K (xs.length / size) xs
   | .inl (a,k)=>∃xs:List Value,V.sl a xs/\xs.length=k*size/\wZ s vs n c size bytes ty d st V K k xs
 | .app old ba vs n c x size bytes ty=>match dst with
  | none=>False
  | some d=>match old with
   | some s=>match x with
    | .inr xs=>G4 s vs n c size bytes ty d st V K (xs.length / size) xs
    | .inl (a,k)=>∃xs:List Value,V.sl a xs/\xs.length=k*size/\G4 s vs n c size bytes ty d st V K k xs
   | none=>∃vs:List Value,V.sl ba vs/\vs.length=n*size/\n<=c/\(ba.isNone=true->c=0)/\(match x with
    | .inr xs=>G5 vs n c size bytes ty d st V K (xs.length / size) xs
    | .inl (a,k)=>∃xs:List Value,V.sl a xs/\xs.length=k*size/\(k=0->K (st.put (some d) (.c (.v (.slice ba n c)))) V)/\(k≠0->G5 vs n c size bytes ty d st V K k xs))
def dh (β:Nat->Nat)(s b:Nat):Nat->Nat:=λt=>cond (Nat.beq t s) b (β t)
def mF:List Nat->(Nat->Nat)->((Nat->Nat)->Prop)->Prop
 | [],β,k=>k β
 | s::r,β,k=>∀b:Nat,mF r (dh β s b) k
def nI (bx:Nat->Option aV)(s:Nat):List Nat:=match bx s with|some b=>b.cs.ids|none=>[]
def reach (bx:Nat->Option aV):Nat->List Nat->List Nat
 | 0,l=>l
 | n+1,l=>reach bx n (dedup (l++l.flatMap (nI bx)))
def jq (bx:Nat->Option aV)(l:List Nat):Bool:=l.all λs=>SC (nI bx s) l
def Wy (bx:Nat->Option aV)(b:aV)(β:Nat->Nat)(s:Nat):List Nat->Prop->Prop
 | [],k=>k
 | t::r,k=>cond (Nat.beq s t) (Wy bx b β s r k) (match bx t with
  | some b'=>ue (OX b++OX b') (β s≠β t)->Wy bx b β s r k
  | none=>False)
def jW (bx:Nat->Option aV)(β:Nat->Nat)(V:View):List Nat->Prop->Prop
 | [],k=>k
 | s::r,k=>match bx s with
  | some b=>ue (OX b) (V.w.heap[β s]?=some (b.obj β))->ue (OX b) (V.H (β s))->jW bx β V r (Wy bx b β s r k)
  | none=>False
def vb (vs:List Value)(n b:Nat):Nat:=
 match vs with
 | []=>n
 | _::_=>b
def eG (bx:Nat->Option aV)(β:Nat->Nat)(n:Nat)(s:Nat):Nat:=
 match bx s with
 | some ⟨.aB vs,_⟩=>vb vs n (β s)
 | _=>β s
def C.kept:C->List Nat
 | .Ck _ ss=>0::ss
 | c=>c.ids
def nW (mv:Option (Nat×Nat)):List C->List C->(List C->Prop)->Prop
 | [],_,K=>K []
 | c::r,z::zr,K=>match c with
  | .eM t _ _=>match mv with
   | some (m,nb)=>match Nat.beq t m with
    | true=>∃n c:Nat,nW mv r zr λcs=>K (.eM nb n c::cs)
    | false=>False
   | none=>False
  | c=>match c.kept with
   | []=>(shC z).ex λv=>nW mv r zr λcs=>K (v::cs)
   | _=>nW mv r zr λcs=>K (c::cs)
 | _,[],_=>False
def fM (T:d_)(mv:Option (Nat×Nat))(β:Nat->Nat)(V:View):List Nat->St->(St->Prop)->Prop
 | [],st,k=>k st
 | s::r,st,k=>match st.boxes s with
  | some ⟨.lit cs,ty⟩=>match aD T ty with
   | some i=>nW mv cs i.zero λcs'=>V.w.heap[β s]?=some (.cells (cs'.map (C.den β)).toArray ty (0,0))/\fM T mv β V r (st.box s ⟨.lit cs',ty⟩) k
   | none=>False
  | some ⟨.row _,ty⟩=>∃vs:List Value,V.w.heap[β s]?=some (.cells vs.toArray ty (0,0))/\fM T mv β V r (st.box s ⟨.row vs,ty⟩) k
  | some ⟨.aB vs,ty⟩=>vs≠[]/\∃vs':List Value,vs'≠[]/\V.w.heap[β s]?=some (.cells vs'.toArray ty (0,0))/\fM T mv β V r (st.box s ⟨.aB vs',ty⟩) k
  | _=>False
def sO (bx:Nat->Option aV)(β:Nat->Nat)(V:View):List Nat->Prop->Prop
 | [],k=>k
 | s::r,k=>match bx s with
  | some b=>ue (OX b) (V.a_ (β s) (b.obj β))->sO bx β V r k
  | none=>False
def sM:List C->List Nat
 | []=>[]
 | .eM t _ _::r=>t::sM r
 | _::r=>sM r
def uo (bx:Nat->Option aV)(L:List Nat):List Nat:=dedup (L.flatMap λs=>match bx s with|some ⟨.lit cs,_⟩=>sM cs|_=>[])
def nY:List SV->List Nat
 | []=>[]
 | .c (.eM s _ _)::_=>[s]
 | .c (.oF s 0 _ _)::_=>[s]
 | _::r=>nY r
def yG (nb:Nat):List (Bool×List C)->List (Bool×List C)
 | []=>[]
 | (false,[.v (.slice _ n c)])::r=>(false,[.eM nb n c])::r
 | x::r=>x::yG nb r
def Fz (nb:Nat):List C->List C
 | []=>[]
 | .v (.slice _ n c)::r=>.eM nb n c::r
 | x::r=>x::Fz nb r
def vP (nb:Nat):SV->SV
 | .c (.v (.slice _ n c))=>.c (.eM nb n c)
 | .agg cs=>.agg (Fz nb cs)
 | .vk xs=>.vk (yG nb xs)
 | x=>x
def FA (T:d_):List TypeId->Option TypeId
 | []=>none
 | t::r=>match aD T t with
  | some i=>match i.k with
   | .slice e=>some e
   | _=>FA T r
  | none=>none
def Ql (T:d_)(ty:TypeId):Option TypeId:=
 match aD T ty with
 | some i=>match i.k with
  | .slice e=>some e
  | .tuple ts=>FA T ts
  | .struct fs=>FA T (fs.map Prod.fst)
  | _=>none
 | none=>none
def aH (β:Nat->Nat)(xs:List SV):Array Value:=(xs.map (SV.den β)).toArray
inductive CM where
 | none|ar|rel|jV|give
def gJ (m:Option Nat)(d:Nat):Nat:=
 match m with
 | some m=>rF m d
 | Option.none=>d
def mvP (m:Option Nat)(nb:Nat):Option (Nat×Nat):=
 match m with
 | some m=>some (m,nb)
 | Option.none=>Option.none
def Ic (m:Option Nat)(L:List Nat):List Nat:=
 match m with
 | some m=>L.filter λs=>!(Nat.beq s m)
 | Option.none=>L
def tZ (m:Option Nat)(ety:TypeId)(st:St):St:=
 match m with
 | some m=>st.box m ⟨.aB [],ety⟩
 | Option.none=>st
def Cd (m:Option Nat)(st:St)(β:Nat->Nat)(b':Nat):Prop:=
 match m with
 | some m=>match st.boxes m with
  | some ⟨.aB vs,_⟩=>vs≠[]/\b'=β m
  | _=>b'=β m
 | Option.none=>False
def cG (T:d_)(give:Bool)(sh:Sh)(L:List Nat)(m:Option Nat)(d:Nat)(ety:TypeId)(β:Nat->Nat)(st:St)(V':View)(K:St->View->Prop)(r':Value)(fo:View):Prop:=
 ∃(b':Nat)(vs':List Value),(vs'≠[]->fo.w.heap[b']?=some (.cells vs'.toArray ety (0,0)))/\(vs'≠[]->V'.w.heap.size<=b'\/Cd m st β b') /\
  sh.ex λx=>r'=(cond give (vP (gJ m d) x) x).den (dh β (gJ m d) b') /\
   fM T (mvP m (gJ m d)) (dh β (gJ m d) b') fo (Ic m L) ((tZ m ety st).box (gJ m d) ⟨.aB vs',ety⟩) λst'=>K (st'.put (some d) (cond give (vP (gJ m d) x) x)) (fo.shut.bg (vs'≠[]) b')
def Gg (bx:Nat->Option aV)(m ety:Nat):Bool:=
 match bx m with
 | some ⟨_,t⟩=>Nat.beq t ety
 | Option.none=>true
def eu (st:St)(L:List Nat)(ty:TypeId):St:=L.foldl (λst s=>st.box s ⟨.aB [],ty⟩) st
def kV (st:St)(m:Option Nat)(d:Nat):Bool:=
 match st.boxes (gJ m d) with
 | some _=>false
 | Option.none=>true
def gW (P:Program)(T:d_)(m:CM)(f:FuncId)(xs:List SV)(ty:TypeId)(dst:Option Nat)(st:St)(V:View)(K:St->View->Prop):Prop:=
 match shOf T ty with
 | Option.none=>False
 | some sh=>match reach st.boxes 3 (dedup (xs.flatMap SV.ids)) with
  | []=>match m with
   | .give=>match dst,Ql T ty with
    | some d,some ety=>match kV st Option.none d with
     | false=>False
     | true=>∀V':View,V.Le V'->aa P f (aH (λ_=>0) xs) V' (cG T true sh [] Option.none d ety (λ_=>0) st V' K)
    | _,Option.none=>∀V':View,V.Le V'->aa P f (aH (λ_=>0) xs) V' λr fo=>sh.ex λx=>r=x.den (λ_=>0)/\K (st.put dst x) fo
    | _,_=>False
   | .jV=>match sh,dst with
    | .val (.one .ptr),some d=>match st.boxes d with
     | some _=>False
     | Option.none=>match aD T ty with
      | some ti=>match ti.k with
       | .ptr e=>match aD T e with
        | some ei=>∀V':View,V.Le V'->aa P f (aH (λ_=>0) xs) V' λr fo=>∃b:Nat,Xo (ei.zero.map shC) λcs=>
          r=.pointer (some ⟨b,0,Option.none⟩)/\V'.w.heap.size<=b/\fo.a_ b (.cells (cs.map (C.den λ_=>0)).toArray e (0,0))/\K ((st.box d ⟨.lit cs,e⟩).put (some d) (.c (.ptr d 0))) (fo.Qr b)
        | Option.none=>False
       | _=>False
      | Option.none=>False
    | _,_=>False
   | _=>∀V':View,V.Le V'->aa P f (aH (λ_=>0) xs) V' λr fo=>sh.ex λx=>r=x.den (λ_=>0)/\K (st.put dst x) fo
  | s::r=>match jq st.boxes (s::r) with
   | false=>False
   | true=>match m with
    | .none|.jV=>False
    | .give=>match dst,Ql T ty,nY xs,uo st.boxes (s::r) with
     | some d,some ety,[],[]=>match kV st Option.none d with
      | false=>False
      | true=>∀V':View,V.Le V'->mF (s::r) (λ_=>0) λβ=>jW st.boxes β V' (s::r)
       (aa P f (aH β xs) (V'.ar ((s::r).map (eG st.boxes β V'.w.heap.size))) (cG T true sh (s::r) Option.none d ety β st V' K))
     | some d,some ety,[m],[]=>match Gg st.boxes m ety with
      | true=>match kV st (some m) d with
       | false=>False
       | true=>∀V':View,V.Le V'->mF (s::r) (λ_=>0) λβ=>jW st.boxes β V' (s::r)
        (aa P f (aH β xs) (V'.ar ((s::r).map (eG st.boxes β V'.w.heap.size))) (cG T true sh (s::r) (some m) d ety β st V' K))
      | false=>match kV (eu st (s::r) 0) Option.none d with
       | false=>False
       | true=>match (s::r).all λt=>Nat.blt t 100000 with
        | false=>False
        | true=>∀V':View,V.Le V'->mF (s::r) (λ_=>0) λβ=>sO st.boxes β V' (s::r)
         (aa P f (aH β xs) V' (cG T true sh [] Option.none d ety (λ_=>0) (eu st (s::r) 0) V' K))
     | _,Option.none,_,_=>match (s::r).all λt=>Nat.blt t 100000 with
      | false=>False
      | true=>∀V':View,V.Le V'->mF (s::r) (λ_=>0) λβ=>sO st.boxes β V' (s::r)
       (aa P f (aH β xs) V' λr' fo=>sh.ex λx=>r'=x.den (λ_=>0)/\K ((eu st (s::r) 0).put dst x) fo)
     | _,_,_,_=>False
    | .ar=>match uo st.boxes (s::r) with
     | []=>∀V':View,V.Le V'->mF (s::r) (λ_=>0) λβ=>jW st.boxes β V' (s::r)
      (aa P f (aH β xs) (V'.ar ((s::r).map (eG st.boxes β V'.w.heap.size))) λr' fo=>sh.ex λx=>r'=x.den (λ_=>0)/\fM T Option.none β fo (s::r) st λst'=>K (st'.put dst x) fo.shut)
     | [m]=>match dst,mH st.boxes m with
      | some d,some ety=>match kV st (some m) d with
       | false=>False
       | true=>∀V':View,V.Le V'->mF (s::r) (λ_=>0) λβ=>jW st.boxes β V' (s::r)
        (aa P f (aH β xs) (V'.ar ((s::r).map (eG st.boxes β V'.w.heap.size))) (cG T false sh (s::r) (some m) d ety β st V' K))
      | _,_=>False
     | _=>False
    | .rel=>match (s::r).all λt=>Nat.blt t 100000 with
     | false=>False
     | true=>∀V':View,V.Le V'->mF (s::r) (λ_=>0) λβ=>sO st.boxes β V' (s::r)
      (aa P f (aH β xs) V' λr' fo=>sh.ex λx=>r'=x.den (λ_=>0)/\∀J:C->Value,K ((st.rel (s::r) β J).put dst x) fo)
def oG (bx:Nat->Option aV):List SV->Option (List Value×Nat×List SV)
 | []=>none
 | x::r=>match x with
  | .c (.eM s n c)=>match bx s with
   | some ⟨.aB vs,_⟩=>some (vs,c,.c (.v (.slice none n c))::r)
   | _=>none
  | x=>match oG bx r with
   | some (vs,c,r')=>some (vs,c,x::r')
   | none=>none
def my (P:Program)(T:d_)(m:CM)(f:FuncId)(xs:List SV)(ty:TypeId)(dst:Option Nat)(st:St)(V:View)(K:St->View->Prop):Prop:=
 match m with
 | .ar=>match oG st.boxes xs with
  | some (vs,c,xs')=>(vs=[]->c=0/\gW P T .ar f xs' ty dst st V K)/\(vs≠[]->gW P T .ar f xs ty dst st V K)
  | none=>gW P T .ar f xs ty dst st V K
 | m=>gW P T m f xs ty dst st V K
def zT (ss:List Nat):List SV:=ss.map λs=>.c (.ptr s 0)
inductive Hint where
 | free|own (l:List Nat)
def jS (op:Op):List Operand:=
 match op with
 | .load _ a=>[a]
 | .store _ a _=>[a]
 | .call ⟨.value f,args,_⟩=>args.toList++[f]
 | .call ⟨.builtin .append,args,_⟩=>args.toList
 | _=>[]
def fV (bx:Nat->Option aV)(op:Op)(l:List Nat):List Nat:=
 match op with
 | .call _=>reach bx 3 (dedup l)
 | _=>l
def KH (P:Program)(t:TypeId)(name:String):Option FuncId:=
 match P.info? t,P.underlying t with
 | some i,some d=>match i.methods.find? (λm=>m.name==name) with
  | some m=>match m.path.toList,m.func,d with
   | [],some (f,false),.struct _=>some f
   | _,_,_=>none
  | none=>none
 | _,_=>none
def dX (P:Program)(T:d_)(m:CM)(o:Oper)(st:St)(V:View)(K:St->View->Prop):Prop:=
 match o.op with
 | .call ⟨.value S7,args,_⟩=>match cO st.bz args.toList with
  | some xs=>match st.bz S7 with
   | some (.c (.Ck f ss))=>my P T m f (xs++zT ss) o.type o.dst st V K
   | _=>False
  | none=>False
 | .call ⟨.invoke recv name,args,_⟩=>match cO st.bz args.toList with
  | some xs=>match st.bz recv with
   | some (.c (.w (.iface t v)))=>match KH P t name with
    | some f=>my P T m f (.c (.w v)::xs) o.type o.dst st V K
    | none=>False
   | _=>False
  | none=>False
 | op=>xV (aR T st.bz st.boxes op) o.dst st V K
def dP (P:Program)(T:d_)(m:CM)(h:Hint)(o:Oper)(st:St)(V:View)(K:St->View->Prop):Prop:=
 match h with
 | .free=>dX P T m o st V K
 | .own l=>match cO st.bz (jS o.op) with
  | some xs=>match SC (fV st.boxes o.op (xs.flatMap SV.ids)) l with
   | true=>dX P T m o st V K
   | false=>False
  | none=>False
def lk:SV:=.vk []
def uT (P:Program)(T:d_)(m:CM)(h:Hint)(ops:Array Oper)(o:Oper)(st:St)(V:View)(K:St->View->Prop):Prop:=
 match o.guard with
 | none=>dP P T m h o st V K
 | some (j,b)=>match (ops[j]?).bind (·.dst) with
  | none=>False
  | some g=>match st.ax g with
   | some (.c .tt)=>match b with
    | true=>dP P T m h o st V K
    | false=>K (st.put o.dst lk) V
   | some (.c .ff)=>match b with
    | true=>K (st.put o.dst lk) V
    | false=>dP P T m h o st V K
   | some (.c (.v (.bool c)))=>match b with
    | true=>(c=true->dP P T m h o (st.put (some g) (.c .tt)) V K)/\(c=false->K ((st.put (some g) (.c .ff)).put o.dst lk) V)
    | false=>(c=true->K ((st.put (some g) (.c .tt)).put o.dst lk) V)/\(c=false->dP P T m h o (st.put (some g) (.c .ff)) V K)
   | some (.vk _)=>K (st.put o.dst lk) V
   | _=>False
inductive Cls where
 | pure|load|store|alloc|call|mX|odd|jV|app|give
def bD (LF RF:List Nat):Op->Cls
 | .move _|.assign _|.pick ..| .build ..| .nilCheck _|.binOp ..| .unOp ..| .convert ..| .makeFunc ..| .slice ..| .fieldAddr ..| .field ..| .indexAddr ..| .extract ..| .index ..| .makeInterface ..=>.pure
 | .load ..=>.load
 | .store ..=>.store
 | .alloc _|.box ..| .buildSlice ..| .makeSlice ..=>.alloc
 | .call ⟨.builtin .len,_,_⟩|.call ⟨.builtin .cap,_,_⟩=>.pure
 | .call ⟨.builtin .append,_,_⟩=>.app
 | .call ⟨.value (.func f),_,_⟩=>match iM f LF with
  | true=>match iM (f+1000000) LF with
   | true=>.give
   | false=>.mX
  | false=>match iM f RF with
   | true=>.odd
   | false=>match iM (f+1000000) RF with
    | true=>.jV
    | false=>.call
 | .call ⟨.value _,_,_⟩=>.mX
 | .call ⟨.invoke _ _,_,_⟩=>.call
 | _=>.odd
def jT (op:Op):List Nat:=op.operands.toList.filterMap λ|.tmp t=>some t|_=>none
def gx (ops:Array Oper)(o:Oper):List Nat:=
 match o.guard with
 | none=>[]
 | some (j,_)=>match (ops[j]?).bind (·.dst) with
  | some g=>[g]
  | none=>[]
def fL (o:Oper):List Nat:=match o.dst with|some d=>[d]|none=>[]
def uD (c:Cls)(h:Hint)(d:List Nat):Option (List Nat×List Nat):=
 match c,h with
 | .pure,.free=>some ([],[])
 | .call,.free=>some ([],[])
 | .alloc,.free=>some (d,d)
 | .load,.own l=>some (l,[])
 | .store,.own l=>some (l,l)
 | .mX,.own l=>some (l,l++d++d.map (·+ 200000))
 | .app,.own l=>some (l,l++d++d.map (·+ 200000))
 | .give,.own l=>some (l,l++d++d.map (·+ 200000))
 | _,_=>none
def pY:Cls->Bool
 | .pure|.load|.store|.alloc=>true
 | _=>false
def indep (LF RF:List Nat)(ops:Array Oper)(h1 h2:Hint)(o1 o2:Oper):Bool:=
 pY (bD LF RF o1.op) &&
 CQ (fL o1) (jT o2.op++gx ops o2++fL o2)&&CQ (fL o2) (jT o1.op++gx ops o1) &&
 CQ (gx ops o1) (jT o2.op)&&CQ (gx ops o2) (jT o1.op) &&
 match uD (bD LF RF o1.op) h1 (fL o1),uD (bD LF RF o2.op) h2 (fL o2) with
 | some (r1,w1),some (r2,w2)=>CQ w1 r2&&CQ w2 r1&&CQ w1 w2
 | _,_=>false
def fstOf (ops:List Oper)(t:Nat):Option Oper:=ops.find? λo=>match o.dst with|some d=>Nat.beq d t|none=>false
def Bj (st:St)(ops:List Oper):Nat->Operand->List Nat
 | 0,_=>[]
 | n+1,.tmp t=>match fstOf ops t with
  | some o=>match o.op with
   | .alloc _|.box ..| .buildSlice ..| .makeSlice ..=>[t]
   | .call _=>[t,t+200000]
   | .assign x=>Bj st ops n x++match st.ax t with
    | some x=>x.ids
    | none=>[]
   | .load _ a=>(Bj st ops n a).flatMap (nI st.boxes)
   | op=>op.operands.toList.flatMap (Bj st ops n)
  | none=>match st.ax t with
   | some x=>x.ids
   | none=>[]
 | _,_=>[]
def Qs (LF RF:List Nat)(st:St)(ops:List Oper)(o:Oper):Hint:=
 match bD LF RF o.op with
 | .load|.store=>.own (dedup ((jS o.op).flatMap (Bj st ops 10)))
 | .mX|.app|.give=>.own (reach st.boxes 3 (dedup ((jS o.op).flatMap (Bj st ops 10))))
 | _=>.free
def M8 (ops:List Oper):List Nat:=
 ops.foldl (λacc o=>acc++[o.after.toList.foldl (λs e=>cond (Region.binds .any e) (Nat.lor (Nat.lor (Nat.shiftLeft 1 e.on) (acc.getD e.on 0)) s) s) 0]) []
def Xc (m i:Nat):Bool:=Nat.beq (Nat.land (Nat.shiftRight m i) 1) 1
def Ul (LF RF:List Nat)(o:Oper):Bool:=match bD LF RF o.op with|.call|.mX|.odd|.jV|.app|.give=>true|_=>false
def KY (ops:Array Oper)(done:List Nat)(i:Nat):Bool:=
 match ops[i]? with
 | some o=>!(iM i done)&&o.after.toList.all λe=>!(Region.binds .any e)||iM e.on done
 | none=>false
def Gj (LF RF:List Nat)(ops:Array Oper):Nat->List Nat->List Nat
 | 0,_=>[]
 | n+1,done=>
  let rs:=(List.range ops.size).filter (KY ops done)
  match rs.find? (λi=>match ops[i]? with|some o=>!(Ul LF RF o)|none=>false) with
  | some i=>i::Gj LF RF ops n (i::done)
  | none=>match rs with
   | i::_=>i::Gj LF RF ops n (i::done)
   | []=>[]
def sU (LF RF:List Nat)(ops:Array Oper):List Nat:=Gj LF RF ops ops.size []
def yS (LF RF:List Nat)(ops:Array Oper)(hs:List Hint)(an:List Nat):List Nat->Bool
 | []=>true
 | i::r=>(r.all λj=>Xc (an.getD j 0) i||match ops[i]?,ops[j]? with|some a,some b=>indep LF RF ops (hs.getD i .free) (hs.getD j .free) a b|_,_=>false)&&yS LF RF ops hs an r
def uv (ops:Array Oper):List Nat->List Nat->Bool
 | _,[]=>true
 | done,i::r=>KY ops done i&&uv ops (i::done) r
def My (LF RF:List Nat)(ops:Array Oper)(hs:List Hint)(l:List Nat):Bool:=
 Nat.beq l.length ops.size&&((List.range ops.size).all λi=>iM i l)&&uv ops [] l&&yS LF RF ops hs (M8 ops.toList) l
def SL (P:Program)(T:d_)(m:Nat->CM)(hint:Nat->Hint)(ops:Array Oper):List Nat->St->View->(St->View->Prop)->Prop
 | [],st,V,K=>K st V
 | i::r,st,V,K=>match ops[i]? with
  | some o=>uT P T (m i) (hint i) ops o st V λst' V'=>SL P T m hint ops r st' V' K
  | none=>False
def mj (LF RF:List Nat)(ops:Array Oper)(i:Nat):CM:=
 match ops[i]? with
 | some o=>match bD LF RF o.op with
  | .mX=>.ar
  | .odd=>.rel
  | .jV=>.jV
  | .give=>.give
  | _=>.none
 | Option.none=>.none
def modeN (LF RF:List Nat)(ops:Array Oper)(i:Nat):CM:=
 match ops[i]? with
 | some o=>match bD LF RF o.op with
  | .mX=>.ar
  | .jV=>.jV
  | .give=>.give
  | _=>.rel
 | Option.none=>.none
structure Tm where
 τ:Type
 gh:Bool:=false
 keep:List Nat
 keepB:List Nat
 ax:τ->List (Nat×SV)
 boxes:τ->List (Nat×aV)
structure WW where
 τ:Type
 ax:τ->List (Nat×SV)
 boxes:τ->List (Nat×aV)
def Mj {α:Type}(f:Nat->Option α):List Nat->List (Nat×α)
 | []=>[]
 | t::r=>match f t with
  | some x=>(t,x)::Mj f r
  | none=>Mj f r
def Tm.at (A:Tm)(st:St):WW:=⟨A.τ,λx=>Mj st.ax A.keep++A.ax x,λx=>Mj st.boxes A.keepB++A.boxes x⟩
def r_ (ρ:List (Nat×Nat))(s s':Nat):Bool:=
 match aD ρ s' with
 | some t=>Nat.beq s t
 | none=>Nat.beq s s'
def Ed (ρ:List (Nat×Nat)):List Nat->List Nat->Bool
 | [],[]=>true
 | s::r,s'::r'=>r_ ρ s s'&&Ed ρ r r'
 | _,_=>false
def eqC (ρ:List (Nat×Nat)):C->C->List Prop
 | .v (.int k a),.v (.int k' b)=>cond (Aq k k') [a=b] [False]
 | .v (.bool a),.v (.bool b)=>[a=b]
 | .tt,.v (.bool b)=>[true=b]
 | .ff,.v (.bool b)=>[false=b]
 | .v (.slice a n c),.v (.slice a' n' c')=>[a=a',n=n',c=c']
 | .v (.slice a n c),.eM _ n' c'=>[a=none,n=n',c=c',c=0]
 | .v (.pointer p),.v (.pointer q)=>[p=q]
 | .v x,.v y=>[x=y]
 | .w x,.w y=>[x=y]
 | .w x,.v y=>[x=y]
 | .v x,.w y=>[x=y]
 | .tt,.tt=>[]
 | .ff,.ff=>[]
 | .ptr s o,.ptr s' o'=>cond (r_ ρ s s') [o=o'] [False]
 | .oF s o n c,.oF s' o' n' c'=>cond (r_ ρ s s') [o=o',n=n',c=c'] [False]
 | .oF s o n c,.eM s' n' c'=>cond (r_ ρ s s') [o=0,n=n',c=c',c≠0] [False]
 | .eM s n c,.eM s' n' c'=>cond (r_ ρ s s') [n=n',c=c'] [False]
 | .Ck f ss,.Ck g ts=>cond (Ed ρ ss ts) [f=g] [False]
 | _,_=>[False]
def Ko (ρ:List (Nat×Nat)):List C->List C->List Prop
 | [],[]=>[]
 | a::r,b::s=>eqC ρ a b++Ko ρ r s
 | _,_=>[False]
def Xm (ρ:List (Nat×Nat)):SV->SV->List Prop
 | .c a,.c b=>eqC ρ a b
 | .agg l,.agg m=>Ko ρ l m
 | _,_=>[False]
def SV.plain:SV->Bool
 | .vk _=>false
 | _=>true
def P7 (ρ:List (Nat×Nat))(a b:aV):List Prop:=
 match a.cs,b.cs with
 | .lit l,.lit m=>cond (Nat.beq a.ty b.ty) (Ko ρ l m) [False]
 | .row l,.row m=>cond (Nat.beq a.ty b.ty) [l=m] [False]
 | .aB l,.aB m=>cond (Nat.beq a.ty b.ty) [l=m] [False]
 | .row l,.aB m=>cond (Nat.beq a.ty b.ty) [l=m] [False]
 | .lit l,.aB m=>match ma l with
  | some ws=>cond (Nat.beq a.ty b.ty) [ws=m] [False]
  | none=>[False]
 | .lit l,.row m=>match ma l with
  | some ws=>cond (Nat.beq a.ty b.ty) [ws=m] [False]
  | none=>[False]
 | _,_=>[False]
def renC:C->C->List (Nat×Nat)
 | .ptr s _,.ptr s' _=>[(s',s)]
 | .oF s _ _ _,.oF s' _ _ _=>[(s',s)]
 | .oF s _ _ _,.eM s' _ _=>[(s',s)]
 | .eM s _ _,.eM s' _ _=>[(s',s)]
 | .Ck _ ss,.Ck _ ts=>ts.zip ss
 | _,_=>[]
def Se:List C->List C->List (Nat×Nat)
 | a::r,b::s=>renC a b++Se r s
 | _,_=>[]
def renSV:SV->SV->List (Nat×Nat)
 | .c a,.c b=>renC a b
 | .agg l,.agg m=>Se l m
 | _,_=>[]
def YK (st:St):List (Nat×SV)->List (Nat×Nat)
 | []=>[]
 | (t,x)::r=>match st.ax t with
  | some y=>renSV y x++YK st r
  | none=>YK st r
def Oz (st:St)(ρ:List (Nat×Nat)):List (Nat×aV)->List (Nat×Nat)
 | []=>[]
 | (t,x)::r=>match aD ρ t with
  | some s=>match st.boxes s with
   | some y=>(match y.cs,x.cs with|.lit l,.lit m=>Se l m|_,_=>[])++Oz st ρ r
   | none=>Oz st ρ r
  | none=>Oz st ρ r
def Sc (st:St)(ss:List (Nat×SV))(bs:List (Nat×aV)):List (Nat×Nat):=
 let ρ1:=YK st ss
 let ρ2:=ρ1++Oz st ρ1 bs
 let ρ3:=ρ2++Oz st ρ2 bs
 ρ3++Oz st ρ3 bs
def II (ρ:List (Nat×Nat))(t:Nat):Nat:=
 match aD ρ t with
 | some s=>s
 | none=>t
def EE (ρ:List (Nat×Nat)):List Nat->Bool
 | []=>true
 | t::r=>(Nat.blt t 100000==Nat.blt (II ρ t) 100000)&&(Nat.blt t 100000||Nat.ble 200000 t||Nat.beq (II ρ t) t)&&(r.all λu=>!(Nat.beq (II ρ t) (II ρ u)))&&EE ρ r
def p_ (ρ:List (Nat×Nat)):List (Nat×aV)->List Nat
 | []=>[]
 | (t,x)::r=>match x.cs with
  | .aB _=>match aD ρ t with
   | some _=>t::p_ ρ r
   | none=>p_ ρ r
  | _=>t::p_ ρ r
def TY (ρ:List (Nat×Nat))(st:St):List (Nat×SV)->List Prop
 | []=>[]
 | (t,x)::r=>match st.ax t with
  | some y=>Xm ρ y x++TY ρ st r
  | none=>[False]
def NM (ρ:List (Nat×Nat))(st:St):List (Nat×aV)->List Prop
 | []=>[]
 | (t,x)::r=>match x.cs,aD ρ t with
  | .aB l,none=>(l=[])::NM ρ st r
  | _,_=>match st.boxes (II ρ t) with
   | some y=>P7 ρ y x++NM ρ st r
   | none=>[False]
def fitR (ρ:List (Nat×Nat))(bs:List (Nat×aV)):List Prop:=cond (EE ρ (p_ ρ bs)) [] [False]
def qj (ss:List (Nat×SV))(bs:List (Nat×aV)):Bool:=
 let l:=bs.map (·.1)
 (ss.all λx=>x.2.ids.all λs=>iM s l)&&(bs.all λx=>x.2.cs.ids.all λs=>iM s l)
def WW.st (A:WW)(x:A.τ):St:=⟨aD (A.ax x),aD (A.boxes x)⟩
def W8:List Prop->Prop
 | []=>True
 | [p]=>p
 | p::r=>p/\W8 r
def WW.fits (A:WW)(st:St)(x:A.τ)(k:Prop):Prop:=
 let ρ:=Sc st (A.ax x) (A.boxes x)
 W8 (TY ρ st (A.ax x)++NM ρ st (A.boxes x)++fitR ρ (A.boxes x))/\k
def keyOf:Code->Nat
 | .region id _ _=>id
 | .seq a _=>keyOf a
 | .cond _ a b=>match keyOf a with
  | 1000000=>keyOf b
  | n=>n
 | .block _ a=>keyOf a
 | .loop a=>keyOf a
 | .scope a=>keyOf a
 | _=>1000000
abbrev GY:=List (Nat×Tm)
def tE:GY->Nat->Option Tm
 | [],_=>none
 | (s,x)::r,t=>cond (Nat.beq t s) (some x) (tE r t)
def WB (RF:List Nat)(id:Nat):List Nat:=RF.filterMap λx=>cond (Nat.beq (x / 100000) (100+id)) (some (x%100000)) none
def MZ (l:List Nat)(st:St)(V:View)(K:St->View->Prop):Prop:=
 match l with
 | []=>K st V
 | s::r=>match jq st.boxes (s::r)&&(s::r).all λt=>Nat.blt t 100000 with
  | false=>False
  | true=>∀V':View,V.Le V'->mF (s::r) (λ_=>0) λβ=>sO st.boxes β V' (s::r) (∀J:C->Value,K (st.rel (s::r) β J) V')
def I_ (P:Program)(T:d_)(LF RF:List Nat)(ops:Array Oper)(draw:Bool)(st:St)(V:View)(K:St->View->Prop):Prop:=
 match draw with
 | false=>SL P T (modeN LF RF ops) (λ_=>.free) ops (List.range ops.size) st V K
 | true=>let hs:=ops.toList.map (Qs LF RF st ops.toList)
  match My LF RF ops hs (sU LF RF ops) with
  | true=>SL P T (mj LF RF ops) (λi=>hs.getD i .free) ops (sU LF RF ops) st V K
  | false=>False
def unr (F:St->View->(Exit->St->View->Prop)->Prop):Nat->St->View->(Exit->St->View->Prop)->Prop
 | 0,_,_,_=>False
 | n+1,st,V,K=>F st V λe st' V'=>match e with
  | .normal=>unr F n st' V' K
  | e=>K e st' V'
def vc (P:Program)(T:d_)(LF RF:List Nat)(L J:GY):Code->St->View->(Exit->St->View->Prop)->Prop
 | .skip,st,V,K=>K .normal st V
 | .region id ops draw,st,V,K=>match tE J (600000+id) with
  | none=>MZ (WB RF id) st V λst' V'=>I_ P T LF RF ops draw st' V' (K .normal)
  | some A=>∃I:A.τ->View->Prop,MZ (WB RF id) st V (λst' V'=>I_ P T LF RF ops draw st' V' λSw fo=>∃x,(A.at st).fits Sw x (I x fo)) /\
   ∀x V',V.Le V'->I x V'->(qj ((A.at st).ax x) ((A.at st).boxes x)=true/\K .normal ((A.at st).st x) V')
 | .seq a b,st,V,K=>vc P T LF RF L J a st V λe st' V'=>match e with
  | .normal=>vc P T LF RF L J b st' V' K
  | e=>K e st' V'
 | .cond c a b,st,V,K=>match tE J (keyOf (.cond c a b)) with
  | none=>match st.bz c with
   | some (.c .tt)=>vc P T LF RF L J a st V K
   | some (.c .ff)=>vc P T LF RF L J b st V K
   | some (.c (.v (.bool t)))=>(t=true->vc P T LF RF L J a st V K)/\(t=false->vc P T LF RF L J b st V K)
   | _=>False
  | some A=>match st.bz c with
   | some (.c .tt)=>vc P T LF RF L J a st V K
   | some (.c .ff)=>vc P T LF RF L J b st V K
   | some (.c (.v (.bool t)))=>∃I:A.τ->View->Prop,
    ((t=true->vc P T LF RF L J a st V λe st' V'=>match e with
     | .normal=>∃x,(A.at st).fits st' x (I x V')
     | e=>K e st' V') /\
      (t=false->vc P T LF RF L J b st V λe st' V'=>match e with
     | .normal=>∃x,(A.at st).fits st' x (I x V')
     | e=>K e st' V')) /\
    ∀x V',V.Le V'->I x V'->(qj ((A.at st).ax x) ((A.at st).boxes x)=true/\K .normal ((A.at st).st x) V')
   | _=>False
 | .block id a,st,V,K=>match tE J (500000+id) with
  | none=>vc P T LF RF L J a st V λe st' V'=>match e with
   | .exit i=>cond (Nat.beq i id) (K .normal st' V') (K (.exit i) st' V')
   | e=>K e st' V'
  | some A=>∃I:A.τ->View->Prop,vc P T LF RF L J a st V (λe st' V'=>match e with
   | .exit i=>cond (Nat.beq i id) (∃x,(A.at st).fits st' x (I x V')) (K (.exit i) st' V')
   | .normal=>∃x,(A.at st).fits st' x (I x V')
   | e=>K e st' V')/\∀x V',V.Le V'->I x V'->(qj ((A.at st).ax x) ((A.at st).boxes x)=true/\K .normal ((A.at st).st x) V')
 | .loop a,st,V,K=>match tE L (keyOf a) with
  | none=>unr (λst V K=>vc P T LF RF L J a st V K) 3 st V K
  | some A=>match A.gh with
   | false=>∃(I:A.τ->View->Prop)(m:A.τ->Nat),(∃x,(A.at st).fits st x (I x V))/\∀x V',V.Le V'->I x V'->(qj ((A.at st).ax x) ((A.at st).boxes x)=true /\
    vc P T LF RF L J a ((A.at st).st x) V' λe st' fo=>match e with
     | .normal=>∃y,m y<m x/\(A.at st).fits st' y (I y fo)
     | e=>K e st' fo)
   | true=>∃I:A.τ->Nat->View->Prop,(∃x k,(A.at st).fits st x (I x k V))/\∀x k V',V.Le V'->I x k V'->(qj ((A.at st).ax x) ((A.at st).boxes x)=true /\
    vc P T LF RF L J a ((A.at st).st x) V' λe st' fo=>match e with
     | .normal=>∃y k',k'<k/\(A.at st).fits st' y (I y k' fo)
     | e=>K e st' fo)
 | .exit id,st,V,K=>K (.exit id) st V
 | .ret,st,V,K=>K .ret st V
 | .scope a,st,V,K=>vc P T LF RF L J a st V λe st' V'=>match e with
  | .goto _=>False
  | e=>K e st' V'
 | .label _,st,V,K=>K .normal st V
 | _,_,_,_=>False
def oD (T:d_)(st:St):List ResultVar->Option (List SV)
 | []=>some []
 | .tmp t::r=>match st.ax t,oD T st r with
  | some x,some l=>some (x::l)
  | _,_=>none
 | .cell a t::r=>match st.ax a,aD T t,oD T st r with
  | some (.c (.ptr s o)),some i,some l=>match k_ st.boxes i (.c (.ptr s o)) with
   | .ret _ x=>some (x::l)
   | _=>none
  | _,_,_=>none
def minus (l m:List Nat):List Nat:=l.filter λx=>!(iM x m)
def Ps (bx:Nat->Option aV)(β:Nat->Nat)(V:View):List Nat->Prop->Prop
 | [],k=>k
 | s::r,k=>match bx s with
  | some ⟨.aB _,_⟩=>False
  | some b=>V.w.heap[β s]?=some (b.obj β)->Ps bx β V r k
  | none=>False
def lD:List (Nat×aV)->List Nat
 | []=>[]
 | (s,b)::r=>match b.cs with
  | .aB _=>lD r
  | _=>s::lD r
def Q_ (bs:List (Nat×aV))(β0:Nat->Nat)(b:Nat)(k:Prop):Prop:=
 match bs with
 | []=>k
 | (m,x)::r=>match x.cs with
  | .aB vs=>(vs≠[]/\b=β0 m)\/Q_ r β0 b k
  | _=>Q_ r β0 b k
def oC (β:Nat->Nat):List SV->Value
 | [x]=>x.den β
 | l=>.tuple (l.map (SV.den β)).toArray
def xr (T:d_)(bx:Nat->Option aV)(s:Nat):Bool:=
 cond (Nat.ble 100000 s) true (match bx s with|some ⟨.row _,ty⟩|some ⟨.aB _,ty⟩=>Nat.ble 2 (T.filter λx=>Nat.beq x.1 ty).length|some ⟨.lit _,ty⟩=>Nat.ble 3 (T.filter λx=>Nat.beq x.1 ty).length|_=>false)
def MG (T:d_)(rs:List ResultVar)(bs:List (Nat×aV))(β0:Nat->Nat)(n0:Nat)(R:Value->View->Prop)(st:St)(V:View):Prop:=
 match oD T st rs with
 | none=>False
 | some xs=>let F:=lD bs
  let L:=reach st.boxes 3 (dedup (xs.flatMap SV.ids++F))
  match jq st.boxes L with
  | false=>False
  | true=>match (minus L F).filter (xr T st.boxes) with
   | []=>∀V':View,V.Le V'->mF (minus L F) β0 λβ=>Ps st.boxes β V' F (sO st.boxes β V' (minus L F) (R (oC β xs) V'))
   | [s]=>match st.boxes s with
    | some b=>∀V':View,mF (minus L F) β0 λβ=>V.Le (V'.bg (gdP b) (β s))->Ps st.boxes β V' F (ue (OX b) (V'.w.heap[β s]?=some (b.obj β)) ->
      ue (OX b) (n0<=β s\/Q_ bs β0 (β s) False)->sO st.boxes β V' ((minus L F).filter (!Nat.beq s ·)) (R (oC β xs) V'))
    | none=>False
   | _=>False
def vcFn (P:Program)(T:d_)(LF RF:List Nat)(L J:GY)(code:Code)(rs:List ResultVar)(ss:List (Nat×SV))(bs:List (Nat×aV))(β0:Nat->Nat)(V:View)(R:Value->View->Prop):Prop:=
 vc P T LF RF L J code ⟨aD ss,aD bs⟩ V λe st V'=>match e with
  | .normal=>MG T rs bs β0 V.w.heap.size R st V'
  | .ret=>MG T rs bs β0 V.w.heap.size R st V'
  | _=>False
def jK (n:Nat):Code->Bool
 | .region _ ops _=>ops.toList.all λo=>match o.dst with|some d=>Nat.blt d n|none=>true
 | .seq a b=>jK n a&&jK n b
 | .cond _ a b=>jK n a&&jK n b
 | .block _ a=>jK n a
 | .loop a=>jK n a
 | .scope a=>jK n a
 | _=>true
def qT:Nat->List (Nat×SV)->Bool
 | _,[]=>true
 | i,(j,x)::r=>Nat.beq i j&&x.plain&&qT (i+1) r
def Gp (P:Program)(T:d_)(LF RF:List Nat)(L J:GY)(fn:Func)(ss:List (Nat×SV))(bs:List (Nat×aV))(β0:Nat->Nat)(V:View)(R:Value->View->Prop):Prop:=
 match fn.body with
 | some code=>match jK fn.ntmps code&&qT 0 ss&&Nat.ble ss.length fn.ntmps&&Nat.ble fn.ntmps 100000&&(bs.all λb=>Nat.ble 100000 b.1&&Nat.blt b.1 200000)&&qj ss bs with
  | true=>vcFn P T LF RF L J code fn.results.toList ss bs β0 V R
  | false=>False
 | none=>False
theorem View.Le.refl (V:ut):V.Le V:=λ_ _ h=>h
def View.Le.m {V V' fo:ut}(h:V.Le V')(k:V'.Le fo):V.Le fo:=λb o x=>k b o (h b o x)
def View.Le.at {V V':ut}(h:V.Le V'){p:Addr}{v:un}(k:V.at p v):V'.at p v:=by
 obtain ⟨b,a⟩:=k;unfold World.cell? at a;split at a
 ·rename_i c;have ⟨d,e⟩:=h p.block _ ⟨b,c⟩;refine ⟨d,?_⟩<;>grind [World.cell?]
 ·cases a
theorem ir.refl (X:Nat->Prop)(w:World):ir X w w:=⟨Qq2 _,λ_ _ _=>rfl,rfl,rfl,rfl,Qq2 _⟩
def ir.m {X:Nat->Prop}{a b c:World}(h:ir X a b)(k:ir X b c):ir X a c:=
 ⟨Qw8 h.size k.size,λi d e=>(k.a_ i (Qx5 d h.size) e).m (h.a_ i d e),k.os.m h.os,k.tape.m h.tape,k.out.m h.out,Qw8 h.dr k.dr⟩
def ir.s {X Y:Nat->Prop}{a b:World}(h:ir X a b)(hxy:∀i,X i->Y i):ir Y a b:=
 ⟨h.size,λi c d=>h.a_ i c λe=>d (hxy i e),h.os,h.tape,h.out,h.dr⟩
def View.QP (V:ut)(w':World)(hx:ir V.X V.w w'):V.Le (V.to w' hx.size):=by
 rintro b o ⟨a,d⟩;refine ⟨a,?_⟩;have c:b<V.w.heap.size:=by grind
 show w'.heap[b]?=some o;grind [hx.a_,V.hX]
def aa.s {P:Program}{f:FuncId}{args:Array un}{V:ut}{R R':un->ut->Prop}(h:aa P f args V R)
  (hR:∀r V',V.Le V'->R r V'->R' r V'):aa P f args V R':=
 ⟨h.1,h.2.s λ_ b ⟨r,he,a,c⟩=>⟨r,he,a,hR r _ (V.QP b a) c⟩⟩
structure JO where
 ids:List Nat
 B:Nat->Prop
section
variable (n:Nat) (V0:View) (bO:JO) (β0:Nat->Nat)
structure Mod (st:St) (β:Nat->Nat) (a:Act) (w:World) (V:View):Prop where
 defers:a.defers=[]
 size:a.tmps.size=n
 ax:∀t x,st.ax t=some x->a.tmps.getD t undef=x.den β
 Cr:∀t x,st.ax t=some x->∀s∈x.ids,∃b,st.boxes s=some b
 Cq:∀s b,st.boxes s=some b->∀s'∈b.cs.ids,∃b',st.boxes s'=some b'
 boxes:∀s b,st.boxes s=some b->b.live->w.heap[β s]?=some (b.obj β)
 inj:∀s s' b b',st.boxes s=some b->b.live->st.boxes s'=some b'->b'.live->β s=β s'->s=s'
 qW:∀b o,V.a_ b o->w.heap[b]?=some o/\¬V0.H b
 xM:∀s b,st.boxes s=some b->b.live->∀o,¬V.a_ (β s) o
 ext:ir V0.X V0.w w
 own:∀s b,st.boxes s=some b->b.live->V0.w.heap.size<=β s\/(100000<=s/\bO.B (β s))
 nH:∀s∈bO.ids,(100000<=s/\s<200000)/\β s=β0 s
 me:∀b,bO.B b->V0.X b
 small:n<=100000
end
theorem dJ {cs:pz C}{ty:TypeId}:aV.live ⟨.lit cs,ty⟩:=λ_ h=>nomatch h
theorem dK {vs:pz un}{ty:TypeId}:aV.live ⟨.row vs,ty⟩:=λ_ h=>nomatch h
theorem fX {vs:pz un}{ty:TypeId}(h:vs≠[]):aV.live ⟨.aB vs,ty⟩:=λ_ e=>by cases e;exact h
theorem fN {ty:TypeId}:¬aV.live ⟨.aB [],ty⟩:=λh=>h [] rfl rfl
theorem ke {b:aV}{k:Prop}:ue (OX b) k↔(b.live->k):=by
 obtain ⟨cs,ty⟩:=b
 cases cs with
 | lit cs=>exact ⟨λh _=>h,λh=>h dJ⟩
 | row cs=>exact ⟨λh _=>h,λh=>h dK⟩
 | aB vs=>exact ⟨λh l=>h (l vs rfl),λh l=>h (fX l)⟩
theorem wV {l m:pz Prop}{k:Prop}:ue (l++m) k↔ue l (ue m k):=by
 induction l with
 | nil=>exact Iff.rfl
 | cons p r ih=>exact ⟨λh a=>ih.1 (h a),λh a=>ih.2 (h a)⟩
def T6 {b:aV}:gdP b↔b.live:=by
 obtain ⟨cs,ty⟩:=b
 cases cs with
 | lit cs=>exact ⟨λ_=>dJ,λ_=>trivial⟩
 | row cs=>exact ⟨λ_=>dK,λ_=>trivial⟩
 | aB vs=>exact ⟨λh=>fX h,λl=>l vs rfl⟩
theorem C.bT {β β':Nat->Nat}{c:C}(h:∀s∈c.ids,β s=β' s):c.den β=c.den β':=by
 cases c with
 | v x=>rfl
 | w x=>rfl
 | tt=>rfl
 | ff=>rfl
 | ptr s o=>simp [C.den,h s (by simp [C.ids])]
 | oF s o n c=>simp [C.den,h s (by simp [C.ids])]
 | eM s n c=>simp [C.den,h s (by simp [C.ids])]
 | Ck f ss=>
  have:(ss.map λs=>Value.pointer (some ⟨β s,0,none⟩))=ss.map λs=>Value.pointer (some ⟨β' s,0,none⟩):=
   Qv2 λs a=>by rw [h s (by simpa [C.ids] using a)]
  simp only [C.den,this]
theorem nV {β β':Nat->Nat}{cs:pz C}(h:∀s∈cs.flatMap C.ids,β s=β' s):cs.map (C.den β)=cs.map (C.den β'):=
 Qv2 λc a=>C.bT λs b=>h s (Qy4.2 ⟨c,a,b⟩)
def CO {β β':Nat->Nat}{x:md×pz C}(h:∀s∈x.2.flatMap C.ids,β s=β' s):j9 β x=j9 β' x:=by
 obtain ⟨b,cs⟩:=x
 cases b with
 | true=>simp only [j9];rw [nV h]
 | false=>
  match cs,h with
  | [],_=>rfl
  | [c],h=>simp only [j9];exact C.bT λs a=>h s (by simpa using a)
  | _::_::_,_=>rfl
theorem SV.bT {β β':Nat->Nat}{x:SV}(h:∀s∈x.ids,β s=β' s):x.den β=x.den β':=by
 cases x with
 | c x=>exact C.bT h
 | agg cs=>simp only [SV.den];rw [nV h]
 | vk xs=>
  simp only [SV.den];congr 2;exact Qv2 λx a=>CO λs b=>h s (Qy4.2 ⟨x,a,b⟩)
theorem Cells.bT {β β':Nat->Nat}{x:Cells}(h:∀s∈x.ids,β s=β' s):x.den β=x.den β':=by
 cases x with
 | lit cs=>exact nV h
 | row vs=>rfl
 | aB vs=>rfl
theorem aV.dD {β β':Nat->Nat}{x:aV}(h:∀s∈x.cs.ids,β s=β' s):x.obj β=x.obj β':=by
 simp only [aV.obj];rw [Cells.bT h]
variable {P:Program} {T:d_} {n:Nat} {V0:View} {bO:JO} {β0:Nat->Nat} {st:St} {β:Nat->Nat} {a:Act} {w:World} {V:View}
theorem Mod.eval (h:Mod n V0 bO β0 st β a w V){x:Operand}{v:SV}(hx:st.bz x=some v):a.eval x=v.den β:=by
 cases x with
 | tmp t=>exact h.ax t v hx
 | const c=>
  simp only [St.bz,Qw1] at hx;subst hx;simp only [Act.eval];unfold SV.ofConst;split
  ·rfl
  ·rfl
  ·rename_i cs;simp only [SV.den];congr 1
   have:∀l:pz un,(l.map C.ofConst).map (C.den β)=l:=by
    intro l
    induction l with
    | nil=>rfl
    | cons y r ih=>
     simp only [Qn3,ih];congr 1;unfold C.ofConst;split<;>rfl
   rw [this]
  ·rfl
 | global g=>simp only [St.bz,Qw1] at hx;subst hx;rfl
 | func f=>simp only [St.bz,Qw1] at hx;subst hx;simp [Act.eval,SV.den,C.den]
def Mod.live (h:Mod n V0 bO β0 st β a w V){x:Operand}{v:SV}(hx:st.bz x=some v):∀s∈v.ids,∃b,st.boxes s=some b:=by
 cases x with
 | const c=>
  simp only [St.bz,Qw1] at hx;subst hx;intro s d;exfalso
  have e:∀y,(C.ofConst y).ids=[]:=by
   intro y;unfold C.ofConst;split<;>rfl
  unfold SV.ofConst at d;grind [SV.ids,C.ids]
 | _=>grind [h.Cr,St.bz,SV.ids,C.ids]
def beq_eq {a b:Nat}:Nat.beq a b=true↔a=b:=by
 constructor
 ·exact Nat.eq_of_beq_eq_true
 ·intro h;subst h;exact Qv8 a
theorem eI (st:St)(d:Nat)(x:SV)(t:Nat):(st.put (some d) x).ax t=if t=d then some x else st.ax t:=by grind [St.put,Nat.beq_refl,beq_eq.1]
theorem aj (st:St)(s:Nat)(b:aV)(t:Nat):(st.box s b).boxes t=if t=s then some b else st.boxes t:=by grind [St.box,Nat.beq_refl,beq_eq.1]
def HM (l:Array un)(d t:Nat)(v:un)(hd:d<l.size):(l.setIfInBounds d v).getD t undef=if t=d then v else l.getD t undef:=by
 by_cases h:t=d
 ·subst h;simp [hd]
 ·simp [h,Ne.symm h]
theorem Mod.put (h:Mod n V0 bO β0 st β a w V){d:Nat}{x:SV}{v:un}(hd:d<n)(hv:v=x.den β)(hl:∀s∈x.ids,∃b,st.boxes s=some b) :
  Mod n V0 bO β0 (st.put (some d) x) β (a.put (some d) v) w V where
 defers:=h.defers
 size:=by simp [Act.put,h.size]
 ax:=by
  intro t y c;rw [eI] at c;show (a.tmps.setIfInBounds d v).getD t undef=_;rw [HM _ _ _ _ (by rw [h.size];exact hd)];grind [h.ax]
 Cr:=by
  intro t y c;rw [eI] at c;split at c
  ·simp only [Qw1] at c;rw [←c];exact hl
  ·exact h.Cr t y c
 Cq:=h.Cq
 boxes:=h.boxes
 inj:=h.inj
 qW:=h.qW
 xM:=h.xM
 ext:=h.ext
 own:=h.own
 nH:=h.nH
 me:=h.me
 small:=h.small
def Mod.Iy (h:Mod n V0 bO β0 st β a w V){d:Option Nat}{x:SV}{v:un}(hd:∀k,d=some k->k<n)(hv:v=x.den β)(hl:∀s∈x.ids,∃b,st.boxes s=some b) :
  Mod n V0 bO β0 (st.put d x) β (a.put d v) w V:=by
 cases d with
 | none=>exact h
 | some d=>exact h.put (hd d rfl) hv hl
def Mod.drew (h:Mod n V0 bO β0 st β a w V):Mod n V0 bO β0 st β a { w with drawn:=w.drawn+1 } V:=
 ⟨h.defers,h.size,h.ax,h.Cr,h.Cq,h.boxes,h.inj,h.qW,h.xM,⟨h.ext.size,h.ext.a_,h.ext.os,h.ext.tape,h.ext.out,Nat.le_succ_of_le h.ext.dr⟩,h.own,h.nH,h.me,h.small⟩
def aF {w:World}{b:Nat}{o:Obj}(h:w.heap[b]?=some o):b<w.heap.size:=by grind
theorem fk (w:World)(o:Obj){b:Nat}(h:b<w.heap.size):(w.alloc o).heap[b]?=w.heap[b]?:=by
 show (w.heap.push o)[b]?=_;grind
def heap_alloc_new (w:World)(o:Obj):(w.alloc o).heap[w.heap.size]?=some o:=by
 show (w.heap.push o)[w.heap.size]?=_;rw [Array.getElem?_push,if_pos rfl]
theorem aZ (β:Nat->Nat)(s b:Nat):dh β s b s=b:=by simp [dh,Qv8]
theorem iK (β:Nat->Nat){s t:Nat}(b:Nat)(h:t≠s):dh β s b t=β t:=by
 have:Nat.beq t s=false:=by grind [beq_eq.1]
 simp [dh,this]
def Mod.new (h:Mod n V0 bO β0 st β a w V){d:Nat}{b:aV}(hd:d<n)(hn:st.boxes d=none)(hl:∀s∈b.cs.ids,∃b',st.boxes s=some b') :
  Mod n V0 bO β0 (st.box d b) (dh β d w.heap.size) a (w.alloc (b.obj β)) V:=by
 have r:∀s b',st.boxes s=some b'->s≠d:=λs b' c e=>by rw [e,hn] at c;cases c
 have hβ:∀s b',st.boxes s=some b'->dh β d w.heap.size s=β s:=λs b' c=>iK _ _ (r s b' c);have f:∀s b',st.boxes s=some b'->b'.live->β s<w.heap.size:=λs b' c l=>aF (h.boxes s b' c l);have A:∀b' o,V.a_ b' o->b'<w.heap.size:=λb' o B=>aF (h.qW b' o B).1;refine ⟨h.defers,h.size,?_,?_,?_,?_,?_,?_,?_,?_,?_,?_,h.me,?_⟩
 ·intro t x m;rw [h.ax t x m];exact SV.bT λs c=>by have ⟨b',g⟩:=h.Cr t x m s c;exact (hβ s b' g).symm
 ·intro t x m s c;have ⟨b',g⟩:=h.Cr t x m s c;grind [aj]
 ·grind [aj,h.Cq]
 ·intro s b' c l;rw [aj] at c;split at c
  ·rename_i e;simp only [Qw1] at c;rw [e,aZ,heap_alloc_new,←c];grind [aV.dD]
  ·rw [hβ s b' c,fk _ _ (f s b' c l),h.boxes s b' c l];grind [aV.dD,h.Cq]
 ·intro s u v y j C k D he;rw [aj] at j k;split at j<;>split at k
  ·rename_i p q;rw [p,q]
  ·rename_i p q;rw [p,aZ,hβ u y k] at he;have:=f u y k D;omega
  ·rename_i p q;rw [q,aZ,hβ s v j] at he;have:=f s v j C;omega
  grind [h.inj]
 ·grind [h.qW,fk]
 ·intro s b' c l o z;rw [aj] at c;split at c
  ·rename_i e;rw [e,aZ] at z;have:=A _ o z;omega
  grind [h.xM]
 ·exact h.ext.m ⟨by simp,λi E _=>fk _ _ E,rfl,rfl,rfl,Qq2 _⟩
 ·intro s b' c l;rw [aj] at c;split at c
  ·rename_i e;rw [e,aZ];exact .inl h.ext.size
  ·rw [hβ s b' c];exact h.own s b' c l
 ·intro s c;have ⟨j,k⟩:=h.nH s c;grind [iK,h.small]
 ·exact h.small
def Mod.void (h:Mod n V0 bO β0 st β a w V){s:Nat}{ty:TypeId}:Mod n V0 bO β0 (st.box s ⟨.aB [],ty⟩) β a w V:=by
 have hw:∀t b,st.boxes t=some b->∃b'',(st.box s ⟨.aB [],ty⟩).boxes t=some b'':=by grind [aj]
 have e:∀t b,(st.box s ⟨.aB [],ty⟩).boxes t=some b->b.live->st.boxes t=some b:=by grind [aj,fN]
 refine ⟨h.defers,h.size,h.ax,?_,?_,λt b c l=>h.boxes t b (e t b c l) l,λt k m o p i q j=>h.inj t k m o (e _ _ p i) i (e _ _ q j) j,h.qW,λt b c l=>h.xM t b (e t b c l) l,h.ext,λt b c l=>h.own t b (e t b c l) l,h.nH,h.me,h.small⟩
 ·intro t x r f d;have ⟨b,g⟩:=h.Cr t x r f d;exact hw f b g
 ·intro t b c f d
  have:∃b'',st.boxes f=some b'':=by
   rw [aj] at c;split at c
   ·cases c;cases d
   grind [h.Cq]
  grind
def Mod.xU (h:Mod n V0 bO β0 st β a w V){s:Nat}{b b':aV}(hs:st.boxes s=some b)(lb:b.live)(hl:∀s'∈b'.cs.ids,∃b'',st.boxes s'=some b'')
  {w':World}(hw:w'.heap=w.heap.setIfInBounds (β s) (b'.obj β))(ho:w'.os=w.os)(ht:w'.tape=w.tape)(hout:w'.output=w.output)(hdr:w.drawn<=w'.drawn:=by first|exact Qq2 _|exact Wj0 _) :
  Mod n V0 bO β0 (st.box s b') β a w' V:=by
 have l:=aF (h.boxes s b hs lb);have o:∀i,w'.heap[i]?=if i=β s then some (b'.obj β) else w.heap[i]?:=by grind
 refine ⟨h.defers,h.size,h.ax,?_,?_,?_,?_,?_,?_,?_,?_,h.nH,h.me,h.small⟩
 ·intro t x m s' g;have ⟨d,c⟩:=h.Cr t x m s' g;grind [aj]
 ·grind [aj,h.Cq]
 ·grind [aj,h.inj,h.boxes]
 ·intro t p d j q k r u he;have f:∀t d,(st.box s b').boxes t=some d->d.live->∃j,st.boxes t=some j/\j.live:=by grind [aj]
  grind [h.inj]
 ·grind [h.qW,h.xM]
 ·grind [aj,h.xM]
 ·refine ⟨by rw [hw];simpa using h.ext.size,λi v y=>?_,ho.m h.ext.os,ht.m h.ext.tape,hout.m h.ext.out,Qw8 h.ext.dr hdr⟩<;>grind [h.own,h.me,h.ext.a_]
 ·intro t d c k;rw [aj] at c;split at c
  ·rename_i e;rw [e];exact h.own s b hs lb
  ·exact h.own t d c k
end Go.Eng
namespace Go.Eng
variable {P:Program} {T:d_} {n:Nat} {V0:View} {bO:JO} {β0:Nat->Nat} {st:St} {β:Nat->Nat} {a:Act} {w:World} {V:View}
theorem fE:∀(sc:pz Prop)(k:Prop),EW sc k↔(∀p∈sc,p)/\k
 | [],k=>by simp [EW]
 | p::r,k=>by
  simp only [EW,fE r k,Qq6];constructor
  ·grind
  ·rintro ⟨h1,h2⟩;exact ⟨h1 p (.inl rfl),λq hq=>h1 q (.inr hq),h2⟩
def aJ {t:TypeId}{i:TI}(h:oh P t=some i):∃info d z,P.info? t=some info/\P.underlying t=some d/\info.zero=some z/\i.k=mw d/\i.size=info.size/\i.bytes=info.bytes/\i.zero=z.cells.toList.map C.ofConst:=by
 unfold oh at h;grind
theorem HD (β:Nat->Nat)(y:un):(C.ofConst y).den β=y:=by
 unfold C.ofConst;split<;>rfl
def Ih (β:Nat->Nat)(l:pz un):(l.map C.ofConst).map (C.den β)=l:=by induction l<;>grind [HD]
def HU (y:un):(C.ofConst y).ids=[]:=by unfold C.ofConst;split<;>rfl
def FE (l:pz un):(l.map C.ofConst).flatMap C.ids=[]:=by
 induction l with
 | nil=>rfl
 | cons y r ih=>simp [HU]
def ai {t:TypeId}{d:TypeDesc}(h:P.underlying t=some d)(w:World):(underlying t).run P w=.ok d w:=by simp [underlying,h]
def mq {t:TypeId}{i:TypeInfo}(h:P.info? t=some i)(w:World):(typeInfo t).run P w=.ok i w:=by simp [typeInfo,h]
def aQ {t:TypeId}{i:TypeInfo}(h:P.info? t=some i)(w:World):(sizeOf t).run P w=.ok i.size w:=by simp [sizeOf,mq h]
def kv {t:TypeId}{i:TypeInfo}{z:un}(h:P.info? t=some i)(hz:i.zero=some z)(w:World):(zeroValue t).run P w=.ok z w:=by
 simp [zeroValue,mq h,hz]
def vq:TK->Bool
 | .struct _|.arr _ _=>true
 | _=>false
def je {t:TypeId}{d:TypeDesc}(h:P.underlying t=some d)(w:World):(isAgg t).run P w=.ok (vq (mw d)) w:=by
 simp only [isAgg,Sem.run_bind,ai h,Result.andThen_ok];cases d<;>rfl
def Live (st:St)(x:SV):Prop:=∀s∈x.ids,∃b,st.boxes s=some b
theorem Er {k k':IntKind}(h:Aq k k'=true):k=k':=by cases k<;>cases k'<;>simp_all [Aq]
theorem KC {op:BinOp}{k:IntKind}{x y:Int}{sc:pz Prop}{v:SV}{xt:TypeId}(h:pQ op k x y=.ret sc v)(hsc:∀p∈sc,p) :
  (binOp op xt (.int k x) (.int k y)).run P w=.ok (v.den β) w/\v.ids=[]:=by
 cases op<;>simp only [pQ,Q.ret.injEq] at h<;>obtain ⟨rfl,rfl⟩:=h <;>
  simp only [Qq6,Qy0,or_false,forall_eq,false_imp_iff,implies_true] at hsc <;>
  refine ⟨?_,rfl⟩ <;>
  simp [binOp,Op.intArith,Op.intDiv,Op.intBits,Op.intCmp,Op.shift,SV.den,C.den,bW,hsc]
 all_goals (try (intro h;omega))
theorem OE {op:BinOp}{k k':IntKind}{x y:Int}{sc:pz Prop}{v:SV}{xt:TypeId}(hop:op=.shl\/op=.shr)(h:pQ op k x y=.ret sc v)(hsc:∀p∈sc,p) :
  (binOp op xt (.int k x) (.int k' y)).run P w=.ok (v.den β) w/\v.ids=[]:=by
 rcases hop with rfl|rfl<;>simp only [pQ,Q.ret.injEq] at h<;>obtain ⟨rfl,rfl⟩:=h <;>
  simp only [Qq6,Qy0,or_false,forall_eq] at hsc <;>
  refine ⟨?_,rfl⟩ <;>
  simp [binOp,Op.shift,SV.den,C.den]<;>(intro h;omega)
section eqs
variable {t:TypeId} (d:Nat)
def NJ (h:P.underlying t=some .bool)(x y:md):(Op.equalIn (d+1) t (.bool x) (.bool y)).run P w=.ok (x==y) w:=by
 simp [Op.equalIn,ai h]
def Ef {e:TypeId}(h:P.underlying t=some (.pointer e))(p:OA):(Op.equalIn (d+1) t (.pointer p) (.pointer none)).run P w=.ok p.isNone w:=by
 cases p<;>simp [Op.equalIn,ai h]
def sf {e:TypeId}(h:P.underlying t=some (.slice e))(p:OA)(n c m k:Nat):(Op.equalIn (d+1) t (.slice p n c) (.slice none m k)).run P w=.ok p.isNone w:=by
 cases p<;>simp [Op.equalIn,ai h]
def Ab {ms:Array (String×TypeId)}(h:P.underlying t=some (.interface ms)){x:un}(hx:IsIface x):(Op.equalIn (d+1) t x .nilIface).run P w=.ok (gy x) w:=by
 rcases hx with rfl|⟨u,v,rfl⟩<;>simp [Op.equalIn,ai h,gy]
end eqs
def l_ {t:TypeId}{x y:un}{r:md}(h:∀d,(Op.equalIn (d+1) t x y).run P w=.ok r w):(Op.equal t x y).run P w=.ok r w:=h 9999
def G_ {op:BinOp}{xt:TypeId}{x y:md}(ht:P.underlying xt=some .bool)(hop:op=.eql\/op=.neq) :
  (binOp op xt (.bool x) (.bool y)).run P w=.ok (.bool (if op=.eql then x==y else !(x==y))) w:=by
 have:=l_ (w:=w) λd=>NJ d ht x y;rcases hop with rfl|rfl<;>simp only [binOp,Sem.run_bind,this,Result.andThen_ok,Sem.run_pure]<;>rfl
def DS {c:C}{b:md}(h:c.bool?=some b):c.den β=.bool b/\c.ids=[]:=by
 cases c with
 | v x=>cases x<;>simp_all [C.bool?,C.den,C.ids]
 | _=>simp_all [C.bool?,C.den,C.ids]
def HF {d:TypeDesc}{k:IntKind}(h:mw d=.int k):d=.int k:=by cases d<;>simp_all [mw]
def Fs {d:TypeDesc}(h:mw d=.bool):d=.bool:=by cases d<;>simp_all [mw]
def HG {d:TypeDesc}{e:TypeId}(h:mw d=.ptr e):d=.pointer e:=by cases d<;>simp_all [mw]
def bf {d:TypeDesc}{e:TypeId}(h:mw d=.slice e):d=.slice e:=by cases d<;>simp_all [mw]
def CP {d:TypeDesc}(h:mw d=.iface):∃ms,d=.interface ms:=by cases d<;>simp_all [mw]
def kL {d:TypeDesc}{fs:pz (TypeId×Nat)}(h:mw d=.struct fs):∃gs,d=.struct gs/\fs=gs.toList.map λf=>(f.type,f.offset):=by
 cases d<;>simp_all [mw]
def pK {d:TypeDesc}{m:Nat}{e:TypeId}(h:mw d=.arr m e):d=.array m e:=by cases d<;>simp_all [mw]
def kE {t:TypeId}{x y:un}{r:md}(neg:md)(h:(Op.equal t x y).run P w=.ok r w)
  (hx:(∃p,x=.pointer p/\y=.pointer none)\/(∃p n c m k,x=.slice p n c/\y=.slice none m k)\/(IsIface x/\y=.nilIface)) :
  (binOp (if neg then .neq else .eql) t x y).run P w=.ok (.bool (if neg then !r else r)) w:=by
 rcases hx with ⟨p,rfl,rfl⟩|⟨p,n,c,m,k,rfl,rfl⟩|⟨hx,rfl⟩
 ·cases p<;>cases neg<;>simp only [Qk9,if_false,if_true,binOp,Sem.run_bind,h,Result.andThen_ok,Sem.run_pure]
 ·cases neg<;>simp only [Qk9,if_false,if_true,binOp,Sem.run_bind,h,Result.andThen_ok,Sem.run_pure]
 ·rcases hx with rfl|⟨u,v,rfl⟩<;>cases neg<;>simp only [Qk9,if_false,if_true,binOp,Sem.run_bind,h,Result.andThen_ok,Sem.run_pure]
def su {op:BinOp}{t:TypeId}{x y:Operand}{u v:un}(h:(∃p,u=.pointer p)\/(∃p n c,u=.slice p n c)\/(∃k n,u=.int k n)\/(∃b,u=.bool b)\/∃c,y=.const c)(hn:v=.nilIface->∃c,y=.const c)(hu:∀cs,u≠.agg cs) :
  (eqGuard op t x y u v).run P w=.ok () w:=by
 have key:∀(m:Sem Unit),m=(match (generalizing:=false) u,v with
   | .nilIface,.nilIface=>do
    if (match (generalizing:=false) x with|.const _=>true|_=>false)||(match (generalizing:=false) y with|.const _=>true|_=>false) then return
    if ← Op.eqGuardIn Op.maxDepth t u v then unsupported (.noEntry "binop/eql: two nil values of an interface type with methods, neither of them the literal nil")
   | .agg _,.agg _=>do
    if !(←program).eqGuardType (←program).depth t then return
    if ← Op.eqGuardIn Op.maxDepth t u v then unsupported (.noEntry "binop/eql: two nil values of an interface type with methods, in a part of a struct or an array")
   | _,_=>pure ())->m.run P w=.ok () w:=by
  intro m hm;rw [hm];clear hm;revert hn hu;split
  ·intro hn _;obtain ⟨c,rfl⟩:=hn rfl;simp
  ·rename_i cs _;intro _ hu;exact absurd rfl (hu cs)
  ·intro _ _;rfl
 cases op<;>first|rfl|exact key _ rfl
def R5 {xt:TypeId}{i:TI}(hi:oh P xt=some i){x y:C}(neg:md){sc:pz Prop}{v:SV}
  (h:F6 neg i.k x y=.ret sc v)(hsc:∀p∈sc,p) :
  (binOp (if neg then .neq else .eql) xt (x.den β) (y.den β)).run P w=.ok (v.den β) w/\v.ids=[] /\
  ((∃p,x.den β=.pointer p)\/(∃p n c,x.den β=.slice p n c)\/y.den β=.nilIface)/\(y.den β=.nilIface->y=.v .nilIface)/\(∀cs,x.den β≠.agg cs):=by
 obtain ⟨info,d,z,j,b,l,g,-⟩:=aJ hi;unfold F6 at h;split at h
 ·rename_i e a;rw [g] at a;obtain rfl:=HG a;split at h
  ·split at h
   ·simp only [Q.ret.injEq] at h;obtain ⟨rfl,rfl⟩:=h;refine ⟨?_,by cases neg<;>rfl,.inl ⟨_,rfl⟩,by simp [C.den],by simp [C.den]⟩;rename_i s o;have:=kE (w:=w) neg (l_ λd=>Ef d b (some ⟨β s,o,none⟩)) (.inl ⟨_,rfl,rfl⟩);cases neg<;>exact this
   ·simp only [Q.ret.injEq] at h;obtain ⟨rfl,rfl⟩:=h;refine ⟨?_,rfl,.inl ⟨_,rfl⟩,by simp [C.den],by simp [C.den]⟩;exact kE (w:=w) neg (l_ λd=>Ef d b _) (.inl ⟨_,rfl,rfl⟩)
   ·cases h
  ·cases h
 ·rename_i e a;rw [g] at a;obtain rfl:=bf a;split at h
  ·split at h
   ·simp only [Q.ret.injEq] at h;obtain ⟨rfl,rfl⟩:=h;refine ⟨?_,by cases neg<;>rfl,.inr (.inl ⟨_,_,_,rfl⟩),by simp [C.den],by simp [C.den]⟩;rename_i m k _ s o n c;have:=kE (w:=w) neg (l_ λd=>sf d b (some ⟨β s,o,none⟩) n c m k) (.inr (.inl ⟨_,_,_,_,_,rfl,rfl⟩));cases neg<;>exact this
   ·simp only [Q.ret.injEq] at h;obtain ⟨rfl,rfl⟩:=h;refine ⟨?_,rfl,.inr (.inl ⟨_,_,_,rfl⟩),by simp [C.den],by simp [C.den]⟩;rename_i m k _ s n c;have:=kE (w:=w) neg (l_ λd=>sf d b (mA (β s) c) n c m k) (.inr (.inl ⟨_,_,_,_,_,rfl,rfl⟩));have e:(mA (β s) c).isNone=Nat.beq c 0:=by cases c<;>rfl
    rw [e] at this;exact this
   ·simp only [Q.ret.injEq] at h;obtain ⟨rfl,rfl⟩:=h;refine ⟨?_,rfl,.inr (.inl ⟨_,_,_,rfl⟩),by simp [C.den],by simp [C.den]⟩;exact kE (w:=w) neg (l_ λd=>sf d b _ _ _ _ _) (.inr (.inl ⟨_,_,_,_,_,rfl,rfl⟩))
   ·cases h
  ·cases h
 ·rename_i a;rw [g] at a;obtain ⟨ms,rfl⟩:=CP a;split at h
  ·split at h
   ·simp only [Q.ret.injEq] at h;obtain ⟨rfl,rfl⟩:=h;have f:=hsc _ (Qq5.2 rfl);refine ⟨?_,rfl,.inr (.inr rfl),λ_=>rfl,?_⟩
    ·exact kE (w:=w) neg (l_ λd=>Ab d b f) (.inr (.inr ⟨f,rfl⟩))
    ·intro cs e;rcases f with f|⟨u,v,f⟩<;>· simp only [C.den] at e;rw [f] at e;cases e
   ·simp only [Q.ret.injEq] at h;obtain ⟨rfl,rfl⟩:=h;refine ⟨?_,by cases neg<;>rfl,.inr (.inr rfl),λ_=>rfl,by simp [C.den]⟩;have:=kE (w:=w) neg (l_ λd=>Ab d b (x:=.nilIface) (.inl rfl)) (.inr (.inr ⟨.inl rfl,rfl⟩));cases neg<;>exact this
   ·cases h
  ·cases h
 ·cases h
def R3 (hT:d_.ok P T){op:BinOp}{xt:TypeId}{x y:C}{ox oy:Operand}{sc:pz Prop}{v:SV}
  (h:F4 T op xt x y=.ret sc v)(hsc:∀p∈sc,p)(hy:y=.v .nilIface->∃c,oy=.const c) :
  (do eqGuard op xt ox oy (x.den β) (y.den β);binOp op xt (x.den β) (y.den β)).run P w=.ok (v.den β) w/\v.ids=[]:=by
 unfold F4 at h;split at h
 ·rename_i i f;have f:=hT _ _ f;obtain ⟨info,d,z,u,j,A,o,-⟩:=aJ f;split at h
  ·split at h
   ·rename_i k a l b
    have g:(eqGuard op xt ox oy (C.den β (.v (.int k a))) (C.den β (.v (.int l b)))).run P w=.ok () w:=
     su (.inr (.inr (.inl ⟨_,_,rfl⟩))) (by simp [C.den]) (by simp [C.den])
    have key:(binOp op xt (.int k a) (.int l b)).run P w=.ok (v.den β) w/\v.ids=[]:=by grind [OE,Er,KC]
    simp only [Sem.run_bind,g,Result.andThen_ok];exact key
   ·cases h
  ·rename_i m;rw [o] at m;obtain rfl:=Fs m;split at h
   ·rename_i a b q r;have n:=DS (β:=β) q;have hy:=DS (β:=β) r
    have g:(eqGuard op xt ox oy (x.den β) (y.den β)).run P w=.ok () w:=by
     rw [n.1,hy.1];exact su (.inr (.inr (.inr (.inl ⟨_,rfl⟩)))) (by simp) (by simp)
    simp only [Sem.run_bind,g,Result.andThen_ok];rw [n.1,hy.1];split at h
    ·simp only [Q.ret.injEq] at h;obtain ⟨rfl,rfl⟩:=h;exact ⟨G_ j (.inl rfl),rfl⟩
    ·simp only [Q.ret.injEq] at h;obtain ⟨rfl,rfl⟩:=h;exact ⟨G_ j (.inr rfl),rfl⟩
    ·cases h
   ·cases h
  ·have key:∀neg:md,F6 neg i.k x y=.ret sc v->(do eqGuard (if neg then .neq else .eql) xt ox oy (x.den β) (y.den β);binOp (if neg then .neq else .eql) xt (x.den β) (y.den β)).run P w=.ok (v.den β) w/\v.ids=[]:=by
    intro neg h;have ⟨B,D,E,s,t⟩:=R5 (w:=w) (β:=β) f neg h hsc;have g:(eqGuard (if neg then BinOp.neq else BinOp.eql) xt ox oy (x.den β) (y.den β)).run P w=.ok () w:=by refine su ?_ (λe=>hy (s e)) t<;>grind
    grind [Sem.run_bind,Result.andThen_ok]
   grind
 ·cases h
end Go.Eng
