import Derived.WalkKit
import Derived.Deep.LoopGhost
import Derived.KernelRfl
abbrev Qq0:=@Int.toNat_natCast
abbrev Qq1:=@List.getElem?_eq_getElem
abbrev Qq2:=@List.length_append
abbrev Qq3:=@Nat.le_refl
abbrev Qq4:=@Option.some.injEq
abbrev Qq5:=@List.length_take
abbrev Qq6:=@List.mem_cons
abbrev Qq7:=@Nat.mul_le_mul_right
abbrev Qq8:=@List.mem_cons_of_mem
abbrev Qq9:=@Nat.zero_le
abbrev Qw0:=@Int.eq_ofNat_of_zero_le
abbrev Qw1:=@List.drop_eq_getElem_cons
abbrev Qw2:=@List.mem_append
abbrev Qw3:=@List.getD_eq_getElem?_getD
abbrev Qw4:=@List.length_eq_zero_iff
abbrev Qw5:=@List.flatMap_cons
abbrev Qw6:=@List.mem_flatMap
abbrev Qw7:=@List.getElem_mem
abbrev Qw8:=@List.getElem?_append_left
abbrev Qw9:=@List.getElem?_eq_some_iff
abbrev Qx0:=@List.mem_singleton
abbrev Qx1:=@List.drop_of_length_le
abbrev Qx2:=@List.length_cons
abbrev Qx3:=@Nat.pow_le_pow_right
abbrev Qx4:=@Int.natAbs_natCast
abbrev Qx5:=@Bool.and_eq_true
abbrev Qx6:=@Nat.le_trans
abbrev Qx7:=@Nat.lt_of_lt_of_le
abbrev Qx8:=@Nat.eq_zero_or_pos
abbrev Qx9:=@Nat.mod_eq_of_lt
abbrev Qy0:=@List.getElem?_append_right
abbrev Qy1:=@List.take_succ_eq_append_getElem
abbrev Qy2:=@Nat.zero_add
abbrev Qy3:=@List.getElem?_take
abbrev Qy4:=@List.append_assoc
abbrev Qy5:=@List.mem_map
abbrev Qy6:=@Nat.mul_le_mul_left
abbrev Qy7:=@Bool.not_eq_true'
abbrev Qy8:=@Nat.min_eq_left
abbrev Qy9:=@Nat.lt_or_ge
abbrev Qz0:=@List.length_drop
abbrev Qz1:=@Nat.pow_add
abbrev Qz2:=@Nat.add_zero
abbrev Qz3:=@Bool.eq_iff_iff
abbrev Qz4:=@List.all_eq_true
abbrev Qz5:=@List.append_nil
abbrev Qz6:=@Nat.add_mul
abbrev Qz7:=@Int.tmod_eq_emod_of_nonneg
abbrev Qz8:=@Nat.two_pow_pos
abbrev Qz9:=@Bool.false_eq_true
abbrev Qk0:=@Nat.pow_succ
abbrev Qk1:=@List.not_mem_nil
abbrev Qk2:=@List.take_length
abbrev Qk3:=@Nat.mul_assoc
abbrev Qk4:=@Nat.beq_refl
abbrev Qk5:=@Nat.le_of_ble_eq_true
abbrev Qk6:=@List.getElem?_eq_none
abbrev Qk7:=@List.cons.injEq
abbrev Qk8:=@Nat.mul_one
abbrev Qk9:=@List.pairwise_cons
abbrev Qj0:=@Int.tdiv_eq_ediv_of_nonneg
abbrev Qj1:=@List.length_map
abbrev Qj2:=@List.mem_append_left
abbrev Qj3:=@BitVec.ofInt_natCast
abbrev Qj4:=@List.take_append_drop
abbrev Qj5:=@List.getElem?_drop
abbrev Qj6:=@Nat.gcd_dvd_left
abbrev Qj7:=@Nat.add_sub_cancel
abbrev Qj8:=@List.map_congr_left
abbrev Qj9:=@List.length_nil
abbrev Qv0:=@Nat.mul_add
abbrev Qv1:=@Nat.add_assoc
abbrev Qv2:=@Nat.mul_zero
abbrev Qv3:=@Nat.div_eq_of_lt
abbrev Qv4:=@Nat.mul_ne_zero
abbrev Qv5:=@List.mem_cons_self
abbrev Qv6:=@BitVec.toNat_ofNat
abbrev Qv7:=@Nat.div_lt_iff_lt_mul
abbrev Qv8:=@Bool.not_eq_false'
abbrev Qv9:=@List.mem_of_getElem?
abbrev Qb0:=@List.take_append_getElem
abbrev Qb1:=@Nat.sub_add_cancel
abbrev Qb2:=@Nat.mod_lt
abbrev Qb3:=@List.drop_set_of_lt
abbrev Qb4:=@Nat.gcd_dvd_right
abbrev Qb5:=@Array.mk.injEq
abbrev Qb6:=@List.pairwise_iff_getElem
abbrev Qb7:=@List.mem_of_mem_take
abbrev Qb8:=@List.take_of_length_le
abbrev Qb9:=@List.map_cons
abbrev Qn0:=@Array.getElem?_setIfInBounds
abbrev Qn1:=@Prod.mk.injEq
abbrev Qn2:=@Nat.lt_of_le_of_lt
abbrev Qn3:=@List.nil_append
abbrev Qn4:=@List.mem_append_right
abbrev Qn5:=@Int.natCast_mul
abbrev Qn6:=@Array.ext'
abbrev Qn7:=@Nat.mul_comm
abbrev Qn8:=@Array.getElem?_eq_none
abbrev Qn9:=@List.mem_filter
abbrev Qm0:=@Option.some.inj
abbrev Qm1:=@Int.natAbs_mul
abbrev Qm2:=@Rat.intCast_mul
abbrev Qm3:=@Nat.one_mul
abbrev Qm4:=@Nat.succ_mul
abbrev Qm5:=@List.length_singleton
abbrev Qm6:=@List.drop_drop
abbrev Qm7:=@Nat.mul_le_mul
abbrev Qm8:=@List.foldl_cons
abbrev Qm9:=@List.map_append
abbrev Qc0:=@Nat.mul_lt_mul_of_pos_right
abbrev Qc1:=@Nat.div_le_self
abbrev Qc2:=@Rat.num_eq_zero
abbrev Qc3:=@Nat.add_sub_cancel_left
abbrev Qc4:=@Array.toList_map
abbrev Qc5:=@Option.getD_some
abbrev Qc6:=@List.flatMap_append
abbrev Qc7:=@List.take_zero
abbrev Qc8:=@List.getElem_append_right
abbrev Qc9:=@Bool.not_eq_eq_eq_not
abbrev Qd0:=@Nat.zero_mul
abbrev Qd1:=@Bool.or_eq_true
abbrev Qd2:=@Nat.div_add_mod
abbrev Qd3:=@List.set_eq_of_length_le
abbrev Qd4:=@Nat.xor_lt_two_pow
abbrev Qd5:=@List.mem_of_mem_drop
abbrev Qd6:=@Int.natAbs_neg
abbrev Qd7:=@List.getElem?_map
abbrev Qd8:=@Nat.not_lt_zero
abbrev Qd9:=@Int.sign_eq_one_of_pos
abbrev Qf0:=@Int.sign_eq_neg_one_of_neg
abbrev Qf1:=@List.cons_append
abbrev Qf2:=@Nat.add_comm
abbrev Qf3:=@Nat.mul_div_cancel
abbrev Qf4:=@List.getElem_set_self
abbrev Qf5:=@Nat.gcd_zero_right
abbrev Qf6:=@Nat.one_lt_two_pow
abbrev Qf7:=@Rat.mkRat_one
abbrev Qf8:=@Nat.testBit_eq_decide_div_mod_eq
abbrev Qf9:=@Nat.add_mul_div_left
abbrev Qg0:=@List.getElem?_set_ne
abbrev Qg1:=@List.mem_iff_getElem
abbrev Qg2:=@List.pairwise_append
abbrev Qg3:=@Option.isSome_iff_exists
abbrev Qg4:=@List.eq_of_mem_replicate
abbrev Qg5:=@Nat.mod_add_div
abbrev Qg6:=@Nat.add_left_comm
abbrev Qg7:=@List.getElem_drop
abbrev Qg8:=@Int.mul_ediv_cancel_left
abbrev Qg9:=@Rat.intCast_add
abbrev Qh0:=@List.getElem_append_left
abbrev Qh1:=@List.take_add_one
abbrev Qh2:=@Nat.gcd_comm
abbrev Qh3:=@Nat.gcd_eq_zero_iff
abbrev Qh4:=@List.getElem_of_mem
abbrev Qh5:=@List.any_eq_true
abbrev Qh6:=@Nat.and_lt_two_pow
abbrev Qh7:=@Option.map_some
abbrev Qh8:=@Nat.le_of_lt
abbrev Qh9:=@Nat.le_div_iff_mul_le
abbrev Qp0:=@Int.natAbs_dvd_natAbs
abbrev Qp1:=@Rat.mul_eq_zero
abbrev Qp2:=@Int.fdiv_eq_ediv_of_nonneg
abbrev Qp3:=@List.take_take
abbrev Qp4:=@Int.sign_eq_zero_iff_zero
abbrev Qp5:=@Rat.mkRat_self
abbrev Qp6:=@Classical.byContradiction
abbrev Qp7:=@Nat.mul_lt_mul''
abbrev Qp8:=@List.filter_cons
abbrev Qp9:=@List.replicate_succ
abbrev Qr0:=@List.take_replicate
abbrev Qr1:=@Nat.pow_pos
abbrev Qr2:=@List.set_eq_take_append_cons_drop
abbrev Qr3:=@List.getElem?_replicate
abbrev Qr4:=@Rat.num_mkRat
abbrev Qr5:=@Rat.sub_eq_add_neg
abbrev Qr6:=@Nat.dvd_trans
abbrev Qr7:=@Rat.mul_inv_cancel
abbrev Qr8:=@Rat.num_intCast
abbrev Qr9:=@List.filter_append
abbrev Qs0:=@List.getElem?_set_self
abbrev Qs1:=@Int.natAbs_ediv_of_dvd
abbrev Qs2:=@List.getElem_cons_zero
abbrev Qs3:=@List.drop_eq_nil_of_le
abbrev Qs4:=@List.filter_eq_nil_iff
abbrev Qs5:=@List.ext_getElem?
abbrev Qs6:=@Nat.gcd_zero_left
abbrev Qs7:=@Int.one_mul
abbrev Qs8:=@List.map_map
abbrev Qs9:=@Option.getD_none
abbrev Qt0:=@Nat.shiftLeft_add_eq_or_of_lt
abbrev Qt1:=@List.take_append_of_le_length
abbrev Qt2:=@List.length_dropLast
abbrev Qt3:=@List.take_set
abbrev Qt4:=@Rat.den_mkRat
abbrev Qt5:=@Nat.le_of_dvd
abbrev Qt6:=@Nat.lt_irrefl
abbrev Qt7:=@Nat.mul_eq_zero
abbrev Qt8:=@Nat.pow_mul
abbrev Qt9:=@Int.neg_mul
abbrev Wq0:=@Int.mul_neg
abbrev Wq1:=@Int.mul_lt_mul_of_pos_right
abbrev Wq2:=@Rat.intCast_inj
abbrev Wq3:=@Rat.mkRat_mul_mkRat
abbrev Wq4:=@Int.mul_eq_zero
abbrev Wq5:=@Int.lt_of_mul_lt_mul_right
abbrev Wq6:=@Nat.div_mul_cancel
abbrev Wq7:=@Nat.pos_of_ne_zero
abbrev Wq8:=@Int.natCast_nonneg
abbrev Wq9:=@Nat.one_le_two_pow
abbrev Ww0:=@Int.add_zero
abbrev Ww1:=@Array.mapM_eq_mapM_toList
abbrev Ww2:=@Nat.add_mul_mod_self_left
abbrev Ww3:=@List.getLastD_eq_getLast?
abbrev Ww4:=@List.flatten_cons
abbrev Ww5:=@Nat.or_lt_two_pow
abbrev Ww6:=@Nat.gcd_pos_of_pos_right
abbrev Ww7:=@Int.lt_trichotomy
abbrev Ww8:=@Classical.not_not
abbrev Ww9:=@List.map_take
abbrev Wx0:=@List.map_drop
abbrev Wx1:=@Nat.mul_pos
abbrev Wx2:=@Int.le_refl
abbrev Wx3:=@Nat.shiftLeft_eq
abbrev Wx4:=@BitVec.toNat_and
abbrev Wx5:=@Int.natCast_emod
abbrev Wx6:=@Rat.mkRat_eq_iff
abbrev Wx7:=@Ne.symm
abbrev Wx8:=@List.map_nil
abbrev Wx9:=@BitVec.toNat_or
abbrev Wy0:=@Nat.mul_add_div
abbrev Wy1:=@Nat.mul_add_mod
abbrev Wy2:=@Nat.zero_div
abbrev Wy3:=@Rat.mul_def'
abbrev Wy4:=@Nat.testBit_xor
abbrev Wy5:=@Nat.gcd_le_left
abbrev Wy6:=@Rat.intCast_sub
abbrev Wy7:=@Rat.intCast_neg
abbrev Wy8:=@Int.not_lt
abbrev Wy9:=@List.mapM_cons
abbrev Wz0:=@Nat.testBit_or
abbrev Wz1:=@Bool.and_false
abbrev Wz2:=@Rat.neg_num
abbrev Wz3:=@Rat.neg_den
abbrev Wz4:=@Rat.mul_one
abbrev Wz5:=@Prod.ext
set_option linter.unusedVariables false
open Go.IntKind (i64 u64 u32)
namespace Go.Eng
abbrev OA:=Option Addr
abbrev sm {α:Type}(a:α):Prop:=a=a
structure View where
 w:World
 H:Nat->Prop
 X:Nat->Prop
 hH:∀b,H b->b<w.heap.size
 hX:∀b,X b->H b
def View.bB (V:View)(b:Nat)(o:Obj):Prop:=¬V.H b/\V.w.heap[b]?=some o
def View.at (V:View)(p:Addr)(v:Value):Prop:=¬V.H p.block/\V.w.cell? p=some v
def View.Le (V V':View):Prop:=∀b o,V.bB b o->V'.bB b o
structure gV (X:Nat->Prop) (w w':World):Prop where
 size:w.heap.size<=w'.heap.size
 bB:∀b,b<w.heap.size->¬X b->w'.heap[b]?=w.heap[b]?
 os:w'.os=w.os
 tape:w'.tape=w.tape
 out:w'.output=w.output
def View.to (V:View)(w':World)(h:V.w.heap.size<=w'.heap.size):View:=⟨w',V.H,V.X,fun b hb=>Qx7 (V.hH b hb) h,V.hX⟩
def View.ay (V:View)(bs:List Nat):View:={ V with X:=fun b=>b∈bs/\V.H b,hX:=fun _ h=>h.2 }
def View.HY (V:View)(b:Nat):View:={ V with H:=fun x=>V.H x\/(x=b/\b<V.w.heap.size),hH:=fun x h=>h.elim (V.hH x) fun h=>h.1▸h.2,hX:=fun x h=>.inl (V.hX x h) }
def View.cp (V:View)(p:Prop)(b:Nat):View:={ V with H:=fun x=>V.H x\/(p/\x=b/\b<V.w.heap.size),hH:=fun x h=>h.elim (V.hH x) fun h=>h.2.1▸h.2.2,hX:=fun x h=>.inl (V.hX x h) }
def View.shut (V:View):View:={ V with X:=fun _=>False,hX:=fun _ h=>h.elim }
def jP (P : Program)(f : FuncId) : Prop := ∃ fn, P.funcs[f]? = some fn ∧ fn.body.isNone = false ∧ (fn.name == "runtime.NumGoroutine") = false
def aa (P:Program)(f:FuncId)(args:Array Value)(V:View)(R:Value->View->Prop):Prop:=
 jP P f/\Calls P f args V.w fun e w'=>∃r,e=.returned r/\∃hx:gV V.X V.w w',R r (V.to w' hx.size)
inductive C where
 | v (x:Value)|w (x:Value)|tt|ff
 | ptr (s o:Nat)
 | gH (s o n c:Nat)
 | eU (s n c:Nat)
 | jY (f:FuncId) (ss:List Nat)
inductive SV where
 | c (x:C)|agg (cs:List C)|oC (xs:List (Bool×List C))
inductive Cells where
 | lit (cs:List C)|row (vs:List Value)|aH (vs:List Value)
structure aP where
 cs:Cells
 ty:TypeId
def aP.live (b:aP):Prop:=∀vs,b.cs=.aH vs->vs≠[]
def G6 (b:aP):List Prop:=
 match b.cs with
 | .aH vs=>[vs≠[]]
 | _=>[]
def Rp (b:aP):Prop:=
 match b.cs with
 | .aH vs=>vs≠[]
 | _=>True
def oV:List Prop->Prop->Prop
 | [],k=>k
 | p::r,k=>p->oV r k
def mA (b c:Nat):OA:=if c=0 then none else some ⟨b,0,none⟩
structure St where
 ax:Nat->Option SV
 boxes:Nat->Option aP
def C.den (β:Nat->Nat):C->Value
 | .v x=>x
 | .w x=>x
 | .tt=>.bool true
 | .ff=>.bool false
 | .ptr s o=>.pointer (some ⟨β s,o,none⟩)
 | .gH s o n c=>.slice (some ⟨β s,o,none⟩) n c
 | .eU s n c=>.slice (mA (β s) c) n c
 | .jY f ss=>.func (.func f) #[] (ss.map fun s=>Value.pointer (some ⟨β s,0,none⟩)).toArray
def gY (β:Nat->Nat):Bool×List C->Value
 | (true,cs)=>.agg (cs.map (C.den β)).toArray
 | (false,[c])=>c.den β
 | (false,_)=>.tuple #[]
def qu:Bool×List C->Option SV
 | (true,cs)=>some (.agg cs)
 | (false,[c])=>some (.c c)
 | (false,_)=>none
def SV.den (β:Nat->Nat):SV->Value
 | .c x=>x.den β
 | .agg cs=>.agg (cs.map (C.den β)).toArray
 | .oC xs=>.tuple (xs.map (gY β)).toArray
def SV.cells:SV->List C
 | .c x=>[x]
 | .agg cs=>cs
 | .oC _=>[]
def Cells.den (β:Nat->Nat):Cells->List Value
 | .lit cs=>cs.map (C.den β)
 | .row vs=>vs
 | .aH vs=>vs
def aP.obj (β:Nat->Nat)(b:aP):Obj:=.cells (b.cs.den β).toArray b.ty (0,0)
def C.ids:C->List Nat
 | .ptr s _=>[s]
 | .gH s _ _ _=>[s]
 | .eU s _ _=>[s]
 | .jY _ ss=>ss
 | _=>[]
def SV.ids:SV->List Nat
 | .c x=>x.ids
 | .agg cs=>cs.flatMap C.ids
 | .oC xs=>xs.flatMap fun x=>x.2.flatMap C.ids
def SV.uS:SV->Bool
 | .oC _=>true
 | _=>false
def ef:C->List Prop
 | .v (.agg _)|.v (.tuple _)=>[False]
 | .w x=>[x.oneCell'=true]
 | _=>[]
def SV.ef (x:SV):List Prop:=x.cells.flatMap Eng.ef
def Cells.ids:Cells->List Nat
 | .lit cs=>cs.flatMap C.ids
 | .row _=>[]
 | .aH _=>[]
def St.put (st:St)(d:Option Nat)(x:SV):St:=
 match d with
 | none=>st
 | some d=>{ st with ax:=fun t=>cond (Nat.beq t d) (some x) (st.ax t) }
def St.box (st:St)(s:Nat)(b:aP):St:={ st with boxes:=fun t=>cond (Nat.beq t s) (some b) (st.boxes t) }
def C.ofConst:Value->C
 | .bool true=>.tt
 | .bool false=>.ff
 | x=>.v x
def SV.ofConst:Value->SV
 | .bool true=>.c .tt
 | .bool false=>.c .ff
 | .agg cs=>.agg (cs.toList.map C.ofConst)
 | x=>.c (.v x)
def St.aY (st:St):Operand->Option SV
 | .tmp t=>st.ax t
 | .const v=>some (.ofConst v)
 | .global g=>some (.c (.v (.pointer (some ⟨g,0,none⟩))))
 | .func f=>some (.c (.jY f []))
inductive TK where
 | int (k:IntKind)|bool|str|ptr (e:TypeId)|slice (e:TypeId)|struct (fs:List (TypeId×Nat))|arr (n:Nat) (e:TypeId)|iface|func|tuple (ts:List TypeId)|other
structure TI where
 k:TK
 size:Nat
 bytes:Nat
 zero:List C
def jH:TypeDesc->TK
 | .int k=>.int k
 | .bool=>.bool
 | .string=>.str
 | .pointer e=>.ptr e
 | .slice e=>.slice e
 | .array n e=>.arr n e
 | .struct fs=>.struct (fs.toList.map fun f=>(f.type,f.offset))
 | .interface _=>.iface
 | .func ..=>.func
 | .tuple es=>.tuple es.toList
 | _=>.other
def kP (P:Program)(t:TypeId):Option TI:=
 match P.info? t,P.underlying t with
 | some i,some d=>
  match i.zero with
  | some z=>some { k:=jH d,size:=i.size,bytes:=i.bytes,zero:=z.cells.toList.map C.ofConst }
  | none=>none
 | _,_=>none
abbrev cG:=List (Nat×TI)
def aB {α:Type}:List (Nat×α)->Nat->Option α
 | [],_=>none
 | (s,x)::r,t=>cond (Nat.beq t s) (some x) (aB r t)
def cG.ok (P:Program)(T:cG):Prop:=∀t i,aB T t=some i->kP P t=some i
inductive wK where
 | int (k:IntKind)|bool|slice|ptr|str|any
inductive tN where
 | one (s:wK)|agg (l:List wK)
inductive Sh where
 | val (s:tN)|oC (l:List tN)|none
def QK:C->wK
 | .v (.int k _)=>.int k
 | .v (.slice ..)=>.slice
 | .v (.pointer _)=>.ptr
 | .v (.string _)=>.str
 | .tt|.ff=>.bool
 | _=>.any
def kh (i:TI):tN:=
 match i.k with
 | .struct _|.arr _ _=>.agg (i.zero.map QK)
 | _=>match i.zero with
  | [z]=>.one (QK z)
  | _=>.one .any
def wK.ex:wK->(C->Prop)->Prop
 | .int k,K=>∃n:Int,K (.v (.int k n))
 | .bool,K=>∃b:Bool,K (.v (.bool b))
 | .slice,K=>∃(a:OA)(n c:Nat),K (.v (.slice a n c))
 | .ptr,K=>∃p:OA,K (.v (.pointer p))
 | .str,K=>∃s:ByteArray,K (.v (.string s))
 | .any,K=>∃x:Value,K (.w x)
def Mk:List wK->(List C->Prop)->Prop
 | [],K=>K []
 | s::r,K=>s.ex fun v=>Mk r fun vs=>K (v::vs)
def tN.ex:tN->(SV->Prop)->Prop
 | .one s,K=>s.ex fun c=>K (.c c)
 | .agg l,K=>Mk l fun cs=>K (.agg cs)
def NF:List tN->(List (Bool×List C)->Prop)->Prop
 | [],K=>K []
 | .one s::r,K=>s.ex fun c=>NF r fun vs=>K ((false,[c])::vs)
 | .agg l::r,K=>Mk l fun cs=>NF r fun vs=>K ((true,cs)::vs)
def Sh.ex:Sh->(SV->Prop)->Prop
 | .val s,K=>s.ex K
 | .oC l,K=>NF l fun vs=>K (.oC vs)
 | .none,K=>K (.oC [])
def PX (T:cG):List TypeId->Option (List tN)
 | []=>some []
 | t::r=>match aB T t,PX T r with
  | some i,some l=>some (kh i::l)
  | _,_=>Option.none
def Th (T:cG)(t:TypeId):Option Sh:=
 match aB T t with
 | some i=>match i.k with
  | .tuple []=>some .none
  | .tuple ts=>match PX T ts with
   | some l=>some (.oC l)
   | Option.none=>Option.none
  | _=>some (.val (kh i))
 | Option.none=>Option.none
inductive Q where
 | fail
 | ret (sc:List Prop) (x:SV)
 | new (sc:List Prop) (b:aP) (x:Nat->SV)
 | sN (sc:List Prop) (s:Nat) (b:aP)
 | rd (p:OA) (sh:tN)
 | nh (vs:List Value) (o size:Nat) (sh:tN)
 | qI (s:Nat) (vs:List Value) (n c:Nat) (x:OA×Nat ⊕ List Value) (size bytes:Nat) (ty:TypeId)
 | app (old:Option Nat) (ba:OA) (vs:List Value) (n c:Nat) (x:OA×Nat ⊕ List Value) (size bytes:Nat) (ty:TypeId)
def aV (op:BinOp)(k:IntKind)(a b:Int):Int:=
 match op with
 | .and=>k.wrap ((BitVec.ofInt k.bits a &&& BitVec.ofInt k.bits b).toNat:Int)
 | .or=>k.wrap ((BitVec.ofInt k.bits a ||| BitVec.ofInt k.bits b).toNat:Int)
 | .xor=>k.wrap ((BitVec.ofInt k.bits a ^^^ BitVec.ofInt k.bits b).toNat:Int)
 | _=>k.wrap ((BitVec.ofInt k.bits a &&& ~~~(BitVec.ofInt k.bits b)).toNat:Int)
def lP (op:BinOp)(k:IntKind)(a b:Int):Q:=
 match op with
 | .add=>.ret [] (.c (.v (.int k (k.wrap (a+b)))))
 | .sub=>.ret [] (.c (.v (.int k (k.wrap (a-b)))))
 | .mul=>.ret [] (.c (.v (.int k (k.wrap (a*b)))))
 | .quo=>.ret [b≠0] (.c (.v (.int k (k.wrap (a.tdiv b)))))
 | .rem=>.ret [b≠0] (.c (.v (.int k (a.tmod b))))
 | .and=>.ret [] (.c (.v (.int k (aV .and k a b))))
 | .or=>.ret [] (.c (.v (.int k (aV .or k a b))))
 | .xor=>.ret [] (.c (.v (.int k (aV .xor k a b))))
 | .andNot=>.ret [] (.c (.v (.int k (aV .andNot k a b))))
 | .shl=>.ret [0<=b] (.c (.v (.int k (k.wrap (a*2^(min b.toNat k.bits))))))
 | .shr=>.ret [0<=b] (.c (.v (.int k (a.fdiv (2^(min b.toNat k.bits))))))
 | .eql=>.ret [] (.c (.v (.bool (a==b))))
 | .neq=>.ret [] (.c (.v (.bool (a != b))))
 | .lss=>.ret [] (.c (.v (.bool (decide (a<b)))))
 | .leq=>.ret [] (.c (.v (.bool (decide (a<=b)))))
 | .gtr=>.ret [] (.c (.v (.bool (decide (a>b)))))
 | .geq=>.ret [] (.c (.v (.bool (decide (a≥b)))))
def C.bool?:C->Option Bool
 | .tt=>some true
 | .ff=>some false
 | .v (.bool b)=>some b
 | _=>none
def lQ:Value->Bool
 | .nilIface=>true
 | _=>false
def IsIface (x:Value):Prop:=x=.nilIface\/∃t v,x=.iface t v
def uT:IntKind->IntKind->Bool
 | .i8,.i8|.i16,.i16|.i32,.i32|.i64,.i64|.u8,.u8|.u16,.u16|.u32,.u32|.u64,.u64=>true
 | _,_=>false
def Ax (neg:Bool)(k:TK)(x y:C):Q:=
 match k with
 | .ptr _=>match y with
  | .v (.pointer none)=>match x with
   | .ptr _ _=>.ret [] (.c (if neg then .tt else .ff))
   | .v (.pointer p)=>.ret [] (.c (.v (.bool (if neg then !p.isNone else p.isNone))))
   | _=>.fail
  | _=>.fail
 | .slice _=>match y with
  | .v (.slice none _ _)=>match x with
   | .gH _ _ _ _=>.ret [] (.c (if neg then .tt else .ff))
   | .eU _ _ c=>.ret [] (.c (.v (.bool (if neg then !(Nat.beq c 0) else Nat.beq c 0))))
   | .v (.slice a _ _)=>.ret [] (.c (.v (.bool (if neg then !a.isNone else a.isNone))))
   | _=>.fail
  | _=>.fail
 | .iface=>match y with
  | .v .nilIface=>match x with
   | .w y=>.ret [IsIface y] (.c (.v (.bool (if neg then !lQ y else lQ y))))
   | .v .nilIface=>.ret [] (.c (if neg then .ff else .tt))
   | _=>.fail
  | _=>.fail
 | _=>.fail
def Av (T:cG)(op:BinOp)(xt:TypeId)(x y:C):Q:=
 match aB T xt with
 | some i=>match i.k with
  | .int _=>match x,y with
   | .v (.int k a),.v (.int k' b)=>
    match op with
    | .shl|.shr=>lP op k a b
    | _=>if uT k k' then lP op k a b else .fail
   | _,_=>.fail
  | .bool=>match x.bool?,y.bool? with
   | some a,some b=>match op with
    | .eql=>.ret [] (.c (.v (.bool (a==b))))
    | .neq=>.ret [] (.c (.v (.bool (!(a==b)))))
    | _=>.fail
   | _,_=>.fail
  | k=>match op with
   | .eql=>Ax false k x y
   | .neq=>Ax true k x y
   | _=>.fail
 | none=>.fail
def ah (p:OA)(n:Nat):OA:=p.map fun a=>a.add n
def setCells (cs:List C)(o:Nat)(xs:List C):List C:=cs.take o++xs++cs.drop (o+xs.length)
def ae (vs:List Value)(o:Nat)(xs:List Value):List Value:=
 match xs with
 | [x]=>vs.set o x
 | _=>vs.take o++xs++vs.drop (o+xs.length)
def C.val?:C->Option Value
 | .v x=>some x
 | .w x=>some x
 | .tt=>some (.bool true)
 | .ff=>some (.bool false)
 | _=>none
def jv:List C->Option (List Value)
 | []=>some []
 | c::r=>match c.val?,jv r with
  | some v,some vs=>some (v::vs)
  | _,_=>none
def iO (bx:Nat->Option aP)(i:TI)(x:SV):Q:=
 match x with
 | .c (.ptr b o)=>match bx b with
  | some ⟨.lit cs,_⟩=>match i.k with
   | .struct _|.arr _ _=>if Nat.ble (o+i.size) cs.length then .ret [] (.agg ((cs.drop o).take i.size)) else .fail
   | _=>match cs[o]? with
    | some c=>.ret [] (.c c)
    | none=>.fail
  | some ⟨.row vs,_⟩=>.nh vs o i.size (kh i)
  | some ⟨.aH vs,_⟩=>if Nat.beq i.size 0 then .fail else .nh vs o i.size (kh i)
  | none=>.fail
 | .c (.v (.pointer p))=>if Nat.beq i.zero.length i.size then .rd p (kh i) else .fail
 | _=>.fail
def fR (bx:Nat->Option aP)(i:TI)(a x:SV):Q:=
 match a with
 | .c (.ptr b o)=>if Nat.beq x.cells.length i.size&&!x.uS then match bx b with
   | some ⟨.lit cs,ty⟩=>if Nat.ble (o+i.size) cs.length then .sN x.ef b ⟨.lit (setCells cs o x.cells),ty⟩ else .fail
   | some ⟨.row vs,ty⟩=>match jv x.cells with
    | some xs=>.sN (x.ef++[o+i.size<=vs.length]) b ⟨.row (ae vs o xs),ty⟩
    | none=>.fail
   | some ⟨.aH vs,ty⟩=>if Nat.beq i.size 0 then .fail else match jv x.cells with
    | some xs=>.sN (x.ef++[o+i.size<=vs.length]) b ⟨.aH (ae vs o xs),ty⟩
    | none=>.fail
   | none=>.fail
  else .fail
 | _=>.fail
def nf (place:Nat->Option (Nat×Nat))(cells:List C):List (Nat×SV)->Option (List C)
 | []=>some cells
 | (i,x)::r=>match place i with
  | none=>none
  | some (off,size)=>if Nat.beq x.cells.length size&&Nat.ble (off+size) cells.length&&!x.uS then nf place (setCells cells off x.cells) r else none
def partsOf (ρ:Operand->Option SV):List (Nat×Operand)->Option (List (Nat×SV))
 | []=>some []
 | (i,o)::r=>match ρ o,partsOf ρ r with
  | some x,some l=>some ((i,x)::l)
  | _,_=>none
def eR (T:cG):List (TypeId×Nat)->Option (List (Nat×Nat))
 | []=>some []
 | (t,off)::r=>match aB T t,eR T r with
  | some i,some l=>some ((off,i.size)::l)
  | _,_=>none
def rep (n:Nat)(zs:List C):List C:=(List.replicate n zs).flatten
def rv (n:Nat)(zs:List Value):List Value:=
 match zs with
 | [z]=>List.replicate n z
 | _=>(List.replicate n zs).flatten
def pC (a:OA)(m l sz:Nat):OA:=if m=l then a else ah a (l*sz)
def Vd (o m l sz:Nat):Nat:=if m=l then o else o+l*sz
def KG (c:Nat):Option SV->Option (List Prop×Nat)
 | none=>some ([],c)
 | some (.c (.v (.int _ m)))=>some ([0<=m/\m<=(c:Int)],m.toNat)
 | _=>none
def IZ (n m:Nat):Option SV->Option SV->Option (List Prop×Nat)
 | some (.c (.v (.int _ h))),_=>some ([0<=h/\h<=(m:Int)],h.toNat)
 | none,none=>some ([],n)
 | _,_=>none
def M4 (h:Nat):Option SV->Option (List Prop×Option Nat)
 | none=>some ([],none)
 | some (.c (.v (.int _ l)))=>some ([0<=l/\l<=(h:Int)],some l.toNat)
 | _=>none
def mH (n c:Nat)(lo hi mx:Option SV):Option (List Prop×Option Nat×Nat×Nat):=
 match KG c mx with
 | none=>none
 | some (p1,m)=>match IZ n m hi mx with
  | none=>none
  | some (p2,h)=>match M4 h lo with
   | none=>none
   | some (p3,l)=>some (p1++p2++p3,l,h,m)
def Aq (ρ:Operand->Option SV):Option Operand->Option (Option SV)
 | none=>some none
 | some x=>match ρ x with
  | some v=>some (some v)
  | none=>none
def qN (sz:Nat)(x:SV)(lo hi mx:Option SV):Q:=
 match x with
 | .c (.v (.slice a n c))=>match mH n c lo hi mx with
  | some (sc,none,h,m)=>.ret sc (.c (.v (.slice a h m)))
  | some (sc,some l,h,m)=>.ret sc (.c (.v (.slice (pC a m l sz) (h-l) (m-l))))
  | none=>.fail
 | .c (.gH s o n c)=>match mH n c lo hi mx with
  | some (sc,none,h,m)=>.ret sc (.c (.gH s o h m))
  | some (sc,some l,h,m)=>.ret sc (.c (.gH s (Vd o m l sz) (h-l) (m-l)))
  | none=>.fail
 | .c (.eU s n c)=>match mx with
  | none=>match mH n c lo hi none with
   | some (sc,none,h,m)=>.ret sc (.c (.eU s h m))
   | _=>.fail
  | some _=>.fail
 | _=>.fail
def fQ (T:cG)(i:TI)(x ix:SV):Q:=
 match ix with
 | .c (.v (.int _ n))=>match i.k with
  | .slice e=>match aB T e with
   | some ei=>match x with
    | .c (.v (.slice a len _))=>.ret [a.isSome=true,0<=n/\n<(len:Int)] (.c (.v (.pointer (ah a (n.toNat*ei.size)))))
    | .c (.gH s o len _)=>.ret [0<=n/\n<(len:Int)] (.c (.ptr s (o+n.toNat*ei.size)))
    | .c (.eU s len c)=>.ret [0<=n/\n<(len:Int),len<=c] (.c (.ptr s (n.toNat*ei.size)))
    | _=>.fail
   | none=>.fail
  | .arr len e=>match aB T e with
   | some ei=>match x with
    | .c (.ptr s o)=>.ret [0<=n/\n<(len:Int)] (.c (.ptr s (o+n.toNat*ei.size)))
    | .c (.v (.pointer a))=>.ret [a.isSome=true,0<=n/\n<(len:Int)] (.c (.v (.pointer (ah a (n.toNat*ei.size)))))
    | _=>.fail
   | none=>.fail
  | _=>.fail
 | _=>.fail
def zj (T:cG)(i:TI)(l c:SV):Q:=
 match i.k with
 | .slice e=>match aB T e with
  | some ei=>match l,c with
   | .c (.v (.int _ n)),.c (.v (.int _ m))=>match jv ei.zero with
    | some zs=>if Nat.beq ei.bytes 0||Nat.beq ei.size 0||!(Nat.beq ei.size zs.length) then .fail else .new [0<=n,n<=m,(ei.bytes:Int)*m<=140737488355328] ⟨.row (rv m.toNat zs),e⟩ fun d=>.c (.gH d 0 n.toNat m.toNat)
    | none=>.fail
   | _,_=>.fail
  | none=>.fail
 | _=>.fail
def vt:List SV->Option (List Nat)
 | []=>some []
 | .c (.ptr s 0)::r=>match vt r with
  | some l=>some (s::l)
  | none=>none
 | _=>none
def bO (ρ:Operand->Option SV):List Operand->Option (List SV)
 | []=>some []
 | o::r=>match ρ o,bO ρ r with
  | some x,some l=>some (x::l)
  | _,_=>none
def bN (a b:Int):Int:=if b<a then b else a
def bM (a b:Int):Int:=if b>a then b else a
def foldI (f:Int->Int->Int)(k:IntKind)(a:Int):List SV->Option Int
 | []=>some a
 | .c (.v (.int k' b))::r=>if uT k k' then foldI f k (f a b) r else none
 | _=>none
def dz (bx:Nat->Option aP)(s:Nat):Option (List Value):=
 match bx s with
 | some ⟨.lit cs,_⟩=>jv cs
 | some ⟨.row vs,_⟩=>some vs
 | _=>none
def jT (bx:Nat->Option aP)(s:Nat):Option TypeId:=match bx s with|some b=>some b.ty|none=>none
def bq (ws:List Value)(o n:Nat):List Value:=cond (Nat.ble (o+n) ws.length) ((ws.drop o).take n) (List.replicate n (.agg #[]))
def mb (ws:List Value)(k c sz:Nat):List Value:=cond (Nat.ble k c) (bq ws 0 (k*sz)) (List.replicate (k*sz) (.agg #[]))
def bV (bx:Nat->Option aP)(e:TypeId)(ei:TI)(b x:SV):Q:=
 match jv ei.zero with
 | none=>.fail
 | some zs=>if Nat.beq ei.bytes 0||Nat.beq ei.size 0||!(Nat.beq ei.size zs.length) then .fail else
  let src:Option (OA×Nat ⊕ List Value):=match x with
   | .c (.v (.slice a k _))=>some (.inl (a,k))
   | .c (.gH s o k _)=>match bx s with
    | some ⟨.row ws,_⟩=>some (.inr (bq ws o (k*ei.size)))
    | _=>match dz bx s with
     | some ws=>if Nat.ble (o+k*ei.size) ws.length then some (.inr ((ws.drop o).take (k*ei.size))) else none
     | none=>none
   | .c (.eU s k c)=>match bx s with
    | some ⟨.aH ws,_⟩=>some (.inr (mb ws k c ei.size))
    | _=>none
   | _=>none
  match src with
  | none=>.fail
  | some src=>match b with
   | .c (.v (.slice a n c))=>.app none a [] n c src ei.size ei.bytes e
   | .c (.gH s 0 n c)=>match dz bx s,jT bx s with
    | some vs,some ty=>if Nat.beq ty e then .app (some s) none vs n c src ei.size ei.bytes e else .fail
    | _,_=>.fail
   | .c (.eU s n c)=>match bx s with
    | some ⟨.aH vs,ty⟩=>if Nat.beq ty e then .qI s vs n c src ei.size ei.bytes e else .fail
    | _=>.fail
   | _=>.fail
def kf (b:Builtin)(k:TK)(xs:List SV):Q:=
 match xs with
 | []=>.fail
 | x::r=>match b with
  | .len=>match r,k,x with
   | [],.slice _,.c (.v (.slice _ n _))=>.ret [] (.c (.v (.int .i64 n)))
   | [],.slice _,.c (.gH _ _ n _)=>.ret [] (.c (.v (.int .i64 n)))
   | [],.slice _,.c (.eU _ n _)=>.ret [] (.c (.v (.int .i64 n)))
   | [],.str,.c (.v (.string s))=>.ret [] (.c (.v (.int .i64 s.size)))
   | _,_,_=>.fail
  | .cap=>match r,k,x with
   | [],.slice _,.c (.v (.slice _ _ c))=>.ret [] (.c (.v (.int .i64 c)))
   | [],.slice _,.c (.gH _ _ _ c)=>.ret [] (.c (.v (.int .i64 c)))
   | [],.slice _,.c (.eU _ _ c)=>.ret [] (.c (.v (.int .i64 c)))
   | _,_,_=>.fail
  | .min=>match x with
   | .c (.v (.int k a))=>match foldI bN k a r with
    | some m=>.ret [] (.c (.v (.int k m)))
    | none=>.fail
   | _=>.fail
  | .max=>match x with
   | .c (.v (.int k a))=>match foldI bM k a r with
    | some m=>.ret [] (.c (.v (.int k m)))
    | none=>.fail
   | _=>.fail
  | _=>.fail
def vv (t:TypeId)(i:TI)(v:SV):Q:=
 match i.k with
 | .iface=>.fail
 | _=>match v.ids,v.uS with
  | [],false=>.ret [] (.c (.w (.iface t (v.den fun _=>0))))
  | _,_=>.fail
def kS (T:cG)(bx:Nat->Option aP)(t:TypeId)(x:SV):Q:=
 match aB T t with
 | some i=>match i.k with
  | .slice e=>match aB T e with
   | some ei=>match jv ei.zero,x with
    | some zs,.c (.gH s o n _)=>match bx s with
     | some ⟨.row vs,ty⟩=>if Nat.beq ei.size 0||!(Nat.beq ei.size zs.length)||!(zs.all Value.oneCell') then .fail else .sN [o+n*ei.size<=vs.length] s ⟨.row (vs.take o++rv n zs++vs.drop (o+n*ei.size)),ty⟩
     | _=>.fail
    | _,_=>.fail
   | none=>.fail
  | _=>.fail
 | none=>.fail
def FA:List C->Option (List (OA×Nat×Nat))
 | []=>some []
 | .v (.slice p n c)::r=>match FA r with
  | some l=>some ((p,n,c)::l)
  | none=>none
 | _=>none
def kg (T:cG)(i:TI)(cs:List C)(k:Int):Q:=
 match i.k with
 | .arr n e=>match aB T e,FA cs with
  | some ei,some l=>match ei.k with
   | .slice _=>if Nat.beq ei.size 1&&Nat.beq l.length n then .ret [0<=k/\k<(n:Int)] (.c (.v (.slice (l.getD k.toNat (none,0,0)).1 (l.getD k.toNat (none,0,0)).2.1 (l.getD k.toNat (none,0,0)).2.2))) else .fail
   | _=>.fail
  | _,_=>.fail
 | _=>.fail
def aK (T:cG)(ρ:Operand->Option SV)(bx:Nat->Option aP)(op:Op):Q:=
 match op with
 | .move x|.assign x=>match ρ x with
  | some v=>.ret [] v
  | none=>.fail
 | .pick c a b=>match ρ c with
  | some (.c .tt)=>match ρ a with
   | some v=>.ret [] v
   | none=>.fail
  | some (.c .ff)=>match ρ b with
   | some v=>.ret [] v
   | none=>.fail
  | _=>.fail
 | .alloc t=>match aB T t with
  | some i=>.new [] ⟨.lit i.zero,t⟩ fun d=>.c (.ptr d 0)
  | none=>.fail
 | .box t x=>match ρ x with
  | some v=>match v.uS with
   | true=>.fail
   | false=>.new v.ef ⟨.lit v.cells,t⟩ fun d=>.c (.ptr d 0)
  | none=>.fail
 | .build t parts=>match aB T t,partsOf ρ parts.toList with
  | some i,some ps=>match i.k with
   | .struct fs=>match eR T fs with
    | some pl=>match nf (fun j=>pl[j]?) i.zero ps with
     | some cs=>.ret (ps.flatMap fun x=>x.2.ef) (.agg cs)
     | none=>.fail
    | none=>.fail
   | .arr _ e=>match aB T e with
    | some ei=>match nf (fun j=>some (j*ei.size,ei.size)) i.zero ps with
     | some cs=>.ret (ps.flatMap fun x=>x.2.ef) (.agg cs)
     | none=>.fail
    | none=>.fail
   | _=>.fail
  | _,_=>.fail
 | .buildSlice t len parts=>match aB T t,partsOf ρ parts.toList with
  | some i,some ps=>match i.k with
   | .slice e=>match aB T e with
    | some ei=>if Nat.ble (len*ei.size) 16777216&&Nat.beq ei.zero.length ei.size&&!(Nat.beq ei.size 0) then match nf (fun j=>some (j*ei.size,ei.size)) (rep len ei.zero) ps with
      | some cs=>.new (ps.flatMap fun x=>x.2.ef) ⟨.lit cs,e⟩ fun d=>.c (.gH d 0 len len)
      | none=>.fail
     else .fail
    | none=>.fail
   | _=>.fail
  | _,_=>.fail
 | .load t a=>match aB T t,ρ a with
  | some i,some x=>iO bx i x
  | _,_=>.fail
 | .store t a x=>match aB T t,ρ a,ρ x with
  | some i,some av,some xv=>fR bx i av xv
  | _,_,_=>.fail
 | .nilCheck x=>match ρ x with
  | some (.c (.ptr s o))=>.ret [] (.c (.ptr s o))
  | some (.c (.v (.pointer p)))=>.ret [p.isSome=true] (.c (.v (.pointer p)))
  | _=>.fail
 | .binOp o xt x y _=>match ρ x,ρ y with
  | some (.c a),some (.c b)=>match b with
   | .v .nilIface=>match y with
    | .const _=>Av T o xt a b
    | _=>.fail
   | b=>Av T o xt a b
  | _,_=>.fail
 | .unOp .not _ x=>match ρ x with
  | some (.c .tt)=>.ret [] (.c .ff)
  | some (.c .ff)=>.ret [] (.c .tt)
  | some (.c (.v (.bool b)))=>.ret [] (.c (.v (.bool (!b))))
  | _=>.fail
 | .unOp .xor _ x=>match ρ x with
  | some (.c (.v (.int k n)))=>.ret [] (.c (.v (.int k (aV .xor k (if k.signed then -1 else k.max) n))))
  | _=>.fail
 | .unOp .neg _ x=>match ρ x with
  | some (.c (.v (.int k n)))=>.ret [] (.c (.v (.int k (k.wrap (0-n)))))
  | _=>.fail
 | .convert src dst x=>match aB T src,aB T dst,ρ x with
  | some _,some i,some (.c (.v (.int _ n)))=>match i.k with
   | .int k=>.ret [] (.c (.v (.int k (k.wrap n))))
   | _=>.fail
  | _,_,_=>.fail
 | .makeFunc (.func f) first caps=>match first.toList with
  | []=>match bO ρ caps.toList with
   | some xs=>match vt xs with
    | some ss=>.ret [] (.c (.jY f ss))
    | none=>.fail
   | none=>.fail
  | _=>.fail
 | .makeSlice t l c=>match aB T t,ρ l,ρ c with
  | some i,some lv,some cv=>zj T i lv cv
  | _,_,_=>.fail
 | .slice t x lo hi mx=>match aB T t,ρ x,Aq ρ lo,Aq ρ hi,Aq ρ mx with
  | some i,some xv,some l,some h,some m=>match i.k with
   | .slice e=>match aB T e with
    | some ei=>qN ei.size xv l h m
    | none=>.fail
   | _=>.fail
  | _,_,_,_,_=>.fail
 | .fieldAddr t x f=>match aB T t,ρ x with
  | some i,some xv=>match i.k with
   | .struct fs=>match fs[f]? with
    | some (ft,off)=>match aB T ft with
     | some fi=>if Nat.beq fi.size 0 then .fail else match xv with
      | .c (.ptr s o)=>.ret [] (.c (.ptr s (o+off)))
      | .c (.v (.pointer p))=>.ret [p.isSome=true] (.c (.v (.pointer (ah p off))))
      | _=>.fail
     | none=>.fail
    | none=>.fail
   | _=>.fail
  | _,_=>.fail
 | .field t x f=>match aB T t,ρ x with
  | some i,some (.agg cs)=>match i.k with
   | .struct fs=>match fs[f]? with
    | some (ft,off)=>match aB T ft with
     | some fi=>match fi.k with
      | .struct _|.arr _ _=>.ret [] (.agg ((cs.drop off).take fi.size))
      | _=>match cs[off]? with
       | some c=>.ret [] (.c c)
       | none=>.fail
     | none=>.fail
    | none=>.fail
   | _=>.fail
  | _,_=>.fail
 | .indexAddr t x ix=>match aB T t,ρ x,ρ ix with
  | some i,some xv,some iv=>fQ T i xv iv
  | _,_,_=>.fail
 | .extract x j=>match ρ x with
  | some (.oC xs)=>match xs[j]? with
   | some v=>match qu v with
    | some y=>.ret [] y
    | none=>.fail
   | none=>.fail
  | _=>.fail
 | .call c=>match c.callee with
  | .builtin .append=>match bO ρ c.args.toList,c.argTypes.toList with
   | some [b,x],[t,t']=>match aB T t,aB T t' with
    | some i,some i'=>match i.k,i'.k with
     | .slice e,.slice _=>match aB T e with
      | some ei=>bV bx e ei b x
      | none=>.fail
     | _,_=>.fail
    | _,_=>.fail
   | _,_=>.fail
  | .builtin .clear=>match bO ρ c.args.toList,c.argTypes.toList with
   | some [x],[t]=>kS T bx t x
   | _,_=>.fail
  | .builtin b=>match bO ρ c.args.toList,c.argTypes.toList with
   | some xs,t::_=>match aB T t with
    | some i=>kf b i.k xs
    | none=>.fail
   | _,_=>.fail
  | _=>.fail
 | .index t x ix=>match aB T t,ρ x,ρ ix with
  | some i,some (.c (.v (.string s))),some (.c (.v (.int _ n)))=>match i.k with
   | .str=>.ret [0<=n/\n<(s.size:Int)] (.c (.v (.int .u8 ((s.data.toList.getD n.toNat 0).toNat:Int))))
   | _=>.fail
  | some i,some (.agg cs),some (.c (.v (.int _ n)))=>kg T i cs n
  | _,_,_=>.fail
 | .makeInterface t x=>match aB T t,ρ x with
  | some i,some v=>vv t i v
  | _,_=>.fail
 | _=>.fail
def zC:List Prop->Prop->Prop
 | [],k=>k
 | p::r,k=>p/\zC r k
def View.KJ (V:View)(p:Addr):Nat->List C->Prop->Prop
 | _,[],k=>k
 | i,c::r,k=>V.at (p.add i) (c.den fun _=>0)/\V.KJ p (i+1) r k
def View.JF (V:View)(p:OA)(x:SV)(k:Prop):Prop:=
 match x with
 | .agg cs=>∃a,p=some a/\V.KJ a 0 cs k
 | .c c=>(∃a,p=some a/\V.at a (c.den fun _=>0))/\k
 | .oC _=>False
def KP (vs:List Value)(o size:Nat)(x:SV):Prop:=
 match x with
 | .agg cs=>o+size<=vs.length/\(vs.drop o).take size=cs.map (C.den fun _=>0)
 | .c c=>vs[o]?=some (c.den fun _=>0)
 | .oC _=>False
def dS (x:Nat):List Nat->Bool
 | []=>false
 | y::r=>cond (Nat.beq x y) true (dS x r)
def dedup:List Nat->List Nat
 | []=>[]
 | x::r=>let l:=dedup r;cond (dS x l) l (x::l)
def uz (l m:List Nat):Bool:=l.all fun x=>!(dS x m)
def Jk (l m:List Nat):Bool:=l.all fun x=>dS x m
def C.rel (L:List Nat)(β:Nat->Nat)(J:C->Value):C->C
 | .ptr s o=>cond (dS s L) (.v (.pointer (some ⟨β s,o,none⟩))) (.ptr s o)
 | .gH s o n c=>cond (dS s L) (.v (.slice (some ⟨β s,o,none⟩) n c)) (.gH s o n c)
 | .eU s n c=>cond (dS s L) (.v (.slice (mA (β s) c) n c)) (.eU s n c)
 | .jY f ss=>cond (uz ss L) (.jY f ss) (.w (J (.jY f ss)))
 | x=>x
def SV.rel (L:List Nat)(β:Nat->Nat)(J:C->Value):SV->SV
 | .c x=>.c (x.rel L β J)
 | .agg cs=>.agg (cs.map (C.rel L β J))
 | .oC xs=>.oC (xs.map fun x=>(x.1,x.2.map (C.rel L β J)))
def aP.rel (L:List Nat)(β:Nat->Nat)(J:C->Value)(b:aP):aP:=
 match b.cs with
 | .row _=>b
 | .aH _=>b
 | .lit cs=>⟨.lit (cs.map (C.rel L β J)),b.ty⟩
def St.rel (st:St)(L:List Nat)(β:Nat->Nat)(J:C->Value):St:=
 ⟨fun t=>match st.ax t with|some x=>some (x.rel L β J)|none=>none,
   fun t=>cond (dS t L) none (match st.boxes t with|some b=>some (b.rel L β J)|none=>none)⟩
def View.sl (V:View)(a:OA)(xs:List Value):Prop:=∀i v,xs[i]?=some v->∃ad,a=some ad/\V.at (ad.add i) v
def mP (s d:Nat):Nat:=cond (Nat.blt s 100000) d (d+200000)
def Bk (s:Nat)(vs:List Value)(n c size bytes:Nat)(ty:TypeId)(d:Nat)(st:St)(V:View)(K:St->View->Prop)(k:Nat)(xs:List Value):Prop:=
 (n+k)*bytes<=140737488355328/\n<=c/\c*size<=vs.length/\xs.length=k*size/\(∀v∈xs,v.oneCell'=true) /\
  match st.boxes (mP s d) with
  | some _=>False
  | none=>∀(_:Nat)(_:C->Value)(spare:List Value)(c':Nat),n+k<=c'->c'*size<=(n+k)*size+spare.length ->
   K (((st.box s ⟨.aH [],ty⟩).box (mP s d) ⟨.row (vs.take (n*size)++xs++spare),ty⟩).put (some d) (.c (.gH (mP s d) 0 (n+k) c'))) V
def rN (s:Nat)(vs:List Value)(n c size bytes:Nat)(ty:TypeId)(d:Nat)(st:St)(V:View)(K:St->View->Prop)(k:Nat)(xs:List Value):Prop:=
 (n+k)*bytes<=140737488355328/\n<=c/\c*size<=vs.length/\xs.length=k*size/\(∀v∈xs,v.oneCell'=true) /\
  match st.boxes (mP s d) with
  | some _=>False
  | none=>∀(spare:List Value)(c':Nat),n+k<=c'->c'*size<=(n+k)*size+spare.length ->
   K (((st.box s ⟨.aH [],ty⟩).box (mP s d) ⟨.aH (vs.take (n*size)++xs++spare),ty⟩).put (some d) (.c (.eU (mP s d) (n+k) c'))) V
def Bl (vs:List Value)(n c size bytes:Nat)(ty:TypeId)(d:Nat)(st:St)(V:View)(K:St->View->Prop)(k:Nat)(xs:List Value):Prop:=
 (n+k)*bytes<=140737488355328/\c<n+k/\xs.length=k*size/\(∀v∈xs,v.oneCell'=true) /\
  match st.boxes d with
  | some _=>False
  | none=>∀(spare:List Value)(c':Nat),n+k<=c'->c'*size<=(n+k)*size+spare.length ->
   K ((st.box d ⟨.row (vs++xs++spare),ty⟩).put (some d) (.c (.gH d 0 (n+k) c'))) V
def sO (q:Q)(dst:Option Nat)(st:St)(V:View)(K:St->View->Prop):Prop:=
 match q with
 | .fail=>False
 | .ret sc x=>zC sc (K (st.put dst x) V)
 | .new sc b x=>match dst with
  | some d=>match st.boxes d with
   | none=>zC sc (K ((st.box d b).put (some d) (x d)) V)
   | some _=>False
  | none=>False
 | .sN sc s b=>match dst with
  | none=>zC sc (K (st.box s b) V)
  | some _=>False
 | .rd p sh=>sh.ex fun x=>V.JF p x (K (st.put dst x) V)
 | .nh vs o size sh=>sh.ex fun x=>KP vs o size x/\K (st.put dst x) V
 | .qI s vs n c x size bytes ty=>match dst with
  | none=>False
  | some d=>match x with
   | .inr xs=>rN s vs n c size bytes ty d st V K (xs.length / size) xs
   | .inl (a,k)=>∃xs:List Value,V.sl a xs/\xs.length=k*size/\rN s vs n c size bytes ty d st V K k xs
 | .app old ba vs n c x size bytes ty=>match dst with
  | none=>False
  | some d=>match old with
   | some s=>match x with
    | .inr xs=>Bk s vs n c size bytes ty d st V K (xs.length / size) xs
    | .inl (a,k)=>∃xs:List Value,V.sl a xs/\xs.length=k*size/\Bk s vs n c size bytes ty d st V K k xs
   | none=>∃vs:List Value,V.sl ba vs/\vs.length=n*size/\n<=c/\(ba.isNone=true->c=0)/\(match x with
    | .inr xs=>Bl vs n c size bytes ty d st V K (xs.length / size) xs
    | .inl (a,k)=>∃xs:List Value,V.sl a xs/\xs.length=k*size/\(k=0->K (st.put (some d) (.c (.v (.slice ba n c)))) V)/\(k≠0->Bl vs n c size bytes ty d st V K k xs))
def bH (β:Nat->Nat)(s b:Nat):Nat->Nat:=fun t=>cond (Nat.beq t s) b (β t)
def kt:List Nat->(Nat->Nat)->((Nat->Nat)->Prop)->Prop
 | [],β,k=>k β
 | s::r,β,k=>∀b:Nat,kt r (bH β s b) k
def kv (bx:Nat->Option aP)(s:Nat):List Nat:=match bx s with|some b=>b.cs.ids|none=>[]
def reach (bx:Nat->Option aP):Nat->List Nat->List Nat
 | 0,l=>l
 | n+1,l=>reach bx n (dedup (l++l.flatMap (kv bx)))
def fZ (bx:Nat->Option aP)(l:List Nat):Bool:=l.all fun s=>Jk (kv bx s) l
def LC (bx:Nat->Option aP)(b:aP)(β:Nat->Nat)(s:Nat):List Nat->Prop->Prop
 | [],k=>k
 | t::r,k=>cond (Nat.beq s t) (LC bx b β s r k) (match bx t with
  | some b'=>oV (G6 b++G6 b') (β s≠β t)->LC bx b β s r k
  | none=>False)
def gR (bx:Nat->Option aP)(β:Nat->Nat)(V:View):List Nat->Prop->Prop
 | [],k=>k
 | s::r,k=>match bx s with
  | some b=>oV (G6 b) (V.w.heap[β s]?=some (b.obj β))->oV (G6 b) (V.H (β s))->gR bx β V r (LC bx b β s r k)
  | none=>False
def vb (vs:List Value)(n b:Nat):Nat:=
 match vs with
 | []=>n
 | _::_=>b
def cJ (bx:Nat->Option aP)(β:Nat->Nat)(n:Nat)(s:Nat):Nat:=
 match bx s with
 | some ⟨.aH vs,_⟩=>vb vs n (β s)
 | _=>β s
def C.kept:C->List Nat
 | .jY _ ss=>0::ss
 | c=>c.ids
def kK (mv:Option (Nat×Nat)):List C->List C->(List C->Prop)->Prop
 | [],_,K=>K []
 | c::r,z::zr,K=>match c with
  | .eU t _ _=>match mv with
   | some (m,nb)=>match Nat.beq t m with
    | true=>∃n c:Nat,kK mv r zr fun cs=>K (.eU nb n c::cs)
    | false=>False
   | none=>False
  | c=>match c.kept with
   | []=>(QK z).ex fun v=>kK mv r zr fun cs=>K (v::cs)
   | _=>kK mv r zr fun cs=>K (c::cs)
 | _,[],_=>False
def dn (T:cG)(mv:Option (Nat×Nat))(β:Nat->Nat)(V:View):List Nat->St->(St->Prop)->Prop
 | [],st,k=>k st
 | s::r,st,k=>match st.boxes s with
  | some ⟨.lit cs,ty⟩=>match aB T ty with
   | some i=>kK mv cs i.zero fun cs'=>V.w.heap[β s]?=some (.cells (cs'.map (C.den β)).toArray ty (0,0))/\dn T mv β V r (st.box s ⟨.lit cs',ty⟩) k
   | none=>False
  | some ⟨.row _,ty⟩=>∃vs:List Value,V.w.heap[β s]?=some (.cells vs.toArray ty (0,0))/\dn T mv β V r (st.box s ⟨.row vs,ty⟩) k
  | some ⟨.aH vs,ty⟩=>vs≠[]/\∃vs':List Value,vs'≠[]/\V.w.heap[β s]?=some (.cells vs'.toArray ty (0,0))/\dn T mv β V r (st.box s ⟨.aH vs',ty⟩) k
  | _=>False
def pg (bx:Nat->Option aP)(β:Nat->Nat)(V:View):List Nat->Prop->Prop
 | [],k=>k
 | s::r,k=>match bx s with
  | some b=>oV (G6 b) (V.bB (β s) (b.obj β))->pg bx β V r k
  | none=>False
def nP:List C->List Nat
 | []=>[]
 | .eU t _ _::r=>t::nP r
 | _::r=>nP r
def oY (bx:Nat->Option aP)(L:List Nat):List Nat:=dedup (L.flatMap fun s=>match bx s with|some ⟨.lit cs,_⟩=>nP cs|_=>[])
def kN:List SV->List Nat
 | []=>[]
 | .c (.eU s _ _)::_=>[s]
 | .c (.gH s 0 _ _)::_=>[s]
 | _::r=>kN r
def tD (nb:Nat):List (Bool×List C)->List (Bool×List C)
 | []=>[]
 | (false,[.v (.slice _ n c)])::r=>(false,[.eU nb n c])::r
 | x::r=>x::tD nb r
def Ac (nb:Nat):List C->List C
 | []=>[]
 | .v (.slice _ n c)::r=>.eU nb n c::r
 | x::r=>x::Ac nb r
def qA (nb:Nat):SV->SV
 | .c (.v (.slice _ n c))=>.c (.eU nb n c)
 | .agg cs=>.agg (Ac nb cs)
 | .oC xs=>.oC (tD nb xs)
 | x=>x
def Ad (T:cG):List TypeId->Option TypeId
 | []=>none
 | t::r=>match aB T t with
  | some i=>match i.k with
   | .slice e=>some e
   | _=>Ad T r
  | none=>none
def HU (T:cG)(ty:TypeId):Option TypeId:=
 match aB T ty with
 | some i=>match i.k with
  | .slice e=>some e
  | .tuple ts=>Ad T ts
  | .struct fs=>Ad T (fs.map Prod.fst)
  | _=>none
 | none=>none
def aN (β:Nat->Nat)(xs:List SV):Array Value:=(xs.map (SV.den β)).toArray
inductive CM where
 | none|ay|rel|gO|give
def dZ (m:Option Nat)(d:Nat):Nat:=
 match m with
 | some m=>mP m d
 | Option.none=>d
def XH (m:Option Nat)(nb:Nat):Option (Nat×Nat):=
 match m with
 | some m=>some (m,nb)
 | Option.none=>Option.none
def B8 (m:Option Nat)(L:List Nat):List Nat:=
 match m with
 | some m=>L.filter fun s=>!(Nat.beq s m)
 | Option.none=>L
def oT (m:Option Nat)(ety:TypeId)(st:St):St:=
 match m with
 | some m=>st.box m ⟨.aH [],ety⟩
 | Option.none=>st
def wF (m:Option Nat)(st:St)(β:Nat->Nat)(b':Nat):Prop:=
 match m with
 | some m=>match st.boxes m with
  | some ⟨.aH vs,_⟩=>vs≠[]/\b'=β m
  | _=>b'=β m
 | Option.none=>False
def bK (T:cG)(give:Bool)(sh:Sh)(L:List Nat)(m:Option Nat)(d:Nat)(ety:TypeId)(β:Nat->Nat)(st:St)(V':View)(K:St->View->Prop)(r':Value)(dQ:View):Prop:=
 ∃(b':Nat)(vs':List Value),(vs'≠[]->dQ.w.heap[b']?=some (.cells vs'.toArray ety (0,0)))/\(vs'≠[]->V'.w.heap.size<=b'\/wF m st β b') /\
  sh.ex fun x=>r'=(cond give (qA (dZ m d) x) x).den (bH β (dZ m d) b') /\
   dn T (XH m (dZ m d)) (bH β (dZ m d) b') dQ (B8 m L) ((oT m ety st).box (dZ m d) ⟨.aH vs',ety⟩) fun st'=>K (st'.put (some d) (cond give (qA (dZ m d) x) x)) (dQ.shut.cp (vs'≠[]) b')
def AB (bx:Nat->Option aP)(m ety:Nat):Bool:=
 match bx m with
 | some ⟨_,t⟩=>Nat.beq t ety
 | Option.none=>true
def cW (st:St)(L:List Nat)(ty:TypeId):St:=L.foldl (fun st s=>st.box s ⟨.aH [],ty⟩) st
def iL (st:St)(m:Option Nat)(d:Nat):Bool:=
 match st.boxes (dZ m d) with
 | some _=>false
 | Option.none=>true
def eE (P:Program)(T:cG)(m:CM)(f:FuncId)(xs:List SV)(ty:TypeId)(dst:Option Nat)(st:St)(V:View)(K:St->View->Prop):Prop:=
 match Th T ty with
 | Option.none=>False
 | some sh=>match reach st.boxes 3 (dedup (xs.flatMap SV.ids)) with
  | []=>match m with
   | .give=>match dst,HU T ty with
    | some d,some ety=>match iL st Option.none d with
     | false=>False
     | true=>∀V':View,V.Le V'->aa P f (aN (fun _=>0) xs) V' (bK T true sh [] Option.none d ety (fun _=>0) st V' K)
    | _,_=>False
   | .gO=>match sh,dst with
    | .val (.one .ptr),some d=>match st.boxes d with
     | some _=>False
     | Option.none=>match aB T ty with
      | some ti=>match ti.k with
       | .ptr e=>match aB T e with
        | some ei=>∀V':View,V.Le V'->aa P f (aN (fun _=>0) xs) V' fun r dQ=>∃b:Nat,Mk (ei.zero.map QK) fun cs=>
          r=.pointer (some ⟨b,0,Option.none⟩)/\V'.w.heap.size<=b/\dQ.bB b (.cells (cs.map (C.den fun _=>0)).toArray e (0,0))/\K ((st.box d ⟨.lit cs,e⟩).put (some d) (.c (.ptr d 0))) (dQ.HY b)
        | Option.none=>False
       | _=>False
      | Option.none=>False
    | _,_=>False
   | _=>∀V':View,V.Le V'->aa P f (aN (fun _=>0) xs) V' fun r dQ=>sh.ex fun x=>r=x.den (fun _=>0)/\K (st.put dst x) dQ
  | s::r=>match fZ st.boxes (s::r) with
   | false=>False
   | true=>match m with
    | .none|.gO=>False
    | .give=>match dst,HU T ty,kN xs,oY st.boxes (s::r) with
     | some d,some ety,[],[]=>match iL st Option.none d with
      | false=>False
      | true=>∀V':View,V.Le V'->kt (s::r) (fun _=>0) fun β=>gR st.boxes β V' (s::r)
       (aa P f (aN β xs) (V'.ay ((s::r).map (cJ st.boxes β V'.w.heap.size))) (bK T true sh (s::r) Option.none d ety β st V' K))
     | some d,some ety,[m],[]=>match AB st.boxes m ety with
      | true=>match iL st (some m) d with
       | false=>False
       | true=>∀V':View,V.Le V'->kt (s::r) (fun _=>0) fun β=>gR st.boxes β V' (s::r)
        (aa P f (aN β xs) (V'.ay ((s::r).map (cJ st.boxes β V'.w.heap.size))) (bK T true sh (s::r) (some m) d ety β st V' K))
      | false=>match iL (cW st (s::r) 0) Option.none d with
       | false=>False
       | true=>match (s::r).all fun t=>Nat.blt t 100000 with
        | false=>False
        | true=>∀V':View,V.Le V'->kt (s::r) (fun _=>0) fun β=>pg st.boxes β V' (s::r)
         (aa P f (aN β xs) V' (bK T true sh [] Option.none d ety (fun _=>0) (cW st (s::r) 0) V' K))
     | _,_,_,_=>False
    | .ay=>match oY st.boxes (s::r) with
     | []=>∀V':View,V.Le V'->kt (s::r) (fun _=>0) fun β=>gR st.boxes β V' (s::r)
      (aa P f (aN β xs) (V'.ay ((s::r).map (cJ st.boxes β V'.w.heap.size))) fun r' dQ=>sh.ex fun x=>r'=x.den (fun _=>0)/\dn T Option.none β dQ (s::r) st fun st'=>K (st'.put dst x) dQ.shut)
     | [m]=>match dst,jT st.boxes m with
      | some d,some ety=>match iL st (some m) d with
       | false=>False
       | true=>∀V':View,V.Le V'->kt (s::r) (fun _=>0) fun β=>gR st.boxes β V' (s::r)
        (aa P f (aN β xs) (V'.ay ((s::r).map (cJ st.boxes β V'.w.heap.size))) (bK T false sh (s::r) (some m) d ety β st V' K))
      | _,_=>False
     | _=>False
    | .rel=>match (s::r).all fun t=>Nat.blt t 100000 with
     | false=>False
     | true=>∀V':View,V.Le V'->kt (s::r) (fun _=>0) fun β=>pg st.boxes β V' (s::r)
      (aa P f (aN β xs) V' fun r' dQ=>sh.ex fun x=>r'=x.den (fun _=>0)/\∀J:C->Value,K ((st.rel (s::r) β J).put dst x) dQ)
def kW (bx:Nat->Option aP):List SV->Option (List Value×Nat×List SV)
 | []=>none
 | x::r=>match x with
  | .c (.eU s n c)=>match bx s with
   | some ⟨.aH vs,_⟩=>some (vs,c,.c (.v (.slice none n c))::r)
   | _=>none
  | x=>match kW bx r with
   | some (vs,c,r')=>some (vs,c,x::r')
   | none=>none
def jI (P:Program)(T:cG)(m:CM)(f:FuncId)(xs:List SV)(ty:TypeId)(dst:Option Nat)(st:St)(V:View)(K:St->View->Prop):Prop:=
 match m with
 | .ay=>match kW st.boxes xs with
  | some (vs,c,xs')=>(vs=[]->c=0/\eE P T .ay f xs' ty dst st V K)/\(vs≠[]->eE P T .ay f xs ty dst st V K)
  | none=>eE P T .ay f xs ty dst st V K
 | m=>eE P T m f xs ty dst st V K
def uw (ss:List Nat):List SV:=ss.map fun s=>.c (.ptr s 0)
inductive Hint where
 | free|own (l:List Nat)
def gF (op:Op):List Operand:=
 match op with
 | .load _ a=>[a]
 | .store _ a _=>[a]
 | .call ⟨.value f,args,_⟩=>args.toList++[f]
 | .call ⟨.builtin .append,args,_⟩=>args.toList
 | _=>[]
def dH (bx:Nat->Option aP)(op:Op)(l:List Nat):List Nat:=
 match op with
 | .call _=>reach bx 3 (dedup l)
 | _=>l
def D7 (P:Program)(t:TypeId)(name:String):Option FuncId:=
 match P.info? t,P.underlying t with
 | some i,some d=>match i.methods.find? (fun m=>m.name==name) with
  | some m=>match m.path.toList,m.func,d with
   | [],some (f,false),.struct _=>some f
   | _,_,_=>none
  | none=>none
 | _,_=>none
def cF (P:Program)(T:cG)(m:CM)(o:Oper)(st:St)(V:View)(K:St->View->Prop):Prop:=
 match o.op with
 | .call ⟨.value JD,args,_⟩=>match bO st.aY args.toList with
  | some xs=>match st.aY JD with
   | some (.c (.jY f ss))=>jI P T m f (xs++uw ss) o.type o.dst st V K
   | _=>False
  | none=>False
 | .call ⟨.invoke recv name,args,_⟩=>match bO st.aY args.toList with
  | some xs=>match st.aY recv with
   | some (.c (.w (.iface t v)))=>match D7 P t name with
    | some f=>jI P T m f (.c (.w v)::xs) o.type o.dst st V K
    | none=>False
   | _=>False
  | none=>False
 | op=>sO (aK T st.aY st.boxes op) o.dst st V K
def cw (P:Program)(T:cG)(m:CM)(h:Hint)(o:Oper)(st:St)(V:View)(K:St->View->Prop):Prop:=
 match h with
 | .free=>cF P T m o st V K
 | .own l=>match bO st.aY (gF o.op) with
  | some xs=>match Jk (dH st.boxes o.op (xs.flatMap SV.ids)) l with
   | true=>cF P T m o st V K
   | false=>False
  | none=>False
def iT:SV:=.oC []
def pJ (P:Program)(T:cG)(m:CM)(h:Hint)(ops:Array Oper)(o:Oper)(st:St)(V:View)(K:St->View->Prop):Prop:=
 match o.guard with
 | none=>cw P T m h o st V K
 | some (j,b)=>match (ops[j]?).bind (·.dst) with
  | none=>False
  | some g=>match st.ax g with
   | some (.c .tt)=>match b with
    | true=>cw P T m h o st V K
    | false=>K (st.put o.dst iT) V
   | some (.c .ff)=>match b with
    | true=>K (st.put o.dst iT) V
    | false=>cw P T m h o st V K
   | some (.c (.v (.bool c)))=>match b with
    | true=>(c=true->cw P T m h o (st.put (some g) (.c .tt)) V K)/\(c=false->K ((st.put (some g) (.c .ff)).put o.dst iT) V)
    | false=>(c=true->K ((st.put (some g) (.c .tt)).put o.dst iT) V)/\(c=false->cw P T m h o (st.put (some g) (.c .ff)) V K)
   | some (.oC _)=>K (st.put o.dst iT) V
   | _=>False
inductive QO where
 | pure|load|store|alloc|call|ka|odd|gO|app|give
def aZ (LF RF:List Nat):Op->QO
 | .move _|.assign _|.pick ..| .build ..| .nilCheck _|.binOp ..| .unOp ..| .convert ..| .makeFunc ..| .slice ..| .fieldAddr ..| .field ..| .indexAddr ..| .extract ..| .index ..| .makeInterface ..=>.pure
 | .load ..=>.load
 | .store ..=>.store
 | .alloc _|.box ..| .buildSlice ..| .makeSlice ..=>.alloc
 | .call ⟨.builtin .len,_,_⟩|.call ⟨.builtin .cap,_,_⟩=>.pure
 | .call ⟨.builtin .append,_,_⟩=>.app
 | .call ⟨.value (.func f),_,_⟩=>match dS f LF with
  | true=>match dS (f+1000000) LF with
   | true=>.give
   | false=>.ka
  | false=>match dS f RF with
   | true=>.odd
   | false=>match dS (f+1000000) RF with
    | true=>.gO
    | false=>.call
 | .call ⟨.value _,_,_⟩=>.ka
 | .call ⟨.invoke _ _,_,_⟩=>.call
 | _=>.odd
def gG (op:Op):List Nat:=op.operands.toList.filterMap fun|.tmp t=>some t|_=>none
def cZ (ops:Array Oper)(o:Oper):List Nat:=
 match o.guard with
 | none=>[]
 | some (j,_)=>match (ops[j]?).bind (·.dst) with
  | some g=>[g]
  | none=>[]
def dm (o:Oper):List Nat:=match o.dst with|some d=>[d]|none=>[]
def pv (c:QO)(h:Hint)(d:List Nat):Option (List Nat×List Nat):=
 match c,h with
 | .pure,.free=>some ([],[])
 | .call,.free=>some ([],[])
 | .alloc,.free=>some (d,d)
 | .load,.own l=>some (l,[])
 | .store,.own l=>some (l,l)
 | .ka,.own l=>some (l,l++d++d.map (·+ 200000))
 | .app,.own l=>some (l,l++d++d.map (·+ 200000))
 | .give,.own l=>some (l,l++d++d.map (·+ 200000))
 | _,_=>none
def lV:QO->Bool
 | .pure|.load|.store|.alloc=>true
 | _=>false
def indep (LF RF:List Nat)(ops:Array Oper)(h1 h2:Hint)(o1 o2:Oper):Bool:=
 lV (aZ LF RF o1.op) &&
 uz (dm o1) (gG o2.op++cZ ops o2++dm o2)&&uz (dm o2) (gG o1.op++cZ ops o1) &&
 uz (cZ ops o1) (gG o2.op)&&uz (cZ ops o2) (gG o1.op) &&
 match pv (aZ LF RF o1.op) h1 (dm o1),pv (aZ LF RF o2.op) h2 (dm o2) with
 | some (r1,w1),some (r2,w2)=>uz w1 r2&&uz w2 r1&&uz w1 w2
 | _,_=>false
def Ox (ops:List Oper)(t:Nat):Option Oper:=ops.find? fun o=>match o.dst with|some d=>Nat.beq d t|none=>false
def vE (st:St)(ops:List Oper):Nat->Operand->List Nat
 | 0,_=>[]
 | n+1,.tmp t=>match Ox ops t with
  | some o=>match o.op with
   | .alloc _|.box ..| .buildSlice ..| .makeSlice ..=>[t]
   | .call _=>[t,t+200000]
   | .assign x=>vE st ops n x++match st.ax t with
    | some x=>x.ids
    | none=>[]
   | .load _ a=>(vE st ops n a).flatMap (kv st.boxes)
   | op=>op.operands.toList.flatMap (vE st ops n)
  | none=>match st.ax t with
   | some x=>x.ids
   | none=>[]
 | _,_=>[]
def HZ (LF RF:List Nat)(st:St)(ops:List Oper)(o:Oper):Hint:=
 match aZ LF RF o.op with
 | .load|.store=>.own (dedup ((gF o.op).flatMap (vE st ops 10)))
 | .ka|.app|.give=>.own (reach st.boxes 3 (dedup ((gF o.op).flatMap (vE st ops 10))))
 | _=>.free
def FV (ops:List Oper):List Nat:=
 ops.foldl (fun acc o=>acc++[o.after.toList.foldl (fun s e=>cond (Region.binds .any e) (Nat.lor (Nat.lor (Nat.shiftLeft 1 e.on) (acc.getD e.on 0)) s) s) 0]) []
def Mf (m i:Nat):Bool:=Nat.beq (Nat.land (Nat.shiftRight m i) 1) 1
def Kk (LF RF:List Nat)(o:Oper):Bool:=match aZ LF RF o.op with|.call|.ka|.odd|.gO|.app|.give=>true|_=>false
def Ej (ops:Array Oper)(done:List Nat)(i:Nat):Bool:=
 match ops[i]? with
 | some o=>!(dS i done)&&o.after.toList.all fun e=>!(Region.binds .any e)||dS e.on done
 | none=>false
def AF (LF RF:List Nat)(ops:Array Oper):Nat->List Nat->List Nat
 | 0,_=>[]
 | n+1,done=>
  let rs:=(List.range ops.size).filter (Ej ops done)
  match rs.find? (fun i=>match ops[i]? with|some o=>!(Kk LF RF o)|none=>false) with
  | some i=>i::AF LF RF ops n (i::done)
  | none=>match rs with
   | i::_=>i::AF LF RF ops n (i::done)
   | []=>[]
def nS (LF RF:List Nat)(ops:Array Oper):List Nat:=AF LF RF ops ops.size []
def tH (LF RF:List Nat)(ops:Array Oper)(hs:List Hint)(an:List Nat):List Nat->Bool
 | []=>true
 | i::r=>(r.all fun j=>Mf (an.getD j 0) i||match ops[i]?,ops[j]? with|some a,some b=>indep LF RF ops (hs.getD i .free) (hs.getD j .free) a b|_,_=>false)&&tH LF RF ops hs an r
def o_ (ops:Array Oper):List Nat->List Nat->Bool
 | _,[]=>true
 | done,i::r=>Ej ops done i&&o_ ops (i::done) r
def Fk (LF RF:List Nat)(ops:Array Oper)(hs:List Hint)(l:List Nat):Bool:=
 Nat.beq l.length ops.size&&((List.range ops.size).all fun i=>dS i l)&&o_ ops [] l&&tH LF RF ops hs (FV ops.toList) l
def Js (P:Program)(T:cG)(m:Nat->CM)(hint:Nat->Hint)(ops:Array Oper):List Nat->St->View->(St->View->Prop)->Prop
 | [],st,V,K=>K st V
 | i::r,st,V,K=>match ops[i]? with
  | some o=>pJ P T (m i) (hint i) ops o st V fun st' V'=>Js P T m hint ops r st' V' K
  | none=>False
def jB (LF RF:List Nat)(ops:Array Oper)(i:Nat):CM:=
 match ops[i]? with
 | some o=>match aZ LF RF o.op with
  | .ka=>.ay
  | .odd=>.rel
  | .gO=>.gO
  | .give=>.give
  | _=>.none
 | Option.none=>.none
def Pl (LF RF:List Nat)(ops:Array Oper)(i:Nat):CM:=
 match ops[i]? with
 | some o=>match aZ LF RF o.op with
  | .ka=>.ay
  | .gO=>.gO
  | .give=>.give
  | _=>.rel
 | Option.none=>.none
structure Tm where
 τ:Type
 gh:Bool:=false
 Sg:List Nat
 O5:List Nat
 ax:τ->List (Nat×SV)
 boxes:τ->List (Nat×aP)
structure L1 where
 τ:Type
 ax:τ->List (Nat×SV)
 boxes:τ->List (Nat×aP)
def Fb {α:Type}(f:Nat->Option α):List Nat->List (Nat×α)
 | []=>[]
 | t::r=>match f t with
  | some x=>(t,x)::Fb f r
  | none=>Fb f r
def Tm.at (A:Tm)(st:St):L1:=⟨A.τ,fun x=>Fb st.ax A.Sg++A.ax x,fun x=>Fb st.boxes A.O5++A.boxes x⟩
def nI (ρ:List (Nat×Nat))(s s':Nat):Bool:=
 match aB ρ s' with
 | some t=>Nat.beq s t
 | none=>Nat.beq s s'
def yL (ρ:List (Nat×Nat)):List Nat->List Nat->Bool
 | [],[]=>true
 | s::r,s'::r'=>nI ρ s s'&&yL ρ r r'
 | _,_=>false
def Qr (ρ:List (Nat×Nat)):C->C->List Prop
 | .v (.int k a),.v (.int k' b)=>cond (uT k k') [a=b] [False]
 | .v (.bool a),.v (.bool b)=>[a=b]
 | .tt,.v (.bool b)=>[true=b]
 | .ff,.v (.bool b)=>[false=b]
 | .v (.slice a n c),.v (.slice a' n' c')=>[a=a',n=n',c=c']
 | .v (.slice a n c),.eU _ n' c'=>[a=none,n=n',c=c',c=0]
 | .v (.pointer p),.v (.pointer q)=>[p=q]
 | .v x,.v y=>[x=y]
 | .w x,.w y=>[x=y]
 | .w x,.v y=>[x=y]
 | .v x,.w y=>[x=y]
 | .tt,.tt=>[]
 | .ff,.ff=>[]
 | .ptr s o,.ptr s' o'=>cond (nI ρ s s') [o=o'] [False]
 | .gH s o n c,.gH s' o' n' c'=>cond (nI ρ s s') [o=o',n=n',c=c'] [False]
 | .gH s o n c,.eU s' n' c'=>cond (nI ρ s s') [o=0,n=n',c=c',c≠0] [False]
 | .eU s n c,.eU s' n' c'=>cond (nI ρ s s') [n=n',c=c'] [False]
 | .jY f ss,.jY g ts=>cond (yL ρ ss ts) [f=g] [False]
 | _,_=>[False]
def DR (ρ:List (Nat×Nat)):List C->List C->List Prop
 | [],[]=>[]
 | a::r,b::s=>Qr ρ a b++DR ρ r s
 | _,_=>[False]
def Mj (ρ:List (Nat×Nat)):SV->SV->List Prop
 | .c a,.c b=>Qr ρ a b
 | .agg l,.agg m=>DR ρ l m
 | _,_=>[False]
def SV.plain:SV->Bool
 | .oC _=>false
 | _=>true
def HM (ρ:List (Nat×Nat))(a b:aP):List Prop:=
 match a.cs,b.cs with
 | .lit l,.lit m=>cond (Nat.beq a.ty b.ty) (DR ρ l m) [False]
 | .row l,.row m=>cond (Nat.beq a.ty b.ty) [l=m] [False]
 | .aH l,.aH m=>cond (Nat.beq a.ty b.ty) [l=m] [False]
 | .row l,.aH m=>cond (Nat.beq a.ty b.ty) [l=m] [False]
 | .lit l,.aH m=>match jv l with
  | some ws=>cond (Nat.beq a.ty b.ty) [ws=m] [False]
  | none=>[False]
 | .lit l,.row m=>match jv l with
  | some ws=>cond (Nat.beq a.ty b.ty) [ws=m] [False]
  | none=>[False]
 | _,_=>[False]
def PU:C->C->List (Nat×Nat)
 | .ptr s _,.ptr s' _=>[(s',s)]
 | .gH s _ _ _,.gH s' _ _ _=>[(s',s)]
 | .gH s _ _ _,.eU s' _ _=>[(s',s)]
 | .eU s _ _,.eU s' _ _=>[(s',s)]
 | .jY _ ss,.jY _ ts=>ts.zip ss
 | _,_=>[]
def I8:List C->List C->List (Nat×Nat)
 | a::r,b::s=>PU a b++I8 r s
 | _,_=>[]
def PV:SV->SV->List (Nat×Nat)
 | .c a,.c b=>PU a b
 | .agg l,.agg m=>I8 l m
 | _,_=>[]
def M_ (st:St):List (Nat×SV)->List (Nat×Nat)
 | []=>[]
 | (t,x)::r=>match st.ax t with
  | some y=>PV y x++M_ st r
  | none=>M_ st r
def GO (st:St)(ρ:List (Nat×Nat)):List (Nat×aP)->List (Nat×Nat)
 | []=>[]
 | (t,x)::r=>match aB ρ t with
  | some s=>match st.boxes s with
   | some y=>(match y.cs,x.cs with|.lit l,.lit m=>I8 l m|_,_=>[])++GO st ρ r
   | none=>GO st ρ r
  | none=>GO st ρ r
def I7 (st:St)(ss:List (Nat×SV))(bs:List (Nat×aP)):List (Nat×Nat):=
 let ρ1:=M_ st ss
 let ρ2:=ρ1++GO st ρ1 bs
 let ρ3:=ρ2++GO st ρ2 bs
 ρ3++GO st ρ3 bs
def Az (ρ:List (Nat×Nat))(t:Nat):Nat:=
 match aB ρ t with
 | some s=>s
 | none=>t
def zo (ρ:List (Nat×Nat)):List Nat->Bool
 | []=>true
 | t::r=>(Nat.blt t 100000==Nat.blt (Az ρ t) 100000)&&(Nat.blt t 100000||Nat.ble 200000 t||Nat.beq (Az ρ t) t)&&(r.all fun u=>!(Nat.beq (Az ρ t) (Az ρ u)))&&zo ρ r
def lZ (ρ:List (Nat×Nat)):List (Nat×aP)->List Nat
 | []=>[]
 | (t,x)::r=>match x.cs with
  | .aH _=>match aB ρ t with
   | some _=>t::lZ ρ r
   | none=>lZ ρ r
  | _=>t::lZ ρ r
def J4 (ρ:List (Nat×Nat))(st:St):List (Nat×SV)->List Prop
 | []=>[]
 | (t,x)::r=>match st.ax t with
  | some y=>Mj ρ y x++J4 ρ st r
  | none=>[False]
def Gh (ρ:List (Nat×Nat))(st:St):List (Nat×aP)->List Prop
 | []=>[]
 | (t,x)::r=>match x.cs,aB ρ t with
  | .aH l,none=>(l=[])::Gh ρ st r
  | _,_=>match st.boxes (Az ρ t) with
   | some y=>HM ρ y x++Gh ρ st r
   | none=>[False]
def Ow (ρ:List (Nat×Nat))(bs:List (Nat×aP)):List Prop:=cond (zo ρ (lZ ρ bs)) [] [False]
def mi (ss:List (Nat×SV))(bs:List (Nat×aP)):Bool:=
 let l:=bs.map (·.1)
 (ss.all fun x=>x.2.ids.all fun s=>dS s l)&&(bs.all fun x=>x.2.cs.ids.all fun s=>dS s l)
def L1.st (A:L1)(x:A.τ):St:=⟨aB (A.ax x),aB (A.boxes x)⟩
def Mc:List Prop->Prop
 | []=>True
 | [p]=>p
 | p::r=>p/\Mc r
def L1.fits (A:L1)(st:St)(x:A.τ)(k:Prop):Prop:=
 let ρ:=I7 st (A.ax x) (A.boxes x)
 Mc (J4 ρ st (A.ax x)++Gh ρ st (A.boxes x)++Ow ρ (A.boxes x))/\k
def keyOf:Code->Nat
 | .region id _ _=>id
 | .seq a _=>keyOf a
 | .cond _ a b=>match keyOf a with
  | 1000000=>keyOf b
  | n=>n
 | .block _ a=>keyOf a
 | .loop a=>keyOf a
 | .scope a=>keyOf a
 | _=>1000000
abbrev Be:=List (Nat×Tm)
def oF:Be->Nat->Option Tm
 | [],_=>none
 | (s,x)::r,t=>cond (Nat.beq t s) (some x) (oF r t)
def LM (RF:List Nat)(id:Nat):List Nat:=RF.filterMap fun x=>cond (Nat.beq (x / 100000) (100+id)) (some (x%100000)) none
def FL (l:List Nat)(st:St)(V:View)(K:St->View->Prop):Prop:=
 match l with
 | []=>K st V
 | s::r=>match fZ st.boxes (s::r)&&(s::r).all fun t=>Nat.blt t 100000 with
  | false=>False
  | true=>∀V':View,V.Le V'->kt (s::r) (fun _=>0) fun β=>pg st.boxes β V' (s::r) (∀J:C->Value,K (st.rel (s::r) β J) V')
def CN (P:Program)(T:cG)(LF RF:List Nat)(ops:Array Oper)(draw:Bool)(st:St)(V:View)(K:St->View->Prop):Prop:=
 match draw with
 | false=>Js P T (Pl LF RF ops) (fun _=>.free) ops (List.range ops.size) st V K
 | true=>let hs:=ops.toList.map (HZ LF RF st ops.toList)
  match Fk LF RF ops hs (nS LF RF ops) with
  | true=>Js P T (jB LF RF ops) (fun i=>hs.getD i .free) ops (nS LF RF ops) st V K
  | false=>False
def Tn (F:St->View->(Exit->St->View->Prop)->Prop):Nat->St->View->(Exit->St->View->Prop)->Prop
 | 0,_,_,_=>False
 | n+1,st,V,K=>F st V fun e st' V'=>match e with
  | .normal=>Tn F n st' V' K
  | e=>K e st' V'
def vc (P:Program)(T:cG)(LF RF:List Nat)(L J:Be):Code->St->View->(Exit->St->View->Prop)->Prop
 | .skip,st,V,K=>K .normal st V
 | .region id ops draw,st,V,K=>match oF J (600000+id) with
  | none=>FL (LM RF id) st V fun st' V'=>CN P T LF RF ops draw st' V' (K .normal)
  | some A=>∃I:A.τ->View->Prop,FL (LM RF id) st V (fun st' V'=>CN P T LF RF ops draw st' V' fun Jf dQ=>∃x,(A.at st).fits Jf x (I x dQ)) /\
   ∀x V',V.Le V'->I x V'->(mi ((A.at st).ax x) ((A.at st).boxes x)=true/\K .normal ((A.at st).st x) V')
 | .seq a b,st,V,K=>vc P T LF RF L J a st V fun e st' V'=>match e with
  | .normal=>vc P T LF RF L J b st' V' K
  | e=>K e st' V'
 | .cond c a b,st,V,K=>match oF J (keyOf (.cond c a b)) with
  | none=>match st.aY c with
   | some (.c .tt)=>vc P T LF RF L J a st V K
   | some (.c .ff)=>vc P T LF RF L J b st V K
   | some (.c (.v (.bool t)))=>(t=true->vc P T LF RF L J a st V K)/\(t=false->vc P T LF RF L J b st V K)
   | _=>False
  | some A=>match st.aY c with
   | some (.c .tt)=>vc P T LF RF L J a st V K
   | some (.c .ff)=>vc P T LF RF L J b st V K
   | some (.c (.v (.bool t)))=>∃I:A.τ->View->Prop,
    ((t=true->vc P T LF RF L J a st V fun e st' V'=>match e with
     | .normal=>∃x,(A.at st).fits st' x (I x V')
     | e=>K e st' V') /\
      (t=false->vc P T LF RF L J b st V fun e st' V'=>match e with
     | .normal=>∃x,(A.at st).fits st' x (I x V')
     | e=>K e st' V')) /\
    ∀x V',V.Le V'->I x V'->(mi ((A.at st).ax x) ((A.at st).boxes x)=true/\K .normal ((A.at st).st x) V')
   | _=>False
 | .block id a,st,V,K=>match oF J (500000+id) with
  | none=>vc P T LF RF L J a st V fun e st' V'=>match e with
   | .exit i=>cond (Nat.beq i id) (K .normal st' V') (K (.exit i) st' V')
   | e=>K e st' V'
  | some A=>∃I:A.τ->View->Prop,vc P T LF RF L J a st V (fun e st' V'=>match e with
   | .exit i=>cond (Nat.beq i id) (∃x,(A.at st).fits st' x (I x V')) (K (.exit i) st' V')
   | .normal=>∃x,(A.at st).fits st' x (I x V')
   | e=>K e st' V')/\∀x V',V.Le V'->I x V'->(mi ((A.at st).ax x) ((A.at st).boxes x)=true/\K .normal ((A.at st).st x) V')
 | .loop a,st,V,K=>match oF L (keyOf a) with
  | none=>Tn (fun st V K=>vc P T LF RF L J a st V K) 3 st V K
  | some A=>match A.gh with
   | false=>∃(I:A.τ->View->Prop)(m:A.τ->Nat),(∃x,(A.at st).fits st x (I x V))/\∀x V',V.Le V'->I x V'->(mi ((A.at st).ax x) ((A.at st).boxes x)=true /\
    vc P T LF RF L J a ((A.at st).st x) V' fun e st' dQ=>match e with
     | .normal=>∃y,m y<m x/\(A.at st).fits st' y (I y dQ)
     | e=>K e st' dQ)
   | true=>∃I:A.τ->Nat->View->Prop,(∃x k,(A.at st).fits st x (I x k V))/\∀x k V',V.Le V'->I x k V'->(mi ((A.at st).ax x) ((A.at st).boxes x)=true /\
    vc P T LF RF L J a ((A.at st).st x) V' fun e st' dQ=>match e with
     | .normal=>∃y k',k'<k/\(A.at st).fits st' y (I y k' dQ)
     | e=>K e st' dQ)
 | .exit id,st,V,K=>K (.exit id) st V
 | .ret,st,V,K=>K .ret st V
 | .scope a,st,V,K=>vc P T LF RF L J a st V fun e st' V'=>match e with
  | .goto _=>False
  | e=>K e st' V'
 | .label _,st,V,K=>K .normal st V
 | _,_,_,_=>False
def kV (T:cG)(st:St):List ResultVar->Option (List SV)
 | []=>some []
 | .tmp t::r=>match st.ax t,kV T st r with
  | some x,some l=>some (x::l)
  | _,_=>none
 | .cell a t::r=>match st.ax a,aB T t,kV T st r with
  | some (.c (.ptr s o)),some i,some l=>match iO st.boxes i (.c (.ptr s o)) with
   | .ret _ x=>some (x::l)
   | _=>none
  | _,_,_=>none
def minus (l m:List Nat):List Nat:=l.filter fun x=>!(dS x m)
def Ho (bx:Nat->Option aP)(β:Nat->Nat)(V:View):List Nat->Prop->Prop
 | [],k=>k
 | s::r,k=>match bx s with
  | some ⟨.aH _,_⟩=>False
  | some b=>V.w.heap[β s]?=some (b.obj β)->Ho bx β V r k
  | none=>False
def iX:List (Nat×aP)->List Nat
 | []=>[]
 | (s,b)::r=>match b.cs with
  | .aH _=>iX r
  | _=>s::iX r
def Im (bs:List (Nat×aP))(β0:Nat->Nat)(b:Nat)(k:Prop):Prop:=
 match bs with
 | []=>k
 | (m,x)::r=>match x.cs with
  | .aH vs=>(vs≠[]/\b=β0 m)\/Im r β0 b k
  | _=>Im r β0 b k
def kU (β:Nat->Nat):List SV->Value
 | [x]=>x.den β
 | l=>.tuple (l.map (SV.den β)).toArray
def rW (T:cG)(bx:Nat->Option aP)(s:Nat):Bool:=
 cond (Nat.ble 100000 s) true (match bx s with|some ⟨.row _,ty⟩|some ⟨.aH _,ty⟩=>Nat.ble 2 (T.filter fun x=>Nat.beq x.1 ty).length|some ⟨.lit _,ty⟩=>Nat.ble 3 (T.filter fun x=>Nat.beq x.1 ty).length|_=>false)
def Fu (T:cG)(rs:List ResultVar)(bs:List (Nat×aP))(β0:Nat->Nat)(n0:Nat)(R:Value->View->Prop)(st:St)(V:View):Prop:=
 match kV T st rs with
 | none=>False
 | some xs=>let F:=iX bs
  let L:=reach st.boxes 3 (dedup (xs.flatMap SV.ids++F))
  match fZ st.boxes L with
  | false=>False
  | true=>match (minus L F).filter (rW T st.boxes) with
   | []=>∀V':View,V.Le V'->kt (minus L F) β0 fun β=>Ho st.boxes β V' F (pg st.boxes β V' (minus L F) (R (kU β xs) V'))
   | [s]=>match st.boxes s with
    | some b=>∀V':View,kt (minus L F) β0 fun β=>V.Le (V'.cp (Rp b) (β s))->Ho st.boxes β V' F (oV (G6 b) (V'.w.heap[β s]?=some (b.obj β)) ->
      oV (G6 b) (n0<=β s\/Im bs β0 (β s) False)->pg st.boxes β V' ((minus L F).filter (!Nat.beq s ·)) (R (kU β xs) V'))
    | none=>False
   | _=>False
def Tq (P:Program)(T:cG)(LF RF:List Nat)(L J:Be)(code:Code)(rs:List ResultVar)(ss:List (Nat×SV))(bs:List (Nat×aP))(β0:Nat->Nat)(V:View)(R:Value->View->Prop):Prop:=
 vc P T LF RF L J code ⟨aB ss,aB bs⟩ V fun e st V'=>match e with
  | .normal=>Fu T rs bs β0 V.w.heap.size R st V'
  | .ret=>Fu T rs bs β0 V.w.heap.size R st V'
  | _=>False
def gD (n:Nat):Code->Bool
 | .region _ ops _=>ops.toList.all fun o=>match o.dst with|some d=>Nat.blt d n|none=>true
 | .seq a b=>gD n a&&gD n b
 | .cond _ a b=>gD n a&&gD n b
 | .block _ a=>gD n a
 | .loop a=>gD n a
 | .scope a=>gD n a
 | _=>true
def mJ:Nat->List (Nat×SV)->Bool
 | _,[]=>true
 | i,(j,x)::r=>Nat.beq i j&&x.plain&&mJ (i+1) r
def AJ (P:Program)(T:cG)(LF RF:List Nat)(L J:Be)(fn:Func)(ss:List (Nat×SV))(bs:List (Nat×aP))(β0:Nat->Nat)(V:View)(R:Value->View->Prop):Prop:=
 match fn.body with
 | some code=>match gD fn.ntmps code&&mJ 0 ss&&Nat.ble ss.length fn.ntmps&&Nat.ble fn.ntmps 100000&&(bs.all fun b=>Nat.ble 100000 b.1&&Nat.blt b.1 200000)&&mi ss bs with
  | true=>Tq P T LF RF L J code fn.results.toList ss bs β0 V R
  | false=>False
 | none=>False
theorem View.Le.refl (V:View):V.Le V:=fun _ _ h=>h
theorem View.Le.trans {V V' dQ:View}(h:V.Le V')(k:V'.Le dQ):V.Le dQ:=fun b o x=>k b o (h b o x)
theorem View.Le.at {V V':View}(h:V.Le V'){p:Addr}{v:Value}(k:V.at p v):V'.at p v:=by
 obtain ⟨b,a⟩:=k;unfold World.cell? at a;split at a
 ·rename_i c;obtain ⟨d,e⟩:=h p.block _ ⟨b,c⟩;refine ⟨d,?_⟩;unfold World.cell?;rw [e];exact a
 ·cases a
theorem gV.refl (X:Nat->Prop)(w:World):gV X w w:=⟨Qq3 _,fun _ _ _=>rfl,rfl,rfl,rfl⟩
theorem gV.trans {X:Nat->Prop}{a b c:World}(h:gV X a b)(k:gV X b c):gV X a c:=
 ⟨Qx6 h.size k.size,fun i d e=>(k.bB i (Qx7 d h.size) e).trans (h.bB i d e),k.os.trans h.os,k.tape.trans h.tape,k.out.trans h.out⟩
theorem gV.mono {X Y:Nat->Prop}{a b:World}(h:gV X a b)(hxy:∀i,X i->Y i):gV Y a b:=
 ⟨h.size,fun i c d=>h.bB i c fun e=>d (hxy i e),h.os,h.tape,h.out⟩
theorem View.Pa (V:View)(w':World)(hx:gV V.X V.w w'):V.Le (V.to w' hx.size):=by
 rintro b o ⟨d,a⟩;refine ⟨d,?_⟩
 have c:b<V.w.heap.size:=by
  rcases Qy9 b V.w.heap.size with h|h
  ·exact h
  ·rw [Qn8 h] at a;cases a
 show w'.heap[b]?=some o;rw [hx.bB b c fun hX=>d (V.hX b hX)];exact a
theorem aa.mono {P:Program}{f:FuncId}{args:Array Value}{V:View}{R R':Value->View->Prop}(h:aa P f args V R)
  (hR:∀r V',V.Le V'->R r V'->R' r V'):aa P f args V R':=
 ⟨h.1,h.2.mono fun _ b ⟨r,he,a,c⟩=>⟨r,he,a,hR r _ (V.Pa b a) c⟩⟩
structure Dn where
 ids:List Nat
 B:Nat->Prop
section
variable (n:Nat) (V0:View) (bu:Dn) (β0:Nat->Nat)
structure Mod (st:St) (β:Nat->Nat) (a:Act) (w:World) (V:View):Prop where
 defers:a.defers=[]
 size:a.tmps.size=n
 ax:∀t x,st.ax t=some x->a.tmps.getD t undef=x.den β
 wQ:∀t x,st.ax t=some x->∀s∈x.ids,∃b,st.boxes s=some b
 wP:∀s b,st.boxes s=some b->∀s'∈b.cs.ids,∃b',st.boxes s'=some b'
 boxes:∀s b,st.boxes s=some b->b.live->w.heap[β s]?=some (b.obj β)
 inj:∀s s' b b',st.boxes s=some b->b.live->st.boxes s'=some b'->b'.live->β s=β s'->s=s'
 nt:∀b o,V.bB b o->w.heap[b]?=some o/\¬V0.H b
 sJ:∀s b,st.boxes s=some b->b.live->∀o,¬V.bB (β s) o
 ext:gV V0.X V0.w w
 own:∀s b,st.boxes s=some b->b.live->V0.w.heap.size<=β s\/(100000<=s/\bu.B (β s))
 ku:∀s∈bu.ids,(100000<=s/\s<200000)/\β s=β0 s
 jx:∀b,bu.B b->V0.X b
 small:n<=100000
end
theorem cq {cs:List C}{ty:TypeId}:aP.live ⟨.lit cs,ty⟩:=fun _ h=>nomatch h
theorem bY {vs:List Value}{ty:TypeId}:aP.live ⟨.row vs,ty⟩:=fun _ h=>nomatch h
theorem dI {vs:List Value}{ty:TypeId}(h:vs≠[]):aP.live ⟨.aH vs,ty⟩:=fun _ e=>by cases e;exact h
theorem d_ {ty:TypeId}:¬aP.live ⟨.aH [],ty⟩:=fun h=>h [] rfl rfl
theorem eA {b:aP}{k:Prop}:oV (G6 b) k↔(b.live->k):=by
 obtain ⟨cs,ty⟩:=b
 cases cs with
 | lit cs=>exact ⟨fun h _=>h,fun h=>h cq⟩
 | row cs=>exact ⟨fun h _=>h,fun h=>h bY⟩
 | aH vs=>exact ⟨fun h l=>h (l vs rfl),fun h l=>h (dI l)⟩
theorem rK {l m:List Prop}{k:Prop}:oV (l++m) k↔oV l (oV m k):=by
 induction l with
 | nil=>exact Iff.rfl
 | cons p r ih=>exact ⟨fun h a=>ih.1 (h a),fun h a=>ih.2 (h a)⟩
theorem J7 {b:aP}:Rp b↔b.live:=by
 obtain ⟨cs,ty⟩:=b
 cases cs with
 | lit cs=>exact ⟨fun _=>cq,fun _=>trivial⟩
 | row cs=>exact ⟨fun _=>bY,fun _=>trivial⟩
 | aH vs=>exact ⟨fun h=>dI h,fun l=>l vs rfl⟩
theorem C.bC {β β':Nat->Nat}{c:C}(h:∀s∈c.ids,β s=β' s):c.den β=c.den β':=by
 cases c with
 | v x=>rfl
 | w x=>rfl
 | tt=>rfl
 | ff=>rfl
 | ptr s o=>simp [C.den,h s (by simp [C.ids])]
 | gH s o n c=>simp [C.den,h s (by simp [C.ids])]
 | eU s n c=>simp [C.den,h s (by simp [C.ids])]
 | jY f ss=>
  have:(ss.map fun s=>Value.pointer (some ⟨β s,0,none⟩))=ss.map fun s=>Value.pointer (some ⟨β' s,0,none⟩):=
   Qj8 fun s a=>by rw [h s (by simpa [C.ids] using a)]
  simp only [C.den,this]
theorem kI {β β':Nat->Nat}{cs:List C}(h:∀s∈cs.flatMap C.ids,β s=β' s):cs.map (C.den β)=cs.map (C.den β'):=
 Qj8 fun c a=>C.bC fun s b=>h s (Qw6.2 ⟨c,a,b⟩)
theorem xn {β β':Nat->Nat}{x:Bool×List C}(h:∀s∈x.2.flatMap C.ids,β s=β' s):gY β x=gY β' x:=by
 obtain ⟨b,cs⟩:=x
 cases b with
 | true=>simp only [gY];rw [kI h]
 | false=>
  match cs,h with
  | [],_=>rfl
  | [c],h=>simp only [gY];exact C.bC fun s a=>h s (by simpa using a)
  | _::_::_,_=>rfl
theorem SV.bC {β β':Nat->Nat}{x:SV}(h:∀s∈x.ids,β s=β' s):x.den β=x.den β':=by
 cases x with
 | c x=>exact C.bC h
 | agg cs=>simp only [SV.den];rw [kI h]
 | oC xs=>
  simp only [SV.den];congr 2;exact Qj8 fun x a=>xn fun s b=>h s (Qw6.2 ⟨x,a,b⟩)
theorem Cells.bC {β β':Nat->Nat}{x:Cells}(h:∀s∈x.ids,β s=β' s):x.den β=x.den β':=by
 cases x with
 | lit cs=>exact kI h
 | row vs=>rfl
 | aH vs=>rfl
theorem aP.cA {β β':Nat->Nat}{x:aP}(h:∀s∈x.cs.ids,β s=β' s):x.obj β=x.obj β':=by
 simp only [aP.obj];rw [Cells.bC h]
variable {P:Program} {T:cG} {n:Nat} {V0:View} {bu:Dn} {β0:Nat->Nat} {st:St} {β:Nat->Nat} {a:Act} {w:World} {V:View}
theorem Mod.eval (h:Mod n V0 bu β0 st β a w V){x:Operand}{v:SV}(hx:st.aY x=some v):a.eval x=v.den β:=by
 cases x with
 | tmp t=>exact h.ax t v hx
 | const c=>
  simp only [St.aY,Qq4] at hx;subst hx;simp only [Act.eval];unfold SV.ofConst;split
  ·rfl
  ·rfl
  ·rename_i cs;simp only [SV.den];congr 1
   have:∀l:List Value,(l.map C.ofConst).map (C.den β)=l:=by
    intro l
    induction l with
    | nil=>rfl
    | cons y r ih=>
     simp only [Qb9,ih];congr 1;unfold C.ofConst;split<;>rfl
   rw [this]
  ·rfl
 | global g=>simp only [St.aY,Qq4] at hx;subst hx;rfl
 | func f=>simp only [St.aY,Qq4] at hx;subst hx;simp [Act.eval,SV.den,C.den]
theorem Mod.live (h:Mod n V0 bu β0 st β a w V){x:Operand}{v:SV}(hx:st.aY x=some v):∀s∈v.ids,∃b,st.boxes s=some b:=by
 cases x with
 | tmp t=>exact h.wQ t v hx
 | const c=>
  simp only [St.aY,Qq4] at hx;subst hx;intro s d;exfalso
  have e:∀y,(C.ofConst y).ids=[]:=by
   intro y;unfold C.ofConst;split<;>rfl
  unfold SV.ofConst at d;split at d
  ·simp [SV.ids,C.ids] at d
  ·simp [SV.ids,C.ids] at d
  ·obtain ⟨c,i,d⟩:=Qw6.1 d;obtain ⟨y,_,rfl⟩:=Qy5.1 i;rw [e] at d;cases d
  ·simp [SV.ids,C.ids] at d
 | global g=>simp only [St.aY,Qq4] at hx;subst hx;intro s d;simp [SV.ids,C.ids] at d
 | func f=>simp only [St.aY,Qq4] at hx;subst hx;intro s d;simp [SV.ids,C.ids] at d
theorem beq_eq {a b:Nat}:Nat.beq a b=true↔a=b:=by
 constructor
 ·exact Nat.eq_of_beq_eq_true
 ·intro h;subst h;exact Qk4 a
theorem cK (st:St)(d:Nat)(x:SV)(t:Nat):(st.put (some d) x).ax t=if t=d then some x else st.ax t:=by
 simp only [St.put];by_cases h:t=d
 ·subst h;simp [Qk4]
 ·have:Nat.beq t d=false:=by
   cases hb:Nat.beq t d
   ·rfl
   ·exact absurd (beq_eq.1 hb) h
  simp [this,h]
theorem ao (st:St)(s:Nat)(b:aP)(t:Nat):(st.box s b).boxes t=if t=s then some b else st.boxes t:=by
 simp only [St.box];by_cases h:t=s
 ·subst h;simp [Qk4]
 ·have:Nat.beq t s=false:=by
   cases hb:Nat.beq t s
   ·rfl
   ·exact absurd (beq_eq.1 hb) h
  simp [this,h]
theorem oS (l:Array Value)(d t:Nat)(v:Value)(hd:d<l.size):(l.setIfInBounds d v).getD t undef=if t=d then v else l.getD t undef:=by
 by_cases h:t=d
 ·subst h;simp [hd]
 ·simp [h,Wx7 h]
theorem Mod.put (h:Mod n V0 bu β0 st β a w V){d:Nat}{x:SV}{v:Value}(hd:d<n)(hv:v=x.den β)(hl:∀s∈x.ids,∃b,st.boxes s=some b) :
  Mod n V0 bu β0 (st.put (some d) x) β (a.put (some d) v) w V where
 defers:=h.defers
 size:=by simp [Act.put,h.size]
 ax:=by
  intro t y c;rw [cK] at c;show (a.tmps.setIfInBounds d v).getD t undef=_;rw [oS _ _ _ _ (by rw [h.size];exact hd)];split at c
  ·rename_i e;rw [if_pos e];simp only [Qq4] at c;rw [←c];exact hv
  ·rename_i e;rw [if_neg e];exact h.ax t y c
 wQ:=by
  intro t y c;rw [cK] at c;split at c
  ·simp only [Qq4] at c;rw [←c];exact hl
  ·exact h.wQ t y c
 wP:=h.wP
 boxes:=h.boxes
 inj:=h.inj
 nt:=h.nt
 sJ:=h.sJ
 ext:=h.ext
 own:=h.own
 ku:=h.ku
 jx:=h.jx
 small:=h.small
theorem Mod.Eb (h:Mod n V0 bu β0 st β a w V){d:Option Nat}{x:SV}{v:Value}(hd:∀k,d=some k->k<n)(hv:v=x.den β)(hl:∀s∈x.ids,∃b,st.boxes s=some b) :
  Mod n V0 bu β0 (st.put d x) β (a.put d v) w V:=by
 cases d with
 | none=>exact h
 | some d=>exact h.put (hd d rfl) hv hl
theorem Mod.drew (h:Mod n V0 bu β0 st β a w V):Mod n V0 bu β0 st β a { w with drawn:=w.drawn+1 } V:=
 ⟨h.defers,h.size,h.ax,h.wQ,h.wP,h.boxes,h.inj,h.nt,h.sJ,⟨h.ext.size,h.ext.bB,h.ext.os,h.ext.tape,h.ext.out⟩,h.own,h.ku,h.jx,h.small⟩
theorem aA {w:World}{b:Nat}{o:Obj}(h:w.heap[b]?=some o):b<w.heap.size:=by
 rcases Qy9 b w.heap.size with a|a
 ·exact a
 ·rw [Qn8 a] at h;cases h
theorem cY (w:World)(o:Obj){b:Nat}(h:b<w.heap.size:=by omega):(w.alloc o).heap[b]?=w.heap[b]?:=by
 show (w.heap.push o)[b]?=_;rw [Array.getElem?_push,if_neg (by omega)]
theorem heap_alloc_new (w:World)(o:Obj):(w.alloc o).heap[w.heap.size]?=some o:=by
 show (w.heap.push o)[w.heap.size]?=_;rw [Array.getElem?_push,if_pos rfl]
theorem aR (β:Nat->Nat)(s b:Nat):bH β s b s=b:=by simp [bH,Qk4]
theorem fD (β:Nat->Nat){s t:Nat}(b:Nat)(h:t≠s):bH β s b t=β t:=by
 have:Nat.beq t s=false:=by
  cases hb:Nat.beq t s
  ·rfl
  ·exact absurd (beq_eq.1 hb) h
 simp [bH,this]
theorem Mod.new (h:Mod n V0 bu β0 st β a w V){d:Nat}{b:aP}(hd:d<n)(hn:st.boxes d=none)(hl:∀s∈b.cs.ids,∃b',st.boxes s=some b') :
  Mod n V0 bu β0 (st.box d b) (bH β d w.heap.size) a (w.alloc (b.obj β)) V:=by
 have q:∀s b',st.boxes s=some b'->s≠d:=fun s b' c e=>by rw [e,hn] at c;cases c
 have hβ:∀s b',st.boxes s=some b'->bH β d w.heap.size s=β s:=fun s b' c=>fD _ _ (q s b' c);have r:∀s b',st.boxes s=some b'->b'.live->β s<w.heap.size:=fun s b' c l=>aA (h.boxes s b' c l);have E:∀b' o,V.bB b' o->b'<w.heap.size:=fun b' o v=>aA (h.nt b' o v).1;refine ⟨h.defers,h.size,?_,?_,?_,?_,?_,?_,?_,?_,?_,?_,h.jx,?_⟩
 ·intro t x y;rw [h.ax t x y];exact SV.bC fun s c=>by obtain ⟨b',p⟩:=h.wQ t x y s c;exact (hβ s b' p).symm
 ·intro t x y s c;obtain ⟨b',p⟩:=h.wQ t x y s c;exact ⟨b',by rw [ao,if_neg (q s b' p)];exact p⟩
 ·intro s b' c g j;rw [ao] at c
  have:∃f,st.boxes g=some f:=by
   split at c
   ·simp only [Qq4] at c;rw [←c] at j;exact hl g j
   ·exact h.wP s b' c g j
  obtain ⟨f,u⟩:=this;exact ⟨f,by rw [ao,if_neg (q g f u)];exact u⟩
 ·intro s b' c l;rw [ao] at c;split at c
  ·rename_i e;simp only [Qq4] at c;rw [e,aR,heap_alloc_new,←c];congr 1;exact aP.cA fun g j=>by obtain ⟨f,u⟩:=hl g j;exact (hβ g f u).symm
  ·rw [hβ s b' c,cY _ _ (r s b' c l),h.boxes s b' c l];congr 1;exact aP.cA fun g j=>by obtain ⟨f,u⟩:=h.wP s b' c g j;exact (hβ g f u).symm
 ·intro s g z A k F m G he;rw [ao] at k m;split at k<;>split at m
  ·rename_i B C;rw [B,C]
  ·rename_i B C;rw [B,aR,hβ g A m] at he;have:=r g A m G;omega
  ·rename_i B C;rw [C,aR,hβ s z k] at he;have:=r s z k F;omega
  ·rw [hβ s z k,hβ g A m] at he;exact h.inj s g z A k F m G he
 ·intro b' o v;obtain ⟨k,m⟩:=h.nt b' o v;exact ⟨by rw [cY _ _ (E b' o v)];exact k,m⟩
 ·intro s b' c l o D;rw [ao] at c;split at c
  ·rename_i e;rw [e,aR] at D;have:=E _ o D;omega
  ·rw [hβ s b' c] at D;exact h.sJ s b' c l o D
 ·exact h.ext.trans ⟨by simp,fun i H _=>cY _ _ H,rfl,rfl,rfl⟩
 ·intro s b' c l;rw [ao] at c;split at c
  ·rename_i e;rw [e,aR];exact .inl h.ext.size
  ·rw [hβ s b' c];exact h.own s b' c l
 ·intro s c;obtain ⟨k,m⟩:=h.ku s c;exact ⟨k,by rw [fD _ _ (by have:=h.small;omega)];exact m⟩
 ·exact h.small
theorem Mod.void (h:Mod n V0 bu β0 st β a w V){s:Nat}{ty:TypeId}:Mod n V0 bu β0 (st.box s ⟨.aH [],ty⟩) β a w V:=by
 have hw:∀t b,st.boxes t=some b->∃d,(st.box s ⟨.aH [],ty⟩).boxes t=some d:=by
  intro t b c;rw [ao];split
  ·exact ⟨_,rfl⟩
  ·exact ⟨b,c⟩
 have g:∀t b,(st.box s ⟨.aH [],ty⟩).boxes t=some b->b.live->st.boxes t=some b:=by
  intro t b c l;rw [ao] at c;split at c
  ·cases c;exact absurd l d_
  ·exact c
 refine ⟨h.defers,h.size,h.ax,?_,?_,fun t b c l=>h.boxes t b (g t b c l) l,fun t m o p q j r k=>h.inj t m o p (g _ _ q j) j (g _ _ r k) k,h.nt,fun t b c l=>h.sJ t b (g t b c l) l,h.ext,fun t b c l=>h.own t b (g t b c l) l,h.ku,h.jx,h.small⟩
 ·intro t x u f e;obtain ⟨b,i⟩:=h.wQ t x u f e;exact hw f b i
 ·intro t b c f e
  have:∃d,st.boxes f=some d:=by
   rw [ao] at c;split at c
   ·cases c;cases e
   ·exact h.wP t b c f e
  obtain ⟨d,v⟩:=this;exact hw f d v
theorem Mod.sN (h:Mod n V0 bu β0 st β a w V){s:Nat}{b b':aP}(hs:st.boxes s=some b)(lb:b.live)(hl:∀s'∈b'.cs.ids,∃b'',st.boxes s'=some b'')
  {w':World}(hw:w'.heap=w.heap.setIfInBounds (β s) (b'.obj β))(ho:w'.os=w.os)(ht:w'.tape=w.tape)(hout:w'.output=w.output) :
  Mod n V0 bu β0 (st.box s b') β a w' V:=by
 have z:=aA (h.boxes s b hs lb)
 have m:∀i,w'.heap[i]?=if i=β s then some (b'.obj β) else w.heap[i]?:=by
  intro i;rw [hw,Qn0];by_cases e:β s=i
  ·rw [if_pos e,if_pos (by omega),if_pos e.symm]
  ·rw [if_neg e,if_neg (Wx7 e)]
 refine ⟨h.defers,h.size,h.ax,?_,?_,?_,?_,?_,?_,?_,?_,h.ku,h.jx,h.small⟩
 ·intro t x A s' g;obtain ⟨d,c⟩:=h.wQ t x A s' g;rw [ao];split
  ·exact ⟨_,rfl⟩
  ·exact ⟨d,c⟩
 ·intro t d c s' g
  have:∃b'',st.boxes s'=some b'':=by
   rw [ao] at c;split at c
   ·simp only [Qq4] at c;rw [←c] at g;exact hl s' g
   ·exact h.wP t d c s' g
  rw [ao];split
  ·exact ⟨_,rfl⟩
  ·exact this
 ·intro t d c j;rw [ao] at c;rw [m];split at c
  ·rename_i e;simp only [Qq4] at c;rw [e,if_pos rfl,c]
  ·rename_i e;rw [if_neg fun he=>e (h.inj t s d b c j hs lb he)];exact h.boxes t d c j
 ·intro t v d l k j p B he
  have f:∀t d,(st.box s b').boxes t=some d->d.live->∃l,st.boxes t=some l/\l.live:=by
   intro t d k j;rw [ao] at k;split at k
   ·rename_i e;rw [e];exact ⟨b,hs,lb⟩
   ·exact ⟨d,k,j⟩
  obtain ⟨C,q,D⟩:=f t d k j;obtain ⟨E,r,F⟩:=f v l p B;exact h.inj t v C E q D r F he
 ·intro d o u;obtain ⟨k,p⟩:=h.nt d o u;refine ⟨?_,p⟩;rw [m,if_neg]
  ·exact k
  ·intro e;rw [e] at u;exact h.sJ s b hs lb o u
 ·intro t d c j o;rw [ao] at c;split at c
  ·rename_i e;rw [e];exact h.sJ s b hs lb o
  ·exact h.sJ t d c j o
 ·refine ⟨by rw [hw];simpa using h.ext.size,fun i G y=>?_,ho.trans h.ext.os,ht.trans h.ext.tape,hout.trans h.ext.out⟩;rw [m];split
  ·rename_i e;exfalso;rcases h.own s b hs lb with k|k
   ·omega
   ·exact y (e▸h.jx _ k.2)
  ·exact h.ext.bB i G y
 ·intro t d c j;rw [ao] at c;split at c
  ·rename_i e;rw [e];exact h.own s b hs lb
  ·exact h.own t d c j
end Go.Eng
