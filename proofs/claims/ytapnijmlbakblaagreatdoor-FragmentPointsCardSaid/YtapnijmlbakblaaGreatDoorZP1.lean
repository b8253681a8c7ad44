import Derived.WalkKit
import Derived.Deep.LoopGhost
import Derived.KernelRfl
abbrev Qq0:=@Int.toNat_natCast
abbrev Qq1:=@List.getElem?_eq_getElem
abbrev Qq2:=@Option.some.injEq
abbrev Qq3:=@Nat.le_refl
abbrev Qq4:=@List.mem_cons
abbrev Qq5:=@List.length_append
abbrev Qq6:=@List.length_eq_zero_iff
abbrev Qq7:=@Int.eq_ofNat_of_zero_le
abbrev Qq8:=@List.mem_cons_of_mem
abbrev Qq9:=@Nat.mul_le_mul_right
abbrev Qw0:=@List.length_take
abbrev Qw1:=@List.mem_append
abbrev Qw2:=@Nat.zero_le
abbrev Qw3:=@List.mem_singleton
abbrev Qw4:=@List.drop_eq_getElem_cons
abbrev Qw5:=@List.mem_flatMap
abbrev Qw6:=@List.getD_eq_getElem?_getD
abbrev Qw7:=@Bool.not_eq_true'
abbrev Qw8:=@List.flatMap_cons
abbrev Qw9:=@Nat.pow_le_pow_right
abbrev Qx0:=@List.drop_of_length_le
abbrev Qx1:=@Bool.and_eq_true
abbrev Qx2:=@Nat.lt_of_lt_of_le
abbrev Qx3:=@Nat.le_trans
abbrev Qx4:=@List.getElem?_append_left
abbrev Qx5:=@Int.natAbs_natCast
abbrev Qx6:=@Bool.eq_iff_iff
abbrev Qx7:=@Nat.mod_eq_of_lt
abbrev Qx8:=@List.take_succ_eq_append_getElem
abbrev Qx9:=@Nat.eq_zero_or_pos
abbrev Qy0:=@List.mem_map
abbrev Qy1:=@Nat.zero_add
abbrev Qy2:=@List.cons.injEq
abbrev Qy3:=@List.getElem_mem
abbrev Qy4:=@Nat.mul_le_mul_left
abbrev Qy5:=@Nat.min_eq_left
abbrev Qy6:=@Nat.pow_add
abbrev Qy7:=@Bool.not_eq_false'
abbrev Qy8:=@Nat.lt_or_ge
abbrev Qy9:=@Nat.add_zero
abbrev Qz0:=@List.all_eq_true
abbrev Qz1:=@List.getElem?_eq_some_iff
abbrev Qz2:=@List.length_cons
abbrev Qz3:=@Int.tmod_eq_emod_of_nonneg
abbrev Qz4:=@Nat.two_pow_pos
abbrev Qz5:=@Bool.false_eq_true
abbrev Qz6:=@Nat.pow_succ
abbrev Qz7:=@Nat.mul_assoc
abbrev Qz8:=@Nat.beq_refl
abbrev Qz9:=@Nat.le_of_ble_eq_true
abbrev Qk0:=@Nat.mul_one
abbrev Qk1:=@Int.tdiv_eq_ediv_of_nonneg
abbrev Qk2:=@List.append_nil
abbrev Qk3:=@List.mem_append_left
abbrev Qk4:=@BitVec.ofInt_natCast
abbrev Qk5:=@List.take_append_drop
abbrev Qk6:=@List.append_assoc
abbrev Qk7:=@List.length_drop
abbrev Qk8:=@Nat.gcd_dvd_left
abbrev Qk9:=@List.pairwise_cons
abbrev Qj0:=@List.map_congr_left
abbrev Qj1:=@Nat.mul_add
abbrev Qj2:=@Nat.add_assoc
abbrev Qj3:=@Nat.mul_zero
abbrev Qj4:=@Nat.add_mul
abbrev Qj5:=@Nat.div_eq_of_lt
abbrev Qj6:=@List.getElem?_eq_none
abbrev Qj7:=@Nat.mul_ne_zero
abbrev Qj8:=@List.mem_filter
abbrev Qj9:=@BitVec.toNat_ofNat
abbrev Qv0:=@Nat.div_lt_iff_lt_mul
abbrev Qv1:=@List.mem_of_getElem?
abbrev Qv2:=@List.take_length
abbrev Qv3:=@List.getElem?_take
abbrev Qv4:=@Nat.sub_add_cancel
abbrev Qv5:=@Nat.lt_of_le_of_lt
abbrev Qv6:=@Nat.add_sub_cancel
abbrev Qv7:=@List.getElem?_append_right
abbrev Qv8:=@List.drop_set_of_lt
abbrev Qv9:=@Nat.mod_lt
abbrev Qb0:=@Nat.gcd_dvd_right
abbrev Qb1:=@Array.mk.injEq
abbrev Qb2:=@List.pairwise_iff_getElem
abbrev Qb3:=@List.map_cons
abbrev Qb4:=@Array.getElem?_setIfInBounds
abbrev Qb5:=@Prod.mk.injEq
abbrev Qb6:=@List.length_map
abbrev Qb7:=@List.mem_append_right
abbrev Qb8:=@Int.natCast_mul
abbrev Qb9:=@Array.ext'
abbrev Qn0:=@List.mem_cons_self
abbrev Qn1:=@Nat.mul_comm
abbrev Qn2:=@Array.getElem?_eq_none
abbrev Qn3:=@Nat.div_le_self
abbrev Qn4:=@Int.natAbs_mul
abbrev Qn5:=@Rat.num_eq_zero
abbrev Qn6:=@Rat.intCast_mul
abbrev Qn7:=@List.not_mem_nil
abbrev Qn8:=@List.length_singleton
abbrev Qn9:=@List.take_append_getElem
abbrev Qm0:=@List.drop_drop
abbrev Qm1:=@Nat.mul_le_mul
abbrev Qm2:=@List.getElem?_drop
abbrev Qm3:=@List.nil_append
abbrev Qm4:=@Bool.or_eq_true
abbrev Qm5:=@Option.some.inj
abbrev Qm6:=@Nat.mul_lt_mul_of_pos_right
abbrev Qm7:=@List.mem_of_mem_take
abbrev Qm8:=@Array.toList_map
abbrev Qm9:=@Option.getD_some
abbrev Qc0:=@List.any_eq_true
abbrev Qc1:=@List.take_of_length_le
abbrev Qc2:=@List.take_zero
abbrev Qc3:=@Bool.not_eq_eq_eq_not
abbrev Qc4:=@List.foldl_cons
abbrev Qc5:=@Nat.succ_mul
abbrev Qc6:=@Nat.div_add_mod
abbrev Qc7:=@List.set_eq_of_length_le
abbrev Qc8:=@Nat.xor_lt_two_pow
abbrev Qc9:=@List.getElem?_map
abbrev Qd0:=@List.flatMap_append
abbrev Qd1:=@List.length_nil
abbrev Qd2:=@Nat.one_mul
abbrev Qd3:=@Nat.gcd_eq_zero_iff
abbrev Qd4:=@Int.sign_eq_one_of_pos
abbrev Qd5:=@Int.sign_eq_neg_one_of_neg
abbrev Qd6:=@List.cons_append
abbrev Qd7:=@Nat.add_comm
abbrev Qd8:=@Nat.zero_mul
abbrev Qd9:=@List.getElem_set_self
abbrev Qf0:=@Nat.gcd_zero_right
abbrev Qf1:=@Nat.one_lt_two_pow
abbrev Qf2:=@Rat.mkRat_one
abbrev Qf3:=@Int.natAbs_neg
abbrev Qf4:=@Nat.testBit_eq_decide_div_mod_eq
abbrev Qf5:=@List.mem_of_mem_drop
abbrev Qf6:=@Nat.add_mul_div_left
abbrev Qf7:=@List.pairwise_append
abbrev Qf8:=@Option.isSome_iff_exists
abbrev Qf9:=@List.eq_of_mem_replicate
abbrev Qg0:=@Nat.mod_add_div
abbrev Qg1:=@Nat.add_left_comm
abbrev Qg2:=@Int.mul_ediv_cancel_left
abbrev Qg3:=@Rat.intCast_add
abbrev Qg4:=@Nat.gcd_comm
abbrev Qg5:=@Nat.mul_div_cancel
abbrev Qg6:=@Nat.pos_of_ne_zero
abbrev Qg7:=@Nat.and_lt_two_pow
abbrev Qg8:=@Option.map_some
abbrev Qg9:=@Nat.le_of_lt
abbrev Qh0:=@Nat.le_div_iff_mul_le
abbrev Qh1:=@Int.natAbs_dvd_natAbs
abbrev Qh2:=@Rat.mul_eq_zero
abbrev Qh3:=@List.getElem_drop
abbrev Qh4:=@Rat.num_mkRat
abbrev Qh5:=@Nat.gcd_zero_left
abbrev Qh6:=@Bool.true_and
abbrev Qh7:=@Int.fdiv_eq_ediv_of_nonneg
abbrev Qh8:=@List.mem_iff_getElem
abbrev Qh9:=@List.take_take
abbrev Qp0:=@Int.sign_eq_zero_iff_zero
abbrev Qp1:=@Rat.mkRat_self
abbrev Qp2:=@Nat.mul_lt_mul''
abbrev Qp3:=@List.replicate_succ
abbrev Qp4:=@List.take_replicate
abbrev Qp5:=@Nat.pow_pos
abbrev Qp6:=@List.set_eq_take_append_cons_drop
abbrev Qp7:=@List.map_append
abbrev Qp8:=@List.getElem?_replicate
abbrev Qp9:=@Rat.den_mkRat
abbrev Qr0:=@Rat.sub_eq_add_neg
abbrev Qr1:=@Nat.gcd_le_left
abbrev Qr2:=@Nat.dvd_trans
abbrev Qr3:=@Rat.mul_inv_cancel
abbrev Qr4:=@Rat.num_intCast
abbrev Qr5:=@Nat.not_lt_zero
abbrev Qr6:=@Nat.add_sub_cancel_left
abbrev Qr7:=@Int.natAbs_ediv_of_dvd
abbrev Qr8:=@List.getElem_cons_zero
abbrev Qr9:=@List.drop_eq_nil_of_le
abbrev Qs0:=@Nat.pow_mul
abbrev Qs1:=@Int.one_mul
abbrev Qs2:=@List.take_add_one
abbrev Qs3:=@Option.getD_none
abbrev Qs4:=@Nat.shiftLeft_add_eq_or_of_lt
abbrev Qs5:=@List.getElem?_set_ne
abbrev Qs6:=@List.take_set
abbrev Qs7:=@Nat.le_of_dvd
abbrev Qs8:=@Nat.lt_irrefl
abbrev Qs9:=@Nat.mul_eq_zero
abbrev Qt0:=@Int.neg_mul
abbrev Qt1:=@Int.mul_neg
abbrev Qt2:=@Int.mul_lt_mul_of_pos_right
abbrev Qt3:=@Rat.intCast_inj
abbrev Qt4:=@Rat.mkRat_mul_mkRat
abbrev Qt5:=@Int.mul_eq_zero
abbrev Qt6:=@List.getElem_of_mem
abbrev Qt7:=@Int.lt_of_mul_lt_mul_right
abbrev Qt8:=@List.map_map
abbrev Qt9:=@Nat.div_mul_cancel
abbrev Wq0:=@Int.natCast_nonneg
abbrev Wq1:=@Nat.one_le_two_pow
abbrev Wq2:=@Int.add_zero
abbrev Wq3:=@Array.mapM_eq_mapM_toList
abbrev Wq4:=@Nat.add_mul_mod_self_left
abbrev Wq5:=@Rat.mkRat_zero
abbrev Wq6:=@List.getElem_append_right
abbrev Wq7:=@List.flatten_cons
abbrev Wq8:=@Nat.or_lt_two_pow
abbrev Wq9:=@Nat.gcd_pos_of_pos_right
abbrev Ww0:=@Int.lt_trichotomy
abbrev Ww1:=@List.getElem_append_left
abbrev Ww2:=@Classical.not_not
abbrev Ww3:=@List.map_take
abbrev Ww4:=@List.map_drop
abbrev Ww5:=@Int.le_refl
abbrev Ww6:=@Nat.shiftLeft_eq
abbrev Ww7:=@BitVec.toNat_and
abbrev Ww8:=@Int.natCast_emod
abbrev Ww9:=@Rat.mkRat_eq_iff
abbrev Wx0:=@Ne.symm
abbrev Wx1:=@BitVec.toNat_or
abbrev Wx2:=@Nat.mul_add_div
abbrev Wx3:=@Nat.mul_add_mod
abbrev Wx4:=@Nat.zero_div
abbrev Wx5:=@Rat.mul_def'
abbrev Wx6:=@Nat.testBit_xor
abbrev Wx7:=@Rat.intCast_sub
abbrev Wx8:=@Rat.intCast_neg
abbrev Wx9:=@Int.not_lt
abbrev Wy0:=@List.mapM_cons
abbrev Wy1:=@Nat.testBit_or
abbrev Wy2:=@Bool.and_false
abbrev Wy3:=@Rat.neg_num
abbrev Wy4:=@Rat.neg_den
abbrev Wy5:=@Nat.mul_pos
abbrev Wy6:=@Rat.mul_one
set_option linter.unusedVariables false
open Go.IntKind (i64 u64 u32)
namespace Go.Eng
abbrev OA:=Option Addr
abbrev sm {α:Type}(a:α):Prop:=a=a
structure View where
 w:World
 H:Nat->Prop
 X:Nat->Prop
 hH:∀b,H b->b<w.heap.size
 hX:∀b,X b->H b
def View.bI (V:View)(b:Nat)(o:Obj):Prop:=¬V.H b/\V.w.heap[b]?=some o
def View.at (V:View)(p:Addr)(v:Value):Prop:=¬V.H p.block/\V.w.cell? p=some v
def View.Le (V V':View):Prop:=∀b o,V.bI b o->V'.bI b o
structure h_ (X:Nat->Prop) (w w':World):Prop where
 size:w.heap.size<=w'.heap.size
 bI:∀b,b<w.heap.size->¬X b->w'.heap[b]?=w.heap[b]?
 os:w'.os=w.os
 tape:w'.tape=w.tape
 out:w'.output=w.output
def View.to (V:View)(w':World)(h:V.w.heap.size<=w'.heap.size):View:=⟨w',V.H,V.X,fun b hb=>Qx2 (V.hH b hb) h,V.hX⟩
def View.ax (V:View)(bs:List Nat):View:={ V with X:=fun b=>b∈bs/\V.H b,hX:=fun _ h=>h.2 }
def View.Ig (V:View)(b:Nat):View:={ V with H:=fun x=>V.H x\/(x=b/\b<V.w.heap.size),hH:=fun x h=>h.elim (V.hH x) fun h=>h.1▸h.2,hX:=fun x h=>.inl (V.hX x h) }
def View.cu (V:View)(p:Prop)(b:Nat):View:={ V with H:=fun x=>V.H x\/(p/\x=b/\b<V.w.heap.size),hH:=fun x h=>h.elim (V.hH x) fun h=>h.2.1▸h.2.2,hX:=fun x h=>.inl (V.hX x h) }
def View.shut (V:View):View:={ V with X:=fun _=>False,hX:=fun _ h=>h.elim }
def jW (P : Program)(f : FuncId) : Prop := ∃ fn, P.funcs[f]? = some fn ∧ fn.body.isNone = false ∧ (fn.name == "runtime.NumGoroutine") = false
def aa (P:Program)(f:FuncId)(args:Array Value)(V:View)(R:Value->View->Prop):Prop:=
 jW P f/\Calls P f args V.w fun e w'=>∃r,e=.returned r/\∃hx:h_ V.X V.w w',R r (V.to w' hx.size)
inductive C where
 | v (x:Value)|w (x:Value)|tt|ff
 | ptr (s o:Nat)
 | gU (s o n c:Nat)
 | gF (s n c:Nat)
 | kd (f:FuncId) (ss:List Nat)
inductive SV where
 | c (x:C)|agg (cs:List C)|oI (xs:List (Bool×List C))
inductive Cells where
 | lit (cs:List C)|row (vs:List Value)|aN (vs:List Value)
structure aP where
 cs:Cells
 ty:TypeId
def aP.live (b:aP):Prop:=∀vs,b.cs=.aN vs->vs≠[]
def Hm (b:aP):List Prop:=
 match b.cs with
 | .aN vs=>[vs≠[]]
 | _=>[]
def RO (b:aP):Prop:=
 match b.cs with
 | .aN vs=>vs≠[]
 | _=>True
def pA:List Prop->Prop->Prop
 | [],k=>k
 | p::r,k=>p->pA r k
def mA (b c:Nat):OA:=if c=0 then none else some ⟨b,0,none⟩
structure St where
 ay:Nat->Option SV
 boxes:Nat->Option aP
def C.den (β:Nat->Nat):C->Value
 | .v x=>x
 | .w x=>x
 | .tt=>.bool true
 | .ff=>.bool false
 | .ptr s o=>.pointer (some ⟨β s,o,none⟩)
 | .gU s o n c=>.slice (some ⟨β s,o,none⟩) n c
 | .gF s n c=>.slice (mA (β s) c) n c
 | .kd f ss=>.func (.func f) #[] (ss.map fun s=>Value.pointer (some ⟨β s,0,none⟩)).toArray
def ib (β:Nat->Nat):Bool×List C->Value
 | (true,cs)=>.agg (cs.map (C.den β)).toArray
 | (false,[c])=>c.den β
 | (false,_)=>.tuple #[]
def qN:Bool×List C->Option SV
 | (true,cs)=>some (.agg cs)
 | (false,[c])=>some (.c c)
 | (false,_)=>none
def SV.den (β:Nat->Nat):SV->Value
 | .c x=>x.den β
 | .agg cs=>.agg (cs.map (C.den β)).toArray
 | .oI xs=>.tuple (xs.map (ib β)).toArray
def SV.cells:SV->List C
 | .c x=>[x]
 | .agg cs=>cs
 | .oI _=>[]
def Cells.den (β:Nat->Nat):Cells->List Value
 | .lit cs=>cs.map (C.den β)
 | .row vs=>vs
 | .aN vs=>vs
def aP.obj (β:Nat->Nat)(b:aP):Obj:=.cells (b.cs.den β).toArray b.ty (0,0)
def C.ids:C->List Nat
 | .ptr s _=>[s]
 | .gU s _ _ _=>[s]
 | .gF s _ _=>[s]
 | .kd _ ss=>ss
 | _=>[]
def SV.ids:SV->List Nat
 | .c x=>x.ids
 | .agg cs=>cs.flatMap C.ids
 | .oI xs=>xs.flatMap fun x=>x.2.flatMap C.ids
def SV.vd:SV->Bool
 | .oI _=>true
 | _=>false
def eC:C->List Prop
 | .v (.agg _)|.v (.tuple _)=>[False]
 | .w x=>[x.oneCell'=true]
 | _=>[]
def SV.eC (x:SV):List Prop:=x.cells.flatMap Eng.eC
def Cells.ids:Cells->List Nat
 | .lit cs=>cs.flatMap C.ids
 | .row _=>[]
 | .aN _=>[]
def St.put (st:St)(d:Option Nat)(x:SV):St:=
 match d with
 | none=>st
 | some d=>{ st with ay:=fun t=>cond (Nat.beq t d) (some x) (st.ay t) }
def St.box (st:St)(s:Nat)(b:aP):St:={ st with boxes:=fun t=>cond (Nat.beq t s) (some b) (st.boxes t) }
def C.ofConst:Value->C
 | .bool true=>.tt
 | .bool false=>.ff
 | x=>.v x
def SV.ofConst:Value->SV
 | .bool true=>.c .tt
 | .bool false=>.c .ff
 | .agg cs=>.agg (cs.toList.map C.ofConst)
 | x=>.c (.v x)
def St.aY (st:St):Operand->Option SV
 | .tmp t=>st.ay t
 | .const v=>some (.ofConst v)
 | .global g=>some (.c (.v (.pointer (some ⟨g,0,none⟩))))
 | .func f=>some (.c (.kd f []))
inductive TK where
 | int (k:IntKind)|bool|str|ptr (e:TypeId)|slice (e:TypeId)|struct (fs:List (TypeId×Nat))|arr (n:Nat) (e:TypeId)|iface|func|tuple (ts:List TypeId)|other
structure TI where
 k:TK
 size:Nat
 bytes:Nat
 zero:List C
def jO:TypeDesc->TK
 | .int k=>.int k
 | .bool=>.bool
 | .string=>.str
 | .pointer e=>.ptr e
 | .slice e=>.slice e
 | .array n e=>.arr n e
 | .struct fs=>.struct (fs.toList.map fun f=>(f.type,f.offset))
 | .interface _=>.iface
 | .func ..=>.func
 | .tuple es=>.tuple es.toList
 | _=>.other
def kT (P:Program)(t:TypeId):Option TI:=
 match P.info? t,P.underlying t with
 | some i,some d=>
  match i.zero with
  | some z=>some { k:=jO d,size:=i.size,bytes:=i.bytes,zero:=z.cells.toList.map C.ofConst }
  | none=>none
 | _,_=>none
abbrev cI:=List (Nat×TI)
def aC {α:Type}:List (Nat×α)->Nat->Option α
 | [],_=>none
 | (s,x)::r,t=>cond (Nat.beq t s) (some x) (aC r t)
def cI.ok (P:Program)(T:cI):Prop:=∀t i,aC T t=some i->kT P t=some i
inductive wS where
 | int (k:IntKind)|bool|slice|ptr|str|any
inductive uc where
 | one (s:wS)|agg (l:List wS)
inductive Sh where
 | val (s:uc)|oI (l:List uc)|none
def QL:C->wS
 | .v (.int k _)=>.int k
 | .v (.slice ..)=>.slice
 | .v (.pointer _)=>.ptr
 | .v (.string _)=>.str
 | .tt|.ff=>.bool
 | _=>.any
def kt (i:TI):uc:=
 match i.k with
 | .struct _|.arr _ _=>.agg (i.zero.map QL)
 | _=>match i.zero with
  | [z]=>.one (QL z)
  | _=>.one .any
def wS.ex:wS->(C->Prop)->Prop
 | .int k,K=>∃n:Int,K (.v (.int k n))
 | .bool,K=>∃b:Bool,K (.v (.bool b))
 | .slice,K=>∃(a:OA)(n c:Nat),K (.v (.slice a n c))
 | .ptr,K=>∃p:OA,K (.v (.pointer p))
 | .str,K=>∃s:ByteArray,K (.v (.string s))
 | .any,K=>∃x:Value,K (.w x)
def Mt:List wS->(List C->Prop)->Prop
 | [],K=>K []
 | s::r,K=>s.ex fun v=>Mt r fun vs=>K (v::vs)
def uc.ex:uc->(SV->Prop)->Prop
 | .one s,K=>s.ex fun c=>K (.c c)
 | .agg l,K=>Mt l fun cs=>K (.agg cs)
def ND:List uc->(List (Bool×List C)->Prop)->Prop
 | [],K=>K []
 | .one s::r,K=>s.ex fun c=>ND r fun vs=>K ((false,[c])::vs)
 | .agg l::r,K=>Mt l fun cs=>ND r fun vs=>K ((true,cs)::vs)
def Sh.ex:Sh->(SV->Prop)->Prop
 | .val s,K=>s.ex K
 | .oI l,K=>ND l fun vs=>K (.oI vs)
 | .none,K=>K (.oI [])
def PW (T:cI):List TypeId->Option (List uc)
 | []=>some []
 | t::r=>match aC T t,PW T r with
  | some i,some l=>some (kt i::l)
  | _,_=>Option.none
def Tw (T:cI)(t:TypeId):Option Sh:=
 match aC T t with
 | some i=>match i.k with
  | .tuple []=>some .none
  | .tuple ts=>match PW T ts with
   | some l=>some (.oI l)
   | Option.none=>Option.none
  | _=>some (.val (kt i))
 | Option.none=>Option.none
inductive Q where
 | fail
 | ret (sc:List Prop) (x:SV)
 | new (sc:List Prop) (b:aP) (x:Nat->SV)
 | tu (sc:List Prop) (s:Nat) (b:aP)
 | rd (p:OA) (sh:uc)
 | nk (vs:List Value) (o size:Nat) (sh:uc)
 | qZ (s:Nat) (vs:List Value) (n c:Nat) (x:OA×Nat ⊕ List Value) (size bytes:Nat) (ty:TypeId)
 | app (old:Option Nat) (ba:OA) (vs:List Value) (n c:Nat) (x:OA×Nat ⊕ List Value) (size bytes:Nat) (ty:TypeId)
def aU (op:BinOp)(k:IntKind)(a b:Int):Int:=
 match op with
 | .and=>k.wrap ((BitVec.ofInt k.bits a &&& BitVec.ofInt k.bits b).toNat:Int)
 | .or=>k.wrap ((BitVec.ofInt k.bits a ||| BitVec.ofInt k.bits b).toNat:Int)
 | .xor=>k.wrap ((BitVec.ofInt k.bits a ^^^ BitVec.ofInt k.bits b).toNat:Int)
 | _=>k.wrap ((BitVec.ofInt k.bits a &&& ~~~(BitVec.ofInt k.bits b)).toNat:Int)
def lS (op:BinOp)(k:IntKind)(a b:Int):Q:=
 match op with
 | .add=>.ret [] (.c (.v (.int k (k.wrap (a+b)))))
 | .sub=>.ret [] (.c (.v (.int k (k.wrap (a-b)))))
 | .mul=>.ret [] (.c (.v (.int k (k.wrap (a*b)))))
 | .quo=>.ret [b≠0] (.c (.v (.int k (k.wrap (a.tdiv b)))))
 | .rem=>.ret [b≠0] (.c (.v (.int k (a.tmod b))))
 | .and=>.ret [] (.c (.v (.int k (aU .and k a b))))
 | .or=>.ret [] (.c (.v (.int k (aU .or k a b))))
 | .xor=>.ret [] (.c (.v (.int k (aU .xor k a b))))
 | .andNot=>.ret [] (.c (.v (.int k (aU .andNot k a b))))
 | .shl=>.ret [0<=b] (.c (.v (.int k (k.wrap (a*2^(min b.toNat k.bits))))))
 | .shr=>.ret [0<=b] (.c (.v (.int k (a.fdiv (2^(min b.toNat k.bits))))))
 | .eql=>.ret [] (.c (.v (.bool (a==b))))
 | .neq=>.ret [] (.c (.v (.bool (a != b))))
 | .lss=>.ret [] (.c (.v (.bool (decide (a<b)))))
 | .leq=>.ret [] (.c (.v (.bool (decide (a<=b)))))
 | .gtr=>.ret [] (.c (.v (.bool (decide (a>b)))))
 | .geq=>.ret [] (.c (.v (.bool (decide (a≥b)))))
def C.bool?:C->Option Bool
 | .tt=>some true
 | .ff=>some false
 | .v (.bool b)=>some b
 | _=>none
def jG:Value->Bool
 | .nilIface=>true
 | _=>false
def IsIface (x:Value):Prop:=x=.nilIface\/∃t v,x=.iface t v
def vg:IntKind->IntKind->Bool
 | .i8,.i8|.i16,.i16|.i32,.i32|.i64,.i64|.u8,.u8|.u16,.u16|.u32,.u32|.u64,.u64=>true
 | _,_=>false
def Au (neg:Bool)(k:TK)(x y:C):Q:=
 match k with
 | .ptr _=>match y with
  | .v (.pointer none)=>match x with
   | .ptr _ _=>.ret [] (.c (if neg then .tt else .ff))
   | .v (.pointer p)=>.ret [] (.c (.v (.bool (if neg then !p.isNone else p.isNone))))
   | _=>.fail
  | _=>.fail
 | .slice _=>match y with
  | .v (.slice none _ _)=>match x with
   | .gU _ _ _ _=>.ret [] (.c (if neg then .tt else .ff))
   | .gF _ _ c=>.ret [] (.c (.v (.bool (if neg then !(Nat.beq c 0) else Nat.beq c 0))))
   | .v (.slice a _ _)=>.ret [] (.c (.v (.bool (if neg then !a.isNone else a.isNone))))
   | _=>.fail
  | _=>.fail
 | .iface=>match y with
  | .v .nilIface=>match x with
   | .w y=>.ret [IsIface y] (.c (.v (.bool (if neg then !jG y else jG y))))
   | .v .nilIface=>.ret [] (.c (if neg then .ff else .tt))
   | _=>.fail
  | _=>.fail
 | _=>.fail
def As (T:cI)(op:BinOp)(xt:TypeId)(x y:C):Q:=
 match aC T xt with
 | some i=>match i.k with
  | .int _=>match x,y with
   | .v (.int k a),.v (.int k' b)=>
    match op with
    | .shl|.shr=>lS op k a b
    | _=>if vg k k' then lS op k a b else .fail
   | _,_=>.fail
  | .bool=>match x.bool?,y.bool? with
   | some a,some b=>match op with
    | .eql=>.ret [] (.c (.v (.bool (a==b))))
    | .neq=>.ret [] (.c (.v (.bool (!(a==b)))))
    | _=>.fail
   | _,_=>.fail
  | k=>match op with
   | .eql=>Au false k x y
   | .neq=>Au true k x y
   | _=>.fail
 | none=>.fail
def ah (p:OA)(n:Nat):OA:=p.map fun a=>a.add n
def setCells (cs:List C)(o:Nat)(xs:List C):List C:=cs.take o++xs++cs.drop (o+xs.length)
def af (vs:List Value)(o:Nat)(xs:List Value):List Value:=
 match xs with
 | [x]=>vs.set o x
 | _=>vs.take o++xs++vs.drop (o+xs.length)
def C.val?:C->Option Value
 | .v x=>some x
 | .w x=>some x
 | .tt=>some (.bool true)
 | .ff=>some (.bool false)
 | _=>none
def jA:List C->Option (List Value)
 | []=>some []
 | c::r=>match c.val?,jA r with
  | some v,some vs=>some (v::vs)
  | _,_=>none
def iQ (bx:Nat->Option aP)(i:TI)(x:SV):Q:=
 match x with
 | .c (.ptr b o)=>match bx b with
  | some ⟨.lit cs,_⟩=>match i.k with
   | .struct _|.arr _ _=>if Nat.ble (o+i.size) cs.length then .ret [] (.agg ((cs.drop o).take i.size)) else .fail
   | _=>match cs[o]? with
    | some c=>.ret [] (.c c)
    | none=>.fail
  | some ⟨.row vs,_⟩=>.nk vs o i.size (kt i)
  | some ⟨.aN vs,_⟩=>if Nat.beq i.size 0 then .fail else .nk vs o i.size (kt i)
  | none=>.fail
 | .c (.v (.pointer p))=>if Nat.beq i.zero.length i.size then .rd p (kt i) else .fail
 | _=>.fail
def fS (bx:Nat->Option aP)(i:TI)(a x:SV):Q:=
 match a with
 | .c (.ptr b o)=>if Nat.beq x.cells.length i.size&&!x.vd then match bx b with
   | some ⟨.lit cs,ty⟩=>if Nat.ble (o+i.size) cs.length then .tu x.eC b ⟨.lit (setCells cs o x.cells),ty⟩ else .fail
   | some ⟨.row vs,ty⟩=>match jA x.cells with
    | some xs=>.tu (x.eC++[o+i.size<=vs.length]) b ⟨.row (af vs o xs),ty⟩
    | none=>.fail
   | some ⟨.aN vs,ty⟩=>if Nat.beq i.size 0 then .fail else match jA x.cells with
    | some xs=>.tu (x.eC++[o+i.size<=vs.length]) b ⟨.aN (af vs o xs),ty⟩
    | none=>.fail
   | none=>.fail
  else .fail
 | _=>.fail
def nf (place:Nat->Option (Nat×Nat))(cells:List C):List (Nat×SV)->Option (List C)
 | []=>some cells
 | (i,x)::r=>match place i with
  | none=>none
  | some (off,size)=>if Nat.beq x.cells.length size&&Nat.ble (off+size) cells.length&&!x.vd then nf place (setCells cells off x.cells) r else none
def partsOf (ρ:Operand->Option SV):List (Nat×Operand)->Option (List (Nat×SV))
 | []=>some []
 | (i,o)::r=>match ρ o,partsOf ρ r with
  | some x,some l=>some ((i,x)::l)
  | _,_=>none
def eV (T:cI):List (TypeId×Nat)->Option (List (Nat×Nat))
 | []=>some []
 | (t,off)::r=>match aC T t,eV T r with
  | some i,some l=>some ((off,i.size)::l)
  | _,_=>none
def rep (n:Nat)(zs:List C):List C:=(List.replicate n zs).flatten
def rN (n:Nat)(zs:List Value):List Value:=
 match zs with
 | [z]=>List.replicate n z
 | _=>(List.replicate n zs).flatten
def tj (a:OA)(m l sz:Nat):OA:=if m=l then a else ah a (l*sz)
def VZ (o m l sz:Nat):Nat:=if m=l then o else o+l*sz
def K1 (c:Nat):Option SV->Option (List Prop×Nat)
 | none=>some ([],c)
 | some (.c (.v (.int _ m)))=>some ([0<=m/\m<=(c:Int)],m.toNat)
 | _=>none
def Ji (n m:Nat):Option SV->Option SV->Option (List Prop×Nat)
 | some (.c (.v (.int _ h))),_=>some ([0<=h/\h<=(m:Int)],h.toNat)
 | none,none=>some ([],n)
 | _,_=>none
def Nc (h:Nat):Option SV->Option (List Prop×Option Nat)
 | none=>some ([],none)
 | some (.c (.v (.int _ l)))=>some ([0<=l/\l<=(h:Int)],some l.toNat)
 | _=>none
def mN (n c:Nat)(lo hi mx:Option SV):Option (List Prop×Option Nat×Nat×Nat):=
 match K1 c mx with
 | none=>none
 | some (p1,m)=>match Ji n m hi mx with
  | none=>none
  | some (p2,h)=>match Nc h lo with
   | none=>none
   | some (p3,l)=>some (p1++p2++p3,l,h,m)
def An (ρ:Operand->Option SV):Option Operand->Option (Option SV)
 | none=>some none
 | some x=>match ρ x with
  | some v=>some (some v)
  | none=>none
def rk (sz:Nat)(x:SV)(lo hi mx:Option SV):Q:=
 match x with
 | .c (.v (.slice a n c))=>match mN n c lo hi mx with
  | some (sc,none,h,m)=>.ret sc (.c (.v (.slice a h m)))
  | some (sc,some l,h,m)=>.ret sc (.c (.v (.slice (tj a m l sz) (h-l) (m-l))))
  | none=>.fail
 | .c (.gU s o n c)=>match mN n c lo hi mx with
  | some (sc,none,h,m)=>.ret sc (.c (.gU s o h m))
  | some (sc,some l,h,m)=>.ret sc (.c (.gU s (VZ o m l sz) (h-l) (m-l)))
  | none=>.fail
 | .c (.gF s n c)=>match mx with
  | none=>match mN n c lo hi none with
   | some (sc,none,h,m)=>.ret sc (.c (.gF s h m))
   | _=>.fail
  | some _=>.fail
 | _=>.fail
def fR (T:cI)(i:TI)(x ix:SV):Q:=
 match ix with
 | .c (.v (.int _ n))=>match i.k with
  | .slice e=>match aC T e with
   | some ei=>match x with
    | .c (.v (.slice a len _))=>.ret [a.isSome=true,0<=n/\n<(len:Int)] (.c (.v (.pointer (ah a (n.toNat*ei.size)))))
    | .c (.gU s o len _)=>.ret [0<=n/\n<(len:Int)] (.c (.ptr s (o+n.toNat*ei.size)))
    | .c (.gF s len c)=>.ret [0<=n/\n<(len:Int),len<=c] (.c (.ptr s (n.toNat*ei.size)))
    | _=>.fail
   | none=>.fail
  | .arr len e=>match aC T e with
   | some ei=>match x with
    | .c (.ptr s o)=>.ret [0<=n/\n<(len:Int)] (.c (.ptr s (o+n.toNat*ei.size)))
    | .c (.v (.pointer a))=>.ret [a.isSome=true,0<=n/\n<(len:Int)] (.c (.v (.pointer (ah a (n.toNat*ei.size)))))
    | _=>.fail
   | none=>.fail
  | _=>.fail
 | _=>.fail
def zm (T:cI)(i:TI)(l c:SV):Q:=
 match i.k with
 | .slice e=>match aC T e with
  | some ei=>match l,c with
   | .c (.v (.int _ n)),.c (.v (.int _ m))=>match jA ei.zero with
    | some zs=>if Nat.beq ei.bytes 0||Nat.beq ei.size 0||!(Nat.beq ei.size zs.length) then .fail else .new [0<=n,n<=m,(ei.bytes:Int)*m<=140737488355328] ⟨.row (rN m.toNat zs),e⟩ fun d=>.c (.gU d 0 n.toNat m.toNat)
    | none=>.fail
   | _,_=>.fail
  | none=>.fail
 | _=>.fail
def vD:List SV->Option (List Nat)
 | []=>some []
 | .c (.ptr s 0)::r=>match vD r with
  | some l=>some (s::l)
  | none=>none
 | _=>none
def bR (ρ:Operand->Option SV):List Operand->Option (List SV)
 | []=>some []
 | o::r=>match ρ o,bR ρ r with
  | some x,some l=>some (x::l)
  | _,_=>none
def bP (a b:Int):Int:=if b<a then b else a
def bO (a b:Int):Int:=if b>a then b else a
def foldI (f:Int->Int->Int)(k:IntKind)(a:Int):List SV->Option Int
 | []=>some a
 | .c (.v (.int k' b))::r=>if vg k k' then foldI f k (f a b) r else none
 | _=>none
def dJ (bx:Nat->Option aP)(s:Nat):Option (List Value):=
 match bx s with
 | some ⟨.lit cs,_⟩=>jA cs
 | some ⟨.row vs,_⟩=>some vs
 | _=>none
def jZ (bx:Nat->Option aP)(s:Nat):Option TypeId:=match bx s with|some b=>some b.ty|none=>none
def ig (ws:List Value)(o n:Nat):List Value:=cond (Nat.ble (o+n) ws.length) ((ws.drop o).take n) (List.replicate n (.agg #[]))
def mh (ws:List Value)(k c sz:Nat):List Value:=cond (Nat.ble k c) (ig ws 0 (k*sz)) (List.replicate (k*sz) (.agg #[]))
def bX (bx:Nat->Option aP)(e:TypeId)(ei:TI)(b x:SV):Q:=
 match jA ei.zero with
 | none=>.fail
 | some zs=>if Nat.beq ei.bytes 0||Nat.beq ei.size 0||!(Nat.beq ei.size zs.length) then .fail else
  let src:Option (OA×Nat ⊕ List Value):=match x with
   | .c (.v (.slice a k _))=>some (.inl (a,k))
   | .c (.gU s o k _)=>match bx s with
    | some ⟨.row ws,_⟩=>some (.inr (ig ws o (k*ei.size)))
    | _=>match dJ bx s with
     | some ws=>if Nat.ble (o+k*ei.size) ws.length then some (.inr ((ws.drop o).take (k*ei.size))) else none
     | none=>none
   | .c (.gF s k c)=>match bx s with
    | some ⟨.aN ws,_⟩=>some (.inr (mh ws k c ei.size))
    | _=>none
   | _=>none
  match src with
  | none=>.fail
  | some src=>match b with
   | .c (.v (.slice a n c))=>.app none a [] n c src ei.size ei.bytes e
   | .c (.gU s 0 n c)=>match dJ bx s,jZ bx s with
    | some vs,some ty=>if Nat.beq ty e then .app (some s) none vs n c src ei.size ei.bytes e else .fail
    | _,_=>.fail
   | .c (.gF s n c)=>match bx s with
    | some ⟨.aN vs,ty⟩=>if Nat.beq ty e then .qZ s vs n c src ei.size ei.bytes e else .fail
    | _=>.fail
   | _=>.fail
def ko (b:Builtin)(k:TK)(xs:List SV):Q:=
 match xs with
 | []=>.fail
 | x::r=>match b with
  | .len=>match r,k,x with
   | [],.slice _,.c (.v (.slice _ n _))=>.ret [] (.c (.v (.int .i64 n)))
   | [],.slice _,.c (.gU _ _ n _)=>.ret [] (.c (.v (.int .i64 n)))
   | [],.slice _,.c (.gF _ n _)=>.ret [] (.c (.v (.int .i64 n)))
   | [],.str,.c (.v (.string s))=>.ret [] (.c (.v (.int .i64 s.size)))
   | _,_,_=>.fail
  | .cap=>match r,k,x with
   | [],.slice _,.c (.v (.slice _ _ c))=>.ret [] (.c (.v (.int .i64 c)))
   | [],.slice _,.c (.gU _ _ _ c)=>.ret [] (.c (.v (.int .i64 c)))
   | [],.slice _,.c (.gF _ _ c)=>.ret [] (.c (.v (.int .i64 c)))
   | _,_,_=>.fail
  | .min=>match x with
   | .c (.v (.int k a))=>match foldI bP k a r with
    | some m=>.ret [] (.c (.v (.int k m)))
    | none=>.fail
   | _=>.fail
  | .max=>match x with
   | .c (.v (.int k a))=>match foldI bO k a r with
    | some m=>.ret [] (.c (.v (.int k m)))
    | none=>.fail
   | _=>.fail
  | _=>.fail
def vF (t:TypeId)(i:TI)(v:SV):Q:=
 match i.k with
 | .iface=>.fail
 | _=>match v.ids,v.vd with
  | [],false=>.ret [] (.c (.w (.iface t (v.den fun _=>0))))
  | _,_=>.fail
def kX (T:cI)(bx:Nat->Option aP)(t:TypeId)(x:SV):Q:=
 match aC T t with
 | some i=>match i.k with
  | .slice e=>match aC T e with
   | some ei=>match jA ei.zero,x with
    | some zs,.c (.gU s o n _)=>match bx s with
     | some ⟨.row vs,ty⟩=>if Nat.beq ei.size 0||!(Nat.beq ei.size zs.length)||!(zs.all Value.oneCell') then .fail else .tu [o+n*ei.size<=vs.length] s ⟨.row (vs.take o++rN n zs++vs.drop (o+n*ei.size)),ty⟩
     | _=>.fail
    | _,_=>.fail
   | none=>.fail
  | _=>.fail
 | none=>.fail
def FJ:List C->Option (List (OA×Nat×Nat))
 | []=>some []
 | .v (.slice p n c)::r=>match FJ r with
  | some l=>some ((p,n,c)::l)
  | none=>none
 | _=>none
def kq (T:cI)(i:TI)(cs:List C)(k:Int):Q:=
 match i.k with
 | .arr n e=>match aC T e,FJ cs with
  | some ei,some l=>match ei.k with
   | .slice _=>if Nat.beq ei.size 1&&Nat.beq l.length n then .ret [0<=k/\k<(n:Int)] (.c (.v (.slice (l.getD k.toNat (none,0,0)).1 (l.getD k.toNat (none,0,0)).2.1 (l.getD k.toNat (none,0,0)).2.2))) else .fail
   | _=>.fail
  | _,_=>.fail
 | _=>.fail
def aK (T:cI)(ρ:Operand->Option SV)(bx:Nat->Option aP)(op:Op):Q:=
 match op with
 | .move x|.assign x=>match ρ x with
  | some v=>.ret [] v
  | none=>.fail
 | .pick c a b=>match ρ c with
  | some (.c .tt)=>match ρ a with
   | some v=>.ret [] v
   | none=>.fail
  | some (.c .ff)=>match ρ b with
   | some v=>.ret [] v
   | none=>.fail
  | _=>.fail
 | .alloc t=>match aC T t with
  | some i=>.new [] ⟨.lit i.zero,t⟩ fun d=>.c (.ptr d 0)
  | none=>.fail
 | .box t x=>match ρ x with
  | some v=>match v.vd with
   | true=>.fail
   | false=>.new v.eC ⟨.lit v.cells,t⟩ fun d=>.c (.ptr d 0)
  | none=>.fail
 | .build t parts=>match aC T t,partsOf ρ parts.toList with
  | some i,some ps=>match i.k with
   | .struct fs=>match eV T fs with
    | some pl=>match nf (fun j=>pl[j]?) i.zero ps with
     | some cs=>.ret (ps.flatMap fun x=>x.2.eC) (.agg cs)
     | none=>.fail
    | none=>.fail
   | .arr _ e=>match aC T e with
    | some ei=>match nf (fun j=>some (j*ei.size,ei.size)) i.zero ps with
     | some cs=>.ret (ps.flatMap fun x=>x.2.eC) (.agg cs)
     | none=>.fail
    | none=>.fail
   | _=>.fail
  | _,_=>.fail
 | .buildSlice t len parts=>match aC T t,partsOf ρ parts.toList with
  | some i,some ps=>match i.k with
   | .slice e=>match aC T e with
    | some ei=>if Nat.ble (len*ei.size) 16777216&&Nat.beq ei.zero.length ei.size&&!(Nat.beq ei.size 0) then match nf (fun j=>some (j*ei.size,ei.size)) (rep len ei.zero) ps with
      | some cs=>.new (ps.flatMap fun x=>x.2.eC) ⟨.lit cs,e⟩ fun d=>.c (.gU d 0 len len)
      | none=>.fail
     else .fail
    | none=>.fail
   | _=>.fail
  | _,_=>.fail
 | .load t a=>match aC T t,ρ a with
  | some i,some x=>iQ bx i x
  | _,_=>.fail
 | .store t a x=>match aC T t,ρ a,ρ x with
  | some i,some av,some xv=>fS bx i av xv
  | _,_,_=>.fail
 | .nilCheck x=>match ρ x with
  | some (.c (.ptr s o))=>.ret [] (.c (.ptr s o))
  | some (.c (.v (.pointer p)))=>.ret [p.isSome=true] (.c (.v (.pointer p)))
  | _=>.fail
 | .binOp o xt x y _=>match ρ x,ρ y with
  | some (.c a),some (.c b)=>match b with
   | .v .nilIface=>match y with
    | .const _=>As T o xt a b
    | _=>.fail
   | b=>As T o xt a b
  | _,_=>.fail
 | .unOp .not _ x=>match ρ x with
  | some (.c .tt)=>.ret [] (.c .ff)
  | some (.c .ff)=>.ret [] (.c .tt)
  | some (.c (.v (.bool b)))=>.ret [] (.c (.v (.bool (!b))))
  | _=>.fail
 | .unOp .xor _ x=>match ρ x with
  | some (.c (.v (.int k n)))=>.ret [] (.c (.v (.int k (aU .xor k (if k.signed then -1 else k.max) n))))
  | _=>.fail
 | .unOp .neg _ x=>match ρ x with
  | some (.c (.v (.int k n)))=>.ret [] (.c (.v (.int k (k.wrap (0-n)))))
  | _=>.fail
 | .convert src dst x=>match aC T src,aC T dst,ρ x with
  | some _,some i,some (.c (.v (.int _ n)))=>match i.k with
   | .int k=>.ret [] (.c (.v (.int k (k.wrap n))))
   | _=>.fail
  | _,_,_=>.fail
 | .makeFunc (.func f) first caps=>match first.toList with
  | []=>match bR ρ caps.toList with
   | some xs=>match vD xs with
    | some ss=>.ret [] (.c (.kd f ss))
    | none=>.fail
   | none=>.fail
  | _=>.fail
 | .makeSlice t l c=>match aC T t,ρ l,ρ c with
  | some i,some lv,some cv=>zm T i lv cv
  | _,_,_=>.fail
 | .slice t x lo hi mx=>match aC T t,ρ x,An ρ lo,An ρ hi,An ρ mx with
  | some i,some xv,some l,some h,some m=>match i.k with
   | .slice e=>match aC T e with
    | some ei=>rk ei.size xv l h m
    | none=>.fail
   | _=>.fail
  | _,_,_,_,_=>.fail
 | .fieldAddr t x f=>match aC T t,ρ x with
  | some i,some xv=>match i.k with
   | .struct fs=>match fs[f]? with
    | some (ft,off)=>match aC T ft with
     | some fi=>if Nat.beq fi.size 0 then .fail else match xv with
      | .c (.ptr s o)=>.ret [] (.c (.ptr s (o+off)))
      | .c (.v (.pointer p))=>.ret [p.isSome=true] (.c (.v (.pointer (ah p off))))
      | _=>.fail
     | none=>.fail
    | none=>.fail
   | _=>.fail
  | _,_=>.fail
 | .field t x f=>match aC T t,ρ x with
  | some i,some (.agg cs)=>match i.k with
   | .struct fs=>match fs[f]? with
    | some (ft,off)=>match aC T ft with
     | some fi=>match fi.k with
      | .struct _|.arr _ _=>.ret [] (.agg ((cs.drop off).take fi.size))
      | _=>match cs[off]? with
       | some c=>.ret [] (.c c)
       | none=>.fail
     | none=>.fail
    | none=>.fail
   | _=>.fail
  | _,_=>.fail
 | .indexAddr t x ix=>match aC T t,ρ x,ρ ix with
  | some i,some xv,some iv=>fR T i xv iv
  | _,_,_=>.fail
 | .extract x j=>match ρ x with
  | some (.oI xs)=>match xs[j]? with
   | some v=>match qN v with
    | some y=>.ret [] y
    | none=>.fail
   | none=>.fail
  | _=>.fail
 | .call c=>match c.callee with
  | .builtin .append=>match bR ρ c.args.toList,c.argTypes.toList with
   | some [b,x],[t,t']=>match aC T t,aC T t' with
    | some i,some i'=>match i.k,i'.k with
     | .slice e,.slice _=>match aC T e with
      | some ei=>bX bx e ei b x
      | none=>.fail
     | _,_=>.fail
    | _,_=>.fail
   | _,_=>.fail
  | .builtin .clear=>match bR ρ c.args.toList,c.argTypes.toList with
   | some [x],[t]=>kX T bx t x
   | _,_=>.fail
  | .builtin b=>match bR ρ c.args.toList,c.argTypes.toList with
   | some xs,t::_=>match aC T t with
    | some i=>ko b i.k xs
    | none=>.fail
   | _,_=>.fail
  | _=>.fail
 | .index t x ix=>match aC T t,ρ x,ρ ix with
  | some i,some (.c (.v (.string s))),some (.c (.v (.int _ n)))=>match i.k with
   | .str=>.ret [0<=n/\n<(s.size:Int)] (.c (.v (.int .u8 ((s.data.toList.getD n.toNat 0).toNat:Int))))
   | _=>.fail
  | some i,some (.agg cs),some (.c (.v (.int _ n)))=>kq T i cs n
  | _,_,_=>.fail
 | .makeInterface t x=>match aC T t,ρ x with
  | some i,some v=>vF t i v
  | _,_=>.fail
 | _=>.fail
def zC:List Prop->Prop->Prop
 | [],k=>k
 | p::r,k=>p/\zC r k
def View.K5 (V:View)(p:Addr):Nat->List C->Prop->Prop
 | _,[],k=>k
 | i,c::r,k=>V.at (p.add i) (c.den fun _=>0)/\V.K5 p (i+1) r k
def View.J1 (V:View)(p:OA)(x:SV)(k:Prop):Prop:=
 match x with
 | .agg cs=>∃a,p=some a/\V.K5 a 0 cs k
 | .c c=>(∃a,p=some a/\V.at a (c.den fun _=>0))/\k
 | .oI _=>False
def K_ (vs:List Value)(o size:Nat)(x:SV):Prop:=
 match x with
 | .agg cs=>o+size<=vs.length/\(vs.drop o).take size=cs.map (C.den fun _=>0)
 | .c c=>vs[o]?=some (c.den fun _=>0)
 | .oI _=>False
def dZ (x:Nat):List Nat->Bool
 | []=>false
 | y::r=>cond (Nat.beq x y) true (dZ x r)
def dedup:List Nat->List Nat
 | []=>[]
 | x::r=>let l:=dedup r;cond (dZ x l) l (x::l)
def uL (l m:List Nat):Bool:=l.all fun x=>!(dZ x m)
def JE (l m:List Nat):Bool:=l.all fun x=>dZ x m
def C.rel (L:List Nat)(β:Nat->Nat)(J:C->Value):C->C
 | .ptr s o=>cond (dZ s L) (.v (.pointer (some ⟨β s,o,none⟩))) (.ptr s o)
 | .gU s o n c=>cond (dZ s L) (.v (.slice (some ⟨β s,o,none⟩) n c)) (.gU s o n c)
 | .gF s n c=>cond (dZ s L) (.v (.slice (mA (β s) c) n c)) (.gF s n c)
 | .kd f ss=>cond (uL ss L) (.kd f ss) (.w (J (.kd f ss)))
 | x=>x
def SV.rel (L:List Nat)(β:Nat->Nat)(J:C->Value):SV->SV
 | .c x=>.c (x.rel L β J)
 | .agg cs=>.agg (cs.map (C.rel L β J))
 | .oI xs=>.oI (xs.map fun x=>(x.1,x.2.map (C.rel L β J)))
def aP.rel (L:List Nat)(β:Nat->Nat)(J:C->Value)(b:aP):aP:=
 match b.cs with
 | .row _=>b
 | .aN _=>b
 | .lit cs=>⟨.lit (cs.map (C.rel L β J)),b.ty⟩
def St.rel (st:St)(L:List Nat)(β:Nat->Nat)(J:C->Value):St:=
 ⟨fun t=>match st.ay t with|some x=>some (x.rel L β J)|none=>none,
   fun t=>cond (dZ t L) none (match st.boxes t with|some b=>some (b.rel L β J)|none=>none)⟩
def View.sl (V:View)(a:OA)(xs:List Value):Prop:=∀i v,xs[i]?=some v->∃ad,a=some ad/\V.at (ad.add i) v
def mT (s d:Nat):Nat:=cond (Nat.blt s 100000) d (d+200000)
def Bk (s:Nat)(vs:List Value)(n c size bytes:Nat)(ty:TypeId)(d:Nat)(st:St)(V:View)(K:St->View->Prop)(k:Nat)(xs:List Value):Prop:=
 (n+k)*bytes<=140737488355328/\n<=c/\c*size<=vs.length/\xs.length=k*size/\(∀v∈xs,v.oneCell'=true) /\
  match st.boxes (mT s d) with
  | some _=>False
  | none=>∀(_:Nat)(_:C->Value)(spare:List Value)(c':Nat),n+k<=c'->c'*size<=(n+k)*size+spare.length ->
   K (((st.box s ⟨.aN [],ty⟩).box (mT s d) ⟨.row (vs.take (n*size)++xs++spare),ty⟩).put (some d) (.c (.gU (mT s d) 0 (n+k) c'))) V
def si (s:Nat)(vs:List Value)(n c size bytes:Nat)(ty:TypeId)(d:Nat)(st:St)(V:View)(K:St->View->Prop)(k:Nat)(xs:List Value):Prop:=
 (n+k)*bytes<=140737488355328/\n<=c/\c*size<=vs.length/\xs.length=k*size/\(∀v∈xs,v.oneCell'=true) /\
  match st.boxes (mT s d) with
  | some _=>False
  | none=>∀(spare:List Value)(c':Nat),n+k<=c'->c'*size<=(n+k)*size+spare.length ->
   K (((st.box s ⟨.aN [],ty⟩).box (mT s d) ⟨.aN (vs.take (n*size)++xs++spare),ty⟩).put (some d) (.c (.gF (mT s d) (n+k) c'))) V
def Bl (vs:List Value)(n c size bytes:Nat)(ty:TypeId)(d:Nat)(st:St)(V:View)(K:St->View->Prop)(k:Nat)(xs:List Value):Prop:=
 (n+k)*bytes<=140737488355328/\c<n+k/\xs.length=k*size/\(∀v∈xs,v.oneCell'=true) /\
  match st.boxes d with
  | some _=>False
  | none=>∀(spare:List Value)(c':Nat),n+k<=c'->c'*size<=(n+k)*size+spare.length ->
   K ((st.box d ⟨.row (vs++xs++spare),ty⟩).put (some d) (.c (.gU d 0 (n+k) c'))) V
def tv (q:Q)(dst:Option Nat)(st:St)(V:View)(K:St->View->Prop):Prop:=
 match q with
 | .fail=>False
 | .ret sc x=>zC sc (K (st.put dst x) V)
 | .new sc b x=>match dst with
  | some d=>match st.boxes d with
   | none=>zC sc (K ((st.box d b).put (some d) (x d)) V)
   | some _=>False
  | none=>False
 | .tu sc s b=>match dst with
  | none=>zC sc (K (st.box s b) V)
  | some _=>False
 | .rd p sh=>sh.ex fun x=>V.J1 p x (K (st.put dst x) V)
 | .nk vs o size sh=>sh.ex fun x=>K_ vs o size x/\K (st.put dst x) V
 | .qZ s vs n c x size bytes ty=>match dst with
  | none=>False
  | some d=>match x with
   | .inr xs=>si s vs n c size bytes ty d st V K (xs.length / size) xs
   | .inl (a,k)=>∃xs:List Value,V.sl a xs/\xs.length=k*size/\si s vs n c size bytes ty d st V K k xs
 | .app old ba vs n c x size bytes ty=>match dst with
  | none=>False
  | some d=>match old with
   | some s=>match x with
    | .inr xs=>Bk s vs n c size bytes ty d st V K (xs.length / size) xs
    | .inl (a,k)=>∃xs:List Value,V.sl a xs/\xs.length=k*size/\Bk s vs n c size bytes ty d st V K k xs
   | none=>∃vs:List Value,V.sl ba vs/\vs.length=n*size/\n<=c/\(ba.isNone=true->c=0)/\(match x with
    | .inr xs=>Bl vs n c size bytes ty d st V K (xs.length / size) xs
    | .inl (a,k)=>∃xs:List Value,V.sl a xs/\xs.length=k*size/\(k=0->K (st.put (some d) (.c (.v (.slice ba n c)))) V)/\(k≠0->Bl vs n c size bytes ty d st V K k xs))
def bG (β:Nat->Nat)(s b:Nat):Nat->Nat:=fun t=>cond (Nat.beq t s) b (β t)
def kC:List Nat->(Nat->Nat)->((Nat->Nat)->Prop)->Prop
 | [],β,k=>k β
 | s::r,β,k=>∀b:Nat,kC r (bG β s b) k
def kE (bx:Nat->Option aP)(s:Nat):List Nat:=match bx s with|some b=>b.cs.ids|none=>[]
def reach (bx:Nat->Option aP):Nat->List Nat->List Nat
 | 0,l=>l
 | n+1,l=>reach bx n (dedup (l++l.flatMap (kE bx)))
def gi (bx:Nat->Option aP)(l:List Nat):Bool:=l.all fun s=>JE (kE bx s) l
def LY (bx:Nat->Option aP)(b:aP)(β:Nat->Nat)(s:Nat):List Nat->Prop->Prop
 | [],k=>k
 | t::r,k=>cond (Nat.beq s t) (LY bx b β s r k) (match bx t with
  | some b'=>pA (Hm b++Hm b') (β s≠β t)->LY bx b β s r k
  | none=>False)
def hU (bx:Nat->Option aP)(β:Nat->Nat)(V:View):List Nat->Prop->Prop
 | [],k=>k
 | s::r,k=>match bx s with
  | some b=>pA (Hm b) (V.w.heap[β s]?=some (b.obj β))->pA (Hm b) (V.H (β s))->hU bx β V r (LY bx b β s r k)
  | none=>False
def vb (vs:List Value)(n b:Nat):Nat:=
 match vs with
 | []=>n
 | _::_=>b
def cO (bx:Nat->Option aP)(β:Nat->Nat)(n:Nat)(s:Nat):Nat:=
 match bx s with
 | some ⟨.aN vs,_⟩=>vb vs n (β s)
 | _=>β s
def C.kept:C->List Nat
 | .kd _ ss=>0::ss
 | c=>c.ids
def kN (mv:Option (Nat×Nat)):List C->List C->(List C->Prop)->Prop
 | [],_,K=>K []
 | c::r,z::zr,K=>match c with
  | .gF t _ _=>match mv with
   | some (m,nb)=>match Nat.beq t m with
    | true=>∃n c:Nat,kN mv r zr fun cs=>K (.gF nb n c::cs)
    | false=>False
   | none=>False
  | c=>match c.kept with
   | []=>(QL z).ex fun v=>kN mv r zr fun cs=>K (v::cs)
   | _=>kN mv r zr fun cs=>K (c::cs)
 | _,[],_=>False
def dz (T:cI)(mv:Option (Nat×Nat))(β:Nat->Nat)(V:View):List Nat->St->(St->Prop)->Prop
 | [],st,k=>k st
 | s::r,st,k=>match st.boxes s with
  | some ⟨.lit cs,ty⟩=>match aC T ty with
   | some i=>kN mv cs i.zero fun cs'=>V.w.heap[β s]?=some (.cells (cs'.map (C.den β)).toArray ty (0,0))/\dz T mv β V r (st.box s ⟨.lit cs',ty⟩) k
   | none=>False
  | some ⟨.row _,ty⟩=>∃vs:List Value,V.w.heap[β s]?=some (.cells vs.toArray ty (0,0))/\dz T mv β V r (st.box s ⟨.row vs,ty⟩) k
  | some ⟨.aN vs,ty⟩=>vs≠[]/\∃vs':List Value,vs'≠[]/\V.w.heap[β s]?=some (.cells vs'.toArray ty (0,0))/\dz T mv β V r (st.box s ⟨.aN vs',ty⟩) k
  | _=>False
def pM (bx:Nat->Option aP)(β:Nat->Nat)(V:View):List Nat->Prop->Prop
 | [],k=>k
 | s::r,k=>match bx s with
  | some b=>pA (Hm b) (V.bI (β s) (b.obj β))->pM bx β V r k
  | none=>False
def nX:List C->List Nat
 | []=>[]
 | .gF t _ _::r=>t::nX r
 | _::r=>nX r
def pG (bx:Nat->Option aP)(L:List Nat):List Nat:=dedup (L.flatMap fun s=>match bx s with|some ⟨.lit cs,_⟩=>nX cs|_=>[])
def kQ:List SV->List Nat
 | []=>[]
 | .c (.gF s _ _)::_=>[s]
 | .c (.gU s 0 _ _)::_=>[s]
 | _::r=>kQ r
def tT (nb:Nat):List (Bool×List C)->List (Bool×List C)
 | []=>[]
 | (false,[.v (.slice _ n c)])::r=>(false,[.gF nb n c])::r
 | x::r=>x::tT nb r
def Aa (nb:Nat):List C->List C
 | []=>[]
 | .v (.slice _ n c)::r=>.gF nb n c::r
 | x::r=>x::Aa nb r
def qR (nb:Nat):SV->SV
 | .c (.v (.slice _ n c))=>.c (.gF nb n c)
 | .agg cs=>.agg (Aa nb cs)
 | .oI xs=>.oI (tT nb xs)
 | x=>x
def Ab (T:cI):List TypeId->Option TypeId
 | []=>none
 | t::r=>match aC T t with
  | some i=>match i.k with
   | .slice e=>some e
   | _=>Ab T r
  | none=>none
def Ia (T:cI)(ty:TypeId):Option TypeId:=
 match aC T ty with
 | some i=>match i.k with
  | .slice e=>some e
  | .tuple ts=>Ab T ts
  | .struct fs=>Ab T (fs.map Prod.fst)
  | _=>none
 | none=>none
def aO (β:Nat->Nat)(xs:List SV):Array Value:=(xs.map (SV.den β)).toArray
inductive CM where
 | none|ax|rel|g_|give
def eA (m:Option Nat)(d:Nat):Nat:=
 match m with
 | some m=>mT m d
 | Option.none=>d
def Yj (m:Option Nat)(nb:Nat):Option (Nat×Nat):=
 match m with
 | some m=>some (m,nb)
 | Option.none=>Option.none
def Cc (m:Option Nat)(L:List Nat):List Nat:=
 match m with
 | some m=>L.filter fun s=>!(Nat.beq s m)
 | Option.none=>L
def pf (m:Option Nat)(ety:TypeId)(st:St):St:=
 match m with
 | some m=>st.box m ⟨.aN [],ety⟩
 | Option.none=>st
def wL (m:Option Nat)(st:St)(β:Nat->Nat)(b':Nat):Prop:=
 match m with
 | some m=>match st.boxes m with
  | some ⟨.aN vs,_⟩=>vs≠[]/\b'=β m
  | _=>b'=β m
 | Option.none=>False
def bM (T:cI)(give:Bool)(sh:Sh)(L:List Nat)(m:Option Nat)(d:Nat)(ety:TypeId)(β:Nat->Nat)(st:St)(V':View)(K:St->View->Prop)(r':Value)(dX:View):Prop:=
 ∃(b':Nat)(vs':List Value),(vs'≠[]->dX.w.heap[b']?=some (.cells vs'.toArray ety (0,0)))/\(vs'≠[]->V'.w.heap.size<=b'\/wL m st β b') /\
  sh.ex fun x=>r'=(cond give (qR (eA m d) x) x).den (bG β (eA m d) b') /\
   dz T (Yj m (eA m d)) (bG β (eA m d) b') dX (Cc m L) ((pf m ety st).box (eA m d) ⟨.aN vs',ety⟩) fun st'=>K (st'.put (some d) (cond give (qR (eA m d) x) x)) (dX.shut.cu (vs'≠[]) b')
def AA (bx:Nat->Option aP)(m ety:Nat):Bool:=
 match bx m with
 | some ⟨_,t⟩=>Nat.beq t ety
 | Option.none=>true
def dg (st:St)(L:List Nat)(ty:TypeId):St:=L.foldl (fun st s=>st.box s ⟨.aN [],ty⟩) st
def iO (st:St)(m:Option Nat)(d:Nat):Bool:=
 match st.boxes (eA m d) with
 | some _=>false
 | Option.none=>true
def eM (P:Program)(T:cI)(m:CM)(f:FuncId)(xs:List SV)(ty:TypeId)(dst:Option Nat)(st:St)(V:View)(K:St->View->Prop):Prop:=
 match Tw T ty with
 | Option.none=>False
 | some sh=>match reach st.boxes 3 (dedup (xs.flatMap SV.ids)) with
  | []=>match m with
   | .give=>match dst,Ia T ty with
    | some d,some ety=>match iO st Option.none d with
     | false=>False
     | true=>∀V':View,V.Le V'->aa P f (aO (fun _=>0) xs) V' (bM T true sh [] Option.none d ety (fun _=>0) st V' K)
    | _,_=>False
   | .g_=>match sh,dst with
    | .val (.one .ptr),some d=>match st.boxes d with
     | some _=>False
     | Option.none=>match aC T ty with
      | some ti=>match ti.k with
       | .ptr e=>match aC T e with
        | some ei=>∀V':View,V.Le V'->aa P f (aO (fun _=>0) xs) V' fun r dX=>∃b:Nat,Mt (ei.zero.map QL) fun cs=>
          r=.pointer (some ⟨b,0,Option.none⟩)/\V'.w.heap.size<=b/\dX.bI b (.cells (cs.map (C.den fun _=>0)).toArray e (0,0))/\K ((st.box d ⟨.lit cs,e⟩).put (some d) (.c (.ptr d 0))) (dX.Ig b)
        | Option.none=>False
       | _=>False
      | Option.none=>False
    | _,_=>False
   | _=>∀V':View,V.Le V'->aa P f (aO (fun _=>0) xs) V' fun r dX=>sh.ex fun x=>r=x.den (fun _=>0)/\K (st.put dst x) dX
  | s::r=>match gi st.boxes (s::r) with
   | false=>False
   | true=>match m with
    | .none|.g_=>False
    | .give=>match dst,Ia T ty,kQ xs,pG st.boxes (s::r) with
     | some d,some ety,[],[]=>match iO st Option.none d with
      | false=>False
      | true=>∀V':View,V.Le V'->kC (s::r) (fun _=>0) fun β=>hU st.boxes β V' (s::r)
       (aa P f (aO β xs) (V'.ax ((s::r).map (cO st.boxes β V'.w.heap.size))) (bM T true sh (s::r) Option.none d ety β st V' K))
     | some d,some ety,[m],[]=>match AA st.boxes m ety with
      | true=>match iO st (some m) d with
       | false=>False
       | true=>∀V':View,V.Le V'->kC (s::r) (fun _=>0) fun β=>hU st.boxes β V' (s::r)
        (aa P f (aO β xs) (V'.ax ((s::r).map (cO st.boxes β V'.w.heap.size))) (bM T true sh (s::r) (some m) d ety β st V' K))
      | false=>match iO (dg st (s::r) 0) Option.none d with
       | false=>False
       | true=>match (s::r).all fun t=>Nat.blt t 100000 with
        | false=>False
        | true=>∀V':View,V.Le V'->kC (s::r) (fun _=>0) fun β=>pM st.boxes β V' (s::r)
         (aa P f (aO β xs) V' (bM T true sh [] Option.none d ety (fun _=>0) (dg st (s::r) 0) V' K))
     | _,_,_,_=>False
    | .ax=>match pG st.boxes (s::r) with
     | []=>∀V':View,V.Le V'->kC (s::r) (fun _=>0) fun β=>hU st.boxes β V' (s::r)
      (aa P f (aO β xs) (V'.ax ((s::r).map (cO st.boxes β V'.w.heap.size))) fun r' dX=>sh.ex fun x=>r'=x.den (fun _=>0)/\dz T Option.none β dX (s::r) st fun st'=>K (st'.put dst x) dX.shut)
     | [m]=>match dst,jZ st.boxes m with
      | some d,some ety=>match iO st (some m) d with
       | false=>False
       | true=>∀V':View,V.Le V'->kC (s::r) (fun _=>0) fun β=>hU st.boxes β V' (s::r)
        (aa P f (aO β xs) (V'.ax ((s::r).map (cO st.boxes β V'.w.heap.size))) (bM T false sh (s::r) (some m) d ety β st V' K))
      | _,_=>False
     | _=>False
    | .rel=>match (s::r).all fun t=>Nat.blt t 100000 with
     | false=>False
     | true=>∀V':View,V.Le V'->kC (s::r) (fun _=>0) fun β=>pM st.boxes β V' (s::r)
      (aa P f (aO β xs) V' fun r' dX=>sh.ex fun x=>r'=x.den (fun _=>0)/\∀J:C->Value,K ((st.rel (s::r) β J).put dst x) dX)
def lj (bx:Nat->Option aP):List SV->Option (List Value×Nat×List SV)
 | []=>none
 | x::r=>match x with
  | .c (.gF s n c)=>match bx s with
   | some ⟨.aN vs,_⟩=>some (vs,c,.c (.v (.slice none n c))::r)
   | _=>none
  | x=>match lj bx r with
   | some (vs,c,r')=>some (vs,c,x::r')
   | none=>none
def jP (P:Program)(T:cI)(m:CM)(f:FuncId)(xs:List SV)(ty:TypeId)(dst:Option Nat)(st:St)(V:View)(K:St->View->Prop):Prop:=
 match m with
 | .ax=>match lj st.boxes xs with
  | some (vs,c,xs')=>(vs=[]->c=0/\eM P T .ax f xs' ty dst st V K)/\(vs≠[]->eM P T .ax f xs ty dst st V K)
  | none=>eM P T .ax f xs ty dst st V K
 | m=>eM P T m f xs ty dst st V K
def uJ (ss:List Nat):List SV:=ss.map fun s=>.c (.ptr s 0)
inductive Hint where
 | free|own (l:List Nat)
def gR (op:Op):List Operand:=
 match op with
 | .load _ a=>[a]
 | .store _ a _=>[a]
 | .call ⟨.value f,args,_⟩=>args.toList++[f]
 | .call ⟨.builtin .append,args,_⟩=>args.toList
 | _=>[]
def dO (bx:Nat->Option aP)(op:Op)(l:List Nat):List Nat:=
 match op with
 | .call _=>reach bx 3 (dedup l)
 | _=>l
def Ei (P:Program)(t:TypeId)(name:String):Option FuncId:=
 match P.info? t,P.underlying t with
 | some i,some d=>match i.methods.find? (fun m=>m.name==name) with
  | some m=>match m.path.toList,m.func,d with
   | [],some (f,false),.struct _=>some f
   | _,_,_=>none
  | none=>none
 | _,_=>none
def cF (P:Program)(T:cI)(m:CM)(o:Oper)(st:St)(V:View)(K:St->View->Prop):Prop:=
 match o.op with
 | .call ⟨.value JZ,args,_⟩=>match bR st.aY args.toList with
  | some xs=>match st.aY JZ with
   | some (.c (.kd f ss))=>jP P T m f (xs++uJ ss) o.type o.dst st V K
   | _=>False
  | none=>False
 | .call ⟨.invoke recv name,args,_⟩=>match bR st.aY args.toList with
  | some xs=>match st.aY recv with
   | some (.c (.w (.iface t v)))=>match Ei P t name with
    | some f=>jP P T m f (.c (.w v)::xs) o.type o.dst st V K
    | none=>False
   | _=>False
  | none=>False
 | op=>tv (aK T st.aY st.boxes op) o.dst st V K
def cz (P:Program)(T:cI)(m:CM)(h:Hint)(o:Oper)(st:St)(V:View)(K:St->View->Prop):Prop:=
 match h with
 | .free=>cF P T m o st V K
 | .own l=>match bR st.aY (gR o.op) with
  | some xs=>match JE (dO st.boxes o.op (xs.flatMap SV.ids)) l with
   | true=>cF P T m o st V K
   | false=>False
  | none=>False
def iV:SV:=.oI []
def pZ (P:Program)(T:cI)(m:CM)(h:Hint)(ops:Array Oper)(o:Oper)(st:St)(V:View)(K:St->View->Prop):Prop:=
 match o.guard with
 | none=>cz P T m h o st V K
 | some (j,b)=>match (ops[j]?).bind (·.dst) with
  | none=>False
  | some g=>match st.ay g with
   | some (.c .tt)=>match b with
    | true=>cz P T m h o st V K
    | false=>K (st.put o.dst iV) V
   | some (.c .ff)=>match b with
    | true=>K (st.put o.dst iV) V
    | false=>cz P T m h o st V K
   | some (.c (.v (.bool c)))=>match b with
    | true=>(c=true->cz P T m h o (st.put (some g) (.c .tt)) V K)/\(c=false->K ((st.put (some g) (.c .ff)).put o.dst iV) V)
    | false=>(c=true->K ((st.put (some g) (.c .tt)).put o.dst iV) V)/\(c=false->cz P T m h o (st.put (some g) (.c .ff)) V K)
   | some (.oI _)=>K (st.put o.dst iV) V
   | _=>False
inductive QP where
 | pure|load|store|alloc|call|kg|odd|g_|app|give
def a_ (LF RF:List Nat):Op->QP
 | .move _|.assign _|.pick ..| .build ..| .nilCheck _|.binOp ..| .unOp ..| .convert ..| .makeFunc ..| .slice ..| .fieldAddr ..| .field ..| .indexAddr ..| .extract ..| .index ..| .makeInterface ..=>.pure
 | .load ..=>.load
 | .store ..=>.store
 | .alloc _|.box ..| .buildSlice ..| .makeSlice ..=>.alloc
 | .call ⟨.builtin .len,_,_⟩|.call ⟨.builtin .cap,_,_⟩=>.pure
 | .call ⟨.builtin .append,_,_⟩=>.app
 | .call ⟨.value (.func f),_,_⟩=>match dZ f LF with
  | true=>match dZ (f+1000000) LF with
   | true=>.give
   | false=>.kg
  | false=>match dZ f RF with
   | true=>.odd
   | false=>match dZ (f+1000000) RF with
    | true=>.g_
    | false=>.call
 | .call ⟨.value _,_,_⟩=>.kg
 | .call ⟨.invoke _ _,_,_⟩=>.call
 | _=>.odd
def gS (op:Op):List Nat:=op.operands.toList.filterMap fun|.tmp t=>some t|_=>none
def di (ops:Array Oper)(o:Oper):List Nat:=
 match o.guard with
 | none=>[]
 | some (j,_)=>match (ops[j]?).bind (·.dst) with
  | some g=>[g]
  | none=>[]
def dt (o:Oper):List Nat:=match o.dst with|some d=>[d]|none=>[]
def pP (c:QP)(h:Hint)(d:List Nat):Option (List Nat×List Nat):=
 match c,h with
 | .pure,.free=>some ([],[])
 | .call,.free=>some ([],[])
 | .alloc,.free=>some (d,d)
 | .load,.own l=>some (l,[])
 | .store,.own l=>some (l,l)
 | .kg,.own l=>some (l,l++d++d.map (·+ 200000))
 | .app,.own l=>some (l,l++d++d.map (·+ 200000))
 | .give,.own l=>some (l,l++d++d.map (·+ 200000))
 | _,_=>none
def mb:QP->Bool
 | .pure|.load|.store|.alloc=>true
 | _=>false
def indep (LF RF:List Nat)(ops:Array Oper)(h1 h2:Hint)(o1 o2:Oper):Bool:=
 mb (a_ LF RF o1.op) &&
 uL (dt o1) (gS o2.op++di ops o2++dt o2)&&uL (dt o2) (gS o1.op++di ops o1) &&
 uL (di ops o1) (gS o2.op)&&uL (di ops o2) (gS o1.op) &&
 match pP (a_ LF RF o1.op) h1 (dt o1),pP (a_ LF RF o2.op) h2 (dt o2) with
 | some (r1,w1),some (r2,w2)=>uL w1 r2&&uL w2 r1&&uL w1 w2
 | _,_=>false
def Ov (ops:List Oper)(t:Nat):Option Oper:=ops.find? fun o=>match o.dst with|some d=>Nat.beq d t|none=>false
def vM (st:St)(ops:List Oper):Nat->Operand->List Nat
 | 0,_=>[]
 | n+1,.tmp t=>match Ov ops t with
  | some o=>match o.op with
   | .alloc _|.box ..| .buildSlice ..| .makeSlice ..=>[t]
   | .call _=>[t,t+200000]
   | .assign x=>vM st ops n x++match st.ay t with
    | some x=>x.ids
    | none=>[]
   | .load _ a=>(vM st ops n a).flatMap (kE st.boxes)
   | op=>op.operands.toList.flatMap (vM st ops n)
  | none=>match st.ay t with
   | some x=>x.ids
   | none=>[]
 | _,_=>[]
def Ih (LF RF:List Nat)(st:St)(ops:List Oper)(o:Oper):Hint:=
 match a_ LF RF o.op with
 | .load|.store=>.own (dedup ((gR o.op).flatMap (vM st ops 10)))
 | .kg|.app|.give=>.own (reach st.boxes 3 (dedup ((gR o.op).flatMap (vM st ops 10))))
 | _=>.free
def FZ (ops:List Oper):List Nat:=
 ops.foldl (fun acc o=>acc++[o.after.toList.foldl (fun s e=>cond (Region.binds .any e) (Nat.lor (Nat.lor (Nat.shiftLeft 1 e.on) (acc.getD e.on 0)) s) s) 0]) []
def Mp (m i:Nat):Bool:=Nat.beq (Nat.land (Nat.shiftRight m i) 1) 1
def KE (LF RF:List Nat)(o:Oper):Bool:=match a_ LF RF o.op with|.call|.kg|.odd|.g_|.app|.give=>true|_=>false
def Ev (ops:Array Oper)(done:List Nat)(i:Nat):Bool:=
 match ops[i]? with
 | some o=>!(dZ i done)&&o.after.toList.all fun e=>!(Region.binds .any e)||dZ e.on done
 | none=>false
def AB (LF RF:List Nat)(ops:Array Oper):Nat->List Nat->List Nat
 | 0,_=>[]
 | n+1,done=>
  let rs:=(List.range ops.size).filter (Ev ops done)
  match rs.find? (fun i=>match ops[i]? with|some o=>!(KE LF RF o)|none=>false) with
  | some i=>i::AB LF RF ops n (i::done)
  | none=>match rs with
   | i::_=>i::AB LF RF ops n (i::done)
   | []=>[]
def n_ (LF RF:List Nat)(ops:Array Oper):List Nat:=AB LF RF ops ops.size []
def tX (LF RF:List Nat)(ops:Array Oper)(hs:List Hint)(an:List Nat):List Nat->Bool
 | []=>true
 | i::r=>(r.all fun j=>Mp (an.getD j 0) i||match ops[i]?,ops[j]? with|some a,some b=>indep LF RF ops (hs.getD i .free) (hs.getD j .free) a b|_,_=>false)&&tX LF RF ops hs an r
def pJ (ops:Array Oper):List Nat->List Nat->Bool
 | _,[]=>true
 | done,i::r=>Ev ops done i&&pJ ops (i::done) r
def Fv (LF RF:List Nat)(ops:Array Oper)(hs:List Hint)(l:List Nat):Bool:=
 Nat.beq l.length ops.size&&((List.range ops.size).all fun i=>dZ i l)&&pJ ops [] l&&tX LF RF ops hs (FZ ops.toList) l
def JO (P:Program)(T:cI)(m:Nat->CM)(hint:Nat->Hint)(ops:Array Oper):List Nat->St->View->(St->View->Prop)->Prop
 | [],st,V,K=>K st V
 | i::r,st,V,K=>match ops[i]? with
  | some o=>pZ P T (m i) (hint i) ops o st V fun st' V'=>JO P T m hint ops r st' V' K
  | none=>False
def jH (LF RF:List Nat)(ops:Array Oper)(i:Nat):CM:=
 match ops[i]? with
 | some o=>match a_ LF RF o.op with
  | .kg=>.ax
  | .odd=>.rel
  | .g_=>.g_
  | .give=>.give
  | _=>.none
 | Option.none=>.none
def Pj (LF RF:List Nat)(ops:Array Oper)(i:Nat):CM:=
 match ops[i]? with
 | some o=>match a_ LF RF o.op with
  | .kg=>.ax
  | .g_=>.g_
  | .give=>.give
  | _=>.rel
 | Option.none=>.none
structure Tm where
 τ:Type
 gh:Bool:=false
 Sy:List Nat
 O1:List Nat
 ay:τ->List (Nat×SV)
 boxes:τ->List (Nat×aP)
structure Mf where
 τ:Type
 ay:τ->List (Nat×SV)
 boxes:τ->List (Nat×aP)
def Fo {α:Type}(f:Nat->Option α):List Nat->List (Nat×α)
 | []=>[]
 | t::r=>match f t with
  | some x=>(t,x)::Fo f r
  | none=>Fo f r
def Tm.at (A:Tm)(st:St):Mf:=⟨A.τ,fun x=>Fo st.ay A.Sy++A.ay x,fun x=>Fo st.boxes A.O1++A.boxes x⟩
def nP (ρ:List (Nat×Nat))(s s':Nat):Bool:=
 match aC ρ s' with
 | some t=>Nat.beq s t
 | none=>Nat.beq s s'
def yR (ρ:List (Nat×Nat)):List Nat->List Nat->Bool
 | [],[]=>true
 | s::r,s'::r'=>nP ρ s s'&&yR ρ r r'
 | _,_=>false
def Qr (ρ:List (Nat×Nat)):C->C->List Prop
 | .v (.int k a),.v (.int k' b)=>cond (vg k k') [a=b] [False]
 | .v (.bool a),.v (.bool b)=>[a=b]
 | .tt,.v (.bool b)=>[true=b]
 | .ff,.v (.bool b)=>[false=b]
 | .v (.slice a n c),.v (.slice a' n' c')=>[a=a',n=n',c=c']
 | .v (.slice a n c),.gF _ n' c'=>[a=none,n=n',c=c',c=0]
 | .v (.pointer p),.v (.pointer q)=>[p=q]
 | .v x,.v y=>[x=y]
 | .w x,.w y=>[x=y]
 | .w x,.v y=>[x=y]
 | .v x,.w y=>[x=y]
 | .tt,.tt=>[]
 | .ff,.ff=>[]
 | .ptr s o,.ptr s' o'=>cond (nP ρ s s') [o=o'] [False]
 | .gU s o n c,.gU s' o' n' c'=>cond (nP ρ s s') [o=o',n=n',c=c'] [False]
 | .gU s o n c,.gF s' n' c'=>cond (nP ρ s s') [o=0,n=n',c=c',c≠0] [False]
 | .gF s n c,.gF s' n' c'=>cond (nP ρ s s') [n=n',c=c'] [False]
 | .kd f ss,.kd g ts=>cond (yR ρ ss ts) [f=g] [False]
 | _,_=>[False]
def D0 (ρ:List (Nat×Nat)):List C->List C->List Prop
 | [],[]=>[]
 | a::r,b::s=>Qr ρ a b++D0 ρ r s
 | _,_=>[False]
def Ms (ρ:List (Nat×Nat)):SV->SV->List Prop
 | .c a,.c b=>Qr ρ a b
 | .agg l,.agg m=>D0 ρ l m
 | _,_=>[False]
def SV.plain:SV->Bool
 | .oI _=>false
 | _=>true
def H4 (ρ:List (Nat×Nat))(a b:aP):List Prop:=
 match a.cs,b.cs with
 | .lit l,.lit m=>cond (Nat.beq a.ty b.ty) (D0 ρ l m) [False]
 | .row l,.row m=>cond (Nat.beq a.ty b.ty) [l=m] [False]
 | .aN l,.aN m=>cond (Nat.beq a.ty b.ty) [l=m] [False]
 | .row l,.aN m=>cond (Nat.beq a.ty b.ty) [l=m] [False]
 | .lit l,.aN m=>match jA l with
  | some ws=>cond (Nat.beq a.ty b.ty) [ws=m] [False]
  | none=>[False]
 | .lit l,.row m=>match jA l with
  | some ws=>cond (Nat.beq a.ty b.ty) [ws=m] [False]
  | none=>[False]
 | _,_=>[False]
def PR:C->C->List (Nat×Nat)
 | .ptr s _,.ptr s' _=>[(s',s)]
 | .gU s _ _ _,.gU s' _ _ _=>[(s',s)]
 | .gU s _ _ _,.gF s' _ _=>[(s',s)]
 | .gF s _ _,.gF s' _ _=>[(s',s)]
 | .kd _ ss,.kd _ ts=>ts.zip ss
 | _,_=>[]
def Js:List C->List C->List (Nat×Nat)
 | a::r,b::s=>PR a b++Js r s
 | _,_=>[]
def PS:SV->SV->List (Nat×Nat)
 | .c a,.c b=>PR a b
 | .agg l,.agg m=>Js l m
 | _,_=>[]
def Nh (st:St):List (Nat×SV)->List (Nat×Nat)
 | []=>[]
 | (t,x)::r=>match st.ay t with
  | some y=>PS y x++Nh st r
  | none=>Nh st r
def G0 (st:St)(ρ:List (Nat×Nat)):List (Nat×aP)->List (Nat×Nat)
 | []=>[]
 | (t,x)::r=>match aC ρ t with
  | some s=>match st.boxes s with
   | some y=>(match y.cs,x.cs with|.lit l,.lit m=>Js l m|_,_=>[])++G0 st ρ r
   | none=>G0 st ρ r
  | none=>G0 st ρ r
def Jr (st:St)(ss:List (Nat×SV))(bs:List (Nat×aP)):List (Nat×Nat):=
 let ρ1:=Nh st ss
 let ρ2:=ρ1++G0 st ρ1 bs
 let ρ3:=ρ2++G0 st ρ2 bs
 ρ3++G0 st ρ3 bs
def Aw (ρ:List (Nat×Nat))(t:Nat):Nat:=
 match aC ρ t with
 | some s=>s
 | none=>t
def zq (ρ:List (Nat×Nat)):List Nat->Bool
 | []=>true
 | t::r=>(Nat.blt t 100000==Nat.blt (Aw ρ t) 100000)&&(Nat.blt t 100000||Nat.ble 200000 t||Nat.beq (Aw ρ t) t)&&(r.all fun u=>!(Nat.beq (Aw ρ t) (Aw ρ u)))&&zq ρ r
def me (ρ:List (Nat×Nat)):List (Nat×aP)->List Nat
 | []=>[]
 | (t,x)::r=>match x.cs with
  | .aN _=>match aC ρ t with
   | some _=>t::me ρ r
   | none=>me ρ r
  | _=>t::me ρ r
def Kp (ρ:List (Nat×Nat))(st:St):List (Nat×SV)->List Prop
 | []=>[]
 | (t,x)::r=>match st.ay t with
  | some y=>Ms ρ y x++Kp ρ st r
  | none=>[False]
def Gp (ρ:List (Nat×Nat))(st:St):List (Nat×aP)->List Prop
 | []=>[]
 | (t,x)::r=>match x.cs,aC ρ t with
  | .aN l,none=>(l=[])::Gp ρ st r
  | _,_=>match st.boxes (Aw ρ t) with
   | some y=>H4 ρ y x++Gp ρ st r
   | none=>[False]
def Ou (ρ:List (Nat×Nat))(bs:List (Nat×aP)):List Prop:=cond (zq ρ (me ρ bs)) [] [False]
def mq (ss:List (Nat×SV))(bs:List (Nat×aP)):Bool:=
 let l:=bs.map (·.1)
 (ss.all fun x=>x.2.ids.all fun s=>dZ s l)&&(bs.all fun x=>x.2.cs.ids.all fun s=>dZ s l)
def Mf.st (A:Mf)(x:A.τ):St:=⟨aC (A.ay x),aC (A.boxes x)⟩
def Mm:List Prop->Prop
 | []=>True
 | [p]=>p
 | p::r=>p/\Mm r
def Mf.fits (A:Mf)(st:St)(x:A.τ)(k:Prop):Prop:=
 let ρ:=Jr st (A.ay x) (A.boxes x)
 Mm (Kp ρ st (A.ay x)++Gp ρ st (A.boxes x)++Ou ρ (A.boxes x))/\k
def keyOf:Code->Nat
 | .region id _ _=>id
 | .seq a _=>keyOf a
 | .cond _ a b=>match keyOf a with
  | 1000000=>keyOf b
  | n=>n
 | .block _ a=>keyOf a
 | .loop a=>keyOf a
 | .scope a=>keyOf a
 | _=>1000000
abbrev Bb:=List (Nat×Tm)
def oL:Bb->Nat->Option Tm
 | [],_=>none
 | (s,x)::r,t=>cond (Nat.beq t s) (some x) (oL r t)
def L8 (RF:List Nat)(id:Nat):List Nat:=RF.filterMap fun x=>cond (Nat.beq (x / 100000) (100+id)) (some (x%100000)) none
def FT (l:List Nat)(st:St)(V:View)(K:St->View->Prop):Prop:=
 match l with
 | []=>K st V
 | s::r=>match gi st.boxes (s::r)&&(s::r).all fun t=>Nat.blt t 100000 with
  | false=>False
  | true=>∀V':View,V.Le V'->kC (s::r) (fun _=>0) fun β=>pM st.boxes β V' (s::r) (∀J:C->Value,K (st.rel (s::r) β J) V')
def CN (P:Program)(T:cI)(LF RF:List Nat)(ops:Array Oper)(draw:Bool)(st:St)(V:View)(K:St->View->Prop):Prop:=
 match draw with
 | false=>JO P T (Pj LF RF ops) (fun _=>.free) ops (List.range ops.size) st V K
 | true=>let hs:=ops.toList.map (Ih LF RF st ops.toList)
  match Fv LF RF ops hs (n_ LF RF ops) with
  | true=>JO P T (jH LF RF ops) (fun i=>hs.getD i .free) ops (n_ LF RF ops) st V K
  | false=>False
def TB (F:St->View->(Exit->St->View->Prop)->Prop):Nat->St->View->(Exit->St->View->Prop)->Prop
 | 0,_,_,_=>False
 | n+1,st,V,K=>F st V fun e st' V'=>match e with
  | .normal=>TB F n st' V' K
  | e=>K e st' V'
def vc (P:Program)(T:cI)(LF RF:List Nat)(L J:Bb):Code->St->View->(Exit->St->View->Prop)->Prop
 | .skip,st,V,K=>K .normal st V
 | .region id ops draw,st,V,K=>match oL J (600000+id) with
  | none=>FT (L8 RF id) st V fun st' V'=>CN P T LF RF ops draw st' V' (K .normal)
  | some A=>∃I:A.τ->View->Prop,FT (L8 RF id) st V (fun st' V'=>CN P T LF RF ops draw st' V' fun Jz dX=>∃x,(A.at st).fits Jz x (I x dX)) /\
   ∀x V',V.Le V'->I x V'->(mq ((A.at st).ay x) ((A.at st).boxes x)=true/\K .normal ((A.at st).st x) V')
 | .seq a b,st,V,K=>vc P T LF RF L J a st V fun e st' V'=>match e with
  | .normal=>vc P T LF RF L J b st' V' K
  | e=>K e st' V'
 | .cond c a b,st,V,K=>match oL J (keyOf (.cond c a b)) with
  | none=>match st.aY c with
   | some (.c .tt)=>vc P T LF RF L J a st V K
   | some (.c .ff)=>vc P T LF RF L J b st V K
   | some (.c (.v (.bool t)))=>(t=true->vc P T LF RF L J a st V K)/\(t=false->vc P T LF RF L J b st V K)
   | _=>False
  | some A=>match st.aY c with
   | some (.c .tt)=>vc P T LF RF L J a st V K
   | some (.c .ff)=>vc P T LF RF L J b st V K
   | some (.c (.v (.bool t)))=>∃I:A.τ->View->Prop,
    ((t=true->vc P T LF RF L J a st V fun e st' V'=>match e with
     | .normal=>∃x,(A.at st).fits st' x (I x V')
     | e=>K e st' V') /\
      (t=false->vc P T LF RF L J b st V fun e st' V'=>match e with
     | .normal=>∃x,(A.at st).fits st' x (I x V')
     | e=>K e st' V')) /\
    ∀x V',V.Le V'->I x V'->(mq ((A.at st).ay x) ((A.at st).boxes x)=true/\K .normal ((A.at st).st x) V')
   | _=>False
 | .block id a,st,V,K=>match oL J (500000+id) with
  | none=>vc P T LF RF L J a st V fun e st' V'=>match e with
   | .exit i=>cond (Nat.beq i id) (K .normal st' V') (K (.exit i) st' V')
   | e=>K e st' V'
  | some A=>∃I:A.τ->View->Prop,vc P T LF RF L J a st V (fun e st' V'=>match e with
   | .exit i=>cond (Nat.beq i id) (∃x,(A.at st).fits st' x (I x V')) (K (.exit i) st' V')
   | .normal=>∃x,(A.at st).fits st' x (I x V')
   | e=>K e st' V')/\∀x V',V.Le V'->I x V'->(mq ((A.at st).ay x) ((A.at st).boxes x)=true/\K .normal ((A.at st).st x) V')
 | .loop a,st,V,K=>match oL L (keyOf a) with
  | none=>TB (fun st V K=>vc P T LF RF L J a st V K) 3 st V K
  | some A=>match A.gh with
   | false=>∃(I:A.τ->View->Prop)(m:A.τ->Nat),(∃x,(A.at st).fits st x (I x V))/\∀x V',V.Le V'->I x V'->(mq ((A.at st).ay x) ((A.at st).boxes x)=true /\
    vc P T LF RF L J a ((A.at st).st x) V' fun e st' dX=>match e with
     | .normal=>∃y,m y<m x/\(A.at st).fits st' y (I y dX)
     | e=>K e st' dX)
   | true=>∃I:A.τ->Nat->View->Prop,(∃x k,(A.at st).fits st x (I x k V))/\∀x k V',V.Le V'->I x k V'->(mq ((A.at st).ay x) ((A.at st).boxes x)=true /\
    vc P T LF RF L J a ((A.at st).st x) V' fun e st' dX=>match e with
     | .normal=>∃y k',k'<k/\(A.at st).fits st' y (I y k' dX)
     | e=>K e st' dX)
 | .exit id,st,V,K=>K (.exit id) st V
 | .ret,st,V,K=>K .ret st V
 | .scope a,st,V,K=>vc P T LF RF L J a st V fun e st' V'=>match e with
  | .goto _=>False
  | e=>K e st' V'
 | .label _,st,V,K=>K .normal st V
 | _,_,_,_=>False
def ld (T:cI)(st:St):List ResultVar->Option (List SV)
 | []=>some []
 | .tmp t::r=>match st.ay t,ld T st r with
  | some x,some l=>some (x::l)
  | _,_=>none
 | .cell a t::r=>match st.ay a,aC T t,ld T st r with
  | some (.c (.ptr s o)),some i,some l=>match iQ st.boxes i (.c (.ptr s o)) with
   | .ret _ x=>some (x::l)
   | _=>none
  | _,_,_=>none
def minus (l m:List Nat):List Nat:=l.filter fun x=>!(dZ x m)
def HG (bx:Nat->Option aP)(β:Nat->Nat)(V:View):List Nat->Prop->Prop
 | [],k=>k
 | s::r,k=>match bx s with
  | some ⟨.aN _,_⟩=>False
  | some b=>V.w.heap[β s]?=some (b.obj β)->HG bx β V r k
  | none=>False
def iZ:List (Nat×aP)->List Nat
 | []=>[]
 | (s,b)::r=>match b.cs with
  | .aN _=>iZ r
  | _=>s::iZ r
def IG (bs:List (Nat×aP))(β0:Nat->Nat)(b:Nat)(k:Prop):Prop:=
 match bs with
 | []=>k
 | (m,x)::r=>match x.cs with
  | .aN vs=>(vs≠[]/\b=β0 m)\/IG r β0 b k
  | _=>IG r β0 b k
def k_ (β:Nat->Nat):List SV->Value
 | [x]=>x.den β
 | l=>.tuple (l.map (SV.den β)).toArray
def sF (T:cI)(bx:Nat->Option aP)(s:Nat):Bool:=
 cond (Nat.ble 100000 s) true (match bx s with|some ⟨.row _,ty⟩|some ⟨.aN _,ty⟩=>Nat.ble 2 (T.filter fun x=>Nat.beq x.1 ty).length|some ⟨.lit _,ty⟩=>Nat.ble 3 (T.filter fun x=>Nat.beq x.1 ty).length|_=>false)
def FD (T:cI)(rs:List ResultVar)(bs:List (Nat×aP))(β0:Nat->Nat)(n0:Nat)(R:Value->View->Prop)(st:St)(V:View):Prop:=
 match ld T st rs with
 | none=>False
 | some xs=>let F:=iZ bs
  let L:=reach st.boxes 3 (dedup (xs.flatMap SV.ids++F))
  match gi st.boxes L with
  | false=>False
  | true=>match (minus L F).filter (sF T st.boxes) with
   | []=>∀V':View,V.Le V'->kC (minus L F) β0 fun β=>HG st.boxes β V' F (pM st.boxes β V' (minus L F) (R (k_ β xs) V'))
   | [s]=>match st.boxes s with
    | some b=>∀V':View,kC (minus L F) β0 fun β=>V.Le (V'.cu (RO b) (β s))->HG st.boxes β V' F (pA (Hm b) (V'.w.heap[β s]?=some (b.obj β)) ->
      pA (Hm b) (n0<=β s\/IG bs β0 (β s) False)->pM st.boxes β V' ((minus L F).filter (!Nat.beq s ·)) (R (k_ β xs) V'))
    | none=>False
   | _=>False
def TE (P:Program)(T:cI)(LF RF:List Nat)(L J:Bb)(code:Code)(rs:List ResultVar)(ss:List (Nat×SV))(bs:List (Nat×aP))(β0:Nat->Nat)(V:View)(R:Value->View->Prop):Prop:=
 vc P T LF RF L J code ⟨aC ss,aC bs⟩ V fun e st V'=>match e with
  | .normal=>FD T rs bs β0 V.w.heap.size R st V'
  | .ret=>FD T rs bs β0 V.w.heap.size R st V'
  | _=>False
def gN (n:Nat):Code->Bool
 | .region _ ops _=>ops.toList.all fun o=>match o.dst with|some d=>Nat.blt d n|none=>true
 | .seq a b=>gN n a&&gN n b
 | .cond _ a b=>gN n a&&gN n b
 | .block _ a=>gN n a
 | .loop a=>gN n a
 | .scope a=>gN n a
 | _=>true
def mP:Nat->List (Nat×SV)->Bool
 | _,[]=>true
 | i,(j,x)::r=>Nat.beq i j&&x.plain&&mP (i+1) r
def AG (P:Program)(T:cI)(LF RF:List Nat)(L J:Bb)(fn:Func)(ss:List (Nat×SV))(bs:List (Nat×aP))(β0:Nat->Nat)(V:View)(R:Value->View->Prop):Prop:=
 match fn.body with
 | some code=>match gN fn.ntmps code&&mP 0 ss&&Nat.ble ss.length fn.ntmps&&Nat.ble fn.ntmps 100000&&(bs.all fun b=>Nat.ble 100000 b.1&&Nat.blt b.1 200000)&&mq ss bs with
  | true=>TE P T LF RF L J code fn.results.toList ss bs β0 V R
  | false=>False
 | none=>False
theorem View.Le.refl (V:View):V.Le V:=fun _ _ h=>h
theorem View.Le.trans {V V' dX:View}(h:V.Le V')(k:V'.Le dX):V.Le dX:=fun b o x=>k b o (h b o x)
theorem View.Le.at {V V':View}(h:V.Le V'){p:Addr}{v:Value}(k:V.at p v):V'.at p v:=by
 obtain ⟨b,a⟩:=k;unfold World.cell? at a;split at a
 ·rename_i c;obtain ⟨d,e⟩:=h p.block _ ⟨b,c⟩;refine ⟨d,?_⟩;unfold World.cell?;rw [e];exact a
 ·cases a
theorem h_.refl (X:Nat->Prop)(w:World):h_ X w w:=⟨Qq3 _,fun _ _ _=>rfl,rfl,rfl,rfl⟩
theorem h_.trans {X:Nat->Prop}{a b c:World}(h:h_ X a b)(k:h_ X b c):h_ X a c:=
 ⟨Qx3 h.size k.size,fun i d e=>(k.bI i (Qx2 d h.size) e).trans (h.bI i d e),k.os.trans h.os,k.tape.trans h.tape,k.out.trans h.out⟩
theorem h_.mono {X Y:Nat->Prop}{a b:World}(h:h_ X a b)(hxy:∀i,X i->Y i):h_ Y a b:=
 ⟨h.size,fun i c d=>h.bI i c fun e=>d (hxy i e),h.os,h.tape,h.out⟩
theorem View.O8 (V:View)(w':World)(hx:h_ V.X V.w w'):V.Le (V.to w' hx.size):=by
 rintro b o ⟨d,a⟩;refine ⟨d,?_⟩
 have c:b<V.w.heap.size:=by
  rcases Qy8 b V.w.heap.size with h|h
  ·exact h
  ·rw [Qn2 h] at a;cases a
 show w'.heap[b]?=some o;rw [hx.bI b c fun hX=>d (V.hX b hX)];exact a
theorem aa.mono {P:Program}{f:FuncId}{args:Array Value}{V:View}{R R':Value->View->Prop}(h:aa P f args V R)
  (hR:∀r V',V.Le V'->R r V'->R' r V'):aa P f args V R':=
 ⟨h.1,h.2.mono fun _ b ⟨r,he,a,c⟩=>⟨r,he,a,hR r _ (V.O8 b a) c⟩⟩
structure Ds where
 ids:List Nat
 B:Nat->Prop
section
variable (n:Nat) (V0:View) (bw:Ds) (β0:Nat->Nat)
structure Mod (st:St) (β:Nat->Nat) (a:Act) (w:World) (V:View):Prop where
 defers:a.defers=[]
 size:a.tmps.size=n
 ay:∀t x,st.ay t=some x->a.tmps.getD t undef=x.den β
 wY:∀t x,st.ay t=some x->∀s∈x.ids,∃b,st.boxes s=some b
 wX:∀s b,st.boxes s=some b->∀s'∈b.cs.ids,∃b',st.boxes s'=some b'
 boxes:∀s b,st.boxes s=some b->b.live->w.heap[β s]?=some (b.obj β)
 inj:∀s s' b b',st.boxes s=some b->b.live->st.boxes s'=some b'->b'.live->β s=β s'->s=s'
 nD:∀b o,V.bI b o->w.heap[b]?=some o/\¬V0.H b
 s_:∀s b,st.boxes s=some b->b.live->∀o,¬V.bI (β s) o
 ext:h_ V0.X V0.w w
 own:∀s b,st.boxes s=some b->b.live->V0.w.heap.size<=β s\/(100000<=s/\bw.B (β s))
 kD:∀s∈bw.ids,(100000<=s/\s<200000)/\β s=β0 s
 jD:∀b,bw.B b->V0.X b
 small:n<=100000
end
theorem cw {cs:List C}{ty:TypeId}:aP.live ⟨.lit cs,ty⟩:=fun _ h=>nomatch h
theorem cf {vs:List Value}{ty:TypeId}:aP.live ⟨.row vs,ty⟩:=fun _ h=>nomatch h
theorem dQ {vs:List Value}{ty:TypeId}(h:vs≠[]):aP.live ⟨.aN vs,ty⟩:=fun _ e=>by cases e;exact h
theorem eB {ty:TypeId}:¬aP.live ⟨.aN [],ty⟩:=fun h=>h [] rfl rfl
theorem eL {b:aP}{k:Prop}:pA (Hm b) k↔(b.live->k):=by
 obtain ⟨cs,ty⟩:=b
 cases cs with
 | lit cs=>exact ⟨fun h _=>h,fun h=>h cw⟩
 | row cs=>exact ⟨fun h _=>h,fun h=>h cf⟩
 | aN vs=>exact ⟨fun h l=>h (l vs rfl),fun h l=>h (dQ l)⟩
theorem rZ {l m:List Prop}{k:Prop}:pA (l++m) k↔pA l (pA m k):=by
 induction l with
 | nil=>exact Iff.rfl
 | cons p r ih=>exact ⟨fun h a=>ih.1 (h a),fun h a=>ih.2 (h a)⟩
theorem Kr {b:aP}:RO b↔b.live:=by
 obtain ⟨cs,ty⟩:=b
 cases cs with
 | lit cs=>exact ⟨fun _=>cw,fun _=>trivial⟩
 | row cs=>exact ⟨fun _=>cf,fun _=>trivial⟩
 | aN vs=>exact ⟨fun h=>dQ h,fun l=>l vs rfl⟩
theorem C.bB {β β':Nat->Nat}{c:C}(h:∀s∈c.ids,β s=β' s):c.den β=c.den β':=by
 cases c with
 | v x=>rfl
 | w x=>rfl
 | tt=>rfl
 | ff=>rfl
 | ptr s o=>simp [C.den,h s (by simp [C.ids])]
 | gU s o n c=>simp [C.den,h s (by simp [C.ids])]
 | gF s n c=>simp [C.den,h s (by simp [C.ids])]
 | kd f ss=>
  have:(ss.map fun s=>Value.pointer (some ⟨β s,0,none⟩))=ss.map fun s=>Value.pointer (some ⟨β' s,0,none⟩):=
   Qj0 fun s a=>by rw [h s (by simpa [C.ids] using a)]
  simp only [C.den,this]
theorem kL {β β':Nat->Nat}{cs:List C}(h:∀s∈cs.flatMap C.ids,β s=β' s):cs.map (C.den β)=cs.map (C.den β'):=
 Qj0 fun c a=>C.bB fun s b=>h s (Qw5.2 ⟨c,a,b⟩)
theorem xz {β β':Nat->Nat}{x:Bool×List C}(h:∀s∈x.2.flatMap C.ids,β s=β' s):ib β x=ib β' x:=by
 obtain ⟨b,cs⟩:=x
 cases b with
 | true=>simp only [ib];rw [kL h]
 | false=>
  match cs,h with
  | [],_=>rfl
  | [c],h=>simp only [ib];exact C.bB fun s a=>h s (by simpa using a)
  | _::_::_,_=>rfl
theorem SV.bB {β β':Nat->Nat}{x:SV}(h:∀s∈x.ids,β s=β' s):x.den β=x.den β':=by
 cases x with
 | c x=>exact C.bB h
 | agg cs=>simp only [SV.den];rw [kL h]
 | oI xs=>
  simp only [SV.den];congr 2;exact Qj0 fun x a=>xz fun s b=>h s (Qw5.2 ⟨x,a,b⟩)
theorem Cells.bB {β β':Nat->Nat}{x:Cells}(h:∀s∈x.ids,β s=β' s):x.den β=x.den β':=by
 cases x with
 | lit cs=>exact kL h
 | row vs=>rfl
 | aN vs=>rfl
theorem aP.cD {β β':Nat->Nat}{x:aP}(h:∀s∈x.cs.ids,β s=β' s):x.obj β=x.obj β':=by
 simp only [aP.obj];rw [Cells.bB h]
variable {P:Program} {T:cI} {n:Nat} {V0:View} {bw:Ds} {β0:Nat->Nat} {st:St} {β:Nat->Nat} {a:Act} {w:World} {V:View}
theorem Mod.eval (h:Mod n V0 bw β0 st β a w V){x:Operand}{v:SV}(hx:st.aY x=some v):a.eval x=v.den β:=by
 cases x with
 | tmp t=>exact h.ay t v hx
 | const c=>
  simp only [St.aY,Qq2] at hx;subst hx;simp only [Act.eval];unfold SV.ofConst;split
  ·rfl
  ·rfl
  ·rename_i cs;simp only [SV.den];congr 1
   have:∀l:List Value,(l.map C.ofConst).map (C.den β)=l:=by
    intro l
    induction l with
    | nil=>rfl
    | cons y r ih=>
     simp only [Qb3,ih];congr 1;unfold C.ofConst;split<;>rfl
   rw [this]
  ·rfl
 | global g=>simp only [St.aY,Qq2] at hx;subst hx;rfl
 | func f=>simp only [St.aY,Qq2] at hx;subst hx;simp [Act.eval,SV.den,C.den]
theorem Mod.live (h:Mod n V0 bw β0 st β a w V){x:Operand}{v:SV}(hx:st.aY x=some v):∀s∈v.ids,∃b,st.boxes s=some b:=by
 cases x with
 | tmp t=>exact h.wY t v hx
 | const c=>
  simp only [St.aY,Qq2] at hx;subst hx;intro s d;exfalso
  have e:∀y,(C.ofConst y).ids=[]:=by
   intro y;unfold C.ofConst;split<;>rfl
  unfold SV.ofConst at d;split at d
  ·simp [SV.ids,C.ids] at d
  ·simp [SV.ids,C.ids] at d
  ·obtain ⟨c,i,d⟩:=Qw5.1 d;obtain ⟨y,_,rfl⟩:=Qy0.1 i;rw [e] at d;cases d
  ·simp [SV.ids,C.ids] at d
 | global g=>simp only [St.aY,Qq2] at hx;subst hx;intro s d;simp [SV.ids,C.ids] at d
 | func f=>simp only [St.aY,Qq2] at hx;subst hx;intro s d;simp [SV.ids,C.ids] at d
theorem beq_eq {a b:Nat}:Nat.beq a b=true↔a=b:=by
 constructor
 ·exact Nat.eq_of_beq_eq_true
 ·intro h;subst h;exact Qz8 a
theorem cP (st:St)(d:Nat)(x:SV)(t:Nat):(st.put (some d) x).ay t=if t=d then some x else st.ay t:=by
 simp only [St.put];by_cases h:t=d
 ·subst h;simp [Qz8]
 ·have:Nat.beq t d=false:=by
   cases hb:Nat.beq t d
   ·rfl
   ·exact absurd (beq_eq.1 hb) h
  simp [this,h]
theorem ao (st:St)(s:Nat)(b:aP)(t:Nat):(st.box s b).boxes t=if t=s then some b else st.boxes t:=by
 simp only [St.box];by_cases h:t=s
 ·subst h;simp [Qz8]
 ·have:Nat.beq t s=false:=by
   cases hb:Nat.beq t s
   ·rfl
   ·exact absurd (beq_eq.1 hb) h
  simp [this,h]
theorem o_ (l:Array Value)(d t:Nat)(v:Value)(hd:d<l.size):(l.setIfInBounds d v).getD t undef=if t=d then v else l.getD t undef:=by
 by_cases h:t=d
 ·subst h;simp [hd]
 ·simp [h,Wx0 h]
theorem Mod.put (h:Mod n V0 bw β0 st β a w V){d:Nat}{x:SV}{v:Value}(hd:d<n)(hv:v=x.den β)(hl:∀s∈x.ids,∃b,st.boxes s=some b) :
  Mod n V0 bw β0 (st.put (some d) x) β (a.put (some d) v) w V where
 defers:=h.defers
 size:=by simp [Act.put,h.size]
 ay:=by
  intro t y c;rw [cP] at c;show (a.tmps.setIfInBounds d v).getD t undef=_;rw [o_ _ _ _ _ (by rw [h.size];exact hd)];split at c
  ·rename_i e;rw [if_pos e];simp only [Qq2] at c;rw [←c];exact hv
  ·rename_i e;rw [if_neg e];exact h.ay t y c
 wY:=by
  intro t y c;rw [cP] at c;split at c
  ·simp only [Qq2] at c;rw [←c];exact hl
  ·exact h.wY t y c
 wX:=h.wX
 boxes:=h.boxes
 inj:=h.inj
 nD:=h.nD
 s_:=h.s_
 ext:=h.ext
 own:=h.own
 kD:=h.kD
 jD:=h.jD
 small:=h.small
theorem Mod.Em (h:Mod n V0 bw β0 st β a w V){d:Option Nat}{x:SV}{v:Value}(hd:∀k,d=some k->k<n)(hv:v=x.den β)(hl:∀s∈x.ids,∃b,st.boxes s=some b) :
  Mod n V0 bw β0 (st.put d x) β (a.put d v) w V:=by
 cases d with
 | none=>exact h
 | some d=>exact h.put (hd d rfl) hv hl
theorem Mod.drew (h:Mod n V0 bw β0 st β a w V):Mod n V0 bw β0 st β a { w with drawn:=w.drawn+1 } V:=
 ⟨h.defers,h.size,h.ay,h.wY,h.wX,h.boxes,h.inj,h.nD,h.s_,⟨h.ext.size,h.ext.bI,h.ext.os,h.ext.tape,h.ext.out⟩,h.own,h.kD,h.jD,h.small⟩
theorem aB {w:World}{b:Nat}{o:Obj}(h:w.heap[b]?=some o):b<w.heap.size:=by
 rcases Qy8 b w.heap.size with a|a
 ·exact a
 ·rw [Qn2 a] at h;cases h
theorem dh (w:World)(o:Obj){b:Nat}(h:b<w.heap.size:=by omega):(w.alloc o).heap[b]?=w.heap[b]?:=by
 show (w.heap.push o)[b]?=_;rw [Array.getElem?_push,if_neg (by omega)]
theorem heap_alloc_new (w:World)(o:Obj):(w.alloc o).heap[w.heap.size]?=some o:=by
 show (w.heap.push o)[w.heap.size]?=_;rw [Array.getElem?_push,if_pos rfl]
theorem aR (β:Nat->Nat)(s b:Nat):bG β s b s=b:=by simp [bG,Qz8]
theorem fC (β:Nat->Nat){s t:Nat}(b:Nat)(h:t≠s):bG β s b t=β t:=by
 have:Nat.beq t s=false:=by
  cases hb:Nat.beq t s
  ·rfl
  ·exact absurd (beq_eq.1 hb) h
 simp [bG,this]
theorem Mod.new (h:Mod n V0 bw β0 st β a w V){d:Nat}{b:aP}(hd:d<n)(hn:st.boxes d=none)(hl:∀s∈b.cs.ids,∃b',st.boxes s=some b') :
  Mod n V0 bw β0 (st.box d b) (bG β d w.heap.size) a (w.alloc (b.obj β)) V:=by
 have q:∀s b',st.boxes s=some b'->s≠d:=fun s b' c e=>by rw [e,hn] at c;cases c
 have hβ:∀s b',st.boxes s=some b'->bG β d w.heap.size s=β s:=fun s b' c=>fC _ _ (q s b' c);have r:∀s b',st.boxes s=some b'->b'.live->β s<w.heap.size:=fun s b' c l=>aB (h.boxes s b' c l);have E:∀b' o,V.bI b' o->b'<w.heap.size:=fun b' o v=>aB (h.nD b' o v).1;refine ⟨h.defers,h.size,?_,?_,?_,?_,?_,?_,?_,?_,?_,?_,h.jD,?_⟩
 ·intro t x y;rw [h.ay t x y];exact SV.bB fun s c=>by obtain ⟨b',p⟩:=h.wY t x y s c;exact (hβ s b' p).symm
 ·intro t x y s c;obtain ⟨b',p⟩:=h.wY t x y s c;exact ⟨b',by rw [ao,if_neg (q s b' p)];exact p⟩
 ·intro s b' c g j;rw [ao] at c
  have:∃f,st.boxes g=some f:=by
   split at c
   ·simp only [Qq2] at c;rw [←c] at j;exact hl g j
   ·exact h.wX s b' c g j
  obtain ⟨f,u⟩:=this;exact ⟨f,by rw [ao,if_neg (q g f u)];exact u⟩
 ·intro s b' c l;rw [ao] at c;split at c
  ·rename_i e;simp only [Qq2] at c;rw [e,aR,heap_alloc_new,←c];congr 1;exact aP.cD fun g j=>by obtain ⟨f,u⟩:=hl g j;exact (hβ g f u).symm
  ·rw [hβ s b' c,dh _ _ (r s b' c l),h.boxes s b' c l];congr 1;exact aP.cD fun g j=>by obtain ⟨f,u⟩:=h.wX s b' c g j;exact (hβ g f u).symm
 ·intro s g z A k F m G he;rw [ao] at k m;split at k<;>split at m
  ·rename_i B C;rw [B,C]
  ·rename_i B C;rw [B,aR,hβ g A m] at he;have:=r g A m G;omega
  ·rename_i B C;rw [C,aR,hβ s z k] at he;have:=r s z k F;omega
  ·rw [hβ s z k,hβ g A m] at he;exact h.inj s g z A k F m G he
 ·intro b' o v;obtain ⟨k,m⟩:=h.nD b' o v;exact ⟨by rw [dh _ _ (E b' o v)];exact k,m⟩
 ·intro s b' c l o D;rw [ao] at c;split at c
  ·rename_i e;rw [e,aR] at D;have:=E _ o D;omega
  ·rw [hβ s b' c] at D;exact h.s_ s b' c l o D
 ·exact h.ext.trans ⟨by simp,fun i H _=>dh _ _ H,rfl,rfl,rfl⟩
 ·intro s b' c l;rw [ao] at c;split at c
  ·rename_i e;rw [e,aR];exact .inl h.ext.size
  ·rw [hβ s b' c];exact h.own s b' c l
 ·intro s c;obtain ⟨k,m⟩:=h.kD s c;exact ⟨k,by rw [fC _ _ (by have:=h.small;omega)];exact m⟩
 ·exact h.small
theorem Mod.void (h:Mod n V0 bw β0 st β a w V){s:Nat}{ty:TypeId}:Mod n V0 bw β0 (st.box s ⟨.aN [],ty⟩) β a w V:=by
 have hw:∀t b,st.boxes t=some b->∃d,(st.box s ⟨.aN [],ty⟩).boxes t=some d:=by
  intro t b c;rw [ao];split
  ·exact ⟨_,rfl⟩
  ·exact ⟨b,c⟩
 have g:∀t b,(st.box s ⟨.aN [],ty⟩).boxes t=some b->b.live->st.boxes t=some b:=by
  intro t b c l;rw [ao] at c;split at c
  ·cases c;exact absurd l eB
  ·exact c
 refine ⟨h.defers,h.size,h.ay,?_,?_,fun t b c l=>h.boxes t b (g t b c l) l,fun t m o p q j r k=>h.inj t m o p (g _ _ q j) j (g _ _ r k) k,h.nD,fun t b c l=>h.s_ t b (g t b c l) l,h.ext,fun t b c l=>h.own t b (g t b c l) l,h.kD,h.jD,h.small⟩
 ·intro t x u f e;obtain ⟨b,i⟩:=h.wY t x u f e;exact hw f b i
 ·intro t b c f e
  have:∃d,st.boxes f=some d:=by
   rw [ao] at c;split at c
   ·cases c;cases e
   ·exact h.wX t b c f e
  obtain ⟨d,v⟩:=this;exact hw f d v
theorem Mod.tu (h:Mod n V0 bw β0 st β a w V){s:Nat}{b b':aP}(hs:st.boxes s=some b)(lb:b.live)(hl:∀s'∈b'.cs.ids,∃b'',st.boxes s'=some b'')
  {w':World}(hw:w'.heap=w.heap.setIfInBounds (β s) (b'.obj β))(ho:w'.os=w.os)(ht:w'.tape=w.tape)(hout:w'.output=w.output) :
  Mod n V0 bw β0 (st.box s b') β a w' V:=by
 have z:=aB (h.boxes s b hs lb)
 have m:∀i,w'.heap[i]?=if i=β s then some (b'.obj β) else w.heap[i]?:=by
  intro i;rw [hw,Qb4];by_cases e:β s=i
  ·rw [if_pos e,if_pos (by omega),if_pos e.symm]
  ·rw [if_neg e,if_neg (Wx0 e)]
 refine ⟨h.defers,h.size,h.ay,?_,?_,?_,?_,?_,?_,?_,?_,h.kD,h.jD,h.small⟩
 ·intro t x A s' g;obtain ⟨d,c⟩:=h.wY t x A s' g;rw [ao];split
  ·exact ⟨_,rfl⟩
  ·exact ⟨d,c⟩
 ·intro t d c s' g
  have:∃b'',st.boxes s'=some b'':=by
   rw [ao] at c;split at c
   ·simp only [Qq2] at c;rw [←c] at g;exact hl s' g
   ·exact h.wX t d c s' g
  rw [ao];split
  ·exact ⟨_,rfl⟩
  ·exact this
 ·intro t d c j;rw [ao] at c;rw [m];split at c
  ·rename_i e;simp only [Qq2] at c;rw [e,if_pos rfl,c]
  ·rename_i e;rw [if_neg fun he=>e (h.inj t s d b c j hs lb he)];exact h.boxes t d c j
 ·intro t v d l k j p B he
  have f:∀t d,(st.box s b').boxes t=some d->d.live->∃l,st.boxes t=some l/\l.live:=by
   intro t d k j;rw [ao] at k;split at k
   ·rename_i e;rw [e];exact ⟨b,hs,lb⟩
   ·exact ⟨d,k,j⟩
  obtain ⟨C,q,D⟩:=f t d k j;obtain ⟨E,r,F⟩:=f v l p B;exact h.inj t v C E q D r F he
 ·intro d o u;obtain ⟨k,p⟩:=h.nD d o u;refine ⟨?_,p⟩;rw [m,if_neg]
  ·exact k
  ·intro e;rw [e] at u;exact h.s_ s b hs lb o u
 ·intro t d c j o;rw [ao] at c;split at c
  ·rename_i e;rw [e];exact h.s_ s b hs lb o
  ·exact h.s_ t d c j o
 ·refine ⟨by rw [hw];simpa using h.ext.size,fun i G y=>?_,ho.trans h.ext.os,ht.trans h.ext.tape,hout.trans h.ext.out⟩;rw [m];split
  ·rename_i e;exfalso;rcases h.own s b hs lb with k|k
   ·omega
   ·exact y (e▸h.jD _ k.2)
  ·exact h.ext.bI i G y
 ·intro t d c j;rw [ao] at c;split at c
  ·rename_i e;rw [e];exact h.own s b hs lb
  ·exact h.own t d c j
end Go.Eng
