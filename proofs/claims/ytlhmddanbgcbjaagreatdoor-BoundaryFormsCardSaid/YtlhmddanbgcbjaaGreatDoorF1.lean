import Derived.WalkKit
import Derived.Deep.LoopGhost
import Derived.KernelRfl
set_option linter.all false
theorem ţ{p:Prop}(h:p:=by intros;rename_i h;cases h):p:=h
abbrev Ţ{α:Type}(a:Option α)(p:Prop):=a.isSome=true/\a.isSome=true/\p
abbrev Á:=@of_decide_eq_true
abbrev Â:=@of_decide_eq_false
abbrev Ã:=@if_neg
abbrev Ä:=@if_pos
abbrev Å:=@absurd
abbrev Æ:=@congrArg
abbrev Ç:=@decide_eq_true
abbrev È:=@decide_eq_false
abbrev É:=@decide_eq_decide
abbrev Ê:=@eq_of_beq
abbrev Ë:=@beq_iff_eq
abbrev Ì:=@or_false
abbrev Í:=@and_true
abbrev Î:=@true_and
abbrev Ï:=@if_true
abbrev Ð:=@if_false
abbrev Ñ:=@decide_eq_true_eq
abbrev Ò:=@decide_eq_false_iff_not
theorem ω{p:Prop}(h:p:=by omega):p:=h
theorem σ{p:Prop}(h:p:=by and_intros<;>rfl):p:=h
theorem ψ{p:Prop}(h:p:=by simp):p:=h
theorem φ{p:Prop}(h:p:=by decide):p:=h
theorem χ{p:Prop}(h:p:=by grind):p:=h
theorem η{p:Prop}(h:p:=by and_intros<;>trivial):p:=h
theorem θ{p:Prop}(h:p:=by trivial):p:=h
theorem ζ{p:Prop}(h:p:=by kernel_rfl):p:=h
theorem ξ{p:Prop}(h:p:=by decide +kernel):p:=h
theorem κ{p:Prop}(h:p:=by intro h;nomatch h):p:=h
abbrev Go.Calls.s:=@Go.Calls.mono
def Eq.m{α:Sort _}{a b c:α}(h:a=b)(g:b=c):a=c:=Eq.trans h g
def Iff.m{a b c:Prop}(h:a<->b)(g:b<->c):a<->c:=Iff.trans h g
def List.Perm.m{α:Type _}{a b c:@List α}(h:a.Perm b)(g:b.Perm c):a.Perm c:=List.Perm.trans h g
def List.Sublist.m{α:Type _}{a b c:@List α}(h:a.Sublist b)(g:b.Sublist c):a.Sublist c:=List.Sublist.trans h g
abbrev Ý:=@Int.toNat_natCast
abbrev Ù:=@Nat.le_refl
abbrev ô:=@List.getElem?_eq_getElem
abbrev í:=@List.length_append
abbrev é:=@List.length_take
abbrev ó:=@List.mem_cons_of_mem
abbrev â:=@Nat.zero_le
abbrev ö:=@List.mem_singleton
abbrev å:=@List.mem_cons
abbrev ÿ:=@Nat.mul_le_mul_right
abbrev ù:=@List.getElem_mem
abbrev þ:=@List.mem_cons_self
abbrev õ:=@List.mem_append
abbrev ý:=@Option.some.injEq
abbrev Ċ:=@Int.eq_ofNat_of_zero_le
abbrev ò:=@List.mem_map
abbrev Ħ:=@List.drop_eq_getElem_cons
abbrev ĕ:=@List.length_eq_zero_iff
abbrev Ą:=@List.length_cons
abbrev ġ:=@List.getD_eq_getElem?_getD
abbrev Ī:=@List.getElem?_append_left
abbrev ĥ:=@List.getElem?_eq_some_iff
abbrev Ć:=@List.append_nil
abbrev ā:=@Nat.le_trans
abbrev Ď:=@List.flatMap_cons
abbrev ċ:=@Bool.and_eq_true
abbrev Ġ:=@List.pairwise_cons
abbrev Đ:=@List.mem_flatMap
abbrev ė:=@List.append_assoc
abbrev Į:=@Nat.pow_le_pow_right
abbrev ě:=@List.take_length
abbrev ď:=@List.length_map
abbrev ą:=@Nat.zero_add
abbrev ğ:=@List.getElem?_take
abbrev Ğ:=@Int.natAbs_natCast
abbrev ĭ:=@List.mem_append_left
abbrev Ĺ:=@List.drop_of_length_le
abbrev ņ:=@List.getElem?_append_right
abbrev ĝ:=@Nat.mod_eq_of_lt
abbrev Ě:=@List.not_mem_nil
abbrev Ĥ:=@Bool.not_eq_true'
abbrev Qz1:=@List.take_succ_eq_append_getElem
abbrev ĉ:=@Nat.lt_or_ge
abbrev ĳ:=@Nat.lt_of_lt_of_le
abbrev Ľ:=@List.mem_append_right
abbrev Ĳ:=@Nat.eq_zero_or_pos
abbrev ĩ:=@List.all_eq_true
abbrev ģ:=@Nat.min_eq_left
abbrev Ģ:=@Bool.eq_iff_iff
abbrev Ņ:=@List.getElem?_eq_none
abbrev đ:=@Nat.add_mul
abbrev Ł:=@Nat.mul_le_mul_left
abbrev č:=@Nat.pow_add
abbrev ŀ:=@List.take_add_one
abbrev Ĵ:=@List.length_drop
abbrev Œ:=@Nat.le_of_ble_eq_true
abbrev Qk6:=@Int.tmod_eq_emod_of_nonneg
abbrev İ:=@Nat.two_pow_pos
abbrev į:=@List.length_nil
abbrev Ę:=@Nat.add_zero
abbrev Ń:=@Nat.lt_of_le_of_lt
abbrev ł:=@Bool.not_eq_false'
abbrev ĵ:=@List.cons.injEq
abbrev Ē:=@Nat.mul_one
abbrev Ĝ:=@Nat.pow_succ
abbrev ň:=@Bool.false_eq_true
abbrev Qj6:=@List.take_append_getElem
abbrev Qj7:=@Int.tdiv_eq_ediv_of_nonneg
abbrev ĺ:=@List.mem_filter
abbrev ř:=@BitVec.ofInt_natCast
abbrev Qv0:=@List.take_append_drop
abbrev ľ:=@Nat.gcd_dvd_left
abbrev Ŗ:=@List.map_congr_left
abbrev Qv3:=@List.take_of_length_le
abbrev ħ:=@Nat.mul_zero
abbrev Ė:=@Nat.mod_lt
abbrev ŕ:=@Nat.div_eq_of_lt
abbrev Ŕ:=@BitVec.toNat_ofNat
abbrev Ŏ:=@Rat.num_eq_zero
abbrev ļ:=@Int.natAbs_mul
abbrev Qb0:=@Classical.byContradiction
abbrev Ķ:=@Nat.mul_comm
abbrev Ļ:=@List.map_cons
abbrev Qb3:=@List.mem_of_getElem?
abbrev ō:=@List.nil_append
abbrev Š:=@Bool.false_ne_true
abbrev Qb6:=@Nat.beq_refl
abbrev Qb7:=@Nat.div_lt_iff_lt_mul
abbrev ī:=@Nat.mul_add
abbrev Qb9:=@List.drop_set_of_lt
abbrev Qn0:=@Nat.add_sub_cancel_left
abbrev Ő:=@Nat.mul_ne_zero
abbrev ŏ:=@Option.some.inj
abbrev ś:=@Nat.gcd_dvd_right
abbrev Qn4:=@List.pairwise_iff_getElem
abbrev Qn5:=@List.mem_of_mem_take
abbrev Qn6:=@List.getElem?_drop
abbrev Ŀ:=@Nat.mul_assoc
abbrev Qn8:=@Rat.mul_inv_cancel
abbrev ŗ:=@Int.natCast_mul
abbrev Ň:=@Nat.add_assoc
abbrev Qm1:=@List.getElem?_set_ne
abbrev Qm2:=@List.mem_iff_getElem
abbrev Qm3:=@List.forall_mem_cons
abbrev Qm4:=@Nat.sub_add_cancel
abbrev ŝ:=@List.map_append
abbrev Qm6:=@Int.sign_eq_zero_iff_zero
abbrev Ř:=@Array.mk.injEq
abbrev Ŝ:=@Nat.not_lt_zero
abbrev ő:=@Prod.mk.injEq
abbrev Qc0:=@List.cons_append
abbrev Qc1:=@List.flatMap_append
abbrev Ś:=@Nat.succ_mul
abbrev Ō:=@Nat.zero_mul
abbrev Qc4:=@List.length_singleton
abbrev ş:=@Int.natAbs_neg
abbrev Qc6:=@List.foldl_cons
abbrev Qc7:=@Nat.mul_lt_mul_of_pos_right
abbrev Qc8:=@Nat.div_le_self
abbrev Qc9:=@Nat.add_sub_cancel
abbrev ń:=@Rat.mul_pos
abbrev Qd1:=@List.pairwise_singleton
abbrev Qd2:=@Int.sign_eq_neg_one_of_neg
abbrev ŋ:=@Nat.one_mul
abbrev Qd4:=@List.take_zero
abbrev Qd5:=@Bool.not_eq_eq_eq_not
abbrev Qd6:=@Nat.div_add_mod
abbrev Qd7:=@Rat.intCast_inj
abbrev Qd8:=@Option.isSome_iff_exists
abbrev Qd9:=@List.set_eq_of_length_le
abbrev Qf0:=@Nat.one_lt_two_pow
abbrev Qf1:=@Nat.xor_lt_two_pow
abbrev Qf2:=@List.mem_reverse
abbrev Ş:=@Nat.gcd_comm
abbrev Ŋ:=@Array.ext'
abbrev Qf5:=@Rat.intCast_mul
abbrev Qf6:=@Rat.num_intCast
abbrev Qf7:=@List.length_set
abbrev Qf8:=@Int.sign_eq_one_of_pos
abbrev Qf9:=@Array.toList_map
abbrev Qg0:=@Nat.mul_div_cancel
abbrev Qg1:=@List.getElem_set_self
abbrev Qg2:=@Nat.gcd_zero_right
abbrev Qg3:=@Nat.mul_le_mul
abbrev Qg4:=@Nat.testBit_eq_decide_div_mod_eq
abbrev Qg5:=@List.mem_of_mem_drop
abbrev Qg6:=@Nat.add_mul_div_left
abbrev Qg7:=@List.pairwise_append
abbrev Qg8:=@List.ext_getElem?
abbrev Qg9:=@Nat.mod_add_div
abbrev Qh0:=@Int.lt_trichotomy
abbrev Qh1:=@Int.mul_ediv_cancel_left
abbrev Qh2:=@Rat.intCast_neg
abbrev Qh3:=@Rat.mul_eq_zero
abbrev Qh4:=@Int.mul_comm
abbrev Qh5:=@Rat.mkRat_one
abbrev Qh6:=@List.getElem_of_mem
abbrev Qh7:=@List.length_pos_iff
abbrev Qh8:=@Option.getD_some
abbrev Qh9:=@List.any_eq_true
abbrev Qp0:=@List.getElem_map
abbrev Qp1:=@List.drop_drop
abbrev Qp2:=@Array.getElem?_eq_none
abbrev Qp3:=@List.filter_eq_nil_iff
abbrev Qp4:=@Nat.and_lt_two_pow
abbrev Qp5:=@Bool.or_eq_true
abbrev Qp6:=@Int.natAbs_dvd_natAbs
abbrev Qp7:=@Rat.mul_pos_iff_of_pos_left
abbrev Qp8:=@List.getElem_drop
abbrev Qp9:=@List.getElem?_set
abbrev Qr0:=@Array.getElem?_eq_some_iff
abbrev Qr1:=@Array.getElem_toList
abbrev Qr2:=@Nat.le_add_right
abbrev Qr3:=@List.filter_cons
abbrev Qr4:=@List.take_replicate
abbrev Qr5:=@Nat.gcd_eq_zero_iff
abbrev Qr6:=@List.countP_pos_iff
abbrev Qr7:=@List.mem_map_of_mem
abbrev Qr8:=@List.filter_eq_self
abbrev Qr9:=@List.eq_of_mem_replicate
abbrev Qs0:=@Nat.le_of_lt
abbrev Qs1:=@List.getElem_append_left
abbrev Qs2:=@List.set_eq_take_append_cons_drop
abbrev Qs3:=@List.take_set
abbrev Qs4:=@List.getElem?_replicate
abbrev Qs5:=@Rat.num_mkRat
abbrev Qs6:=@Rat.sub_eq_add_neg
abbrev Qs7:=@Nat.dvd_trans
abbrev Qs8:=@Rat.intCast_add
abbrev Qs9:=@List.filter_append
abbrev Qt0:=@List.getElem?_set_self
abbrev Qt1:=@Int.natAbs_ediv_of_dvd
abbrev Qt2:=@List.getElem_cons_zero
abbrev Qt3:=@Rat.neg_num
abbrev Qt4:=@Nat.gcd_zero_left
abbrev Qt5:=@List.getElem_take
abbrev Qt6:=@List.take_take
abbrev Qt7:=@Rat.mkRat_self
abbrev Qt8:=@Nat.le_div_iff_mul_le
abbrev Qt9:=@List.getElem!_eq_getElem?_getD
abbrev Wq0:=@Option.getD_none
abbrev Wq1:=@Nat.shiftLeft_add_eq_or_of_lt
abbrev Wq2:=@Nat.mul_lt_mul''
abbrev Wq3:=@List.take_append_of_le_length
abbrev Wq4:=@List.drop_length
abbrev Wq5:=@Int.sign_neg_iff
abbrev Wq6:=@Nat.zero_lt_succ
abbrev Wq7:=@List.take_subset
abbrev Wq8:=@Rat.den_mkRat
abbrev Wq9:=@Nat.le_of_dvd
abbrev Ww0:=@Nat.lt_irrefl
abbrev Ww1:=@Int.not_lt
abbrev Ww2:=@Nat.le_succ
abbrev Ww3:=@Nat.mul_eq_zero
abbrev Ww4:=@Array.length_toList
abbrev Ww5:=@Nat.pow_mul
abbrev Ww6:=@Nat.pow_pos
abbrev Ww7:=@Int.mul_neg
abbrev Ww8:=@Int.sign_eq_neg_one_iff_neg
abbrev Ww9:=@Int.mul_lt_mul_of_pos_right
abbrev Wx0:=@Rat.mkRat_mul_mkRat
abbrev Wx1:=@Int.mul_eq_zero
abbrev Wx2:=@Int.le_refl
abbrev Wx3:=@List.getD_cons_succ
abbrev Wx4:=@Int.fdiv_eq_ediv_of_nonneg
abbrev Wx5:=@Int.lt_of_mul_lt_mul_right
abbrev Wx6:=@List.map_map
abbrev Wx7:=@Nat.add_comm
abbrev Wx8:=@Nat.div_mul_cancel
abbrev Wx9:=@Nat.pos_of_ne_zero
abbrev Wy0:=@Int.add_zero
abbrev Wy1:=@Array.mapM_eq_mapM_toList
abbrev Wy2:=@Nat.add_mul_mod_self_left
abbrev Wy3:=@Rat.num_nonneg
abbrev Wy4:=@List.getElem_append_right
abbrev Wy5:=@List.drop_zero
abbrev Wy6:=@List.getLastD_eq_getLast?
abbrev Wy7:=@Int.eq_of_mul_eq_mul_left
abbrev Wy8:=@List.exists_mem_of_ne_nil
abbrev Wy9:=@List.getElem?_map
abbrev Wz0:=@Nat.or_lt_two_pow
abbrev Wz1:=@Nat.gcd_pos_of_pos_right
abbrev Wz2:=@List.map_take
abbrev Wz3:=@List.map_drop
abbrev Wz4:=@Int.neg_mul
abbrev Wz5:=@Nat.mul_pos
abbrev Wz6:=@Int.one_mul
abbrev Wz7:=@Rat.inv_pos
abbrev Wz8:=@List.sum_cons
abbrev Wz9:=@Nat.shiftLeft_eq
abbrev Wk0:=@Int.natCast_emod
abbrev Wk1:=@Rat.mkRat_eq_iff
abbrev Wk2:=@List.flatMap_nil
abbrev Wk3:=@Option.map_some
abbrev Wk4:=@Nat.sub_zero
abbrev Wk5:=@BitVec.toNat_or
abbrev Wk6:=@Nat.mul_add_div
abbrev Wk7:=@Nat.mul_add_mod
abbrev Wk8:=@Nat.zero_div
abbrev Wk9:=@Rat.mul_def'
abbrev Wj0:=@Nat.testBit_xor
abbrev Wj1:=@Nat.gcd_le_left
abbrev Wj2:=@Rat.intCast_sub
abbrev Wj3:=@Nat.min_le_left
abbrev Wj4:=@Prod.ext
abbrev Wj5:=@List.mem_range
abbrev Wj6:=@Int.ofNat_tmod
abbrev Wj7:=@Bool.and_false
abbrev Wj8:=@Rat.mul_nonneg
abbrev Wj9:=@Rat.neg_den
abbrev Wv0:=@Iff.rfl
abbrev Wv1:=@Ne.symm
open Go.IntKind (i64 u64 u32)
abbrev pz:=@List
abbrev md:=Bool
abbrev un:=Go.Value
abbrev tt:Prop:=true=true
namespace Go.Eng
section
abbrev OA:=Option Addr
abbrev sm {α:Type}(a:α):Prop:=a=a
structure Ó where
 w:World
 H:Nat->Prop
 X:Nat->Prop
 hH:∀b,H b->b<w.heap.size
 hX:∀b,X b->H b
abbrev _root_.ut:=Ó
def Ó.bg (V:Ó)(b:Nat)(o:Obj):Prop:=¬V.H b/\V.w.heap[b]?=some o
def Ó.at (V:Ó)(p:Addr)(v:Value):Prop:=¬V.H p.block/\V.w.cell? p=some v
def Ó.Le (V V':Ó):Prop:=∀b o,V.bg b o->V'.bg b o
structure kq (X:Nat->Prop) (w w':World):Prop where
 size:w.heap.size<=w'.heap.size
 bg:∀b,b<w.heap.size->¬X b->w'.heap[b]?=w.heap[b]?
 os:w'.os=w.os
 tape:w'.tape=w.tape
 out:w'.output=w.output
 dr:w.drawn<=w'.drawn
def Ó.to (V:Ó)(w':World)(h:V.w.heap.size<=w'.heap.size):Ó:=⟨w',V.H,V.X,λb hb=>ĳ (V.hH b hb) h,V.hX⟩
def Ó.aq (V:Ó)(bs:List Nat):Ó:={ V with X:=λb=>b∈bs/\V.H b,hX:=λ_ h=>h.2 }
def Ó.SU (V:Ó)(b:Nat):Ó:={ V with H:=λx=>V.H x\/(x=b/\b<V.w.heap.size),hH:=λx h=>h.elim (V.hH x) λh=>h.1▸h.2,hX:=λx h=>.inl (V.hX x h) }
def Ó.aW (V:Ó)(p:Prop)(b:Nat):Ó:={ V with H:=λx=>V.H x\/(p/\x=b/\b<V.w.heap.size),hH:=λx h=>h.elim (V.hH x) λh=>h.2.1▸h.2.2,hX:=λx h=>.inl (V.hX x h) }
def Ó.shut (V:Ó):Ó:={ V with X:=λ_=>False,hX:=λ_ h=>h.elim }
def iG (P : Program)(f : FuncId) : Prop := ∃ fn, P.funcs[f]? = some fn ∧ fn.body.isNone = false ∧ (fn.name == "runtime.NumGoroutine") = false
def aa (P:Program)(f:FuncId)(args:Array Value)(V:Ó)(R:Value->Ó->Prop):Prop:=
 iG P f/\Calls P f args V.w λe w'=>∃r,e=.returned r/\∃hx:kq V.X V.w w',R r (V.to w' hx.size)
inductive C where
 | v (x:Value)|w (x:Value)|tt|ff
 | ptr (s o:Nat)
 | m_ (s o n c:Nat)
 | eJ (s n c:Nat)
 | uz (f:FuncId) (ss:List Nat)
inductive SV where
 | c (x:C)|agg (cs:List C)|wF (xs:List (Bool×List C))
inductive ã where
 | lit (cs:List C)|row (vs:List Value)|aB (vs:List Value)
structure aX where
 cs:ã
 ty:TypeId
def aX.live (b:aX):Prop:=∀vs,b.cs=.aB vs->vs≠[]
def Re (b:aX):List Prop:=
 match b.cs with
 | .aB vs=>[vs≠[]]
 | _=>[]
def gdP (b:aX):Prop:=
 match b.cs with
 | .aB vs=>vs≠[]
 | _=>True
def vj:List Prop->Prop->Prop
 | [],k=>k
 | p::r,k=>p->vj r k
def mA (b c:Nat):OA:=if c=0 then none else some ⟨b,0,none⟩
structure St where
 ay:Nat->Option SV
 boxes:Nat->Option aX
def C.den (β:Nat->Nat):C->Value
 | .v x=>x
 | .w x=>x
 | .tt=>.bool true
 | .ff=>.bool false
 | .ptr s o=>.pointer (some ⟨β s,o,none⟩)
 | .m_ s o n c=>.slice (some ⟨β s,o,none⟩) n c
 | .eJ s n c=>.slice (mA (β s) c) n c
 | .uz f ss=>.func (.func f) #[] (ss.map λs=>Value.pointer (some ⟨β s,0,none⟩)).toArray
def kz (β:Nat->Nat):Bool×List C->Value
 | (true,cs)=>.agg (cs.map (C.den β)).toArray
 | (false,[c])=>c.den β
 | (false,_)=>.tuple #[]
def wZ:Bool×List C->Option SV
 | (true,cs)=>some (.agg cs)
 | (false,[c])=>some (.c c)
 | (false,_)=>none
def SV.den (β:Nat->Nat):SV->Value
 | .c x=>x.den β
 | .agg cs=>.agg (cs.map (C.den β)).toArray
 | .wF xs=>.tuple (xs.map (kz β)).toArray
def SV.cells:SV->List C
 | .c x=>[x]
 | .agg cs=>cs
 | .wF _=>[]
def ã.den (β:Nat->Nat):ã->List Value
 | .lit cs=>cs.map (C.den β)
 | .row vs=>vs
 | .aB vs=>vs
def aX.obj (β:Nat->Nat)(b:aX):Obj:=.cells (b.cs.den β).toArray b.ty (0,0)
def C.ids:C->List Nat
 | .ptr s _=>[s]
 | .m_ s _ _ _=>[s]
 | .eJ s _ _=>[s]
 | .uz _ ss=>ss
 | _=>[]
def SV.ids:SV->List Nat
 | .c x=>x.ids
 | .agg cs=>cs.flatMap C.ids
 | .wF xs=>xs.flatMap λx=>x.2.flatMap C.ids
def SV.BX:SV->Bool
 | .wF _=>true
 | _=>false
def gU:C->List Prop
 | .v (.agg _)|.v (.tuple _)=>[False]
 | .w x=>[x.oneCell'=true]
 | _=>[]
def SV.gU (x:SV):List Prop:=x.cells.flatMap Eng.gU
def ã.ids:ã->List Nat
 | .lit cs=>cs.flatMap C.ids
 | .row _=>[]
 | .aB _=>[]
def St.put (st:St)(d:Option Nat)(x:SV):St:=
 match d with
 | none=>st
 | some d=>{ st with ay:=λt=>cond (Nat.beq t d) (some x) (st.ay t) }
def St.box (st:St)(s:Nat)(b:aX):St:={ st with boxes:=λt=>cond (Nat.beq t s) (some b) (st.boxes t) }
def C.ofConst:Value->C
 | .bool true=>.tt
 | .bool false=>.ff
 | x=>.v x
def SV.ofConst:Value->SV
 | .bool true=>.c .tt
 | .bool false=>.c .ff
 | .agg cs=>.agg (cs.toList.map C.ofConst)
 | x=>.c (.v x)
def St.bG (st:St):Operand->Option SV
 | .tmp t=>st.ay t
 | .const v=>some (.ofConst v)
 | .global g=>some (.c (.v (.pointer (some ⟨g,0,none⟩))))
 | .func f=>some (.c (.uz f []))
inductive TK where
 | int (k:IntKind)|bool|str|ptr (e:TypeId)|slice (e:TypeId)|struct (fs:List (TypeId×Nat))|arr (n:Nat) (e:TypeId)|iface|func|tuple (ts:List TypeId)|other
structure TI where
 k:TK
 size:Nat
 bytes:Nat
 zero:List C
def mU:TypeDesc->TK
 | .int k=>.int k
 | .bool=>.bool
 | .string=>.str
 | .pointer e=>.ptr e
 | .slice e=>.slice e
 | .array n e=>.arr n e
 | .struct fs=>.struct (fs.toList.map λf=>(f.type,f.offset))
 | .interface _=>.iface
 | .func ..=>.func
 | .tuple es=>.tuple es.toList
 | _=>.other
def oO (P:Program)(t:TypeId):Option TI:=
 match P.info? t,P.underlying t with
 | some i,some d=>
  match i.zero with
  | some z=>some { k:=mU d,size:=i.size,bytes:=i.bytes,zero:=z.cells.toList.map C.ofConst }
  | none=>none
 | _,_=>none
abbrev eu:=List (Nat×TI)
def aF {α:Type}:List (Nat×α)->Nat->Option α
 | [],_=>none
 | (s,x)::r,t=>cond (Nat.beq t s) (some x) (aF r t)
def eu.ok (P:Program)(T:eu):Prop:=∀t i,aF T t=some i->oO P t=some i
inductive DR where
 | int (k:IntKind)|bool|slice|ptr|str|any
inductive AX where
 | one (s:DR)|agg (l:List DR)
inductive Sh where
 | val (s:AX)|wF (l:List AX)|none
def shC:C->DR
 | .v (.int k _)=>.int k
 | .v (.slice ..)=>.slice
 | .v (.pointer _)=>.ptr
 | .v (.string _)=>.str
 | .tt|.ff=>.bool
 | _=>.any
def nR (i:TI):AX:=
 match i.k with
 | .struct _|.arr _ _=>.agg (i.zero.map shC)
 | _=>match i.zero with
  | [z]=>.one (shC z)
  | _=>.one .any
def DR.ex:DR->(C->Prop)->Prop
 | .int k,K=>∃n:Int,K (.v (.int k n))
 | .bool,K=>∃b:Bool,K (.v (.bool b))
 | .slice,K=>∃(a:OA)(n c:Nat),K (.v (.slice a n c))
 | .ptr,K=>∃p:OA,K (.v (.pointer p))
 | .str,K=>∃s:ByteArray,K (.v (.string s))
 | .any,K=>∃x:Value,K (.w x)
def ZD:List DR->(List C->Prop)->Prop
 | [],K=>K []
 | s::r,K=>s.ex λv=>ZD r λvs=>K (v::vs)
def AX.ex:AX->(SV->Prop)->Prop
 | .one s,K=>s.ex λc=>K (.c c)
 | .agg l,K=>ZD l λcs=>K (.agg cs)
def exT:List AX->(List (Bool×List C)->Prop)->Prop
 | [],K=>K []
 | .one s::r,K=>s.ex λc=>exT r λvs=>K ((false,[c])::vs)
 | .agg l::r,K=>ZD l λcs=>exT r λvs=>K ((true,cs)::vs)
def Sh.ex:Sh->(SV->Prop)->Prop
 | .val s,K=>s.ex K
 | .wF l,K=>exT l λvs=>K (.wF vs)
 | .none,K=>K (.wF [])
def shTs (T:eu):List TypeId->Option (List AX)
 | []=>some []
 | t::r=>match aF T t,shTs T r with
  | some i,some l=>some (nR i::l)
  | _,_=>Option.none
def shOf (T:eu)(t:TypeId):Option Sh:=
 match aF T t with
 | some i=>match i.k with
  | .tuple []=>some .none
  | .tuple ts=>match shTs T ts with
   | some l=>some (.wF l)
   | Option.none=>Option.none
  | _=>some (.val (nR i))
 | Option.none=>Option.none
inductive Q where
 | fail
 | ret (sc:List Prop) (x:SV)
 | new (sc:List Prop) (b:aX) (x:Nat->SV)
 | zN (sc:List Prop) (s:Nat) (b:aX)
 | rd (p:OA) (sh:AX)
 | sS (vs:List Value) (o size:Nat) (sh:AX)
 | xF (s:Nat) (vs:List Value) (n c:Nat) (x:OA×Nat ⊕ List Value) (size bytes:Nat) (ty:TypeId)
 | app (old:Option Nat) (ba:OA) (vs:List Value) (n c:Nat) (x:OA×Nat ⊕ List Value) (size bytes:Nat) (ty:TypeId)
def cg (op:BinOp)(k:IntKind)(a b:Int):Int:=
 match op with
 | .and=>k.wrap ((BitVec.ofInt k.bits a &&& BitVec.ofInt k.bits b).toNat:Int)
 | .or=>k.wrap ((BitVec.ofInt k.bits a ||| BitVec.ofInt k.bits b).toNat:Int)
 | .xor=>k.wrap ((BitVec.ofInt k.bits a ^^^ BitVec.ofInt k.bits b).toNat:Int)
 | _=>k.wrap ((BitVec.ofInt k.bits a &&& ~~~(BitVec.ofInt k.bits b)).toNat:Int)
def qu (op:BinOp)(k:IntKind)(a b:Int):Q:=
 match op with
 | .add=>.ret [] (.c (.v (.int k (k.wrap (a+b)))))
 | .sub=>.ret [] (.c (.v (.int k (k.wrap (a-b)))))
 | .mul=>.ret [] (.c (.v (.int k (k.wrap (a*b)))))
 | .quo=>.ret [b≠0] (.c (.v (.int k (k.wrap (a.tdiv b)))))
 | .rem=>.ret [b≠0] (.c (.v (.int k (a.tmod b))))
 | .and=>.ret [] (.c (.v (.int k (cg .and k a b))))
 | .or=>.ret [] (.c (.v (.int k (cg .or k a b))))
 | .xor=>.ret [] (.c (.v (.int k (cg .xor k a b))))
 | .andNot=>.ret [] (.c (.v (.int k (cg .andNot k a b))))
 | .shl=>.ret [0<=b] (.c (.v (.int k (k.wrap (a*2^(min b.toNat k.bits))))))
 | .shr=>.ret [0<=b] (.c (.v (.int k (a.fdiv (2^(min b.toNat k.bits))))))
 | .eql=>.ret [] (.c (.v (.bool (a==b))))
 | .neq=>.ret [] (.c (.v (.bool (a != b))))
 | .lss=>.ret [] (.c (.v (.bool (decide (a<b)))))
 | .leq=>.ret [] (.c (.v (.bool (decide (a<=b)))))
 | .gtr=>.ret [] (.c (.v (.bool (decide (a>b)))))
 | .geq=>.ret [] (.c (.v (.bool (decide (a≥b)))))
def C.bool?:C->Option Bool
 | .tt=>some true
 | .ff=>some false
 | .v (.bool b)=>some b
 | _=>none
def eG:Value->Bool
 | .nilIface=>true
 | _=>false
def ø (x:Value):Prop:=x=.nilIface\/∃t v,x=.iface t v
def BZ:IntKind->IntKind->Bool
 | .i8,.i8|.i16,.i16|.i32,.i32|.i64,.i64|.u8,.u8|.u16,.u16|.u32,.u32|.u64,.u64=>true
 | _,_=>false
def HE (neg:Bool)(k:TK)(x y:C):Q:=
 match k with
 | .ptr _=>match y with
  | .v (.pointer none)=>match x with
   | .ptr _ _=>.ret [] (.c (if neg then .tt else .ff))
   | .v (.pointer p)=>.ret [] (.c (.v (.bool (if neg then !p.isNone else p.isNone))))
   | _=>.fail
  | _=>.fail
 | .slice _=>match y with
  | .v (.slice none _ _)=>match x with
   | .m_ _ _ _ _=>.ret [] (.c (if neg then .tt else .ff))
   | .eJ _ _ c=>.ret [] (.c (.v (.bool (if neg then !(Nat.beq c 0) else Nat.beq c 0))))
   | .v (.slice a _ _)=>.ret [] (.c (.v (.bool (if neg then !a.isNone else a.isNone))))
   | _=>.fail
  | _=>.fail
 | .iface=>match y with
  | .v .nilIface=>match x with
   | .w y=>.ret [ø y] (.c (.v (.bool (if neg then !eG y else eG y))))
   | .v .nilIface=>.ret [] (.c (if neg then .ff else .tt))
   | _=>.fail
  | _=>.fail
 | _=>.fail
def HC (T:eu)(op:BinOp)(xt:TypeId)(x y:C):Q:=
 match aF T xt with
 | some i=>match i.k with
  | .int _=>match x,y with
   | .v (.int k a),.v (.int k' b)=>
    match op with
    | .shl|.shr=>qu op k a b
    | _=>if BZ k k' then qu op k a b else .fail
   | _,_=>.fail
  | .bool=>match x.bool?,y.bool? with
   | some a,some b=>match op with
    | .eql=>.ret [] (.c (.v (.bool (a==b))))
    | .neq=>.ret [] (.c (.v (.bool (!(a==b)))))
    | _=>.fail
   | _,_=>.fail
  | k=>match op with
   | .eql=>HE false k x y
   | .neq=>HE true k x y
   | _=>.fail
 | none=>.fail
def ae (p:OA)(n:Nat):OA:=p.map λa=>a.add n
def Ā (cs:List C)(o:Nat)(xs:List C):List C:=cs.take o++xs++cs.drop (o+xs.length)
def bC (vs:List Value)(o:Nat)(xs:List Value):List Value:=
 match xs with
 | [x]=>vs.set o x
 | _=>vs.take o++xs++vs.drop (o+xs.length)
def C.val?:C->Option Value
 | .v x=>some x
 | .w x=>some x
 | .tt=>some (.bool true)
 | .ff=>some (.bool false)
 | _=>none
def mG:List C->Option (List Value)
 | []=>some []
 | c::r=>match c.val?,mG r with
  | some v,some vs=>some (v::vs)
  | _,_=>none
def lJ (bx:Nat->Option aX)(i:TI)(x:SV):Q:=
 match x with
 | .c (.ptr b o)=>match bx b with
  | some ⟨.lit cs,_⟩=>match i.k with
   | .struct _|.arr _ _=>if Nat.ble (o+i.size) cs.length then .ret [] (.agg ((cs.drop o).take i.size)) else .fail
   | _=>match cs[o]? with
    | some c=>.ret [] (.c c)
    | none=>.fail
  | some ⟨.row vs,_⟩=>.sS vs o i.size (nR i)
  | some ⟨.aB vs,_⟩=>if Nat.beq i.size 0 then .fail else .sS vs o i.size (nR i)
  | none=>.fail
 | .c (.v (.pointer p))=>if Nat.beq i.zero.length i.size then .rd p (nR i) else .fail
 | _=>.fail
def jt (bx:Nat->Option aX)(i:TI)(a x:SV):Q:=
 match a with
 | .c (.ptr b o)=>if Nat.beq x.cells.length i.size&&!x.BX then match bx b with
   | some ⟨.lit cs,ty⟩=>if Nat.ble (o+i.size) cs.length then .zN x.gU b ⟨.lit (Ā cs o x.cells),ty⟩ else .fail
   | some ⟨.row vs,ty⟩=>match mG x.cells with
    | some xs=>.zN (x.gU++[o+i.size<=vs.length]) b ⟨.row (bC vs o xs),ty⟩
    | none=>.fail
   | some ⟨.aB vs,ty⟩=>if Nat.beq i.size 0 then .fail else match mG x.cells with
    | some xs=>.zN (x.gU++[o+i.size<=vs.length]) b ⟨.aB (bC vs o xs),ty⟩
    | none=>.fail
   | none=>.fail
  else .fail
 | _=>.fail
def sN (place:Nat->Option (Nat×Nat))(cells:List C):List (Nat×SV)->Option (List C)
 | []=>some cells
 | (i,x)::r=>match place i with
  | none=>none
  | some (off,size)=>if Nat.beq x.cells.length size&&Nat.ble (off+size) cells.length&&!x.BX then sN place (Ā cells off x.cells) r else none
def ñ (ρ:Operand->Option SV):List (Nat×Operand)->Option (List (Nat×SV))
 | []=>some []
 | (i,o)::r=>match ρ o,ñ ρ r with
  | some x,some l=>some ((i,x)::l)
  | _,_=>none
def iu (T:eu):List (TypeId×Nat)->Option (List (Nat×Nat))
 | []=>some []
 | (t,off)::r=>match aF T t,iu T r with
  | some i,some l=>some ((off,i.size)::l)
  | _,_=>none
def rep (n:Nat)(zs:List C):List C:=(List.replicate n zs).flatten
def wC (n:Nat)(zs:List Value):List Value:=
 match zs with
 | [z]=>List.replicate n z
 | _=>(List.replicate n zs).flatten
def nS (a:OA)(m l sz:Nat):OA:=if m=l then a else ae a (l*sz)
def HP (o m l sz:Nat):Nat:=if m=l then o else o+l*sz
def Xl (c:Nat):Option SV->Option (List Prop×Nat)
 | none=>some ([],c)
 | some (.c (.v (.int _ m)))=>some ([0<=m/\m<=(c:Int)],m.toNat)
 | _=>none
def Ug (n m:Nat):Option SV->Option SV->Option (List Prop×Nat)
 | some (.c (.v (.int _ h))),_=>some ([0<=h/\h<=(m:Int)],h.toNat)
 | none,none=>some ([],n)
 | _,_=>none
def qLow (h:Nat):Option SV->Option (List Prop×Option Nat)
 | none=>some ([],none)
 | some (.c (.v (.int _ l)))=>some ([0<=l/\l<=(h:Int)],some l.toNat)
 | _=>none
def rL (n c:Nat)(lo hi mx:Option SV):Option (List Prop×Option Nat×Nat×Nat):=
 match Xl c mx with
 | none=>none
 | some (p1,m)=>match Ug n m hi mx with
  | none=>none
  | some (p2,h)=>match qLow h lo with
   | none=>none
   | some (p3,l)=>some (p1++p2++p3,l,h,m)
def Hu (ρ:Operand->Option SV):Option Operand->Option (Option SV)
 | none=>some none
 | some x=>match ρ x with
  | some v=>some (some v)
  | none=>none
def xJ (sz:Nat)(x:SV)(lo hi mx:Option SV):Q:=
 match x with
 | .c (.v (.slice a n c))=>match rL n c lo hi mx with
  | some (sc,none,h,m)=>.ret sc (.c (.v (.slice a h m)))
  | some (sc,some l,h,m)=>.ret sc (.c (.v (.slice (nS a m l sz) (h-l) (m-l))))
  | none=>.fail
 | .c (.m_ s o n c)=>match rL n c lo hi mx with
  | some (sc,none,h,m)=>.ret sc (.c (.m_ s o h m))
  | some (sc,some l,h,m)=>.ret sc (.c (.m_ s (HP o m l sz) (h-l) (m-l)))
  | none=>.fail
 | .c (.eJ s n c)=>match mx with
  | none=>match rL n c lo hi none with
   | some (sc,none,h,m)=>.ret sc (.c (.eJ s h m))
   | _=>.fail
  | some _=>.fail
 | _=>.fail
def js (T:eu)(i:TI)(x ix:SV):Q:=
 match ix with
 | .c (.v (.int _ n))=>match i.k with
  | .slice e=>match aF T e with
   | some ei=>match x with
    | .c (.v (.slice a len _))=>.ret [a.isSome=true,0<=n/\n<(len:Int)] (.c (.v (.pointer (ae a (n.toNat*ei.size)))))
    | .c (.m_ s o len _)=>.ret [0<=n/\n<(len:Int)] (.c (.ptr s (o+n.toNat*ei.size)))
    | .c (.eJ s len c)=>.ret [0<=n/\n<(len:Int),len<=c] (.c (.ptr s (n.toNat*ei.size)))
    | _=>.fail
   | none=>.fail
  | .arr len e=>match aF T e with
   | some ei=>match x with
    | .c (.ptr s o)=>.ret [0<=n/\n<(len:Int)] (.c (.ptr s (o+n.toNat*ei.size)))
    | .c (.v (.pointer a))=>.ret [a.isSome=true,0<=n/\n<(len:Int)] (.c (.v (.pointer (ae a (n.toNat*ei.size)))))
    | _=>.fail
   | none=>.fail
  | _=>.fail
 | _=>.fail
def F8 (T:eu)(i:TI)(l c:SV):Q:=
 match i.k with
 | .slice e=>match aF T e with
  | some ei=>match l,c with
   | .c (.v (.int _ n)),.c (.v (.int _ m))=>match mG ei.zero with
    | some zs=>if Nat.beq ei.bytes 0||Nat.beq ei.size 0||!(Nat.beq ei.size zs.length) then .fail else .new [0<=n,n<=m,(ei.bytes:Int)*m<=2^47] ⟨.row (wC m.toNat zs),e⟩ λd=>.c (.m_ d 0 n.toNat m.toNat)
    | none=>.fail
   | _,_=>.fail
  | none=>.fail
 | _=>.fail
def Cw:List SV->Option (List Nat)
 | []=>some []
 | .c (.ptr s 0)::r=>match Cw r with
  | some l=>some (s::l)
  | none=>none
 | _=>none
def dh (ρ:Operand->Option SV):List Operand->Option (List SV)
 | []=>some []
 | o::r=>match ρ o,dh ρ r with
  | some x,some l=>some (x::l)
  | _,_=>none
def cQ (a b:Int):Int:=if b<a then b else a
def cw (a b:Int):Int:=if b>a then b else a
def Ĩ (f:Int->Int->Int)(k:IntKind)(a:Int):List SV->Option Int
 | []=>some a
 | .c (.v (.int k' b))::r=>if BZ k k' then Ĩ f k (f a b) r else none
 | _=>none
def fY (bx:Nat->Option aX)(s:Nat):Option (List Value):=
 match bx s with
 | some ⟨.lit cs,_⟩=>mG cs
 | some ⟨.row vs,_⟩=>some vs
 | _=>none
def nh (bx:Nat->Option aX)(s:Nat):Option TypeId:=match bx s with|some b=>some b.ty|none=>none
def aJ (ws:List Value)(o n:Nat):List Value:=cond (Nat.ble (o+n) ws.length) ((ws.drop o).take n) (List.replicate n (.agg #[]))
def qM (ws:List Value)(k c sz:Nat):List Value:=cond (Nat.ble k c) (aJ ws 0 (k*sz)) (List.replicate (k*sz) (.agg #[]))
def di (bx:Nat->Option aX)(e:TypeId)(ei:TI)(b x:SV):Q:=
 match mG ei.zero with
 | none=>.fail
 | some zs=>if Nat.beq ei.bytes 0||Nat.beq ei.size 0||!(Nat.beq ei.size zs.length) then .fail else
  let src:Option (OA×Nat ⊕ List Value):=match x with
   | .c (.v (.slice a k _))=>some (.inl (a,k))
   | .c (.m_ s o k _)=>match bx s with
    | some ⟨.row ws,_⟩=>some (.inr (aJ ws o (k*ei.size)))
    | _=>match fY bx s with
     | some ws=>if Nat.ble (o+k*ei.size) ws.length then some (.inr ((ws.drop o).take (k*ei.size))) else none
     | none=>none
   | .c (.eJ s k c)=>match bx s with
    | some ⟨.aB ws,_⟩=>some (.inr (qM ws k c ei.size))
    | _=>none
   | _=>none
  match src with
  | none=>.fail
  | some src=>match b with
   | .c (.v (.slice a n c))=>.app none a [] n c src ei.size ei.bytes e
   | .c (.m_ s 0 n c)=>match fY bx s,nh bx s with
    | some vs,some ty=>if Nat.beq ty e then .app (some s) none vs n c src ei.size ei.bytes e else .fail
    | _,_=>.fail
   | .c (.eJ s n c)=>match bx s with
    | some ⟨.aB vs,ty⟩=>if Nat.beq ty e then .xF s vs n c src ei.size ei.bytes e else .fail
    | _=>.fail
   | _=>.fail
def nP (b:Builtin)(k:TK)(xs:List SV):Q:=
 match xs with
 | []=>.fail
 | x::r=>match b with
  | .len=>match r,k,x with
   | [],.slice _,.c (.v (.slice _ n _))=>.ret [] (.c (.v (.int .i64 n)))
   | [],.slice _,.c (.m_ _ _ n _)=>.ret [] (.c (.v (.int .i64 n)))
   | [],.slice _,.c (.eJ _ n _)=>.ret [] (.c (.v (.int .i64 n)))
   | [],.str,.c (.v (.string s))=>.ret [] (.c (.v (.int .i64 s.size)))
   | _,_,_=>.fail
  | .cap=>match r,k,x with
   | [],.slice _,.c (.v (.slice _ _ c))=>.ret [] (.c (.v (.int .i64 c)))
   | [],.slice _,.c (.m_ _ _ _ c)=>.ret [] (.c (.v (.int .i64 c)))
   | [],.slice _,.c (.eJ _ _ c)=>.ret [] (.c (.v (.int .i64 c)))
   | _,_,_=>.fail
  | .min=>match x with
   | .c (.v (.int k a))=>match Ĩ cQ k a r with
    | some m=>.ret [] (.c (.v (.int k m)))
    | none=>.fail
   | _=>.fail
  | .max=>match x with
   | .c (.v (.int k a))=>match Ĩ cw k a r with
    | some m=>.ret [] (.c (.v (.int k m)))
    | none=>.fail
   | _=>.fail
  | _=>.fail
def Cy (t:TypeId)(i:TI)(v:SV):Q:=
 match i.k with
 | .iface=>.fail
 | _=>match v.ids,v.BX with
  | [],false=>.ret [] (.c (.w (.iface t (v.den λ_=>0))))
  | _,_=>.fail
def oV (T:eu)(bx:Nat->Option aX)(t:TypeId)(x:SV):Q:=
 match aF T t with
 | some i=>match i.k with
  | .slice e=>match aF T e with
   | some ei=>match mG ei.zero,x with
    | some zs,.c (.m_ s o n _)=>match bx s with
     | some ⟨.row vs,ty⟩=>if Nat.beq ei.size 0||!(Nat.beq ei.size zs.length)||!(zs.all Value.oneCell') then .fail else .zN [o+n*ei.size<=vs.length] s ⟨.row (vs.take o++wC n zs++vs.drop (o+n*ei.size)),ty⟩
     | _=>.fail
    | _,_=>.fail
   | none=>.fail
  | _=>.fail
 | none=>.fail
def OT:List C->Option (List (OA×Nat×Nat))
 | []=>some []
 | .v (.slice p n c)::r=>match OT r with
  | some l=>some ((p,n,c)::l)
  | none=>none
 | _=>none
def nQ (T:eu)(i:TI)(cs:List C)(k:Int):Q:=
 match i.k with
 | .arr n e=>match aF T e,OT cs with
  | some ei,some l=>match ei.k with
   | .slice _=>if Nat.beq ei.size 1&&Nat.beq l.length n then .ret [0<=k/\k<(n:Int)] (.c (.v (.slice (l.getD k.toNat (none,0,0)).1 (l.getD k.toNat (none,0,0)).2.1 (l.getD k.toNat (none,0,0)).2.2))) else .fail
   | _=>.fail
  | _,_=>.fail
 | _=>.fail
def aU (T:eu)(ρ:Operand->Option SV)(bx:Nat->Option aX)(op:Op):Q:=
 match op with
 | .move x|.assign x=>match ρ x with
  | some v=>.ret [] v
  | none=>.fail
 | .pick c a b=>match ρ c with
  | some (.c .tt)=>match ρ a with
   | some v=>.ret [] v
   | none=>.fail
  | some (.c .ff)=>match ρ b with
   | some v=>.ret [] v
   | none=>.fail
  | _=>.fail
 | .alloc t=>match aF T t with
  | some i=>.new [] ⟨.lit i.zero,t⟩ λd=>.c (.ptr d 0)
  | none=>.fail
 | .box t x=>match ρ x with
  | some v=>match v.BX with
   | true=>.fail
   | false=>.new v.gU ⟨.lit v.cells,t⟩ λd=>.c (.ptr d 0)
  | none=>.fail
 | .build t parts=>match aF T t,ñ ρ parts.toList with
  | some i,some ps=>match i.k with
   | .struct fs=>match iu T fs with
    | some pl=>match sN (λj=>pl[j]?) i.zero ps with
     | some cs=>.ret (ps.flatMap λx=>x.2.gU) (.agg cs)
     | none=>.fail
    | none=>.fail
   | .arr _ e=>match aF T e with
    | some ei=>match sN (λj=>some (j*ei.size,ei.size)) i.zero ps with
     | some cs=>.ret (ps.flatMap λx=>x.2.gU) (.agg cs)
     | none=>.fail
    | none=>.fail
   | _=>.fail
  | _,_=>.fail
 | .buildSlice t len parts=>match aF T t,ñ ρ parts.toList with
  | some i,some ps=>match i.k with
   | .slice e=>match aF T e with
    | some ei=>if Nat.ble (len*ei.size) 16777216&&Nat.beq ei.zero.length ei.size&&!(Nat.beq ei.size 0) then match sN (λj=>some (j*ei.size,ei.size)) (rep len ei.zero) ps with
      | some cs=>.new (ps.flatMap λx=>x.2.gU) ⟨.lit cs,e⟩ λd=>.c (.m_ d 0 len len)
      | none=>.fail
     else .fail
    | none=>.fail
   | _=>.fail
  | _,_=>.fail
 | .load t a=>match aF T t,ρ a with
  | some i,some x=>lJ bx i x
  | _,_=>.fail
 | .store t a x=>match aF T t,ρ a,ρ x with
  | some i,some av,some xv=>jt bx i av xv
  | _,_,_=>.fail
 | .nilCheck x=>match ρ x with
  | some (.c (.ptr s o))=>.ret [] (.c (.ptr s o))
  | some (.c (.v (.pointer p)))=>.ret [p.isSome=true] (.c (.v (.pointer p)))
  | _=>.fail
 | .binOp o xt x y _=>match ρ x,ρ y with
  | some (.c a),some (.c b)=>match b with
   | .v .nilIface=>match y with
    | .const _=>HC T o xt a b
    | _=>.fail
   | b=>HC T o xt a b
  | _,_=>.fail
 | .unOp .not _ x=>match ρ x with
  | some (.c .tt)=>.ret [] (.c .ff)
  | some (.c .ff)=>.ret [] (.c .tt)
  | some (.c (.v (.bool b)))=>.ret [] (.c (.v (.bool (!b))))
  | _=>.fail
 | .unOp .xor _ x=>match ρ x with
  | some (.c (.v (.int k n)))=>.ret [] (.c (.v (.int k (cg .xor k (if k.signed then -1 else k.max) n))))
  | _=>.fail
 | .unOp .neg _ x=>match ρ x with
  | some (.c (.v (.int k n)))=>.ret [] (.c (.v (.int k (k.wrap (0-n)))))
  | _=>.fail
 | .convert src dst x=>match aF T src,aF T dst,ρ x with
  | some _,some i,some (.c (.v (.int _ n)))=>match i.k with
   | .int k=>.ret [] (.c (.v (.int k (k.wrap n))))
   | _=>.fail
  | _,_,_=>.fail
 | .makeFunc (.func f) first caps=>match first.toList with
  | []=>match dh ρ caps.toList with
   | some xs=>match Cw xs with
    | some ss=>.ret [] (.c (.uz f ss))
    | none=>.fail
   | none=>.fail
  | _=>.fail
 | .makeSlice t l c=>match aF T t,ρ l,ρ c with
  | some i,some lv,some cv=>F8 T i lv cv
  | _,_,_=>.fail
 | .slice t x lo hi mx=>match aF T t,ρ x,Hu ρ lo,Hu ρ hi,Hu ρ mx with
  | some i,some xv,some l,some h,some m=>match i.k with
   | .slice e=>match aF T e with
    | some ei=>xJ ei.size xv l h m
    | none=>.fail
   | _=>.fail
  | _,_,_,_,_=>.fail
 | .fieldAddr t x f=>match aF T t,ρ x with
  | some i,some xv=>match i.k with
   | .struct fs=>match fs[f]? with
    | some (ft,off)=>match aF T ft with
     | some fi=>if Nat.beq fi.size 0 then .fail else match xv with
      | .c (.ptr s o)=>.ret [] (.c (.ptr s (o+off)))
      | .c (.v (.pointer p))=>.ret [p.isSome=true] (.c (.v (.pointer (ae p off))))
      | _=>.fail
     | none=>.fail
    | none=>.fail
   | _=>.fail
  | _,_=>.fail
 | .field t x f=>match aF T t,ρ x with
  | some i,some (.agg cs)=>match i.k with
   | .struct fs=>match fs[f]? with
    | some (ft,off)=>match aF T ft with
     | some fi=>match fi.k with
      | .struct _|.arr _ _=>.ret [] (.agg ((cs.drop off).take fi.size))
      | _=>match cs[off]? with
       | some c=>.ret [] (.c c)
       | none=>.fail
     | none=>.fail
    | none=>.fail
   | _=>.fail
  | _,_=>.fail
 | .indexAddr t x ix=>match aF T t,ρ x,ρ ix with
  | some i,some xv,some iv=>js T i xv iv
  | _,_,_=>.fail
 | .extract x j=>match ρ x with
  | some (.wF xs)=>match xs[j]? with
   | some v=>match wZ v with
    | some y=>.ret [] y
    | none=>.fail
   | none=>.fail
  | _=>.fail
 | .call c=>match c.callee with
  | .builtin .append=>match dh ρ c.args.toList,c.argTypes.toList with
   | some [b,x],[t,t']=>match aF T t,aF T t' with
    | some i,some i'=>match i.k,i'.k with
     | .slice e,.slice _=>match aF T e with
      | some ei=>di bx e ei b x
      | none=>.fail
     | _,_=>.fail
    | _,_=>.fail
   | _,_=>.fail
  | .builtin .clear=>match dh ρ c.args.toList,c.argTypes.toList with
   | some [x],[t]=>oV T bx t x
   | _,_=>.fail
  | .builtin b=>match dh ρ c.args.toList,c.argTypes.toList with
   | some xs,t::_=>match aF T t with
    | some i=>nP b i.k xs
    | none=>.fail
   | _,_=>.fail
  | _=>.fail
 | .index t x ix=>match aF T t,ρ x,ρ ix with
  | some i,some (.c (.v (.string s))),some (.c (.v (.int _ n)))=>match i.k with
   | .str=>.ret [0<=n/\n<(s.size:Int)] (.c (.v (.int .u8 ((s.data.toList.getD n.toNat 0).toNat:Int))))
   | _=>.fail
  | some i,some (.agg cs),some (.c (.v (.int _ n)))=>nQ T i cs n
  | _,_,_=>.fail
 | .makeInterface t x=>match aF T t,ρ x with
  | some i,some v=>Cy t i v
  | _,_=>.fail
 | _=>.fail
def Gw:List Prop->Prop->Prop
 | [],k=>k
 | p::r,k=>p/\Gw r k
def Ó.Xp (V:Ó)(p:Addr):Nat->List C->Prop->Prop
 | _,[],k=>k
 | i,c::r,k=>V.at (p.add i) (c.den λ_=>0)/\V.Xp p (i+1) r k
def Ó.Xo (V:Ó)(p:OA)(x:SV)(k:Prop):Prop:=
 match x with
 | .agg cs=>∃a,p=some a/\V.Xp a 0 cs k
 | .c c=>(∃a,p=some a/\V.at a (c.den λ_=>0))/\k
 | .wF _=>False
def Xx (vs:List Value)(o size:Nat)(x:SV):Prop:=
 match x with
 | .agg cs=>o+size<=vs.length/\(vs.drop o).take size=cs.map (C.den λ_=>0)
 | .c c=>vs[o]?=some (c.den λ_=>0)
 | .wF _=>False
def iZ (x:Nat):List Nat->Bool
 | []=>false
 | y::r=>cond (Nat.beq x y) true (iZ x r)
def ð:List Nat->List Nat
 | []=>[]
 | x::r=>let l:=ð r;cond (iZ x l) l (x::l)
def Ef (l m:List Nat):Bool:=l.all λx=>!(iZ x m)
def UQ (l m:List Nat):Bool:=l.all λx=>iZ x m
def C.rel (L:List Nat)(β:Nat->Nat)(J:C->Value):C->C
 | .ptr s o=>cond (iZ s L) (.v (.pointer (some ⟨β s,o,none⟩))) (.ptr s o)
 | .m_ s o n c=>cond (iZ s L) (.v (.slice (some ⟨β s,o,none⟩) n c)) (.m_ s o n c)
 | .eJ s n c=>cond (iZ s L) (.v (.slice (mA (β s) c) n c)) (.eJ s n c)
 | .uz f ss=>cond (Ef ss L) (.uz f ss) (.w (J (.uz f ss)))
 | x=>x
def SV.rel (L:List Nat)(β:Nat->Nat)(J:C->Value):SV->SV
 | .c x=>.c (x.rel L β J)
 | .agg cs=>.agg (cs.map (C.rel L β J))
 | .wF xs=>.wF (xs.map λx=>(x.1,x.2.map (C.rel L β J)))
def aX.rel (L:List Nat)(β:Nat->Nat)(J:C->Value)(b:aX):aX:=
 match b.cs with
 | .row _=>b
 | .aB _=>b
 | .lit cs=>⟨.lit (cs.map (C.rel L β J)),b.ty⟩
def St.rel (st:St)(L:List Nat)(β:Nat->Nat)(J:C->Value):St:=
 ⟨λt=>match st.ay t with|some x=>some (x.rel L β J)|none=>none,
   λt=>cond (iZ t L) none (match st.boxes t with|some b=>some (b.rel L β J)|none=>none)⟩
def Ó.sl (V:Ó)(a:OA)(xs:List Value):Prop:=∀i v,xs[i]?=some v->∃ad,a=some ad/\V.at (ad.add i) v
def sQ (s d:Nat):Nat:=cond (Nat.blt s 100000) d (d+200000)
def II (s:Nat)(vs:List Value)(n c size bytes:Nat)(ty:TypeId)(d:Nat)(st:St)(V:Ó)(K:St->Ó->Prop)(k:Nat)(xs:List Value):Prop:=
 (n+k)*bytes<=2^47/\n<=c/\c*size<=vs.length/\xs.length=k*size/\(∀v∈xs,v.oneCell'=true) /\
  match st.boxes (sQ s d) with
  | some _=>False
  | none=>∀(_:Nat)(_:C->Value)(spare:List Value)(c':Nat),n+k<=c'->c'*size<=(n+k)*size+spare.length ->
   K (((st.box s ⟨.aB [],ty⟩).box (sQ s d) ⟨.row (vs.take (n*size)++xs++spare),ty⟩).put (some d) (.c (.m_ (sQ s d) 0 (n+k) c'))) V
def yJ (s:Nat)(vs:List Value)(n c size bytes:Nat)(ty:TypeId)(d:Nat)(st:St)(V:Ó)(K:St->Ó->Prop)(k:Nat)(xs:List Value):Prop:=
 (n+k)*bytes<=2^47/\n<=c/\c*size<=vs.length/\xs.length=k*size/\(∀v∈xs,v.oneCell'=true) /\
  match st.boxes (sQ s d) with
  | some _=>False
  | none=>∀(spare:List Value)(c':Nat),n+k<=c'->c'*size<=(n+k)*size+spare.length ->
   K (((st.box s ⟨.aB [],ty⟩).box (sQ s d) ⟨.aB (vs.take (n*size)++xs++spare),ty⟩).put (some d) (.c (.eJ (sQ s d) (n+k) c'))) V
def IJ (vs:List Value)(n c size bytes:Nat)(ty:TypeId)(d:Nat)(st:St)(V:Ó)(K:St->Ó->Prop)(k:Nat)(xs:List Value):Prop:=
 (n+k)*bytes<=2^47/\c<n+k/\xs.length=k*size/\(∀v∈xs,v.oneCell'=true) /\
  match st.boxes d with
  | some _=>False
  | none=>∀(spare:List Value)(c':Nat),n+k<=c'->c'*size<=(n+k)*size+spare.length ->
   K ((st.box d ⟨.row (vs++xs++spare),ty⟩).put (some d) (.c (.m_ d 0 (n+k) c'))) V
def zO (q:Q)(dst:Option Nat)(st:St)(V:Ó)(K:St->Ó->Prop):Prop:=
 match q with
 | .fail=>False
 | .ret sc x=>Gw sc (K (st.put dst x) V)
 | .new sc b x=>match dst with
  | some d=>match st.boxes d with
   | none=>Gw sc (K ((st.box d b).put (some d) (x d)) V)
   | some _=>False
  | none=>False
 | .zN sc s b=>match dst with
  | none=>Gw sc (K (st.box s b) V)
  | some _=>False
 | .rd p sh=>sh.ex λx=>V.Xo p x (K (st.put dst x) V)
 | .sS vs o size sh=>sh.ex λx=>Xx vs o size x/\K (st.put dst x) V
 | .xF s vs n c x size bytes ty=>match dst with
  | none=>False
  | some d=>match x with
   | .inr xs=>yJ s vs n c size bytes ty d st V K (xs.length/size) xs
   | .inl (a,k)=>∃xs:List Value,V.sl a xs/\xs.length=k*size/\yJ s vs n c size bytes ty d st V K k xs
 | .app old ba vs n c x size bytes ty=>match dst with
  | none=>False
  | some d=>match old with
   | some s=>match x with
    | .inr xs=>II s vs n c size bytes ty d st V K (xs.length/size) xs
    | .inl (a,k)=>∃xs:List Value,V.sl a xs/\xs.length=k*size/\II s vs n c size bytes ty d st V K k xs
   | none=>∃vs:List Value,V.sl ba vs/\vs.length=n*size/\n<=c/\(ba.isNone=true->c=0)/\(match x with
    | .inr xs=>IJ vs n c size bytes ty d st V K (xs.length/size) xs
    | .inl (a,k)=>∃xs:List Value,V.sl a xs/\xs.length=k*size/\(k=0->K (st.put (some d) (.c (.v (.slice ba n c)))) V)/\(k≠0->IJ vs n c size bytes ty d st V K k xs))
def cU (β:Nat->Nat)(s b:Nat):Nat->Nat:=λt=>cond (Nat.beq t s) b (β t)
def nf:List Nat->(Nat->Nat)->((Nat->Nat)->Prop)->Prop
 | [],β,k=>k β
 | s::r,β,k=>∀b:Nat,nf r (cU β s b) k
def oa (bx:Nat->Option aX)(s:Nat):List Nat:=match bx s with|some b=>b.cs.ids|none=>[]
def ì (bx:Nat->Option aX):Nat->List Nat->List Nat
 | 0,l=>l
 | n+1,l=>ì bx n (ð (l++l.flatMap (oa bx)))
def jG (bx:Nat->Option aX)(l:List Nat):Bool:=l.all λs=>UQ (oa bx s) l
def YP (bx:Nat->Option aX)(b:aX)(β:Nat->Nat)(s:Nat):List Nat->Prop->Prop
 | [],k=>k
 | t::r,k=>cond (Nat.beq s t) (YP bx b β s r k) (match bx t with
  | some b'=>vj (Re b++Re b') (β s≠β t)->YP bx b β s r k
  | none=>False)
def kn (bx:Nat->Option aX)(β:Nat->Nat)(V:Ó):List Nat->Prop->Prop
 | [],k=>k
 | s::r,k=>match bx s with
  | some b=>vj (Re b) (V.w.heap[β s]?=some (b.obj β))->vj (Re b) (V.H (β s))->kn bx β V r (YP bx b β s r k)
  | none=>False
def vb (vs:List Value)(n b:Nat):Nat:=
 match vs with
 | []=>n
 | _::_=>b
def eQ (bx:Nat->Option aX)(β:Nat->Nat)(n:Nat)(s:Nat):Nat:=
 match bx s with
 | some ⟨.aB vs,_⟩=>vb vs n (β s)
 | _=>β s
def C.kept:C->List Nat
 | .uz _ ss=>0::ss
 | c=>c.ids
def oJ (mv:Option (Nat×Nat)):List C->List C->(List C->Prop)->Prop
 | [],_,K=>K []
 | c::r,z::zr,K=>match c with
  | .eJ t _ _=>match mv with
   | some (m,nb)=>match Nat.beq t m with
    | true=>∃n c:Nat,oJ mv r zr λcs=>K (.eJ nb n c::cs)
    | false=>False
   | none=>False
  | c=>match c.kept with
   | []=>(shC z).ex λv=>oJ mv r zr λcs=>K (v::cs)
   | _=>oJ mv r zr λcs=>K (c::cs)
 | _,[],_=>False
def fQ (T:eu)(mv:Option (Nat×Nat))(β:Nat->Nat)(V:Ó):List Nat->St->(St->Prop)->Prop
 | [],st,k=>k st
 | s::r,st,k=>match st.boxes s with
  | some ⟨.lit cs,ty⟩=>match aF T ty with
   | some i=>oJ mv cs i.zero λcs'=>V.w.heap[β s]?=some (.cells (cs'.map (C.den β)).toArray ty (0,0))/\fQ T mv β V r (st.box s ⟨.lit cs',ty⟩) k
   | none=>False
  | some ⟨.row _,ty⟩=>∃vs:List Value,V.w.heap[β s]?=some (.cells vs.toArray ty (0,0))/\fQ T mv β V r (st.box s ⟨.row vs,ty⟩) k
  | some ⟨.aB vs,ty⟩=>vs≠[]/\∃vs':List Value,vs'≠[]/\V.w.heap[β s]?=some (.cells vs'.toArray ty (0,0))/\fQ T mv β V r (st.box s ⟨.aB vs',ty⟩) k
  | _=>False
def tX (bx:Nat->Option aX)(β:Nat->Nat)(V:Ó):List Nat->Prop->Prop
 | [],k=>k
 | s::r,k=>match bx s with
  | some b=>vj (Re b) (V.bg (β s) (b.obj β))->tX bx β V r k
  | none=>False
def tV:List C->List Nat
 | []=>[]
 | .eJ t _ _::r=>t::tV r
 | _::r=>tV r
def vy (bx:Nat->Option aX)(L:List Nat):List Nat:=ð (L.flatMap λs=>match bx s with|some ⟨.lit cs,_⟩=>tV cs|_=>[])
def oM:List SV->List Nat
 | []=>[]
 | .c (.eJ s _ _)::_=>[s]
 | .c (.m_ s 0 _ _)::_=>[s]
 | _::r=>oM r
def At (nb:Nat):List (Bool×List C)->List (Bool×List C)
 | []=>[]
 | (false,[.v (.slice _ n c)])::r=>(false,[.eJ nb n c])::r
 | x::r=>x::At nb r
def Hb (nb:Nat):List C->List C
 | []=>[]
 | .v (.slice _ n c)::r=>.eJ nb n c::r
 | x::r=>x::Hb nb r
def xo (nb:Nat):SV->SV
 | .c (.v (.slice _ n c))=>.c (.eJ nb n c)
 | .agg cs=>.agg (Hb nb cs)
 | .wF xs=>.wF (At nb xs)
 | x=>x
def Hc (T:eu):List TypeId->Option TypeId
 | []=>none
 | t::r=>match aF T t with
  | some i=>match i.k with
   | .slice e=>some e
   | _=>Hc T r
  | none=>none
def SM (T:eu)(ty:TypeId):Option TypeId:=
 match aF T ty with
 | some i=>match i.k with
  | .slice e=>some e
  | .tuple ts=>Hc T ts
  | .struct fs=>Hc T (fs.map Prod.fst)
  | _=>none
 | none=>none
def aI (β:Nat->Nat)(xs:List SV):Array Value:=(xs.map (SV.den β)).toArray
inductive CM where
 | none|aq|rel|kj|give
def gT (m:Option Nat)(d:Nat):Nat:=
 match m with
 | some m=>sQ m d
 | Option.none=>d
def mvP (m:Option Nat)(nb:Nat):Option (Nat×Nat):=
 match m with
 | some m=>some (m,nb)
 | Option.none=>Option.none
def JQ (m:Option Nat)(L:List Nat):List Nat:=
 match m with
 | some m=>L.filter λs=>!(Nat.beq s m)
 | Option.none=>L
def vg (m:Option Nat)(ety:TypeId)(st:St):St:=
 match m with
 | some m=>st.box m ⟨.aB [],ety⟩
 | Option.none=>st
def DI (m:Option Nat)(st:St)(β:Nat->Nat)(b':Nat):Prop:=
 match m with
 | some m=>match st.boxes m with
  | some ⟨.aB vs,_⟩=>vs≠[]/\b'=β m
  | _=>b'=β m
 | Option.none=>False
def cN (T:eu)(give:Bool)(sh:Sh)(L:List Nat)(m:Option Nat)(d:Nat)(ety:TypeId)(β:Nat->Nat)(st:St)(V':Ó)(K:St->Ó->Prop)(r':Value)(fF:Ó):Prop:=
 ∃(b':Nat)(vs':List Value),(vs'≠[]->fF.w.heap[b']?=some (.cells vs'.toArray ety (0,0)))/\(vs'≠[]->V'.w.heap.size<=b'\/DI m st β b') /\
  sh.ex λx=>r'=(cond give (xo (gT m d) x) x).den (cU β (gT m d) b') /\
   fQ T (mvP m (gT m d)) (cU β (gT m d) b') fF (JQ m L) ((vg m ety st).box (gT m d) ⟨.aB vs',ety⟩) λst'=>K (st'.put (some d) (cond give (xo (gT m d) x) x)) (fF.shut.aW (vs'≠[]) b')
def HO (bx:Nat->Option aX)(m ety:Nat):Bool:=
 match bx m with
 | some ⟨_,t⟩=>Nat.beq t ety
 | Option.none=>true
def eE (st:St)(L:List Nat)(ty:TypeId):St:=L.foldl (λst s=>st.box s ⟨.aB [],ty⟩) st
def lD (st:St)(m:Option Nat)(d:Nat):Bool:=
 match st.boxes (gT m d) with
 | some _=>false
 | Option.none=>true
def h_ (P:Program)(T:eu)(m:CM)(f:FuncId)(xs:List SV)(ty:TypeId)(dst:Option Nat)(st:St)(V:Ó)(K:St->Ó->Prop):Prop:=
 match shOf T ty with
 | Option.none=>False
 | some sh=>match ì st.boxes 3 (ð (xs.flatMap SV.ids)) with
  | []=>match m with
   | .give=>match dst,SM T ty with
    | some d,some ety=>match lD st Option.none d with
     | false=>False
     | true=>∀V':Ó,V.Le V'->aa P f (aI (λ_=>0) xs) V' (cN T true sh [] Option.none d ety (λ_=>0) st V' K)
    | _,Option.none=>∀V':Ó,V.Le V'->aa P f (aI (λ_=>0) xs) V' λr fF=>sh.ex λx=>r=x.den (λ_=>0)/\K (st.put dst x) fF
    | _,_=>False
   | .kj=>match sh,dst with
    | .val (.one .ptr),some d=>match st.boxes d with
     | some _=>False
     | Option.none=>match aF T ty with
      | some ti=>match ti.k with
       | .ptr e=>match aF T e with
        | some ei=>∀V':Ó,V.Le V'->aa P f (aI (λ_=>0) xs) V' λr fF=>∃b:Nat,ZD (ei.zero.map shC) λcs=>
          r=.pointer (some ⟨b,0,Option.none⟩)/\V'.w.heap.size<=b/\fF.bg b (.cells (cs.map (C.den λ_=>0)).toArray e (0,0))/\K ((st.box d ⟨.lit cs,e⟩).put (some d) (.c (.ptr d 0))) (fF.SU b)
        | Option.none=>False
       | _=>False
      | Option.none=>False
    | _,_=>False
   | _=>∀V':Ó,V.Le V'->aa P f (aI (λ_=>0) xs) V' λr fF=>sh.ex λx=>r=x.den (λ_=>0)/\K (st.put dst x) fF
  | s::r=>match jG st.boxes (s::r) with
   | false=>False
   | true=>match m with
    | .none|.kj=>False
    | .give=>match dst,SM T ty,oM xs,vy st.boxes (s::r) with
     | some d,some ety,[],[]=>match lD st Option.none d with
      | false=>False
      | true=>∀V':Ó,V.Le V'->nf (s::r) (λ_=>0) λβ=>kn st.boxes β V' (s::r)
       (aa P f (aI β xs) (V'.aq ((s::r).map (eQ st.boxes β V'.w.heap.size))) (cN T true sh (s::r) Option.none d ety β st V' K))
     | some d,some ety,[m],[]=>match HO st.boxes m ety with
      | true=>match lD st (some m) d with
       | false=>False
       | true=>∀V':Ó,V.Le V'->nf (s::r) (λ_=>0) λβ=>kn st.boxes β V' (s::r)
        (aa P f (aI β xs) (V'.aq ((s::r).map (eQ st.boxes β V'.w.heap.size))) (cN T true sh (s::r) (some m) d ety β st V' K))
      | false=>match lD (eE st (s::r) 0) Option.none d with
       | false=>False
       | true=>match (s::r).all λt=>Nat.blt t 100000 with
        | false=>False
        | true=>∀V':Ó,V.Le V'->nf (s::r) (λ_=>0) λβ=>tX st.boxes β V' (s::r)
         (aa P f (aI β xs) V' (cN T true sh [] Option.none d ety (λ_=>0) (eE st (s::r) 0) V' K))
     | _,Option.none,_,_=>match (s::r).all λt=>Nat.blt t 100000 with
      | false=>False
      | true=>∀V':Ó,V.Le V'->nf (s::r) (λ_=>0) λβ=>tX st.boxes β V' (s::r)
       (aa P f (aI β xs) V' λr' fF=>sh.ex λx=>r'=x.den (λ_=>0)/\K ((eE st (s::r) 0).put dst x) fF)
     | _,_,_,_=>False
    | .aq=>match vy st.boxes (s::r) with
     | []=>∀V':Ó,V.Le V'->nf (s::r) (λ_=>0) λβ=>kn st.boxes β V' (s::r)
      (aa P f (aI β xs) (V'.aq ((s::r).map (eQ st.boxes β V'.w.heap.size))) λr' fF=>sh.ex λx=>r'=x.den (λ_=>0)/\fQ T Option.none β fF (s::r) st λst'=>K (st'.put dst x) fF.shut)
     | [m]=>match dst,nh st.boxes m with
      | some d,some ety=>match lD st (some m) d with
       | false=>False
       | true=>∀V':Ó,V.Le V'->nf (s::r) (λ_=>0) λβ=>kn st.boxes β V' (s::r)
        (aa P f (aI β xs) (V'.aq ((s::r).map (eQ st.boxes β V'.w.heap.size))) (cN T false sh (s::r) (some m) d ety β st V' K))
      | _,_=>False
     | _=>False
    | .rel=>match (s::r).all λt=>Nat.blt t 100000 with
     | false=>False
     | true=>∀V':Ó,V.Le V'->nf (s::r) (λ_=>0) λβ=>tX st.boxes β V' (s::r)
      (aa P f (aI β xs) V' λr' fF=>sh.ex λx=>r'=x.den (λ_=>0)/\∀J:C->Value,K ((st.rel (s::r) β J).put dst x) fF)
def o_ (bx:Nat->Option aX):List SV->Option (List Value×Nat×List SV)
 | []=>none
 | x::r=>match x with
  | .c (.eJ s n c)=>match bx s with
   | some ⟨.aB vs,_⟩=>some (vs,c,.c (.v (.slice none n c))::r)
   | _=>none
  | x=>match o_ bx r with
   | some (vs,c,r')=>some (vs,c,x::r')
   | none=>none
def mV (P:Program)(T:eu)(m:CM)(f:FuncId)(xs:List SV)(ty:TypeId)(dst:Option Nat)(st:St)(V:Ó)(K:St->Ó->Prop):Prop:=
 match m with
 | .aq=>match o_ st.boxes xs with
  | some (vs,c,xs')=>(vs=[]->c=0/\h_ P T .aq f xs' ty dst st V K)/\(vs≠[]->h_ P T .aq f xs ty dst st V K)
  | none=>h_ P T .aq f xs ty dst st V K
 | m=>h_ P T m f xs ty dst st V K
def Bv (ss:List Nat):List SV:=ss.map λs=>.c (.ptr s 0)
inductive û where
 | free|own (l:List Nat)
def mO (op:Op):List Operand:=
 match op with
 | .load _ a=>[a]
 | .store _ a _=>[a]
 | .call ⟨.value f,args,_⟩=>args.toList++[f]
 | .call ⟨.builtin .append,args,_⟩=>args.toList
 | _=>[]
def hU (bx:Nat->Option aX)(op:Op)(l:List Nat):List Nat:=
 match op with
 | .call _=>ì bx 3 (ð l)
 | _=>l
def My (P:Program)(t:TypeId)(name:String):Option FuncId:=
 match P.info? t,P.underlying t with
 | some i,some d=>match i.methods.find? (λm=>m.name==name) with
  | some m=>match m.path.toList,m.func,d with
   | [],some (f,false),.struct _=>some f
   | _,_,_=>none
  | none=>none
 | _,_=>none
def d_ (P:Program)(T:eu)(m:CM)(o:Oper)(st:St)(V:Ó)(K:St->Ó->Prop):Prop:=
 match o.op with
 | .call ⟨.value Yt,args,_⟩=>match dh st.bG args.toList with
  | some xs=>match st.bG Yt with
   | some (.c (.uz f ss))=>mV P T m f (xs++Bv ss) o.type o.dst st V K
   | _=>False
  | none=>False
 | .call ⟨.invoke recv name,args,_⟩=>match dh st.bG args.toList with
  | some xs=>match st.bG recv with
   | some (.c (.w (.iface t v)))=>match My P t name with
    | some f=>mV P T m f (.c (.w v)::xs) o.type o.dst st V K
    | none=>False
   | _=>False
  | none=>False
 | op=>zO (aU T st.bG st.boxes op) o.dst st V K
def dT (P:Program)(T:eu)(m:CM)(h:û)(o:Oper)(st:St)(V:Ó)(K:St->Ó->Prop):Prop:=
 match h with
 | .free=>d_ P T m o st V K
 | .own l=>match dh st.bG (mO o.op) with
  | some xs=>match UQ (hU st.boxes o.op (xs.flatMap SV.ids)) l with
   | true=>d_ P T m o st V K
   | false=>False
  | none=>False
def lQ:SV:=.wF []
def wc (P:Program)(T:eu)(m:CM)(h:û)(ops:Array Oper)(o:Oper)(st:St)(V:Ó)(K:St->Ó->Prop):Prop:=
 match o.guard with
 | none=>dT P T m h o st V K
 | some (j,b)=>match (ops[j]?).bind (·.dst) with
  | none=>False
  | some g=>match st.ay g with
   | some (.c .tt)=>match b with
    | true=>dT P T m h o st V K
    | false=>K (st.put o.dst lQ) V
   | some (.c .ff)=>match b with
    | true=>K (st.put o.dst lQ) V
    | false=>dT P T m h o st V K
   | some (.c (.v (.bool c)))=>match b with
    | true=>(c=true->dT P T m h o (st.put (some g) (.c .tt)) V K)/\(c=false->K ((st.put (some g) (.c .ff)).put o.dst lQ) V)
    | false=>(c=true->K ((st.put (some g) (.c .tt)).put o.dst lQ) V)/\(c=false->dT P T m h o (st.put (some g) (.c .ff)) V K)
   | some (.wF _)=>K (st.put o.dst lQ) V
   | _=>False
inductive Cls where
 | pure|load|store|alloc|call|nJ|odd|kj|app|give
def bE (LF RF:List Nat):Op->Cls
 | .move _|.assign _|.pick ..| .build ..| .nilCheck _|.binOp ..| .unOp ..| .convert ..| .makeFunc ..| .slice ..| .fieldAddr ..| .field ..| .indexAddr ..| .extract ..| .index ..| .makeInterface ..=>.pure
 | .load ..=>.load
 | .store ..=>.store
 | .alloc _|.box ..| .buildSlice ..| .makeSlice ..=>.alloc
 | .call ⟨.builtin .len,_,_⟩|.call ⟨.builtin .cap,_,_⟩=>.pure
 | .call ⟨.builtin .append,_,_⟩=>.app
 | .call ⟨.value (.func f),_,_⟩=>match iZ f LF with
  | true=>match iZ (f+1000000) LF with
   | true=>.give
   | false=>.nJ
  | false=>match iZ f RF with
   | true=>.odd
   | false=>match iZ (f+1000000) RF with
    | true=>.kj
    | false=>.call
 | .call ⟨.value _,_,_⟩=>.nJ
 | .call ⟨.invoke _ _,_,_⟩=>.call
 | _=>.odd
def kg (op:Op):List Nat:=op.operands.toList.filterMap λ|.tmp t=>some t|_=>none
def gJ (ops:Array Oper)(o:Oper):List Nat:=
 match o.guard with
 | none=>[]
 | some (j,_)=>match (ops[j]?).bind (·.dst) with
  | some g=>[g]
  | none=>[]
def fN (o:Oper):List Nat:=match o.dst with|some d=>[d]|none=>[]
def vL (c:Cls)(h:û)(d:List Nat):Option (List Nat×List Nat):=
 match c,h with
 | .pure,.free=>some ([],[])
 | .call,.free=>some ([],[])
 | .alloc,.free=>some (d,d)
 | .load,.own l=>some (l,[])
 | .store,.own l=>some (l,l)
 | .nJ,.own l=>some (l,l++d++d.map (·+ 200000))
 | .app,.own l=>some (l,l++d++d.map (·+ 200000))
 | .give,.own l=>some (l,l++d++d.map (·+ 200000))
 | _,_=>none
def qH:Cls->Bool
 | .pure|.load|.store|.alloc=>true
 | _=>false
def Ĕ (LF RF:List Nat)(ops:Array Oper)(h1 h2:û)(o1 o2:Oper):Bool:=
 qH (bE LF RF o1.op) &&
 Ef (fN o1) (kg o2.op++gJ ops o2++fN o2)&&Ef (fN o2) (kg o1.op++gJ ops o1) &&
 Ef (gJ ops o1) (kg o2.op)&&Ef (gJ ops o2) (kg o1.op) &&
 match vL (bE LF RF o1.op) h1 (fN o1),vL (bE LF RF o2.op) h2 (fN o2) with
 | some (r1,w1),some (r2,w2)=>Ef w1 r2&&Ef w2 r1&&Ef w1 w2
 | _,_=>false
def fstOf (ops:List Oper)(t:Nat):Option Oper:=ops.find? λo=>match o.dst with|some d=>Nat.beq d t|none=>false
def CJ (st:St)(ops:List Oper):Nat->Operand->List Nat
 | 0,_=>[]
 | n+1,.tmp t=>match fstOf ops t with
  | some o=>match o.op with
   | .alloc _|.box ..| .buildSlice ..| .makeSlice ..=>[t]
   | .call _=>[t,t+200000]
   | .assign x=>CJ st ops n x++match st.ay t with
    | some x=>x.ids
    | none=>[]
   | .load _ a=>(CJ st ops n a).flatMap (oa st.boxes)
   | op=>op.operands.toList.flatMap (CJ st ops n)
  | none=>match st.ay t with
   | some x=>x.ids
   | none=>[]
 | _,_=>[]
def SX (LF RF:List Nat)(st:St)(ops:List Oper)(o:Oper):û:=
 match bE LF RF o.op with
 | .load|.store=>.own (ð ((mO o.op).flatMap (CJ st ops 10)))
 | .nJ|.app|.give=>.own (ì st.boxes 3 (ð ((mO o.op).flatMap (CJ st ops 10))))
 | _=>.free
def Ru (ops:List Oper):List Nat:=
 ops.foldl (λacc o=>acc++[o.after.toList.foldl (λs e=>cond (Region.binds .any e) (Nat.lor (Nat.lor (Nat.shiftLeft 1 e.on) (acc.getD e.on 0)) s) s) 0]) []
def Zu (m i:Nat):Bool:=Nat.beq (Nat.land (Nat.shiftRight m i) 1) 1
def WQ (LF RF:List Nat)(o:Oper):Bool:=match bE LF RF o.op with|.call|.nJ|.odd|.kj|.app|.give=>true|_=>false
def MQ (ops:Array Oper)(done:List Nat)(i:Nat):Bool:=
 match ops[i]? with
 | some o=>!(iZ i done)&&o.after.toList.all λe=>!(Region.binds .any e)||iZ e.on done
 | none=>false
def HS (LF RF:List Nat)(ops:Array Oper):Nat->List Nat->List Nat
 | 0,_=>[]
 | n+1,done=>
  let rs:=(List.range ops.size).filter (MQ ops done)
  match rs.find? (λi=>match ops[i]? with|some o=>!(WQ LF RF o)|none=>false) with
  | some i=>i::HS LF RF ops n (i::done)
  | none=>match rs with
   | i::_=>i::HS LF RF ops n (i::done)
   | []=>[]
def ue (LF RF:List Nat)(ops:Array Oper):List Nat:=HS LF RF ops ops.size []
def AG (LF RF:List Nat)(ops:Array Oper)(hs:List û)(an:List Nat):List Nat->Bool
 | []=>true
 | i::r=>(r.all λj=>Zu (an.getD j 0) i||match ops[i]?,ops[j]? with|some a,some b=>Ĕ LF RF ops (hs.getD i .free) (hs.getD j .free) a b|_,_=>false)&&AG LF RF ops hs an r
def vE (ops:Array Oper):List Nat->List Nat->Bool
 | _,[]=>true
 | done,i::r=>MQ ops done i&&vE ops (i::done) r
def Ow (LF RF:List Nat)(ops:Array Oper)(hs:List û)(l:List Nat):Bool:=
 Nat.beq l.length ops.size&&((List.range ops.size).all λi=>iZ i l)&&vE ops [] l&&AG LF RF ops hs (Ru ops.toList) l
def U0 (P:Program)(T:eu)(m:Nat->CM)(hint:Nat->û)(ops:Array Oper):List Nat->St->Ó->(St->Ó->Prop)->Prop
 | [],st,V,K=>K st V
 | i::r,st,V,K=>match ops[i]? with
  | some o=>wc P T (m i) (hint i) ops o st V λst' V'=>U0 P T m hint ops r st' V' K
  | none=>False
def mP (LF RF:List Nat)(ops:Array Oper)(i:Nat):CM:=
 match ops[i]? with
 | some o=>match bE LF RF o.op with
  | .nJ=>.aq
  | .odd=>.rel
  | .kj=>.kj
  | .give=>.give
  | _=>.none
 | Option.none=>.none
def modeN (LF RF:List Nat)(ops:Array Oper)(i:Nat):CM:=
 match ops[i]? with
 | some o=>match bE LF RF o.op with
  | .nJ=>.aq
  | .kj=>.kj
  | .give=>.give
  | _=>.rel
 | Option.none=>.none
structure Tm where
 τ:Type
 gh:Bool:=false
 keep:List Nat
 keepB:List Nat
 ay:τ->List (Nat×SV)
 boxes:τ->List (Nat×aX)
structure Y_ where
 τ:Type
 ay:τ->List (Nat×SV)
 boxes:τ->List (Nat×aX)
def N_ {α:Type}(f:Nat->Option α):List Nat->List (Nat×α)
 | []=>[]
 | t::r=>match f t with
  | some x=>(t,x)::N_ f r
  | none=>N_ f r
def Tm.at (A:Tm)(st:St):Y_:=⟨A.τ,λx=>N_ st.ay A.keep++A.ay x,λx=>N_ st.boxes A.keepB++A.boxes x⟩
def tJ (ρ:List (Nat×Nat))(s s':Nat):Bool:=
 match aF ρ s' with
 | some t=>Nat.beq s t
 | none=>Nat.beq s s'
def FG (ρ:List (Nat×Nat)):List Nat->List Nat->Bool
 | [],[]=>true
 | s::r,s'::r'=>tJ ρ s s'&&FG ρ r r'
 | _,_=>false
def eqC (ρ:List (Nat×Nat)):C->C->List Prop
 | .v (.int k a),.v (.int k' b)=>cond (BZ k k') [a=b] [False]
 | .v (.bool a),.v (.bool b)=>[a=b]
 | .tt,.v (.bool b)=>[true=b]
 | .ff,.v (.bool b)=>[false=b]
 | .v (.slice a n c),.v (.slice a' n' c')=>[a=a',n=n',c=c']
 | .v (.slice a n c),.eJ _ n' c'=>[a=none,n=n',c=c',c=0]
 | .v (.pointer p),.v (.pointer q)=>[p=q]
 | .v x,.v y=>[x=y]
 | .w x,.w y=>[x=y]
 | .w x,.v y=>[x=y]
 | .v x,.w y=>[x=y]
 | .tt,.tt=>[]
 | .ff,.ff=>[]
 | .ptr s o,.ptr s' o'=>cond (tJ ρ s s') [o=o'] [False]
 | .m_ s o n c,.m_ s' o' n' c'=>cond (tJ ρ s s') [o=o',n=n',c=c'] [False]
 | .m_ s o n c,.eJ s' n' c'=>cond (tJ ρ s s') [o=0,n=n',c=c',c≠0] [False]
 | .eJ s n c,.eJ s' n' c'=>cond (tJ ρ s s') [n=n',c=c'] [False]
 | .uz f ss,.uz g ts=>cond (FG ρ ss ts) [f=g] [False]
 | _,_=>[False]
def Mc (ρ:List (Nat×Nat)):List C->List C->List Prop
 | [],[]=>[]
 | a::r,b::s=>eqC ρ a b++Mc ρ r s
 | _,_=>[False]
def ZB (ρ:List (Nat×Nat)):SV->SV->List Prop
 | .c a,.c b=>eqC ρ a b
 | .agg l,.agg m=>Mc ρ l m
 | _,_=>[False]
def SV.plain:SV->Bool
 | .wF _=>false
 | _=>true
def SD (ρ:List (Nat×Nat))(a b:aX):List Prop:=
 match a.cs,b.cs with
 | .lit l,.lit m=>cond (Nat.beq a.ty b.ty) (Mc ρ l m) [False]
 | .row l,.row m=>cond (Nat.beq a.ty b.ty) [l=m] [False]
 | .aB l,.aB m=>cond (Nat.beq a.ty b.ty) [l=m] [False]
 | .row l,.aB m=>cond (Nat.beq a.ty b.ty) [l=m] [False]
 | .lit l,.aB m=>match mG l with
  | some ws=>cond (Nat.beq a.ty b.ty) [ws=m] [False]
  | none=>[False]
 | .lit l,.row m=>match mG l with
  | some ws=>cond (Nat.beq a.ty b.ty) [ws=m] [False]
  | none=>[False]
 | _,_=>[False]
def renC:C->C->List (Nat×Nat)
 | .ptr s _,.ptr s' _=>[(s',s)]
 | .m_ s _ _ _,.m_ s' _ _ _=>[(s',s)]
 | .m_ s _ _ _,.eJ s' _ _=>[(s',s)]
 | .eJ s _ _,.eJ s' _ _=>[(s',s)]
 | .uz _ ss,.uz _ ts=>ts.zip ss
 | _,_=>[]
def Ur:List C->List C->List (Nat×Nat)
 | a::r,b::s=>renC a b++Ur r s
 | _,_=>[]
def renSV:SV->SV->List (Nat×Nat)
 | .c a,.c b=>renC a b
 | .agg l,.agg m=>Ur l m
 | _,_=>[]
def renS (st:St):List (Nat×SV)->List (Nat×Nat)
 | []=>[]
 | (t,x)::r=>match st.ay t with
  | some y=>renSV y x++renS st r
  | none=>renS st r
def QJ (st:St)(ρ:List (Nat×Nat)):List (Nat×aX)->List (Nat×Nat)
 | []=>[]
 | (t,x)::r=>match aF ρ t with
  | some s=>match st.boxes s with
   | some y=>(match y.cs,x.cs with|.lit l,.lit m=>Ur l m|_,_=>[])++QJ st ρ r
   | none=>QJ st ρ r
  | none=>QJ st ρ r
def Uq (st:St)(ss:List (Nat×SV))(bs:List (Nat×aX)):List (Nat×Nat):=
 let ρ1:=renS st ss
 let ρ2:=ρ1++QJ st ρ1 bs
 let ρ3:=ρ2++QJ st ρ2 bs
 ρ3++QJ st ρ3 bs
def Ks (ρ:List (Nat×Nat))(t:Nat):Nat:=
 match aF ρ t with
 | some s=>s
 | none=>t
def Ga (ρ:List (Nat×Nat)):List Nat->Bool
 | []=>true
 | t::r=>(Nat.blt t 100000==Nat.blt (Ks ρ t) 100000)&&(Nat.blt t 100000||Nat.ble 200000 t||Nat.beq (Ks ρ t) t)&&(r.all λu=>!(Nat.beq (Ks ρ t) (Ks ρ u)))&&Ga ρ r
def qJ (ρ:List (Nat×Nat)):List (Nat×aX)->List Nat
 | []=>[]
 | (t,x)::r=>match x.cs with
  | .aB _=>match aF ρ t with
   | some _=>t::qJ ρ r
   | none=>qJ ρ r
  | _=>t::qJ ρ r
def Wo (ρ:List (Nat×Nat))(st:St):List (Nat×SV)->List Prop
 | []=>[]
 | (t,x)::r=>match st.ay t with
  | some y=>ZB ρ y x++Wo ρ st r
  | none=>[False]
def PQ (ρ:List (Nat×Nat))(st:St):List (Nat×aX)->List Prop
 | []=>[]
 | (t,x)::r=>match x.cs,aF ρ t with
  | .aB l,none=>(l=[])::PQ ρ st r
  | _,_=>match st.boxes (Ks ρ t) with
   | some y=>SD ρ y x++PQ ρ st r
   | none=>[False]
def fitR (ρ:List (Nat×Nat))(bs:List (Nat×aX)):List Prop:=cond (Ga ρ (qJ ρ bs)) [] [False]
def qQ (ss:List (Nat×SV))(bs:List (Nat×aX)):Bool:=
 let l:=bs.map (·.1)
 (ss.all λx=>x.2.ids.all λs=>iZ s l)&&(bs.all λx=>x.2.cs.ids.all λs=>iZ s l)
def Y_.st (A:Y_)(x:A.τ):St:=⟨aF (A.ay x),aF (A.boxes x)⟩
def Zm:List Prop->Prop
 | []=>True
 | [p]=>p
 | p::r=>p/\Zm r
def Y_.fits (A:Y_)(st:St)(x:A.τ)(k:Prop):Prop:=
 let ρ:=Uq st (A.ay x) (A.boxes x)
 Zm (Wo ρ st (A.ay x)++PQ ρ st (A.boxes x)++fitR ρ (A.boxes x))/\k
def ē:Code->Nat
 | .region id _ _=>id
 | .seq a _=>ē a
 | .cond _ a b=>match ē a with
  | 1000000=>ē b
  | n=>n
 | .block _ a=>ē a
 | .loop a=>ē a
 | .scope a=>ē a
 | _=>1000000
abbrev IA:=List (Nat×Tm)
def uF:IA->Nat->Option Tm
 | [],_=>none
 | (s,x)::r,t=>cond (Nat.beq t s) (some x) (uF r t)
def YS (RF:List Nat)(id:Nat):List Nat:=RF.filterMap λx=>cond (Nat.beq (x/100000) (100+id)) (some (x%100000)) none
def O3 (l:List Nat)(st:St)(V:Ó)(K:St->Ó->Prop):Prop:=
 match l with
 | []=>K st V
 | s::r=>match jG st.boxes (s::r)&&(s::r).all λt=>Nat.blt t 100000 with
  | false=>False
  | true=>∀V':Ó,V.Le V'->nf (s::r) (λ_=>0) λβ=>tX st.boxes β V' (s::r) (∀J:C->Value,K (st.rel (s::r) β J) V')
def KM (P:Program)(T:eu)(LF RF:List Nat)(ops:Array Oper)(draw:Bool)(st:St)(V:Ó)(K:St->Ó->Prop):Prop:=
 match draw with
 | false=>U0 P T (modeN LF RF ops) (λ_=>.free) ops (List.range ops.size) st V K
 | true=>let hs:=ops.toList.map (SX LF RF st ops.toList)
  match Ow LF RF ops hs (ue LF RF ops) with
  | true=>U0 P T (mP LF RF ops) (λi=>hs.getD i .free) ops (ue LF RF ops) st V K
  | false=>False
def unr (F:St->Ó->(Exit->St->Ó->Prop)->Prop):Nat->St->Ó->(Exit->St->Ó->Prop)->Prop
 | 0,_,_,_=>False
 | n+1,st,V,K=>F st V λe st' V'=>match e with
  | .normal=>unr F n st' V' K
  | e=>K e st' V'
def vc (P:Program)(T:eu)(LF RF:List Nat)(L J:IA):Code->St->Ó->(Exit->St->Ó->Prop)->Prop
 | .skip,st,V,K=>K .normal st V
 | .region id ops draw,st,V,K=>match uF J (600000+id) with
  | none=>O3 (YS RF id) st V λst' V'=>KM P T LF RF ops draw st' V' (K .normal)
  | some A=>∃I:A.τ->Ó->Prop,O3 (YS RF id) st V (λst' V'=>KM P T LF RF ops draw st' V' λUL fF=>∃x,(A.at st).fits UL x (I x fF)) /\
   ∀x V',V.Le V'->I x V'->(qQ ((A.at st).ay x) ((A.at st).boxes x)=true/\K .normal ((A.at st).st x) V')
 | .seq a b,st,V,K=>vc P T LF RF L J a st V λe st' V'=>match e with
  | .normal=>vc P T LF RF L J b st' V' K
  | e=>K e st' V'
 | .cond c a b,st,V,K=>match uF J (ē (.cond c a b)) with
  | none=>match st.bG c with
   | some (.c .tt)=>vc P T LF RF L J a st V K
   | some (.c .ff)=>vc P T LF RF L J b st V K
   | some (.c (.v (.bool t)))=>(t=true->vc P T LF RF L J a st V K)/\(t=false->vc P T LF RF L J b st V K)
   | _=>False
  | some A=>match st.bG c with
   | some (.c .tt)=>vc P T LF RF L J a st V K
   | some (.c .ff)=>vc P T LF RF L J b st V K
   | some (.c (.v (.bool t)))=>∃I:A.τ->Ó->Prop,
    ((t=true->vc P T LF RF L J a st V λe st' V'=>match e with
     | .normal=>∃x,(A.at st).fits st' x (I x V')
     | e=>K e st' V') /\
      (t=false->vc P T LF RF L J b st V λe st' V'=>match e with
     | .normal=>∃x,(A.at st).fits st' x (I x V')
     | e=>K e st' V')) /\
    ∀x V',V.Le V'->I x V'->(qQ ((A.at st).ay x) ((A.at st).boxes x)=true/\K .normal ((A.at st).st x) V')
   | _=>False
 | .block id a,st,V,K=>match uF J (500000+id) with
  | none=>vc P T LF RF L J a st V λe st' V'=>match e with
   | .exit i=>cond (Nat.beq i id) (K .normal st' V') (K (.exit i) st' V')
   | e=>K e st' V'
  | some A=>∃I:A.τ->Ó->Prop,vc P T LF RF L J a st V (λe st' V'=>match e with
   | .exit i=>cond (Nat.beq i id) (∃x,(A.at st).fits st' x (I x V')) (K (.exit i) st' V')
   | .normal=>∃x,(A.at st).fits st' x (I x V')
   | e=>K e st' V')/\∀x V',V.Le V'->I x V'->(qQ ((A.at st).ay x) ((A.at st).boxes x)=true/\K .normal ((A.at st).st x) V')
 | .loop a,st,V,K=>match uF L (ē a) with
  | none=>unr (λst V K=>vc P T LF RF L J a st V K) 3 st V K
  | some A=>match A.gh with
   | false=>∃(I:A.τ->Ó->Prop)(m:A.τ->Nat),(∃x,(A.at st).fits st x (I x V))/\∀x V',V.Le V'->I x V'->(qQ ((A.at st).ay x) ((A.at st).boxes x)=true /\
    vc P T LF RF L J a ((A.at st).st x) V' λe st' fF=>match e with
     | .normal=>∃y,m y<m x/\(A.at st).fits st' y (I y fF)
     | e=>K e st' fF)
   | true=>∃I:A.τ->Nat->Ó->Prop,(∃x k,(A.at st).fits st x (I x k V))/\∀x k V',V.Le V'->I x k V'->(qQ ((A.at st).ay x) ((A.at st).boxes x)=true /\
    vc P T LF RF L J a ((A.at st).st x) V' λe st' fF=>match e with
     | .normal=>∃y k',k'<k/\(A.at st).fits st' y (I y k' fF)
     | e=>K e st' fF)
 | .exit id,st,V,K=>K (.exit id) st V
 | .ret,st,V,K=>K .ret st V
 | .scope a,st,V,K=>vc P T LF RF L J a st V λe st' V'=>match e with
  | .goto _=>False
  | e=>K e st' V'
 | .label _,st,V,K=>K .normal st V
 | _,_,_,_=>False
def oY (T:eu)(st:St):List ResultVar->Option (List SV)
 | []=>some []
 | .tmp t::r=>match st.ay t,oY T st r with
  | some x,some l=>some (x::l)
  | _,_=>none
 | .cell a t::r=>match st.ay a,aF T t,oY T st r with
  | some (.c (.ptr s o)),some i,some l=>match lJ st.boxes i (.c (.ptr s o)) with
   | .ret _ x=>some (x::l)
   | _=>none
  | _,_,_=>none
def ü (l m:List Nat):List Nat:=l.filter λx=>!(iZ x m)
def RX (bx:Nat->Option aX)(β:Nat->Nat)(V:Ó):List Nat->Prop->Prop
 | [],k=>k
 | s::r,k=>match bx s with
  | some ⟨.aB _,_⟩=>False
  | some b=>V.w.heap[β s]?=some (b.obj β)->RX bx β V r k
  | none=>False
def lZ:List (Nat×aX)->List Nat
 | []=>[]
 | (s,b)::r=>match b.cs with
  | .aB _=>lZ r
  | _=>s::lZ r
def TE (bs:List (Nat×aX))(β0:Nat->Nat)(b:Nat)(k:Prop):Prop:=
 match bs with
 | []=>k
 | (m,x)::r=>match x.cs with
  | .aB vs=>(vs≠[]/\b=β0 m)\/TE r β0 b k
  | _=>TE r β0 b k
def oX (β:Nat->Nat):List SV->Value
 | [x]=>x.den β
 | l=>.tuple (l.map (SV.den β)).toArray
def yT (T:eu)(bx:Nat->Option aX)(s:Nat):Bool:=
 cond (Nat.ble 100000 s) true (match bx s with|some ⟨.row _,ty⟩|some ⟨.aB _,ty⟩=>Nat.ble 2 (T.filter λx=>Nat.beq x.1 ty).length|some ⟨.lit _,ty⟩=>Nat.ble 3 (T.filter λx=>Nat.beq x.1 ty).length|_=>false)
def OH (T:eu)(rs:List ResultVar)(bs:List (Nat×aX))(β0:Nat->Nat)(n0:Nat)(R:Value->Ó->Prop)(st:St)(V:Ó):Prop:=
 match oY T st rs with
 | none=>False
 | some xs=>let F:=lZ bs
  let L:=ì st.boxes 3 (ð (xs.flatMap SV.ids++F))
  match jG st.boxes L with
  | false=>False
  | true=>match (ü L F).filter (yT T st.boxes) with
   | []=>∀V':Ó,V.Le V'->nf (ü L F) β0 λβ=>RX st.boxes β V' F (tX st.boxes β V' (ü L F) (R (oX β xs) V'))
   | [s]=>match st.boxes s with
    | some b=>∀V':Ó,nf (ü L F) β0 λβ=>V.Le (V'.aW (gdP b) (β s))->RX st.boxes β V' F (vj (Re b) (V'.w.heap[β s]?=some (b.obj β)) ->
      vj (Re b) (n0<=β s\/TE bs β0 (β s) False)->tX st.boxes β V' ((ü L F).filter (!Nat.beq s ·)) (R (oX β xs) V'))
    | none=>False
   | _=>False
def vcFn (P:Program)(T:eu)(LF RF:List Nat)(L J:IA)(code:Code)(rs:List ResultVar)(ss:List (Nat×SV))(bs:List (Nat×aX))(β0:Nat->Nat)(V:Ó)(R:Value->Ó->Prop):Prop:=
 vc P T LF RF L J code ⟨aF ss,aF bs⟩ V λe st V'=>match e with
  | .normal=>OH T rs bs β0 V.w.heap.size R st V'
  | .ret=>OH T rs bs β0 V.w.heap.size R st V'
  | _=>False
def j9 (n:Nat):Code->Bool
 | .region _ ops _=>ops.toList.all λo=>match o.dst with|some d=>Nat.blt d n|none=>true
 | .seq a b=>j9 n a&&j9 n b
 | .cond _ a b=>j9 n a&&j9 n b
 | .block _ a=>j9 n a
 | .loop a=>j9 n a
 | .scope a=>j9 n a
 | _=>true
def rO:Nat->List (Nat×SV)->Bool
 | _,[]=>true
 | i,(j,x)::r=>Nat.beq i j&&x.plain&&rO (i+1) r
def H3 (P:Program)(T:eu)(LF RF:List Nat)(L J:IA)(fn:Func)(ss:List (Nat×SV))(bs:List (Nat×aX))(β0:Nat->Nat)(V:Ó)(R:Value->Ó->Prop):Prop:=
 match fn.body with
 | some code=>match j9 fn.ntmps code&&rO 0 ss&&Nat.ble ss.length fn.ntmps&&Nat.ble fn.ntmps 100000&&(bs.all λb=>Nat.ble 100000 b.1&&Nat.blt b.1 200000)&&qQ ss bs with
  | true=>vcFn P T LF RF L J code fn.results.toList ss bs β0 V R
  | false=>False
 | none=>False
theorem Ó.Le.refl (V:ut):V.Le V:=λ_ _ h=>h
def Ó.Le.m {V V' fF:ut}(h:V.Le V')(k:V'.Le fF):V.Le fF:=λb o x=>k b o (h b o x)
def Ó.Le.at {V V':ut}(h:V.Le V'){p:Addr}{v:un}(k:V.at p v):V'.at p v:=by obtain ⟨b,a⟩:=k;unfold World.cell? at a;split at a;{rename_i c;have ⟨d,e⟩:=h p.block _ ⟨b,c⟩;refine ⟨d,?_⟩<;>grind [World.cell?]};{cases a}
theorem kq.refl (X:Nat->Prop)(w:World):kq X w w:=⟨Ù _,λ_ _ _=>rfl,rfl,rfl,rfl,Ù _⟩
def kq.m {X:Nat->Prop}{a b c:World}(h:kq X a b)(k:kq X b c):kq X a c:=
 ⟨ā h.size k.size,λi d e=>(k.bg i (ĳ d h.size) e).m (h.bg i d e),k.os.m h.os,k.tape.m h.tape,k.out.m h.out,ā h.dr k.dr⟩
def kq.s {X Y:Nat->Prop}{a b:World}(h:kq X a b)(hxy:∀i,X i->Y i):kq Y a b:=
 ⟨h.size,λi c d=>h.bg i c λe=>d (hxy i e),h.os,h.tape,h.out,h.dr⟩
def Ó.Tt (V:ut)(w':World)(hx:kq V.X V.w w'):V.Le (V.to w' hx.size):=by rintro b o ⟨a,d⟩;refine ⟨a,?_⟩;have c:b<V.w.heap.size:=χ;show w'.heap[b]?=some o;grind [hx.bg,V.hX]
def aa.s {P:Program}{f:FuncId}{args:Array un}{V:ut}{R R':un->ut->Prop}(h:aa P f args V R)(hR:∀r V',V.Le V'->R r V'->R' r V'):aa P f args V R':=
 ⟨h.1,h.2.s λ_ b ⟨r,he,a,c⟩=>⟨r,he,a,hR r _ (V.Tt b a) c⟩⟩
structure Lt where
 ids:List Nat
 B:Nat->Prop
section
variable (n:Nat) (V0:Ó) (bQ:Lt) (β0:Nat->Nat)
structure Ü (st:St) (β:Nat->Nat) (a:Act) (w:World) (V:Ó):Prop where
 defers:a.defers=[]
 size:a.tmps.size=n
 ay:∀t x,st.ay t=some x->a.tmps.getD t undef=x.den β
 DX:∀t x,st.ay t=some x->∀s∈x.ids,∃b,st.boxes s=some b
 DW:∀s b,st.boxes s=some b->∀s'∈b.cs.ids,∃b',st.boxes s'=some b'
 boxes:∀s b,st.boxes s=some b->b.live->w.heap[β s]?=some (b.obj β)
 inj:∀s s' b b',st.boxes s=some b->b.live->st.boxes s'=some b'->b'.live->β s=β s'->s=s'
 rS:∀b o,V.bg b o->w.heap[b]?=some o/\¬V0.H b
 zy:∀s b,st.boxes s=some b->b.live->∀o,¬V.bg (β s) o
 ext:kq V0.X V0.w w
 own:∀s b,st.boxes s=some b->b.live->V0.w.heap.size<=β s\/(100000<=s/\bQ.B (β s))
 n_:∀s∈bQ.ids,(100000<=s/\s<200000)/\β s=β0 s
 mJ:∀b,bQ.B b->V0.X b
 small:n<=100000
end
theorem dP {cs:pz C}{ty:TypeId}:aX.live ⟨.lit cs,ty⟩:=λ_ h=>nomatch h
theorem dQ {vs:pz un}{ty:TypeId}:aX.live ⟨.row vs,ty⟩:=λ_ h=>nomatch h
theorem gE {vs:pz un}{ty:TypeId}(h:vs≠[]):aX.live ⟨.aB vs,ty⟩:=λ_ e=>by cases e;exact h
theorem fS {ty:TypeId}:¬aX.live ⟨.aB [],ty⟩:=λh=>h [] rfl rfl
theorem kH {b:aX}{k:Prop}:vj (Re b) k↔(b.live->k):=by obtain ⟨cs,ty⟩:=b;(cases cs with|lit cs=>exact ⟨λh _=>h,λh=>h dP⟩|row cs=>exact ⟨λh _=>h,λh=>h dQ⟩|aB vs=>exact ⟨λh l=>h (l vs rfl),λh l=>h (gE l)⟩)
theorem yD {l m:pz Prop}{k:Prop}:vj (l++m) k↔vj l (vj m k):=by
 induction l with
 | nil=>exact Wv0
 | cons p r ih=>exact ⟨λh a=>ih.1 (h a),λh a=>ih.2 (h a)⟩
def Ww {b:aX}:gdP b↔b.live:=by obtain ⟨cs,ty⟩:=b;(cases cs with|lit cs=>exact ⟨λ_=>dP,λ_=>trivial⟩|row cs=>exact ⟨λ_=>dQ,λ_=>trivial⟩|aB vs=>exact ⟨λh=>gE h,λl=>l vs rfl⟩)
theorem C.b_ {β β':Nat->Nat}{c:C}(h:∀s∈c.ids,β s=β' s):c.den β=c.den β':=by
 cases c with
 | v x=>rfl
 | w x=>rfl
 | tt=>rfl
 | ff=>rfl
 | ptr s o=>simp [C.den,h s (by simp [C.ids])]
 | m_ s o n c=>simp [C.den,h s (by simp [C.ids])]
 | eJ s n c=>simp [C.den,h s (by simp [C.ids])]
 | uz f ss=>
  have:(ss.map λs=>Value.pointer (some ⟨β s,0,none⟩))=ss.map λs=>Value.pointer (some ⟨β' s,0,none⟩):=
   Ŗ λs a=>by rw [h s (by simpa [C.ids] using a)]
  simp only [C.den,this]
theorem oI {β β':Nat->Nat}{cs:pz C}(h:∀s∈cs.flatMap C.ids,β s=β' s):cs.map (C.den β)=cs.map (C.den β'):=
 Ŗ λc a=>C.b_ λs b=>h s (Đ.2 ⟨c,a,b⟩)
def Ed {β β':Nat->Nat}{x:md×pz C}(h:∀s∈x.2.flatMap C.ids,β s=β' s):kz β x=kz β' x:=by
 obtain ⟨b,cs⟩:=x
 cases b with
 | true=>simp only [kz];rw [oI h]
 | false=>
  match cs,h with
  | [],_=>rfl
  | [c],h=>simp only [kz];exact C.b_ λs a=>h s (by simpa using a)
  | _::_::_,_=>rfl
theorem SV.b_ {β β':Nat->Nat}{x:SV}(h:∀s∈x.ids,β s=β' s):x.den β=x.den β':=by (cases x with|c x=>exact C.b_ h|agg cs=>{simp only [SV.den];rw [oI h]}|wF xs=>{simp only [SV.den];congr 2;exact Ŗ λx a=>Ed λs b=>h s (Đ.2 ⟨x,a,b⟩)})
theorem ã.b_ {β β':Nat->Nat}{x:ã}(h:∀s∈x.ids,β s=β' s):x.den β=x.den β':=by (cases x with|lit cs=>exact oI h|row vs=>rfl|aB vs=>rfl)
theorem aX.dJ {β β':Nat->Nat}{x:aX}(h:∀s∈x.cs.ids,β s=β' s):x.obj β=x.obj β':=by simp only [aX.obj];rw [ã.b_ h]
variable {P:Program} {T:eu} {n:Nat} {V0:Ó} {bQ:Lt} {β0:Nat->Nat} {st:St} {β:Nat->Nat} {a:Act} {w:World} {V:Ó}
theorem Ü.eval (h:Ü n V0 bQ β0 st β a w V){x:Operand}{v:SV}(hx:st.bG x=some v):a.eval x=v.den β:=by
 cases x with
 | tmp t=>exact h.ay t v hx
 | const c=>
  simp only [St.bG,ý] at hx;subst hx;simp only [Act.eval];unfold SV.ofConst;split
  ·rfl
  ·rfl
  ·rename_i cs;simp only [SV.den];congr 1
   have:∀l:pz un,(l.map C.ofConst).map (C.den β)=l:=by
    intro l
    induction l with
    | nil=>rfl
    | cons y r ih=>
     simp only [Ļ,ih];congr 1;unfold C.ofConst;split<;>rfl
   rw [this]
  ·rfl
 | global g=>simp only [St.bG,ý] at hx;subst hx;rfl
 | func f=>simp only [St.bG,ý] at hx;subst hx;simp [Act.eval,SV.den,C.den]
def Ü.live (h:Ü n V0 bQ β0 st β a w V){x:Operand}{v:SV}(hx:st.bG x=some v):∀s∈v.ids,∃b,st.boxes s=some b:=by (cases x with|const c=>{simp only [St.bG,ý] at hx;subst hx;intro s d;exfalso;have e:∀y,(C.ofConst y).ids=[]:=by{intro y;unfold C.ofConst;split<;>rfl};unfold SV.ofConst at d;grind [SV.ids,C.ids]}|_=>grind [h.DX,St.bG,SV.ids,C.ids])
def beq_eq {a b:Nat}:Nat.beq a b=true↔a=b:=by constructor;{exact Nat.eq_of_beq_eq_true};{intro h;subst h;exact Qb6 a}
theorem eK (st:St)(d:Nat)(x:SV)(t:Nat):(st.put (some d) x).ay t=if t=d then some x else st.ay t:=by grind [St.put,Nat.beq_refl,beq_eq.1]
theorem aj (st:St)(s:Nat)(b:aX)(t:Nat):(st.box s b).boxes t=if t=s then some b else st.boxes t:=by grind [St.box,Nat.beq_refl,beq_eq.1]
def vd (l:Array un)(d t:Nat)(v:un)(hd:d<l.size):(l.setIfInBounds d v).getD t undef=if t=d then v else l.getD t undef:=by by_cases h:t=d;{subst h;simp [hd]};{simp [h,Wv1 h]}
theorem Ü.put (h:Ü n V0 bQ β0 st β a w V){d:Nat}{x:SV}{v:un}(hd:d<n)(hv:v=x.den β)(hl:∀s∈x.ids,∃b,st.boxes s=some b):Ü n V0 bQ β0 (st.put (some d) x) β (a.put (some d) v) w V where
 defers:=h.defers
 size:=by simp [Act.put,h.size]
 ay:=by
  intro t y c;rw [eK] at c;show (a.tmps.setIfInBounds d v).getD t undef=_;rw [vd _ _ _ _ (by rw [h.size];exact hd)];grind [h.ay]
 DX:=by intro t y c;rw [eK] at c;split at c;{simp only [ý] at c;rw [<-c];exact hl};{exact h.DX t y c}
 DW:=h.DW
 boxes:=h.boxes
 inj:=h.inj
 rS:=h.rS
 zy:=h.zy
 ext:=h.ext
 own:=h.own
 n_:=h.n_
 mJ:=h.mJ
 small:=h.small
def Ü.Ki (h:Ü n V0 bQ β0 st β a w V){d:Option Nat}{x:SV}{v:un}(hd:∀k,d=some k->k<n)(hv:v=x.den β)(hl:∀s∈x.ids,∃b,st.boxes s=some b):Ü n V0 bQ β0 (st.put d x) β (a.put d v) w V:=by (cases d with|none=>exact h|some d=>exact h.put (hd d rfl) hv hl)
def Ü.drew (h:Ü n V0 bQ β0 st β a w V):Ü n V0 bQ β0 st β a { w with drawn:=w.drawn+1 } V:=
 ⟨h.defers,h.size,h.ay,h.DX,h.DW,h.boxes,h.inj,h.rS,h.zy,⟨h.ext.size,h.ext.bg,h.ext.os,h.ext.tape,h.ext.out,Nat.le_succ_of_le h.ext.dr⟩,h.own,h.n_,h.mJ,h.small⟩
def aG {w:World}{b:Nat}{o:Obj}(h:w.heap[b]?=some o):b<w.heap.size:=χ
theorem fu (w:World)(o:Obj){b:Nat}(h:b<w.heap.size):(w.alloc o).heap[b]?=w.heap[b]?:=by show (w.heap.push o)[b]?=_;grind
def heap_alloc_new (w:World)(o:Obj):(w.alloc o).heap[w.heap.size]?=some o:=by show (w.heap.push o)[w.heap.size]?=_;rw [Array.getElem?_push,Ä rfl]
theorem a_ (β:Nat->Nat)(s b:Nat):cU β s b s=b:=by simp [cU,Qb6]
theorem iW (β:Nat->Nat){s t:Nat}(b:Nat)(h:t≠s):cU β s b t=β t:=by have:Nat.beq t s=false:=by{grind [beq_eq.1]};simp [cU,this]
def Ü.new (h:Ü n V0 bQ β0 st β a w V){d:Nat}{b:aX}(hd:d<n)(hn:st.boxes d=none)(hl:∀s∈b.cs.ids,∃b',st.boxes s=some b'):Ü n V0 bQ β0 (st.box d b) (cU β d w.heap.size) a (w.alloc (b.obj β)) V:=by have r:∀s b',st.boxes s=some b'->s≠d:=λs b' c e=>by{rw [e,hn] at c;cases c};have hβ:∀s b',st.boxes s=some b'->cU β d w.heap.size s=β s:=λs b' c=>iW _ _ (r s b' c);have f:∀s b',st.boxes s=some b'->b'.live->β s<w.heap.size:=λs b' c l=>aG (h.boxes s b' c l);have A:∀b' o,V.bg b' o->b'<w.heap.size:=λb' o B=>aG (h.rS b' o B).1;refine ⟨h.defers,h.size,?_,?_,?_,?_,?_,?_,?_,?_,?_,?_,h.mJ,?_⟩;{intro t x m;rw [h.ay t x m];exact SV.b_ λs c=>by{have ⟨b',g⟩:=h.DX t x m s c;exact (hβ s b' g).symm}};{intro t x m s c;have ⟨b',g⟩:=h.DX t x m s c;grind [aj]};{grind [aj,h.DW]};{intro s b' c l;rw [aj] at c;split at c;{rename_i e;simp only [ý] at c;rw [e,a_,heap_alloc_new,<-c];grind [aX.dJ]};{rw [hβ s b' c,fu _ _ (f s b' c l),h.boxes s b' c l];grind [aX.dJ,h.DW]}};{intro s u v y j C k D he;rw [aj] at j k;split at j<;>split at k;{rename_i p q;rw [p,q]};{rename_i p q;rw [p,a_,hβ u y k] at he;have:=f u y k D;omega};{rename_i p q;rw [q,a_,hβ s v j] at he;have:=f s v j C;omega};grind [h.inj]};{grind [h.rS,fu]};{intro s b' c l o z;rw [aj] at c;split at c;{rename_i e;rw [e,a_] at z;have:=A _ o z;omega};grind [h.zy]};{exact h.ext.m ⟨ψ,λi E _=>fu _ _ E,rfl,rfl,rfl,Ù _⟩};{intro s b' c l;rw [aj] at c;split at c;{rename_i e;rw [e,a_];exact .inl h.ext.size};{rw [hβ s b' c];exact h.own s b' c l}};{intro s c;have ⟨j,k⟩:=h.n_ s c;grind [iW,h.small]};{exact h.small}
def Ü.void (h:Ü n V0 bQ β0 st β a w V){s:Nat}{ty:TypeId}:Ü n V0 bQ β0 (st.box s ⟨.aB [],ty⟩) β a w V:=by have hw:∀t b,st.boxes t=some b->∃b'',(st.box s ⟨.aB [],ty⟩).boxes t=some b'':=by{grind [aj]};have e:∀t b,(st.box s ⟨.aB [],ty⟩).boxes t=some b->b.live->st.boxes t=some b:=by{grind [aj,fS]};refine ⟨h.defers,h.size,h.ay,?_,?_,λt b c l=>h.boxes t b (e t b c l) l,λt k m o p i q j=>h.inj t k m o (e _ _ p i) i (e _ _ q j) j,h.rS,λt b c l=>h.zy t b (e t b c l) l,h.ext,λt b c l=>h.own t b (e t b c l) l,h.n_,h.mJ,h.small⟩;{intro t x r f d;have ⟨b,g⟩:=h.DX t x r f d;exact hw f b g};{intro t b c f d;have:∃b'',st.boxes f=some b'':=by{rw [aj] at c;split at c;{cases c;cases d};grind [h.DW]};grind}
def Ü.zN (h:Ü n V0 bQ β0 st β a w V){s:Nat}{b b':aX}(hs:st.boxes s=some b)(lb:b.live)(hl:∀s'∈b'.cs.ids,∃b'',st.boxes s'=some b''){w':World}(hw:w'.heap=w.heap.setIfInBounds (β s) (b'.obj β))(ho:w'.os=w.os)(ht:w'.tape=w.tape)(hout:w'.output=w.output)(hdr:w.drawn<=w'.drawn:=by first|exact Ù _|exact Ww2 _):Ü n V0 bQ β0 (st.box s b') β a w' V:=by have l:=aG (h.boxes s b hs lb);have o:∀i,w'.heap[i]?=if i=β s then some (b'.obj β) else w.heap[i]?:=χ;refine ⟨h.defers,h.size,h.ay,?_,?_,?_,?_,?_,?_,?_,?_,h.n_,h.mJ,h.small⟩;{intro t x m s' g;have ⟨d,c⟩:=h.DX t x m s' g;grind [aj]};{grind [aj,h.DW]};{grind [aj,h.inj,h.boxes]};{intro t p d j q k r u he;have f:∀t d,(st.box s b').boxes t=some d->d.live->∃j,st.boxes t=some j/\j.live:=by{grind [aj]};grind [h.inj]};{grind [h.rS,h.zy]};{grind [aj,h.zy]};{refine ⟨by rw [hw];simpa using h.ext.size,λi v y=>?_,ho.m h.ext.os,ht.m h.ext.tape,hout.m h.ext.out,ā h.ext.dr hdr⟩<;>grind [h.own,h.mJ,h.ext.bg]};{intro t d c k;rw [aj] at c;split at c;{rename_i e;rw [e];exact h.own s b hs lb};{exact h.own t d c k}}
end
section
variable {P:Program} {T:eu} {n:Nat} {V0:Ó} {bQ:Lt} {β0:Nat->Nat} {st:St} {β:Nat->Nat} {a:Act} {w:World} {V:Ó}
theorem fG:∀(sc:pz Prop)(k:Prop),Gw sc k↔(∀p∈sc,p)/\k
 | [],k=>by simp [Gw]
 | p::r,k=>by
  simp only [Gw,fG r k,å];constructor
  ·grind
  ·rintro ⟨h1,h2⟩;exact ⟨h1 p (.inl rfl),λq hq=>h1 q (.inr hq),h2⟩
def aK {t:TypeId}{i:TI}(h:oO P t=some i):∃info d z,P.info? t=some info/\P.underlying t=some d/\info.zero=some z/\i.k=mU d/\i.size=info.size/\i.bytes=info.bytes/\i.zero=z.cells.toList.map C.ofConst:=by unfold oO at h;grind
theorem Jp (β:Nat->Nat)(y:un):(C.ofConst y).den β=y:=by unfold C.ofConst;split<;>rfl
def JT (β:Nat->Nat)(l:pz un):(l.map C.ofConst).map (C.den β)=l:=by induction l<;>grind [Jp]
def JD (y:un):(C.ofConst y).ids=[]:=by unfold C.ofConst;split<;>rfl
def Hi (l:pz un):(l.map C.ofConst).flatMap C.ids=[]:=by
 induction l with
 | nil=>rfl
 | cons y r ih=>simp [JD]
def ai {t:TypeId}{d:TypeDesc}(h:P.underlying t=some d)(w:World):(underlying t).run P w=.ok d w:=by simp [underlying,h]
def mR {t:TypeId}{i:TypeInfo}(h:P.info? t=some i)(w:World):(typeInfo t).run P w=.ok i w:=by simp [typeInfo,h]
def aT {t:TypeId}{i:TypeInfo}(h:P.info? t=some i)(w:World):(sizeOf t).run P w=.ok i.size w:=by simp [sizeOf,mR h]
def kU {t:TypeId}{i:TypeInfo}{z:un}(h:P.info? t=some i)(hz:i.zero=some z)(w:World):(zeroValue t).run P w=.ok z w:=by simp [zeroValue,mR h,hz]
def wI:TK->Bool
 | .struct _|.arr _ _=>true
 | _=>false
def jw {t:TypeId}{d:TypeDesc}(h:P.underlying t=some d)(w:World):(isAgg t).run P w=.ok (wI (mU d)) w:=by simp only [isAgg,Sem.run_bind,ai h,Result.andThen_ok];cases d<;>rfl
def Č (st:St)(x:SV):Prop:=∀s∈x.ids,∃b,st.boxes s=some b
theorem FW {k k':IntKind}(h:BZ k k'=true):k=k':=by cases k<;>cases k'<;>simp_all [BZ]
theorem Mr {op:BinOp}{k:IntKind}{x y:Int}{sc:pz Prop}{v:SV}{xt:TypeId}(h:qu op k x y=.ret sc v)(hsc:∀p∈sc,p):(binOp op xt (.int k x) (.int k y)).run P w=.ok (v.den β) w/\v.ids=[]:=by
 cases op<;>simp only [qu,Q.ret.injEq] at h<;>obtain ⟨rfl,rfl⟩:=h <;>
  simp only [å,Ě,Ì,forall_eq,false_imp_iff,implies_true] at hsc <;>
  refine ⟨?_,rfl⟩ <;>
  simp [binOp,Op.intArith,Op.intDiv,Op.intBits,Op.intCmp,Op.shift,SV.den,C.den,cg,hsc]
 all_goals (try (intro h;omega))
theorem QO {op:BinOp}{k k':IntKind}{x y:Int}{sc:pz Prop}{v:SV}{xt:TypeId}(hop:op=.shl\/op=.shr)(h:qu op k x y=.ret sc v)(hsc:∀p∈sc,p):(binOp op xt (.int k x) (.int k' y)).run P w=.ok (v.den β) w/\v.ids=[]:=by
 rcases hop with rfl|rfl<;>simp only [qu,Q.ret.injEq] at h<;>obtain ⟨rfl,rfl⟩:=h <;>
  simp only [å,Ě,Ì,forall_eq] at hsc <;>
  refine ⟨?_,rfl⟩ <;>
  simp [binOp,Op.shift,SV.den,C.den]<;>(intro h;omega)
section eqs
variable {t:TypeId} (d:Nat)
def PN (h:P.underlying t=some .bool)(x y:md):(Op.equalIn (d+1) t (.bool x) (.bool y)).run P w=.ok (x==y) w:=by simp [Op.equalIn,ai h]
def FJ {e:TypeId}(h:P.underlying t=some (.pointer e))(p:OA):(Op.equalIn (d+1) t (.pointer p) (.pointer none)).run P w=.ok p.isNone w:=by cases p<;>simp [Op.equalIn,ai h]
def tK {e:TypeId}(h:P.underlying t=some (.slice e))(p:OA)(n c m k:Nat):(Op.equalIn (d+1) t (.slice p n c) (.slice none m k)).run P w=.ok p.isNone w:=by cases p<;>simp [Op.equalIn,ai h]
def BH {ms:Array (String×TypeId)}(h:P.underlying t=some (.interface ms)){x:un}(hx:ø x):(Op.equalIn (d+1) t x .nilIface).run P w=.ok (eG x) w:=by rcases hx with rfl|⟨u,v,rfl⟩<;>simp [Op.equalIn,ai h,eG]
end eqs
def mF {t:TypeId}{x y:un}{r:md}(h:∀d,(Op.equalIn (d+1) t x y).run P w=.ok r w):(Op.equal t x y).run P w=.ok r w:=h 9999
def IQ {op:BinOp}{xt:TypeId}{x y:md}(ht:P.underlying xt=some .bool)(hop:op=.eql\/op=.neq):(binOp op xt (.bool x) (.bool y)).run P w=.ok (.bool (if op=.eql then x==y else !(x==y))) w:=by have:=mF (w:=w) λd=>PN d ht x y;rcases hop with rfl|rfl<;>simp only [binOp,Sem.run_bind,this,Result.andThen_ok,Sem.run_pure]<;>rfl
def Fh {c:C}{b:md}(h:c.bool?=some b):c.den β=.bool b/\c.ids=[]:=by (cases c with|v x=>{cases x<;>simp_all [C.bool?,C.den,C.ids]}|_=>simp_all [C.bool?,C.den,C.ids])
def Jr {d:TypeDesc}{k:IntKind}(h:mU d=.int k):d=.int k:=by cases d<;>simp_all [mU]
def G6 {d:TypeDesc}(h:mU d=.bool):d=.bool:=by cases d<;>simp_all [mU]
def Js {d:TypeDesc}{e:TypeId}(h:mU d=.ptr e):d=.pointer e:=by cases d<;>simp_all [mU]
def bh {d:TypeDesc}{e:TypeId}(h:mU d=.slice e):d=.slice e:=by cases d<;>simp_all [mU]
def Ee {d:TypeDesc}(h:mU d=.iface):∃ms,d=.interface ms:=by cases d<;>simp_all [mU]
def lj {d:TypeDesc}{fs:pz (TypeId×Nat)}(h:mU d=.struct fs):∃gs,d=.struct gs/\fs=gs.toList.map λf=>(f.type,f.offset):=by cases d<;>simp_all [mU]
def qi {d:TypeDesc}{m:Nat}{e:TypeId}(h:mU d=.arr m e):d=.array m e:=by cases d<;>simp_all [mU]
def kW {t:TypeId}{x y:un}{r:md}(neg:md)(h:(Op.equal t x y).run P w=.ok r w)(hx:(∃p,x=.pointer p/\y=.pointer none)\/(∃p n c m k,x=.slice p n c/\y=.slice none m k)\/(ø x/\y=.nilIface)):(binOp (if neg then .neq else .eql) t x y).run P w=.ok (.bool (if neg then !r else r)) w:=by rcases hx with ⟨p,rfl,rfl⟩|⟨p,n,c,m,k,rfl,rfl⟩|⟨hx,rfl⟩;{cases p<;>cases neg<;>simp only [ň,Ð,Ï,binOp,Sem.run_bind,h,Result.andThen_ok,Sem.run_pure]};{cases neg<;>simp only [ň,Ð,Ï,binOp,Sem.run_bind,h,Result.andThen_ok,Sem.run_pure]};{rcases hx with rfl|⟨u,v,rfl⟩<;>cases neg<;>simp only [ň,Ð,Ï,binOp,Sem.run_bind,h,Result.andThen_ok,Sem.run_pure]}
def tL {op:BinOp}{t:TypeId}{x y:Operand}{u v:un}(h:(∃p,u=.pointer p)\/(∃p n c,u=.slice p n c)\/(∃k n,u=.int k n)\/(∃b,u=.bool b)\/∃c,y=.const c)(hn:v=.nilIface->∃c,y=.const c)(hu:∀cs,u≠.agg cs):(eqGuard op t x y u v).run P w=.ok () w:=by
 have key:∀(m:Sem Unit),m=(match (generalizing:=false) u,v with
   | .nilIface,.nilIface=>do
    if (match (generalizing:=false) x with|.const _=>true|_=>false)||(match (generalizing:=false) y with|.const _=>true|_=>false) then return
    if <- Op.eqGuardIn Op.maxDepth t u v then unsupported (.noEntry "binop/eql: two nil values of an interface type with methods, neither of them the literal nil")
   | .agg _,.agg _=>do
    if !(<-program).eqGuardType (<-program).depth t then return
    if <- Op.eqGuardIn Op.maxDepth t u v then unsupported (.noEntry "binop/eql: two nil values of an interface type with methods, in a part of a struct or an array")
   | _,_=>pure ())->m.run P w=.ok () w:=by
  intro m hm;rw [hm];clear hm;revert hn hu;split
  ·intro hn _;obtain ⟨c,rfl⟩:=hn rfl;simp
  ·rename_i cs _;intro _ hu;exact Å rfl (hu cs)
  ·intro _ _;rfl
 cases op<;>first|rfl|exact key _ rfl
def Uh {xt:TypeId}{i:TI}(hi:oO P xt=some i){x y:C}(neg:md){sc:pz Prop}{v:SV}(h:HE neg i.k x y=.ret sc v)(hsc:∀p∈sc,p):(binOp (if neg then .neq else .eql) xt (x.den β) (y.den β)).run P w=.ok (v.den β) w/\v.ids=[]/\((∃p,x.den β=.pointer p)\/(∃p n c,x.den β=.slice p n c)\/y.den β=.nilIface)/\(y.den β=.nilIface->y=.v .nilIface)/\(∀cs,x.den β≠.agg cs):=by obtain ⟨info,d,z,j,b,l,g,-⟩:=aK hi;unfold HE at h;split at h;{rename_i e a;rw [g] at a;obtain rfl:=Js a;split at h;{split at h;{simp only [Q.ret.injEq] at h;obtain ⟨rfl,rfl⟩:=h;refine ⟨?_,by cases neg<;>rfl,.inl ⟨_,rfl⟩,by simp [C.den],by simp [C.den]⟩;rename_i s o;have:=kW (w:=w) neg (mF λd=>FJ d b (some ⟨β s,o,none⟩)) (.inl ⟨_,rfl,rfl⟩);cases neg<;>exact this};{simp only [Q.ret.injEq] at h;obtain ⟨rfl,rfl⟩:=h;refine ⟨?_,rfl,.inl ⟨_,rfl⟩,by simp [C.den],by simp [C.den]⟩;exact kW (w:=w) neg (mF λd=>FJ d b _) (.inl ⟨_,rfl,rfl⟩)};{cases h}};{cases h}};{rename_i e a;rw [g] at a;obtain rfl:=bh a;split at h;{split at h;{simp only [Q.ret.injEq] at h;obtain ⟨rfl,rfl⟩:=h;refine ⟨?_,by cases neg<;>rfl,.inr (.inl ⟨_,_,_,rfl⟩),by simp [C.den],by simp [C.den]⟩;rename_i m k _ s o n c;have:=kW (w:=w) neg (mF λd=>tK d b (some ⟨β s,o,none⟩) n c m k) (.inr (.inl ⟨_,_,_,_,_,rfl,rfl⟩));cases neg<;>exact this};{simp only [Q.ret.injEq] at h;obtain ⟨rfl,rfl⟩:=h;refine ⟨?_,rfl,.inr (.inl ⟨_,_,_,rfl⟩),by simp [C.den],by simp [C.den]⟩;rename_i m k _ s n c;have:=kW (w:=w) neg (mF λd=>tK d b (mA (β s) c) n c m k) (.inr (.inl ⟨_,_,_,_,_,rfl,rfl⟩));have e:(mA (β s) c).isNone=Nat.beq c 0:=by{cases c<;>rfl};rw [e] at this;exact this};{simp only [Q.ret.injEq] at h;obtain ⟨rfl,rfl⟩:=h;refine ⟨?_,rfl,.inr (.inl ⟨_,_,_,rfl⟩),by simp [C.den],by simp [C.den]⟩;exact kW (w:=w) neg (mF λd=>tK d b _ _ _ _ _) (.inr (.inl ⟨_,_,_,_,_,rfl,rfl⟩))};{cases h}};{cases h}};{rename_i a;rw [g] at a;obtain ⟨ms,rfl⟩:=Ee a;split at h;{split at h;{simp only [Q.ret.injEq] at h;obtain ⟨rfl,rfl⟩:=h;have f:=hsc _ (ö.2 rfl);refine ⟨?_,rfl,.inr (.inr rfl),λ_=>rfl,?_⟩;{exact kW (w:=w) neg (mF λd=>BH d b f) (.inr (.inr ⟨f,rfl⟩))};{intro cs e;rcases f with f|⟨u,v,f⟩<;>· simp only [C.den] at e;rw [f] at e;cases e}};{simp only [Q.ret.injEq] at h;obtain ⟨rfl,rfl⟩:=h;refine ⟨?_,by cases neg<;>rfl,.inr (.inr rfl),λ_=>rfl,by simp [C.den]⟩;have:=kW (w:=w) neg (mF λd=>BH d b (x:=.nilIface) (.inl rfl)) (.inr (.inr ⟨.inl rfl,rfl⟩));cases neg<;>exact this};{cases h}};{cases h}};{cases h}
def Uf (hT:eu.ok P T){op:BinOp}{xt:TypeId}{x y:C}{ox oy:Operand}{sc:pz Prop}{v:SV}(h:HC T op xt x y=.ret sc v)(hsc:∀p∈sc,p)(hy:y=.v .nilIface->∃c,oy=.const c):(do eqGuard op xt ox oy (x.den β) (y.den β);binOp op xt (x.den β) (y.den β)).run P w=.ok (v.den β) w/\v.ids=[]:=by
 unfold HC at h;split at h
 ·rename_i i f;have f:=hT _ _ f;obtain ⟨info,d,z,u,j,A,o,-⟩:=aK f;split at h
  ·split at h
   ·rename_i k a l b
    have g:(eqGuard op xt ox oy (C.den β (.v (.int k a))) (C.den β (.v (.int l b)))).run P w=.ok () w:=
     tL (.inr (.inr (.inl ⟨_,_,rfl⟩))) (by simp [C.den]) (by simp [C.den])
    have key:(binOp op xt (.int k a) (.int l b)).run P w=.ok (v.den β) w/\v.ids=[]:=by grind [QO,FW,Mr]
    simp only [Sem.run_bind,g,Result.andThen_ok];exact key
   ·cases h
  ·rename_i m;rw [o] at m;obtain rfl:=G6 m;split at h;{rename_i a b q r;have n:=Fh (β:=β) q;have hy:=Fh (β:=β) r;have g:(eqGuard op xt ox oy (x.den β) (y.den β)).run P w=.ok () w:=by{rw [n.1,hy.1];exact tL (.inr (.inr (.inr (.inl ⟨_,rfl⟩)))) ψ ψ};simp only [Sem.run_bind,g,Result.andThen_ok];rw [n.1,hy.1];split at h;{simp only [Q.ret.injEq] at h;obtain ⟨rfl,rfl⟩:=h;exact ⟨IQ j (.inl rfl),rfl⟩};{simp only [Q.ret.injEq] at h;obtain ⟨rfl,rfl⟩:=h;exact ⟨IQ j (.inr rfl),rfl⟩};{cases h}};{cases h}
  ·have key:∀neg:md,HE neg i.k x y=.ret sc v->(do eqGuard (if neg then .neq else .eql) xt ox oy (x.den β) (y.den β);binOp (if neg then .neq else .eql) xt (x.den β) (y.den β)).run P w=.ok (v.den β) w/\v.ids=[]:=by{intro neg h;have ⟨B,D,E,s,t⟩:=Uh (w:=w) (β:=β) f neg h hsc;have g:(eqGuard (if neg then BinOp.neq else BinOp.eql) xt ox oy (x.den β) (y.den β)).run P w=.ok () w:=by{refine tL ?_ (λe=>hy (s e)) t<;>grind};grind [Sem.run_bind,Result.andThen_ok]};grind
 ·cases h
end
end Go.Eng
