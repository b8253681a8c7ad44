import Derived.WalkKit
import Derived.Deep.LoopGhost
import Derived.KernelRfl
set_option linter.all false
theorem Ū{p:Prop}(h:p:=by intros;rename_i h;cases h):p:=h
abbrev ũ{α:Type}(a:Option α)(p:Prop):=a.isSome=true/\a.isSome=true/\p
abbrev Á:=@of_decide_eq_true
abbrev Â:=@of_decide_eq_false
abbrev Ã:=@if_neg
abbrev Ä:=@if_pos
abbrev Å:=@absurd
abbrev Æ:=@congrArg
abbrev Ç:=@decide_eq_true
abbrev È:=@decide_eq_false
abbrev É:=@decide_eq_decide
abbrev Ê:=@eq_of_beq
abbrev Ë:=@beq_iff_eq
abbrev Ì:=@or_false
abbrev Í:=@and_true
abbrev Î:=@true_and
abbrev Ï:=@if_true
abbrev Ð:=@if_false
abbrev Ñ:=@decide_eq_true_eq
abbrev Ò:=@decide_eq_false_iff_not
theorem ω{p:Prop}(h:p:=by first|omega|(dsimp only;omega)):p:=h
theorem σ{p:Prop}(h:p:=by and_intros<;>rfl):p:=h
theorem ψ{p:Prop}(h:p:=by simp):p:=h
theorem φ{p:Prop}(h:p:=by decide):p:=h
theorem χ{p:Prop}(h:p:=by grind):p:=h
theorem η{p:Prop}(h:p:=by and_intros<;>trivial):p:=h
theorem θ{p:Prop}(h:p:=by trivial):p:=h
theorem ζ{p:Prop}(h:p:=by kernel_rfl):p:=h
theorem ξ{p:Prop}(h:p:=by assumption):p:=h
theorem κ{p:Prop}(h:p:=by decide +kernel):p:=h
theorem π{p:Prop}(h:p:=by intro h;nomatch h):p:=h
abbrev Go.Calls.s:=@Go.Calls.mono
def Eq.m{α:Sort _}{a b c:α}(h:a=b)(g:b=c):a=c:=Eq.trans h g
def Iff.m{a b c:Prop}(h:a<->b)(g:b<->c):a<->c:=Iff.trans h g
def List.Perm.m{α:Type _}{a b c:@List α}(h:a.Perm b)(g:b.Perm c):a.Perm c:=List.Perm.trans h g
def List.Sublist.m{α:Type _}{a b c:@List α}(h:a.Sublist b)(g:b.Sublist c):a.Sublist c:=List.Sublist.trans h g
abbrev Ü:=@Int.toNat_natCast
abbrev ñ:=@List.getElem?_eq_getElem
abbrev Ù:=@Nat.le_refl
abbrev è:=@List.length_take
abbrev ë:=@List.length_append
abbrev á:=@Nat.zero_le
abbrev ó:=@List.getElem_mem
abbrev ö:=@List.mem_singleton
abbrev ê:=@List.mem_cons
abbrev Ā:=@Nat.mul_le_mul_right
abbrev Ă:=@List.mem_cons_of_mem
abbrev ø:=@List.mem_append
abbrev ÿ:=@Option.some.injEq
abbrev ċ:=@Int.eq_ofNat_of_zero_le
abbrev Ė:=@List.getD_eq_getElem?_getD
abbrev þ:=@List.append_nil
abbrev Ą:=@List.length_cons
abbrev Ĥ:=@List.drop_eq_getElem_cons
abbrev ĝ:=@List.length_eq_zero_iff
abbrev Ġ:=@List.getElem?_eq_some_iff
abbrev č:=@List.mem_cons_self
abbrev ü:=@Nat.le_trans
abbrev ĉ:=@List.length_map
abbrev į:=@List.getElem?_append_left
abbrev ď:=@List.take_length
abbrev ă:=@List.mem_map
abbrev Č:=@Bool.and_eq_true
abbrev Ĕ:=@List.append_assoc
abbrev ē:=@List.flatMap_cons
abbrev ħ:=@List.pairwise_cons
abbrev ĕ:=@List.mem_flatMap
abbrev Ĉ:=@Nat.zero_add
abbrev ę:=@List.not_mem_nil
abbrev ŀ:=@List.take_append_getElem
abbrev ģ:=@Int.natAbs_natCast
abbrev ļ:=@List.drop_of_length_le
abbrev ĵ:=@Nat.pow_le_pow_right
abbrev Ň:=@List.getElem?_append_right
abbrev Ħ:=@List.getElem?_take
abbrev Ģ:=@Nat.mod_eq_of_lt
abbrev Ĭ:=@List.take_add_one
abbrev Qz1:=@List.take_succ_eq_append_getElem
abbrev Ļ:=@List.mem_append_left
abbrev ğ:=@Nat.min_eq_left
abbrev ĥ:=@List.all_eq_true
abbrev ĺ:=@Nat.lt_of_lt_of_le
abbrev Ĵ:=@Nat.eq_zero_or_pos
abbrev Ē:=@Nat.lt_or_ge
abbrev ī:=@List.length_drop
abbrev đ:=@Nat.add_mul
abbrev Ŕ:=@List.take_of_length_le
abbrev Ņ:=@Nat.mul_le_mul_left
abbrev Đ:=@Nat.pow_add
abbrev Ľ:=@Bool.not_eq_true'
abbrev œ:=@Nat.le_of_ble_eq_true
abbrev ě:=@Nat.add_zero
abbrev Œ:=@List.mem_append_right
abbrev Qk7:=@Int.tmod_eq_emod_of_nonneg
abbrev ı:=@Nat.two_pow_pos
abbrev İ:=@List.length_nil
abbrev Qj0:=@Classical.byContradiction
abbrev ķ:=@Bool.eq_iff_iff
abbrev ġ:=@Nat.pow_succ
abbrev Ĝ:=@Nat.mul_one
abbrev Qj4:=@Int.tdiv_eq_ediv_of_nonneg
abbrev ŝ:=@BitVec.ofInt_natCast
abbrev Qj6:=@List.take_append_drop
abbrev ţ:=@List.getElem?_eq_none
abbrev ŕ:=@Bool.false_eq_true
abbrev ņ:=@Nat.gcd_dvd_left
abbrev ō:=@Nat.lt_of_le_of_lt
abbrev ś:=@List.map_congr_left
abbrev Ĩ:=@Nat.mul_zero
abbrev Ě:=@Nat.mod_lt
abbrev Ś:=@Nat.div_eq_of_lt
abbrev Ķ:=@List.map_cons
abbrev Ń:=@List.map_append
abbrev ł:=@List.cons.injEq
abbrev Ł:=@List.mem_filter
abbrev ř:=@BitVec.toNat_ofNat
abbrev ŧ:=@List.flatMap_append
abbrev Ŀ:=@Int.natAbs_mul
abbrev Ĺ:=@Nat.mul_comm
abbrev Qb3:=@List.mem_of_mem_take
abbrev Qb4:=@List.mem_of_getElem?
abbrev Qb5:=@List.mem_iff_getElem
abbrev Qb6:=@Rat.num_eq_zero
abbrev ŋ:=@Nat.not_lt_zero
abbrev ĩ:=@Rat.mul_pos
abbrev Ŧ:=@Rat.mul_inv_cancel
abbrev š:=@Bool.not_eq_false'
abbrev Š:=@Bool.false_ne_true
abbrev Qn2:=@Nat.beq_refl
abbrev Qn3:=@Nat.div_lt_iff_lt_mul
abbrev ĭ:=@Nat.mul_add
abbrev Qn5:=@List.drop_set_of_lt
abbrev Qn6:=@Nat.add_sub_cancel_left
abbrev Ő:=@List.foldl_cons
abbrev ŏ:=@Nat.mul_ne_zero
abbrev Ŏ:=@List.nil_append
abbrev ő:=@Option.some.inj
abbrev Ţ:=@Nat.gcd_dvd_right
abbrev Qm2:=@List.pairwise_iff_getElem
abbrev Qm3:=@List.getElem?_set_ne
abbrev Qm4:=@List.getElem?_drop
abbrev ń:=@Nat.mul_assoc
abbrev Ŝ:=@Int.natCast_mul
abbrev ň:=@Nat.add_assoc
abbrev Qm8:=@Nat.sub_add_cancel
abbrev Qm9:=@Int.sign_eq_zero_iff_zero
abbrev ş:=@Array.mk.injEq
abbrev ŗ:=@Prod.mk.injEq
abbrev Qc2:=@List.cons_append
abbrev Ş:=@Nat.succ_mul
abbrev Qc4:=@List.length_singleton
abbrev ť:=@Int.natAbs_neg
abbrev Qc6:=@Nat.mul_lt_mul_of_pos_right
abbrev Qc7:=@Nat.div_le_self
abbrev Qc8:=@Nat.add_sub_cancel
abbrev ľ:=@Array.ext'
abbrev Ŗ:=@Nat.zero_mul
abbrev Ŋ:=@Nat.one_mul
abbrev Qd2:=@List.take_zero
abbrev Qd3:=@Bool.not_eq_eq_eq_not
abbrev Qd4:=@Nat.div_add_mod
abbrev Qd5:=@Option.isSome_iff_exists
abbrev Qd6:=@List.set_eq_of_length_le
abbrev Qd7:=@Nat.one_lt_two_pow
abbrev Qd8:=@Nat.xor_lt_two_pow
abbrev Qd9:=@Array.toList_map
abbrev Qf0:=@List.pairwise_singleton
abbrev Ť:=@Nat.gcd_comm
abbrev Qf2:=@Rat.intCast_mul
abbrev Qf3:=@List.length_set
abbrev Qf4:=@List.getElem_of_mem
abbrev Qf5:=@Int.sign_eq_neg_one_of_neg
abbrev Qf6:=@Option.getD_some
abbrev Qf7:=@Nat.mul_div_cancel
abbrev Qf8:=@List.getElem_set_self
abbrev Qf9:=@Nat.gcd_zero_right
abbrev Qg0:=@Nat.mul_le_mul
abbrev Qg1:=@Nat.testBit_eq_decide_div_mod_eq
abbrev Qg2:=@List.mem_of_mem_drop
abbrev Qg3:=@Nat.add_mul_div_left
abbrev Qg4:=@List.pairwise_append
abbrev Qg5:=@List.ext_getElem?
abbrev Qg6:=@Nat.mod_add_div
abbrev Qg7:=@Int.mul_ediv_cancel_left
abbrev Qg8:=@Rat.intCast_inj
abbrev Qg9:=@Rat.num_intCast
abbrev Qh0:=@Int.mul_comm
abbrev Qh1:=@Rat.mkRat_one
abbrev Qh2:=@List.length_pos_iff
abbrev Qh3:=@List.any_eq_true
abbrev Qh4:=@List.drop_drop
abbrev Qh5:=@Array.getElem?_eq_none
abbrev Qh6:=@Int.sign_eq_one_of_pos
abbrev Qh7:=@List.filter_eq_nil_iff
abbrev Qh8:=@Nat.and_lt_two_pow
abbrev Qh9:=@List.filter_append
abbrev Qp0:=@Bool.or_eq_true
abbrev Qp1:=@Int.natAbs_dvd_natAbs
abbrev Qp2:=@Rat.mul_pos_iff_of_pos_left
abbrev Qp3:=@List.length_filter_le
abbrev Qp4:=@List.take_set
abbrev Qp5:=@List.getElem_drop
abbrev Qp6:=@List.getElem?_set
abbrev Qp7:=@Array.getElem?_eq_some_iff
abbrev Qp8:=@Array.getElem_toList
abbrev Qp9:=@Nat.le_add_right
abbrev Qr0:=@List.drop_length
abbrev Qr1:=@List.getElem_map
abbrev Qr2:=@List.take_subset
abbrev Qr3:=@List.take_replicate
abbrev Qr4:=@List.countP_pos_iff
abbrev Qr5:=@List.filter_eq_self
abbrev Qr6:=@List.eq_of_mem_replicate
abbrev Qr7:=@Nat.le_of_lt
abbrev Qr8:=@List.getElem_append_left
abbrev Qr9:=@List.set_eq_take_append_cons_drop
abbrev Qs0:=@List.getElem?_replicate
abbrev Qs1:=@Rat.num_mkRat
abbrev Qs2:=@Rat.sub_eq_add_neg
abbrev Qs3:=@Nat.dvd_trans
abbrev Qs4:=@Rat.intCast_add
abbrev Qs5:=@Rat.intCast_neg
abbrev Qs6:=@List.getElem?_set_self
abbrev Qs7:=@Int.natAbs_ediv_of_dvd
abbrev Qs8:=@List.getElem_cons_zero
abbrev Qs9:=@List.flatMap_singleton
abbrev Qt0:=@List.getElem?_map
abbrev Qt1:=@Int.lt_trichotomy
abbrev Qt2:=@List.getElem_take
abbrev Qt3:=@List.take_take
abbrev Qt4:=@Rat.mkRat_self
abbrev Qt5:=@List.drop_zero
abbrev Qt6:=@List.map_map
abbrev Qt7:=@Nat.le_div_iff_mul_le
abbrev Qt8:=@List.getElem!_eq_getElem?_getD
abbrev Qt9:=@Option.getD_none
abbrev Wq0:=@Nat.shiftLeft_add_eq_or_of_lt
abbrev Wq1:=@Nat.mul_lt_mul''
abbrev Wq2:=@List.take_append_of_le_length
abbrev Wq3:=@Int.sign_neg_iff
abbrev Wq4:=@Nat.zero_lt_succ
abbrev Wq5:=@List.flatMap_nil
abbrev Wq6:=@List.filter_cons
abbrev Wq7:=@Rat.den_mkRat
abbrev Wq8:=@Nat.le_of_dvd
abbrev Wq9:=@Nat.lt_irrefl
abbrev Ww0:=@Int.not_lt
abbrev Ww1:=@Nat.le_succ
abbrev Ww2:=@Option.map_some
abbrev Ww3:=@Nat.mul_eq_zero
abbrev Ww4:=@List.length_flatten
abbrev Ww5:=@Array.length_toList
abbrev Ww6:=@Nat.pow_mul
abbrev Ww7:=@Nat.pow_pos
abbrev Ww8:=@Int.mul_neg
abbrev Ww9:=@Int.mul_lt_mul_of_pos_right
abbrev Wx0:=@Nat.gcd_eq_zero_iff
abbrev Wx1:=@Rat.mkRat_mul_mkRat
abbrev Wx2:=@Int.mul_eq_zero
abbrev Wx3:=@Int.le_refl
abbrev Wx4:=@List.getD_cons_succ
abbrev Wx5:=@Int.fdiv_eq_ediv_of_nonneg
abbrev Wx6:=@Int.lt_of_mul_lt_mul_right
abbrev Wx7:=@List.map_replicate
abbrev Wx8:=@Nat.add_comm
abbrev Wx9:=@Nat.div_mul_cancel
abbrev Wy0:=@Int.add_zero
abbrev Wy1:=@Array.mapM_eq_mapM_toList
abbrev Wy2:=@Nat.add_mul_mod_self_left
abbrev Wy3:=@List.getElem_append_right
abbrev Wy4:=@List.getLastD_eq_getLast?
abbrev Wy5:=@Int.eq_of_mul_eq_mul_left
abbrev Wy6:=@Nat.or_lt_two_pow
abbrev Wy7:=@Nat.gcd_pos_of_pos_right
abbrev Wy8:=@Nat.gcd_zero_left
abbrev Wy9:=@List.map_take
abbrev Wz0:=@List.map_drop
abbrev Wz1:=@Int.neg_mul
abbrev Wz2:=@Rat.neg_num
abbrev Wz3:=@Nat.mul_pos
abbrev Wz4:=@Int.one_mul
abbrev Wz5:=@Rat.inv_pos
abbrev Wz6:=@List.sum_cons
abbrev Wz7:=@Nat.shiftLeft_eq
abbrev Wz8:=@Int.natCast_emod
abbrev Wz9:=@Rat.mkRat_eq_iff
abbrev Wk0:=@Iff.rfl
abbrev Wk1:=@List.map_nil
abbrev Wk2:=@Nat.sub_zero
abbrev Wk3:=@BitVec.toNat_or
abbrev Wk4:=@Nat.mul_add_div
abbrev Wk5:=@Nat.mul_add_mod
abbrev Wk6:=@Nat.zero_div
abbrev Wk7:=@Rat.mul_def'
abbrev Wk8:=@Nat.testBit_xor
abbrev Wk9:=@Rat.intCast_sub
abbrev Wj0:=@Nat.min_le_left
abbrev Wj1:=@List.mem_range
abbrev Wj2:=@Rat.num_nonneg
abbrev Wj3:=@Int.ofNat_tmod
abbrev Wj4:=@Bool.and_false
abbrev Wj5:=@Rat.mul_nonneg
abbrev Wj6:=@Rat.neg_den
abbrev Wj7:=@Prod.ext
open Go.IntKind (i64 u64 u32)
abbrev zA:=@List
abbrev md:=Bool
abbrev un:=Go.Value
abbrev tt:Prop:=true=true
namespace Go.Eng
section
abbrev OA:=Option Addr
abbrev sm {α:Type}(a:α):Prop:=a=a
structure Ó where
 w:World
 H:Nat->Prop
 X:Nat->Prop
 hH:∀b,H b->b<w.heap.size
 hX:∀b,X b->H b
abbrev _root_.ut:=Ó
def Ó.aW (V:Ó)(b:Nat)(o:Obj):Prop:=¬V.H b/\V.w.heap[b]?=some o
def Ó.at (V:Ó)(p:Addr)(v:Value):Prop:=¬V.H p.block/\V.w.cell? p=some v
def Ó.Le (V V':Ó):Prop:=∀b o,V.aW b o->V'.aW b o
structure j_ (X:Nat->Prop) (w w':World):Prop where
 size:w.heap.size<=w'.heap.size
 aW:∀b,b<w.heap.size->¬X b->w'.heap[b]?=w.heap[b]?
 os:w'.os=w.os
 tape:w'.tape=w.tape
 out:w'.output=w.output
 dr:w.drawn<=w'.drawn
def Ó.to (V:Ó)(w':World)(h:V.w.heap.size<=w'.heap.size):Ó:=⟨w',V.H,V.X,λb u=>ĺ (V.hH b u) h,V.hX⟩
def Ó.ar (V:Ó)(u:List Nat):Ó:={ V with X:=λb=>b∈u/\V.H b,hX:=λ_ h=>h.2 }
def Ó.Sc (V:Ó)(b:Nat):Ó:={ V with H:=λx=>V.H x\/(x=b/\b<V.w.heap.size),hH:=λx h=>h.elim (V.hH x) λh=>h.1▸h.2,hX:=λx h=>.inl (V.hX x h) }
def Ó.bz (V:Ó)(p:Prop)(b:Nat):Ó:={ V with H:=λx=>V.H x\/(p/\x=b/\b<V.w.heap.size),hH:=λx h=>h.elim (V.hH x) λh=>h.2.1▸h.2.2,hX:=λx h=>.inl (V.hX x h) }
def Ó.shut (V:Ó):Ó:={ V with X:=λ_=>False,hX:=λ_ h=>h.elim }
def ik (P : Program)(f : FuncId) : Prop := ∃ fn, P.funcs[f]? = some fn ∧ fn.body.isNone = false ∧ (fn.name == "runtime.NumGoroutine") = false
def aa (P:Program)(f:FuncId)(args:Array Value)(V:Ó)(R:Value->Ó->Prop):Prop:=
 ik P f/\Calls P f args V.w λe w'=>∃r,e=.returned r/\∃u:j_ V.X V.w w',R r (V.to w' u.size)
inductive C where
 | v (x:Value)|w (x:Value)|tt|ff
 | ptr (s o:Nat)
 | mQ (s o n c:Nat)
 | dI (s n c:Nat)
 | tQ (f:FuncId) (ss:List Nat)
 | UP (f:FuncId) (vs:List Value)
inductive SV where
 | c (x:C)|agg (cs:List C)|wG (xs:List (Bool×List C))
inductive ç where
 | lit (cs:List C)|row (vs:List Value)|aB (vs:List Value)
structure aZ where
 cs:ç
 ty:TypeId
def aZ.live (b:aZ):Prop:=∀vs,b.cs=.aB vs->vs≠[]
def Qs (b:aZ):List Prop:=
 match b.cs with
 | .aB vs=>[vs≠[]]
 | _=>[]
def gdP (b:aZ):Prop:=
 match b.cs with
 | .aB vs=>vs≠[]
 | _=>True
def vr:List Prop->Prop->Prop
 | [],k=>k
 | p::r,k=>p->vr r k
def mA (b c:Nat):OA:=if c=0 then none else some ⟨b,0,none⟩
structure St where
 ay:Nat->Option SV
 boxes:Nat->Option aZ
def C.den (β:Nat->Nat):C->Value
 | .v x=>x
 | .w x=>x
 | .tt=>.bool true
 | .ff=>.bool false
 | .ptr s o=>.pointer (some ⟨β s,o,none⟩)
 | .mQ s o n c=>.slice (some ⟨β s,o,none⟩) n c
 | .dI s n c=>.slice (mA (β s) c) n c
 | .tQ f ss=>.func (.func f) #[] (ss.map λs=>Value.pointer (some ⟨β s,0,none⟩)).toArray
 | .UP f vs=>.func (.func f) #[.agg vs.toArray] #[]
def kf (β:Nat->Nat):Bool×List C->Value
 | (true,cs)=>.agg (cs.map (C.den β)).toArray
 | (false,[c])=>c.den β
 | (false,_)=>.tuple #[]
def xf:Bool×List C->Option SV
 | (true,cs)=>some (.agg cs)
 | (false,[c])=>some (.c c)
 | (false,_)=>none
def SV.den (β:Nat->Nat):SV->Value
 | .c x=>x.den β
 | .agg cs=>.agg (cs.map (C.den β)).toArray
 | .wG xs=>.tuple (xs.map (kf β)).toArray
def SV.cells:SV->List C
 | .c x=>[x]
 | .agg cs=>cs
 | .wG _=>[]
def Nl:List C->Option (List Value)
 | []=>some []
 | .v x::r=>match Nl r with
  | some l=>some (x::l)
  | none=>none
 | _::_=>none
def ç.den (β:Nat->Nat):ç->List Value
 | .lit cs=>cs.map (C.den β)
 | .row vs=>vs
 | .aB vs=>vs
def aZ.obj (β:Nat->Nat)(b:aZ):Obj:=.cells (b.cs.den β).toArray b.ty (0,0)
def C.ids:C->List Nat
 | .ptr s _=>[s]
 | .mQ s _ _ _=>[s]
 | .dI s _ _=>[s]
 | .tQ _ ss=>ss
 | _=>[]
def SV.ids:SV->List Nat
 | .c x=>x.ids
 | .agg cs=>cs.flatMap C.ids
 | .wG xs=>xs.flatMap λx=>x.2.flatMap C.ids
def SV.Bw:SV->Bool
 | .wG _=>true
 | _=>false
def gN:C->List Prop
 | .v (.agg _)|.v (.tuple _)=>[False]
 | .w x=>[x.oneCell'=true]
 | _=>[]
def SV.gN (x:SV):List Prop:=x.cells.flatMap Eng.gN
def ç.ids:ç->List Nat
 | .lit cs=>cs.flatMap C.ids
 | .row _=>[]
 | .aB _=>[]
def St.put (st:St)(d:Option Nat)(x:SV):St:=
 match d with
 | none=>st
 | some d=>{ st with ay:=λt=>cond (Nat.beq t d) (some x) (st.ay t) }
def St.box (st:St)(s:Nat)(b:aZ):St:={ st with boxes:=λt=>cond (Nat.beq t s) (some b) (st.boxes t) }
def C.ofConst:Value->C
 | .bool true=>.tt
 | .bool false=>.ff
 | x=>.v x
def SV.ofConst:Value->SV
 | .bool true=>.c .tt
 | .bool false=>.c .ff
 | .agg cs=>.agg (cs.toList.map C.ofConst)
 | x=>.c (.v x)
def St.bJ (st:St):Operand->Option SV
 | .tmp t=>st.ay t
 | .const v=>some (.ofConst v)
 | .global g=>some (.c (.v (.pointer (some ⟨g,0,none⟩))))
 | .func f=>some (.c (.tQ f []))
inductive TK where
 | int (k:IntKind)|bool|str|ptr (e:TypeId)|slice (e:TypeId)|struct (fs:List (TypeId×Nat))|arr (n:Nat) (e:TypeId)|iface|func|tuple (ts:List TypeId)|other
structure TI where
 k:TK
 size:Nat
 bytes:Nat
 zero:List C
def mT:TypeDesc->TK
 | .int k=>.int k
 | .bool=>.bool
 | .string=>.str
 | .pointer e=>.ptr e
 | .slice e=>.slice e
 | .array n e=>.arr n e
 | .struct fs=>.struct (fs.toList.map λf=>(f.type,f.offset))
 | .interface _=>.iface
 | .func ..=>.func
 | .tuple es=>.tuple es.toList
 | _=>.other
def oK (P:Program)(t:TypeId):Option TI:=
 match P.info? t,P.underlying t with
 | some i,some d=>
  match i.zero with
  | some z=>some { k:=mT d,size:=i.size,bytes:=i.bytes,zero:=z.cells.toList.map C.ofConst }
  | none=>none
 | _,_=>none
abbrev dT:=List (Nat×TI)
def aH {α:Type}:List (Nat×α)->Nat->Option α
 | [],_=>none
 | (s,x)::r,t=>cond (Nat.beq t s) (some x) (aH r t)
def dT.ok (P:Program)(T:dT):Prop:=∀t i,aH T t=some i->oK P t=some i
inductive Dq where
 | int (k:IntKind)|bool|slice|ptr|str|any
inductive Ar where
 | one (s:Dq)|agg (l:List Dq)
inductive Sh where
 | val (s:Ar)|wG (l:List Ar)|none
def shC:C->Dq
 | .v (.int k _)=>.int k
 | .v (.slice ..)=>.slice
 | .v (.pointer _)=>.ptr
 | .v (.string _)=>.str
 | .tt|.ff=>.bool
 | _=>.any
def nQ (i:TI):Ar:=
 match i.k with
 | .struct _|.arr _ _=>.agg (i.zero.map shC)
 | _=>match i.zero with
  | [z]=>.one (shC z)
  | _=>.one .any
def Dq.ex:Dq->(C->Prop)->Prop
 | .int k,K=>∃n:Int,K (.v (.int k n))
 | .bool,K=>∃b:Bool,K (.v (.bool b))
 | .slice,K=>∃(a:OA)(n c:Nat),K (.v (.slice a n c))
 | .ptr,K=>∃p:OA,K (.v (.pointer p))
 | .str,K=>∃s:ByteArray,K (.v (.string s))
 | .any,K=>∃x:Value,K (.w x)
def YF:List Dq->(List C->Prop)->Prop
 | [],K=>K []
 | s::r,K=>s.ex λv=>YF r λvs=>K (v::vs)
def Ar.ex:Ar->(SV->Prop)->Prop
 | .one s,K=>s.ex λc=>K (.c c)
 | .agg l,K=>YF l λcs=>K (.agg cs)
def exT:List Ar->(List (Bool×List C)->Prop)->Prop
 | [],K=>K []
 | .one s::r,K=>s.ex λc=>exT r λvs=>K ((false,[c])::vs)
 | .agg l::r,K=>YF l λcs=>exT r λvs=>K ((true,cs)::vs)
def Sh.ex:Sh->(SV->Prop)->Prop
 | .val s,K=>s.ex K
 | .wG l,K=>exT l λvs=>K (.wG vs)
 | .none,K=>K (.wG [])
def shTs (T:dT):List TypeId->Option (List Ar)
 | []=>some []
 | t::r=>match aH T t,shTs T r with
  | some i,some l=>some (nQ i::l)
  | _,_=>Option.none
def shOf (T:dT)(t:TypeId):Option Sh:=
 match aH T t with
 | some i=>match i.k with
  | .tuple []=>some .none
  | .tuple ts=>match shTs T ts with
   | some l=>some (.wG l)
   | Option.none=>Option.none
  | _=>some (.val (nQ i))
 | Option.none=>Option.none
inductive Q where
 | fail
 | ret (sc:List Prop) (x:SV)
 | new (sc:List Prop) (b:aZ) (x:Nat->SV)
 | zd (sc:List Prop) (s:Nat) (b:aZ)
 | rd (p:OA) (sh:Ar)
 | tm (vs:List Value) (o size:Nat) (sh:Ar)
 | xB (s:Nat) (vs:List Value) (n c:Nat) (x:OA×Nat ⊕ List Value) (size bytes:Nat) (ty:TypeId)
 | app (old:Option Nat) (ba:OA) (vs:List Value) (n c:Nat) (x:OA×Nat ⊕ List Value) (size bytes:Nat) (ty:TypeId)
def bY (op:BinOp)(k:IntKind)(a b:Int):Int:=
 match op with
 | .and=>k.wrap ((BitVec.ofInt k.bits a &&& BitVec.ofInt k.bits b).toNat:Int)
 | .or=>k.wrap ((BitVec.ofInt k.bits a ||| BitVec.ofInt k.bits b).toNat:Int)
 | .xor=>k.wrap ((BitVec.ofInt k.bits a ^^^ BitVec.ofInt k.bits b).toNat:Int)
 | _=>k.wrap ((BitVec.ofInt k.bits a &&& ~~~(BitVec.ofInt k.bits b)).toNat:Int)
def qv (op:BinOp)(k:IntKind)(a b:Int):Q:=
 match op with
 | .add=>.ret [] (.c (.v (.int k (k.wrap (a+b)))))
 | .sub=>.ret [] (.c (.v (.int k (k.wrap (a-b)))))
 | .mul=>.ret [] (.c (.v (.int k (k.wrap (a*b)))))
 | .quo=>.ret [b≠0] (.c (.v (.int k (k.wrap (a.tdiv b)))))
 | .rem=>.ret [b≠0] (.c (.v (.int k (a.tmod b))))
 | .and=>.ret [] (.c (.v (.int k (bY .and k a b))))
 | .or=>.ret [] (.c (.v (.int k (bY .or k a b))))
 | .xor=>.ret [] (.c (.v (.int k (bY .xor k a b))))
 | .andNot=>.ret [] (.c (.v (.int k (bY .andNot k a b))))
 | .shl=>.ret [0<=b] (.c (.v (.int k (k.wrap (a*2^(min b.toNat k.bits))))))
 | .shr=>.ret [0<=b] (.c (.v (.int k (a.fdiv (2^(min b.toNat k.bits))))))
 | .eql=>.ret [] (.c (.v (.bool (a==b))))
 | .neq=>.ret [] (.c (.v (.bool (a != b))))
 | .lss=>.ret [] (.c (.v (.bool (decide (a<b)))))
 | .leq=>.ret [] (.c (.v (.bool (decide (a<=b)))))
 | .gtr=>.ret [] (.c (.v (.bool (decide (a>b)))))
 | .geq=>.ret [] (.c (.v (.bool (decide (a≥b)))))
def C.bool?:C->Option Bool
 | .tt=>some true
 | .ff=>some false
 | .v (.bool b)=>some b
 | _=>none
def iw:Value->Bool
 | .nilIface=>true
 | _=>false
def ą (x:Value):Prop:=x=.nilIface\/∃t v,x=.iface t v
def Bx:IntKind->IntKind->Bool
 | .i8,.i8|.i16,.i16|.i32,.i32|.i64,.i64|.u8,.u8|.u16,.u16|.u32,.u32|.u64,.u64=>true
 | _,_=>false
def Hb (neg:Bool)(k:TK)(x y:C):Q:=
 match k with
 | .ptr _=>match y with
  | .v (.pointer none)=>match x with
   | .ptr _ _=>.ret [] (.c (if neg then .tt else .ff))
   | .v (.pointer p)=>.ret [] (.c (.v (.bool (if neg then !p.isNone else p.isNone))))
   | _=>.fail
  | _=>.fail
 | .slice _=>match y with
  | .v (.slice none _ _)=>match x with
   | .mQ _ _ _ _=>.ret [] (.c (if neg then .tt else .ff))
   | .dI _ _ c=>.ret [] (.c (.v (.bool (if neg then !(Nat.beq c 0) else Nat.beq c 0))))
   | .v (.slice a _ _)=>.ret [] (.c (.v (.bool (if neg then !a.isNone else a.isNone))))
   | _=>.fail
  | _=>.fail
 | .iface=>match y with
  | .v .nilIface=>match x with
   | .w y=>.ret [ą y] (.c (.v (.bool (if neg then !iw y else iw y))))
   | .v .nilIface=>.ret [] (.c (if neg then .ff else .tt))
   | _=>.fail
  | _=>.fail
 | _=>.fail
def G_ (T:dT)(op:BinOp)(u:TypeId)(x y:C):Q:=
 match aH T u with
 | some i=>match i.k with
  | .int _=>match x,y with
   | .v (.int k a),.v (.int k' b)=>
    match op with
    | .shl|.shr=>qv op k a b
    | _=>if Bx k k' then qv op k a b else .fail
   | _,_=>.fail
  | .bool=>match x.bool?,y.bool? with
   | some a,some b=>match op with
    | .eql=>.ret [] (.c (.v (.bool (a==b))))
    | .neq=>.ret [] (.c (.v (.bool (!(a==b)))))
    | _=>.fail
   | _,_=>.fail
  | k=>match op with
   | .eql=>Hb false k x y
   | .neq=>Hb true k x y
   | _=>.fail
 | none=>.fail
def ae (p:OA)(n:Nat):OA:=p.map λa=>a.add n
def ā (cs:List C)(o:Nat)(xs:List C):List C:=cs.take o++xs++cs.drop (o+xs.length)
def bD (vs:List Value)(o:Nat)(xs:List Value):List Value:=
 match xs with
 | [x]=>vs.set o x
 | _=>vs.take o++xs++vs.drop (o+xs.length)
def C.val?:C->Option Value
 | .v x=>some x
 | .w x=>some x
 | .tt=>some (.bool true)
 | .ff=>some (.bool false)
 | _=>none
def mD:List C->Option (List Value)
 | []=>some []
 | c::r=>match c.val?,mD r with
  | some v,some vs=>some (v::vs)
  | _,_=>none
def lG (bx:Nat->Option aZ)(i:TI)(x:SV):Q:=
 match x with
 | .c (.ptr b o)=>match bx b with
  | some ⟨.lit cs,_⟩=>match i.k with
   | .struct _|.arr _ _=>if Nat.ble (o+i.size) cs.length then .ret [] (.agg ((cs.drop o).take i.size)) else .fail
   | _=>match cs[o]? with
    | some c=>.ret [] (.c c)
    | none=>.fail
  | some ⟨.row vs,_⟩=>.tm vs o i.size (nQ i)
  | some ⟨.aB vs,_⟩=>if Nat.beq i.size 0 then .fail else .tm vs o i.size (nQ i)
  | none=>.fail
 | .c (.v (.pointer p))=>if Nat.beq i.zero.length i.size then .rd p (nQ i) else .fail
 | _=>.fail
def iY (bx:Nat->Option aZ)(i:TI)(a x:SV):Q:=
 match a with
 | .c (.ptr b o)=>if Nat.beq x.cells.length i.size&&!x.Bw then match bx b with
   | some ⟨.lit cs,ty⟩=>if Nat.ble (o+i.size) cs.length then .zd x.gN b ⟨.lit (ā cs o x.cells),ty⟩ else .fail
   | some ⟨.row vs,ty⟩=>match mD x.cells with
    | some xs=>.zd (x.gN++[o+i.size<=vs.length]) b ⟨.row (bD vs o xs),ty⟩
    | none=>.fail
   | some ⟨.aB vs,ty⟩=>if Nat.beq i.size 0 then .fail else match mD x.cells with
    | some xs=>.zd (x.gN++[o+i.size<=vs.length]) b ⟨.aB (bD vs o xs),ty⟩
    | none=>.fail
   | none=>.fail
  else .fail
 | _=>.fail
def te (place:Nat->Option (Nat×Nat))(cells:List C):List (Nat×SV)->Option (List C)
 | []=>some cells
 | (i,x)::r=>match place i with
  | none=>none
  | some (off,size)=>if Nat.beq x.cells.length size&&Nat.ble (off+size) cells.length&&!x.Bw then te place (ā cells off x.cells) r else none
def õ (ρ:Operand->Option SV):List (Nat×Operand)->Option (List (Nat×SV))
 | []=>some []
 | (i,o)::r=>match ρ o,õ ρ r with
  | some x,some l=>some ((i,x)::l)
  | _,_=>none
def gY (T:dT):List (TypeId×Nat)->Option (List (Nat×Nat))
 | []=>some []
 | (t,off)::r=>match aH T t,gY T r with
  | some i,some l=>some ((off,i.size)::l)
  | _,_=>none
def rep (n:Nat)(u:List C):List C:=(List.replicate n u).flatten
def uB (n:Nat)(u:List Value):List Value:=
 match u with
 | [z]=>List.replicate n z
 | _=>(List.replicate n u).flatten
def jJ (a:OA)(m l sz:Nat):OA:=if m=l then a else ae a (l*sz)
def pO (o m l sz:Nat):Nat:=if m=l then o else o+l*sz
def Wm (c:Nat):Option SV->Option (List Prop×Nat)
 | none=>some ([],c)
 | some (.c (.v (.int _ m)))=>some ([0<=m/\m<=(c:Int)],m.toNat)
 | _=>none
def Tu (n m:Nat):Option SV->Option SV->Option (List Prop×Nat)
 | some (.c (.v (.int _ h))),_=>some ([0<=h/\h<=(m:Int)],h.toNat)
 | none,none=>some ([],n)
 | _,_=>none
def ZI (h:Nat):Option SV->Option (List Prop×Option Nat)
 | none=>some ([],none)
 | some (.c (.v (.int _ l)))=>some ([0<=l/\l<=(h:Int)],some l.toNat)
 | _=>none
def rU (n c:Nat)(lo hi mx:Option SV):Option (List Prop×Option Nat×Nat×Nat):=
 match Wm c mx with
 | none=>none
 | some (u,m)=>match Tu n m hi mx with
  | none=>none
  | some (y,h)=>match ZI h lo with
   | none=>none
   | some (z,l)=>some (u++y++z,l,h,m)
def G2 (ρ:Operand->Option SV):Option Operand->Option (Option SV)
 | none=>some none
 | some x=>match ρ x with
  | some v=>some (some v)
  | none=>none
def xG (sz:Nat)(x:SV)(lo hi mx:Option SV):Q:=
 match x with
 | .c (.v (.slice a n c))=>match rU n c lo hi mx with
  | some (sc,none,h,m)=>.ret sc (.c (.v (.slice a h m)))
  | some (sc,some l,h,m)=>.ret sc (.c (.v (.slice (jJ a m l sz) (h-l) (m-l))))
  | none=>.fail
 | .c (.mQ s o n c)=>match rU n c lo hi mx with
  | some (sc,none,h,m)=>.ret sc (.c (.mQ s o h m))
  | some (sc,some l,h,m)=>.ret sc (.c (.mQ s (pO o m l sz) (h-l) (m-l)))
  | none=>.fail
 | .c (.dI s n c)=>match mx with
  | none=>match rU n c lo hi none with
   | some (sc,none,h,m)=>.ret sc (.c (.dI s h m))
   | _=>.fail
  | some _=>.fail
 | _=>.fail
def iX (T:dT)(i:TI)(x y:SV):Q:=
 match y with
 | .c (.v (.int _ n))=>match i.k with
  | .slice e=>match aH T e with
   | some u=>match x with
    | .c (.v (.slice a len _))=>.ret [a.isSome=true,0<=n/\n<(len:Int)] (.c (.v (.pointer (ae a (n.toNat*u.size)))))
    | .c (.mQ s o len _)=>.ret [0<=n/\n<(len:Int)] (.c (.ptr s (o+n.toNat*u.size)))
    | .c (.dI s len c)=>.ret [0<=n/\n<(len:Int),len<=c] (.c (.ptr s (n.toNat*u.size)))
    | _=>.fail
   | none=>.fail
  | .arr len e=>match aH T e with
   | some u=>match x with
    | .c (.ptr s o)=>.ret [0<=n/\n<(len:Int)] (.c (.ptr s (o+n.toNat*u.size)))
    | .c (.v (.pointer a))=>.ret [a.isSome=true,0<=n/\n<(len:Int)] (.c (.v (.pointer (ae a (n.toNat*u.size)))))
    | _=>.fail
   | none=>.fail
  | _=>.fail
 | _=>.fail
def FC (T:dT)(i:TI)(l c:SV):Q:=
 match i.k with
 | .slice e=>match aH T e with
  | some u=>match l,c with
   | .c (.v (.int _ n)),.c (.v (.int _ m))=>match mD u.zero with
    | some y=>if Nat.beq u.bytes 0||Nat.beq u.size 0||!(Nat.beq u.size y.length) then .fail else .new [0<=n,n<=m,(u.bytes:Int)*m<=2^47] ⟨.row (uB m.toNat y),e⟩ λd=>.c (.mQ d 0 n.toNat m.toNat)
    | none=>.fail
   | _,_=>.fail
  | none=>.fail
 | _=>.fail
def B7:List SV->Option (List Nat)
 | []=>some []
 | .c (.ptr s 0)::r=>match B7 r with
  | some l=>some (s::l)
  | none=>none
 | _=>none
def cN (ρ:Operand->Option SV):List Operand->Option (List SV)
 | []=>some []
 | o::r=>match ρ o,cN ρ r with
  | some x,some l=>some (x::l)
  | _,_=>none
def cH (a b:Int):Int:=if b<a then b else a
def b_ (a b:Int):Int:=if b>a then b else a
def Ī (f:Int->Int->Int)(k:IntKind)(a:Int):List SV->Option Int
 | []=>some a
 | .c (.v (.int k' b))::r=>if Bx k k' then Ī f k (f a b) r else none
 | _=>none
def fR (bx:Nat->Option aZ)(s:Nat):Option (List Value):=
 match bx s with
 | some ⟨.lit cs,_⟩=>mD cs
 | some ⟨.row vs,_⟩=>some vs
 | _=>none
def nh (bx:Nat->Option aZ)(s:Nat):Option TypeId:=match bx s with|some b=>some b.ty|none=>none
def aw (ws:List Value)(o n:Nat):List Value:=cond (Nat.ble (o+n) ws.length) ((ws.drop o).take n) (List.replicate n (.agg #[]))
def qP (ws:List Value)(k c sz:Nat):List Value:=cond (Nat.ble k c) (aw ws 0 (k*sz)) (List.replicate (k*sz) (.agg #[]))
def cW (bx:Nat->Option aZ)(e:TypeId)(u:TI)(b x:SV):Q:=
 match mD u.zero with
 | none=>.fail
 | some y=>if Nat.beq u.bytes 0||Nat.beq u.size 0||!(Nat.beq u.size y.length) then .fail else
  let src:Option (OA×Nat ⊕ List Value):=match x with
   | .c (.v (.slice a k _))=>some (.inl (a,k))
   | .c (.mQ s o k _)=>match bx s with
    | some ⟨.row ws,_⟩=>some (.inr (aw ws o (k*u.size)))
    | _=>match fR bx s with
     | some ws=>if Nat.ble (o+k*u.size) ws.length then some (.inr ((ws.drop o).take (k*u.size))) else none
     | none=>none
   | .c (.dI s k c)=>match bx s with
    | some ⟨.aB ws,_⟩=>some (.inr (qP ws k c u.size))
    | _=>none
   | _=>none
  match src with
  | none=>.fail
  | some src=>match b with
   | .c (.v (.slice a n c))=>.app none a [] n c src u.size u.bytes e
   | .c (.mQ s 0 n c)=>match fR bx s,nh bx s with
    | some vs,some ty=>if Nat.beq ty e then .app (some s) none vs n c src u.size u.bytes e else .fail
    | _,_=>.fail
   | .c (.dI s n c)=>match bx s with
    | some ⟨.aB vs,ty⟩=>if Nat.beq ty e then .xB s vs n c src u.size u.bytes e else .fail
    | _=>.fail
   | _=>.fail
def nO (b:Builtin)(k:TK)(xs:List SV):Q:=
 match xs with
 | []=>.fail
 | x::r=>match b with
  | .len=>match r,k,x with
   | [],.slice _,.c (.v (.slice _ n _))=>.ret [] (.c (.v (.int .i64 n)))
   | [],.slice _,.c (.mQ _ _ n _)=>.ret [] (.c (.v (.int .i64 n)))
   | [],.slice _,.c (.dI _ n _)=>.ret [] (.c (.v (.int .i64 n)))
   | [],.str,.c (.v (.string s))=>.ret [] (.c (.v (.int .i64 s.size)))
   | _,_,_=>.fail
  | .cap=>match r,k,x with
   | [],.slice _,.c (.v (.slice _ _ c))=>.ret [] (.c (.v (.int .i64 c)))
   | [],.slice _,.c (.mQ _ _ _ c)=>.ret [] (.c (.v (.int .i64 c)))
   | [],.slice _,.c (.dI _ _ c)=>.ret [] (.c (.v (.int .i64 c)))
   | _,_,_=>.fail
  | .min=>match x with
   | .c (.v (.int k a))=>match Ī cH k a r with
    | some m=>.ret [] (.c (.v (.int k m)))
    | none=>.fail
   | _=>.fail
  | .max=>match x with
   | .c (.v (.int k a))=>match Ī b_ k a r with
    | some m=>.ret [] (.c (.v (.int k m)))
    | none=>.fail
   | _=>.fail
  | _=>.fail
def B9 (t:TypeId)(i:TI)(v:SV):Q:=
 match i.k with
 | .iface=>.fail
 | _=>match v.ids,v.Bw with
  | [],false=>.ret [] (.c (.w (.iface t (v.den λ_=>0))))
  | _,_=>.fail
def oQ (T:dT)(bx:Nat->Option aZ)(t:TypeId)(x:SV):Q:=
 match aH T t with
 | some i=>match i.k with
  | .slice e=>match aH T e with
   | some u=>match mD u.zero,x with
    | some y,.c (.mQ s o n _)=>match bx s with
     | some ⟨.row vs,ty⟩=>if Nat.beq u.size 0||!(Nat.beq u.size y.length)||!(y.all Value.oneCell') then .fail else .zd [o+n*u.size<=vs.length] s ⟨.row (vs.take o++uB n y++vs.drop (o+n*u.size)),ty⟩
     | _=>.fail
    | _,_=>.fail
   | none=>.fail
  | _=>.fail
 | none=>.fail
def Ol:List C->Option (List (OA×Nat×Nat))
 | []=>some []
 | .v (.slice p n c)::r=>match Ol r with
  | some l=>some ((p,n,c)::l)
  | none=>none
 | _=>none
def nP (T:dT)(i:TI)(cs:List C)(k:Int):Q:=
 match i.k with
 | .arr n e=>match aH T e,Ol cs with
  | some u,some l=>match u.k with
   | .slice _=>if Nat.beq u.size 1&&Nat.beq l.length n then .ret [0<=k/\k<(n:Int)] (.c (.v (.slice (l.getD k.toNat (none,0,0)).1 (l.getD k.toNat (none,0,0)).2.1 (l.getD k.toNat (none,0,0)).2.2))) else .fail
   | _=>.fail
  | _,_=>.fail
 | _=>.fail
def aT (T:dT)(ρ:Operand->Option SV)(bx:Nat->Option aZ)(op:Op):Q:=
 match op with
 | .move x|.assign x=>match ρ x with
  | some v=>.ret [] v
  | none=>.fail
 | .pick c a b=>match ρ c with
  | some (.c .tt)=>match ρ a with
   | some v=>.ret [] v
   | none=>.fail
  | some (.c .ff)=>match ρ b with
   | some v=>.ret [] v
   | none=>.fail
  | _=>.fail
 | .alloc t=>match aH T t with
  | some i=>.new [] ⟨.lit i.zero,t⟩ λd=>.c (.ptr d 0)
  | none=>.fail
 | .box t x=>match ρ x with
  | some v=>match v.Bw with
   | true=>.fail
   | false=>.new v.gN ⟨.lit v.cells,t⟩ λd=>.c (.ptr d 0)
  | none=>.fail
 | .build t parts=>match aH T t,õ ρ parts.toList with
  | some i,some z=>match i.k with
   | .struct fs=>match gY T fs with
    | some pl=>match te (λj=>pl[j]?) i.zero z with
     | some cs=>.ret (z.flatMap λx=>x.2.gN) (.agg cs)
     | none=>.fail
    | none=>.fail
   | .arr _ e=>match aH T e with
    | some u=>match te (λj=>some (j*u.size,u.size)) i.zero z with
     | some cs=>.ret (z.flatMap λx=>x.2.gN) (.agg cs)
     | none=>.fail
    | none=>.fail
   | _=>.fail
  | _,_=>.fail
 | .buildSlice t len parts=>match aH T t,õ ρ parts.toList with
  | some i,some z=>match i.k with
   | .slice e=>match aH T e with
    | some u=>if Nat.ble (len*u.size) 16777216&&Nat.beq u.zero.length u.size&&!(Nat.beq u.size 0) then match te (λj=>some (j*u.size,u.size)) (rep len u.zero) z with
      | some cs=>.new (z.flatMap λx=>x.2.gN) ⟨.lit cs,e⟩ λd=>.c (.mQ d 0 len len)
      | none=>.fail
     else .fail
    | none=>.fail
   | _=>.fail
  | _,_=>.fail
 | .load t a=>match aH T t,ρ a with
  | some i,some x=>lG bx i x
  | _,_=>.fail
 | .store t a x=>match aH T t,ρ a,ρ x with
  | some i,some N,some D=>iY bx i N D
  | _,_,_=>.fail
 | .nilCheck x=>match ρ x with
  | some (.c (.ptr s o))=>.ret [] (.c (.ptr s o))
  | some (.c (.v (.pointer p)))=>.ret [p.isSome=true] (.c (.v (.pointer p)))
  | _=>.fail
 | .binOp o M x y _=>match ρ x,ρ y with
  | some (.c a),some (.c b)=>match b with
   | .v .nilIface=>match y with
    | .const _=>G_ T o M a b
    | _=>.fail
   | b=>G_ T o M a b
  | _,_=>.fail
 | .unOp .not _ x=>match ρ x with
  | some (.c .tt)=>.ret [] (.c .ff)
  | some (.c .ff)=>.ret [] (.c .tt)
  | some (.c (.v (.bool b)))=>.ret [] (.c (.v (.bool (!b))))
  | _=>.fail
 | .unOp .xor _ x=>match ρ x with
  | some (.c (.v (.int k n)))=>.ret [] (.c (.v (.int k (bY .xor k (if k.signed then -1 else k.max) n))))
  | _=>.fail
 | .unOp .neg _ x=>match ρ x with
  | some (.c (.v (.int k n)))=>.ret [] (.c (.v (.int k (k.wrap (0-n)))))
  | _=>.fail
 | .convert src dst x=>match aH T src,aH T dst,ρ x with
  | some _,some i,some (.c (.v (.int _ n)))=>match i.k with
   | .int k=>.ret [] (.c (.v (.int k (k.wrap n))))
   | _=>.fail
  | _,_,_=>.fail
 | .makeFunc (.func f) first caps=>match first.toList with
  | []=>match cN ρ caps.toList with
   | some xs=>match B7 xs with
    | some ss=>.ret [] (.c (.tQ f ss))
    | none=>.fail
   | none=>.fail
  | [x]=>match caps.toList,ρ x with
   | [],some (.agg cs)=>match Nl cs with
    | some vs=>.ret [] (.c (.UP f vs))
    | none=>.fail
   | _,_=>.fail
  | _=>.fail
 | .makeSlice t l c=>match aH T t,ρ l,ρ c with
  | some i,some O,some Z=>FC T i O Z
  | _,_,_=>.fail
 | .slice t x lo hi mx=>match aH T t,ρ x,G2 ρ lo,G2 ρ hi,G2 ρ mx with
  | some i,some D,some l,some h,some m=>match i.k with
   | .slice e=>match aH T e with
    | some u=>xG u.size D l h m
    | none=>.fail
   | _=>.fail
  | _,_,_,_,_=>.fail
 | .fieldAddr t x f=>match aH T t,ρ x with
  | some i,some D=>match i.k with
   | .struct fs=>match fs[f]? with
    | some (E,off)=>match aH T E with
     | some fi=>if Nat.beq fi.size 0 then .fail else match D with
      | .c (.ptr s o)=>.ret [] (.c (.ptr s (o+off)))
      | .c (.v (.pointer p))=>.ret [p.isSome=true] (.c (.v (.pointer (ae p off))))
      | _=>.fail
     | none=>.fail
    | none=>.fail
   | _=>.fail
  | _,_=>.fail
 | .field t x f=>match aH T t,ρ x with
  | some i,some (.agg cs)=>match i.k with
   | .struct fs=>match fs[f]? with
    | some (E,off)=>match aH T E with
     | some fi=>match fi.k with
      | .struct _|.arr _ _=>.ret [] (.agg ((cs.drop off).take fi.size))
      | _=>match cs[off]? with
       | some c=>.ret [] (.c c)
       | none=>.fail
     | none=>.fail
    | none=>.fail
   | _=>.fail
  | _,_=>.fail
 | .indexAddr t x F=>match aH T t,ρ x,ρ F with
  | some i,some D,some iv=>iX T i D iv
  | _,_,_=>.fail
 | .extract x j=>match ρ x with
  | some (.wG xs)=>match xs[j]? with
   | some v=>match xf v with
    | some y=>.ret [] y
    | none=>.fail
   | none=>.fail
  | _=>.fail
 | .call c=>match c.callee with
  | .builtin .append=>match cN ρ c.args.toList,c.argTypes.toList with
   | some [b,x],[t,t']=>match aH T t,aH T t' with
    | some i,some i'=>match i.k,i'.k with
     | .slice e,.slice _=>match aH T e with
      | some u=>cW bx e u b x
      | none=>.fail
     | _,_=>.fail
    | _,_=>.fail
   | _,_=>.fail
  | .builtin .clear=>match cN ρ c.args.toList,c.argTypes.toList with
   | some [x],[t]=>oQ T bx t x
   | _,_=>.fail
  | .builtin b=>match cN ρ c.args.toList,c.argTypes.toList with
   | some xs,t::_=>match aH T t with
    | some i=>nO b i.k xs
    | none=>.fail
   | _,_=>.fail
  | _=>.fail
 | .index t x F=>match aH T t,ρ x,ρ F with
  | some i,some (.c (.v (.string s))),some (.c (.v (.int _ n)))=>match i.k with
   | .str=>.ret [0<=n/\n<(s.size:Int)] (.c (.v (.int .u8 ((s.data.toList.getD n.toNat 0).toNat:Int))))
   | _=>.fail
  | some i,some (.agg cs),some (.c (.v (.int _ n)))=>nP T i cs n
  | _,_,_=>.fail
 | .makeInterface t x=>match aH T t,ρ x with
  | some i,some v=>B9 t i v
  | _,_=>.fail
 | _=>.fail
def F6:List Prop->Prop->Prop
 | [],k=>k
 | p::r,k=>p/\F6 r k
def Ó.Wq (V:Ó)(p:Addr):Nat->List C->Prop->Prop
 | _,[],k=>k
 | i,c::r,k=>V.at (p.add i) (c.den λ_=>0)/\V.Wq p (i+1) r k
def Ó.Wp (V:Ó)(p:OA)(x:SV)(k:Prop):Prop:=
 match x with
 | .agg cs=>∃a,p=some a/\V.Wq a 0 cs k
 | .c c=>(∃a,p=some a/\V.at a (c.den λ_=>0))/\k
 | .wG _=>False
def Wy (vs:List Value)(o size:Nat)(x:SV):Prop:=
 match x with
 | .agg cs=>o+size<=vs.length/\(vs.drop o).take size=cs.map (C.den λ_=>0)
 | .c c=>vs[o]?=some (c.den λ_=>0)
 | .wG _=>False
def iK (x:Nat):List Nat->Bool
 | []=>false
 | y::r=>cond (Nat.beq x y) true (iK x r)
def ô:List Nat->List Nat
 | []=>[]
 | x::r=>let l:=ô r;cond (iK x l) l (x::l)
def DT (l m:List Nat):Bool:=l.all λx=>!(iK x m)
def T0 (l m:List Nat):Bool:=l.all λx=>iK x m
def C.rel (L:List Nat)(β:Nat->Nat)(J:C->Value):C->C
 | .ptr s o=>cond (iK s L) (.v (.pointer (some ⟨β s,o,none⟩))) (.ptr s o)
 | .mQ s o n c=>cond (iK s L) (.v (.slice (some ⟨β s,o,none⟩) n c)) (.mQ s o n c)
 | .dI s n c=>cond (iK s L) (.v (.slice (mA (β s) c) n c)) (.dI s n c)
 | .tQ f ss=>cond (DT ss L) (.tQ f ss) (.w (J (.tQ f ss)))
 | x=>x
def SV.rel (L:List Nat)(β:Nat->Nat)(J:C->Value):SV->SV
 | .c x=>.c (x.rel L β J)
 | .agg cs=>.agg (cs.map (C.rel L β J))
 | .wG xs=>.wG (xs.map λx=>(x.1,x.2.map (C.rel L β J)))
def aZ.rel (L:List Nat)(β:Nat->Nat)(J:C->Value)(b:aZ):aZ:=
 match b.cs with
 | .row _=>b
 | .aB _=>b
 | .lit cs=>⟨.lit (cs.map (C.rel L β J)),b.ty⟩
def St.rel (st:St)(L:List Nat)(β:Nat->Nat)(J:C->Value):St:=
 ⟨λt=>match st.ay t with|some x=>some (x.rel L β J)|none=>none,
   λt=>cond (iK t L) none (match st.boxes t with|some b=>some (b.rel L β J)|none=>none)⟩
def Ó.sl (V:Ó)(a:OA)(xs:List Value):Prop:=∀i v,xs[i]?=some v->∃ad,a=some ad/\V.at (ad.add i) v
variable{V V':Ó}
def th (s d:Nat):Nat:=cond (Nat.blt s 100000) d (d+200000)
def Ik (s:Nat)(vs:List Value)(n c size bytes:Nat)(ty:TypeId)(d:Nat)(st:St)(V:Ó)(K:St->Ó->Prop)(k:Nat)(xs:List Value):Prop:=
 (n+k)*bytes<=2^47/\n<=c/\c*size<=vs.length/\xs.length=k*size/\(∀v∈xs,v.oneCell'=true) /\
  match st.boxes (th s d) with
  | some _=>False
  | none=>∀(_:Nat)(_:C->Value)(spare:List Value)(u:Nat),n+k<=u->u*size<=(n+k)*size+spare.length ->
   K (((st.box s ⟨.aB [],ty⟩).box (th s d) ⟨.row (vs.take (n*size)++xs++spare),ty⟩).put (some d) (.c (.mQ (th s d) 0 (n+k) u))) V
def yz (s:Nat)(vs:List Value)(n c size bytes:Nat)(ty:TypeId)(d:Nat)(st:St)(V:Ó)(K:St->Ó->Prop)(k:Nat)(xs:List Value):Prop:=
 (n+k)*bytes<=2^47/\n<=c/\c*size<=vs.length/\xs.length=k*size/\(∀v∈xs,v.oneCell'=true) /\
  match st.boxes (th s d) with
  | some _=>False
  | none=>∀(spare:List Value)(u:Nat),n+k<=u->u*size<=(n+k)*size+spare.length ->
   K (((st.box s ⟨.aB [],ty⟩).box (th s d) ⟨.aB (vs.take (n*size)++xs++spare),ty⟩).put (some d) (.c (.dI (th s d) (n+k) u))) V
def Il (vs:List Value)(n c size bytes:Nat)(ty:TypeId)(d:Nat)(st:St)(V:Ó)(K:St->Ó->Prop)(k:Nat)(xs:List Value):Prop:=
 (n+k)*bytes<=2^47/\c<n+k/\xs.length=k*size/\(∀v∈xs,v.oneCell'=true) /\
  match st.boxes d with
  | some _=>False
  | none=>∀(spare:List Value)(u:Nat),n+k<=u->u*size<=(n+k)*size+spare.length ->
   K ((st.box d ⟨.row (vs++xs++spare),ty⟩).put (some d) (.c (.mQ d 0 (n+k) u))) V
def zf (q:Q)(dst:Option Nat)(st:St)(V:Ó)(K:St->Ó->Prop):Prop:=
 match q with
 | .fail=>False
 | .ret sc x=>F6 sc (K (st.put dst x) V)
 | .new sc b x=>match dst with
  | some d=>match st.boxes d with
   | none=>F6 sc (K ((st.box d b).put (some d) (x d)) V)
   | some _=>False
  | none=>False
 | .zd sc s b=>match dst with
  | none=>F6 sc (K (st.box s b) V)
  | some _=>False
 | .rd p sh=>sh.ex λx=>V.Wp p x (K (st.put dst x) V)
 | .tm vs o size sh=>sh.ex λx=>Wy vs o size x/\K (st.put dst x) V
 | .xB s vs n c x size bytes ty=>match dst with
  | none=>False
  | some d=>match x with
   | .inr xs=>yz s vs n c size bytes ty d st V K (xs.length/size) xs
   | .inl (a,k)=>∃xs:List Value,V.sl a xs/\xs.length=k*size/\yz s vs n c size bytes ty d st V K k xs
 | .app old ba vs n c x size bytes ty=>match dst with
  | none=>False
  | some d=>match old with
   | some s=>match x with
    | .inr xs=>Ik s vs n c size bytes ty d st V K (xs.length/size) xs
    | .inl (a,k)=>∃xs:List Value,V.sl a xs/\xs.length=k*size/\Ik s vs n c size bytes ty d st V K k xs
   | none=>∃vs:List Value,V.sl ba vs/\vs.length=n*size/\n<=c/\(ba.isNone=true->c=0)/\(match x with
    | .inr xs=>Il vs n c size bytes ty d st V K (xs.length/size) xs
    | .inl (a,k)=>∃xs:List Value,V.sl a xs/\xs.length=k*size/\(k=0->K (st.put (some d) (.c (.v (.slice ba n c)))) V)/\(k≠0->Il vs n c size bytes ty d st V K k xs))
def cR (β:Nat->Nat)(s b:Nat):Nat->Nat:=λt=>cond (Nat.beq t s) b (β t)
def m_:List Nat->(Nat->Nat)->((Nat->Nat)->Prop)->Prop
 | [],β,k=>k β
 | s::r,β,k=>∀b:Nat,m_ r (cR β s b) k
def nY (bx:Nat->Option aZ)(s:Nat):List Nat:=match bx s with|some b=>b.cs.ids|none=>[]
def ð (bx:Nat->Option aZ):Nat->List Nat->List Nat
 | 0,l=>l
 | n+1,l=>ð bx n (ô (l++l.flatMap (nY bx)))
def jo (bx:Nat->Option aZ)(l:List Nat):Bool:=l.all λs=>T0 (nY bx s) l
def XP (bx:Nat->Option aZ)(b:aZ)(β:Nat->Nat)(s:Nat):List Nat->Prop->Prop
 | [],k=>k
 | t::r,k=>cond (Nat.beq s t) (XP bx b β s r k) (match bx t with
  | some b'=>vr (Qs b++Qs b') (β s≠β t)->XP bx b β s r k
  | none=>False)
def j9 (bx:Nat->Option aZ)(β:Nat->Nat)(V:Ó):List Nat->Prop->Prop
 | [],k=>k
 | s::r,k=>match bx s with
  | some b=>vr (Qs b) (V.w.heap[β s]?=some (b.obj β))->vr (Qs b) (V.H (β s))->j9 bx β V r (XP bx b β s r k)
  | none=>False
def vb (vs:List Value)(n b:Nat):Nat:=
 match vs with
 | []=>n
 | _::_=>b
def eH (bx:Nat->Option aZ)(β:Nat->Nat)(n:Nat)(s:Nat):Nat:=
 match bx s with
 | some ⟨.aB vs,_⟩=>vb vs n (β s)
 | _=>β s
def C.kept:C->List Nat
 | .tQ _ ss=>0::ss
 | c=>c.ids
def oF (u:Option (Nat×Nat)):List C->List C->(List C->Prop)->Prop
 | [],_,K=>K []
 | c::r,z::y,K=>match c with
  | .dI t _ _=>match u with
   | some (m,D)=>match Nat.beq t m with
    | true=>∃n c:Nat,oF u r y λcs=>K (.dI D n c::cs)
    | false=>False
   | none=>False
  | c=>match c.kept with
   | []=>(shC z).ex λv=>oF u r y λcs=>K (v::cs)
   | _=>oF u r y λcs=>K (c::cs)
 | _,[],_=>False
def fL (T:dT)(z:Option (Nat×Nat))(β:Nat->Nat)(V:Ó):List Nat->St->(St->Prop)->Prop
 | [],st,k=>k st
 | s::r,st,k=>match st.boxes s with
  | some ⟨.lit cs,ty⟩=>match aH T ty with
   | some i=>oF z cs i.zero λy=>V.w.heap[β s]?=some (.cells (y.map (C.den β)).toArray ty (0,0))/\fL T z β V r (st.box s ⟨.lit y,ty⟩) k
   | none=>False
  | some ⟨.row _,ty⟩=>∃vs:List Value,V.w.heap[β s]?=some (.cells vs.toArray ty (0,0))/\fL T z β V r (st.box s ⟨.row vs,ty⟩) k
  | some ⟨.aB vs,ty⟩=>vs≠[]/\∃u:List Value,u≠[]/\V.w.heap[β s]?=some (.cells u.toArray ty (0,0))/\fL T z β V r (st.box s ⟨.aB u,ty⟩) k
  | _=>False
def uc (bx:Nat->Option aZ)(β:Nat->Nat)(V:Ó):List Nat->Prop->Prop
 | [],k=>k
 | s::r,k=>match bx s with
  | some b=>vr (Qs b) (V.aW (β s) (b.obj β))->uc bx β V r k
  | none=>False
def t_:List C->List Nat
 | []=>[]
 | .dI t _ _::r=>t::t_ r
 | _::r=>t_ r
def vC (bx:Nat->Option aZ)(L:List Nat):List Nat:=ô (L.flatMap λs=>match bx s with|some ⟨.lit cs,_⟩=>t_ cs|_=>[])
def oH:List SV->List Nat
 | []=>[]
 | .c (.dI s _ _)::_=>[s]
 | .c (.mQ s 0 _ _)::_=>[s]
 | _::r=>oH r
def z_ (u:Nat):List (Bool×List C)->List (Bool×List C)
 | []=>[]
 | (false,[.v (.slice _ n c)])::r=>(false,[.dI u n c])::r
 | x::r=>x::z_ u r
def GC (u:Nat):List C->List C
 | []=>[]
 | .v (.slice _ n c)::r=>.dI u n c::r
 | x::r=>x::GC u r
def xl (u:Nat):SV->SV
 | .c (.v (.slice _ n c))=>.c (.dI u n c)
 | .agg cs=>.agg (GC u cs)
 | .wG xs=>.wG (z_ u xs)
 | x=>x
def GD (T:dT):List TypeId->Option TypeId
 | []=>none
 | t::r=>match aH T t with
  | some i=>match i.k with
   | .slice e=>some e
   | _=>GD T r
  | none=>none
def R7 (T:dT)(ty:TypeId):Option TypeId:=
 match aH T ty with
 | some i=>match i.k with
  | .slice e=>some e
  | .tuple ts=>GD T ts
  | .struct fs=>GD T (fs.map Prod.fst)
  | _=>none
 | none=>none
def aI (β:Nat->Nat)(xs:List SV):Array Value:=(xs.map (SV.den β)).toArray
inductive CM where
 | none|ar|rel|j8|give
def gK (m:Option Nat)(d:Nat):Nat:=
 match m with
 | some m=>th m d
 | Option.none=>d
def mvP (m:Option Nat)(u:Nat):Option (Nat×Nat):=
 match m with
 | some m=>some (m,u)
 | Option.none=>Option.none
def Jn (m:Option Nat)(L:List Nat):List Nat:=
 match m with
 | some m=>L.filter λs=>!(Nat.beq s m)
 | Option.none=>L
def vo (m:Option Nat)(ety:TypeId)(st:St):St:=
 match m with
 | some m=>st.box m ⟨.aB [],ety⟩
 | Option.none=>st
def Dm (m:Option Nat)(st:St)(β:Nat->Nat)(b':Nat):Prop:=
 match m with
 | some m=>match st.boxes m with
  | some ⟨.aB vs,_⟩=>vs≠[]/\b'=β m
  | _=>b'=β m
 | Option.none=>False
def cF (T:dT)(give:Bool)(sh:Sh)(L:List Nat)(m:Option Nat)(d:Nat)(ety:TypeId)(β:Nat->Nat)(st:St)(V':Ó)(K:St->Ó->Prop)(D:Value)(y:Ó):Prop:=
 ∃(b':Nat)(u:List Value),(u≠[]->y.w.heap[b']?=some (.cells u.toArray ety (0,0)))/\(u≠[]->V'.w.heap.size<=b'\/Dm m st β b') /\
  sh.ex λx=>D=(cond give (xl (gK m d) x) x).den (cR β (gK m d) b') /\
   fL T (mvP m (gK m d)) (cR β (gK m d) b') y (Jn m L) ((vo m ety st).box (gK m d) ⟨.aB u,ety⟩) λz=>K (z.put (some d) (cond give (xl (gK m d) x) x)) (y.shut.bz (u≠[]) b')
def Hj (bx:Nat->Option aZ)(m ety:Nat):Bool:=
 match bx m with
 | some ⟨_,t⟩=>Nat.beq t ety
 | Option.none=>true
def er (st:St)(L:List Nat)(ty:TypeId):St:=L.foldl (λst s=>st.box s ⟨.aB [],ty⟩) st
def lC (st:St)(m:Option Nat)(d:Nat):Bool:=
 match st.boxes (gK m d) with
 | some _=>false
 | Option.none=>true
def gS (P:Program)(T:dT)(m:CM)(f:FuncId)(xs:List SV)(ty:TypeId)(dst:Option Nat)(st:St)(V:Ó)(K:St->Ó->Prop):Prop:=
 match shOf T ty with
 | Option.none=>False
 | some sh=>match ð st.boxes 3 (ô (xs.flatMap SV.ids)) with
  | []=>match m with
   | .give=>match dst,R7 T ty with
    | some d,some ety=>match lC st Option.none d with
     | false=>False
     | true=>∀V':Ó,V.Le V'->aa P f (aI (λ_=>0) xs) V' (cF T true sh [] Option.none d ety (λ_=>0) st V' K)
    | _,Option.none=>∀V':Ó,V.Le V'->aa P f (aI (λ_=>0) xs) V' λr u=>sh.ex λx=>r=x.den (λ_=>0)/\K (st.put dst x) u
    | _,_=>False
   | .j8=>match sh,dst with
    | .val (.one .ptr),some d=>match st.boxes d with
     | some _=>False
     | Option.none=>match aH T ty with
      | some D=>match D.k with
       | .ptr e=>match aH T e with
        | some E=>∀V':Ó,V.Le V'->aa P f (aI (λ_=>0) xs) V' λr u=>∃b:Nat,YF (E.zero.map shC) λcs=>
          r=.pointer (some ⟨b,0,Option.none⟩)/\V'.w.heap.size<=b/\u.aW b (.cells (cs.map (C.den λ_=>0)).toArray e (0,0))/\K ((st.box d ⟨.lit cs,e⟩).put (some d) (.c (.ptr d 0))) (u.Sc b)
        | Option.none=>False
       | _=>False
      | Option.none=>False
    | _,_=>False
   | _=>∀V':Ó,V.Le V'->aa P f (aI (λ_=>0) xs) V' λr u=>sh.ex λx=>r=x.den (λ_=>0)/\K (st.put dst x) u
  | s::r=>match jo st.boxes (s::r) with
   | false=>False
   | true=>match m with
    | .none|.j8=>False
    | .give=>match dst,R7 T ty,oH xs,vC st.boxes (s::r) with
     | some d,some ety,[],[]=>match lC st Option.none d with
      | false=>False
      | true=>∀V':Ó,V.Le V'->m_ (s::r) (λ_=>0) λβ=>j9 st.boxes β V' (s::r)
       (aa P f (aI β xs) (V'.ar ((s::r).map (eH st.boxes β V'.w.heap.size))) (cF T true sh (s::r) Option.none d ety β st V' K))
     | some d,some ety,[m],[]=>match Hj st.boxes m ety with
      | true=>match lC st (some m) d with
       | false=>False
       | true=>∀V':Ó,V.Le V'->m_ (s::r) (λ_=>0) λβ=>j9 st.boxes β V' (s::r)
        (aa P f (aI β xs) (V'.ar ((s::r).map (eH st.boxes β V'.w.heap.size))) (cF T true sh (s::r) (some m) d ety β st V' K))
      | false=>match lC (er st (s::r) 0) Option.none d with
       | false=>False
       | true=>match (s::r).all λt=>Nat.blt t 100000 with
        | false=>False
        | true=>∀V':Ó,V.Le V'->m_ (s::r) (λ_=>0) λβ=>uc st.boxes β V' (s::r)
         (aa P f (aI β xs) V' (cF T true sh [] Option.none d ety (λ_=>0) (er st (s::r) 0) V' K))
     | _,Option.none,_,_=>match (s::r).all λt=>Nat.blt t 100000 with
      | false=>False
      | true=>∀V':Ó,V.Le V'->m_ (s::r) (λ_=>0) λβ=>uc st.boxes β V' (s::r)
       (aa P f (aI β xs) V' λy u=>sh.ex λx=>y=x.den (λ_=>0)/\K ((er st (s::r) 0).put dst x) u)
     | _,_,_,_=>False
    | .ar=>match vC st.boxes (s::r) with
     | []=>∀V':Ó,V.Le V'->m_ (s::r) (λ_=>0) λβ=>j9 st.boxes β V' (s::r)
      (aa P f (aI β xs) (V'.ar ((s::r).map (eH st.boxes β V'.w.heap.size))) λy u=>sh.ex λx=>y=x.den (λ_=>0)/\fL T Option.none β u (s::r) st λz=>K (z.put dst x) u.shut)
     | [m]=>match dst,nh st.boxes m with
      | some d,some ety=>match lC st (some m) d with
       | false=>False
       | true=>∀V':Ó,V.Le V'->m_ (s::r) (λ_=>0) λβ=>j9 st.boxes β V' (s::r)
        (aa P f (aI β xs) (V'.ar ((s::r).map (eH st.boxes β V'.w.heap.size))) (cF T false sh (s::r) (some m) d ety β st V' K))
      | _,_=>False
     | _=>False
    | .rel=>match (s::r).all λt=>Nat.blt t 100000 with
     | false=>False
     | true=>∀V':Ó,V.Le V'->m_ (s::r) (λ_=>0) λβ=>uc st.boxes β V' (s::r)
      (aa P f (aI β xs) V' λy u=>sh.ex λx=>y=x.den (λ_=>0)/\∀J:C->Value,K ((st.rel (s::r) β J).put dst x) u)
def oU (bx:Nat->Option aZ):List SV->Option (List Value×Nat×List SV)
 | []=>none
 | x::r=>match x with
  | .c (.dI s n c)=>match bx s with
   | some ⟨.aB vs,_⟩=>some (vs,c,.c (.v (.slice none n c))::r)
   | _=>none
  | x=>match oU bx r with
   | some (vs,c,u)=>some (vs,c,x::u)
   | none=>none
def lN (P:Program)(T:dT)(m:CM)(f:FuncId)(xs:List SV)(ty:TypeId)(dst:Option Nat)(st:St)(V:Ó)(K:St->Ó->Prop):Prop:=
 match m with
 | .ar=>match oU st.boxes xs with
  | some (vs,c,u)=>(vs=[]->c=0/\gS P T .ar f u ty dst st V K)/\(vs≠[]->gS P T .ar f xs ty dst st V K)
  | none=>gS P T .ar f xs ty dst st V K
 | m=>gS P T m f xs ty dst st V K
def A7 (ss:List Nat):List SV:=ss.map λs=>.c (.ptr s 0)
inductive ù where
 | free|own (l:List Nat)
def mM (op:Op):List Operand:=
 match op with
 | .load _ a=>[a]
 | .store _ a _=>[a]
 | .call ⟨.value f,args,_⟩=>args.toList++[f]
 | .call ⟨.builtin .append,args,_⟩=>args.toList
 | _=>[]
def gR (bx:Nat->Option aZ)(op:Op)(l:List Nat):List Nat:=
 match op with
 | .call _=>ð bx 3 (ô l)
 | _=>l
def LX (P:Program)(t:TypeId)(name:String):Option FuncId:=
 match P.info? t,P.underlying t with
 | some i,some d=>match i.methods.find? (λm=>m.name==name) with
  | some m=>match m.path.toList,m.func,d with
   | [],some (f,false),.struct _=>some f
   | _,_,_=>none
  | none=>none
 | _,_=>none
def dR (P:Program)(T:dT)(m:CM)(o:Oper)(st:St)(V:Ó)(K:St->Ó->Prop):Prop:=
 match o.op with
 | .call ⟨.value u,args,_⟩=>match cN st.bJ args.toList with
  | some xs=>match st.bJ u with
   | some (.c (.tQ f ss))=>lN P T m f (xs++A7 ss) o.type o.dst st V K
   | some (.c (.UP f vs))=>lN P T .none f (.agg (vs.map .v)::xs) o.type o.dst st V K
   | _=>False
  | none=>False
 | .call ⟨.invoke recv name,args,_⟩=>match cN st.bJ args.toList with
  | some xs=>match st.bJ recv with
   | some (.c (.w (.iface t v)))=>match LX P t name with
    | some f=>lN P T m f (.c (.w v)::xs) o.type o.dst st V K
    | none=>False
   | _=>False
  | none=>False
 | op=>zf (aT T st.bJ st.boxes op) o.dst st V K
def dL (P:Program)(T:dT)(m:CM)(h:ù)(o:Oper)(st:St)(V:Ó)(K:St->Ó->Prop):Prop:=
 match h with
 | .free=>dR P T m o st V K
 | .own l=>match cN st.bJ (mM o.op) with
  | some xs=>match T0 (gR st.boxes o.op (xs.flatMap SV.ids)) l with
   | true=>dR P T m o st V K
   | false=>False
  | none=>False
def lM:SV:=.wG []
def we (P:Program)(T:dT)(m:CM)(h:ù)(ops:Array Oper)(o:Oper)(st:St)(V:Ó)(K:St->Ó->Prop):Prop:=
 match o.guard with
 | none=>dL P T m h o st V K
 | some (j,b)=>match (ops[j]?).bind (·.dst) with
  | none=>False
  | some g=>match st.ay g with
   | some (.c .tt)=>match b with
    | true=>dL P T m h o st V K
    | false=>K (st.put o.dst lM) V
   | some (.c .ff)=>match b with
    | true=>K (st.put o.dst lM) V
    | false=>dL P T m h o st V K
   | some (.c (.v (.bool c)))=>match b with
    | true=>(c=true->dL P T m h o (st.put (some g) (.c .tt)) V K)/\(c=false->K ((st.put (some g) (.c .ff)).put o.dst lM) V)
    | false=>(c=true->K ((st.put (some g) (.c .tt)).put o.dst lM) V)/\(c=false->dL P T m h o (st.put (some g) (.c .ff)) V K)
   | some (.wG _)=>K (st.put o.dst lM) V
   | _=>False
inductive Cls where
 | pure|load|store|alloc|call|nI|odd|j8|app|give
def bF (LF RF:List Nat):Op->Cls
 | .move _|.assign _|.pick ..| .build ..| .nilCheck _|.binOp ..| .unOp ..| .convert ..| .makeFunc ..| .slice ..| .fieldAddr ..| .field ..| .indexAddr ..| .extract ..| .index ..| .makeInterface ..=>.pure
 | .load ..=>.load
 | .store ..=>.store
 | .alloc _|.box ..| .buildSlice ..| .makeSlice ..=>.alloc
 | .call ⟨.builtin .len,_,_⟩|.call ⟨.builtin .cap,_,_⟩=>.pure
 | .call ⟨.builtin .append,_,_⟩=>.app
 | .call ⟨.value (.func f),_,_⟩=>match iK f LF with
  | true=>match iK (f+1000000) LF with
   | true=>.give
   | false=>.nI
  | false=>match iK f RF with
   | true=>.odd
   | false=>match iK (f+1000000) RF with
    | true=>.j8
    | false=>.call
 | .call ⟨.value _,_,_⟩=>.nI
 | .call ⟨.invoke _ _,_,_⟩=>.call
 | _=>.odd
def jV (op:Op):List Nat:=op.operands.toList.filterMap λ|.tmp t=>some t|_=>none
def gi (ops:Array Oper)(o:Oper):List Nat:=
 match o.guard with
 | none=>[]
 | some (j,_)=>match (ops[j]?).bind (·.dst) with
  | some g=>[g]
  | none=>[]
def fJ (o:Oper):List Nat:=match o.dst with|some d=>[d]|none=>[]
def vO (c:Cls)(h:ù)(d:List Nat):Option (List Nat×List Nat):=
 match c,h with
 | .pure,.free=>some ([],[])
 | .call,.free=>some ([],[])
 | .alloc,.free=>some (d,d)
 | .load,.own l=>some (l,[])
 | .store,.own l=>some (l,l)
 | .nI,.own l=>some (l,l++d++d.map (·+ 200000))
 | .app,.own l=>some (l,l++d++d.map (·+ 200000))
 | .give,.own l=>some (l,l++d++d.map (·+ 200000))
 | _,_=>none
def qJ:Cls->Bool
 | .pure|.load|.store|.alloc=>true
 | _=>false
def Ę (LF RF:List Nat)(ops:Array Oper)(E F:ù)(u y:Oper):Bool:=
 qJ (bF LF RF u.op) &&
 DT (fJ u) (jV y.op++gi ops y++fJ y)&&DT (fJ y) (jV u.op++gi ops u) &&
 DT (gi ops u) (jV y.op)&&DT (gi ops y) (jV u.op) &&
 match vO (bF LF RF u.op) E (fJ u),vO (bF LF RF y.op) F (fJ y) with
 | some (M,z),some (N,D)=>DT z N&&DT D M&&DT z D
 | _,_=>false
def fstOf (ops:List Oper)(t:Nat):Option Oper:=ops.find? λo=>match o.dst with|some d=>Nat.beq d t|none=>false
def Ck (st:St)(ops:List Oper):Nat->Operand->List Nat
 | 0,_=>[]
 | n+1,.tmp t=>match fstOf ops t with
  | some o=>match o.op with
   | .alloc _|.box ..| .buildSlice ..| .makeSlice ..=>[t]
   | .call _=>[t,t+200000]
   | .assign x=>Ck st ops n x++match st.ay t with
    | some x=>x.ids
    | none=>[]
   | .load _ a=>(Ck st ops n a).flatMap (nY st.boxes)
   | op=>op.operands.toList.flatMap (Ck st ops n)
  | none=>match st.ay t with
   | some x=>x.ids
   | none=>[]
 | _,_=>[]
def Se (LF RF:List Nat)(st:St)(ops:List Oper)(o:Oper):ù:=
 match bF LF RF o.op with
 | .load|.store=>.own (ô ((mM o.op).flatMap (Ck st ops 10)))
 | .nI|.app|.give=>.own (ð st.boxes 3 (ô ((mM o.op).flatMap (Ck st ops 10))))
 | _=>.free
def QH (ops:List Oper):List Nat:=
 ops.foldl (λacc o=>acc++[o.after.toList.foldl (λs e=>cond (Region.binds .any e) (Nat.lor (Nat.lor (Nat.shiftLeft 1 e.on) (acc.getD e.on 0)) s) s) 0]) []
def Ys (m i:Nat):Bool:=Nat.beq (Nat.land (Nat.shiftRight m i) 1) 1
def VB (LF RF:List Nat)(o:Oper):Bool:=match bF LF RF o.op with|.call|.nI|.odd|.j8|.app|.give=>true|_=>false
def Mm (ops:Array Oper)(done:List Nat)(i:Nat):Bool:=
 match ops[i]? with
 | some o=>!(iK i done)&&o.after.toList.all λe=>!(Region.binds .any e)||iK e.on done
 | none=>false
def Ho (LF RF:List Nat)(ops:Array Oper):Nat->List Nat->List Nat
 | 0,_=>[]
 | n+1,done=>
  let rs:=(List.range ops.size).filter (Mm ops done)
  match rs.find? (λi=>match ops[i]? with|some o=>!(VB LF RF o)|none=>false) with
  | some i=>i::Ho LF RF ops n (i::done)
  | none=>match rs with
   | i::_=>i::Ho LF RF ops n (i::done)
   | []=>[]
def ui (LF RF:List Nat)(ops:Array Oper):List Nat:=Ho LF RF ops ops.size []
def Ah (LF RF:List Nat)(ops:Array Oper)(u:List ù)(y:List Nat):List Nat->Bool
 | []=>true
 | i::r=>(r.all λj=>Ys (y.getD j 0) i||match ops[i]?,ops[j]? with|some a,some b=>Ę LF RF ops (u.getD i .free) (u.getD j .free) a b|_,_=>false)&&Ah LF RF ops u y r
def vH (ops:Array Oper):List Nat->List Nat->Bool
 | _,[]=>true
 | done,i::r=>Mm ops done i&&vH ops (i::done) r
def NX (LF RF:List Nat)(ops:Array Oper)(u:List ù)(l:List Nat):Bool:=
 Nat.beq l.length ops.size&&((List.range ops.size).all λi=>iK i l)&&vH ops [] l&&Ah LF RF ops u (QH ops.toList) l
def T_ (P:Program)(T:dT)(m:Nat->CM)(hint:Nat->ù)(ops:Array Oper):List Nat->St->Ó->(St->Ó->Prop)->Prop
 | [],st,V,K=>K st V
 | i::r,st,V,K=>match ops[i]? with
  | some o=>we P T (m i) (hint i) ops o st V λu V'=>T_ P T m hint ops r u V' K
  | none=>False
def mN (LF RF:List Nat)(ops:Array Oper)(i:Nat):CM:=
 match ops[i]? with
 | some o=>match bF LF RF o.op with
  | .nI=>.ar
  | .odd=>.rel
  | .j8=>.j8
  | .give=>.give
  | _=>.none
 | Option.none=>.none
def modeN (LF RF:List Nat)(ops:Array Oper)(i:Nat):CM:=
 match ops[i]? with
 | some o=>match bF LF RF o.op with
  | .nI=>.ar
  | .j8=>.j8
  | .give=>.give
  | _=>.rel
 | Option.none=>.none
structure Tm where
 τ:Type
 gh:Bool:=false
 keep:List Nat
 keepB:List Nat
 ay:τ->List (Nat×SV)
 boxes:τ->List (Nat×aZ)
structure Yb where
 τ:Type
 ay:τ->List (Nat×SV)
 boxes:τ->List (Nat×aZ)
def NG {α:Type}(f:Nat->Option α):List Nat->List (Nat×α)
 | []=>[]
 | t::r=>match f t with
  | some x=>(t,x)::NG f r
  | none=>NG f r
def Tm.at (A:Tm)(st:St):Yb:=⟨A.τ,λx=>NG st.ay A.keep++A.ay x,λx=>NG st.boxes A.keepB++A.boxes x⟩
def tS (ρ:List (Nat×Nat))(s s':Nat):Bool:=
 match aH ρ s' with
 | some t=>Nat.beq s t
 | none=>Nat.beq s s'
def Fg (ρ:List (Nat×Nat)):List Nat->List Nat->Bool
 | [],[]=>true
 | s::r,s'::u=>tS ρ s s'&&Fg ρ r u
 | _,_=>false
def eqC (ρ:List (Nat×Nat)):C->C->List Prop
 | .v (.int k a),.v (.int k' b)=>cond (Bx k k') [a=b] [False]
 | .v (.bool a),.v (.bool b)=>[a=b]
 | .tt,.v (.bool b)=>[true=b]
 | .ff,.v (.bool b)=>[false=b]
 | .v (.slice a n c),.v (.slice E u z)=>[a=E,n=u,c=z]
 | .v (.slice a n c),.dI _ u z=>[a=none,n=u,c=z,c=0]
 | .v (.pointer p),.v (.pointer q)=>[p=q]
 | .v x,.v y=>[x=y]
 | .w x,.w y=>[x=y]
 | .w x,.v y=>[x=y]
 | .v x,.w y=>[x=y]
 | .tt,.tt=>[]
 | .ff,.ff=>[]
 | .ptr s o,.ptr s' D=>cond (tS ρ s s') [o=D] [False]
 | .mQ s o n c,.mQ s' D u z=>cond (tS ρ s s') [o=D,n=u,c=z] [False]
 | .mQ s o n c,.dI s' u z=>cond (tS ρ s s') [o=0,n=u,c=z,c≠0] [False]
 | .dI s n c,.dI s' u z=>cond (tS ρ s s') [n=u,c=z] [False]
 | .tQ f ss,.tQ g ts=>cond (Fg ρ ss ts) [f=g] [False]
 | .UP f vs,.UP g ws=>[f=g,vs=ws]
 | _,_=>[False]
def Lx (ρ:List (Nat×Nat)):List C->List C->List Prop
 | [],[]=>[]
 | a::r,b::s=>eqC ρ a b++Lx ρ r s
 | _,_=>[False]
def YD (ρ:List (Nat×Nat)):SV->SV->List Prop
 | .c a,.c b=>eqC ρ a b
 | .agg l,.agg m=>Lx ρ l m
 | _,_=>[False]
def SV.plain:SV->Bool
 | .wG _=>false
 | _=>true
def RO (ρ:List (Nat×Nat))(a b:aZ):List Prop:=
 match a.cs,b.cs with
 | .lit l,.lit m=>cond (Nat.beq a.ty b.ty) (Lx ρ l m) [False]
 | .row l,.row m=>cond (Nat.beq a.ty b.ty) [l=m] [False]
 | .aB l,.aB m=>cond (Nat.beq a.ty b.ty) [l=m] [False]
 | .row l,.aB m=>cond (Nat.beq a.ty b.ty) [l=m] [False]
 | .lit l,.aB m=>match mD l with
  | some ws=>cond (Nat.beq a.ty b.ty) [ws=m] [False]
  | none=>[False]
 | .lit l,.row m=>match mD l with
  | some ws=>cond (Nat.beq a.ty b.ty) [ws=m] [False]
  | none=>[False]
 | _,_=>[False]
def renC:C->C->List (Nat×Nat)
 | .ptr s _,.ptr s' _=>[(s',s)]
 | .mQ s _ _ _,.mQ s' _ _ _=>[(s',s)]
 | .mQ s _ _ _,.dI s' _ _=>[(s',s)]
 | .dI s _ _,.dI s' _ _=>[(s',s)]
 | .tQ _ ss,.tQ _ ts=>ts.zip ss
 | _,_=>[]
def TE:List C->List C->List (Nat×Nat)
 | a::r,b::s=>renC a b++TE r s
 | _,_=>[]
def renSV:SV->SV->List (Nat×Nat)
 | .c a,.c b=>renC a b
 | .agg l,.agg m=>TE l m
 | _,_=>[]
def ZM (st:St):List (Nat×SV)->List (Nat×Nat)
 | []=>[]
 | (t,x)::r=>match st.ay t with
  | some y=>renSV y x++ZM st r
  | none=>ZM st r
def P0 (st:St)(ρ:List (Nat×Nat)):List (Nat×aZ)->List (Nat×Nat)
 | []=>[]
 | (t,x)::r=>match aH ρ t with
  | some s=>match st.boxes s with
   | some y=>(match y.cs,x.cs with|.lit l,.lit m=>TE l m|_,_=>[])++P0 st ρ r
   | none=>P0 st ρ r
  | none=>P0 st ρ r
def TD (st:St)(ss:List (Nat×SV))(u:List (Nat×aZ)):List (Nat×Nat):=
 let ρ1:=ZM st ss
 let ρ2:=ρ1++P0 st ρ1 u
 let ρ3:=ρ2++P0 st ρ2 u
 ρ3++P0 st ρ3 u
def JW (ρ:List (Nat×Nat))(t:Nat):Nat:=
 match aH ρ t with
 | some s=>s
 | none=>t
def FF (ρ:List (Nat×Nat)):List Nat->Bool
 | []=>true
 | t::r=>(Nat.blt t 100000==Nat.blt (JW ρ t) 100000)&&(Nat.blt t 100000||Nat.ble 200000 t||Nat.beq (JW ρ t) t)&&(r.all λu=>!(Nat.beq (JW ρ t) (JW ρ u)))&&FF ρ r
def qM (ρ:List (Nat×Nat)):List (Nat×aZ)->List Nat
 | []=>[]
 | (t,x)::r=>match x.cs with
  | .aB _=>match aH ρ t with
   | some _=>t::qM ρ r
   | none=>qM ρ r
  | _=>t::qM ρ r
def Vg (ρ:List (Nat×Nat))(st:St):List (Nat×SV)->List Prop
 | []=>[]
 | (t,x)::r=>match st.ay t with
  | some y=>YD ρ y x++Vg ρ st r
  | none=>[False]
def Ph (ρ:List (Nat×Nat))(st:St):List (Nat×aZ)->List Prop
 | []=>[]
 | (t,x)::r=>match x.cs,aH ρ t with
  | .aB l,none=>(l=[])::Ph ρ st r
  | _,_=>match st.boxes (JW ρ t) with
   | some y=>RO ρ y x++Ph ρ st r
   | none=>[False]
def fitR (ρ:List (Nat×Nat))(u:List (Nat×aZ)):List Prop:=cond (FF ρ (qM ρ u)) [] [False]
def qY (ss:List (Nat×SV))(u:List (Nat×aZ)):Bool:=
 let l:=u.map (·.1)
 (ss.all λx=>x.2.ids.all λs=>iK s l)&&(u.all λx=>x.2.cs.ids.all λs=>iK s l)
def Yb.st (A:Yb)(x:A.τ):St:=⟨aH (A.ay x),aH (A.boxes x)⟩
def Ym:List Prop->Prop
 | []=>True
 | [p]=>p
 | p::r=>p/\Ym r
def Yb.fits (A:Yb)(st:St)(x:A.τ)(k:Prop):Prop:=
 let ρ:=TD st (A.ay x) (A.boxes x)
 Ym (Vg ρ st (A.ay x)++Ph ρ st (A.boxes x)++fitR ρ (A.boxes x))/\k
def ė:Code->Nat
 | .region id _ _=>id
 | .seq a _=>ė a
 | .cond _ a b=>match ė a with
  | 1000000=>ė b
  | n=>n
 | .block _ a=>ė a
 | .loop a=>ė a
 | .scope a=>ė a
 | _=>1000000
abbrev Ia:=List (Nat×Tm)
def uG:Ia->Nat->Option Tm
 | [],_=>none
 | (s,x)::r,t=>cond (Nat.beq t s) (some x) (uG r t)
def XV (RF:List Nat)(id:Nat):List Nat:=RF.filterMap λx=>cond (Nat.beq (x/100000) (100+id)) (some (x%100000)) none
def Oy (l:List Nat)(st:St)(V:Ó)(K:St->Ó->Prop):Prop:=
 match l with
 | []=>K st V
 | s::r=>match jo st.boxes (s::r)&&(s::r).all λt=>Nat.blt t 100000 with
  | false=>False
  | true=>∀V':Ó,V.Le V'->m_ (s::r) (λ_=>0) λβ=>uc st.boxes β V' (s::r) (∀J:C->Value,K (st.rel (s::r) β J) V')
def Kj (P:Program)(T:dT)(LF RF:List Nat)(ops:Array Oper)(draw:Bool)(st:St)(V:Ó)(K:St->Ó->Prop):Prop:=
 match draw with
 | false=>T_ P T (modeN LF RF ops) (λ_=>.free) ops (List.range ops.size) st V K
 | true=>let u:=ops.toList.map (Se LF RF st ops.toList)
  match NX LF RF ops u (ui LF RF ops) with
  | true=>T_ P T (mN LF RF ops) (λi=>u.getD i .free) ops (ui LF RF ops) st V K
  | false=>False
def unr (F:St->Ó->(Exit->St->Ó->Prop)->Prop):Nat->St->Ó->(Exit->St->Ó->Prop)->Prop
 | 0,_,_,_=>False
 | n+1,st,V,K=>F st V λe u V'=>match e with
  | .normal=>unr F n u V' K
  | e=>K e u V'
def vc (P:Program)(T:dT)(LF RF:List Nat)(L J:Ia):Code->St->Ó->(Exit->St->Ó->Prop)->Prop
 | .skip,st,V,K=>K .normal st V
 | .region id ops draw,st,V,K=>match uG J (600000+id) with
  | none=>Oy (XV RF id) st V λu V'=>Kj P T LF RF ops draw u V' (K .normal)
  | some A=>∃I:A.τ->Ó->Prop,Oy (XV RF id) st V (λu V'=>Kj P T LF RF ops draw u V' λD z=>∃x,(A.at st).fits D x (I x z)) /\
   ∀x V',V.Le V'->I x V'->(qY ((A.at st).ay x) ((A.at st).boxes x)=true/\K .normal ((A.at st).st x) V')
 | .seq a b,st,V,K=>vc P T LF RF L J a st V λe u V'=>match e with
  | .normal=>vc P T LF RF L J b u V' K
  | e=>K e u V'
 | .cond c a b,st,V,K=>match uG J (ė (.cond c a b)) with
  | none=>match st.bJ c with
   | some (.c .tt)=>vc P T LF RF L J a st V K
   | some (.c .ff)=>vc P T LF RF L J b st V K
   | some (.c (.v (.bool t)))=>(t=true->vc P T LF RF L J a st V K)/\(t=false->vc P T LF RF L J b st V K)
   | _=>False
  | some A=>match st.bJ c with
   | some (.c .tt)=>vc P T LF RF L J a st V K
   | some (.c .ff)=>vc P T LF RF L J b st V K
   | some (.c (.v (.bool t)))=>∃I:A.τ->Ó->Prop,
    ((t=true->vc P T LF RF L J a st V λe u V'=>match e with
     | .normal=>∃x,(A.at st).fits u x (I x V')
     | e=>K e u V') /\
      (t=false->vc P T LF RF L J b st V λe u V'=>match e with
     | .normal=>∃x,(A.at st).fits u x (I x V')
     | e=>K e u V')) /\
    ∀x V',V.Le V'->I x V'->(qY ((A.at st).ay x) ((A.at st).boxes x)=true/\K .normal ((A.at st).st x) V')
   | _=>False
 | .block id a,st,V,K=>match uG J (500000+id) with
  | none=>vc P T LF RF L J a st V λe u V'=>match e with
   | .exit i=>cond (Nat.beq i id) (K .normal u V') (K (.exit i) u V')
   | e=>K e u V'
  | some A=>∃I:A.τ->Ó->Prop,vc P T LF RF L J a st V (λe u V'=>match e with
   | .exit i=>cond (Nat.beq i id) (∃x,(A.at st).fits u x (I x V')) (K (.exit i) u V')
   | .normal=>∃x,(A.at st).fits u x (I x V')
   | e=>K e u V')/\∀x V',V.Le V'->I x V'->(qY ((A.at st).ay x) ((A.at st).boxes x)=true/\K .normal ((A.at st).st x) V')
 | .loop a,st,V,K=>match uG L (ė a) with
  | none=>unr (λst V K=>vc P T LF RF L J a st V K) 3 st V K
  | some A=>match A.gh with
   | false=>∃(I:A.τ->Ó->Prop)(m:A.τ->Nat),(∃x,(A.at st).fits st x (I x V))/\∀x V',V.Le V'->I x V'->(qY ((A.at st).ay x) ((A.at st).boxes x)=true /\
    vc P T LF RF L J a ((A.at st).st x) V' λe u z=>match e with
     | .normal=>∃y,m y<m x/\(A.at st).fits u y (I y z)
     | e=>K e u z)
   | true=>∃I:A.τ->Nat->Ó->Prop,(∃x k,(A.at st).fits st x (I x k V))/\∀x k V',V.Le V'->I x k V'->(qY ((A.at st).ay x) ((A.at st).boxes x)=true /\
    vc P T LF RF L J a ((A.at st).st x) V' λe u z=>match e with
     | .normal=>∃y k',k'<k/\(A.at st).fits u y (I y k' z)
     | e=>K e u z)
 | .exit id,st,V,K=>K (.exit id) st V
 | .ret,st,V,K=>K .ret st V
 | .scope a,st,V,K=>vc P T LF RF L J a st V λe u V'=>match e with
  | .goto _=>False
  | e=>K e u V'
 | .label _,st,V,K=>K .normal st V
 | _,_,_,_=>False
def oT (T:dT)(st:St):List ResultVar->Option (List SV)
 | []=>some []
 | .tmp t::r=>match st.ay t,oT T st r with
  | some x,some l=>some (x::l)
  | _,_=>none
 | .cell a t::r=>match st.ay a,aH T t,oT T st r with
  | some (.c (.ptr s o)),some i,some l=>match lG st.boxes i (.c (.ptr s o)) with
   | .ret _ x=>some (x::l)
   | _=>none
  | _,_,_=>none
def ý (l m:List Nat):List Nat:=l.filter λx=>!(iK x m)
def QT (bx:Nat->Option aZ)(β:Nat->Nat)(V:Ó):List Nat->Prop->Prop
 | [],k=>k
 | s::r,k=>match bx s with
  | some ⟨.aB _,_⟩=>False
  | some b=>V.w.heap[β s]?=some (b.obj β)->QT bx β V r k
  | none=>False
def lV:List (Nat×aZ)->List Nat
 | []=>[]
 | (s,b)::r=>match b.cs with
  | .aB _=>lV r
  | _=>s::lV r
def SL (u:List (Nat×aZ))(β0:Nat->Nat)(b:Nat)(k:Prop):Prop:=
 match u with
 | []=>k
 | (m,x)::r=>match x.cs with
  | .aB vs=>(vs≠[]/\b=β0 m)\/SL r β0 b k
  | _=>SL r β0 b k
def oS (β:Nat->Nat):List SV->Value
 | [x]=>x.den β
 | l=>.tuple (l.map (SV.den β)).toArray
def yF (T:dT)(bx:Nat->Option aZ)(s:Nat):Bool:=
 cond (Nat.ble 100000 s) true (match bx s with|some ⟨.row _,ty⟩|some ⟨.aB _,ty⟩=>Nat.ble 2 (T.filter λx=>Nat.beq x.1 ty).length|some ⟨.lit _,ty⟩=>Nat.ble 3 (T.filter λx=>Nat.beq x.1 ty).length|_=>false)
def Ob (T:dT)(rs:List ResultVar)(u:List (Nat×aZ))(β0:Nat->Nat)(y:Nat)(R:Value->Ó->Prop)(st:St)(V:Ó):Prop:=
 match oT T st rs with
 | none=>False
 | some xs=>let F:=lV u
  let L:=ð st.boxes 3 (ô (xs.flatMap SV.ids++F))
  match jo st.boxes L with
  | false=>False
  | true=>match (ý L F).filter (yF T st.boxes) with
   | []=>∀V':Ó,V.Le V'->m_ (ý L F) β0 λβ=>QT st.boxes β V' F (uc st.boxes β V' (ý L F) (R (oS β xs) V'))
   | [s]=>match st.boxes s with
    | some b=>∀V':Ó,m_ (ý L F) β0 λβ=>V.Le (V'.bz (gdP b) (β s))->QT st.boxes β V' F (vr (Qs b) (V'.w.heap[β s]?=some (b.obj β)) ->
      vr (Qs b) (y<=β s\/SL u β0 (β s) False)->uc st.boxes β V' ((ý L F).filter (!Nat.beq s ·)) (R (oS β xs) V'))
    | none=>False
   | _=>False
def vcFn (P:Program)(T:dT)(LF RF:List Nat)(L J:Ia)(code:Code)(rs:List ResultVar)(ss:List (Nat×SV))(u:List (Nat×aZ))(β0:Nat->Nat)(V:Ó)(R:Value->Ó->Prop):Prop:=
 vc P T LF RF L J code ⟨aH ss,aH u⟩ V λe st V'=>match e with
  | .normal=>Ob T rs u β0 V.w.heap.size R st V'
  | .ret=>Ob T rs u β0 V.w.heap.size R st V'
  | _=>False
def jP (n:Nat):Code->Bool
 | .region _ ops _=>ops.toList.all λo=>match o.dst with|some d=>Nat.blt d n|none=>true
 | .seq a b=>jP n a&&jP n b
 | .cond _ a b=>jP n a&&jP n b
 | .block _ a=>jP n a
 | .loop a=>jP n a
 | .scope a=>jP n a
 | _=>true
def rY:Nat->List (Nat×SV)->Bool
 | _,[]=>true
 | i,(j,x)::r=>Nat.beq i j&&x.plain&&rY (i+1) r
def Hz (P:Program)(T:dT)(LF RF:List Nat)(L J:Ia)(fn:Func)(ss:List (Nat×SV))(u:List (Nat×aZ))(β0:Nat->Nat)(V:Ó)(R:Value->Ó->Prop):Prop:=
 match fn.body with
 | some code=>match jP fn.ntmps code&&rY 0 ss&&Nat.ble ss.length fn.ntmps&&Nat.ble fn.ntmps 100000&&(u.all λb=>Nat.ble 100000 b.1&&Nat.blt b.1 200000)&&qY ss u with
  | true=>vcFn P T LF RF L J code fn.results.toList ss u β0 V R
  | false=>False
 | none=>False
theorem Ó.Le.refl (V:ut):V.Le V:=λ_ _ h=>h
def Ó.Le.m {u:ut}(h:V.Le V')(k:V'.Le u):V.Le u:=λb o x=>k b o (h b o x)
def leLd {u:zA Nat}(h:V.Le V'):V.Le (V'.ar u):=h
def leSh (h:V.Le V'):V.Le V'.shut:=h
def au (h:V.Le V':=by with_reducible repeat first|assumption|exact Ó.Le.refl _|apply leLd|apply leSh|refine Ó.Le.m ?_ ξ):V.Le V':=h
def ra {p:Prop}(h:p:=by first|exact .le (by with_reducible assumption) au|exact .le (by with_reducible assumption) au λ_ _ g=>.le g au):p:=h
def Ó.Le.at (h:V.Le V'){p:Addr}{v:un}(k:V.at p v):V'.at p v:=by obtain ⟨b,a⟩:=k;unfold World.cell? at a;split at a;{rename_i c;have ⟨d,e⟩:=h p.block _ ⟨b,c⟩;refine ⟨d,?_⟩<;>grind [World.cell?]};{cases a}
theorem j_.refl (X:Nat->Prop)(w:World):j_ X w w:=⟨Ù _,λ_ _ _=>rfl,rfl,rfl,rfl,Ù _⟩
def j_.m {X:Nat->Prop}{a b c:World}(h:j_ X a b)(k:j_ X b c):j_ X a c:=
 ⟨ü h.size k.size,λi d e=>(k.aW i (ĺ d h.size) e).m (h.aW i d e),k.os.m h.os,k.tape.m h.tape,k.out.m h.out,ü h.dr k.dr⟩
def j_.s {X Y:Nat->Prop}{a b:World}(h:j_ X a b)(hxy:∀i,X i->Y i):j_ Y a b:=
 ⟨h.size,λi c d=>h.aW i c λe=>d (hxy i e),h.os,h.tape,h.out,h.dr⟩
def Ó.Sx (V:ut)(w':World)(u:j_ V.X V.w w'):V.Le (V.to w' u.size):=by rintro b o ⟨a,d⟩;refine ⟨a,?_⟩;have c:b<V.w.heap.size:=χ;show w'.heap[b]?=some o;grind [u.aW,V.hX]
def aa.s {P:Program}{f:FuncId}{args:Array un}{R u:un->ut->Prop}(h:aa P f args V R)(y:∀r V',V.Le V'->R r V'->u r V'):aa P f args V u:=
 ⟨h.1,h.2.s λ_ b ⟨r,he,a,c⟩=>⟨r,he,a,y r _ (V.Sx b a) c⟩⟩
structure KZ where
 ids:List Nat
 B:Nat->Prop
section
variable (n:Nat) (V0:Ó) (bQ:KZ) (β0:Nat->Nat)
structure ß (st:St) (β:Nat->Nat) (a:Act) (w:World) (V:Ó):Prop where
 defers:a.defers=[]
 size:a.tmps.size=n
 ay:∀t x,st.ay t=some x->a.tmps.getD t undef=x.den β
 Dv:∀t x,st.ay t=some x->∀s∈x.ids,∃b,st.boxes s=some b
 Du:∀s b,st.boxes s=some b->∀s'∈b.cs.ids,∃b',st.boxes s'=some b'
 boxes:∀s b,st.boxes s=some b->b.live->w.heap[β s]?=some (b.obj β)
 inj:∀s s' b b',st.boxes s=some b->b.live->st.boxes s'=some b'->b'.live->β s=β s'->s=s'
 sw:∀b o,V.aW b o->w.heap[b]?=some o/\¬V0.H b
 yV:∀s b,st.boxes s=some b->b.live->∀o,¬V.aW (β s) o
 ext:j_ V0.X V0.w w
 own:∀s b,st.boxes s=some b->b.live->V0.w.heap.size<=β s\/(100000<=s/\bQ.B (β s))
 nX:∀s∈bQ.ids,(100000<=s/\s<200000)/\β s=β0 s
 mG:∀b,bQ.B b->V0.X b
 small:n<=100000
end
theorem dG {cs:zA C}{ty:TypeId}:aZ.live ⟨.lit cs,ty⟩:=λ_ h=>nomatch h
theorem dH {vs:zA un}{ty:TypeId}:aZ.live ⟨.row vs,ty⟩:=λ_ h=>nomatch h
theorem fW {vs:zA un}{ty:TypeId}(h:vs≠[]):aZ.live ⟨.aB vs,ty⟩:=λ_ e=>by cases e;exact h
theorem fN {ty:TypeId}:¬aZ.live ⟨.aB [],ty⟩:=λh=>h [] rfl rfl
theorem ko {b:aZ}{k:Prop}:vr (Qs b) k↔(b.live->k):=by obtain ⟨cs,ty⟩:=b;(cases cs with|lit cs=>exact ⟨λh _=>h,λh=>h dG⟩|row cs=>exact ⟨λh _=>h,λh=>h dH⟩|aB vs=>exact ⟨λh l=>h (l vs rfl),λh l=>h (fW l)⟩)
theorem yv {l m:zA Prop}{k:Prop}:vr (l++m) k↔vr l (vr m k):=by
 induction l with
 | nil=>exact Wk0
 | cons p r u=>exact ⟨λh a=>u.1 (h a),λh a=>u.2 (h a)⟩
def Vm {b:aZ}:gdP b↔b.live:=by obtain ⟨cs,ty⟩:=b;(cases cs with|lit cs=>exact ⟨λ_=>dG,λ_=>trivial⟩|row cs=>exact ⟨λ_=>dH,λ_=>trivial⟩|aB vs=>exact ⟨λh=>fW h,λl=>l vs rfl⟩)
theorem C.bX {β β':Nat->Nat}{c:C}(h:∀s∈c.ids,β s=β' s):c.den β=c.den β':=by
 cases c with
 | v x=>rfl
 | w x=>rfl
 | tt=>rfl
 | ff=>rfl
 | ptr s o=>simp [C.den,h s (by simp [C.ids])]
 | mQ s o n c=>simp [C.den,h s (by simp [C.ids])]
 | dI s n c=>simp [C.den,h s (by simp [C.ids])]
 | tQ f ss=>
  have:(ss.map λs=>Value.pointer (some ⟨β s,0,none⟩))=ss.map λs=>Value.pointer (some ⟨β' s,0,none⟩):=
   ś λs a=>by rw [h s (by simpa [C.ids] using a)]
  simp only [C.den,this]
 | UP f vs=>rfl
def EY {β:Nat->Nat}:∀{cs:zA C} {vs:zA un},Nl cs=some vs->cs.map (C.den β)=vs
 | [],_,h=>by cases h;rfl
 | .v x::r,vs,h=>by
  unfold Nl at h;split at h
  ·rename_i l u;cases h;rw [Ķ,EY u];rfl
  ·cases h
theorem oE {β β':Nat->Nat}{cs:zA C}(h:∀s∈cs.flatMap C.ids,β s=β' s):cs.map (C.den β)=cs.map (C.den β'):=
 ś λc a=>C.bX λs b=>h s (ĕ.2 ⟨c,a,b⟩)
def DQ {β β':Nat->Nat}{x:md×zA C}(h:∀s∈x.2.flatMap C.ids,β s=β' s):kf β x=kf β' x:=by
 obtain ⟨b,cs⟩:=x
 cases b with
 | true=>simp only [kf];rw [oE h]
 | false=>
  match cs,h with
  | [],_=>rfl
  | [c],h=>simp only [kf];exact C.bX λs a=>h s (by simpa using a)
  | _::_::_,_=>rfl
theorem SV.bX {β β':Nat->Nat}{x:SV}(h:∀s∈x.ids,β s=β' s):x.den β=x.den β':=by (cases x with|c x=>exact C.bX h|agg cs=>{simp only [SV.den];rw [oE h]}|wG xs=>{simp only [SV.den];congr 2;exact ś λx a=>DQ λs b=>h s (ĕ.2 ⟨x,a,b⟩)})
theorem ç.bX {β β':Nat->Nat}{x:ç}(h:∀s∈x.ids,β s=β' s):x.den β=x.den β':=by (cases x with|lit cs=>exact oE h|row vs=>rfl|aB vs=>rfl)
theorem aZ.dz {β β':Nat->Nat}{x:aZ}(h:∀s∈x.cs.ids,β s=β' s):x.obj β=x.obj β':=by simp only [aZ.obj];rw [ç.bX h]
variable {P:Program} {T:dT} {n:Nat} {V0:Ó} {bQ:KZ} {β0:Nat->Nat} {st:St} {β:Nat->Nat} {a:Act} {w:World} {V:Ó}
theorem ß.eval (h:ß n V0 bQ β0 st β a w V){x:Operand}{v:SV}(u:st.bJ x=some v):a.eval x=v.den β:=by
 cases x with
 | tmp t=>exact h.ay t v u
 | const c=>
  simp only [St.bJ,ÿ] at u;subst u;simp only [Act.eval];unfold SV.ofConst;split
  ·rfl
  ·rfl
  ·rename_i cs;simp only [SV.den];congr 1
   have:∀l:zA un,(l.map C.ofConst).map (C.den β)=l:=by
    intro l
    induction l with
    | nil=>rfl
    | cons y r z=>
     simp only [Ķ,z];congr 1;unfold C.ofConst;split<;>rfl
   rw [this]
  ·rfl
 | global g=>simp only [St.bJ,ÿ] at u;subst u;rfl
 | func f=>simp only [St.bJ,ÿ] at u;subst u;simp [Act.eval,SV.den,C.den]
def ß.live (h:ß n V0 bQ β0 st β a w V){x:Operand}{v:SV}(u:st.bJ x=some v):∀s∈v.ids,∃b,st.boxes s=some b:=by (cases x with|const c=>{simp only [St.bJ,ÿ] at u;subst u;intro s d;exfalso;have e:∀y,(C.ofConst y).ids=[]:=by{intro y;unfold C.ofConst;split<;>rfl};unfold SV.ofConst at d;grind [SV.ids,C.ids]}|_=>grind [h.Dv,St.bJ,SV.ids,C.ids])
def beq_eq {a b:Nat}:Nat.beq a b=true↔a=b:=by constructor;{exact Nat.eq_of_beq_eq_true};{intro h;subst h;exact Qn2 a}
theorem eA (st:St)(d:Nat)(x:SV)(t:Nat):(st.put (some d) x).ay t=if t=d then some x else st.ay t:=by grind [St.put,Nat.beq_refl,beq_eq.1]
theorem aj (st:St)(s:Nat)(b:aZ)(t:Nat):(st.box s b).boxes t=if t=s then some b else st.boxes t:=by grind [St.box,Nat.beq_refl,beq_eq.1]
def vk (l:Array un)(d t:Nat)(v:un)(u:d<l.size):(l.setIfInBounds d v).getD t undef=if t=d then v else l.getD t undef:=by by_cases h:t=d;{subst h;simp [u]};{simp [h,Ne.symm h]}
theorem ß.put (h:ß n V0 bQ β0 st β a w V){d:Nat}{x:SV}{v:un}(u:d<n)(D:v=x.den β)(z:∀s∈x.ids,∃b,st.boxes s=some b):ß n V0 bQ β0 (st.put (some d) x) β (a.put (some d) v) w V where
 defers:=h.defers
 size:=by simp [Act.put,h.size]
 ay:=by
  intro t y c;rw [eA] at c;show (a.tmps.setIfInBounds d v).getD t undef=_;rw [vk _ _ _ _ (by rw [h.size];exact u)];grind [h.ay]
 Dv:=by intro t y c;rw [eA] at c;split at c;{simp only [ÿ] at c;rw [<-c];exact z};{exact h.Dv t y c}
 Du:=h.Du
 boxes:=h.boxes
 inj:=h.inj
 sw:=h.sw
 yV:=h.yV
 ext:=h.ext
 own:=h.own
 nX:=h.nX
 mG:=h.mG
 small:=h.small
def ß.JM (h:ß n V0 bQ β0 st β a w V){d:Option Nat}{x:SV}{v:un}(u:∀k,d=some k->k<n)(y:v=x.den β)(z:∀s∈x.ids,∃b,st.boxes s=some b):ß n V0 bQ β0 (st.put d x) β (a.put d v) w V:=by (cases d with|none=>exact h|some d=>exact h.put (u d rfl) y z)
def ß.drew (h:ß n V0 bQ β0 st β a w V):ß n V0 bQ β0 st β a { w with drawn:=w.drawn+1 } V:=
 ⟨h.defers,h.size,h.ay,h.Dv,h.Du,h.boxes,h.inj,h.sw,h.yV,⟨h.ext.size,h.ext.aW,h.ext.os,h.ext.tape,h.ext.out,Nat.le_succ_of_le h.ext.dr⟩,h.own,h.nX,h.mG,h.small⟩
def aJ {w:World}{b:Nat}{o:Obj}(h:w.heap[b]?=some o):b<w.heap.size:=χ
theorem eZ (w:World)(o:Obj){b:Nat}(h:b<w.heap.size):(w.alloc o).heap[b]?=w.heap[b]?:=by show (w.heap.push o)[b]?=_;grind
def heap_alloc_new (w:World)(o:Obj):(w.alloc o).heap[w.heap.size]?=some o:=by show (w.heap.push o)[w.heap.size]?=_;rw [Array.getElem?_push,Ä rfl]
theorem bg (β:Nat->Nat)(s b:Nat):cR β s b s=b:=by simp [cR,Qn2]
theorem iF (β:Nat->Nat){s t:Nat}(b:Nat)(h:t≠s):cR β s b t=β t:=by have:Nat.beq t s=false:=by{grind [beq_eq.1]};simp [cR,this]
def ß.new (h:ß n V0 bQ β0 st β a w V){d:Nat}{b:aZ}(M:d<n)(F:st.boxes d=none)(N:∀s∈b.cs.ids,∃b',st.boxes s=some b'):ß n V0 bQ β0 (st.box d b) (cR β d w.heap.size) a (w.alloc (b.obj β)) V:=by have r:∀s b',st.boxes s=some b'->s≠d:=λs b' c e=>by{rw [e,F] at c;cases c};have hβ:∀s b',st.boxes s=some b'->cR β d w.heap.size s=β s:=λs b' c=>iF _ _ (r s b' c);have f:∀s b',st.boxes s=some b'->b'.live->β s<w.heap.size:=λs b' c l=>aJ (h.boxes s b' c l);have A:∀b' o,V.aW b' o->b'<w.heap.size:=λb' o B=>aJ (h.sw b' o B).1;refine ⟨h.defers,h.size,?_,?_,?_,?_,?_,?_,?_,?_,?_,?_,h.mG,?_⟩;{intro t x m;rw [h.ay t x m];exact SV.bX λs c=>by{have ⟨b',g⟩:=h.Dv t x m s c;exact (hβ s b' g).symm}};{intro t x m s c;have ⟨b',g⟩:=h.Dv t x m s c;grind [aj]};{grind [aj,h.Du]};{intro s b' c l;rw [aj] at c;split at c;{rename_i e;simp only [ÿ] at c;rw [e,bg,heap_alloc_new,<-c];grind [aZ.dz]};{rw [hβ s b' c,eZ _ _ (f s b' c l),h.boxes s b' c l];grind [aZ.dz,h.Du]}};{intro s u v y j C k D he;rw [aj] at j k;split at j<;>split at k;{rename_i p q;rw [p,q]};{rename_i p q;rw [p,bg,hβ u y k] at he;have:=f u y k D;omega};{rename_i p q;rw [q,bg,hβ s v j] at he;have:=f s v j C;omega};grind [h.inj]};{grind [h.sw,eZ]};{intro s b' c l o z;rw [aj] at c;split at c;{rename_i e;rw [e,bg] at z;have:=A _ o z;omega};grind [h.yV]};{exact h.ext.m ⟨ψ,λi E _=>eZ _ _ E,rfl,rfl,rfl,Ù _⟩};{intro s b' c l;rw [aj] at c;split at c;{rename_i e;rw [e,bg];exact .inl h.ext.size};{rw [hβ s b' c];exact h.own s b' c l}};{intro s c;have ⟨j,k⟩:=h.nX s c;grind [iF,h.small]};{exact h.small}
def ß.void (h:ß n V0 bQ β0 st β a w V){s:Nat}{ty:TypeId}:ß n V0 bQ β0 (st.box s ⟨.aB [],ty⟩) β a w V:=by have hw:∀t b,st.boxes t=some b->∃u,(st.box s ⟨.aB [],ty⟩).boxes t=some u:=by{grind [aj]};have e:∀t b,(st.box s ⟨.aB [],ty⟩).boxes t=some b->b.live->st.boxes t=some b:=by{grind [aj,fN]};refine ⟨h.defers,h.size,h.ay,?_,?_,λt b c l=>h.boxes t b (e t b c l) l,λt k m o p i q j=>h.inj t k m o (e _ _ p i) i (e _ _ q j) j,h.sw,λt b c l=>h.yV t b (e t b c l) l,h.ext,λt b c l=>h.own t b (e t b c l) l,h.nX,h.mG,h.small⟩;{intro t x r f d;have ⟨b,g⟩:=h.Dv t x r f d;exact hw f b g};{intro t b c f d;have:∃u,st.boxes f=some u:=by{rw [aj] at c;split at c;{cases c;cases d};grind [h.Du]};grind}
def ß.zd (h:ß n V0 bQ β0 st β a w V){s:Nat}{b b':aZ}(D:st.boxes s=some b)(lb:b.live)(M:∀s'∈b'.cs.ids,∃z,st.boxes s'=some z){w':World}(hw:w'.heap=w.heap.setIfInBounds (β s) (b'.obj β))(E:w'.os=w.os)(F:w'.tape=w.tape)(hout:w'.output=w.output)(hdr:w.drawn<=w'.drawn:=by first|exact Ù _|exact Ww1 _):ß n V0 bQ β0 (st.box s b') β a w' V:=by have l:=aJ (h.boxes s b D lb);have o:∀i,w'.heap[i]?=if i=β s then some (b'.obj β) else w.heap[i]?:=χ;refine ⟨h.defers,h.size,h.ay,?_,?_,?_,?_,?_,?_,?_,?_,h.nX,h.mG,h.small⟩;{intro t x m s' g;have ⟨d,c⟩:=h.Dv t x m s' g;grind [aj]};{grind [aj,h.Du]};{grind [aj,h.inj,h.boxes]};{intro t p d j q k r u he;have f:∀t d,(st.box s b').boxes t=some d->d.live->∃j,st.boxes t=some j/\j.live:=by{grind [aj]};grind [h.inj]};{grind [h.sw,h.yV]};{grind [aj,h.yV]};{refine ⟨by rw [hw];simpa using h.ext.size,λi v y=>?_,E.m h.ext.os,F.m h.ext.tape,hout.m h.ext.out,ü h.ext.dr hdr⟩<;>grind [h.own,h.mG,h.ext.aW]};{intro t d c k;rw [aj] at c;split at c;{rename_i e;rw [e];exact h.own s b D lb};{exact h.own t d c k}}
end
section
variable {P:Program} {T:dT} {n:Nat} {V0:Ó} {bQ:KZ} {β0:Nat->Nat} {st:St} {β:Nat->Nat} {a:Act} {w:World} {V:Ó}
theorem fA:∀(sc:zA Prop)(k:Prop),F6 sc k↔(∀p∈sc,p)/\k
 | [],k=>by simp [F6]
 | p::r,k=>by
  simp only [F6,fA r k,ê];constructor
  ·grind
  ·rintro ⟨u,y⟩;exact ⟨u p (.inl rfl),λq z=>u q (.inr z),y⟩
def aL {t:TypeId}{i:TI}(h:oK P t=some i):∃info d z,P.info? t=some info/\P.underlying t=some d/\info.zero=some z/\i.k=mT d/\i.size=info.size/\i.bytes=info.bytes/\i.zero=z.cells.toList.map C.ofConst:=by unfold oK at h;grind
theorem IY (β:Nat->Nat)(y:un):(C.ofConst y).den β=y:=by unfold C.ofConst;split<;>rfl
def Js (β:Nat->Nat)(l:zA un):(l.map C.ofConst).map (C.den β)=l:=by induction l<;>grind [IY]
def Jd (y:un):(C.ofConst y).ids=[]:=by unfold C.ofConst;split<;>rfl
def GL (l:zA un):(l.map C.ofConst).flatMap C.ids=[]:=by
 induction l with
 | nil=>rfl
 | cons y r u=>simp [Jd]
def ai {t:TypeId}{d:TypeDesc}(h:P.underlying t=some d)(w:World):(underlying t).run P w=.ok d w:=by simp [underlying,h]
def mP {t:TypeId}{i:TypeInfo}(h:P.info? t=some i)(w:World):(typeInfo t).run P w=.ok i w:=by simp [typeInfo,h]
def aR {t:TypeId}{i:TypeInfo}(h:P.info? t=some i)(w:World):(sizeOf t).run P w=.ok i.size w:=by simp [sizeOf,mP h]
def kN {t:TypeId}{i:TypeInfo}{z:un}(h:P.info? t=some i)(u:i.zero=some z)(w:World):(zeroValue t).run P w=.ok z w:=by simp [zeroValue,mP h,u]
def wK:TK->Bool
 | .struct _|.arr _ _=>true
 | _=>false
def ja {t:TypeId}{d:TypeDesc}(h:P.underlying t=some d)(w:World):(isAgg t).run P w=.ok (wK (mT d)) w:=by simp only [isAgg,Sem.run_bind,ai h,Result.andThen_ok];cases d<;>rfl
def Ď (st:St)(x:SV):Prop:=∀s∈x.ids,∃b,st.boxes s=some b
theorem Ft {k k':IntKind}(h:Bx k k'=true):k=k':=by cases k<;>cases k'<;>simp_all [Bx]
theorem LQ {op:BinOp}{k:IntKind}{x y:Int}{sc:zA Prop}{v:SV}{u:TypeId}(h:qv op k x y=.ret sc v)(hsc:∀p∈sc,p):(binOp op u (.int k x) (.int k y)).run P w=.ok (v.den β) w/\v.ids=[]:=by
 cases op<;>simp only [qv,Q.ret.injEq] at h<;>obtain ⟨rfl,rfl⟩:=h <;>
  simp only [ê,ę,Ì,forall_eq,false_imp_iff,implies_true] at hsc <;>
  refine ⟨?_,rfl⟩ <;>
  simp [binOp,Op.intArith,Op.intDiv,Op.intBits,Op.intCmp,Op.shift,SV.den,C.den,bY,hsc]
 all_goals (try (intro h;omega))
theorem P7 {op:BinOp}{k k':IntKind}{x y:Int}{sc:zA Prop}{v:SV}{u:TypeId}(hop:op=.shl\/op=.shr)(h:qv op k x y=.ret sc v)(hsc:∀p∈sc,p):(binOp op u (.int k x) (.int k' y)).run P w=.ok (v.den β) w/\v.ids=[]:=by
 rcases hop with rfl|rfl<;>simp only [qv,Q.ret.injEq] at h<;>obtain ⟨rfl,rfl⟩:=h <;>
  simp only [ê,ę,Ì,forall_eq] at hsc <;>
  refine ⟨?_,rfl⟩ <;>
  simp [binOp,Op.shift,SV.den,C.den]<;>(intro h;omega)
section eqs
variable {t:TypeId} (d:Nat)
def Pc (h:P.underlying t=some .bool)(x y:md):(Op.equalIn (d+1) t (.bool x) (.bool y)).run P w=.ok (x==y) w:=by simp [Op.equalIn,ai h]
def Fi {e:TypeId}(h:P.underlying t=some (.pointer e))(p:OA):(Op.equalIn (d+1) t (.pointer p) (.pointer none)).run P w=.ok p.isNone w:=by cases p<;>simp [Op.equalIn,ai h]
def tT {e:TypeId}(h:P.underlying t=some (.slice e))(p:OA)(n c m k:Nat):(Op.equalIn (d+1) t (.slice p n c) (.slice none m k)).run P w=.ok p.isNone w:=by cases p<;>simp [Op.equalIn,ai h]
def Bi {ms:Array (String×TypeId)}(h:P.underlying t=some (.interface ms)){x:un}(y:ą x):(Op.equalIn (d+1) t x .nilIface).run P w=.ok (iw x) w:=by rcases y with rfl|⟨u,v,rfl⟩<;>simp [Op.equalIn,ai h,iw]
end eqs
def mC {t:TypeId}{x y:un}{r:md}(h:∀d,(Op.equalIn (d+1) t x y).run P w=.ok r w):(Op.equal t x y).run P w=.ok r w:=h 9999
def Iq {op:BinOp}{u:TypeId}{x y:md}(z:P.underlying u=some .bool)(hop:op=.eql\/op=.neq):(binOp op u (.bool x) (.bool y)).run P w=.ok (.bool (if op=.eql then x==y else !(x==y))) w:=by have:=mC (w:=w) λd=>Pc d z x y;rcases hop with rfl|rfl<;>simp only [binOp,Sem.run_bind,this,Result.andThen_ok,Sem.run_pure]<;>rfl
def EV {c:C}{b:md}(h:c.bool?=some b):c.den β=.bool b/\c.ids=[]:=by (cases c with|v x=>{cases x<;>simp_all [C.bool?,C.den,C.ids]}|_=>simp_all [C.bool?,C.den,C.ids])
def I0 {d:TypeDesc}{k:IntKind}(h:mT d=.int k):d=.int k:=by cases d<;>simp_all [mT]
def Gv {d:TypeDesc}(h:mT d=.bool):d=.bool:=by cases d<;>simp_all [mT]
def I1 {d:TypeDesc}{e:TypeId}(h:mT d=.ptr e):d=.pointer e:=by cases d<;>simp_all [mT]
def bj {d:TypeDesc}{e:TypeId}(h:mT d=.slice e):d=.slice e:=by cases d<;>simp_all [mT]
def DS {d:TypeDesc}(h:mT d=.iface):∃ms,d=.interface ms:=by cases d<;>simp_all [mT]
def k_ {d:TypeDesc}{fs:zA (TypeId×Nat)}(h:mT d=.struct fs):∃gs,d=.struct gs/\fs=gs.toList.map λf=>(f.type,f.offset):=by cases d<;>simp_all [mT]
def qj {d:TypeDesc}{m:Nat}{e:TypeId}(h:mT d=.arr m e):d=.array m e:=by cases d<;>simp_all [mT]
def kP {t:TypeId}{x y:un}{r:md}(neg:md)(h:(Op.equal t x y).run P w=.ok r w)(z:(∃p,x=.pointer p/\y=.pointer none)\/(∃p n c m k,x=.slice p n c/\y=.slice none m k)\/(ą x/\y=.nilIface)):(binOp (if neg then .neq else .eql) t x y).run P w=.ok (.bool (if neg then !r else r)) w:=by rcases z with ⟨p,rfl,rfl⟩|⟨p,n,c,m,k,rfl,rfl⟩|⟨z,rfl⟩;{cases p<;>cases neg<;>simp only [ŕ,Ð,Ï,binOp,Sem.run_bind,h,Result.andThen_ok,Sem.run_pure]};{cases neg<;>simp only [ŕ,Ð,Ï,binOp,Sem.run_bind,h,Result.andThen_ok,Sem.run_pure]};{rcases z with rfl|⟨u,v,rfl⟩<;>cases neg<;>simp only [ŕ,Ð,Ï,binOp,Sem.run_bind,h,Result.andThen_ok,Sem.run_pure]}
def tU {op:BinOp}{t:TypeId}{x y:Operand}{u v:un}(h:(∃p,u=.pointer p)\/(∃p n c,u=.slice p n c)\/(∃k n,u=.int k n)\/(∃b,u=.bool b)\/∃c,y=.const c)(z:v=.nilIface->∃c,y=.const c)(hu:∀cs,u≠.agg cs):(eqGuard op t x y u v).run P w=.ok () w:=by
 have key:∀(m:Sem Unit),m=(match (generalizing:=false) u,v with
   | .nilIface,.nilIface=>do
    if (match (generalizing:=false) x with|.const _=>true|_=>false)||(match (generalizing:=false) y with|.const _=>true|_=>false) then return
    if <- Op.eqGuardIn Op.maxDepth t u v then unsupported (.noEntry "binop/eql: two nil values of an interface type with methods, neither of them the literal nil")
   | .agg _,.agg _=>do
    if !(<-program).eqGuardType (<-program).depth t then return
    if <- Op.eqGuardIn Op.maxDepth t u v then unsupported (.noEntry "binop/eql: two nil values of an interface type with methods, in a part of a struct or an array")
   | _,_=>pure ())->m.run P w=.ok () w:=by
  intro m hm;rw [hm];clear hm;revert z hu;split
  ·intro z _;obtain ⟨c,rfl⟩:=z rfl;simp
  ·rename_i cs _;intro _ hu;exact Å rfl (hu cs)
  ·intro _ _;rfl
 cases op<;>first|rfl|exact key _ rfl
def Tv {D:TypeId}{i:TI}(hi:oK P D=some i){x y:C}(neg:md){sc:zA Prop}{v:SV}(h:Hb neg i.k x y=.ret sc v)(hsc:∀p∈sc,p):(binOp (if neg then .neq else .eql) D (x.den β) (y.den β)).run P w=.ok (v.den β) w/\v.ids=[]/\((∃p,x.den β=.pointer p)\/(∃p n c,x.den β=.slice p n c)\/y.den β=.nilIface)/\(y.den β=.nilIface->y=.v .nilIface)/\(∀cs,x.den β≠.agg cs):=by obtain ⟨info,d,z,j,b,l,g,-⟩:=aL hi;unfold Hb at h;split at h;{rename_i e a;rw [g] at a;obtain rfl:=I1 a;split at h;{split at h;{simp only [Q.ret.injEq] at h;obtain ⟨rfl,rfl⟩:=h;refine ⟨?_,by cases neg<;>rfl,.inl ⟨_,rfl⟩,by simp [C.den],by simp [C.den]⟩;rename_i s o;have:=kP (w:=w) neg (mC λd=>Fi d b (some ⟨β s,o,none⟩)) (.inl ⟨_,rfl,rfl⟩);cases neg<;>exact this};{simp only [Q.ret.injEq] at h;obtain ⟨rfl,rfl⟩:=h;refine ⟨?_,rfl,.inl ⟨_,rfl⟩,by simp [C.den],by simp [C.den]⟩;exact kP (w:=w) neg (mC λd=>Fi d b _) (.inl ⟨_,rfl,rfl⟩)};{cases h}};{cases h}};{rename_i e a;rw [g] at a;obtain rfl:=bj a;split at h;{split at h;{simp only [Q.ret.injEq] at h;obtain ⟨rfl,rfl⟩:=h;refine ⟨?_,by cases neg<;>rfl,.inr (.inl ⟨_,_,_,rfl⟩),by simp [C.den],by simp [C.den]⟩;rename_i m k _ s o n c;have:=kP (w:=w) neg (mC λd=>tT d b (some ⟨β s,o,none⟩) n c m k) (.inr (.inl ⟨_,_,_,_,_,rfl,rfl⟩));cases neg<;>exact this};{simp only [Q.ret.injEq] at h;obtain ⟨rfl,rfl⟩:=h;refine ⟨?_,rfl,.inr (.inl ⟨_,_,_,rfl⟩),by simp [C.den],by simp [C.den]⟩;rename_i m k _ s n c;have:=kP (w:=w) neg (mC λd=>tT d b (mA (β s) c) n c m k) (.inr (.inl ⟨_,_,_,_,_,rfl,rfl⟩));have e:(mA (β s) c).isNone=Nat.beq c 0:=by{cases c<;>rfl};rw [e] at this;exact this};{simp only [Q.ret.injEq] at h;obtain ⟨rfl,rfl⟩:=h;refine ⟨?_,rfl,.inr (.inl ⟨_,_,_,rfl⟩),by simp [C.den],by simp [C.den]⟩;exact kP (w:=w) neg (mC λd=>tT d b _ _ _ _ _) (.inr (.inl ⟨_,_,_,_,_,rfl,rfl⟩))};{cases h}};{cases h}};{rename_i a;rw [g] at a;obtain ⟨ms,rfl⟩:=DS a;split at h;{split at h;{simp only [Q.ret.injEq] at h;obtain ⟨rfl,rfl⟩:=h;have f:=hsc _ (ö.2 rfl);refine ⟨?_,rfl,.inr (.inr rfl),λ_=>rfl,?_⟩;{exact kP (w:=w) neg (mC λd=>Bi d b f) (.inr (.inr ⟨f,rfl⟩))};{intro cs e;rcases f with f|⟨u,v,f⟩<;>· simp only [C.den] at e;rw [f] at e;cases e}};{simp only [Q.ret.injEq] at h;obtain ⟨rfl,rfl⟩:=h;refine ⟨?_,by cases neg<;>rfl,.inr (.inr rfl),λ_=>rfl,by simp [C.den]⟩;have:=kP (w:=w) neg (mC λd=>Bi d b (x:=.nilIface) (.inl rfl)) (.inr (.inr ⟨.inl rfl,rfl⟩));cases neg<;>exact this};{cases h}};{cases h}};{cases h}
def Tt (hT:dT.ok P T){op:BinOp}{F:TypeId}{x y:C}{ox oy:Operand}{sc:zA Prop}{v:SV}(h:G_ T op F x y=.ret sc v)(hsc:∀p∈sc,p)(M:y=.v .nilIface->∃c,oy=.const c):(do eqGuard op F ox oy (x.den β) (y.den β);binOp op F (x.den β) (y.den β)).run P w=.ok (v.den β) w/\v.ids=[]:=by
 unfold G_ at h;split at h
 ·rename_i i f;have f:=hT _ _ f;obtain ⟨info,d,z,u,j,A,o,-⟩:=aL f;split at h
  ·split at h
   ·rename_i k a l b
    have g:(eqGuard op F ox oy (C.den β (.v (.int k a))) (C.den β (.v (.int l b)))).run P w=.ok () w:=
     tU (.inr (.inr (.inl ⟨_,_,rfl⟩))) (by simp [C.den]) (by simp [C.den])
    have key:(binOp op F (.int k a) (.int l b)).run P w=.ok (v.den β) w/\v.ids=[]:=by grind [P7,Ft,LQ]
    simp only [Sem.run_bind,g,Result.andThen_ok];exact key
   ·cases h
  ·rename_i m;rw [o] at m;obtain rfl:=Gv m;split at h;{rename_i a b q r;have n:=EV (β:=β) q;have M:=EV (β:=β) r;have g:(eqGuard op F ox oy (x.den β) (y.den β)).run P w=.ok () w:=by{rw [n.1,M.1];exact tU (.inr (.inr (.inr (.inl ⟨_,rfl⟩)))) ψ ψ};simp only [Sem.run_bind,g,Result.andThen_ok];rw [n.1,M.1];split at h;{simp only [Q.ret.injEq] at h;obtain ⟨rfl,rfl⟩:=h;exact ⟨Iq j (.inl rfl),rfl⟩};{simp only [Q.ret.injEq] at h;obtain ⟨rfl,rfl⟩:=h;exact ⟨Iq j (.inr rfl),rfl⟩};{cases h}};{cases h}
  ·have key:∀neg:md,Hb neg i.k x y=.ret sc v->(do eqGuard (if neg then .neq else .eql) F ox oy (x.den β) (y.den β);binOp (if neg then .neq else .eql) F (x.den β) (y.den β)).run P w=.ok (v.den β) w/\v.ids=[]:=by{intro neg h;have ⟨B,D,E,s,t⟩:=Tv (w:=w) (β:=β) f neg h hsc;have g:(eqGuard (if neg then BinOp.neq else BinOp.eql) F ox oy (x.den β) (y.den β)).run P w=.ok () w:=by{refine tU ?_ (λe=>M (s e)) t<;>grind};grind [Sem.run_bind,Result.andThen_ok]};grind
 ·cases h
end
end Go.Eng
