import Derived.WalkKit
import Derived.Deep.LoopGhost
import Derived.KernelRfl
set_option linter.all false
theorem ű{p:Prop}(h:p:=by intros;rename_i h;cases h):p:=h
abbrev Ű{α:Type}(a:Option α)(p:Prop):=a.isSome=true/\a.isSome=true/\p
abbrev Á:=@of_decide_eq_true
abbrev Â:=@of_decide_eq_false
abbrev Ã:=@if_neg
abbrev Ä:=@if_pos
abbrev Å:=@absurd
abbrev Æ:=@congrArg
abbrev Ç:=@decide_eq_true
abbrev È:=@decide_eq_false
abbrev É:=@decide_eq_decide
abbrev Ê:=@eq_of_beq
abbrev Ë:=@beq_iff_eq
abbrev Ì:=@or_false
abbrev Í:=@and_true
abbrev Î:=@true_and
abbrev Ï:=@if_true
abbrev Ð:=@if_false
abbrev Ñ:=@decide_eq_true_eq
abbrev Ò:=@decide_eq_false_iff_not
theorem ω{p:Prop}(h:p:=by first|omega|(dsimp only;omega)):p:=h
theorem Ÿ{p:Prop}(h:p:=by and_intros<;>first|exact True.intro|rfl|trivial|omega):p:=h
theorem Ź{p q:Prop}(a:p:=by first|omega|(dsimp only;omega))(b:q:=by first|omega|(dsimp only;omega)):p/\q:=⟨a,b⟩
theorem σ{p:Prop}(h:p:=by and_intros<;>rfl):p:=h
theorem ψ{p:Prop}(h:p:=by simp):p:=h
theorem φ{p:Prop}(h:p:=by decide):p:=h
theorem χ{p:Prop}(h:p:=by grind):p:=h
theorem η{p:Prop}(h:p:=by and_intros<;>trivial):p:=h
theorem θ{p:Prop}(h:p:=by trivial):p:=h
theorem ζ{p:Prop}(h:p:=by kernel_rfl):p:=h
theorem ξ{p:Prop}(h:p:=by assumption):p:=h
theorem κ{p:Prop}(h:p:=by decide +kernel):p:=h
theorem π{p:Prop}(h:p:=by intro h;nomatch h):p:=h
abbrev Go.Calls.s:=@Go.Calls.mono
def Eq.m{α:Sort _}{a b c:α}(h:a=b)(g:b=c):a=c:=Eq.trans h g
def Iff.m{a b c:Prop}(h:a<->b)(g:b<->c):a<->c:=Iff.trans h g
def List.Perm.m{α:Type _}{a b c:@List α}(h:a.Perm b)(g:b.Perm c):a.Perm c:=List.Perm.trans h g
def List.Sublist.m{α:Type _}{a b c:@List α}(h:a.Sublist b)(g:b.Sublist c):a.Sublist c:=List.Sublist.trans h g
abbrev ß:=@Int.toNat_natCast
abbrev ô:=@List.getElem?_eq_getElem
abbrev Ú:=@Nat.le_refl
abbrev ì:=@List.length_take
abbrev ï:=@List.length_append
abbrev ò:=@List.getElem_mem
abbrev å:=@Nat.zero_le
abbrev í:=@List.mem_cons
abbrev ú:=@List.mem_singleton
abbrev ā:=@List.mem_cons_of_mem
abbrev ć:=@Nat.mul_le_mul_right
abbrev ü:=@List.mem_append
abbrev ą:=@Option.some.injEq
abbrev ý:=@List.append_nil
abbrev đ:=@Int.eq_ofNat_of_zero_le
abbrev ě:=@List.getD_eq_getElem?_getD
abbrev Ĉ:=@List.length_cons
abbrev ī:=@List.drop_eq_getElem_cons
abbrev ď:=@List.mem_cons_self
abbrev Ĥ:=@List.length_eq_zero_iff
abbrev Ī:=@List.getElem?_eq_some_iff
abbrev Č:=@List.length_map
abbrev Ā:=@Nat.le_trans
abbrev ÿ:=@List.mem_map
abbrev Đ:=@Bool.and_eq_true
abbrev ē:=@Int.natAbs_natCast
abbrev Ĺ:=@List.getElem?_append_left
abbrev Ė:=@List.take_length
abbrev ģ:=@List.pairwise_cons
abbrev Ę:=@List.flatMap_cons
abbrev Ě:=@List.append_assoc
abbrev ė:=@List.mem_flatMap
abbrev č:=@Nat.zero_add
abbrev Ğ:=@List.not_mem_nil
abbrev Ŏ:=@List.take_append_getElem
abbrev ń:=@List.drop_of_length_le
abbrev ŀ:=@Nat.pow_le_pow_right
abbrev ŕ:=@List.getElem?_append_right
abbrev ĩ:=@Nat.mod_eq_of_lt
abbrev ĳ:=@List.take_add_one
abbrev Qz0:=@List.take_succ_eq_append_getElem
abbrev Ń:=@List.mem_append_left
abbrev ķ:=@List.getElem?_take
abbrev ō:=@List.take_of_length_le
abbrev Ħ:=@Nat.min_eq_left
abbrev į:=@List.length_drop
abbrev Į:=@List.all_eq_true
abbrev ł:=@Nat.lt_of_lt_of_le
abbrev Ŀ:=@Nat.eq_zero_or_pos
abbrev ĕ:=@Nat.add_mul
abbrev ę:=@Nat.lt_or_ge
abbrev Ĭ:=@Int.natAbs_mul
abbrev Ő:=@Nat.mul_le_mul_left
abbrev ĵ:=@Bool.eq_iff_iff
abbrev Ĕ:=@Nat.pow_add
abbrev ň:=@Nat.lt_of_le_of_lt
abbrev Ş:=@Nat.le_of_ble_eq_true
abbrev ğ:=@Nat.add_zero
abbrev ŝ:=@List.mem_append_right
abbrev Qk9:=@Int.tmod_eq_emod_of_nonneg
abbrev ļ:=@List.mem_filter
abbrev Ļ:=@Nat.two_pow_pos
abbrev ĺ:=@List.length_nil
abbrev ő:=@Bool.false_eq_true
abbrev ŋ:=@Bool.not_eq_true'
abbrev Qj5:=@Classical.byContradiction
abbrev ħ:=@Nat.pow_succ
abbrev ş:=@Rat.num_eq_zero
abbrev Ġ:=@Nat.mul_one
abbrev Ŋ:=@Nat.gcd_dvd_left
abbrev Qv0:=@Int.tdiv_eq_ediv_of_nonneg
abbrev ţ:=@List.mem_of_mem_take
abbrev Ņ:=@Nat.mul_ne_zero
abbrev Ţ:=@BitVec.ofInt_natCast
abbrev Qv4:=@List.take_append_drop
abbrev Ū:=@List.getElem?_eq_none
abbrev Qv6:=@List.pairwise_iff_getElem
abbrev š:=@List.map_congr_left
abbrev Ň:=@List.cons.injEq
abbrev İ:=@Nat.mul_zero
abbrev ġ:=@Nat.mod_lt
abbrev ũ:=@Nat.div_eq_of_lt
abbrev Ł:=@List.map_cons
abbrev œ:=@List.map_append
abbrev Ũ:=@BitVec.toNat_ofNat
abbrev Ľ:=@Nat.mul_comm
abbrev Œ:=@Nat.not_lt_zero
abbrev Qb7:=@List.mem_of_getElem?
abbrev Qb8:=@List.mem_iff_getElem
abbrev ŧ:=@Nat.gcd_dvd_right
abbrev ı:=@Rat.mul_pos
abbrev Ŭ:=@Rat.mul_inv_cancel
abbrev ū:=@Bool.false_ne_true
abbrev Qn3:=@Nat.beq_refl
abbrev Qn4:=@Nat.div_lt_iff_lt_mul
abbrev Qn5:=@List.flatMap_append
abbrev Ĵ:=@Nat.mul_add
abbrev Qn7:=@List.drop_set_of_lt
abbrev Qn8:=@Nat.add_sub_cancel_left
abbrev ř:=@List.foldl_cons
abbrev Ŝ:=@List.nil_append
abbrev ś:=@Option.some.inj
abbrev Qm2:=@List.getElem?_set_ne
abbrev Qm3:=@List.getElem?_drop
abbrev ŏ:=@Nat.mul_assoc
abbrev Qm5:=@Bool.not_eq_false'
abbrev Ť:=@Int.natCast_mul
abbrev Ś:=@Array.mk.injEq
abbrev Ŗ:=@Nat.add_assoc
abbrev Qm9:=@Nat.sub_add_cancel
abbrev Qc0:=@Int.sign_eq_zero_iff_zero
abbrev Š:=@Prod.mk.injEq
abbrev Qc2:=@List.cons_append
abbrev Qc3:=@List.getElem_of_mem
abbrev Ŧ:=@Nat.succ_mul
abbrev Qc5:=@List.length_singleton
abbrev Ů:=@Int.natAbs_neg
abbrev Qc7:=@Nat.mul_lt_mul_of_pos_right
abbrev Qc8:=@Nat.div_le_self
abbrev Qc9:=@Nat.add_sub_cancel
abbrev Qd0:=@List.pairwise_singleton
abbrev ņ:=@Array.ext'
abbrev Qd2:=@Int.sign_eq_neg_one_of_neg
abbrev ŗ:=@Nat.one_mul
abbrev Qd4:=@List.take_zero
abbrev Qd5:=@Bool.not_eq_eq_eq_not
abbrev ť:=@Nat.zero_mul
abbrev Qd7:=@Nat.div_add_mod
abbrev Qd8:=@List.length_filter_le
abbrev Qd9:=@Option.isSome_iff_exists
abbrev Qf0:=@List.set_eq_of_length_le
abbrev Qf1:=@Nat.one_lt_two_pow
abbrev Qf2:=@Nat.xor_lt_two_pow
abbrev Qf3:=@Array.toList_map
abbrev ŭ:=@Nat.gcd_comm
abbrev Qf5:=@Rat.intCast_mul
abbrev Qf6:=@List.length_set
abbrev Qf7:=@Int.sign_eq_one_of_pos
abbrev Qf8:=@Option.getD_some
abbrev Qf9:=@Nat.mul_div_cancel
abbrev Qg0:=@List.getElem_set_self
abbrev Qg1:=@Nat.gcd_zero_right
abbrev Qg2:=@Nat.pos_of_ne_zero
abbrev Qg3:=@Nat.mul_le_mul
abbrev Qg4:=@Nat.testBit_eq_decide_div_mod_eq
abbrev Qg5:=@List.mem_of_mem_drop
abbrev Qg6:=@Nat.add_mul_div_left
abbrev Qg7:=@List.pairwise_append
abbrev Qg8:=@List.ext_getElem?
abbrev Qg9:=@Nat.mod_add_div
abbrev Qh0:=@Int.mul_ediv_cancel_left
abbrev Qh1:=@Rat.intCast_inj
abbrev Qh2:=@Rat.num_intCast
abbrev Qh3:=@Int.mul_comm
abbrev Qh4:=@Rat.mkRat_one
abbrev Qh5:=@Nat.gcd_eq_zero_iff
abbrev Qh6:=@List.length_pos_iff
abbrev Qh7:=@List.any_eq_true
abbrev Qh8:=@List.drop_drop
abbrev Qh9:=@Array.getElem?_eq_none
abbrev Qp0:=@List.filter_eq_nil_iff
abbrev Qp1:=@Nat.and_lt_two_pow
abbrev Qp2:=@List.filter_append
abbrev Qp3:=@Nat.mul_eq_zero
abbrev Qp4:=@Bool.or_eq_true
abbrev Qp5:=@Int.natAbs_dvd_natAbs
abbrev Qp6:=@Rat.mul_eq_zero
abbrev Qp7:=@Rat.mul_pos_iff_of_pos_left
abbrev Qp8:=@List.take_set
abbrev Qp9:=@List.getElem_drop
abbrev Qr0:=@Nat.le_of_dvd
abbrev Qr1:=@Int.lt_trichotomy
abbrev Qr2:=@List.getElem?_set
abbrev Qr3:=@Array.getElem?_eq_some_iff
abbrev Qr4:=@Array.getElem_toList
abbrev Qr5:=@Rat.mkRat_self
abbrev Qr6:=@Nat.le_add_right
abbrev Qr7:=@List.drop_length
abbrev Qr8:=@List.getElem_map
abbrev Qr9:=@List.take_subset
abbrev Qs0:=@List.take_replicate
abbrev Qs1:=@List.countP_pos_iff
abbrev Qs2:=@List.filter_eq_self
abbrev Qs3:=@List.eq_of_mem_replicate
abbrev Qs4:=@Nat.le_of_lt
abbrev Qs5:=@List.getElem_append_left
abbrev Qs6:=@List.set_eq_take_append_cons_drop
abbrev Qs7:=@List.getElem?_replicate
abbrev Qs8:=@Rat.num_mkRat
abbrev Qs9:=@Rat.sub_eq_add_neg
abbrev Qt0:=@Nat.dvd_trans
abbrev Qt1:=@Rat.intCast_add
abbrev Qt2:=@Rat.intCast_neg
abbrev Qt3:=@List.getElem?_set_self
abbrev Qt4:=@Int.natAbs_ediv_of_dvd
abbrev Qt5:=@List.getElem_cons_zero
abbrev Qt6:=@List.flatMap_singleton
abbrev Qt7:=@List.getElem?_map
abbrev Qt8:=@List.getElem_take
abbrev Qt9:=@Rat.inv_pos
abbrev Wq0:=@List.take_take
abbrev Wq1:=@List.drop_zero
abbrev Wq2:=@List.map_map
abbrev Wq3:=@Nat.le_div_iff_mul_le
abbrev Wq4:=@Rat.mul_comm
abbrev Wq5:=@List.getElem!_eq_getElem?_getD
abbrev Wq6:=@Nat.succ_pos
abbrev Wq7:=@Option.getD_none
abbrev Wq8:=@Nat.shiftLeft_add_eq_or_of_lt
abbrev Wq9:=@Nat.mul_lt_mul''
abbrev Ww0:=@List.take_append_of_le_length
abbrev Ww1:=@Int.sign_neg_iff
abbrev Ww2:=@Nat.zero_lt_succ
abbrev Ww3:=@List.flatMap_nil
abbrev Ww4:=@List.filter_cons
abbrev Ww5:=@Rat.den_mkRat
abbrev Ww6:=@Nat.lt_irrefl
abbrev Ww7:=@Int.not_lt
abbrev Ww8:=@Nat.le_succ
abbrev Ww9:=@Option.map_some
abbrev Wx0:=@List.length_flatten
abbrev Wx1:=@Array.length_toList
abbrev Wx2:=@Nat.pow_mul
abbrev Wx3:=@Nat.pow_pos
abbrev Wx4:=@Int.mul_neg
abbrev Wx5:=@Rat.neg_num
abbrev Wx6:=@Int.mul_lt_mul_of_pos_right
abbrev Wx7:=@Rat.mkRat_mul_mkRat
abbrev Wx8:=@Int.mul_eq_zero
abbrev Wx9:=@Int.le_refl
abbrev Wy0:=@List.getD_cons_succ
abbrev Wy1:=@Int.fdiv_eq_ediv_of_nonneg
abbrev Wy2:=@Int.lt_of_mul_lt_mul_right
abbrev Wy3:=@List.map_replicate
abbrev Wy4:=@Nat.add_comm
abbrev Wy5:=@Nat.div_mul_cancel
abbrev Wy6:=@Int.ofNat_dvd_left
abbrev Wy7:=@Int.add_zero
abbrev Wy8:=@Array.mapM_eq_mapM_toList
abbrev Wy9:=@Nat.add_mul_mod_self_left
abbrev Wz0:=@List.getElem_append_right
abbrev Wz1:=@List.getLastD_eq_getLast?
abbrev Wz2:=@Int.eq_of_mul_eq_mul_left
abbrev Wz3:=@Int.natAbs_ediv_le_natAbs
abbrev Wz4:=@Nat.or_lt_two_pow
abbrev Wz5:=@Nat.gcd_pos_of_pos_right
abbrev Wz6:=@Nat.gcd_zero_left
abbrev Wz7:=@List.pairwise_map
abbrev Wz8:=@List.map_take
abbrev Wz9:=@List.map_drop
abbrev Wk0:=@Int.neg_mul
abbrev Wk1:=@Int.one_mul
abbrev Wk2:=@List.sum_cons
abbrev Wk3:=@Nat.shiftLeft_eq
abbrev Wk4:=@Int.natCast_emod
abbrev Wk5:=@Rat.mkRat_eq_iff
abbrev Wk6:=@List.map_nil
abbrev Wk7:=@Nat.sub_zero
abbrev Wk8:=@BitVec.toNat_or
abbrev Wk9:=@Nat.mul_add_div
abbrev Wj0:=@Nat.mul_add_mod
abbrev Wj1:=@Nat.zero_div
abbrev Wj2:=@Rat.mul_def'
abbrev Wj3:=@Nat.testBit_xor
abbrev Wj4:=@Rat.intCast_sub
abbrev Wj5:=@Nat.min_le_left
abbrev Wj6:=@List.mem_range
abbrev Wj7:=@Rat.num_nonneg
abbrev Wj8:=@Int.ofNat_tmod
abbrev Wj9:=@Bool.and_false
abbrev Wv0:=@Rat.mul_nonneg
abbrev Wv1:=@Rat.neg_den
abbrev Wv2:=@Nat.mul_pos
abbrev Wv3:=@Iff.rfl
open Go.IntKind (i64 u64 u32)
abbrev zA:=@List
abbrev md:=Bool
abbrev un:=Go.Value
abbrev tt:Prop:=true=true
namespace Go.Eng
section
abbrev OA:=Option Addr
abbrev sm {α:Type}(a:α):Prop:=a=a
structure Ó where
 w:World
 H:Nat->Prop
 X:Nat->Prop
 hH:∀b,H b->b<w.heap.size
 hX:∀b,X b->H b
abbrev _root_.ut:=Ó
def Ó.aX (V:Ó)(b:Nat)(o:Obj):Prop:=¬V.H b/\V.w.heap[b]?=some o
def Ó.at (V:Ó)(p:Addr)(v:Value):Prop:=¬V.H p.block/\V.w.cell? p=some v
def Ó.Le (V V':Ó):Prop:=∀b o,V.aX b o->V'.aX b o
structure kI (X:Nat->Prop) (w w':World):Prop where
 size:w.heap.size<=w'.heap.size
 aX:∀b,b<w.heap.size->¬X b->w'.heap[b]?=w.heap[b]?
 os:w'.os=w.os
 tape:w'.tape=w.tape
 out:w'.output=w.output
 dr:w.drawn<=w'.drawn
def Ó.to (V:Ó)(w':World)(h:V.w.heap.size<=w'.heap.size):Ó:=⟨w',V.H,V.X,λb u=>ł (V.hH b u) h,V.hX⟩
def Ó.ao (V:Ó)(u:List Nat):Ó:={ V with X:=λb=>b∈u/\V.H b,hX:=λ_ h=>h.2 }
def Ó.T0 (V:Ó)(b:Nat):Ó:={ V with H:=λx=>V.H x\/(x=b/\b<V.w.heap.size),hH:=λx h=>h.elim (V.hH x) λh=>h.1▸h.2,hX:=λx h=>.inl (V.hX x h) }
def Ó.bq (V:Ó)(p:Prop)(b:Nat):Ó:={ V with H:=λx=>V.H x\/(p/\x=b/\b<V.w.heap.size),hH:=λx h=>h.elim (V.hH x) λh=>h.2.1▸h.2.2,hX:=λx h=>.inl (V.hX x h) }
def Ó.shut (V:Ó):Ó:={ V with X:=λ_=>False,hX:=λ_ h=>h.elim }
def iK (P : Program)(f : FuncId) : Prop := ∃ fn, P.funcs[f]? = some fn ∧ fn.body.isNone = false ∧ (fn.name == "runtime.NumGoroutine") = false
def aa (P:Program)(f:FuncId)(args:Array Value)(V:Ó)(R:Value->Ó->Prop):Prop:=
 iK P f/\Calls P f args V.w λe w'=>∃r,e=.returned r/\∃u:kI V.X V.w w',R r (V.to w' u.size)
inductive C where
 | v (x:Value)|w (x:Value)|tt|ff
 | ptr (s o:Nat)
 | nG (s o n c:Nat)
 | dT (s n c:Nat)
 | uO (f:FuncId) (ss:List Nat)
 | WI (f:FuncId) (vs:List Value)
inductive SV where
 | c (x:C)|agg (cs:List C)|xP (xs:List (Bool×List C))
inductive ë where
 | lit (cs:List C)|row (vs:List Value)|aF (vs:List Value)
structure a_ where
 cs:ë
 ty:TypeId
def a_.live (b:a_):Prop:=∀vs,b.cs=.aF vs->vs≠[]
def Sr (b:a_):List Prop:=
 match b.cs with
 | .aF vs=>[vs≠[]]
 | _=>[]
def gdP (b:a_):Prop:=
 match b.cs with
 | .aF vs=>vs≠[]
 | _=>True
def wD:List Prop->Prop->Prop
 | [],k=>k
 | p::r,k=>p->wD r k
def mA (b c:Nat):OA:=if c=0 then none else some ⟨b,0,none⟩
structure St where
 aC:Nat->Option SV
 boxes:Nat->Option a_
def C.den (β:Nat->Nat):C->Value
 | .v x=>x
 | .w x=>x
 | .tt=>.bool true
 | .ff=>.bool false
 | .ptr s o=>.pointer (some ⟨β s,o,none⟩)
 | .nG s o n c=>.slice (some ⟨β s,o,none⟩) n c
 | .dT s n c=>.slice (mA (β s) c) n c
 | .uO f ss=>.func (.func f) #[] (ss.map λs=>Value.pointer (some ⟨β s,0,none⟩)).toArray
 | .WI f vs=>.func (.func f) #[.agg vs.toArray] #[]
def kO (β:Nat->Nat):Bool×List C->Value
 | (true,cs)=>.agg (cs.map (C.den β)).toArray
 | (false,[c])=>c.den β
 | (false,_)=>.tuple #[]
def yr:Bool×List C->Option SV
 | (true,cs)=>some (.agg cs)
 | (false,[c])=>some (.c c)
 | (false,_)=>none
def SV.den (β:Nat->Nat):SV->Value
 | .c x=>x.den β
 | .agg cs=>.agg (cs.map (C.den β)).toArray
 | .xP xs=>.tuple (xs.map (kO β)).toArray
def SV.cells:SV->List C
 | .c x=>[x]
 | .agg cs=>cs
 | .xP _=>[]
def O7:List C->Option (List Value)
 | []=>some []
 | .v x::r=>match O7 r with
  | some l=>some (x::l)
  | none=>none
 | _::_=>none
def ë.den (β:Nat->Nat):ë->List Value
 | .lit cs=>cs.map (C.den β)
 | .row vs=>vs
 | .aF vs=>vs
def a_.obj (β:Nat->Nat)(b:a_):Obj:=.cells (b.cs.den β).toArray b.ty (0,0)
def C.ids:C->List Nat
 | .ptr s _=>[s]
 | .nG s _ _ _=>[s]
 | .dT s _ _=>[s]
 | .uO _ ss=>ss
 | _=>[]
def SV.ids:SV->List Nat
 | .c x=>x.ids
 | .agg cs=>cs.flatMap C.ids
 | .xP xs=>xs.flatMap λx=>x.2.flatMap C.ids
def SV.CB:SV->Bool
 | .xP _=>true
 | _=>false
def ie:C->List Prop
 | .v (.agg _)|.v (.tuple _)=>[False]
 | .w x=>[x.oneCell'=true]
 | _=>[]
def SV.ie (x:SV):List Prop:=x.cells.flatMap Eng.ie
def ë.ids:ë->List Nat
 | .lit cs=>cs.flatMap C.ids
 | .row _=>[]
 | .aF _=>[]
def St.put (st:St)(d:Option Nat)(x:SV):St:=
 match d with
 | none=>st
 | some d=>{ st with aC:=λt=>cond (Nat.beq t d) (some x) (st.aC t) }
def St.box (st:St)(s:Nat)(b:a_):St:={ st with boxes:=λt=>cond (Nat.beq t s) (some b) (st.boxes t) }
def C.ofConst:Value->C
 | .bool true=>.tt
 | .bool false=>.ff
 | x=>.v x
def SV.ofConst:Value->SV
 | .bool true=>.c .tt
 | .bool false=>.c .ff
 | .agg cs=>.agg (cs.toList.map C.ofConst)
 | x=>.c (.v x)
def St.bN (st:St):Operand->Option SV
 | .tmp t=>st.aC t
 | .const v=>some (.ofConst v)
 | .global g=>some (.c (.v (.pointer (some ⟨g,0,none⟩))))
 | .func f=>some (.c (.uO f []))
inductive TK where
 | int (k:IntKind)|bool|str|ptr (e:TypeId)|slice (e:TypeId)|struct (fs:List (TypeId×Nat))|arr (n:Nat) (e:TypeId)|iface|func|tuple (ts:List TypeId)|other
structure TI where
 k:TK
 size:Nat
 bytes:Nat
 zero:List C
def nM:TypeDesc->TK
 | .int k=>.int k
 | .bool=>.bool
 | .string=>.str
 | .pointer e=>.ptr e
 | .slice e=>.slice e
 | .array n e=>.arr n e
 | .struct fs=>.struct (fs.toList.map λf=>(f.type,f.offset))
 | .interface _=>.iface
 | .func ..=>.func
 | .tuple es=>.tuple es.toList
 | _=>.other
def pI (P:Program)(t:TypeId):Option TI:=
 match P.info? t,P.underlying t with
 | some i,some d=>
  match i.zero with
  | some z=>some { k:=nM d,size:=i.size,bytes:=i.bytes,zero:=z.cells.toList.map C.ofConst }
  | none=>none
 | _,_=>none
abbrev eA:=List (Nat×TI)
def aH {α:Type}:List (Nat×α)->Nat->Option α
 | [],_=>none
 | (s,x)::r,t=>cond (Nat.beq t s) (some x) (aH r t)
def eA.ok (P:Program)(T:eA):Prop:=∀t i,aH T t=some i->pI P t=some i
inductive Er where
 | int (k:IntKind)|bool|slice|ptr|str|any
inductive BB where
 | one (s:Er)|agg (l:List Er)
inductive Sh where
 | val (s:BB)|xP (l:List BB)|none
def shC:C->Er
 | .v (.int k _)=>.int k
 | .v (.slice ..)=>.slice
 | .v (.pointer _)=>.ptr
 | .v (.string _)=>.str
 | .tt|.ff=>.bool
 | _=>.any
def oH (i:TI):BB:=
 match i.k with
 | .struct _|.arr _ _=>.agg (i.zero.map shC)
 | _=>match i.zero with
  | [z]=>.one (shC z)
  | _=>.one .any
def Er.ex:Er->(C->Prop)->Prop
 | .int k,K=>∃n:Int,K (.v (.int k n))
 | .bool,K=>∃b:Bool,K (.v (.bool b))
 | .slice,K=>∃(a:OA)(n c:Nat),K (.v (.slice a n c))
 | .ptr,K=>∃p:OA,K (.v (.pointer p))
 | .str,K=>∃s:ByteArray,K (.v (.string s))
 | .any,K=>∃x:Value,K (.w x)
def exL:List Er->(List C->Prop)->Prop
 | [],K=>K []
 | s::r,K=>s.ex λv=>exL r λvs=>K (v::vs)
def BB.ex:BB->(SV->Prop)->Prop
 | .one s,K=>s.ex λc=>K (.c c)
 | .agg l,K=>exL l λcs=>K (.agg cs)
def exT:List BB->(List (Bool×List C)->Prop)->Prop
 | [],K=>K []
 | .one s::r,K=>s.ex λc=>exT r λvs=>K ((false,[c])::vs)
 | .agg l::r,K=>exL l λcs=>exT r λvs=>K ((true,cs)::vs)
def Sh.ex:Sh->(SV->Prop)->Prop
 | .val s,K=>s.ex K
 | .xP l,K=>exT l λvs=>K (.xP vs)
 | .none,K=>K (.xP [])
def shTs (T:eA):List TypeId->Option (List BB)
 | []=>some []
 | t::r=>match aH T t,shTs T r with
  | some i,some l=>some (oH i::l)
  | _,_=>Option.none
def shOf (T:eA)(t:TypeId):Option Sh:=
 match aH T t with
 | some i=>match i.k with
  | .tuple []=>some .none
  | .tuple ts=>match shTs T ts with
   | some l=>some (.xP l)
   | Option.none=>Option.none
  | _=>some (.val (oH i))
 | Option.none=>Option.none
inductive Q where
 | fail
 | ret (sc:List Prop) (x:SV)
 | new (sc:List Prop) (b:a_) (x:Nat->SV)
 | As (sc:List Prop) (s:Nat) (b:a_)
 | rd (p:OA) (sh:BB)
 | ur (vs:List Value) (o size:Nat) (sh:BB)
 | yJ (s:Nat) (vs:List Value) (n c:Nat) (x:OA×Nat ⊕ List Value) (size bytes:Nat) (ty:TypeId)
 | app (old:Option Nat) (ba:OA) (vs:List Value) (n c:Nat) (x:OA×Nat ⊕ List Value) (size bytes:Nat) (ty:TypeId)
def ch (op:BinOp)(k:IntKind)(a b:Int):Int:=
 match op with
 | .and=>k.wrap ((BitVec.ofInt k.bits a &&& BitVec.ofInt k.bits b).toNat:Int)
 | .or=>k.wrap ((BitVec.ofInt k.bits a ||| BitVec.ofInt k.bits b).toNat:Int)
 | .xor=>k.wrap ((BitVec.ofInt k.bits a ^^^ BitVec.ofInt k.bits b).toNat:Int)
 | _=>k.wrap ((BitVec.ofInt k.bits a &&& ~~~(BitVec.ofInt k.bits b)).toNat:Int)
def rH (op:BinOp)(k:IntKind)(a b:Int):Q:=
 match op with
 | .add=>.ret [] (.c (.v (.int k (k.wrap (a+b)))))
 | .sub=>.ret [] (.c (.v (.int k (k.wrap (a-b)))))
 | .mul=>.ret [] (.c (.v (.int k (k.wrap (a*b)))))
 | .quo=>.ret [b≠0] (.c (.v (.int k (k.wrap (a.tdiv b)))))
 | .rem=>.ret [b≠0] (.c (.v (.int k (a.tmod b))))
 | .and=>.ret [] (.c (.v (.int k (ch .and k a b))))
 | .or=>.ret [] (.c (.v (.int k (ch .or k a b))))
 | .xor=>.ret [] (.c (.v (.int k (ch .xor k a b))))
 | .andNot=>.ret [] (.c (.v (.int k (ch .andNot k a b))))
 | .shl=>.ret [0<=b] (.c (.v (.int k (k.wrap (a*2^(min b.toNat k.bits))))))
 | .shr=>.ret [0<=b] (.c (.v (.int k (a.fdiv (2^(min b.toNat k.bits))))))
 | .eql=>.ret [] (.c (.v (.bool (a==b))))
 | .neq=>.ret [] (.c (.v (.bool (a != b))))
 | .lss=>.ret [] (.c (.v (.bool (decide (a<b)))))
 | .leq=>.ret [] (.c (.v (.bool (decide (a<=b)))))
 | .gtr=>.ret [] (.c (.v (.bool (decide (a>b)))))
 | .geq=>.ret [] (.c (.v (.bool (decide (a≥b)))))
def C.bool?:C->Option Bool
 | .tt=>some true
 | .ff=>some false
 | .v (.bool b)=>some b
 | _=>none
def iU:Value->Bool
 | .nilIface=>true
 | _=>false
def ĉ (x:Value):Prop:=x=.nilIface\/∃t v,x=.iface t v
def CE:IntKind->IntKind->Bool
 | .i8,.i8|.i16,.i16|.i32,.i32|.i64,.i64|.u8,.u8|.u16,.u16|.u32,.u32|.u64,.u64=>true
 | _,_=>false
def Iz (neg:Bool)(k:TK)(x y:C):Q:=
 match k with
 | .ptr _=>match y with
  | .v (.pointer none)=>match x with
   | .ptr _ _=>.ret [] (.c (if neg then .tt else .ff))
   | .v (.pointer p)=>.ret [] (.c (.v (.bool (if neg then !p.isNone else p.isNone))))
   | _=>.fail
  | _=>.fail
 | .slice _=>match y with
  | .v (.slice none _ _)=>match x with
   | .nG _ _ _ _=>.ret [] (.c (if neg then .tt else .ff))
   | .dT _ _ c=>.ret [] (.c (.v (.bool (if neg then !(Nat.beq c 0) else Nat.beq c 0))))
   | .v (.slice a _ _)=>.ret [] (.c (.v (.bool (if neg then !a.isNone else a.isNone))))
   | _=>.fail
  | _=>.fail
 | .iface=>match y with
  | .v .nilIface=>match x with
   | .w y=>.ret [ĉ y] (.c (.v (.bool (if neg then !iU y else iU y))))
   | .v .nilIface=>.ret [] (.c (if neg then .ff else .tt))
   | _=>.fail
  | _=>.fail
 | _=>.fail
def Ix (T:eA)(op:BinOp)(u:TypeId)(x y:C):Q:=
 match aH T u with
 | some i=>match i.k with
  | .int _=>match x,y with
   | .v (.int k a),.v (.int k' b)=>
    match op with
    | .shl|.shr=>rH op k a b
    | _=>if CE k k' then rH op k a b else .fail
   | _,_=>.fail
  | .bool=>match x.bool?,y.bool? with
   | some a,some b=>match op with
    | .eql=>.ret [] (.c (.v (.bool (a==b))))
    | .neq=>.ret [] (.c (.v (.bool (!(a==b)))))
    | _=>.fail
   | _,_=>.fail
  | k=>match op with
   | .eql=>Iz false k x y
   | .neq=>Iz true k x y
   | _=>.fail
 | none=>.fail
def ae (p:OA)(n:Nat):OA:=p.map λa=>a.add n
def Ć (cs:List C)(o:Nat)(xs:List C):List C:=cs.take o++xs++cs.drop (o+xs.length)
def bG (vs:List Value)(o:Nat)(xs:List Value):List Value:=
 match xs with
 | [x]=>vs.set o x
 | _=>vs.take o++xs++vs.drop (o+xs.length)
def C.val?:C->Option Value
 | .v x=>some x
 | .w x=>some x
 | .tt=>some (.bool true)
 | .ff=>some (.bool false)
 | _=>none
def mX:List C->Option (List Value)
 | []=>some []
 | c::r=>match c.val?,mX r with
  | some v,some vs=>some (v::vs)
  | _,_=>none
def mj (bx:Nat->Option a_)(i:TI)(x:SV):Q:=
 match x with
 | .c (.ptr b o)=>match bx b with
  | some ⟨.lit cs,_⟩=>match i.k with
   | .struct _|.arr _ _=>if Nat.ble (o+i.size) cs.length then .ret [] (.agg ((cs.drop o).take i.size)) else .fail
   | _=>match cs[o]? with
    | some c=>.ret [] (.c c)
    | none=>.fail
  | some ⟨.row vs,_⟩=>.ur vs o i.size (oH i)
  | some ⟨.aF vs,_⟩=>if Nat.beq i.size 0 then .fail else .ur vs o i.size (oH i)
  | none=>.fail
 | .c (.v (.pointer p))=>if Nat.beq i.zero.length i.size then .rd p (oH i) else .fail
 | _=>.fail
def jz (bx:Nat->Option a_)(i:TI)(a x:SV):Q:=
 match a with
 | .c (.ptr b o)=>if Nat.beq x.cells.length i.size&&!x.CB then match bx b with
   | some ⟨.lit cs,ty⟩=>if Nat.ble (o+i.size) cs.length then .As x.ie b ⟨.lit (Ć cs o x.cells),ty⟩ else .fail
   | some ⟨.row vs,ty⟩=>match mX x.cells with
    | some xs=>.As (x.ie++[o+i.size<=vs.length]) b ⟨.row (bG vs o xs),ty⟩
    | none=>.fail
   | some ⟨.aF vs,ty⟩=>if Nat.beq i.size 0 then .fail else match mX x.cells with
    | some xs=>.As (x.ie++[o+i.size<=vs.length]) b ⟨.aF (bG vs o xs),ty⟩
    | none=>.fail
   | none=>.fail
  else .fail
 | _=>.fail
def uk (place:Nat->Option (Nat×Nat))(cells:List C):List (Nat×SV)->Option (List C)
 | []=>some cells
 | (i,x)::r=>match place i with
  | none=>none
  | some (off,size)=>if Nat.beq x.cells.length size&&Nat.ble (off+size) cells.length&&!x.CB then uk place (Ć cells off x.cells) r else none
def ù (ρ:Operand->Option SV):List (Nat×Operand)->Option (List (Nat×SV))
 | []=>some []
 | (i,o)::r=>match ρ o,ù ρ r with
  | some x,some l=>some ((i,x)::l)
  | _,_=>none
def iD (T:eA):List (TypeId×Nat)->Option (List (Nat×Nat))
 | []=>some []
 | (t,off)::r=>match aH T t,iD T r with
  | some i,some l=>some ((off,i.size)::l)
  | _,_=>none
def rep (n:Nat)(u:List C):List C:=(List.replicate n u).flatten
def vE (n:Nat)(u:List Value):List Value:=
 match u with
 | [z]=>List.replicate n z
 | _=>(List.replicate n u).flatten
def jD (a:OA)(m l sz:Nat):OA:=if m=l then a else ae a (l*sz)
def qL (o m l sz:Nat):Nat:=if m=l then o else o+l*sz
def Yg (c:Nat):Option SV->Option (List Prop×Nat)
 | none=>some ([],c)
 | some (.c (.v (.int _ m)))=>some ([0<=m/\m<=(c:Int)],m.toNat)
 | _=>none
def U4 (n m:Nat):Option SV->Option SV->Option (List Prop×Nat)
 | some (.c (.v (.int _ h))),_=>some ([0<=h/\h<=(m:Int)],h.toNat)
 | none,none=>some ([],n)
 | _,_=>none
def qLow (h:Nat):Option SV->Option (List Prop×Option Nat)
 | none=>some ([],none)
 | some (.c (.v (.int _ l)))=>some ([0<=l/\l<=(h:Int)],some l.toNat)
 | _=>none
def tH (n c:Nat)(lo hi mx:Option SV):Option (List Prop×Option Nat×Nat×Nat):=
 match Yg c mx with
 | none=>none
 | some (u,m)=>match U4 n m hi mx with
  | none=>none
  | some (y,h)=>match qLow h lo with
   | none=>none
   | some (z,l)=>some (u++y++z,l,h,m)
def Im (ρ:Operand->Option SV):Option Operand->Option (Option SV)
 | none=>some none
 | some x=>match ρ x with
  | some v=>some (some v)
  | none=>none
def yN (sz:Nat)(x:SV)(lo hi mx:Option SV):Q:=
 match x with
 | .c (.v (.slice a n c))=>match tH n c lo hi mx with
  | some (sc,none,h,m)=>.ret sc (.c (.v (.slice a h m)))
  | some (sc,some l,h,m)=>.ret sc (.c (.v (.slice (jD a m l sz) (h-l) (m-l))))
  | none=>.fail
 | .c (.nG s o n c)=>match tH n c lo hi mx with
  | some (sc,none,h,m)=>.ret sc (.c (.nG s o h m))
  | some (sc,some l,h,m)=>.ret sc (.c (.nG s (qL o m l sz) (h-l) (m-l)))
  | none=>.fail
 | .c (.dT s n c)=>match mx with
  | none=>match tH n c lo hi none with
   | some (sc,none,h,m)=>.ret sc (.c (.dT s h m))
   | _=>.fail
  | some _=>.fail
 | _=>.fail
def jy (T:eA)(i:TI)(x y:SV):Q:=
 match y with
 | .c (.v (.int _ n))=>match i.k with
  | .slice e=>match aH T e with
   | some u=>match x with
    | .c (.v (.slice a len _))=>.ret [a.isSome=true,0<=n/\n<(len:Int)] (.c (.v (.pointer (ae a (n.toNat*u.size)))))
    | .c (.nG s o len _)=>.ret [0<=n/\n<(len:Int)] (.c (.ptr s (o+n.toNat*u.size)))
    | .c (.dT s len c)=>.ret [0<=n/\n<(len:Int),len<=c] (.c (.ptr s (n.toNat*u.size)))
    | _=>.fail
   | none=>.fail
  | .arr len e=>match aH T e with
   | some u=>match x with
    | .c (.ptr s o)=>.ret [0<=n/\n<(len:Int)] (.c (.ptr s (o+n.toNat*u.size)))
    | .c (.v (.pointer a))=>.ret [a.isSome=true,0<=n/\n<(len:Int)] (.c (.v (.pointer (ae a (n.toNat*u.size)))))
    | _=>.fail
   | none=>.fail
  | _=>.fail
 | _=>.fail
def GZ (T:eA)(i:TI)(l c:SV):Q:=
 match i.k with
 | .slice e=>match aH T e with
  | some u=>match l,c with
   | .c (.v (.int _ n)),.c (.v (.int _ m))=>match mX u.zero with
    | some y=>if Nat.beq u.bytes 0||Nat.beq u.size 0||!(Nat.beq u.size y.length) then .fail else .new [0<=n,n<=m,(u.bytes:Int)*m<=2^47] ⟨.row (vE m.toNat y),e⟩ λd=>.c (.nG d 0 n.toNat m.toNat)
    | none=>.fail
   | _,_=>.fail
  | none=>.fail
 | _=>.fail
def Dd:List SV->Option (List Nat)
 | []=>some []
 | .c (.ptr s 0)::r=>match Dd r with
  | some l=>some (s::l)
  | none=>none
 | _=>none
def cS (ρ:Operand->Option SV):List Operand->Option (List SV)
 | []=>some []
 | o::r=>match ρ o,cS ρ r with
  | some x,some l=>some (x::l)
  | _,_=>none
def cN (a b:Int):Int:=if b<a then b else a
def cA (a b:Int):Int:=if b>a then b else a
def Ĳ (f:Int->Int->Int)(k:IntKind)(a:Int):List SV->Option Int
 | []=>some a
 | .c (.v (.int k' b))::r=>if CE k k' then Ĳ f k (f a b) r else none
 | _=>none
def gG (bx:Nat->Option a_)(s:Nat):Option (List Value):=
 match bx s with
 | some ⟨.lit cs,_⟩=>mX cs
 | some ⟨.row vs,_⟩=>some vs
 | _=>none
def nU (bx:Nat->Option a_)(s:Nat):Option TypeId:=match bx s with|some b=>some b.ty|none=>none
def aw (ws:List Value)(o n:Nat):List Value:=cond (Nat.ble (o+n) ws.length) ((ws.drop o).take n) (List.replicate n (.agg #[]))
def rV (ws:List Value)(k c sz:Nat):List Value:=cond (Nat.ble k c) (aw ws 0 (k*sz)) (List.replicate (k*sz) (.agg #[]))
def c_ (bx:Nat->Option a_)(e:TypeId)(u:TI)(b x:SV):Q:=
 match mX u.zero with
 | none=>.fail
 | some y=>if Nat.beq u.bytes 0||Nat.beq u.size 0||!(Nat.beq u.size y.length) then .fail else
  let src:Option (OA×Nat ⊕ List Value):=match x with
   | .c (.v (.slice a k _))=>some (.inl (a,k))
   | .c (.nG s o k _)=>match bx s with
    | some ⟨.row ws,_⟩=>some (.inr (aw ws o (k*u.size)))
    | _=>match gG bx s with
     | some ws=>if Nat.ble (o+k*u.size) ws.length then some (.inr ((ws.drop o).take (k*u.size))) else none
     | none=>none
   | .c (.dT s k c)=>match bx s with
    | some ⟨.aF ws,_⟩=>some (.inr (rV ws k c u.size))
    | _=>none
   | _=>none
  match src with
  | none=>.fail
  | some src=>match b with
   | .c (.v (.slice a n c))=>.app none a [] n c src u.size u.bytes e
   | .c (.nG s 0 n c)=>match gG bx s,nU bx s with
    | some vs,some ty=>if Nat.beq ty e then .app (some s) none vs n c src u.size u.bytes e else .fail
    | _,_=>.fail
   | .c (.dT s n c)=>match bx s with
    | some ⟨.aF vs,ty⟩=>if Nat.beq ty e then .yJ s vs n c src u.size u.bytes e else .fail
    | _=>.fail
   | _=>.fail
def oF (b:Builtin)(k:TK)(xs:List SV):Q:=
 match xs with
 | []=>.fail
 | x::r=>match b with
  | .len=>match r,k,x with
   | [],.slice _,.c (.v (.slice _ n _))=>.ret [] (.c (.v (.int .i64 n)))
   | [],.slice _,.c (.nG _ _ n _)=>.ret [] (.c (.v (.int .i64 n)))
   | [],.slice _,.c (.dT _ n _)=>.ret [] (.c (.v (.int .i64 n)))
   | [],.str,.c (.v (.string s))=>.ret [] (.c (.v (.int .i64 s.size)))
   | _,_,_=>.fail
  | .cap=>match r,k,x with
   | [],.slice _,.c (.v (.slice _ _ c))=>.ret [] (.c (.v (.int .i64 c)))
   | [],.slice _,.c (.nG _ _ _ c)=>.ret [] (.c (.v (.int .i64 c)))
   | [],.slice _,.c (.dT _ _ c)=>.ret [] (.c (.v (.int .i64 c)))
   | _,_,_=>.fail
  | .min=>match x with
   | .c (.v (.int k a))=>match Ĳ cN k a r with
    | some m=>.ret [] (.c (.v (.int k m)))
    | none=>.fail
   | _=>.fail
  | .max=>match x with
   | .c (.v (.int k a))=>match Ĳ cA k a r with
    | some m=>.ret [] (.c (.v (.int k m)))
    | none=>.fail
   | _=>.fail
  | _=>.fail
def Df (t:TypeId)(i:TI)(v:SV):Q:=
 match i.k with
 | .iface=>.fail
 | _=>match v.ids,v.CB with
  | [],false=>.ret [] (.c (.w (.iface t (v.den λ_=>0))))
  | _,_=>.fail
def pO (T:eA)(bx:Nat->Option a_)(t:TypeId)(x:SV):Q:=
 match aH T t with
 | some i=>match i.k with
  | .slice e=>match aH T e with
   | some u=>match mX u.zero,x with
    | some y,.c (.nG s o n _)=>match bx s with
     | some ⟨.row vs,ty⟩=>if Nat.beq u.size 0||!(Nat.beq u.size y.length)||!(y.all Value.oneCell') then .fail else .As [o+n*u.size<=vs.length] s ⟨.row (vs.take o++vE n y++vs.drop (o+n*u.size)),ty⟩
     | _=>.fail
    | _,_=>.fail
   | none=>.fail
  | _=>.fail
 | none=>.fail
def Qg:List C->Option (List (OA×Nat×Nat))
 | []=>some []
 | .v (.slice p n c)::r=>match Qg r with
  | some l=>some ((p,n,c)::l)
  | none=>none
 | _=>none
def oG (T:eA)(i:TI)(cs:List C)(k:Int):Q:=
 match i.k with
 | .arr n e=>match aH T e,Qg cs with
  | some u,some l=>match u.k with
   | .slice _=>if Nat.beq u.size 1&&Nat.beq l.length n then .ret [0<=k/\k<(n:Int)] (.c (.v (.slice (l.getD k.toNat (none,0,0)).1 (l.getD k.toNat (none,0,0)).2.1 (l.getD k.toNat (none,0,0)).2.2))) else .fail
   | _=>.fail
  | _,_=>.fail
 | _=>.fail
def aU (T:eA)(ρ:Operand->Option SV)(bx:Nat->Option a_)(op:Op):Q:=
 match op with
 | .move x|.assign x=>match ρ x with
  | some v=>.ret [] v
  | none=>.fail
 | .pick c a b=>match ρ c with
  | some (.c .tt)=>match ρ a with
   | some v=>.ret [] v
   | none=>.fail
  | some (.c .ff)=>match ρ b with
   | some v=>.ret [] v
   | none=>.fail
  | _=>.fail
 | .alloc t=>match aH T t with
  | some i=>.new [] ⟨.lit i.zero,t⟩ λd=>.c (.ptr d 0)
  | none=>.fail
 | .box t x=>match ρ x with
  | some v=>match v.CB with
   | true=>.fail
   | false=>.new v.ie ⟨.lit v.cells,t⟩ λd=>.c (.ptr d 0)
  | none=>.fail
 | .build t parts=>match aH T t,ù ρ parts.toList with
  | some i,some z=>match i.k with
   | .struct fs=>match iD T fs with
    | some pl=>match uk (λj=>pl[j]?) i.zero z with
     | some cs=>.ret (z.flatMap λx=>x.2.ie) (.agg cs)
     | none=>.fail
    | none=>.fail
   | .arr _ e=>match aH T e with
    | some u=>match uk (λj=>some (j*u.size,u.size)) i.zero z with
     | some cs=>.ret (z.flatMap λx=>x.2.ie) (.agg cs)
     | none=>.fail
    | none=>.fail
   | _=>.fail
  | _,_=>.fail
 | .buildSlice t len parts=>match aH T t,ù ρ parts.toList with
  | some i,some z=>match i.k with
   | .slice e=>match aH T e with
    | some u=>if Nat.ble (len*u.size) 16777216&&Nat.beq u.zero.length u.size&&!(Nat.beq u.size 0) then match uk (λj=>some (j*u.size,u.size)) (rep len u.zero) z with
      | some cs=>.new (z.flatMap λx=>x.2.ie) ⟨.lit cs,e⟩ λd=>.c (.nG d 0 len len)
      | none=>.fail
     else .fail
    | none=>.fail
   | _=>.fail
  | _,_=>.fail
 | .load t a=>match aH T t,ρ a with
  | some i,some x=>mj bx i x
  | _,_=>.fail
 | .store t a x=>match aH T t,ρ a,ρ x with
  | some i,some N,some D=>jz bx i N D
  | _,_,_=>.fail
 | .nilCheck x=>match ρ x with
  | some (.c (.ptr s o))=>.ret [] (.c (.ptr s o))
  | some (.c (.v (.pointer p)))=>.ret [p.isSome=true] (.c (.v (.pointer p)))
  | _=>.fail
 | .binOp o M x y _=>match ρ x,ρ y with
  | some (.c a),some (.c b)=>match b with
   | .v .nilIface=>match y with
    | .const _=>Ix T o M a b
    | _=>.fail
   | b=>Ix T o M a b
  | _,_=>.fail
 | .unOp .not _ x=>match ρ x with
  | some (.c .tt)=>.ret [] (.c .ff)
  | some (.c .ff)=>.ret [] (.c .tt)
  | some (.c (.v (.bool b)))=>.ret [] (.c (.v (.bool (!b))))
  | _=>.fail
 | .unOp .xor _ x=>match ρ x with
  | some (.c (.v (.int k n)))=>.ret [] (.c (.v (.int k (ch .xor k (if k.signed then -1 else k.max) n))))
  | _=>.fail
 | .unOp .neg _ x=>match ρ x with
  | some (.c (.v (.int k n)))=>.ret [] (.c (.v (.int k (k.wrap (0-n)))))
  | _=>.fail
 | .convert src dst x=>match aH T src,aH T dst,ρ x with
  | some _,some i,some (.c (.v (.int _ n)))=>match i.k with
   | .int k=>.ret [] (.c (.v (.int k (k.wrap n))))
   | _=>.fail
  | _,_,_=>.fail
 | .makeFunc (.func f) first caps=>match first.toList with
  | []=>match cS ρ caps.toList with
   | some xs=>match Dd xs with
    | some ss=>.ret [] (.c (.uO f ss))
    | none=>.fail
   | none=>.fail
  | [x]=>match caps.toList,ρ x with
   | [],some (.agg cs)=>match O7 cs with
    | some vs=>.ret [] (.c (.WI f vs))
    | none=>.fail
   | _,_=>.fail
  | _=>.fail
 | .makeSlice t l c=>match aH T t,ρ l,ρ c with
  | some i,some O,some Z=>GZ T i O Z
  | _,_,_=>.fail
 | .slice t x lo hi mx=>match aH T t,ρ x,Im ρ lo,Im ρ hi,Im ρ mx with
  | some i,some D,some l,some h,some m=>match i.k with
   | .slice e=>match aH T e with
    | some u=>yN u.size D l h m
    | none=>.fail
   | _=>.fail
  | _,_,_,_,_=>.fail
 | .fieldAddr t x f=>match aH T t,ρ x with
  | some i,some D=>match i.k with
   | .struct fs=>match fs[f]? with
    | some (E,off)=>match aH T E with
     | some fi=>if Nat.beq fi.size 0 then .fail else match D with
      | .c (.ptr s o)=>.ret [] (.c (.ptr s (o+off)))
      | .c (.v (.pointer p))=>.ret [p.isSome=true] (.c (.v (.pointer (ae p off))))
      | _=>.fail
     | none=>.fail
    | none=>.fail
   | _=>.fail
  | _,_=>.fail
 | .field t x f=>match aH T t,ρ x with
  | some i,some (.agg cs)=>match i.k with
   | .struct fs=>match fs[f]? with
    | some (E,off)=>match aH T E with
     | some fi=>match fi.k with
      | .struct _|.arr _ _=>.ret [] (.agg ((cs.drop off).take fi.size))
      | _=>match cs[off]? with
       | some c=>.ret [] (.c c)
       | none=>.fail
     | none=>.fail
    | none=>.fail
   | _=>.fail
  | _,_=>.fail
 | .indexAddr t x F=>match aH T t,ρ x,ρ F with
  | some i,some D,some iv=>jy T i D iv
  | _,_,_=>.fail
 | .extract x j=>match ρ x with
  | some (.xP xs)=>match xs[j]? with
   | some v=>match yr v with
    | some y=>.ret [] y
    | none=>.fail
   | none=>.fail
  | _=>.fail
 | .call c=>match c.callee with
  | .builtin .append=>match cS ρ c.args.toList,c.argTypes.toList with
   | some [b,x],[t,t']=>match aH T t,aH T t' with
    | some i,some i'=>match i.k,i'.k with
     | .slice e,.slice _=>match aH T e with
      | some u=>c_ bx e u b x
      | none=>.fail
     | _,_=>.fail
    | _,_=>.fail
   | _,_=>.fail
  | .builtin .clear=>match cS ρ c.args.toList,c.argTypes.toList with
   | some [x],[t]=>pO T bx t x
   | _,_=>.fail
  | .builtin b=>match cS ρ c.args.toList,c.argTypes.toList with
   | some xs,t::_=>match aH T t with
    | some i=>oF b i.k xs
    | none=>.fail
   | _,_=>.fail
  | _=>.fail
 | .index t x F=>match aH T t,ρ x,ρ F with
  | some i,some (.c (.v (.string s))),some (.c (.v (.int _ n)))=>match i.k with
   | .str=>.ret [0<=n/\n<(s.size:Int)] (.c (.v (.int .u8 ((s.data.toList.getD n.toNat 0).toNat:Int))))
   | _=>.fail
  | some i,some (.agg cs),some (.c (.v (.int _ n)))=>oG T i cs n
  | _,_,_=>.fail
 | .makeInterface t x=>match aH T t,ρ x with
  | some i,some v=>Df t i v
  | _,_=>.fail
 | _=>.fail
def Ho:List Prop->Prop->Prop
 | [],k=>k
 | p::r,k=>p/\Ho r k
def Ó.Yk (V:Ó)(p:Addr):Nat->List C->Prop->Prop
 | _,[],k=>k
 | i,c::r,k=>V.at (p.add i) (c.den λ_=>0)/\V.Yk p (i+1) r k
def Ó.Yj (V:Ó)(p:OA)(x:SV)(k:Prop):Prop:=
 match x with
 | .agg cs=>∃a,p=some a/\V.Yk a 0 cs k
 | .c c=>(∃a,p=some a/\V.at a (c.den λ_=>0))/\k
 | .xP _=>False
def Ys (vs:List Value)(o size:Nat)(x:SV):Prop:=
 match x with
 | .agg cs=>o+size<=vs.length/\(vs.drop o).take size=cs.map (C.den λ_=>0)
 | .c c=>vs[o]?=some (c.den λ_=>0)
 | .xP _=>False
def jf (x:Nat):List Nat->Bool
 | []=>false
 | y::r=>cond (Nat.beq x y) true (jf x r)
def ø:List Nat->List Nat
 | []=>[]
 | x::r=>let l:=ø r;cond (jf x l) l (x::l)
def ES (l m:List Nat):Bool:=l.all λx=>!(jf x m)
def VB (l m:List Nat):Bool:=l.all λx=>jf x m
def C.rel (L:List Nat)(β:Nat->Nat)(J:C->Value):C->C
 | .ptr s o=>cond (jf s L) (.v (.pointer (some ⟨β s,o,none⟩))) (.ptr s o)
 | .nG s o n c=>cond (jf s L) (.v (.slice (some ⟨β s,o,none⟩) n c)) (.nG s o n c)
 | .dT s n c=>cond (jf s L) (.v (.slice (mA (β s) c) n c)) (.dT s n c)
 | .uO f ss=>cond (ES ss L) (.uO f ss) (.w (J (.uO f ss)))
 | x=>x
def SV.rel (L:List Nat)(β:Nat->Nat)(J:C->Value):SV->SV
 | .c x=>.c (x.rel L β J)
 | .agg cs=>.agg (cs.map (C.rel L β J))
 | .xP xs=>.xP (xs.map λx=>(x.1,x.2.map (C.rel L β J)))
def a_.rel (L:List Nat)(β:Nat->Nat)(J:C->Value)(b:a_):a_:=
 match b.cs with
 | .row _=>b
 | .aF _=>b
 | .lit cs=>⟨.lit (cs.map (C.rel L β J)),b.ty⟩
def St.rel (st:St)(L:List Nat)(β:Nat->Nat)(J:C->Value):St:=
 ⟨λt=>match st.aC t with|some x=>some (x.rel L β J)|none=>none,
   λt=>cond (jf t L) none (match st.boxes t with|some b=>some (b.rel L β J)|none=>none)⟩
def Ó.sl (V:Ó)(a:OA)(xs:List Value):Prop:=∀i v,xs[i]?=some v->∃ad,a=some ad/\V.at (ad.add i) v
variable{V V':Ó}
def uo (s d:Nat):Nat:=cond (Nat.blt s 100000) d (d+200000)
def JH (s:Nat)(vs:List Value)(n c size bytes:Nat)(ty:TypeId)(d:Nat)(st:St)(V:Ó)(K:St->Ó->Prop)(k:Nat)(xs:List Value):Prop:=
 (n+k)*bytes<=2^47/\n<=c/\c*size<=vs.length/\xs.length=k*size/\(∀v∈xs,v.oneCell'=true) /\
  match st.boxes (uo s d) with
  | some _=>False
  | none=>∀(_:Nat)(_:C->Value)(spare:List Value)(u:Nat),n+k<=u->u*size<=(n+k)*size+spare.length ->
   K (((st.box s ⟨.aF [],ty⟩).box (uo s d) ⟨.row (vs.take (n*size)++xs++spare),ty⟩).put (some d) (.c (.nG (uo s d) 0 (n+k) u))) V
def zN (s:Nat)(vs:List Value)(n c size bytes:Nat)(ty:TypeId)(d:Nat)(st:St)(V:Ó)(K:St->Ó->Prop)(k:Nat)(xs:List Value):Prop:=
 (n+k)*bytes<=2^47/\n<=c/\c*size<=vs.length/\xs.length=k*size/\(∀v∈xs,v.oneCell'=true) /\
  match st.boxes (uo s d) with
  | some _=>False
  | none=>∀(spare:List Value)(u:Nat),n+k<=u->u*size<=(n+k)*size+spare.length ->
   K (((st.box s ⟨.aF [],ty⟩).box (uo s d) ⟨.aF (vs.take (n*size)++xs++spare),ty⟩).put (some d) (.c (.dT (uo s d) (n+k) u))) V
def JI (vs:List Value)(n c size bytes:Nat)(ty:TypeId)(d:Nat)(st:St)(V:Ó)(K:St->Ó->Prop)(k:Nat)(xs:List Value):Prop:=
 (n+k)*bytes<=2^47/\c<n+k/\xs.length=k*size/\(∀v∈xs,v.oneCell'=true) /\
  match st.boxes d with
  | some _=>False
  | none=>∀(spare:List Value)(u:Nat),n+k<=u->u*size<=(n+k)*size+spare.length ->
   K ((st.box d ⟨.row (vs++xs++spare),ty⟩).put (some d) (.c (.nG d 0 (n+k) u))) V
def At (q:Q)(dst:Option Nat)(st:St)(V:Ó)(K:St->Ó->Prop):Prop:=
 match q with
 | .fail=>False
 | .ret sc x=>Ho sc (K (st.put dst x) V)
 | .new sc b x=>match dst with
  | some d=>match st.boxes d with
   | none=>Ho sc (K ((st.box d b).put (some d) (x d)) V)
   | some _=>False
  | none=>False
 | .As sc s b=>match dst with
  | none=>Ho sc (K (st.box s b) V)
  | some _=>False
 | .rd p sh=>sh.ex λx=>V.Yj p x (K (st.put dst x) V)
 | .ur vs o size sh=>sh.ex λx=>Ys vs o size x/\K (st.put dst x) V
 | .yJ s vs n c x size bytes ty=>match dst with
  | none=>False
  | some d=>match x with
   | .inr xs=>zN s vs n c size bytes ty d st V K (xs.length/size) xs
   | .inl (a,k)=>∃xs:List Value,V.sl a xs/\xs.length=k*size/\zN s vs n c size bytes ty d st V K k xs
 | .app old ba vs n c x size bytes ty=>match dst with
  | none=>False
  | some d=>match old with
   | some s=>match x with
    | .inr xs=>JH s vs n c size bytes ty d st V K (xs.length/size) xs
    | .inl (a,k)=>∃xs:List Value,V.sl a xs/\xs.length=k*size/\JH s vs n c size bytes ty d st V K k xs
   | none=>∃vs:List Value,V.sl ba vs/\vs.length=n*size/\n<=c/\(ba.isNone=true->c=0)/\(match x with
    | .inr xs=>JI vs n c size bytes ty d st V K (xs.length/size) xs
    | .inl (a,k)=>∃xs:List Value,V.sl a xs/\xs.length=k*size/\(k=0->K (st.put (some d) (.c (.v (.slice ba n c)))) V)/\(k≠0->JI vs n c size bytes ty d st V K k xs))
def cK (β:Nat->Nat)(s b:Nat):Nat->Nat:=λt=>cond (Nat.beq t s) b (β t)
def nS:List Nat->(Nat->Nat)->((Nat->Nat)->Prop)->Prop
 | [],β,k=>k β
 | s::r,β,k=>∀b:Nat,nS r (cK β s b) k
def oQ (bx:Nat->Option a_)(s:Nat):List Nat:=match bx s with|some b=>b.cs.ids|none=>[]
def ó (bx:Nat->Option a_):Nat->List Nat->List Nat
 | 0,l=>l
 | n+1,l=>ó bx n (ø (l++l.flatMap (oQ bx)))
def jL (bx:Nat->Option a_)(l:List Nat):Bool:=l.all λs=>VB (oQ bx s) l
def ZB (bx:Nat->Option a_)(b:a_)(β:Nat->Nat)(s:Nat):List Nat->Prop->Prop
 | [],k=>k
 | t::r,k=>cond (Nat.beq s t) (ZB bx b β s r k) (match bx t with
  | some b'=>wD (Sr b++Sr b') (β s≠β t)->ZB bx b β s r k
  | none=>False)
def kG (bx:Nat->Option a_)(β:Nat->Nat)(V:Ó):List Nat->Prop->Prop
 | [],k=>k
 | s::r,k=>match bx s with
  | some b=>wD (Sr b) (V.w.heap[β s]?=some (b.obj β))->wD (Sr b) (V.H (β s))->kG bx β V r (ZB bx b β s r k)
  | none=>False
def vb (vs:List Value)(n b:Nat):Nat:=
 match vs with
 | []=>n
 | _::_=>b
def fk (bx:Nat->Option a_)(β:Nat->Nat)(n:Nat)(s:Nat):Nat:=
 match bx s with
 | some ⟨.aF vs,_⟩=>vb vs n (β s)
 | _=>β s
def C.kept:C->List Nat
 | .uO _ ss=>0::ss
 | c=>c.ids
def pz (u:Option (Nat×Nat)):List C->List C->(List C->Prop)->Prop
 | [],_,K=>K []
 | c::r,z::y,K=>match c with
  | .dT t _ _=>match u with
   | some (m,D)=>match Nat.beq t m with
    | true=>∃n c:Nat,pz u r y λcs=>K (.dT D n c::cs)
    | false=>False
   | none=>False
  | c=>match c.kept with
   | []=>(shC z).ex λv=>pz u r y λcs=>K (v::cs)
   | _=>pz u r y λcs=>K (c::cs)
 | _,[],_=>False
def fX (T:eA)(z:Option (Nat×Nat))(β:Nat->Nat)(V:Ó):List Nat->St->(St->Prop)->Prop
 | [],st,k=>k st
 | s::r,st,k=>match st.boxes s with
  | some ⟨.lit cs,ty⟩=>match aH T ty with
   | some i=>pz z cs i.zero λy=>V.w.heap[β s]?=some (.cells (y.map (C.den β)).toArray ty (0,0))/\fX T z β V r (st.box s ⟨.lit y,ty⟩) k
   | none=>False
  | some ⟨.row _,ty⟩=>∃vs:List Value,V.w.heap[β s]?=some (.cells vs.toArray ty (0,0))/\fX T z β V r (st.box s ⟨.row vs,ty⟩) k
  | some ⟨.aF vs,ty⟩=>vs≠[]/\∃u:List Value,u≠[]/\V.w.heap[β s]?=some (.cells u.toArray ty (0,0))/\fX T z β V r (st.box s ⟨.aF u,ty⟩) k
  | _=>False
def va (bx:Nat->Option a_)(β:Nat->Nat)(V:Ó):List Nat->Prop->Prop
 | [],k=>k
 | s::r,k=>match bx s with
  | some b=>wD (Sr b) (V.aX (β s) (b.obj β))->va bx β V r k
  | none=>False
def u_:List C->List Nat
 | []=>[]
 | .dT t _ _::r=>t::u_ r
 | _::r=>u_ r
def wN (bx:Nat->Option a_)(L:List Nat):List Nat:=ø (L.flatMap λs=>match bx s with|some ⟨.lit cs,_⟩=>u_ cs|_=>[])
def pD:List SV->List Nat
 | []=>[]
 | .c (.dT s _ _)::_=>[s]
 | .c (.nG s 0 _ _)::_=>[s]
 | _::r=>pD r
def Be (u:Nat):List (Bool×List C)->List (Bool×List C)
 | []=>[]
 | (false,[.v (.slice _ n c)])::r=>(false,[.dT u n c])::r
 | x::r=>x::Be u r
def HX (u:Nat):List C->List C
 | []=>[]
 | .v (.slice _ n c)::r=>.dT u n c::r
 | x::r=>x::HX u r
def yB (u:Nat):SV->SV
 | .c (.v (.slice _ n c))=>.c (.dT u n c)
 | .agg cs=>.agg (HX u cs)
 | .xP xs=>.xP (Be u xs)
 | x=>x
def HY (T:eA):List TypeId->Option TypeId
 | []=>none
 | t::r=>match aH T t with
  | some i=>match i.k with
   | .slice e=>some e
   | _=>HY T r
  | none=>none
def TU (T:eA)(ty:TypeId):Option TypeId:=
 match aH T ty with
 | some i=>match i.k with
  | .slice e=>some e
  | .tuple ts=>HY T ts
  | .struct fs=>HY T (fs.map Prod.fst)
  | _=>none
 | none=>none
def aI (β:Nat->Nat)(xs:List SV):Array Value:=(xs.map (SV.den β)).toArray
inductive CM where
 | none|ao|rel|kE|give
def ia (m:Option Nat)(d:Nat):Nat:=
 match m with
 | some m=>uo m d
 | Option.none=>d
def mvP (m:Option Nat)(u:Nat):Option (Nat×Nat):=
 match m with
 | some m=>some (m,u)
 | Option.none=>Option.none
def KK (m:Option Nat)(L:List Nat):List Nat:=
 match m with
 | some m=>L.filter λs=>!(Nat.beq s m)
 | Option.none=>L
def wB (m:Option Nat)(ety:TypeId)(st:St):St:=
 match m with
 | some m=>st.box m ⟨.aF [],ety⟩
 | Option.none=>st
def En (m:Option Nat)(st:St)(β:Nat->Nat)(b':Nat):Prop:=
 match m with
 | some m=>match st.boxes m with
  | some ⟨.aF vs,_⟩=>vs≠[]/\b'=β m
  | _=>b'=β m
 | Option.none=>False
def cM (T:eA)(give:Bool)(sh:Sh)(L:List Nat)(m:Option Nat)(d:Nat)(ety:TypeId)(β:Nat->Nat)(st:St)(V':Ó)(K:St->Ó->Prop)(D:Value)(y:Ó):Prop:=
 ∃(b':Nat)(u:List Value),(u≠[]->y.w.heap[b']?=some (.cells u.toArray ety (0,0)))/\(u≠[]->V'.w.heap.size<=b'\/En m st β b') /\
  sh.ex λx=>D=(cond give (yB (ia m d) x) x).den (cK β (ia m d) b') /\
   fX T (mvP m (ia m d)) (cK β (ia m d) b') y (KK m L) ((wB m ety st).box (ia m d) ⟨.aF u,ety⟩) λz=>K (z.put (some d) (cond give (yB (ia m d) x) x)) (y.shut.bq (u≠[]) b')
def IJ (bx:Nat->Option a_)(m ety:Nat):Bool:=
 match bx m with
 | some ⟨_,t⟩=>Nat.beq t ety
 | Option.none=>true
def eQ (st:St)(L:List Nat)(ty:TypeId):St:=L.foldl (λst s=>st.box s ⟨.aF [],ty⟩) st
def mf (st:St)(m:Option Nat)(d:Nat):Bool:=
 match st.boxes (ia m d) with
 | some _=>false
 | Option.none=>true
def im (P:Program)(T:eA)(m:CM)(f:FuncId)(xs:List SV)(ty:TypeId)(dst:Option Nat)(st:St)(V:Ó)(K:St->Ó->Prop):Prop:=
 match shOf T ty with
 | Option.none=>False
 | some sh=>match ó st.boxes 3 (ø (xs.flatMap SV.ids)) with
  | []=>match m with
   | .give=>match dst,TU T ty with
    | some d,some ety=>match mf st Option.none d with
     | false=>False
     | true=>∀V':Ó,V.Le V'->aa P f (aI (λ_=>0) xs) V' (cM T true sh [] Option.none d ety (λ_=>0) st V' K)
    | _,Option.none=>∀V':Ó,V.Le V'->aa P f (aI (λ_=>0) xs) V' λr u=>sh.ex λx=>r=x.den (λ_=>0)/\K (st.put dst x) u
    | _,_=>False
   | .kE=>match sh,dst with
    | .val (.one .ptr),some d=>match st.boxes d with
     | some _=>False
     | Option.none=>match aH T ty with
      | some D=>match D.k with
       | .ptr e=>match aH T e with
        | some E=>∀V':Ó,V.Le V'->aa P f (aI (λ_=>0) xs) V' λr u=>∃b:Nat,exL (E.zero.map shC) λcs=>
          r=.pointer (some ⟨b,0,Option.none⟩)/\V'.w.heap.size<=b/\u.aX b (.cells (cs.map (C.den λ_=>0)).toArray e (0,0))/\K ((st.box d ⟨.lit cs,e⟩).put (some d) (.c (.ptr d 0))) (u.T0 b)
        | Option.none=>False
       | _=>False
      | Option.none=>False
    | _,_=>False
   | _=>∀V':Ó,V.Le V'->aa P f (aI (λ_=>0) xs) V' λr u=>sh.ex λx=>r=x.den (λ_=>0)/\K (st.put dst x) u
  | s::r=>match jL st.boxes (s::r) with
   | false=>False
   | true=>match m with
    | .none|.kE=>False
    | .give=>match dst,TU T ty,pD xs,wN st.boxes (s::r) with
     | some d,some ety,[],[]=>match mf st Option.none d with
      | false=>False
      | true=>∀V':Ó,V.Le V'->nS (s::r) (λ_=>0) λβ=>kG st.boxes β V' (s::r)
       (aa P f (aI β xs) (V'.ao ((s::r).map (fk st.boxes β V'.w.heap.size))) (cM T true sh (s::r) Option.none d ety β st V' K))
     | some d,some ety,[m],[]=>match IJ st.boxes m ety with
      | true=>match mf st (some m) d with
       | false=>False
       | true=>∀V':Ó,V.Le V'->nS (s::r) (λ_=>0) λβ=>kG st.boxes β V' (s::r)
        (aa P f (aI β xs) (V'.ao ((s::r).map (fk st.boxes β V'.w.heap.size))) (cM T true sh (s::r) (some m) d ety β st V' K))
      | false=>match mf (eQ st (s::r) 0) Option.none d with
       | false=>False
       | true=>match (s::r).all λt=>Nat.blt t 100000 with
        | false=>False
        | true=>∀V':Ó,V.Le V'->nS (s::r) (λ_=>0) λβ=>va st.boxes β V' (s::r)
         (aa P f (aI β xs) V' (cM T true sh [] Option.none d ety (λ_=>0) (eQ st (s::r) 0) V' K))
     | _,Option.none,_,_=>match (s::r).all λt=>Nat.blt t 100000 with
      | false=>False
      | true=>∀V':Ó,V.Le V'->nS (s::r) (λ_=>0) λβ=>va st.boxes β V' (s::r)
       (aa P f (aI β xs) V' λy u=>sh.ex λx=>y=x.den (λ_=>0)/\K ((eQ st (s::r) 0).put dst x) u)
     | _,_,_,_=>False
    | .ao=>match wN st.boxes (s::r) with
     | []=>∀V':Ó,V.Le V'->nS (s::r) (λ_=>0) λβ=>kG st.boxes β V' (s::r)
      (aa P f (aI β xs) (V'.ao ((s::r).map (fk st.boxes β V'.w.heap.size))) λy u=>sh.ex λx=>y=x.den (λ_=>0)/\fX T Option.none β u (s::r) st λz=>K (z.put dst x) u.shut)
     | [m]=>match dst,nU st.boxes m with
      | some d,some ety=>match mf st (some m) d with
       | false=>False
       | true=>∀V':Ó,V.Le V'->nS (s::r) (λ_=>0) λβ=>kG st.boxes β V' (s::r)
        (aa P f (aI β xs) (V'.ao ((s::r).map (fk st.boxes β V'.w.heap.size))) (cM T false sh (s::r) (some m) d ety β st V' K))
      | _,_=>False
     | _=>False
    | .rel=>match (s::r).all λt=>Nat.blt t 100000 with
     | false=>False
     | true=>∀V':Ó,V.Le V'->nS (s::r) (λ_=>0) λβ=>va st.boxes β V' (s::r)
      (aa P f (aI β xs) V' λy u=>sh.ex λx=>y=x.den (λ_=>0)/\∀J:C->Value,K ((st.rel (s::r) β J).put dst x) u)
def pT (bx:Nat->Option a_):List SV->Option (List Value×Nat×List SV)
 | []=>none
 | x::r=>match x with
  | .c (.dT s n c)=>match bx s with
   | some ⟨.aF vs,_⟩=>some (vs,c,.c (.v (.slice none n c))::r)
   | _=>none
  | x=>match pT bx r with
   | some (vs,c,u)=>some (vs,c,x::u)
   | none=>none
def mz (P:Program)(T:eA)(m:CM)(f:FuncId)(xs:List SV)(ty:TypeId)(dst:Option Nat)(st:St)(V:Ó)(K:St->Ó->Prop):Prop:=
 match m with
 | .ao=>match pT st.boxes xs with
  | some (vs,c,u)=>(vs=[]->c=0/\im P T .ao f u ty dst st V K)/\(vs≠[]->im P T .ao f xs ty dst st V K)
  | none=>im P T .ao f xs ty dst st V K
 | m=>im P T m f xs ty dst st V K
def Cc (ss:List Nat):List SV:=ss.map λs=>.c (.ptr s 0)
inductive þ where
 | free|own (l:List Nat)
def nu (op:Op):List Operand:=
 match op with
 | .load _ a=>[a]
 | .store _ a _=>[a]
 | .call ⟨.value f,args,_⟩=>args.toList++[f]
 | .call ⟨.builtin .append,args,_⟩=>args.toList
 | _=>[]
def ik (bx:Nat->Option a_)(op:Op)(l:List Nat):List Nat:=
 match op with
 | .call _=>ó bx 3 (ø l)
 | _=>l
def NK (P:Program)(t:TypeId)(name:String):Option FuncId:=
 match P.info? t,P.underlying t with
 | some i,some d=>match i.methods.find? (λm=>m.name==name) with
  | some m=>match m.path.toList,m.func,d with
   | [],some (f,false),.struct _=>some f
   | _,_,_=>none
  | none=>none
 | _,_=>none
def ew (P:Program)(T:eA)(m:CM)(o:Oper)(st:St)(V:Ó)(K:St->Ó->Prop):Prop:=
 match o.op with
 | .call ⟨.value Y_,args,_⟩=>match cS st.bN args.toList with
  | some xs=>match st.bN Y_ with
   | some (.c (.uO f ss))=>mz P T m f (xs++Cc ss) o.type o.dst st V K
   | some (.c (.WI f vs))=>mz P T .none f (.agg (vs.map .v)::xs) o.type o.dst st V K
   | _=>False
  | none=>False
 | .call ⟨.invoke recv name,args,_⟩=>match cS st.bN args.toList with
  | some xs=>match st.bN recv with
   | some (.c (.w (.iface t v)))=>match NK P t name with
    | some f=>mz P T m f (.c (.w v)::xs) o.type o.dst st V K
    | none=>False
   | _=>False
  | none=>False
 | op=>At (aU T st.bN st.boxes op) o.dst st V K
def dW (P:Program)(T:eA)(m:CM)(h:þ)(o:Oper)(st:St)(V:Ó)(K:St->Ó->Prop):Prop:=
 match h with
 | .free=>ew P T m o st V K
 | .own l=>match cS st.bN (nu o.op) with
  | some xs=>match VB (ik st.boxes o.op (xs.flatMap SV.ids)) l with
   | true=>ew P T m o st V K
   | false=>False
  | none=>False
def my:SV:=.xP []
def xw (P:Program)(T:eA)(m:CM)(h:þ)(ops:Array Oper)(o:Oper)(st:St)(V:Ó)(K:St->Ó->Prop):Prop:=
 match o.guard with
 | none=>dW P T m h o st V K
 | some (j,b)=>match (ops[j]?).bind (·.dst) with
  | none=>False
  | some g=>match st.aC g with
   | some (.c .tt)=>match b with
    | true=>dW P T m h o st V K
    | false=>K (st.put o.dst my) V
   | some (.c .ff)=>match b with
    | true=>K (st.put o.dst my) V
    | false=>dW P T m h o st V K
   | some (.c (.v (.bool c)))=>match b with
    | true=>(c=true->dW P T m h o (st.put (some g) (.c .tt)) V K)/\(c=false->K ((st.put (some g) (.c .ff)).put o.dst my) V)
    | false=>(c=true->K ((st.put (some g) (.c .tt)).put o.dst my) V)/\(c=false->dW P T m h o (st.put (some g) (.c .ff)) V K)
   | some (.xP _)=>K (st.put o.dst my) V
   | _=>False
inductive Cls where
 | pure|load|store|alloc|call|oA|odd|kE|app|give
def bI (LF RF:List Nat):Op->Cls
 | .move _|.assign _|.pick ..| .build ..| .nilCheck _|.binOp ..| .unOp ..| .convert ..| .makeFunc ..| .slice ..| .fieldAddr ..| .field ..| .indexAddr ..| .extract ..| .index ..| .makeInterface ..=>.pure
 | .load ..=>.load
 | .store ..=>.store
 | .alloc _|.box ..| .buildSlice ..| .makeSlice ..=>.alloc
 | .call ⟨.builtin .len,_,_⟩|.call ⟨.builtin .cap,_,_⟩=>.pure
 | .call ⟨.builtin .append,_,_⟩=>.app
 | .call ⟨.value (.func f),_,_⟩=>match jf f LF with
  | true=>match jf (f+1000000) LF with
   | true=>.give
   | false=>.oA
  | false=>match jf f RF with
   | true=>.odd
   | false=>match jf (f+1000000) RF with
    | true=>.kE
    | false=>.call
 | .call ⟨.value _,_,_⟩=>.oA
 | .call ⟨.invoke _ _,_,_⟩=>.call
 | _=>.odd
def ku (op:Op):List Nat:=op.operands.toList.filterMap λ|.tmp t=>some t|_=>none
def gU (ops:Array Oper)(o:Oper):List Nat:=
 match o.guard with
 | none=>[]
 | some (j,_)=>match (ops[j]?).bind (·.dst) with
  | some g=>[g]
  | none=>[]
def fV (o:Oper):List Nat:=match o.dst with|some d=>[d]|none=>[]
def wX (c:Cls)(h:þ)(d:List Nat):Option (List Nat×List Nat):=
 match c,h with
 | .pure,.free=>some ([],[])
 | .call,.free=>some ([],[])
 | .alloc,.free=>some (d,d)
 | .load,.own l=>some (l,[])
 | .store,.own l=>some (l,l)
 | .oA,.own l=>some (l,l++d++d.map (·+ 200000))
 | .app,.own l=>some (l,l++d++d.map (·+ 200000))
 | .give,.own l=>some (l,l++d++d.map (·+ 200000))
 | _,_=>none
def rP:Cls->Bool
 | .pure|.load|.store|.alloc=>true
 | _=>false
def ĝ (LF RF:List Nat)(ops:Array Oper)(E F:þ)(u y:Oper):Bool:=
 rP (bI LF RF u.op) &&
 ES (fV u) (ku y.op++gU ops y++fV y)&&ES (fV y) (ku u.op++gU ops u) &&
 ES (gU ops u) (ku y.op)&&ES (gU ops y) (ku u.op) &&
 match wX (bI LF RF u.op) E (fV u),wX (bI LF RF y.op) F (fV y) with
 | some (M,z),some (N,D)=>ES z N&&ES D M&&ES z D
 | _,_=>false
def fstOf (ops:List Oper)(t:Nat):Option Oper:=ops.find? λo=>match o.dst with|some d=>Nat.beq d t|none=>false
def Dq (st:St)(ops:List Oper):Nat->Operand->List Nat
 | 0,_=>[]
 | n+1,.tmp t=>match fstOf ops t with
  | some o=>match o.op with
   | .alloc _|.box ..| .buildSlice ..| .makeSlice ..=>[t]
   | .call _=>[t,t+200000]
   | .assign x=>Dq st ops n x++match st.aC t with
    | some x=>x.ids
    | none=>[]
   | .load _ a=>(Dq st ops n a).flatMap (oQ st.boxes)
   | op=>op.operands.toList.flatMap (Dq st ops n)
  | none=>match st.aC t with
   | some x=>x.ids
   | none=>[]
 | _,_=>[]
def T1 (LF RF:List Nat)(st:St)(ops:List Oper)(o:Oper):þ:=
 match bI LF RF o.op with
 | .load|.store=>.own (ø ((nu o.op).flatMap (Dq st ops 10)))
 | .oA|.app|.give=>.own (ó st.boxes 3 (ø ((nu o.op).flatMap (Dq st ops 10))))
 | _=>.free
def SJ (ops:List Oper):List Nat:=
 ops.foldl (λacc o=>acc++[o.after.toList.foldl (λs e=>cond (Region.binds .any e) (Nat.lor (Nat.lor (Nat.shiftLeft 1 e.on) (acc.getD e.on 0)) s) s) 0]) []
def bitB (m i:Nat):Bool:=Nat.beq (Nat.land (Nat.shiftRight m i) 1) 1
def XE (LF RF:List Nat)(o:Oper):Bool:=match bI LF RF o.op with|.call|.oA|.odd|.kE|.app|.give=>true|_=>false
def N_ (ops:Array Oper)(done:List Nat)(i:Nat):Bool:=
 match ops[i]? with
 | some o=>!(jf i done)&&o.after.toList.all λe=>!(Region.binds .any e)||jf e.on done
 | none=>false
def IP (LF RF:List Nat)(ops:Array Oper):Nat->List Nat->List Nat
 | 0,_=>[]
 | n+1,done=>
  let rs:=(List.range ops.size).filter (N_ ops done)
  match rs.find? (λi=>match ops[i]? with|some o=>!(XE LF RF o)|none=>false) with
  | some i=>i::IP LF RF ops n (i::done)
  | none=>match rs with
   | i::_=>i::IP LF RF ops n (i::done)
   | []=>[]
def vj (LF RF:List Nat)(ops:Array Oper):List Nat:=IP LF RF ops ops.size []
def Bq (LF RF:List Nat)(ops:Array Oper)(u:List þ)(y:List Nat):List Nat->Bool
 | []=>true
 | i::r=>(r.all λj=>bitB (y.getD j 0) i||match ops[i]?,ops[j]? with|some a,some b=>ĝ LF RF ops (u.getD i .free) (u.getD j .free) a b|_,_=>false)&&Bq LF RF ops u y r
def wR (ops:Array Oper):List Nat->List Nat->Bool
 | _,[]=>true
 | done,i::r=>N_ ops done i&&wR ops (i::done) r
def PR (LF RF:List Nat)(ops:Array Oper)(u:List þ)(l:List Nat):Bool:=
 Nat.beq l.length ops.size&&((List.range ops.size).all λi=>jf i l)&&wR ops [] l&&Bq LF RF ops u (SJ ops.toList) l
def VL (P:Program)(T:eA)(m:Nat->CM)(hint:Nat->þ)(ops:Array Oper):List Nat->St->Ó->(St->Ó->Prop)->Prop
 | [],st,V,K=>K st V
 | i::r,st,V,K=>match ops[i]? with
  | some o=>xw P T (m i) (hint i) ops o st V λu V'=>VL P T m hint ops r u V' K
  | none=>False
def nw (LF RF:List Nat)(ops:Array Oper)(i:Nat):CM:=
 match ops[i]? with
 | some o=>match bI LF RF o.op with
  | .oA=>.ao
  | .odd=>.rel
  | .kE=>.kE
  | .give=>.give
  | _=>.none
 | Option.none=>.none
def modeN (LF RF:List Nat)(ops:Array Oper)(i:Nat):CM:=
 match ops[i]? with
 | some o=>match bI LF RF o.op with
  | .oA=>.ao
  | .kE=>.kE
  | .give=>.give
  | _=>.rel
 | Option.none=>.none
structure Tm where
 τ:Type
 gh:Bool:=false
 keep:List Nat
 keepB:List Nat
 aC:τ->List (Nat×SV)
 boxes:τ->List (Nat×a_)
structure ZW where
 τ:Type
 aC:τ->List (Nat×SV)
 boxes:τ->List (Nat×a_)
def Pv {α:Type}(f:Nat->Option α):List Nat->List (Nat×α)
 | []=>[]
 | t::r=>match f t with
  | some x=>(t,x)::Pv f r
  | none=>Pv f r
def Tm.at (A:Tm)(st:St):ZW:=⟨A.τ,λx=>Pv st.aC A.keep++A.aC x,λx=>Pv st.boxes A.keepB++A.boxes x⟩
def uQ (ρ:List (Nat×Nat))(s s':Nat):Bool:=
 match aH ρ s' with
 | some t=>Nat.beq s t
 | none=>Nat.beq s s'
def Gv (ρ:List (Nat×Nat)):List Nat->List Nat->Bool
 | [],[]=>true
 | s::r,s'::u=>uQ ρ s s'&&Gv ρ r u
 | _,_=>false
def eqC (ρ:List (Nat×Nat)):C->C->List Prop
 | .v (.int k a),.v (.int k' b)=>cond (CE k k') [a=b] [False]
 | .v (.bool a),.v (.bool b)=>[a=b]
 | .tt,.v (.bool b)=>[true=b]
 | .ff,.v (.bool b)=>[false=b]
 | .v (.slice a n c),.v (.slice E u z)=>[a=E,n=u,c=z]
 | .v (.slice a n c),.dT _ u z=>[a=none,n=u,c=z,c=0]
 | .v (.pointer p),.v (.pointer q)=>[p=q]
 | .v x,.v y=>[x=y]
 | .w x,.w y=>[x=y]
 | .w x,.v y=>[x=y]
 | .v x,.w y=>[x=y]
 | .tt,.tt=>[]
 | .ff,.ff=>[]
 | .ptr s o,.ptr s' D=>cond (uQ ρ s s') [o=D] [False]
 | .nG s o n c,.nG s' D u z=>cond (uQ ρ s s') [o=D,n=u,c=z] [False]
 | .nG s o n c,.dT s' u z=>cond (uQ ρ s s') [o=0,n=u,c=z,c≠0] [False]
 | .dT s n c,.dT s' u z=>cond (uQ ρ s s') [n=u,c=z] [False]
 | .uO f ss,.uO g ts=>cond (Gv ρ ss ts) [f=g] [False]
 | .WI f vs,.WI g ws=>[f=g,vs=ws]
 | _,_=>[False]
def Np (ρ:List (Nat×Nat)):List C->List C->List Prop
 | [],[]=>[]
 | a::r,b::s=>eqC ρ a b++Np ρ r s
 | _,_=>[False]
def eqSV (ρ:List (Nat×Nat)):SV->SV->List Prop
 | .c a,.c b=>eqC ρ a b
 | .agg l,.agg m=>Np ρ l m
 | _,_=>[False]
def SV.plain:SV->Bool
 | .xP _=>false
 | _=>true
def TG (ρ:List (Nat×Nat))(a b:a_):List Prop:=
 match a.cs,b.cs with
 | .lit l,.lit m=>cond (Nat.beq a.ty b.ty) (Np ρ l m) [False]
 | .row l,.row m=>cond (Nat.beq a.ty b.ty) [l=m] [False]
 | .aF l,.aF m=>cond (Nat.beq a.ty b.ty) [l=m] [False]
 | .row l,.aF m=>cond (Nat.beq a.ty b.ty) [l=m] [False]
 | .lit l,.aF m=>match mX l with
  | some ws=>cond (Nat.beq a.ty b.ty) [ws=m] [False]
  | none=>[False]
 | .lit l,.row m=>match mX l with
  | some ws=>cond (Nat.beq a.ty b.ty) [ws=m] [False]
  | none=>[False]
 | _,_=>[False]
def renC:C->C->List (Nat×Nat)
 | .ptr s _,.ptr s' _=>[(s',s)]
 | .nG s _ _ _,.nG s' _ _ _=>[(s',s)]
 | .nG s _ _ _,.dT s' _ _=>[(s',s)]
 | .dT s _ _,.dT s' _ _=>[(s',s)]
 | .uO _ ss,.uO _ ts=>ts.zip ss
 | _,_=>[]
def Vd:List C->List C->List (Nat×Nat)
 | a::r,b::s=>renC a b++Vd r s
 | _,_=>[]
def renSV:SV->SV->List (Nat×Nat)
 | .c a,.c b=>renC a b
 | .agg l,.agg m=>Vd l m
 | _,_=>[]
def renS (st:St):List (Nat×SV)->List (Nat×Nat)
 | []=>[]
 | (t,x)::r=>match st.aC t with
  | some y=>renSV y x++renS st r
  | none=>renS st r
def R3 (st:St)(ρ:List (Nat×Nat)):List (Nat×a_)->List (Nat×Nat)
 | []=>[]
 | (t,x)::r=>match aH ρ t with
  | some s=>match st.boxes s with
   | some y=>(match y.cs,x.cs with|.lit l,.lit m=>Vd l m|_,_=>[])++R3 st ρ r
   | none=>R3 st ρ r
  | none=>R3 st ρ r
def Vc (st:St)(ss:List (Nat×SV))(u:List (Nat×a_)):List (Nat×Nat):=
 let ρ1:=renS st ss
 let ρ2:=ρ1++R3 st ρ1 u
 let ρ3:=ρ2++R3 st ρ2 u
 ρ3++R3 st ρ3 u
def Ln (ρ:List (Nat×Nat))(t:Nat):Nat:=
 match aH ρ t with
 | some s=>s
 | none=>t
def G3 (ρ:List (Nat×Nat)):List Nat->Bool
 | []=>true
 | t::r=>(Nat.blt t 100000==Nat.blt (Ln ρ t) 100000)&&(Nat.blt t 100000||Nat.ble 200000 t||Nat.beq (Ln ρ t) t)&&(r.all λu=>!(Nat.beq (Ln ρ t) (Ln ρ u)))&&G3 ρ r
def rS (ρ:List (Nat×Nat)):List (Nat×a_)->List Nat
 | []=>[]
 | (t,x)::r=>match x.cs with
  | .aF _=>match aH ρ t with
   | some _=>t::rS ρ r
   | none=>rS ρ r
  | _=>t::rS ρ r
def Xd (ρ:List (Nat×Nat))(st:St):List (Nat×SV)->List Prop
 | []=>[]
 | (t,x)::r=>match st.aC t with
  | some y=>eqSV ρ y x++Xd ρ st r
  | none=>[False]
def QZ (ρ:List (Nat×Nat))(st:St):List (Nat×a_)->List Prop
 | []=>[]
 | (t,x)::r=>match x.cs,aH ρ t with
  | .aF l,none=>(l=[])::QZ ρ st r
  | _,_=>match st.boxes (Ln ρ t) with
   | some y=>TG ρ y x++QZ ρ st r
   | none=>[False]
def fitR (ρ:List (Nat×Nat))(u:List (Nat×a_)):List Prop:=cond (G3 ρ (rS ρ u)) [] [False]
def sG (ss:List (Nat×SV))(u:List (Nat×a_)):Bool:=
 let l:=u.map (·.1)
 (ss.all λx=>x.2.ids.all λs=>jf s l)&&(u.all λx=>x.2.cs.ids.all λs=>jf s l)
def ZW.st (A:ZW)(x:A.τ):St:=⟨aH (A.aC x),aH (A.boxes x)⟩
def allL:List Prop->Prop
 | []=>True
 | [p]=>p
 | p::r=>p/\allL r
def ZW.fits (A:ZW)(st:St)(x:A.τ)(k:Prop):Prop:=
 let ρ:=Vc st (A.aC x) (A.boxes x)
 allL (Xd ρ st (A.aC x)++QZ ρ st (A.boxes x)++fitR ρ (A.boxes x))/\k
def Ĝ:Code->Nat
 | .region id _ _=>id
 | .seq a _=>Ĝ a
 | .cond _ a b=>match Ĝ a with
  | 1000000=>Ĝ b
  | n=>n
 | .block _ a=>Ĝ a
 | .loop a=>Ĝ a
 | .scope a=>Ĝ a
 | _=>1000000
abbrev Jy:=List (Nat×Tm)
def vL:Jy->Nat->Option Tm
 | [],_=>none
 | (s,x)::r,t=>cond (Nat.beq t s) (some x) (vL r t)
def ZH (RF:List Nat)(id:Nat):List Nat:=RF.filterMap λx=>cond (Nat.beq (x/100000) (100+id)) (some (x%100000)) none
def Qp (l:List Nat)(st:St)(V:Ó)(K:St->Ó->Prop):Prop:=
 match l with
 | []=>K st V
 | s::r=>match jL st.boxes (s::r)&&(s::r).all λt=>Nat.blt t 100000 with
  | false=>False
  | true=>∀V':Ó,V.Le V'->nS (s::r) (λ_=>0) λβ=>va st.boxes β V' (s::r) (∀J:C->Value,K (st.rel (s::r) β J) V')
def LO (P:Program)(T:eA)(LF RF:List Nat)(ops:Array Oper)(draw:Bool)(st:St)(V:Ó)(K:St->Ó->Prop):Prop:=
 match draw with
 | false=>VL P T (modeN LF RF ops) (λ_=>.free) ops (List.range ops.size) st V K
 | true=>let u:=ops.toList.map (T1 LF RF st ops.toList)
  match PR LF RF ops u (vj LF RF ops) with
  | true=>VL P T (nw LF RF ops) (λi=>u.getD i .free) ops (vj LF RF ops) st V K
  | false=>False
def unr (F:St->Ó->(Exit->St->Ó->Prop)->Prop):Nat->St->Ó->(Exit->St->Ó->Prop)->Prop
 | 0,_,_,_=>False
 | n+1,st,V,K=>F st V λe u V'=>match e with
  | .normal=>unr F n u V' K
  | e=>K e u V'
def vc (P:Program)(T:eA)(LF RF:List Nat)(L J:Jy):Code->St->Ó->(Exit->St->Ó->Prop)->Prop
 | .skip,st,V,K=>K .normal st V
 | .region id ops draw,st,V,K=>match vL J (600000+id) with
  | none=>Qp (ZH RF id) st V λu V'=>LO P T LF RF ops draw u V' (K .normal)
  | some A=>∃I:A.τ->Ó->Prop,Qp (ZH RF id) st V (λu V'=>LO P T LF RF ops draw u V' λD z=>∃x,(A.at st).fits D x (I x z)) /\
   ∀x V',V.Le V'->I x V'->(sG ((A.at st).aC x) ((A.at st).boxes x)=true/\K .normal ((A.at st).st x) V')
 | .seq a b,st,V,K=>vc P T LF RF L J a st V λe u V'=>match e with
  | .normal=>vc P T LF RF L J b u V' K
  | e=>K e u V'
 | .cond c a b,st,V,K=>match vL J (Ĝ (.cond c a b)) with
  | none=>match st.bN c with
   | some (.c .tt)=>vc P T LF RF L J a st V K
   | some (.c .ff)=>vc P T LF RF L J b st V K
   | some (.c (.v (.bool t)))=>(t=true->vc P T LF RF L J a st V K)/\(t=false->vc P T LF RF L J b st V K)
   | _=>False
  | some A=>match st.bN c with
   | some (.c .tt)=>vc P T LF RF L J a st V K
   | some (.c .ff)=>vc P T LF RF L J b st V K
   | some (.c (.v (.bool t)))=>∃I:A.τ->Ó->Prop,
    ((t=true->vc P T LF RF L J a st V λe u V'=>match e with
     | .normal=>∃x,(A.at st).fits u x (I x V')
     | e=>K e u V') /\
      (t=false->vc P T LF RF L J b st V λe u V'=>match e with
     | .normal=>∃x,(A.at st).fits u x (I x V')
     | e=>K e u V')) /\
    ∀x V',V.Le V'->I x V'->(sG ((A.at st).aC x) ((A.at st).boxes x)=true/\K .normal ((A.at st).st x) V')
   | _=>False
 | .block id a,st,V,K=>match vL J (500000+id) with
  | none=>vc P T LF RF L J a st V λe u V'=>match e with
   | .exit i=>cond (Nat.beq i id) (K .normal u V') (K (.exit i) u V')
   | e=>K e u V'
  | some A=>∃I:A.τ->Ó->Prop,vc P T LF RF L J a st V (λe u V'=>match e with
   | .exit i=>cond (Nat.beq i id) (∃x,(A.at st).fits u x (I x V')) (K (.exit i) u V')
   | .normal=>∃x,(A.at st).fits u x (I x V')
   | e=>K e u V')/\∀x V',V.Le V'->I x V'->(sG ((A.at st).aC x) ((A.at st).boxes x)=true/\K .normal ((A.at st).st x) V')
 | .loop a,st,V,K=>match vL L (Ĝ a) with
  | none=>unr (λst V K=>vc P T LF RF L J a st V K) 3 st V K
  | some A=>match A.gh with
   | false=>∃(I:A.τ->Ó->Prop)(m:A.τ->Nat),(∃x,(A.at st).fits st x (I x V))/\∀x V',V.Le V'->I x V'->(sG ((A.at st).aC x) ((A.at st).boxes x)=true /\
    vc P T LF RF L J a ((A.at st).st x) V' λe u z=>match e with
     | .normal=>∃y,m y<m x/\(A.at st).fits u y (I y z)
     | e=>K e u z)
   | true=>∃I:A.τ->Nat->Ó->Prop,(∃x k,(A.at st).fits st x (I x k V))/\∀x k V',V.Le V'->I x k V'->(sG ((A.at st).aC x) ((A.at st).boxes x)=true /\
    vc P T LF RF L J a ((A.at st).st x) V' λe u z=>match e with
     | .normal=>∃y k',k'<k/\(A.at st).fits u y (I y k' z)
     | e=>K e u z)
 | .exit id,st,V,K=>K (.exit id) st V
 | .ret,st,V,K=>K .ret st V
 | .scope a,st,V,K=>vc P T LF RF L J a st V λe u V'=>match e with
  | .goto _=>False
  | e=>K e u V'
 | .label _,st,V,K=>K .normal st V
 | _,_,_,_=>False
def pS (T:eA)(st:St):List ResultVar->Option (List SV)
 | []=>some []
 | .tmp t::r=>match st.aC t,pS T st r with
  | some x,some l=>some (x::l)
  | _,_=>none
 | .cell a t::r=>match st.aC a,aH T t,pS T st r with
  | some (.c (.ptr s o)),some i,some l=>match mj st.boxes i (.c (.ptr s o)) with
   | .ret _ x=>some (x::l)
   | _=>none
  | _,_,_=>none
def Ą (l m:List Nat):List Nat:=l.filter λx=>!(jf x m)
def SZ (bx:Nat->Option a_)(β:Nat->Nat)(V:Ó):List Nat->Prop->Prop
 | [],k=>k
 | s::r,k=>match bx s with
  | some ⟨.aF _,_⟩=>False
  | some b=>V.w.heap[β s]?=some (b.obj β)->SZ bx β V r k
  | none=>False
def mE:List (Nat×a_)->List Nat
 | []=>[]
 | (s,b)::r=>match b.cs with
  | .aF _=>mE r
  | _=>s::mE r
def Up (u:List (Nat×a_))(β0:Nat->Nat)(b:Nat)(k:Prop):Prop:=
 match u with
 | []=>k
 | (m,x)::r=>match x.cs with
  | .aF vs=>(vs≠[]/\b=β0 m)\/Up r β0 b k
  | _=>Up r β0 b k
def pR (β:Nat->Nat):List SV->Value
 | [x]=>x.den β
 | l=>.tuple (l.map (SV.den β)).toArray
def zU (T:eA)(bx:Nat->Option a_)(s:Nat):Bool:=
 cond (Nat.ble 100000 s) true (match bx s with|some ⟨.row _,ty⟩|some ⟨.aF _,ty⟩=>Nat.ble 2 (T.filter λx=>Nat.beq x.1 ty).length|some ⟨.lit _,ty⟩=>Nat.ble 3 (T.filter λx=>Nat.beq x.1 ty).length|_=>false)
def P0 (T:eA)(rs:List ResultVar)(u:List (Nat×a_))(β0:Nat->Nat)(y:Nat)(R:Value->Ó->Prop)(st:St)(V:Ó):Prop:=
 match pS T st rs with
 | none=>False
 | some xs=>let F:=mE u
  let L:=ó st.boxes 3 (ø (xs.flatMap SV.ids++F))
  match jL st.boxes L with
  | false=>False
  | true=>match (Ą L F).filter (zU T st.boxes) with
   | []=>∀V':Ó,V.Le V'->nS (Ą L F) β0 λβ=>SZ st.boxes β V' F (va st.boxes β V' (Ą L F) (R (pR β xs) V'))
   | [s]=>match st.boxes s with
    | some b=>∀V':Ó,nS (Ą L F) β0 λβ=>V.Le (V'.bq (gdP b) (β s))->SZ st.boxes β V' F (wD (Sr b) (V'.w.heap[β s]?=some (b.obj β)) ->
      wD (Sr b) (y<=β s\/Up u β0 (β s) False)->va st.boxes β V' ((Ą L F).filter (!Nat.beq s ·)) (R (pR β xs) V'))
    | none=>False
   | _=>False
def vcFn (P:Program)(T:eA)(LF RF:List Nat)(L J:Jy)(code:Code)(rs:List ResultVar)(ss:List (Nat×SV))(u:List (Nat×a_))(β0:Nat->Nat)(V:Ó)(R:Value->Ó->Prop):Prop:=
 vc P T LF RF L J code ⟨aH ss,aH u⟩ V λe st V'=>match e with
  | .normal=>P0 T rs u β0 V.w.heap.size R st V'
  | .ret=>P0 T rs u β0 V.w.heap.size R st V'
  | _=>False
def ki (n:Nat):Code->Bool
 | .region _ ops _=>ops.toList.all λo=>match o.dst with|some d=>Nat.blt d n|none=>true
 | .seq a b=>ki n a&&ki n b
 | .cond _ a b=>ki n a&&ki n b
 | .block _ a=>ki n a
 | .loop a=>ki n a
 | .scope a=>ki n a
 | _=>true
def tL:Nat->List (Nat×SV)->Bool
 | _,[]=>true
 | i,(j,x)::r=>Nat.beq i j&&x.plain&&tL (i+1) r
def I0 (P:Program)(T:eA)(LF RF:List Nat)(L J:Jy)(fn:Func)(ss:List (Nat×SV))(u:List (Nat×a_))(β0:Nat->Nat)(V:Ó)(R:Value->Ó->Prop):Prop:=
 match fn.body with
 | some code=>match ki fn.ntmps code&&tL 0 ss&&Nat.ble ss.length fn.ntmps&&Nat.ble fn.ntmps 100000&&(u.all λb=>Nat.ble 100000 b.1&&Nat.blt b.1 200000)&&sG ss u with
  | true=>vcFn P T LF RF L J code fn.results.toList ss u β0 V R
  | false=>False
 | none=>False
theorem Ó.Le.refl (V:ut):V.Le V:=λ_ _ h=>h
def Ó.Le.m {u:ut}(h:V.Le V')(k:V'.Le u):V.Le u:=λb o x=>k b o (h b o x)
def leLd {u:zA Nat}(h:V.Le V'):V.Le (V'.ao u):=h
def leSh (h:V.Le V'):V.Le V'.shut:=h
def au (h:V.Le V':=by with_reducible repeat first|assumption|exact Ó.Le.refl _|apply leLd|apply leSh|refine Ó.Le.m ?_ ξ):V.Le V':=h
def ra {p:Prop}(h:p:=by first|exact .le (by with_reducible assumption) au|exact .le (by with_reducible assumption) au λ_ _ g=>.le g au):p:=h
def Ó.Le.at (h:V.Le V'){p:Addr}{v:un}(k:V.at p v):V'.at p v:=by obtain ⟨b,a⟩:=k;unfold World.cell? at a;split at a;{rename_i c;have ⟨d,e⟩:=h p.block _ ⟨b,c⟩;refine ⟨d,?_⟩<;>grind [World.cell?]};cases a
theorem kI.refl (X:Nat->Prop)(w:World):kI X w w:=⟨Ú _,λ_ _ _=>rfl,rfl,rfl,rfl,Ú _⟩
def kI.m {X:Nat->Prop}{a b c:World}(h:kI X a b)(k:kI X b c):kI X a c:=
 ⟨Ā h.size k.size,λi d e=>(k.aX i (ł d h.size) e).m (h.aX i d e),k.os.m h.os,k.tape.m h.tape,k.out.m h.out,Ā h.dr k.dr⟩
def kI.s {X Y:Nat->Prop}{a b:World}(h:kI X a b)(hxy:∀i,X i->Y i):kI Y a b:=
 ⟨h.size,λi c d=>h.aX i c λe=>d (hxy i e),h.os,h.tape,h.out,h.dr⟩
def Ó.Ue (V:ut)(w':World)(u:kI V.X V.w w'):V.Le (V.to w' u.size):=by rintro b o ⟨a,d⟩;refine ⟨a,?_⟩;have c:b<V.w.heap.size:=χ;show w'.heap[b]?=some o;grind [u.aX,V.hX]
def aa.s {P:Program}{f:FuncId}{args:Array un}{R u:un->ut->Prop}(h:aa P f args V R)(y:∀r V',V.Le V'->R r V'->u r V'):aa P f args V u:=
 ⟨h.1,h.2.s λ_ b ⟨r,he,a,c⟩=>⟨r,he,a,y r _ (V.Ue b a) c⟩⟩
structure MN where
 ids:List Nat
 B:Nat->Prop
section
variable(n:Nat)(V0:Ó)(bQ:MN)(β0:Nat->Nat)
structure à (st:St) (β:Nat->Nat) (a:Act) (w:World) (V:Ó):Prop where
 defers:a.defers=[]
 size:a.tmps.size=n
 aC:∀t x,st.aC t=some x->a.tmps.getD t undef=x.den β
 Ew:∀t x,st.aC t=some x->∀s∈x.ids,∃b,st.boxes s=some b
 Ev:∀s b,st.boxes s=some b->∀s'∈b.cs.ids,∃b',st.boxes s'=some b'
 boxes:∀s b,st.boxes s=some b->b.live->w.heap[β s]?=some (b.obj β)
 inj:∀s s' b b',st.boxes s=some b->b.live->st.boxes s'=some b'->b'.live->β s=β s'->s=s'
 tP:∀b o,V.aX b o->w.heap[b]?=some o/\¬V0.H b
 Ak:∀s b,st.boxes s=some b->b.live->∀o,¬V.aX (β s) o
 ext:kI V0.X V0.w w
 own:∀s b,st.boxes s=some b->b.live->V0.w.heap.size<=β s\/(100000<=s/\bQ.B (β s))
 oP:∀s∈bQ.ids,(100000<=s/\s<200000)/\β s=β0 s
 nh:∀b,bQ.B b->V0.X b
 small:n<=100000
end
theorem dP {cs:zA C}{ty:TypeId}:a_.live ⟨.lit cs,ty⟩:=λ_ h=>nomatch h
theorem dQ {vs:zA un}{ty:TypeId}:a_.live ⟨.row vs,ty⟩:=λ_ h=>nomatch h
theorem gN {vs:zA un}{ty:TypeId}(h:vs≠[]):a_.live ⟨.aF vs,ty⟩:=λ_ e=>by cases e;exact h
theorem fY {ty:TypeId}:¬a_.live ⟨.aF [],ty⟩:=λh=>h [] rfl rfl
theorem kT {b:a_}{k:Prop}:wD (Sr b) k↔(b.live->k):=by obtain ⟨cs,ty⟩:=b;(cases cs with|lit cs=>exact ⟨λh _=>h,λh=>h dP⟩|row cs=>exact ⟨λh _=>h,λh=>h dQ⟩|aF vs=>exact ⟨λh l=>h (l vs rfl),λh l=>h (gN l)⟩)
theorem zK {l m:zA Prop}{k:Prop}:wD (l++m) k↔wD l (wD m k):=by
 induction l with
 | nil=>exact Wv3
 | cons p r u=>exact ⟨λh a=>u.1 (h a),λh a=>u.2 (h a)⟩
def Xl {b:a_}:gdP b↔b.live:=by obtain ⟨cs,ty⟩:=b;(cases cs with|lit cs=>exact ⟨λ_=>dP,λ_=>trivial⟩|row cs=>exact ⟨λ_=>dQ,λ_=>trivial⟩|aF vs=>exact ⟨λh=>gN h,λl=>l vs rfl⟩)
theorem C.cg {β β':Nat->Nat}{c:C}(h:∀s∈c.ids,β s=β' s):c.den β=c.den β':=by
 cases c with
 | v x=>rfl
 | w x=>rfl
 | tt=>rfl
 | ff=>rfl
 | ptr s o=>simp [C.den,h s (by simp [C.ids])]
 | nG s o n c=>simp [C.den,h s (by simp [C.ids])]
 | dT s n c=>simp [C.den,h s (by simp [C.ids])]
 | uO f ss=>
  have:(ss.map λs=>Value.pointer (some ⟨β s,0,none⟩))=ss.map λs=>Value.pointer (some ⟨β' s,0,none⟩):=
   š λs a=>by rw [h s (by simpa [C.ids] using a)]
  simp only [C.den,this]
 | WI f vs=>rfl
def F8 {β:Nat->Nat}:∀{cs:zA C} {vs:zA un},O7 cs=some vs->cs.map (C.den β)=vs
 | [],_,h=>by cases h;rfl
 | .v x::r,vs,h=>by
  unfold O7 at h;split at h
  ·rename_i l u;cases h;rw [Ł,F8 u];rfl
  ·cases h
theorem po {β β':Nat->Nat}{cs:zA C}(h:∀s∈cs.flatMap C.ids,β s=β' s):cs.map (C.den β)=cs.map (C.den β'):=
 š λc a=>C.cg λs b=>h s (ė.2 ⟨c,a,b⟩)
def EO {β β':Nat->Nat}{x:md×zA C}(h:∀s∈x.2.flatMap C.ids,β s=β' s):kO β x=kO β' x:=by
 obtain ⟨b,cs⟩:=x
 cases b with
 | true=>simp only [kO];rw [po h]
 | false=>
  match cs,h with
  | [],_=>rfl
  | [c],h=>simp only [kO];exact C.cg λs a=>h s (by simpa using a)
  | _::_::_,_=>rfl
theorem SV.cg {β β':Nat->Nat}{x:SV}(h:∀s∈x.ids,β s=β' s):x.den β=x.den β':=by (cases x with|c x=>exact C.cg h|agg cs=>{simp only [SV.den];rw [po h]}|xP xs=>{simp only [SV.den];congr 2;exact š λx a=>EO λs b=>h s (ė.2 ⟨x,a,b⟩)})
theorem ë.cg {β β':Nat->Nat}{x:ë}(h:∀s∈x.ids,β s=β' s):x.den β=x.den β':=by (cases x with|lit cs=>exact po h|row vs=>rfl|aF vs=>rfl)
theorem a_.dJ {β β':Nat->Nat}{x:a_}(h:∀s∈x.cs.ids,β s=β' s):x.obj β=x.obj β':=by simp only [a_.obj];rw [ë.cg h]
variable{P:Program}{T:eA}{n:Nat}{V0:Ó}{bQ:MN}{β0:Nat->Nat}{st:St}{β:Nat->Nat}{a:Act}{w:World}{V:Ó}
theorem à.eval (h:à n V0 bQ β0 st β a w V){x:Operand}{v:SV}(u:st.bN x=some v):a.eval x=v.den β:=by
 cases x with
 | tmp t=>exact h.aC t v u
 | const c=>
  simp only [St.bN,ą] at u;subst u;simp only [Act.eval];unfold SV.ofConst;split
  ·rfl
  ·rfl
  ·rename_i cs;simp only [SV.den];congr 1
   have:∀l:zA un,(l.map C.ofConst).map (C.den β)=l:=by
    intro l
    induction l with
    | nil=>rfl
    | cons y r z=>
     simp only [Ł,z];congr 1;unfold C.ofConst;split<;>rfl
   rw [this]
  ·rfl
 | global g=>simp only [St.bN,ą] at u;subst u;rfl
 | func f=>simp only [St.bN,ą] at u;subst u;simp [Act.eval,SV.den,C.den]
def à.live (h:à n V0 bQ β0 st β a w V){x:Operand}{v:SV}(u:st.bN x=some v):∀s∈v.ids,∃b,st.boxes s=some b:=by (cases x with|const c=>{simp only [St.bN,ą] at u;subst u;intro s d;exfalso;have e:∀y,(C.ofConst y).ids=[]:=by{intro y;unfold C.ofConst;split<;>rfl};unfold SV.ofConst at d;grind [SV.ids,C.ids]}|_=>grind [h.Ew,St.bN,SV.ids,C.ids])
def beq_eq {a b:Nat}:Nat.beq a b=true↔a=b:=by constructor;{exact Nat.eq_of_beq_eq_true};intro h;subst h;exact Qn3 a
theorem eZ (st:St)(d:Nat)(x:SV)(t:Nat):(st.put (some d) x).aC t=if t=d then some x else st.aC t:=by grind [St.put,Nat.beq_refl,beq_eq.1]
theorem aj (st:St)(s:Nat)(b:a_)(t:Nat):(st.box s b).boxes t=if t=s then some b else st.boxes t:=by grind [St.box,Nat.beq_refl,beq_eq.1]
def wA (l:Array un)(d t:Nat)(v:un)(u:d<l.size):(l.setIfInBounds d v).getD t undef=if t=d then v else l.getD t undef:=by by_cases h:t=d;{subst h;simp [u]};simp [h,Ne.symm h]
theorem à.put (h:à n V0 bQ β0 st β a w V){d:Nat}{x:SV}{v:un}(u:d<n)(D:v=x.den β)(z:∀s∈x.ids,∃b,st.boxes s=some b):à n V0 bQ β0 (st.put (some d) x) β (a.put (some d) v) w V where
 defers:=h.defers
 size:=by simp [Act.put,h.size]
 aC:=by
  intro t y c;rw [eZ] at c;show (a.tmps.setIfInBounds d v).getD t undef=_;rw [wA _ _ _ _ (by rw [h.size];exact u)];grind [h.aC]
 Ew:=by intro t y c;rw [eZ] at c;split at c;{simp only [ą] at c;rw [<-c];exact z};exact h.Ew t y c
 Ev:=h.Ev
 boxes:=h.boxes
 inj:=h.inj
 tP:=h.tP
 Ak:=h.Ak
 ext:=h.ext
 own:=h.own
 oP:=h.oP
 nh:=h.nh
 small:=h.small
def à.Lc (h:à n V0 bQ β0 st β a w V){d:Option Nat}{x:SV}{v:un}(u:∀k,d=some k->k<n)(y:v=x.den β)(z:∀s∈x.ids,∃b,st.boxes s=some b):à n V0 bQ β0 (st.put d x) β (a.put d v) w V:=by (cases d with|none=>exact h|some d=>exact h.put (u d rfl) y z)
def à.drew (h:à n V0 bQ β0 st β a w V):à n V0 bQ β0 st β a { w with drawn:=w.drawn+1 } V:=
 ⟨h.defers,h.size,h.aC,h.Ew,h.Ev,h.boxes,h.inj,h.tP,h.Ak,⟨h.ext.size,h.ext.aX,h.ext.os,h.ext.tape,h.ext.out,Nat.le_succ_of_le h.ext.dr⟩,h.own,h.oP,h.nh,h.small⟩
def aJ {w:World}{b:Nat}{o:Obj}(h:w.heap[b]?=some o):b<w.heap.size:=χ
theorem fG (w:World)(o:Obj){b:Nat}(h:b<w.heap.size):(w.alloc o).heap[b]?=w.heap[b]?:=by show (w.heap.push o)[b]?=_;grind
def heap_alloc_new (w:World)(o:Obj):(w.alloc o).heap[w.heap.size]?=some o:=by show (w.heap.push o)[w.heap.size]?=_;rw [Array.getElem?_push,Ä rfl]
theorem bg (β:Nat->Nat)(s b:Nat):cK β s b s=b:=by simp [cK,Qn3]
theorem i_ (β:Nat->Nat){s t:Nat}(b:Nat)(h:t≠s):cK β s b t=β t:=by have:Nat.beq t s=false:=by{grind [beq_eq.1]};simp [cK,this]
def à.new (h:à n V0 bQ β0 st β a w V){d:Nat}{b:a_}(M:d<n)(F:st.boxes d=none)(N:∀s∈b.cs.ids,∃b',st.boxes s=some b'):à n V0 bQ β0 (st.box d b) (cK β d w.heap.size) a (w.alloc (b.obj β)) V:=by have r:∀s b',st.boxes s=some b'->s≠d:=λs b' c e=>by{rw [e,F] at c;cases c};have hβ:∀s b',st.boxes s=some b'->cK β d w.heap.size s=β s:=λs b' c=>i_ _ _ (r s b' c);have f:∀s b',st.boxes s=some b'->b'.live->β s<w.heap.size:=λs b' c l=>aJ (h.boxes s b' c l);have A:∀b' o,V.aX b' o->b'<w.heap.size:=λb' o B=>aJ (h.tP b' o B).1;refine ⟨h.defers,h.size,?_,?_,?_,?_,?_,?_,?_,?_,?_,?_,h.nh,?_⟩;{intro t x m;rw [h.aC t x m];exact SV.cg λs c=>by{have ⟨b',g⟩:=h.Ew t x m s c;exact (hβ s b' g).symm}};{intro t x m s c;have ⟨b',g⟩:=h.Ew t x m s c;grind [aj]};{grind [aj,h.Ev]};{intro s b' c l;rw [aj] at c;split at c;{rename_i e;simp only [ą] at c;rw [e,bg,heap_alloc_new,<-c];grind [a_.dJ]};rw [hβ s b' c,fG _ _ (f s b' c l),h.boxes s b' c l];grind [a_.dJ,h.Ev]};{intro s u v y j C k D he;rw [aj] at j k;split at j<;>split at k;{rename_i p q;rw [p,q]};{rename_i p q;rw [p,bg,hβ u y k] at he;have:=f u y k D;omega};{rename_i p q;rw [q,bg,hβ s v j] at he;have:=f s v j C;omega};grind [h.inj]};{grind [h.tP,fG]};{intro s b' c l o z;rw [aj] at c;split at c;{rename_i e;rw [e,bg] at z;have:=A _ o z;omega};grind [h.Ak]};{exact h.ext.m ⟨ψ,λi E _=>fG _ _ E,rfl,rfl,rfl,Ú _⟩};{intro s b' c l;rw [aj] at c;split at c;{rename_i e;rw [e,bg];exact .inl h.ext.size};rw [hβ s b' c];exact h.own s b' c l};{intro s c;have ⟨j,k⟩:=h.oP s c;grind [i_,h.small]};exact h.small
def à.void (h:à n V0 bQ β0 st β a w V){s:Nat}{ty:TypeId}:à n V0 bQ β0 (st.box s ⟨.aF [],ty⟩) β a w V:=by have hw:∀t b,st.boxes t=some b->∃u,(st.box s ⟨.aF [],ty⟩).boxes t=some u:=by{grind [aj]};have e:∀t b,(st.box s ⟨.aF [],ty⟩).boxes t=some b->b.live->st.boxes t=some b:=by{grind [aj,fY]};refine ⟨h.defers,h.size,h.aC,?_,?_,λt b c l=>h.boxes t b (e t b c l) l,λt k m o p i q j=>h.inj t k m o (e _ _ p i) i (e _ _ q j) j,h.tP,λt b c l=>h.Ak t b (e t b c l) l,h.ext,λt b c l=>h.own t b (e t b c l) l,h.oP,h.nh,h.small⟩;{intro t x r f d;have ⟨b,g⟩:=h.Ew t x r f d;exact hw f b g};intro t b c f d;have:∃u,st.boxes f=some u:=by{rw [aj] at c;split at c;{cases c;cases d};grind [h.Ev]};grind
def à.As (h:à n V0 bQ β0 st β a w V){s:Nat}{b b':a_}(D:st.boxes s=some b)(lb:b.live)(M:∀s'∈b'.cs.ids,∃z,st.boxes s'=some z){w':World}(hw:w'.heap=w.heap.setIfInBounds (β s) (b'.obj β))(E:w'.os=w.os)(F:w'.tape=w.tape)(hout:w'.output=w.output)(hdr:w.drawn<=w'.drawn:=by first|exact Ú _|exact Ww8 _):à n V0 bQ β0 (st.box s b') β a w' V:=by have l:=aJ (h.boxes s b D lb);have o:∀i,w'.heap[i]?=if i=β s then some (b'.obj β) else w.heap[i]?:=χ;refine ⟨h.defers,h.size,h.aC,?_,?_,?_,?_,?_,?_,?_,?_,h.oP,h.nh,h.small⟩;{intro t x m s' g;have ⟨d,c⟩:=h.Ew t x m s' g;grind [aj]};{grind [aj,h.Ev]};{grind [aj,h.inj,h.boxes]};{intro t p d j q k r u he;have f:∀t d,(st.box s b').boxes t=some d->d.live->∃j,st.boxes t=some j/\j.live:=by{grind [aj]};grind [h.inj]};{grind [h.tP,h.Ak]};{grind [aj,h.Ak]};{refine ⟨by rw [hw];simpa using h.ext.size,λi v y=>?_,E.m h.ext.os,F.m h.ext.tape,hout.m h.ext.out,Ā h.ext.dr hdr⟩<;>grind [h.own,h.nh,h.ext.aX]};intro t d c k;rw [aj] at c;split at c;{rename_i e;rw [e];exact h.own s b D lb};exact h.own t d c k
end
section
variable{P:Program}{T:eA}{n:Nat}{V0:Ó}{bQ:MN}{β0:Nat->Nat}{st:St}{β:Nat->Nat}{a:Act}{w:World}{V:Ó}
theorem fN:∀(sc:zA Prop)(k:Prop),Ho sc k↔(∀p∈sc,p)/\k
 | [],k=>by simp [Ho]
 | p::r,k=>by
  simp only [Ho,fN r k,í];constructor
  ·grind
  ·rintro ⟨u,y⟩;exact ⟨u p (.inl rfl),λq z=>u q (.inr z),y⟩
def aN {t:TypeId}{i:TI}(h:pI P t=some i):∃info d z,P.info? t=some info/\P.underlying t=some d/\info.zero=some z/\i.k=nM d/\i.size=info.size/\i.bytes=info.bytes/\i.zero=z.cells.toList.map C.ofConst:=by unfold pI at h;grind
theorem Kj (β:Nat->Nat)(y:un):(C.ofConst y).den β=y:=by unfold C.ofConst;split<;>rfl
def KP (β:Nat->Nat)(l:zA un):(l.map C.ofConst).map (C.den β)=l:=by induction l<;>grind [Kj]
def Kz (y:un):(C.ofConst y).ids=[]:=by unfold C.ofConst;split<;>rfl
def H3 (l:zA un):(l.map C.ofConst).flatMap C.ids=[]:=by
 induction l with
 | nil=>rfl
 | cons y r u=>simp [Kz]
def ai {t:TypeId}{d:TypeDesc}(h:P.underlying t=some d)(w:World):(underlying t).run P w=.ok d w:=by simp [underlying,h]
def nE {t:TypeId}{i:TypeInfo}(h:P.info? t=some i)(w:World):(typeInfo t).run P w=.ok i w:=by simp [typeInfo,h]
def aT {t:TypeId}{i:TypeInfo}(h:P.info? t=some i)(w:World):(sizeOf t).run P w=.ok i.size w:=by simp [sizeOf,nE h]
def lr {t:TypeId}{i:TypeInfo}{z:un}(h:P.info? t=some i)(u:i.zero=some z)(w:World):(zeroValue t).run P w=.ok z w:=by simp [zeroValue,nE h,u]
def xR:TK->Bool
 | .struct _|.arr _ _=>true
 | _=>false
def jC {t:TypeId}{d:TypeDesc}(h:P.underlying t=some d)(w:World):(isAgg t).run P w=.ok (xR (nM d)) w:=by simp only [isAgg,Sem.run_bind,ai h,Result.andThen_ok];cases d<;>rfl
def Ē (st:St)(x:SV):Prop:=∀s∈x.ids,∃b,st.boxes s=some b
theorem GN {k k':IntKind}(h:CE k k'=true):k=k':=by cases k<;>cases k'<;>simp_all [CE]
theorem NG {op:BinOp}{k:IntKind}{x y:Int}{sc:zA Prop}{v:SV}{u:TypeId}(h:rH op k x y=.ret sc v)(hsc:∀p∈sc,p):(binOp op u (.int k x) (.int k y)).run P w=.ok (v.den β) w/\v.ids=[]:=by
 cases op<;>simp only [rH,Q.ret.injEq] at h<;>obtain ⟨rfl,rfl⟩:=h <;>
  simp only [í,Ğ,Ì,forall_eq,false_imp_iff,implies_true] at hsc <;>
  refine ⟨?_,rfl⟩ <;>
  simp [binOp,Op.intArith,Op.intDiv,Op.intBits,Op.intCmp,Op.shift,SV.den,C.den,ch,hsc]
 all_goals (try (intro h;omega))
theorem R6 {op:BinOp}{k k':IntKind}{x y:Int}{sc:zA Prop}{v:SV}{u:TypeId}(hop:op=.shl\/op=.shr)(h:rH op k x y=.ret sc v)(hsc:∀p∈sc,p):(binOp op u (.int k x) (.int k' y)).run P w=.ok (v.den β) w/\v.ids=[]:=by
 rcases hop with rfl|rfl<;>simp only [rH,Q.ret.injEq] at h<;>obtain ⟨rfl,rfl⟩:=h <;>
  simp only [í,Ğ,Ì,forall_eq] at hsc <;>
  refine ⟨?_,rfl⟩ <;>
  simp [binOp,Op.shift,SV.den,C.den]<;>(intro h;omega)
section eqs
variable{t:TypeId}(d:Nat)
def QX (h:P.underlying t=some .bool)(x y:md):(Op.equalIn (d+1) t (.bool x) (.bool y)).run P w=.ok (x==y) w:=by simp [Op.equalIn,ai h]
def Gx {e:TypeId}(h:P.underlying t=some (.pointer e))(p:OA):(Op.equalIn (d+1) t (.pointer p) (.pointer none)).run P w=.ok p.isNone w:=by cases p<;>simp [Op.equalIn,ai h]
def uR {e:TypeId}(h:P.underlying t=some (.slice e))(p:OA)(n c m k:Nat):(Op.equalIn (d+1) t (.slice p n c) (.slice none m k)).run P w=.ok p.isNone w:=by cases p<;>simp [Op.equalIn,ai h]
def Cn {ms:Array (String×TypeId)}(h:P.underlying t=some (.interface ms)){x:un}(y:ĉ x):(Op.equalIn (d+1) t x .nilIface).run P w=.ok (iU x) w:=by rcases y with rfl|⟨u,v,rfl⟩<;>simp [Op.equalIn,ai h,iU]
end eqs
def mW {t:TypeId}{x y:un}{r:md}(h:∀d,(Op.equalIn (d+1) t x y).run P w=.ok r w):(Op.equal t x y).run P w=.ok r w:=h 9999
def JL {op:BinOp}{u:TypeId}{x y:md}(z:P.underlying u=some .bool)(hop:op=.eql\/op=.neq):(binOp op u (.bool x) (.bool y)).run P w=.ok (.bool (if op=.eql then x==y else !(x==y))) w:=by have:=mW (w:=w) λd=>QX d z x y;rcases hop with rfl|rfl<;>simp only [binOp,Sem.run_bind,this,Result.andThen_ok,Sem.run_pure]<;>rfl
def F5 {c:C}{b:md}(h:c.bool?=some b):c.den β=.bool b/\c.ids=[]:=by (cases c with|v x=>{cases x<;>simp_all [C.bool?,C.den,C.ids]}|_=>simp_all [C.bool?,C.den,C.ids])
def Kl {d:TypeDesc}{k:IntKind}(h:nM d=.int k):d=.int k:=by cases d<;>simp_all [nM]
def HR {d:TypeDesc}(h:nM d=.bool):d=.bool:=by cases d<;>simp_all [nM]
def Km {d:TypeDesc}{e:TypeId}(h:nM d=.ptr e):d=.pointer e:=by cases d<;>simp_all [nM]
def bu {d:TypeDesc}{e:TypeId}(h:nM d=.slice e):d=.slice e:=by cases d<;>simp_all [nM]
def ER {d:TypeDesc}(h:nM d=.iface):∃ms,d=.interface ms:=by cases d<;>simp_all [nM]
def lO {d:TypeDesc}{fs:zA (TypeId×Nat)}(h:nM d=.struct fs):∃gs,d=.struct gs/\fs=gs.toList.map λf=>(f.type,f.offset):=by cases d<;>simp_all [nM]
def rA {d:TypeDesc}{m:Nat}{e:TypeId}(h:nM d=.arr m e):d=.array m e:=by cases d<;>simp_all [nM]
def lB {t:TypeId}{x y:un}{r:md}(neg:md)(h:(Op.equal t x y).run P w=.ok r w)(z:(∃p,x=.pointer p/\y=.pointer none)\/(∃p n c m k,x=.slice p n c/\y=.slice none m k)\/(ĉ x/\y=.nilIface)):(binOp (if neg then .neq else .eql) t x y).run P w=.ok (.bool (if neg then !r else r)) w:=by rcases z with ⟨p,rfl,rfl⟩|⟨p,n,c,m,k,rfl,rfl⟩|⟨z,rfl⟩;{cases p<;>cases neg<;>simp only [ő,Ð,Ï,binOp,Sem.run_bind,h,Result.andThen_ok,Sem.run_pure]};{cases neg<;>simp only [ő,Ð,Ï,binOp,Sem.run_bind,h,Result.andThen_ok,Sem.run_pure]};rcases z with rfl|⟨u,v,rfl⟩<;>cases neg<;>simp only [ő,Ð,Ï,binOp,Sem.run_bind,h,Result.andThen_ok,Sem.run_pure]
def uS {op:BinOp}{t:TypeId}{x y:Operand}{u v:un}(h:(∃p,u=.pointer p)\/(∃p n c,u=.slice p n c)\/(∃k n,u=.int k n)\/(∃b,u=.bool b)\/∃c,y=.const c)(z:v=.nilIface->∃c,y=.const c)(hu:∀cs,u≠.agg cs):(eqGuard op t x y u v).run P w=.ok () w:=by
 have key:∀(m:Sem Unit),m=(match (generalizing:=false) u,v with
   | .nilIface,.nilIface=>do
    if (match (generalizing:=false) x with|.const _=>true|_=>false)||(match (generalizing:=false) y with|.const _=>true|_=>false) then return
    if <- Op.eqGuardIn Op.maxDepth t u v then unsupported (.noEntry "binop/eql: two nil values of an interface type with methods, neither of them the literal nil")
   | .agg _,.agg _=>do
    if !(<-program).eqGuardType (<-program).depth t then return
    if <- Op.eqGuardIn Op.maxDepth t u v then unsupported (.noEntry "binop/eql: two nil values of an interface type with methods, in a part of a struct or an array")
   | _,_=>pure ())->m.run P w=.ok () w:=by
  intro m hm;rw [hm];clear hm;revert z hu;split
  ·intro z _;obtain ⟨c,rfl⟩:=z rfl;simp
  ·rename_i cs _;intro _ hu;exact Å rfl (hu cs)
  ·intro _ _;rfl
 cases op<;>first|rfl|exact key _ rfl
def U5 {D:TypeId}{i:TI}(hi:pI P D=some i){x y:C}(neg:md){sc:zA Prop}{v:SV}(h:Iz neg i.k x y=.ret sc v)(hsc:∀p∈sc,p):(binOp (if neg then .neq else .eql) D (x.den β) (y.den β)).run P w=.ok (v.den β) w/\v.ids=[]/\((∃p,x.den β=.pointer p)\/(∃p n c,x.den β=.slice p n c)\/y.den β=.nilIface)/\(y.den β=.nilIface->y=.v .nilIface)/\(∀cs,x.den β≠.agg cs):=by obtain ⟨info,d,z,j,b,l,g,-⟩:=aN hi;unfold Iz at h;split at h;{rename_i e a;rw [g] at a;obtain rfl:=Km a;split at h;{split at h;{cases h;refine ⟨?_,by cases neg<;>rfl,.inl ⟨_,rfl⟩,by simp [C.den],by simp [C.den]⟩;rename_i s o;have:=lB (w:=w) neg (mW λd=>Gx d b (some ⟨β s,o,none⟩)) (.inl ⟨_,rfl,rfl⟩);cases neg<;>exact this};{cases h;refine ⟨?_,rfl,.inl ⟨_,rfl⟩,by simp [C.den],by simp [C.den]⟩;exact lB (w:=w) neg (mW λd=>Gx d b _) (.inl ⟨_,rfl,rfl⟩)};cases h};cases h};{rename_i e a;rw [g] at a;obtain rfl:=bu a;split at h;{split at h;{cases h;refine ⟨?_,by cases neg<;>rfl,.inr (.inl ⟨_,_,_,rfl⟩),by simp [C.den],by simp [C.den]⟩;rename_i m k _ s o n c;have:=lB (w:=w) neg (mW λd=>uR d b (some ⟨β s,o,none⟩) n c m k) (.inr (.inl ⟨_,_,_,_,_,rfl,rfl⟩));cases neg<;>exact this};{cases h;refine ⟨?_,rfl,.inr (.inl ⟨_,_,_,rfl⟩),by simp [C.den],by simp [C.den]⟩;rename_i m k _ s n c;have:=lB (w:=w) neg (mW λd=>uR d b (mA (β s) c) n c m k) (.inr (.inl ⟨_,_,_,_,_,rfl,rfl⟩));have e:(mA (β s) c).isNone=Nat.beq c 0:=by{cases c<;>rfl};rw [e] at this;exact this};{cases h;refine ⟨?_,rfl,.inr (.inl ⟨_,_,_,rfl⟩),by simp [C.den],by simp [C.den]⟩;exact lB (w:=w) neg (mW λd=>uR d b _ _ _ _ _) (.inr (.inl ⟨_,_,_,_,_,rfl,rfl⟩))};cases h};cases h};{rename_i a;rw [g] at a;obtain ⟨ms,rfl⟩:=ER a;split at h;{split at h;{cases h;have f:=hsc _ (ú.2 rfl);refine ⟨?_,rfl,.inr (.inr rfl),λ_=>rfl,?_⟩;{exact lB (w:=w) neg (mW λd=>Cn d b f) (.inr (.inr ⟨f,rfl⟩))};intro cs e;rcases f with f|⟨u,v,f⟩<;>· simp only [C.den] at e;rw [f] at e;cases e};{cases h;refine ⟨?_,by cases neg<;>rfl,.inr (.inr rfl),λ_=>rfl,by simp [C.den]⟩;have:=lB (w:=w) neg (mW λd=>Cn d b (x:=.nilIface) (.inl rfl)) (.inr (.inr ⟨.inl rfl,rfl⟩));cases neg<;>exact this};cases h};cases h};cases h
def U3 (hT:eA.ok P T){op:BinOp}{F:TypeId}{x y:C}{ox oy:Operand}{sc:zA Prop}{v:SV}(h:Ix T op F x y=.ret sc v)(hsc:∀p∈sc,p)(M:y=.v .nilIface->∃c,oy=.const c):(do eqGuard op F ox oy (x.den β) (y.den β);binOp op F (x.den β) (y.den β)).run P w=.ok (v.den β) w/\v.ids=[]:=by
 unfold Ix at h;split at h
 ·rename_i i f;have f:=hT _ _ f;obtain ⟨info,d,z,u,j,A,o,-⟩:=aN f;split at h
  ·split at h
   ·rename_i k a l b
    have g:(eqGuard op F ox oy (C.den β (.v (.int k a))) (C.den β (.v (.int l b)))).run P w=.ok () w:=
     uS (.inr (.inr (.inl ⟨_,_,rfl⟩))) (by simp [C.den]) (by simp [C.den])
    have key:(binOp op F (.int k a) (.int l b)).run P w=.ok (v.den β) w/\v.ids=[]:=by grind [R6,GN,NG]
    simp only [Sem.run_bind,g,Result.andThen_ok];exact key
   ·cases h
  ·rename_i m;rw [o] at m;obtain rfl:=HR m;split at h;{rename_i a b q r;have n:=F5 (β:=β) q;have M:=F5 (β:=β) r;have g:(eqGuard op F ox oy (x.den β) (y.den β)).run P w=.ok () w:=by{rw [n.1,M.1];exact uS (.inr (.inr (.inr (.inl ⟨_,rfl⟩)))) ψ ψ};simp only [Sem.run_bind,g,Result.andThen_ok];rw [n.1,M.1];split at h;{cases h;exact ⟨JL j (.inl rfl),rfl⟩};{cases h;exact ⟨JL j (.inr rfl),rfl⟩};cases h};cases h
  ·have key:∀neg:md,Iz neg i.k x y=.ret sc v->(do eqGuard (if neg then .neq else .eql) F ox oy (x.den β) (y.den β);binOp (if neg then .neq else .eql) F (x.den β) (y.den β)).run P w=.ok (v.den β) w/\v.ids=[]:=by{intro neg h;have ⟨B,D,E,s,t⟩:=U5 (w:=w) (β:=β) f neg h hsc;have g:(eqGuard (if neg then BinOp.neq else BinOp.eql) F ox oy (x.den β) (y.den β)).run P w=.ok () w:=by{refine uS ?_ (λe=>M (s e)) t<;>grind};grind [Sem.run_bind,Result.andThen_ok]};grind
 ·cases h
end
end Go.Eng
