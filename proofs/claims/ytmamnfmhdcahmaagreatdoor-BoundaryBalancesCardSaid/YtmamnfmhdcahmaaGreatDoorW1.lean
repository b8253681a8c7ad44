import Derived.WalkKit
import Derived.Deep.LoopGhost
import Derived.KernelRfl
set_option linter.all false
def Ū{p:Prop}(h:p:=by intros;rename_i h;cases h):p:=h
abbrev ũ{α:Type}(a:Option α)(p:Prop):=a.isSome=true/\a.isSome=true/\p
abbrev Á:=@of_decide_eq_true
abbrev Â:=@of_decide_eq_false
abbrev Ã:=@if_neg
abbrev Ä:=@if_pos
abbrev Å:=@absurd
abbrev Æ:=@congrArg
abbrev Ç:=@decide_eq_true
abbrev È:=@decide_eq_false
abbrev É:=@decide_eq_decide
abbrev Ê:=@eq_of_beq
abbrev Ë:=@beq_iff_eq
abbrev Ì:=@or_false
abbrev Í:=@and_true
abbrev Î:=@true_and
abbrev Ï:=@if_true
abbrev Ð:=@if_false
abbrev Ñ:=@decide_eq_true_eq
abbrev Ò:=@decide_eq_false_iff_not
def ω{p:Prop}(h:p:=by first|omega|(dsimp only;omega)):p:=h
def σ{p:Prop}(h:p:=by and_intros<;>rfl):p:=h
def ψ{p:Prop}(h:p:=by simp):p:=h
def φ{p:Prop}(h:p:=by decide):p:=h
def χ{p:Prop}(h:p:=by grind):p:=h
def η{p:Prop}(h:p:=by and_intros<;>trivial):p:=h
def θ{p:Prop}(h:p:=by trivial):p:=h
def ζ{p:Prop}(h:p:=by kernel_rfl):p:=h
def ξ{p:Prop}(h:p:=by assumption):p:=h
def κ{p:Prop}(h:p:=by decide +kernel):p:=h
def π{p:Prop}(h:p:=by intro h;nomatch h):p:=h
abbrev Go.Calls.s:=@Go.Calls.mono
def Eq.m{α:Sort _}{a b c:α}(h:a=b)(g:b=c):a=c:=Eq.trans h g
def Iff.m{a b c:Prop}(h:a<->b)(g:b<->c):a<->c:=Iff.trans h g
def List.Perm.m{α:Type _}{a b c:@List α}(h:a.Perm b)(g:b.Perm c):a.Perm c:=List.Perm.trans h g
def List.Sublist.m{α:Type _}{a b c:@List α}(h:a.Sublist b)(g:b.Sublist c):a.Sublist c:=List.Sublist.trans h g
abbrev Ü:=@Int.toNat_natCast
abbrev ï:=@List.getElem?_eq_getElem
abbrev Ù:=@Nat.le_refl
abbrev ê:=@List.length_take
abbrev î:=@List.length_append
abbrev ø:=@List.mem_cons_of_mem
abbrev õ:=@List.mem_singleton
abbrev ç:=@List.mem_cons
abbrev ã:=@Nat.zero_le
abbrev ô:=@List.getElem_mem
abbrev Ă:=@Nat.mul_le_mul_right
abbrev ú:=@List.mem_append
abbrev Ć:=@List.mem_cons_self
abbrev ā:=@Option.some.injEq
abbrev Đ:=@List.getElem?_eq_some_iff
abbrev ĕ:=@List.getD_eq_getElem?_getD
abbrev č:=@Int.eq_ofNat_of_zero_le
abbrev Ā:=@List.length_cons
abbrev ą:=@List.append_nil
abbrev Ī:=@List.drop_eq_getElem_cons
abbrev ù:=@List.mem_map
abbrev Ĝ:=@List.length_eq_zero_iff
abbrev Ċ:=@Bool.and_eq_true
abbrev Ĳ:=@List.getElem?_append_left
abbrev ċ:=@List.mem_flatMap
abbrev Ą:=@Nat.le_trans
abbrev Ģ:=@List.pairwise_cons
abbrev Ĉ:=@Nat.zero_add
abbrev Ĕ:=@Nat.mod_eq_of_lt
abbrev Ė:=@List.flatMap_cons
abbrev Ĩ:=@List.mem_append_left
abbrev ě:=@List.append_assoc
abbrev Ĥ:=@List.take_length
abbrev ē:=@List.length_map
abbrev ħ:=@Int.natAbs_natCast
abbrev Ġ:=@List.not_mem_nil
abbrev Ĺ:=@List.mem_append_right
abbrev ı:=@List.mem_of_getElem?
abbrev Ŀ:=@List.drop_of_length_le
abbrev ķ:=@Nat.pow_le_pow_right
abbrev Ň:=@List.getElem?_append_right
abbrev ĩ:=@List.getElem?_take
abbrev ğ:=@Nat.min_eq_left
abbrev Qz3:=@List.take_succ_eq_append_getElem
abbrev ġ:=@List.mem_filter
abbrev Ħ:=@List.all_eq_true
abbrev Ķ:=@List.take_add_one
abbrev Ď:=@Nat.lt_or_ge
abbrev ľ:=@Nat.lt_of_lt_of_le
abbrev ĵ:=@Nat.eq_zero_or_pos
abbrev Ŋ:=@List.take_of_length_le
abbrev Ē:=@Nat.add_mul
abbrev Ţ:=@List.pairwise_iff_getElem
abbrev Į:=@List.length_drop
abbrev š:=@List.take_append_getElem
abbrev Ę:=@Nat.add_zero
abbrev Ņ:=@Nat.mul_le_mul_left
abbrev đ:=@Nat.pow_add
abbrev ő:=@Nat.le_of_ble_eq_true
abbrev Qk9:=@Int.tmod_eq_emod_of_nonneg
abbrev ĳ:=@Nat.two_pow_pos
abbrev Ł:=@Bool.not_eq_true'
abbrev ļ:=@Bool.eq_iff_iff
abbrev ĥ:=@Nat.pow_succ
abbrev Ļ:=@List.length_nil
abbrev ĝ:=@Nat.mul_one
abbrev Qj6:=@Int.tdiv_eq_ediv_of_nonneg
abbrev ř:=@BitVec.ofInt_natCast
abbrev Qj8:=@List.take_append_drop
abbrev ţ:=@List.getElem?_eq_none
abbrev Qv0:=@Classical.byContradiction
abbrev Ŏ:=@Bool.false_eq_true
abbrev Ń:=@Nat.gcd_dvd_left
abbrev Ŗ:=@List.map_congr_left
abbrev Ŝ:=@Rat.num_eq_zero
abbrev ī:=@Nat.mul_zero
abbrev ė:=@Nat.mod_lt
abbrev ŕ:=@Nat.div_eq_of_lt
abbrev ĺ:=@List.map_cons
abbrev Ŕ:=@BitVec.toNat_ofNat
abbrev ś:=@Nat.lt_of_le_of_lt
abbrev ł:=@Int.natAbs_mul
abbrev Ľ:=@Nat.mul_comm
abbrev Qb3:=@List.getElem?_set_ne
abbrev ō:=@List.cons.injEq
abbrev Ō:=@Nat.mul_ne_zero
abbrev ŧ:=@Bool.false_ne_true
abbrev Qb7:=@Nat.beq_refl
abbrev Qb8:=@Nat.div_lt_iff_lt_mul
abbrev į:=@Nat.mul_add
abbrev Qn0:=@List.drop_set_of_lt
abbrev Qn1:=@Nat.add_sub_cancel_left
abbrev ŏ:=@Option.some.inj
abbrev ŝ:=@Nat.gcd_dvd_right
abbrev Qn4:=@List.mem_of_mem_take
abbrev Qn5:=@List.getElem?_drop
abbrev ń:=@Nat.mul_assoc
abbrev Qn7:=@Rat.mul_inv_cancel
abbrev Qn8:=@Bool.not_eq_false'
abbrev ŗ:=@List.nil_append
abbrev Ř:=@Int.natCast_mul
abbrev ň:=@Nat.add_assoc
abbrev Qm2:=@List.mem_iff_getElem
abbrev Qm3:=@Nat.sub_add_cancel
abbrev Š:=@List.foldl_cons
abbrev ş:=@List.map_append
abbrev Qm6:=@Int.sign_eq_zero_iff_zero
abbrev Ş:=@Nat.not_lt_zero
abbrev Qm8:=@Rat.mul_eq_zero
abbrev Ő:=@Prod.mk.injEq
abbrev Qc0:=@List.cons_append
abbrev Qc1:=@List.flatMap_append
abbrev Ś:=@Nat.succ_mul
abbrev Qc3:=@List.length_singleton
abbrev Ŧ:=@Int.natAbs_neg
abbrev ť:=@Array.mk.injEq
abbrev Qc6:=@Nat.mul_lt_mul_of_pos_right
abbrev Qc7:=@Nat.div_le_self
abbrev Qc8:=@Nat.add_sub_cancel
abbrev Qc9:=@List.length_set
abbrev ŀ:=@Array.ext'
abbrev œ:=@Nat.zero_mul
abbrev Qd2:=@Int.sign_eq_neg_one_of_neg
abbrev ŋ:=@Nat.one_mul
abbrev Qd4:=@Bool.not_eq_eq_eq_not
abbrev Qd5:=@Nat.div_add_mod
abbrev Qd6:=@Option.isSome_iff_exists
abbrev Qd7:=@List.set_eq_of_length_le
abbrev Qd8:=@Nat.one_lt_two_pow
abbrev Qd9:=@Nat.xor_lt_two_pow
abbrev Qf0:=@Array.toList_map
abbrev Œ:=@Rat.mul_pos
abbrev Qf2:=@List.pairwise_append
abbrev Qf3:=@List.pairwise_singleton
abbrev Qf4:=@List.take_zero
abbrev Ť:=@Nat.gcd_comm
abbrev Qf6:=@Bool.or_eq_true
abbrev Qf7:=@Rat.intCast_mul
abbrev Qf8:=@Int.sign_eq_one_of_pos
abbrev Qf9:=@Nat.mul_div_cancel
abbrev Qg0:=@List.getElem_set_self
abbrev Qg1:=@Nat.gcd_zero_right
abbrev Qg2:=@Nat.mul_le_mul
abbrev Qg3:=@Nat.testBit_eq_decide_div_mod_eq
abbrev Qg4:=@List.mem_of_mem_drop
abbrev Qg5:=@Nat.add_mul_div_left
abbrev Qg6:=@List.ext_getElem?
abbrev Qg7:=@Nat.mod_add_div
abbrev Qg8:=@Int.mul_ediv_cancel_left
abbrev Qg9:=@Rat.intCast_inj
abbrev Qh0:=@Rat.intCast_neg
abbrev Qh1:=@Rat.num_intCast
abbrev Qh2:=@Int.mul_comm
abbrev Qh3:=@List.take_set
abbrev Qh4:=@Rat.mkRat_one
abbrev Qh5:=@List.getElem_of_mem
abbrev Qh6:=@List.length_pos_iff
abbrev Qh7:=@Option.getD_some
abbrev Qh8:=@List.any_eq_true
abbrev Qh9:=@List.drop_drop
abbrev Qp0:=@Array.getElem?_eq_none
abbrev Qp1:=@List.filter_eq_nil_iff
abbrev Qp2:=@Nat.and_lt_two_pow
abbrev Qp3:=@Nat.mul_eq_zero
abbrev Qp4:=@Int.natAbs_dvd_natAbs
abbrev Qp5:=@Rat.mul_pos_iff_of_pos_left
abbrev Qp6:=@List.length_filter_le
abbrev Qp7:=@List.getElem_drop
abbrev Qp8:=@Int.lt_trichotomy
abbrev Qp9:=@List.getElem?_set
abbrev Qr0:=@Array.getElem?_eq_some_iff
abbrev Qr1:=@Array.getElem_toList
abbrev Qr2:=@Rat.mkRat_self
abbrev Qr3:=@Nat.le_add_right
abbrev Qr4:=@List.getElem_map
abbrev Qr5:=@List.filter_cons
abbrev Qr6:=@List.length_flatten
abbrev Qr7:=@List.take_replicate
abbrev Qr8:=@Nat.gcd_eq_zero_iff
abbrev Qr9:=@List.countP_pos_iff
abbrev Qs0:=@List.filter_eq_self
abbrev Qs1:=@List.map_map
abbrev Qs2:=@List.eq_of_mem_replicate
abbrev Qs3:=@Nat.le_of_lt
abbrev Qs4:=@List.getElem_append_left
abbrev Qs5:=@List.set_eq_take_append_cons_drop
abbrev Qs6:=@List.map_replicate
abbrev Qs7:=@List.getElem?_replicate
abbrev Qs8:=@Rat.num_mkRat
abbrev Qs9:=@Rat.sub_eq_add_neg
abbrev Qt0:=@Nat.pos_of_ne_zero
abbrev Qt1:=@Nat.dvd_trans
abbrev Qt2:=@Rat.intCast_add
abbrev Qt3:=@List.filter_append
abbrev Qt4:=@List.getElem?_set_self
abbrev Qt5:=@Int.natAbs_ediv_of_dvd
abbrev Qt6:=@List.getElem_cons_zero
abbrev Qt7:=@List.sum_replicate_nat
abbrev Qt8:=@Rat.neg_num
abbrev Qt9:=@List.getElem_take
abbrev Wq0:=@Rat.inv_pos
abbrev Wq1:=@List.take_take
abbrev Wq2:=@Nat.le_div_iff_mul_le
abbrev Wq3:=@List.getElem!_eq_getElem?_getD
abbrev Wq4:=@List.set_append_right
abbrev Wq5:=@Option.getD_none
abbrev Wq6:=@Nat.shiftLeft_add_eq_or_of_lt
abbrev Wq7:=@Nat.mul_lt_mul''
abbrev Wq8:=@List.take_append_of_le_length
abbrev Wq9:=@List.drop_length
abbrev Ww0:=@Int.sign_neg_iff
abbrev Ww1:=@Nat.zero_lt_succ
abbrev Ww2:=@List.take_subset
abbrev Ww3:=@List.getElem?_of_mem
abbrev Ww4:=@Rat.den_mkRat
abbrev Ww5:=@Nat.le_of_dvd
abbrev Ww6:=@Nat.lt_irrefl
abbrev Ww7:=@Prod.ext
abbrev Ww8:=@Int.not_lt
abbrev Ww9:=@Nat.le_succ
abbrev Wx0:=@Array.length_toList
abbrev Wx1:=@Nat.pow_mul
abbrev Wx2:=@Nat.pow_pos
abbrev Wx3:=@Int.mul_neg
abbrev Wx4:=@Int.sign_eq_neg_one_iff_neg
abbrev Wx5:=@Int.mul_lt_mul_of_pos_right
abbrev Wx6:=@Rat.mkRat_mul_mkRat
abbrev Wx7:=@Int.mul_eq_zero
abbrev Wx8:=@Int.le_refl
abbrev Wx9:=@List.getD_cons_succ
abbrev Wy0:=@Int.fdiv_eq_ediv_of_nonneg
abbrev Wy1:=@Int.lt_of_mul_lt_mul_right
abbrev Wy2:=@Nat.add_comm
abbrev Wy3:=@Nat.div_mul_cancel
abbrev Wy4:=@Int.add_zero
abbrev Wy5:=@Nat.mod_self
abbrev Wy6:=@List.ne_nil_of_mem
abbrev Wy7:=@Array.mapM_eq_mapM_toList
abbrev Wy8:=@Nat.add_mul_mod_self_left
abbrev Wy9:=@Rat.num_nonneg
abbrev Wz0:=@List.getElem_append_right
abbrev Wz1:=@List.drop_zero
abbrev Wz2:=@List.getLastD_eq_getLast?
abbrev Wz3:=@List.exists_mem_of_ne_nil
abbrev Wz4:=@Int.eq_of_mul_eq_mul_left
abbrev Wz5:=@List.getElem?_map
abbrev Wz6:=@Nat.or_lt_two_pow
abbrev Wz7:=@Nat.gcd_pos_of_pos_right
abbrev Wz8:=@Nat.gcd_zero_left
abbrev Wz9:=@List.map_take
abbrev Wk0:=@List.map_drop
abbrev Wk1:=@Int.neg_mul
abbrev Wk2:=@Nat.mul_pos
abbrev Wk3:=@Int.one_mul
abbrev Wk4:=@Rat.mul_assoc
abbrev Wk5:=@List.sum_cons
abbrev Wk6:=@Nat.shiftLeft_eq
abbrev Wk7:=@Int.natCast_emod
abbrev Wk8:=@Rat.mkRat_eq_iff
abbrev Wk9:=@List.flatMap_nil
abbrev Wj0:=@Option.map_some
abbrev Wj1:=@Nat.sub_zero
abbrev Wj2:=@BitVec.toNat_or
abbrev Wj3:=@Nat.mul_add_div
abbrev Wj4:=@Nat.mul_add_mod
abbrev Wj5:=@Nat.zero_div
abbrev Wj6:=@Rat.mul_def'
abbrev Wj7:=@Nat.testBit_xor
abbrev Wj8:=@List.nodup_cons
abbrev Wj9:=@Rat.intCast_sub
abbrev Wv0:=@Rat.mul_comm
abbrev Wv1:=@Nat.sub_self
abbrev Wv2:=@Nat.min_le_left
abbrev Wv3:=@List.mem_range
abbrev Wv4:=@Int.ofNat_tmod
abbrev Wv5:=@Bool.and_false
abbrev Wv6:=@Rat.mul_nonneg
abbrev Wv7:=@Iff.rfl
abbrev Wv8:=@List.map_id
abbrev Wv9:=@Rat.neg_den
abbrev zA:=@List
abbrev ut:=Bool
abbrev um:=Go.Value
abbrev Jq:=Go.Value.int .i64
abbrev tt:Prop:=true=true
namespace Go.Eng
section
abbrev OA:=Option Addr
abbrev sm {α:Type}(a:α):Prop:=a=a
structure Ó where
 w:World
 H:Nat->Prop
 X:Nat->Prop
 hH:∀b,H b->b<w.heap.size
 hX:∀b,X b->H b
abbrev _root_.un:=Ó
variable{V V':Ó}
def Ó.bh (V:Ó)(b:Nat)(o:Obj):Prop:=¬V.H b/\V.w.heap[b]?=some o
def Ó.at (V:Ó)(p:Addr)(v:Value):Prop:=¬V.H p.block/\V.w.cell? p=some v
def Ó.Le (V V':Ó):Prop:=∀b o,V.bh b o->V'.bh b o
structure kv (X:Nat->Prop) (w w':World):Prop where
 size:w.heap.size<=w'.heap.size
 bh:∀b,b<w.heap.size->¬X b->w'.heap[b]?=w.heap[b]?
 os:w'.os=w.os
 tape:w'.tape=w.tape
 out:w'.output=w.output
 dr:w.drawn<=w'.drawn
def Ó.to (V:Ó)(w':World)(h:V.w.heap.size<=w'.heap.size):Ó:=⟨w',V.H,V.X,λb u=>ľ (V.hH b u) h,V.hX⟩
def Ó.aw (V:Ó)(u:List Nat):Ó:={ V with X:=λb=>b∈u/\V.H b,hX:=λ_ h=>h.2 }
def Ó.T7 (V:Ó)(b:Nat):Ó:={ V with H:=λx=>V.H x\/(x=b/\b<V.w.heap.size),hH:=λx h=>h.elim (V.hH x) λh=>h.1▸h.2,hX:=λx h=>.inl (V.hX x h) }
def Ó.bf (V:Ó)(p:Prop)(b:Nat):Ó:={ V with H:=λx=>V.H x\/(p/\x=b/\b<V.w.heap.size),hH:=λx h=>h.elim (V.hH x) λh=>h.2.1▸h.2.2,hX:=λx h=>.inl (V.hX x h) }
def Ó.shut (V:Ó):Ó:={ V with X:=λ_=>False,hX:=λ_ h=>h.elim }
def iF (P : Program)(f : FuncId) : Prop := ∃ fn, P.funcs[f]? = some fn ∧ fn.body.isNone = false ∧ (fn.name == "runtime.NumGoroutine") = false
def ae (P:Program)(f:FuncId)(args:Array Value)(V:Ó)(R:Value->Ó->Prop):Prop:=
 iF P f/\Calls P f args V.w λe w'=>∃r,e=.returned r/\∃u:kv V.X V.w w',R r (V.to w' u.size)
inductive C where
 | v (x:Value)|w (x:Value)|tt|ff
 | ptr (s o:Nat)
 | mS (s o n c:Nat)
 | d_ (s n c:Nat)
 | tK (f:FuncId) (ss:List Nat)
 | WR (f:FuncId) (vs:List Value)
inductive SV where
 | c (x:C)|agg (cs:List C)|xD (xs:List (Bool×List C))
inductive è where
 | lit (cs:List C)|row (vs:List Value)|aG (vs:List Value)
structure aY where
 cs:è
 ty:TypeId
def aY.live (b:aY):Prop:=∀vs,b.cs=.aG vs->vs≠[]
def So (b:aY):List Prop:=
 match b.cs with
 | .aG vs=>[vs≠[]]
 | _=>[]
def gdP (b:aY):Prop:=
 match b.cs with
 | .aG vs=>vs≠[]
 | _=>True
def wc:List Prop->Prop->Prop
 | [],k=>k
 | p::r,k=>p->wc r k
def mA (b c:Nat):OA:=if c=0 then none else some ⟨b,0,none⟩
structure St where
 aA:Nat->Option SV
 boxes:Nat->Option aY
def C.den (β:Nat->Nat):C->Value
 | .v x=>x
 | .w x=>x
 | .tt=>.bool true
 | .ff=>.bool false
 | .ptr s o=>.pointer (some ⟨β s,o,none⟩)
 | .mS s o n c=>.slice (some ⟨β s,o,none⟩) n c
 | .d_ s n c=>.slice (mA (β s) c) n c
 | .tK f ss=>.func (.func f) #[] (ss.map λs=>Value.pointer (some ⟨β s,0,none⟩)).toArray
 | .WR f vs=>.func (.func f) #[.agg vs.toArray] #[]
def kG (β:Nat->Nat):Bool×List C->Value
 | (true,cs)=>.agg (cs.map (C.den β)).toArray
 | (false,[c])=>c.den β
 | (false,_)=>.tuple #[]
def xW:Bool×List C->Option SV
 | (true,cs)=>some (.agg cs)
 | (false,[c])=>some (.c c)
 | (false,_)=>none
def SV.den (β:Nat->Nat):SV->Value
 | .c x=>x.den β
 | .agg cs=>.agg (cs.map (C.den β)).toArray
 | .xD xs=>.tuple (xs.map (kG β)).toArray
def SV.cells:SV->List C
 | .c x=>[x]
 | .agg cs=>cs
 | .xD _=>[]
def OY:List C->Option (List Value)
 | []=>some []
 | .v x::r=>match OY r with
  | some l=>some (x::l)
  | none=>none
 | _::_=>none
def è.den (β:Nat->Nat):è->List Value
 | .lit cs=>cs.map (C.den β)
 | .row vs=>vs
 | .aG vs=>vs
def aY.obj (β:Nat->Nat)(b:aY):Obj:=.cells (b.cs.den β).toArray b.ty (0,0)
def C.ids:C->List Nat
 | .ptr s _=>[s]
 | .mS s _ _ _=>[s]
 | .d_ s _ _=>[s]
 | .tK _ ss=>ss
 | _=>[]
def SV.ids:SV->List Nat
 | .c x=>x.ids
 | .agg cs=>cs.flatMap C.ids
 | .xD xs=>xs.flatMap λx=>x.2.flatMap C.ids
def SV.Cs:SV->Bool
 | .xD _=>true
 | _=>false
def gT:C->List Prop
 | .v (.agg _)|.v (.tuple _)=>[False]
 | .w x=>[x.oneCell'=true]
 | _=>[]
def SV.gT (x:SV):List Prop:=x.cells.flatMap Eng.gT
def è.ids:è->List Nat
 | .lit cs=>cs.flatMap C.ids
 | .row _=>[]
 | .aG _=>[]
def St.put (st:St)(d:Option Nat)(x:SV):St:=
 match d with
 | none=>st
 | some d=>{ st with aA:=λt=>cond (Nat.beq t d) (some x) (st.aA t) }
def St.box (st:St)(s:Nat)(b:aY):St:={ st with boxes:=λt=>cond (Nat.beq t s) (some b) (st.boxes t) }
def C.ofConst:Value->C
 | .bool true=>.tt
 | .bool false=>.ff
 | x=>.v x
def SV.ofConst:Value->SV
 | .bool true=>.c .tt
 | .bool false=>.c .ff
 | .agg cs=>.agg (cs.toList.map C.ofConst)
 | x=>.c (.v x)
def St.bK (st:St):Operand->Option SV
 | .tmp t=>st.aA t
 | .const v=>some (.ofConst v)
 | .global g=>some (.c (.v (.pointer (some ⟨g,0,none⟩))))
 | .func f=>some (.c (.tK f []))
inductive TK where
 | int (k:IntKind)|bool|str|ptr (e:TypeId)|slice (e:TypeId)|struct (fs:List (TypeId×Nat))|arr (n:Nat) (e:TypeId)|iface|func|tuple (ts:List TypeId)|other
structure TI where
 k:TK
 size:Nat
 bytes:Nat
 zero:List C
def nE:TypeDesc->TK
 | .int k=>.int k
 | .bool=>.bool
 | .string=>.str
 | .pointer e=>.ptr e
 | .slice e=>.slice e
 | .array n e=>.arr n e
 | .struct fs=>.struct (fs.toList.map λf=>(f.type,f.offset))
 | .interface _=>.iface
 | .func ..=>.func
 | .tuple es=>.tuple es.toList
 | _=>.other
def pN (P:Program)(t:TypeId):Option TI:=
 match P.info? t,P.underlying t with
 | some i,some d=>
  match i.zero with
  | some z=>some { k:=nE d,size:=i.size,bytes:=i.bytes,zero:=z.cells.toList.map C.ofConst }
  | none=>none
 | _,_=>none
abbrev dW:=List (Nat×TI)
def aH {α:Type}:List (Nat×α)->Nat->Option α
 | [],_=>none
 | (s,x)::r,t=>cond (Nat.beq t s) (some x) (aH r t)
def dW.ok (P:Program)(T:dW):Prop:=∀t i,aH T t=some i->pN P t=some i
inductive Eb where
 | int (k:IntKind)|bool|slice|ptr|str|any
inductive Bv where
 | one (s:Eb)|agg (l:List Eb)
inductive Sh where
 | val (s:Bv)|xD (l:List Bv)|none
def shC:C->Eb
 | .v (.int k _)=>.int k
 | .v (.slice ..)=>.slice
 | .v (.pointer _)=>.ptr
 | .v (.string _)=>.str
 | .tt|.ff=>.bool
 | _=>.any
def oK (i:TI):Bv:=
 match i.k with
 | .struct _|.arr _ _=>.agg (i.zero.map shC)
 | _=>match i.zero with
  | [z]=>.one (shC z)
  | _=>.one .any
def Eb.ex:Eb->(C->Prop)->Prop
 | .int k,K=>∃n:Int,K (.v (.int k n))
 | .bool,K=>∃b:Bool,K (.v (.bool b))
 | .slice,K=>∃(a:OA)(n c:Nat),K (.v (.slice a n c))
 | .ptr,K=>∃p:OA,K (.v (.pointer p))
 | .str,K=>∃s:ByteArray,K (.v (.string s))
 | .any,K=>∃x:Value,K (.w x)
def exL:List Eb->(List C->Prop)->Prop
 | [],K=>K []
 | s::r,K=>s.ex λv=>exL r λvs=>K (v::vs)
def Bv.ex:Bv->(SV->Prop)->Prop
 | .one s,K=>s.ex λc=>K (.c c)
 | .agg l,K=>exL l λcs=>K (.agg cs)
def exT:List Bv->(List (Bool×List C)->Prop)->Prop
 | [],K=>K []
 | .one s::r,K=>s.ex λc=>exT r λvs=>K ((false,[c])::vs)
 | .agg l::r,K=>exL l λcs=>exT r λvs=>K ((true,cs)::vs)
def Sh.ex:Sh->(SV->Prop)->Prop
 | .val s,K=>s.ex K
 | .xD l,K=>exT l λvs=>K (.xD vs)
 | .none,K=>K (.xD [])
def shTs (T:dW):List TypeId->Option (List Bv)
 | []=>some []
 | t::r=>match aH T t,shTs T r with
  | some i,some l=>some (oK i::l)
  | _,_=>Option.none
def shOf (T:dW)(t:TypeId):Option Sh:=
 match aH T t with
 | some i=>match i.k with
  | .tuple []=>some .none
  | .tuple ts=>match shTs T ts with
   | some l=>some (.xD l)
   | Option.none=>Option.none
  | _=>some (.val (oK i))
 | Option.none=>Option.none
inductive Q where
 | fail
 | ret (sc:List Prop) (x:SV)
 | new (sc:List Prop) (b:aY) (x:Nat->SV)
 | Ao (sc:List Prop) (s:Nat) (b:aY)
 | rd (p:OA) (sh:Bv)
 | ug (vs:List Value) (o size:Nat) (sh:Bv)
 | yy (s:Nat) (vs:List Value) (n c:Nat) (x:OA×Nat ⊕ List Value) (size bytes:Nat) (ty:TypeId)
 | app (old:Option Nat) (ba:OA) (vs:List Value) (n c:Nat) (x:OA×Nat ⊕ List Value) (size bytes:Nat) (ty:TypeId)
def b_ (op:BinOp)(k:IntKind)(a b:Int):Int:=
 match op with
 | .and=>k.wrap ((BitVec.ofInt k.bits a &&& BitVec.ofInt k.bits b).toNat:Int)
 | .or=>k.wrap ((BitVec.ofInt k.bits a ||| BitVec.ofInt k.bits b).toNat:Int)
 | .xor=>k.wrap ((BitVec.ofInt k.bits a ^^^ BitVec.ofInt k.bits b).toNat:Int)
 | _=>k.wrap ((BitVec.ofInt k.bits a &&& ~~~(BitVec.ofInt k.bits b)).toNat:Int)
def rA (op:BinOp)(k:IntKind)(a b:Int):Q:=
 match op with
 | .add=>.ret [] (.c (.v (.int k (k.wrap (a+b)))))
 | .sub=>.ret [] (.c (.v (.int k (k.wrap (a-b)))))
 | .mul=>.ret [] (.c (.v (.int k (k.wrap (a*b)))))
 | .quo=>.ret [b≠0] (.c (.v (.int k (k.wrap (a.tdiv b)))))
 | .rem=>.ret [b≠0] (.c (.v (.int k (a.tmod b))))
 | .and=>.ret [] (.c (.v (.int k (b_ .and k a b))))
 | .or=>.ret [] (.c (.v (.int k (b_ .or k a b))))
 | .xor=>.ret [] (.c (.v (.int k (b_ .xor k a b))))
 | .andNot=>.ret [] (.c (.v (.int k (b_ .andNot k a b))))
 | .shl=>.ret [0<=b] (.c (.v (.int k (k.wrap (a*2^(min b.toNat k.bits))))))
 | .shr=>.ret [0<=b] (.c (.v (.int k (a.fdiv (2^(min b.toNat k.bits))))))
 | .eql=>.ret [] (.c (.v (.bool (a==b))))
 | .neq=>.ret [] (.c (.v (.bool (a != b))))
 | .lss=>.ret [] (.c (.v (.bool (decide (a<b)))))
 | .leq=>.ret [] (.c (.v (.bool (decide (a<=b)))))
 | .gtr=>.ret [] (.c (.v (.bool (decide (a>b)))))
 | .geq=>.ret [] (.c (.v (.bool (decide (a≥b)))))
def C.bool?:C->Option Bool
 | .tt=>some true
 | .ff=>some false
 | .v (.bool b)=>some b
 | _=>none
def gF:Value->Bool
 | .nilIface=>true
 | _=>false
def ÿ (x:Value):Prop:=x=.nilIface\/∃t v,x=.iface t v
def Cu:IntKind->IntKind->Bool
 | .i8,.i8|.i16,.i16|.i32,.i32|.i64,.i64|.u8,.u8|.u16,.u16|.u32,.u32|.u64,.u64=>true
 | _,_=>false
def Iq (neg:Bool)(k:TK)(x y:C):Q:=
 match k with
 | .ptr _=>match y with
  | .v (.pointer none)=>match x with
   | .ptr _ _=>.ret [] (.c (if neg then .tt else .ff))
   | .v (.pointer p)=>.ret [] (.c (.v (.bool (if neg then !p.isNone else p.isNone))))
   | _=>.fail
  | _=>.fail
 | .slice _=>match y with
  | .v (.slice none _ _)=>match x with
   | .mS _ _ _ _=>.ret [] (.c (if neg then .tt else .ff))
   | .d_ _ _ c=>.ret [] (.c (.v (.bool (if neg then !(Nat.beq c 0) else Nat.beq c 0))))
   | .v (.slice a _ _)=>.ret [] (.c (.v (.bool (if neg then !a.isNone else a.isNone))))
   | _=>.fail
  | _=>.fail
 | .iface=>match y with
  | .v .nilIface=>match x with
   | .w y=>.ret [ÿ y] (.c (.v (.bool (if neg then !gF y else gF y))))
   | .v .nilIface=>.ret [] (.c (if neg then .ff else .tt))
   | _=>.fail
  | _=>.fail
 | _=>.fail
def Io (T:dW)(op:BinOp)(u:TypeId)(x y:C):Q:=
 match aH T u with
 | some i=>match i.k with
  | .int _=>match x,y with
   | .v (.int k a),.v (.int k' b)=>
    match op with
    | .shl|.shr=>rA op k a b
    | _=>if Cu k k' then rA op k a b else .fail
   | _,_=>.fail
  | .bool=>match x.bool?,y.bool? with
   | some a,some b=>match op with
    | .eql=>.ret [] (.c (.v (.bool (a==b))))
    | .neq=>.ret [] (.c (.v (.bool (!(a==b)))))
    | _=>.fail
   | _,_=>.fail
  | k=>match op with
   | .eql=>Iq false k x y
   | .neq=>Iq true k x y
   | _=>.fail
 | none=>.fail
def af (p:OA)(n:Nat):OA:=p.map λa=>a.add n
def ă (cs:List C)(o:Nat)(xs:List C):List C:=cs.take o++xs++cs.drop (o+xs.length)
def bw (vs:List Value)(o:Nat)(xs:List Value):List Value:=
 match xs with
 | [x]=>vs.set o x
 | _=>vs.take o++xs++vs.drop (o+xs.length)
def C.val?:C->Option Value
 | .v x=>some x
 | .w x=>some x
 | .tt=>some (.bool true)
 | .ff=>some (.bool false)
 | _=>none
def mT:List C->Option (List Value)
 | []=>some []
 | c::r=>match c.val?,mT r with
  | some v,some vs=>some (v::vs)
  | _,_=>none
def lS (bx:Nat->Option aY)(i:TI)(x:SV):Q:=
 match x with
 | .c (.ptr b o)=>match bx b with
  | some ⟨.lit cs,_⟩=>match i.k with
   | .struct _|.arr _ _=>if Nat.ble (o+i.size) cs.length then .ret [] (.agg ((cs.drop o).take i.size)) else .fail
   | _=>match cs[o]? with
    | some c=>.ret [] (.c c)
    | none=>.fail
  | some ⟨.row vs,_⟩=>.ug vs o i.size (oK i)
  | some ⟨.aG vs,_⟩=>if Nat.beq i.size 0 then .fail else .ug vs o i.size (oK i)
  | none=>.fail
 | .c (.v (.pointer p))=>if Nat.beq i.zero.length i.size then .rd p (oK i) else .fail
 | _=>.fail
def ju (bx:Nat->Option aY)(i:TI)(a x:SV):Q:=
 match a with
 | .c (.ptr b o)=>if Nat.beq x.cells.length i.size&&!x.Cs then match bx b with
   | some ⟨.lit cs,ty⟩=>if Nat.ble (o+i.size) cs.length then .Ao x.gT b ⟨.lit (ă cs o x.cells),ty⟩ else .fail
   | some ⟨.row vs,ty⟩=>match mT x.cells with
    | some xs=>.Ao (x.gT++[o+i.size<=vs.length]) b ⟨.row (bw vs o xs),ty⟩
    | none=>.fail
   | some ⟨.aG vs,ty⟩=>if Nat.beq i.size 0 then .fail else match mT x.cells with
    | some xs=>.Ao (x.gT++[o+i.size<=vs.length]) b ⟨.aG (bw vs o xs),ty⟩
    | none=>.fail
   | none=>.fail
  else .fail
 | _=>.fail
def t_ (place:Nat->Option (Nat×Nat))(cells:List C):List (Nat×SV)->Option (List C)
 | []=>some cells
 | (i,x)::r=>match place i with
  | none=>none
  | some (off,size)=>if Nat.beq x.cells.length size&&Nat.ble (off+size) cells.length&&!x.Cs then t_ place (ă cells off x.cells) r else none
def ö (ρ:Operand->Option SV):List (Nat×Operand)->Option (List (Nat×SV))
 | []=>some []
 | (i,o)::r=>match ρ o,ö ρ r with
  | some x,some l=>some ((i,x)::l)
  | _,_=>none
def iu (T:dW):List (TypeId×Nat)->Option (List (Nat×Nat))
 | []=>some []
 | (t,off)::r=>match aH T t,iu T r with
  | some i,some l=>some ((off,i.size)::l)
  | _,_=>none
def rep (n:Nat)(u:List C):List C:=(List.replicate n u).flatten
def tQ (n:Nat)(u:List Value):List Value:=
 match u with
 | [z]=>List.replicate n z
 | _=>(List.replicate n u).flatten
def iE (a:OA)(m l sz:Nat):OA:=if m=l then a else af a (l*sz)
def jW (o m l sz:Nat):Nat:=if m=l then o else o+l*sz
def Yg (c:Nat):Option SV->Option (List Prop×Nat)
 | none=>some ([],c)
 | some (.c (.v (.int _ m)))=>some ([0<=m/\m<=(c:Int)],m.toNat)
 | _=>none
def Vd (n m:Nat):Option SV->Option SV->Option (List Prop×Nat)
 | some (.c (.v (.int _ h))),_=>some ([0<=h/\h<=(m:Int)],h.toNat)
 | none,none=>some ([],n)
 | _,_=>none
def qLow (h:Nat):Option SV->Option (List Prop×Option Nat)
 | none=>some ([],none)
 | some (.c (.v (.int _ l)))=>some ([0<=l/\l<=(h:Int)],some l.toNat)
 | _=>none
def tB (n c:Nat)(lo hi mx:Option SV):Option (List Prop×Option Nat×Nat×Nat):=
 match Yg c mx with
 | none=>none
 | some (u,m)=>match Vd n m hi mx with
  | none=>none
  | some (y,h)=>match qLow h lo with
   | none=>none
   | some (z,l)=>some (u++y++z,l,h,m)
def Ic (ρ:Operand->Option SV):Option Operand->Option (Option SV)
 | none=>some none
 | some x=>match ρ x with
  | some v=>some (some v)
  | none=>none
def yE (sz:Nat)(x:SV)(lo hi mx:Option SV):Q:=
 match x with
 | .c (.v (.slice a n c))=>match tB n c lo hi mx with
  | some (sc,none,h,m)=>.ret sc (.c (.v (.slice a h m)))
  | some (sc,some l,h,m)=>.ret sc (.c (.v (.slice (iE a m l sz) (h-l) (m-l))))
  | none=>.fail
 | .c (.mS s o n c)=>match tB n c lo hi mx with
  | some (sc,none,h,m)=>.ret sc (.c (.mS s o h m))
  | some (sc,some l,h,m)=>.ret sc (.c (.mS s (jW o m l sz) (h-l) (m-l)))
  | none=>.fail
 | .c (.d_ s n c)=>match mx with
  | none=>match tB n c lo hi none with
   | some (sc,none,h,m)=>.ret sc (.c (.d_ s h m))
   | _=>.fail
  | some _=>.fail
 | _=>.fail
def jt (T:dW)(i:TI)(x y:SV):Q:=
 match y with
 | .c (.v (.int _ n))=>match i.k with
  | .slice e=>match aH T e with
   | some u=>match x with
    | .c (.v (.slice a len _))=>.ret [a.isSome=true,0<=n/\n<(len:Int)] (.c (.v (.pointer (af a (n.toNat*u.size)))))
    | .c (.mS s o len _)=>.ret [0<=n/\n<(len:Int)] (.c (.ptr s (o+n.toNat*u.size)))
    | .c (.d_ s len c)=>.ret [0<=n/\n<(len:Int),len<=c] (.c (.ptr s (n.toNat*u.size)))
    | _=>.fail
   | none=>.fail
  | .arr len e=>match aH T e with
   | some u=>match x with
    | .c (.ptr s o)=>.ret [0<=n/\n<(len:Int)] (.c (.ptr s (o+n.toNat*u.size)))
    | .c (.v (.pointer a))=>.ret [a.isSome=true,0<=n/\n<(len:Int)] (.c (.v (.pointer (af a (n.toNat*u.size)))))
    | _=>.fail
   | none=>.fail
  | _=>.fail
 | _=>.fail
def Gz (T:dW)(i:TI)(l c:SV):Q:=
 match i.k with
 | .slice e=>match aH T e with
  | some u=>match l,c with
   | .c (.v (.int _ n)),.c (.v (.int _ m))=>match mT u.zero with
    | some y=>if Nat.beq u.bytes 0||Nat.beq u.size 0||!(Nat.beq u.size y.length) then .fail else .new [0<=n,n<=m,(u.bytes:Int)*m<=2^47] ⟨.row (tQ m.toNat y),e⟩ λd=>.c (.mS d 0 n.toNat m.toNat)
    | none=>.fail
   | _,_=>.fail
  | none=>.fail
 | _=>.fail
def CZ:List SV->Option (List Nat)
 | []=>some []
 | .c (.ptr s 0)::r=>match CZ r with
  | some l=>some (s::l)
  | none=>none
 | _=>none
def cO (ρ:Operand->Option SV):List Operand->Option (List SV)
 | []=>some []
 | o::r=>match ρ o,cO ρ r with
  | some x,some l=>some (x::l)
  | _,_=>none
def cH (a b:Int):Int:=if b<a then b else a
def ct (a b:Int):Int:=if b>a then b else a
def ĭ (f:Int->Int->Int)(k:IntKind)(a:Int):List SV->Option Int
 | []=>some a
 | .c (.v (.int k' b))::r=>if Cu k k' then ĭ f k (f a b) r else none
 | _=>none
def fS (bx:Nat->Option aY)(s:Nat):Option (List Value):=
 match bx s with
 | some ⟨.lit cs,_⟩=>mT cs
 | some ⟨.row vs,_⟩=>some vs
 | _=>none
def nQ (bx:Nat->Option aY)(s:Nat):Option TypeId:=match bx s with|some b=>some b.ty|none=>none
def aL (ws:List Value)(o n:Nat):List Value:=cond (Nat.ble (o+n) ws.length) ((ws.drop o).take n) (List.replicate n (.agg #[]))
def rR (ws:List Value)(k c sz:Nat):List Value:=cond (Nat.ble k c) (aL ws 0 (k*sz)) (List.replicate (k*sz) (.agg #[]))
def cY (bx:Nat->Option aY)(e:TypeId)(u:TI)(b x:SV):Q:=
 match mT u.zero with
 | none=>.fail
 | some y=>if Nat.beq u.bytes 0||Nat.beq u.size 0||!(Nat.beq u.size y.length) then .fail else
  let src:Option (OA×Nat ⊕ List Value):=match x with
   | .c (.v (.slice a k _))=>some (.inl (a,k))
   | .c (.mS s o k _)=>match bx s with
    | some ⟨.row ws,_⟩=>some (.inr (aL ws o (k*u.size)))
    | _=>match fS bx s with
     | some ws=>if Nat.ble (o+k*u.size) ws.length then some (.inr ((ws.drop o).take (k*u.size))) else none
     | none=>none
   | .c (.d_ s k c)=>match bx s with
    | some ⟨.aG ws,_⟩=>some (.inr (rR ws k c u.size))
    | _=>none
   | _=>none
  match src with
  | none=>.fail
  | some src=>match b with
   | .c (.v (.slice a n c))=>.app none a [] n c src u.size u.bytes e
   | .c (.mS s 0 n c)=>match fS bx s,nQ bx s with
    | some vs,some ty=>if Nat.beq ty e then .app (some s) none vs n c src u.size u.bytes e else .fail
    | _,_=>.fail
   | .c (.d_ s n c)=>match bx s with
    | some ⟨.aG vs,ty⟩=>if Nat.beq ty e then .yy s vs n c src u.size u.bytes e else .fail
    | _=>.fail
   | _=>.fail
def oI (b:Builtin)(k:TK)(xs:List SV):Q:=
 match xs with
 | []=>.fail
 | x::r=>match b with
  | .len=>match r,k,x with
   | [],.slice _,.c (.v (.slice _ n _))=>.ret [] (.c (.v (.int .i64 n)))
   | [],.slice _,.c (.mS _ _ n _)=>.ret [] (.c (.v (.int .i64 n)))
   | [],.slice _,.c (.d_ _ n _)=>.ret [] (.c (.v (.int .i64 n)))
   | [],.str,.c (.v (.string s))=>.ret [] (.c (.v (.int .i64 s.size)))
   | _,_,_=>.fail
  | .cap=>match r,k,x with
   | [],.slice _,.c (.v (.slice _ _ c))=>.ret [] (.c (.v (.int .i64 c)))
   | [],.slice _,.c (.mS _ _ _ c)=>.ret [] (.c (.v (.int .i64 c)))
   | [],.slice _,.c (.d_ _ _ c)=>.ret [] (.c (.v (.int .i64 c)))
   | _,_,_=>.fail
  | .min=>match x with
   | .c (.v (.int k a))=>match ĭ cH k a r with
    | some m=>.ret [] (.c (.v (.int k m)))
    | none=>.fail
   | _=>.fail
  | .max=>match x with
   | .c (.v (.int k a))=>match ĭ ct k a r with
    | some m=>.ret [] (.c (.v (.int k m)))
    | none=>.fail
   | _=>.fail
  | _=>.fail
def C5 (t:TypeId)(i:TI)(v:SV):Q:=
 match i.k with
 | .iface=>.fail
 | _=>match v.ids,v.Cs with
  | [],false=>.ret [] (.c (.w (.iface t (v.den λ_=>0))))
  | _,_=>.fail
def pV (T:dW)(bx:Nat->Option aY)(t:TypeId)(x:SV):Q:=
 match aH T t with
 | some i=>match i.k with
  | .slice e=>match aH T e with
   | some u=>match mT u.zero,x with
    | some y,.c (.mS s o n _)=>match bx s with
     | some ⟨.row vs,ty⟩=>if Nat.beq u.size 0||!(Nat.beq u.size y.length)||!(y.all Value.oneCell') then .fail else .Ao [o+n*u.size<=vs.length] s ⟨.row (vs.take o++tQ n y++vs.drop (o+n*u.size)),ty⟩
     | _=>.fail
    | _,_=>.fail
   | none=>.fail
  | _=>.fail
 | none=>.fail
def P5:List C->Option (List (OA×Nat×Nat))
 | []=>some []
 | .v (.slice p n c)::r=>match P5 r with
  | some l=>some ((p,n,c)::l)
  | none=>none
 | _=>none
def oJ (T:dW)(i:TI)(cs:List C)(k:Int):Q:=
 match i.k with
 | .arr n e=>match aH T e,P5 cs with
  | some u,some l=>match u.k with
   | .slice _=>if Nat.beq u.size 1&&Nat.beq l.length n then .ret [0<=k/\k<(n:Int)] (.c (.v (.slice (l.getD k.toNat (none,0,0)).1 (l.getD k.toNat (none,0,0)).2.1 (l.getD k.toNat (none,0,0)).2.2))) else .fail
   | _=>.fail
  | _,_=>.fail
 | _=>.fail
def aT (T:dW)(ρ:Operand->Option SV)(bx:Nat->Option aY)(op:Op):Q:=
 match op with
 | .move x|.assign x=>match ρ x with
  | some v=>.ret [] v
  | none=>.fail
 | .pick c a b=>match ρ c with
  | some (.c .tt)=>match ρ a with
   | some v=>.ret [] v
   | none=>.fail
  | some (.c .ff)=>match ρ b with
   | some v=>.ret [] v
   | none=>.fail
  | _=>.fail
 | .alloc t=>match aH T t with
  | some i=>.new [] ⟨.lit i.zero,t⟩ λd=>.c (.ptr d 0)
  | none=>.fail
 | .box t x=>match ρ x with
  | some v=>match v.Cs with
   | true=>.fail
   | false=>.new v.gT ⟨.lit v.cells,t⟩ λd=>.c (.ptr d 0)
  | none=>.fail
 | .build t parts=>match aH T t,ö ρ parts.toList with
  | some i,some z=>match i.k with
   | .struct fs=>match iu T fs with
    | some pl=>match t_ (λj=>pl[j]?) i.zero z with
     | some cs=>.ret (z.flatMap λx=>x.2.gT) (.agg cs)
     | none=>.fail
    | none=>.fail
   | .arr _ e=>match aH T e with
    | some u=>match t_ (λj=>some (j*u.size,u.size)) i.zero z with
     | some cs=>.ret (z.flatMap λx=>x.2.gT) (.agg cs)
     | none=>.fail
    | none=>.fail
   | _=>.fail
  | _,_=>.fail
 | .buildSlice t len parts=>match aH T t,ö ρ parts.toList with
  | some i,some z=>match i.k with
   | .slice e=>match aH T e with
    | some u=>if Nat.ble (len*u.size) 16777216&&Nat.beq u.zero.length u.size&&!(Nat.beq u.size 0) then match t_ (λj=>some (j*u.size,u.size)) (rep len u.zero) z with
      | some cs=>.new (z.flatMap λx=>x.2.gT) ⟨.lit cs,e⟩ λd=>.c (.mS d 0 len len)
      | none=>.fail
     else .fail
    | none=>.fail
   | _=>.fail
  | _,_=>.fail
 | .load t a=>match aH T t,ρ a with
  | some i,some x=>lS bx i x
  | _,_=>.fail
 | .store t a x=>match aH T t,ρ a,ρ x with
  | some i,some O,some E=>ju bx i O E
  | _,_,_=>.fail
 | .nilCheck x=>match ρ x with
  | some (.c (.ptr s o))=>.ret [] (.c (.ptr s o))
  | some (.c (.v (.pointer p)))=>.ret [p.isSome=true] (.c (.v (.pointer p)))
  | _=>.fail
 | .binOp o N x y _=>match ρ x,ρ y with
  | some (.c a),some (.c b)=>match b with
   | .v .nilIface=>match y with
    | .const _=>Io T o N a b
    | _=>.fail
   | b=>Io T o N a b
  | _,_=>.fail
 | .unOp .not _ x=>match ρ x with
  | some (.c .tt)=>.ret [] (.c .ff)
  | some (.c .ff)=>.ret [] (.c .tt)
  | some (.c (.v (.bool b)))=>.ret [] (.c (.v (.bool (!b))))
  | _=>.fail
 | .unOp .xor _ x=>match ρ x with
  | some (.c (.v (.int k n)))=>.ret [] (.c (.v (.int k (b_ .xor k (if k.signed then -1 else k.max) n))))
  | _=>.fail
 | .unOp .neg _ x=>match ρ x with
  | some (.c (.v (.int k n)))=>.ret [] (.c (.v (.int k (k.wrap (0-n)))))
  | _=>.fail
 | .convert src dst x=>match aH T src,aH T dst,ρ x with
  | some _,some i,some (.c (.v (.int _ n)))=>match i.k with
   | .int k=>.ret [] (.c (.v (.int k (k.wrap n))))
   | _=>.fail
  | _,_,_=>.fail
 | .makeFunc (.func f) first caps=>match first.toList with
  | []=>match cO ρ caps.toList with
   | some xs=>match CZ xs with
    | some ss=>.ret [] (.c (.tK f ss))
    | none=>.fail
   | none=>.fail
  | [x]=>match caps.toList,ρ x with
   | [],some (.agg cs)=>match OY cs with
    | some vs=>.ret [] (.c (.WR f vs))
    | none=>.fail
   | _,_=>.fail
  | _=>.fail
 | .makeSlice t l c=>match aH T t,ρ l,ρ c with
  | some i,some Z,some cv=>Gz T i Z cv
  | _,_,_=>.fail
 | .slice t x lo hi mx=>match aH T t,ρ x,Ic ρ lo,Ic ρ hi,Ic ρ mx with
  | some i,some E,some l,some h,some m=>match i.k with
   | .slice e=>match aH T e with
    | some u=>yE u.size E l h m
    | none=>.fail
   | _=>.fail
  | _,_,_,_,_=>.fail
 | .fieldAddr t x f=>match aH T t,ρ x with
  | some i,some E=>match i.k with
   | .struct fs=>match fs[f]? with
    | some (F,off)=>match aH T F with
     | some fi=>if Nat.beq fi.size 0 then .fail else match E with
      | .c (.ptr s o)=>.ret [] (.c (.ptr s (o+off)))
      | .c (.v (.pointer p))=>.ret [p.isSome=true] (.c (.v (.pointer (af p off))))
      | _=>.fail
     | none=>.fail
    | none=>.fail
   | _=>.fail
  | _,_=>.fail
 | .field t x f=>match aH T t,ρ x with
  | some i,some (.agg cs)=>match i.k with
   | .struct fs=>match fs[f]? with
    | some (F,off)=>match aH T F with
     | some fi=>match fi.k with
      | .struct _|.arr _ _=>.ret [] (.agg ((cs.drop off).take fi.size))
      | _=>match cs[off]? with
       | some c=>.ret [] (.c c)
       | none=>.fail
     | none=>.fail
    | none=>.fail
   | _=>.fail
  | _,_=>.fail
 | .indexAddr t x M=>match aH T t,ρ x,ρ M with
  | some i,some E,some iv=>jt T i E iv
  | _,_,_=>.fail
 | .extract x j=>match ρ x with
  | some (.xD xs)=>match xs[j]? with
   | some v=>match xW v with
    | some y=>.ret [] y
    | none=>.fail
   | none=>.fail
  | _=>.fail
 | .call c=>match c.callee with
  | .builtin .append=>match cO ρ c.args.toList,c.argTypes.toList with
   | some [b,x],[t,t']=>match aH T t,aH T t' with
    | some i,some i'=>match i.k,i'.k with
     | .slice e,.slice _=>match aH T e with
      | some u=>cY bx e u b x
      | none=>.fail
     | _,_=>.fail
    | _,_=>.fail
   | _,_=>.fail
  | .builtin .clear=>match cO ρ c.args.toList,c.argTypes.toList with
   | some [x],[t]=>pV T bx t x
   | _,_=>.fail
  | .builtin b=>match cO ρ c.args.toList,c.argTypes.toList with
   | some xs,t::_=>match aH T t with
    | some i=>oI b i.k xs
    | none=>.fail
   | _,_=>.fail
  | _=>.fail
 | .index t x M=>match aH T t,ρ x,ρ M with
  | some i,some (.c (.v (.string s))),some (.c (.v (.int _ n)))=>match i.k with
   | .str=>.ret [0<=n/\n<(s.size:Int)] (.c (.v (.int .u8 ((s.data.toList.getD n.toNat 0).toNat:Int))))
   | _=>.fail
  | some i,some (.agg cs),some (.c (.v (.int _ n)))=>oJ T i cs n
  | _,_,_=>.fail
 | .makeInterface t x=>match aH T t,ρ x with
  | some i,some v=>C5 t i v
  | _,_=>.fail
 | _=>.fail
def G6:List Prop->Prop->Prop
 | [],k=>k
 | p::r,k=>p/\G6 r k
def Ó.Yl (V:Ó)(p:Addr):Nat->List C->Prop->Prop
 | _,[],k=>k
 | i,c::r,k=>V.at (p.add i) (c.den λ_=>0)/\V.Yl p (i+1) r k
def Ó.Yk (V:Ó)(p:OA)(x:SV)(k:Prop):Prop:=
 match x with
 | .agg cs=>∃a,p=some a/\V.Yl a 0 cs k
 | .c c=>(∃a,p=some a/\V.at a (c.den λ_=>0))/\k
 | .xD _=>False
def Yu (vs:List Value)(o size:Nat)(x:SV):Prop:=
 match x with
 | .agg cs=>o+size<=vs.length/\(vs.drop o).take size=cs.map (C.den λ_=>0)
 | .c c=>vs[o]?=some (c.den λ_=>0)
 | .xD _=>False
def iZ (x:Nat):List Nat->Bool
 | []=>false
 | y::r=>cond (Nat.beq x y) true (iZ x r)
def ó:List Nat->List Nat
 | []=>[]
 | x::r=>let l:=ó r;cond (iZ x l) l (x::l)
def EE (l m:List Nat):Bool:=l.all λx=>!(iZ x m)
def VN (l m:List Nat):Bool:=l.all λx=>iZ x m
def C.rel (L:List Nat)(β:Nat->Nat)(J:C->Value):C->C
 | .ptr s o=>cond (iZ s L) (.v (.pointer (some ⟨β s,o,none⟩))) (.ptr s o)
 | .mS s o n c=>cond (iZ s L) (.v (.slice (some ⟨β s,o,none⟩) n c)) (.mS s o n c)
 | .d_ s n c=>cond (iZ s L) (.v (.slice (mA (β s) c) n c)) (.d_ s n c)
 | .tK f ss=>cond (EE ss L) (.tK f ss) (.w (J (.tK f ss)))
 | x=>x
def SV.rel (L:List Nat)(β:Nat->Nat)(J:C->Value):SV->SV
 | .c x=>.c (x.rel L β J)
 | .agg cs=>.agg (cs.map (C.rel L β J))
 | .xD xs=>.xD (xs.map λx=>(x.1,x.2.map (C.rel L β J)))
def aY.rel (L:List Nat)(β:Nat->Nat)(J:C->Value)(b:aY):aY:=
 match b.cs with
 | .row _=>b
 | .aG _=>b
 | .lit cs=>⟨.lit (cs.map (C.rel L β J)),b.ty⟩
def St.rel (st:St)(L:List Nat)(β:Nat->Nat)(J:C->Value):St:=
 ⟨λt=>match st.aA t with|some x=>some (x.rel L β J)|none=>none,
   λt=>cond (iZ t L) none (match st.boxes t with|some b=>some (b.rel L β J)|none=>none)⟩
def Ó.sl (V:Ó)(a:OA)(xs:List Value):Prop:=∀i v,xs[i]?=some v->∃ad,a=some ad/\V.at (ad.add i) v
def ue (s d:Nat):Nat:=cond (Nat.blt s 100000) d (d+200000)
def JA (s:Nat)(vs:List Value)(n c size bytes:Nat)(ty:TypeId)(d:Nat)(st:St)(V:Ó)(K:St->Ó->Prop)(k:Nat)(xs:List Value):Prop:=
 (n+k)*bytes<=2^47/\n<=c/\c*size<=vs.length/\xs.length=k*size/\(∀v∈xs,v.oneCell'=true) /\
  match st.boxes (ue s d) with
  | some _=>False
  | none=>∀(_:Nat)(_:C->Value)(spare:List Value)(u:Nat),n+k<=u->u*size<=(n+k)*size+spare.length ->
   K (((st.box s ⟨.aG [],ty⟩).box (ue s d) ⟨.row (vs.take (n*size)++xs++spare),ty⟩).put (some d) (.c (.mS (ue s d) 0 (n+k) u))) V
def zG (s:Nat)(vs:List Value)(n c size bytes:Nat)(ty:TypeId)(d:Nat)(st:St)(V:Ó)(K:St->Ó->Prop)(k:Nat)(xs:List Value):Prop:=
 (n+k)*bytes<=2^47/\n<=c/\c*size<=vs.length/\xs.length=k*size/\(∀v∈xs,v.oneCell'=true) /\
  match st.boxes (ue s d) with
  | some _=>False
  | none=>∀(spare:List Value)(u:Nat),n+k<=u->u*size<=(n+k)*size+spare.length ->
   K (((st.box s ⟨.aG [],ty⟩).box (ue s d) ⟨.aG (vs.take (n*size)++xs++spare),ty⟩).put (some d) (.c (.d_ (ue s d) (n+k) u))) V
def JB (vs:List Value)(n c size bytes:Nat)(ty:TypeId)(d:Nat)(st:St)(V:Ó)(K:St->Ó->Prop)(k:Nat)(xs:List Value):Prop:=
 (n+k)*bytes<=2^47/\c<n+k/\xs.length=k*size/\(∀v∈xs,v.oneCell'=true) /\
  match st.boxes d with
  | some _=>False
  | none=>∀(spare:List Value)(u:Nat),n+k<=u->u*size<=(n+k)*size+spare.length ->
   K ((st.box d ⟨.row (vs++xs++spare),ty⟩).put (some d) (.c (.mS d 0 (n+k) u))) V
def Ap (q:Q)(dst:Option Nat)(st:St)(V:Ó)(K:St->Ó->Prop):Prop:=
 match q with
 | .fail=>False
 | .ret sc x=>G6 sc (K (st.put dst x) V)
 | .new sc b x=>match dst with
  | some d=>match st.boxes d with
   | none=>G6 sc (K ((st.box d b).put (some d) (x d)) V)
   | some _=>False
  | none=>False
 | .Ao sc s b=>match dst with
  | none=>G6 sc (K (st.box s b) V)
  | some _=>False
 | .rd p sh=>sh.ex λx=>V.Yk p x (K (st.put dst x) V)
 | .ug vs o size sh=>sh.ex λx=>Yu vs o size x/\K (st.put dst x) V
 | .yy s vs n c x size bytes ty=>match dst with
  | none=>False
  | some d=>match x with
   | .inr xs=>zG s vs n c size bytes ty d st V K (xs.length/size) xs
   | .inl (a,k)=>∃xs:List Value,V.sl a xs/\xs.length=k*size/\zG s vs n c size bytes ty d st V K k xs
 | .app old ba vs n c x size bytes ty=>match dst with
  | none=>False
  | some d=>match old with
   | some s=>match x with
    | .inr xs=>JA s vs n c size bytes ty d st V K (xs.length/size) xs
    | .inl (a,k)=>∃xs:List Value,V.sl a xs/\xs.length=k*size/\JA s vs n c size bytes ty d st V K k xs
   | none=>∃vs:List Value,V.sl ba vs/\vs.length=n*size/\n<=c/\(ba.isNone=true->c=0)/\(match x with
    | .inr xs=>JB vs n c size bytes ty d st V K (xs.length/size) xs
    | .inl (a,k)=>∃xs:List Value,V.sl a xs/\xs.length=k*size/\(k=0->K (st.put (some d) (.c (.v (.slice ba n c)))) V)/\(k≠0->JB vs n c size bytes ty d st V K k xs))
def cJ (β:Nat->Nat)(s b:Nat):Nat->Nat:=λt=>cond (Nat.beq t s) b (β t)
def nN:List Nat->(Nat->Nat)->((Nat->Nat)->Prop)->Prop
 | [],β,k=>k β
 | s::r,β,k=>∀b:Nat,nN r (cJ β s b) k
def oW (bx:Nat->Option aY)(s:Nat):List Nat:=match bx s with|some b=>b.cs.ids|none=>[]
def ð (bx:Nat->Option aY):Nat->List Nat->List Nat
 | 0,l=>l
 | n+1,l=>ð bx n (ó (l++l.flatMap (oW bx)))
def jG (bx:Nat->Option aY)(l:List Nat):Bool:=l.all λs=>VN (oW bx s) l
def ZK (bx:Nat->Option aY)(b:aY)(β:Nat->Nat)(s:Nat):List Nat->Prop->Prop
 | [],k=>k
 | t::r,k=>cond (Nat.beq s t) (ZK bx b β s r k) (match bx t with
  | some b'=>wc (So b++So b') (β s≠β t)->ZK bx b β s r k
  | none=>False)
def kq (bx:Nat->Option aY)(β:Nat->Nat)(V:Ó):List Nat->Prop->Prop
 | [],k=>k
 | s::r,k=>match bx s with
  | some b=>wc (So b) (V.w.heap[β s]?=some (b.obj β))->wc (So b) (V.H (β s))->kq bx β V r (ZK bx b β s r k)
  | none=>False
def vb (vs:List Value)(n b:Nat):Nat:=
 match vs with
 | []=>n
 | _::_=>b
def eJ (bx:Nat->Option aY)(β:Nat->Nat)(n:Nat)(s:Nat):Nat:=
 match bx s with
 | some ⟨.aG vs,_⟩=>vb vs n (β s)
 | _=>β s
def C.kept:C->List Nat
 | .tK _ ss=>0::ss
 | c=>c.ids
def pJ (u:Option (Nat×Nat)):List C->List C->(List C->Prop)->Prop
 | [],_,K=>K []
 | c::r,z::y,K=>match c with
  | .d_ t _ _=>match u with
   | some (m,E)=>match Nat.beq t m with
    | true=>∃n c:Nat,pJ u r y λcs=>K (.d_ E n c::cs)
    | false=>False
   | none=>False
  | c=>match c.kept with
   | []=>(shC z).ex λv=>pJ u r y λcs=>K (v::cs)
   | _=>pJ u r y λcs=>K (c::cs)
 | _,[],_=>False
def fL (T:dW)(z:Option (Nat×Nat))(β:Nat->Nat)(V:Ó):List Nat->St->(St->Prop)->Prop
 | [],st,k=>k st
 | s::r,st,k=>match st.boxes s with
  | some ⟨.lit cs,ty⟩=>match aH T ty with
   | some i=>pJ z cs i.zero λy=>V.w.heap[β s]?=some (.cells (y.map (C.den β)).toArray ty (0,0))/\fL T z β V r (st.box s ⟨.lit y,ty⟩) k
   | none=>False
  | some ⟨.row _,ty⟩=>∃vs:List Value,V.w.heap[β s]?=some (.cells vs.toArray ty (0,0))/\fL T z β V r (st.box s ⟨.row vs,ty⟩) k
  | some ⟨.aG vs,ty⟩=>vs≠[]/\∃u:List Value,u≠[]/\V.w.heap[β s]?=some (.cells u.toArray ty (0,0))/\fL T z β V r (st.box s ⟨.aG u,ty⟩) k
  | _=>False
def uZ (bx:Nat->Option aY)(β:Nat->Nat)(V:Ó):List Nat->Prop->Prop
 | [],k=>k
 | s::r,k=>match bx s with
  | some b=>wc (So b) (V.bh (β s) (b.obj β))->uZ bx β V r k
  | none=>False
def uX:List C->List Nat
 | []=>[]
 | .d_ t _ _::r=>t::uX r
 | _::r=>uX r
def wB (bx:Nat->Option aY)(L:List Nat):List Nat:=ó (L.flatMap λs=>match bx s with|some ⟨.lit cs,_⟩=>uX cs|_=>[])
def pL:List SV->List Nat
 | []=>[]
 | .c (.d_ s _ _)::_=>[s]
 | .c (.mS s 0 _ _)::_=>[s]
 | _::r=>pL r
def A_ (u:Nat):List (Bool×List C)->List (Bool×List C)
 | []=>[]
 | (false,[.v (.slice _ n c)])::r=>(false,[.d_ u n c])::r
 | x::r=>x::A_ u r
def HN (u:Nat):List C->List C
 | []=>[]
 | .v (.slice _ n c)::r=>.d_ u n c::r
 | x::r=>x::HN u r
def yi (u:Nat):SV->SV
 | .c (.v (.slice _ n c))=>.c (.d_ u n c)
 | .agg cs=>.agg (HN u cs)
 | .xD xs=>.xD (A_ u xs)
 | x=>x
def HO (T:dW):List TypeId->Option TypeId
 | []=>none
 | t::r=>match aH T t with
  | some i=>match i.k with
   | .slice e=>some e
   | _=>HO T r
  | none=>none
def TZ (T:dW)(ty:TypeId):Option TypeId:=
 match aH T ty with
 | some i=>match i.k with
  | .slice e=>some e
  | .tuple ts=>HO T ts
  | .struct fs=>HO T (fs.map Prod.fst)
  | _=>none
 | none=>none
def aI (β:Nat->Nat)(xs:List SV):Array Value:=(xs.map (SV.den β)).toArray
inductive CM where
 | none|aw|rel|ko|give
def gR (m:Option Nat)(d:Nat):Nat:=
 match m with
 | some m=>ue m d
 | Option.none=>d
def mvP (m:Option Nat)(u:Nat):Option (Nat×Nat):=
 match m with
 | some m=>some (m,u)
 | Option.none=>Option.none
def KG (m:Option Nat)(L:List Nat):List Nat:=
 match m with
 | some m=>L.filter λs=>!(Nat.beq s m)
 | Option.none=>L
def v_ (m:Option Nat)(ety:TypeId)(st:St):St:=
 match m with
 | some m=>st.box m ⟨.aG [],ety⟩
 | Option.none=>st
def D9 (m:Option Nat)(st:St)(β:Nat->Nat)(b':Nat):Prop:=
 match m with
 | some m=>match st.boxes m with
  | some ⟨.aG vs,_⟩=>vs≠[]/\b'=β m
  | _=>b'=β m
 | Option.none=>False
def cG (T:dW)(give:Bool)(sh:Sh)(L:List Nat)(m:Option Nat)(d:Nat)(ety:TypeId)(β:Nat->Nat)(st:St)(V':Ó)(K:St->Ó->Prop)(E:Value)(y:Ó):Prop:=
 ∃(b':Nat)(u:List Value),(u≠[]->y.w.heap[b']?=some (.cells u.toArray ety (0,0)))/\(u≠[]->V'.w.heap.size<=b'\/D9 m st β b') /\
  sh.ex λx=>E=(cond give (yi (gR m d) x) x).den (cJ β (gR m d) b') /\
   fL T (mvP m (gR m d)) (cJ β (gR m d) b') y (KG m L) ((v_ m ety st).box (gR m d) ⟨.aG u,ety⟩) λz=>K (z.put (some d) (cond give (yi (gR m d) x) x)) (y.shut.bf (u≠[]) b')
def IA (bx:Nat->Option aY)(m ety:Nat):Bool:=
 match bx m with
 | some ⟨_,t⟩=>Nat.beq t ety
 | Option.none=>true
def ef (st:St)(L:List Nat)(ty:TypeId):St:=L.foldl (λst s=>st.box s ⟨.aG [],ty⟩) st
def lN (st:St)(m:Option Nat)(d:Nat):Bool:=
 match st.boxes (gR m d) with
 | some _=>false
 | Option.none=>true
def gY (P:Program)(T:dW)(m:CM)(f:FuncId)(xs:List SV)(ty:TypeId)(dst:Option Nat)(st:St)(V:Ó)(K:St->Ó->Prop):Prop:=
 match shOf T ty with
 | Option.none=>False
 | some sh=>match ð st.boxes 3 (ó (xs.flatMap SV.ids)) with
  | []=>match m with
   | .give=>match dst,TZ T ty with
    | some d,some ety=>match lN st Option.none d with
     | false=>False
     | true=>∀V':Ó,V.Le V'->ae P f (aI (λ_=>0) xs) V' (cG T true sh [] Option.none d ety (λ_=>0) st V' K)
    | _,Option.none=>∀V':Ó,V.Le V'->ae P f (aI (λ_=>0) xs) V' λr u=>sh.ex λx=>r=x.den (λ_=>0)/\K (st.put dst x) u
    | _,_=>False
   | .ko=>match sh,dst with
    | .val (.one .ptr),some d=>match st.boxes d with
     | some _=>False
     | Option.none=>match aH T ty with
      | some E=>match E.k with
       | .ptr e=>match aH T e with
        | some F=>∀V':Ó,V.Le V'->ae P f (aI (λ_=>0) xs) V' λr u=>∃b:Nat,exL (F.zero.map shC) λcs=>
          r=.pointer (some ⟨b,0,Option.none⟩)/\V'.w.heap.size<=b/\u.bh b (.cells (cs.map (C.den λ_=>0)).toArray e (0,0))/\K ((st.box d ⟨.lit cs,e⟩).put (some d) (.c (.ptr d 0))) (u.T7 b)
        | Option.none=>False
       | _=>False
      | Option.none=>False
    | _,_=>False
   | _=>∀V':Ó,V.Le V'->ae P f (aI (λ_=>0) xs) V' λr u=>sh.ex λx=>r=x.den (λ_=>0)/\K (st.put dst x) u
  | s::r=>match jG st.boxes (s::r) with
   | false=>False
   | true=>match m with
    | .none|.ko=>False
    | .give=>match dst,TZ T ty,pL xs,wB st.boxes (s::r) with
     | some d,some ety,[],[]=>match lN st Option.none d with
      | false=>False
      | true=>∀V':Ó,V.Le V'->nN (s::r) (λ_=>0) λβ=>kq st.boxes β V' (s::r)
       (ae P f (aI β xs) (V'.aw ((s::r).map (eJ st.boxes β V'.w.heap.size))) (cG T true sh (s::r) Option.none d ety β st V' K))
     | some d,some ety,[m],[]=>match IA st.boxes m ety with
      | true=>match lN st (some m) d with
       | false=>False
       | true=>∀V':Ó,V.Le V'->nN (s::r) (λ_=>0) λβ=>kq st.boxes β V' (s::r)
        (ae P f (aI β xs) (V'.aw ((s::r).map (eJ st.boxes β V'.w.heap.size))) (cG T true sh (s::r) (some m) d ety β st V' K))
      | false=>match lN (ef st (s::r) 0) Option.none d with
       | false=>False
       | true=>match (s::r).all λt=>Nat.blt t 100000 with
        | false=>False
        | true=>∀V':Ó,V.Le V'->nN (s::r) (λ_=>0) λβ=>uZ st.boxes β V' (s::r)
         (ae P f (aI β xs) V' (cG T true sh [] Option.none d ety (λ_=>0) (ef st (s::r) 0) V' K))
     | _,Option.none,_,_=>match (s::r).all λt=>Nat.blt t 100000 with
      | false=>False
      | true=>∀V':Ó,V.Le V'->nN (s::r) (λ_=>0) λβ=>uZ st.boxes β V' (s::r)
       (ae P f (aI β xs) V' λy u=>sh.ex λx=>y=x.den (λ_=>0)/\K ((ef st (s::r) 0).put dst x) u)
     | _,_,_,_=>False
    | .aw=>match wB st.boxes (s::r) with
     | []=>∀V':Ó,V.Le V'->nN (s::r) (λ_=>0) λβ=>kq st.boxes β V' (s::r)
      (ae P f (aI β xs) (V'.aw ((s::r).map (eJ st.boxes β V'.w.heap.size))) λy u=>sh.ex λx=>y=x.den (λ_=>0)/\fL T Option.none β u (s::r) st λz=>K (z.put dst x) u.shut)
     | [m]=>match dst,nQ st.boxes m with
      | some d,some ety=>match lN st (some m) d with
       | false=>False
       | true=>∀V':Ó,V.Le V'->nN (s::r) (λ_=>0) λβ=>kq st.boxes β V' (s::r)
        (ae P f (aI β xs) (V'.aw ((s::r).map (eJ st.boxes β V'.w.heap.size))) (cG T false sh (s::r) (some m) d ety β st V' K))
      | _,_=>False
     | _=>False
    | .rel=>match (s::r).all λt=>Nat.blt t 100000 with
     | false=>False
     | true=>∀V':Ó,V.Le V'->nN (s::r) (λ_=>0) λβ=>uZ st.boxes β V' (s::r)
      (ae P f (aI β xs) V' λy u=>sh.ex λx=>y=x.den (λ_=>0)/\∀J:C->Value,K ((st.rel (s::r) β J).put dst x) u)
def p_ (bx:Nat->Option aY):List SV->Option (List Value×Nat×List SV)
 | []=>none
 | x::r=>match x with
  | .c (.d_ s n c)=>match bx s with
   | some ⟨.aG vs,_⟩=>some (vs,c,.c (.v (.slice none n c))::r)
   | _=>none
  | x=>match p_ bx r with
   | some (vs,c,u)=>some (vs,c,x::u)
   | none=>none
def mc (P:Program)(T:dW)(m:CM)(f:FuncId)(xs:List SV)(ty:TypeId)(dst:Option Nat)(st:St)(V:Ó)(K:St->Ó->Prop):Prop:=
 match m with
 | .aw=>match p_ st.boxes xs with
  | some (vs,c,u)=>(vs=[]->c=0/\gY P T .aw f u ty dst st V K)/\(vs≠[]->gY P T .aw f xs ty dst st V K)
  | none=>gY P T .aw f xs ty dst st V K
 | m=>gY P T m f xs ty dst st V K
def B4 (ss:List Nat):List SV:=ss.map λs=>.c (.ptr s 0)
inductive û where
 | free|own (l:List Nat)
def nh (op:Op):List Operand:=
 match op with
 | .load _ a=>[a]
 | .store _ a _=>[a]
 | .call ⟨.value f,args,_⟩=>args.toList++[f]
 | .call ⟨.builtin .append,args,_⟩=>args.toList
 | _=>[]
def gW (bx:Nat->Option aY)(op:Op)(l:List Nat):List Nat:=
 match op with
 | .call _=>ð bx 3 (ó l)
 | _=>l
def NA (P:Program)(t:TypeId)(name:String):Option FuncId:=
 match P.info? t,P.underlying t with
 | some i,some d=>match i.methods.find? (λm=>m.name==name) with
  | some m=>match m.path.toList,m.func,d with
   | [],some (f,false),.struct _=>some f
   | _,_,_=>none
  | none=>none
 | _,_=>none
def dV (P:Program)(T:dW)(m:CM)(o:Oper)(st:St)(V:Ó)(K:St->Ó->Prop):Prop:=
 match o.op with
 | .call ⟨.value u,args,_⟩=>match cO st.bK args.toList with
  | some xs=>match st.bK u with
   | some (.c (.tK f ss))=>mc P T m f (xs++B4 ss) o.type o.dst st V K
   | some (.c (.WR f vs))=>mc P T .none f (.agg (vs.map .v)::xs) o.type o.dst st V K
   | _=>False
  | none=>False
 | .call ⟨.invoke recv name,args,_⟩=>match cO st.bK args.toList with
  | some xs=>match st.bK recv with
   | some (.c (.w (.iface t v)))=>match NA P t name with
    | some f=>mc P T m f (.c (.w v)::xs) o.type o.dst st V K
    | none=>False
   | _=>False
  | none=>False
 | op=>Ap (aT T st.bK st.boxes op) o.dst st V K
def dO (P:Program)(T:dW)(m:CM)(h:û)(o:Oper)(st:St)(V:Ó)(K:St->Ó->Prop):Prop:=
 match h with
 | .free=>dV P T m o st V K
 | .own l=>match cO st.bK (nh o.op) with
  | some xs=>match VN (gW st.boxes o.op (xs.flatMap SV.ids)) l with
   | true=>dV P T m o st V K
   | false=>False
  | none=>False
def l_:SV:=.xD []
def xg (P:Program)(T:dW)(m:CM)(h:û)(ops:Array Oper)(o:Oper)(st:St)(V:Ó)(K:St->Ó->Prop):Prop:=
 match o.guard with
 | none=>dO P T m h o st V K
 | some (j,b)=>match (ops[j]?).bind (·.dst) with
  | none=>False
  | some g=>match st.aA g with
   | some (.c .tt)=>match b with
    | true=>dO P T m h o st V K
    | false=>K (st.put o.dst l_) V
   | some (.c .ff)=>match b with
    | true=>K (st.put o.dst l_) V
    | false=>dO P T m h o st V K
   | some (.c (.v (.bool c)))=>match b with
    | true=>(c=true->dO P T m h o (st.put (some g) (.c .tt)) V K)/\(c=false->K ((st.put (some g) (.c .ff)).put o.dst l_) V)
    | false=>(c=true->K ((st.put (some g) (.c .tt)).put o.dst l_) V)/\(c=false->dO P T m h o (st.put (some g) (.c .ff)) V K)
   | some (.xD _)=>K (st.put o.dst l_) V
   | _=>False
inductive Cls where
 | pure|load|store|alloc|call|oD|odd|ko|app|give
def bG (LF RF:List Nat):Op->Cls
 | .move _|.assign _|.pick ..| .build ..| .nilCheck _|.binOp ..| .unOp ..| .convert ..| .makeFunc ..| .slice ..| .fieldAddr ..| .field ..| .indexAddr ..| .extract ..| .index ..| .makeInterface ..=>.pure
 | .load ..=>.load
 | .store ..=>.store
 | .alloc _|.box ..| .buildSlice ..| .makeSlice ..=>.alloc
 | .call ⟨.builtin .len,_,_⟩|.call ⟨.builtin .cap,_,_⟩=>.pure
 | .call ⟨.builtin .append,_,_⟩=>.app
 | .call ⟨.value (.func f),_,_⟩=>match iZ f LF with
  | true=>match iZ (f+1000000) LF with
   | true=>.give
   | false=>.oD
  | false=>match iZ f RF with
   | true=>.odd
   | false=>match iZ (f+1000000) RF with
    | true=>.ko
    | false=>.call
 | .call ⟨.value _,_,_⟩=>.oD
 | .call ⟨.invoke _ _,_,_⟩=>.call
 | _=>.odd
def kh (op:Op):List Nat:=op.operands.toList.filterMap λ|.tmp t=>some t|_=>none
def gE (ops:Array Oper)(o:Oper):List Nat:=
 match o.guard with
 | none=>[]
 | some (j,_)=>match (ops[j]?).bind (·.dst) with
  | some g=>[g]
  | none=>[]
def fI (o:Oper):List Nat:=match o.dst with|some d=>[d]|none=>[]
def wO (c:Cls)(h:û)(d:List Nat):Option (List Nat×List Nat):=
 match c,h with
 | .pure,.free=>some ([],[])
 | .call,.free=>some ([],[])
 | .alloc,.free=>some (d,d)
 | .load,.own l=>some (l,[])
 | .store,.own l=>some (l,l)
 | .oD,.own l=>some (l,l++d++d.map (·+ 200000))
 | .app,.own l=>some (l,l++d++d.map (·+ 200000))
 | .give,.own l=>some (l,l++d++d.map (·+ 200000))
 | _,_=>none
def rL:Cls->Bool
 | .pure|.load|.store|.alloc=>true
 | _=>false
def Ě (LF RF:List Nat)(ops:Array Oper)(F M:û)(u y:Oper):Bool:=
 rL (bG LF RF u.op) &&
 EE (fI u) (kh y.op++gE ops y++fI y)&&EE (fI y) (kh u.op++gE ops u) &&
 EE (gE ops u) (kh y.op)&&EE (gE ops y) (kh u.op) &&
 match wO (bG LF RF u.op) F (fI u),wO (bG LF RF y.op) M (fI y) with
 | some (N,z),some (O,E)=>EE z O&&EE E N&&EE z E
 | _,_=>false
def fstOf (ops:List Oper)(t:Nat):Option Oper:=ops.find? λo=>match o.dst with|some d=>Nat.beq d t|none=>false
def Df (st:St)(ops:List Oper):Nat->Operand->List Nat
 | 0,_=>[]
 | n+1,.tmp t=>match fstOf ops t with
  | some o=>match o.op with
   | .alloc _|.box ..| .buildSlice ..| .makeSlice ..=>[t]
   | .call _=>[t,t+200000]
   | .assign x=>Df st ops n x++match st.aA t with
    | some x=>x.ids
    | none=>[]
   | .load _ a=>(Df st ops n a).flatMap (oW st.boxes)
   | op=>op.operands.toList.flatMap (Df st ops n)
  | none=>match st.aA t with
   | some x=>x.ids
   | none=>[]
 | _,_=>[]
def T8 (LF RF:List Nat)(st:St)(ops:List Oper)(o:Oper):û:=
 match bG LF RF o.op with
 | .load|.store=>.own (ó ((nh o.op).flatMap (Df st ops 10)))
 | .oD|.app|.give=>.own (ð st.boxes 3 (ó ((nh o.op).flatMap (Df st ops 10))))
 | _=>.free
def SH (ops:List Oper):List Nat:=
 ops.foldl (λacc o=>acc++[o.after.toList.foldl (λs e=>cond (Region.binds .any e) (Nat.lor (Nat.lor (Nat.shiftLeft 1 e.on) (acc.getD e.on 0)) s) s) 0]) []
def bitB (m i:Nat):Bool:=Nat.beq (Nat.land (Nat.shiftRight m i) 1) 1
def XH (LF RF:List Nat)(o:Oper):Bool:=match bG LF RF o.op with|.call|.oD|.odd|.ko|.app|.give=>true|_=>false
def NW (ops:Array Oper)(done:List Nat)(i:Nat):Bool:=
 match ops[i]? with
 | some o=>!(iZ i done)&&o.after.toList.all λe=>!(Region.binds .any e)||iZ e.on done
 | none=>false
def IE (LF RF:List Nat)(ops:Array Oper):Nat->List Nat->List Nat
 | 0,_=>[]
 | n+1,done=>
  let rs:=(List.range ops.size).filter (NW ops done)
  match rs.find? (λi=>match ops[i]? with|some o=>!(XH LF RF o)|none=>false) with
  | some i=>i::IE LF RF ops n (i::done)
  | none=>match rs with
   | i::_=>i::IE LF RF ops n (i::done)
   | []=>[]
def vg (LF RF:List Nat)(ops:Array Oper):List Nat:=IE LF RF ops ops.size []
def Bj (LF RF:List Nat)(ops:Array Oper)(u:List û)(y:List Nat):List Nat->Bool
 | []=>true
 | i::r=>(r.all λj=>bitB (y.getD j 0) i||match ops[i]?,ops[j]? with|some a,some b=>Ě LF RF ops (u.getD i .free) (u.getD j .free) a b|_,_=>false)&&Bj LF RF ops u y r
def wG (ops:Array Oper):List Nat->List Nat->Bool
 | _,[]=>true
 | done,i::r=>NW ops done i&&wG ops (i::done) r
def PF (LF RF:List Nat)(ops:Array Oper)(u:List û)(l:List Nat):Bool:=
 Nat.beq l.length ops.size&&((List.range ops.size).all λi=>iZ i l)&&wG ops [] l&&Bj LF RF ops u (SH ops.toList) l
def V_ (P:Program)(T:dW)(m:Nat->CM)(hint:Nat->û)(ops:Array Oper):List Nat->St->Ó->(St->Ó->Prop)->Prop
 | [],st,V,K=>K st V
 | i::r,st,V,K=>match ops[i]? with
  | some o=>xg P T (m i) (hint i) ops o st V λu V'=>V_ P T m hint ops r u V' K
  | none=>False
def ni (LF RF:List Nat)(ops:Array Oper)(i:Nat):CM:=
 match ops[i]? with
 | some o=>match bG LF RF o.op with
  | .oD=>.aw
  | .odd=>.rel
  | .ko=>.ko
  | .give=>.give
  | _=>.none
 | Option.none=>.none
def modeN (LF RF:List Nat)(ops:Array Oper)(i:Nat):CM:=
 match ops[i]? with
 | some o=>match bG LF RF o.op with
  | .oD=>.aw
  | .ko=>.ko
  | .give=>.give
  | _=>.rel
 | Option.none=>.none
structure Tm where
 τ:Type
 gh:Bool:=false
 keep:List Nat
 keepB:List Nat
 aA:τ->List (Nat×SV)
 boxes:τ->List (Nat×aY)
structure Ann where
 τ:Type
 aA:τ->List (Nat×SV)
 boxes:τ->List (Nat×aY)
def Pn {α:Type}(f:Nat->Option α):List Nat->List (Nat×α)
 | []=>[]
 | t::r=>match f t with
  | some x=>(t,x)::Pn f r
  | none=>Pn f r
def Tm.at (A:Tm)(st:St):Ann:=⟨A.τ,λx=>Pn st.aA A.keep++A.aA x,λx=>Pn st.boxes A.keepB++A.boxes x⟩
def uP (ρ:List (Nat×Nat))(s s':Nat):Bool:=
 match aH ρ s' with
 | some t=>Nat.beq s t
 | none=>Nat.beq s s'
def Ga (ρ:List (Nat×Nat)):List Nat->List Nat->Bool
 | [],[]=>true
 | s::r,s'::u=>uP ρ s s'&&Ga ρ r u
 | _,_=>false
def eqC (ρ:List (Nat×Nat)):C->C->List Prop
 | .v (.int k a),.v (.int k' b)=>cond (Cu k k') [a=b] [False]
 | .v (.bool a),.v (.bool b)=>[a=b]
 | .tt,.v (.bool b)=>[true=b]
 | .ff,.v (.bool b)=>[false=b]
 | .v (.slice a n c),.v (.slice E n' u)=>[a=E,n=n',c=u]
 | .v (.slice a n c),.d_ _ n' u=>[a=none,n=n',c=u,c=0]
 | .v (.pointer p),.v (.pointer q)=>[p=q]
 | .v x,.v y=>[x=y]
 | .w x,.w y=>[x=y]
 | .w x,.v y=>[x=y]
 | .v x,.w y=>[x=y]
 | .tt,.tt=>[]
 | .ff,.ff=>[]
 | .ptr s o,.ptr s' z=>cond (uP ρ s s') [o=z] [False]
 | .mS s o n c,.mS s' z n' u=>cond (uP ρ s s') [o=z,n=n',c=u] [False]
 | .mS s o n c,.d_ s' n' u=>cond (uP ρ s s') [o=0,n=n',c=u,c≠0] [False]
 | .d_ s n c,.d_ s' n' u=>cond (uP ρ s s') [n=n',c=u] [False]
 | .tK f ss,.tK g ts=>cond (Ga ρ ss ts) [f=g] [False]
 | .WR f vs,.WR g ws=>[f=g,vs=ws]
 | _,_=>[False]
def M8 (ρ:List (Nat×Nat)):List C->List C->List Prop
 | [],[]=>[]
 | a::r,b::s=>eqC ρ a b++M8 ρ r s
 | _,_=>[False]
def eqSV (ρ:List (Nat×Nat)):SV->SV->List Prop
 | .c a,.c b=>eqC ρ a b
 | .agg l,.agg m=>M8 ρ l m
 | _,_=>[False]
def SV.plain:SV->Bool
 | .xD _=>false
 | _=>true
def TN (ρ:List (Nat×Nat))(a b:aY):List Prop:=
 match a.cs,b.cs with
 | .lit l,.lit m=>cond (Nat.beq a.ty b.ty) (M8 ρ l m) [False]
 | .row l,.row m=>cond (Nat.beq a.ty b.ty) [l=m] [False]
 | .aG l,.aG m=>cond (Nat.beq a.ty b.ty) [l=m] [False]
 | .row l,.aG m=>cond (Nat.beq a.ty b.ty) [l=m] [False]
 | .lit l,.aG m=>match mT l with
  | some ws=>cond (Nat.beq a.ty b.ty) [ws=m] [False]
  | none=>[False]
 | .lit l,.row m=>match mT l with
  | some ws=>cond (Nat.beq a.ty b.ty) [ws=m] [False]
  | none=>[False]
 | _,_=>[False]
def renC:C->C->List (Nat×Nat)
 | .ptr s _,.ptr s' _=>[(s',s)]
 | .mS s _ _ _,.mS s' _ _ _=>[(s',s)]
 | .mS s _ _ _,.d_ s' _ _=>[(s',s)]
 | .d_ s _ _,.d_ s' _ _=>[(s',s)]
 | .tK _ ss,.tK _ ts=>ts.zip ss
 | _,_=>[]
def Vo:List C->List C->List (Nat×Nat)
 | a::r,b::s=>renC a b++Vo r s
 | _,_=>[]
def renSV:SV->SV->List (Nat×Nat)
 | .c a,.c b=>renC a b
 | .agg l,.agg m=>Vo l m
 | _,_=>[]
def renS (st:St):List (Nat×SV)->List (Nat×Nat)
 | []=>[]
 | (t,x)::r=>match st.aA t with
  | some y=>renSV y x++renS st r
  | none=>renS st r
def R4 (st:St)(ρ:List (Nat×Nat)):List (Nat×aY)->List (Nat×Nat)
 | []=>[]
 | (t,x)::r=>match aH ρ t with
  | some s=>match st.boxes s with
   | some y=>(match y.cs,x.cs with|.lit l,.lit m=>Vo l m|_,_=>[])++R4 st ρ r
   | none=>R4 st ρ r
  | none=>R4 st ρ r
def Vn (st:St)(ss:List (Nat×SV))(u:List (Nat×aY)):List (Nat×Nat):=
 let ρ1:=renS st ss
 let ρ2:=ρ1++R4 st ρ1 u
 let ρ3:=ρ2++R4 st ρ2 u
 ρ3++R4 st ρ3 u
def La (ρ:List (Nat×Nat))(t:Nat):Nat:=
 match aH ρ t with
 | some s=>s
 | none=>t
def GD (ρ:List (Nat×Nat)):List Nat->Bool
 | []=>true
 | t::r=>(Nat.blt t 100000==Nat.blt (La ρ t) 100000)&&(Nat.blt t 100000||Nat.ble 200000 t||Nat.beq (La ρ t) t)&&(r.all λu=>!(Nat.beq (La ρ t) (La ρ u)))&&GD ρ r
def rO (ρ:List (Nat×Nat)):List (Nat×aY)->List Nat
 | []=>[]
 | (t,x)::r=>match x.cs with
  | .aG _=>match aH ρ t with
   | some _=>t::rO ρ r
   | none=>rO ρ r
  | _=>t::rO ρ r
def Xk (ρ:List (Nat×Nat))(st:St):List (Nat×SV)->List Prop
 | []=>[]
 | (t,x)::r=>match st.aA t with
  | some y=>eqSV ρ y x++Xk ρ st r
  | none=>[False]
def QZ (ρ:List (Nat×Nat))(st:St):List (Nat×aY)->List Prop
 | []=>[]
 | (t,x)::r=>match x.cs,aH ρ t with
  | .aG l,none=>(l=[])::QZ ρ st r
  | _,_=>match st.boxes (La ρ t) with
   | some y=>TN ρ y x++QZ ρ st r
   | none=>[False]
def fitR (ρ:List (Nat×Nat))(u:List (Nat×aY)):List Prop:=cond (GD ρ (rO ρ u)) [] [False]
def rZ (ss:List (Nat×SV))(u:List (Nat×aY)):Bool:=
 let l:=u.map (·.1)
 (ss.all λx=>x.2.ids.all λs=>iZ s l)&&(u.all λx=>x.2.cs.ids.all λs=>iZ s l)
def Ann.st (A:Ann)(x:A.τ):St:=⟨aH (A.aA x),aH (A.boxes x)⟩
def allL:List Prop->Prop
 | []=>True
 | [p]=>p
 | p::r=>p/\allL r
def Ann.fits (A:Ann)(st:St)(x:A.τ)(k:Prop):Prop:=
 let ρ:=Vn st (A.aA x) (A.boxes x)
 allL (Xk ρ st (A.aA x)++QZ ρ st (A.boxes x)++fitR ρ (A.boxes x))/\k
def ę:Code->Nat
 | .region id _ _=>id
 | .seq a _=>ę a
 | .cond _ a b=>match ę a with
  | 1000000=>ę b
  | n=>n
 | .block _ a=>ę a
 | .loop a=>ę a
 | .scope a=>ę a
 | _=>1000000
abbrev Jp:=List (Nat×Tm)
def vC:Jp->Nat->Option Tm
 | [],_=>none
 | (s,x)::r,t=>cond (Nat.beq t s) (some x) (vC r t)
def ZQ (RF:List Nat)(id:Nat):List Nat:=RF.filterMap λx=>cond (Nat.beq (x/100000) (100+id)) (some (x%100000)) none
def Qj (l:List Nat)(st:St)(V:Ó)(K:St->Ó->Prop):Prop:=
 match l with
 | []=>K st V
 | s::r=>match jG st.boxes (s::r)&&(s::r).all λt=>Nat.blt t 100000 with
  | false=>False
  | true=>∀V':Ó,V.Le V'->nN (s::r) (λ_=>0) λβ=>uZ st.boxes β V' (s::r) (∀J:C->Value,K (st.rel (s::r) β J) V')
def LC (P:Program)(T:dW)(LF RF:List Nat)(ops:Array Oper)(draw:Bool)(st:St)(V:Ó)(K:St->Ó->Prop):Prop:=
 match draw with
 | false=>V_ P T (modeN LF RF ops) (λ_=>.free) ops (List.range ops.size) st V K
 | true=>let u:=ops.toList.map (T8 LF RF st ops.toList)
  match PF LF RF ops u (vg LF RF ops) with
  | true=>V_ P T (ni LF RF ops) (λi=>u.getD i .free) ops (vg LF RF ops) st V K
  | false=>False
def unr (F:St->Ó->(Exit->St->Ó->Prop)->Prop):Nat->St->Ó->(Exit->St->Ó->Prop)->Prop
 | 0,_,_,_=>False
 | n+1,st,V,K=>F st V λe u V'=>match e with
  | .normal=>unr F n u V' K
  | e=>K e u V'
def vc (P:Program)(T:dW)(LF RF:List Nat)(L J:Jp):Code->St->Ó->(Exit->St->Ó->Prop)->Prop
 | .skip,st,V,K=>K .normal st V
 | .region id ops draw,st,V,K=>match vC J (600000+id) with
  | none=>Qj (ZQ RF id) st V λu V'=>LC P T LF RF ops draw u V' (K .normal)
  | some A=>∃I:A.τ->Ó->Prop,Qj (ZQ RF id) st V (λu V'=>LC P T LF RF ops draw u V' λE z=>∃x,(A.at st).fits E x (I x z)) /\
   ∀x V',V.Le V'->I x V'->(rZ ((A.at st).aA x) ((A.at st).boxes x)=true/\K .normal ((A.at st).st x) V')
 | .seq a b,st,V,K=>vc P T LF RF L J a st V λe u V'=>match e with
  | .normal=>vc P T LF RF L J b u V' K
  | e=>K e u V'
 | .cond c a b,st,V,K=>match vC J (ę (.cond c a b)) with
  | none=>match st.bK c with
   | some (.c .tt)=>vc P T LF RF L J a st V K
   | some (.c .ff)=>vc P T LF RF L J b st V K
   | some (.c (.v (.bool t)))=>(t=true->vc P T LF RF L J a st V K)/\(t=false->vc P T LF RF L J b st V K)
   | _=>False
  | some A=>match st.bK c with
   | some (.c .tt)=>vc P T LF RF L J a st V K
   | some (.c .ff)=>vc P T LF RF L J b st V K
   | some (.c (.v (.bool t)))=>∃I:A.τ->Ó->Prop,
    ((t=true->vc P T LF RF L J a st V λe u V'=>match e with
     | .normal=>∃x,(A.at st).fits u x (I x V')
     | e=>K e u V') /\
      (t=false->vc P T LF RF L J b st V λe u V'=>match e with
     | .normal=>∃x,(A.at st).fits u x (I x V')
     | e=>K e u V')) /\
    ∀x V',V.Le V'->I x V'->(rZ ((A.at st).aA x) ((A.at st).boxes x)=true/\K .normal ((A.at st).st x) V')
   | _=>False
 | .block id a,st,V,K=>match vC J (500000+id) with
  | none=>vc P T LF RF L J a st V λe u V'=>match e with
   | .exit i=>cond (Nat.beq i id) (K .normal u V') (K (.exit i) u V')
   | e=>K e u V'
  | some A=>∃I:A.τ->Ó->Prop,vc P T LF RF L J a st V (λe u V'=>match e with
   | .exit i=>cond (Nat.beq i id) (∃x,(A.at st).fits u x (I x V')) (K (.exit i) u V')
   | .normal=>∃x,(A.at st).fits u x (I x V')
   | e=>K e u V')/\∀x V',V.Le V'->I x V'->(rZ ((A.at st).aA x) ((A.at st).boxes x)=true/\K .normal ((A.at st).st x) V')
 | .loop a,st,V,K=>match vC L (ę a) with
  | none=>unr (λst V K=>vc P T LF RF L J a st V K) 3 st V K
  | some A=>match A.gh with
   | false=>∃(I:A.τ->Ó->Prop)(m:A.τ->Nat),(∃x,(A.at st).fits st x (I x V))/\∀x V',V.Le V'->I x V'->(rZ ((A.at st).aA x) ((A.at st).boxes x)=true /\
    vc P T LF RF L J a ((A.at st).st x) V' λe u z=>match e with
     | .normal=>∃y,m y<m x/\(A.at st).fits u y (I y z)
     | e=>K e u z)
   | true=>∃I:A.τ->Nat->Ó->Prop,(∃x k,(A.at st).fits st x (I x k V))/\∀x k V',V.Le V'->I x k V'->(rZ ((A.at st).aA x) ((A.at st).boxes x)=true /\
    vc P T LF RF L J a ((A.at st).st x) V' λe u z=>match e with
     | .normal=>∃y k',k'<k/\(A.at st).fits u y (I y k' z)
     | e=>K e u z)
 | .exit id,st,V,K=>K (.exit id) st V
 | .ret,st,V,K=>K .ret st V
 | .scope a,st,V,K=>vc P T LF RF L J a st V λe u V'=>match e with
  | .goto _=>False
  | e=>K e u V'
 | .label _,st,V,K=>K .normal st V
 | _,_,_,_=>False
def pY (T:dW)(st:St):List ResultVar->Option (List SV)
 | []=>some []
 | .tmp t::r=>match st.aA t,pY T st r with
  | some x,some l=>some (x::l)
  | _,_=>none
 | .cell a t::r=>match st.aA a,aH T t,pY T st r with
  | some (.c (.ptr s o)),some i,some l=>match lS st.boxes i (.c (.ptr s o)) with
   | .ret _ x=>some (x::l)
   | _=>none
  | _,_,_=>none
def þ (l m:List Nat):List Nat:=l.filter λx=>!(iZ x m)
def SZ (bx:Nat->Option aY)(β:Nat->Nat)(V:Ó):List Nat->Prop->Prop
 | [],k=>k
 | s::r,k=>match bx s with
  | some ⟨.aG _,_⟩=>False
  | some b=>V.w.heap[β s]?=some (b.obj β)->SZ bx β V r k
  | none=>False
def mj:List (Nat×aY)->List Nat
 | []=>[]
 | (s,b)::r=>match b.cs with
  | .aG _=>mj r
  | _=>s::mj r
def Uz (u:List (Nat×aY))(β0:Nat->Nat)(b:Nat)(k:Prop):Prop:=
 match u with
 | []=>k
 | (m,x)::r=>match x.cs with
  | .aG vs=>(vs≠[]/\b=β0 m)\/Uz r β0 b k
  | _=>Uz r β0 b k
def pX (β:Nat->Nat):List SV->Value
 | [x]=>x.den β
 | l=>.tuple (l.map (SV.den β)).toArray
def zN (T:dW)(bx:Nat->Option aY)(s:Nat):Bool:=
 cond (Nat.ble 100000 s) true (match bx s with|some ⟨.row _,ty⟩|some ⟨.aG _,ty⟩=>Nat.ble 2 (T.filter λx=>Nat.beq x.1 ty).length|some ⟨.lit _,ty⟩=>Nat.ble 3 (T.filter λx=>Nat.beq x.1 ty).length|_=>false)
def PR (T:dW)(rs:List ResultVar)(u:List (Nat×aY))(β0:Nat->Nat)(y:Nat)(R:Value->Ó->Prop)(st:St)(V:Ó):Prop:=
 match pY T st rs with
 | none=>False
 | some xs=>let F:=mj u
  let L:=ð st.boxes 3 (ó (xs.flatMap SV.ids++F))
  match jG st.boxes L with
  | false=>False
  | true=>match (þ L F).filter (zN T st.boxes) with
   | []=>∀V':Ó,V.Le V'->nN (þ L F) β0 λβ=>SZ st.boxes β V' F (uZ st.boxes β V' (þ L F) (R (pX β xs) V'))
   | [s]=>match st.boxes s with
    | some b=>∀V':Ó,nN (þ L F) β0 λβ=>V.Le (V'.bf (gdP b) (β s))->SZ st.boxes β V' F (wc (So b) (V'.w.heap[β s]?=some (b.obj β)) ->
      wc (So b) (y<=β s\/Uz u β0 (β s) False)->uZ st.boxes β V' ((þ L F).filter (!Nat.beq s ·)) (R (pX β xs) V'))
    | none=>False
   | _=>False
def vcFn (P:Program)(T:dW)(LF RF:List Nat)(L J:Jp)(code:Code)(rs:List ResultVar)(ss:List (Nat×SV))(u:List (Nat×aY))(β0:Nat->Nat)(V:Ó)(R:Value->Ó->Prop):Prop:=
 vc P T LF RF L J code ⟨aH ss,aH u⟩ V λe st V'=>match e with
  | .normal=>PR T rs u β0 V.w.heap.size R st V'
  | .ret=>PR T rs u β0 V.w.heap.size R st V'
  | _=>False
def j_ (n:Nat):Code->Bool
 | .region _ ops _=>ops.toList.all λo=>match o.dst with|some d=>Nat.blt d n|none=>true
 | .seq a b=>j_ n a&&j_ n b
 | .cond _ a b=>j_ n a&&j_ n b
 | .block _ a=>j_ n a
 | .loop a=>j_ n a
 | .scope a=>j_ n a
 | _=>true
def tE:Nat->List (Nat×SV)->Bool
 | _,[]=>true
 | i,(j,x)::r=>Nat.beq i j&&x.plain&&tE (i+1) r
def IQ (P:Program)(T:dW)(LF RF:List Nat)(L J:Jp)(fn:Func)(ss:List (Nat×SV))(u:List (Nat×aY))(β0:Nat->Nat)(V:Ó)(R:Value->Ó->Prop):Prop:=
 match fn.body with
 | some code=>match j_ fn.ntmps code&&tE 0 ss&&Nat.ble ss.length fn.ntmps&&Nat.ble fn.ntmps 100000&&(u.all λb=>Nat.ble 100000 b.1&&Nat.blt b.1 200000)&&rZ ss u with
  | true=>vcFn P T LF RF L J code fn.results.toList ss u β0 V R
  | false=>False
 | none=>False
theorem Ó.Le.refl (V:un):V.Le V:=λ_ _ h=>h
def Ó.Le.m {u:un}(h:V.Le V')(k:V'.Le u):V.Le u:=λb o x=>k b o (h b o x)
def leLd {u:zA Nat}(h:V.Le V'):V.Le (V'.aw u):=h
def leSh (h:V.Le V'):V.Le V'.shut:=h
def ax (h:V.Le V':=by with_reducible repeat first|assumption|exact Ó.Le.refl _|apply leLd|apply leSh|refine Ó.Le.m ?_ ξ):V.Le V':=h
def ra {p:Prop}(h:p:=by first|exact .le (by with_reducible assumption) ax|exact .le (by with_reducible assumption) ax λ_ _ g=>.le g ax):p:=h
def Ó.Le.at (h:V.Le V'){p:Addr}{v:um}(k:V.at p v):V'.at p v:=by obtain ⟨b,a⟩:=k;unfold World.cell? at a;split at a;{rename_i c;have ⟨d,e⟩:=h p.block _ ⟨b,c⟩;refine ⟨d,?_⟩<;>grind [World.cell?]};{cases a}
def kv.refl (X:Nat->Prop)(w):kv X w w:=⟨Ù _,λ_ _ _=>rfl,rfl,rfl,rfl,Ù _⟩
def kv.m {X:Nat->Prop}{a b c:World}(h:kv X a b)(k:kv X b c):kv X a c:=
 ⟨Ą h.size k.size,λi d e=>(k.bh i (ľ d h.size) e).m (h.bh i d e),k.os.m h.os,k.tape.m h.tape,k.out.m h.out,Ą h.dr k.dr⟩
def kv.s {X Y:Nat->Prop}{a b:World}(h:kv X a b)(hxy:∀i,X i->Y i):kv Y a b:=
 ⟨h.size,λi c d=>h.bh i c λe=>d (hxy i e),h.os,h.tape,h.out,h.dr⟩
def Ó.Ul (V:un)(w':World)(u:kv V.X V.w w'):V.Le (V.to w' u.size):=by rintro b o ⟨a,d⟩;refine ⟨a,?_⟩;have c:b<V.w.heap.size:=χ;show w'.heap[b]?=some o;grind [u.bh,V.hX]
def ae.s {P:Program}{f:FuncId}{args:Array um}{R u:um->un->Prop}(h:ae P f args V R)(y:∀r V',V.Le V'->R r V'->u r V'):ae P f args V u:=
 ⟨h.1,h.2.s λ_ b ⟨r,he,a,c⟩=>⟨r,he,a,y r _ (V.Ul b a) c⟩⟩
structure Mw where
 ids:List Nat
 B:Nat->Prop
section
variable (n:Nat) (V0:Ó) (bQ:Mw) (β0:Nat->Nat)
structure Þ (st:St) (β:Nat->Nat) (a:Act) (w:World) (V:Ó):Prop where
 defers:a.defers=[]
 size:a.tmps.size=n
 aA:∀t x,st.aA t=some x->a.tmps.getD t undef=x.den β
 Eh:∀t x,st.aA t=some x->∀s∈x.ids,∃b,st.boxes s=some b
 Eg:∀s b,st.boxes s=some b->∀s'∈b.cs.ids,∃b',st.boxes s'=some b'
 boxes:∀s b,st.boxes s=some b->b.live->w.heap[β s]?=some (b.obj β)
 inj:∀s s' b b',st.boxes s=some b->b.live->st.boxes s'=some b'->b'.live->β s=β s'->s=s'
 tJ:∀b o,V.bh b o->w.heap[b]?=some o/\¬V0.H b
 Af:∀s b,st.boxes s=some b->b.live->∀o,¬V.bh (β s) o
 ext:kv V0.X V0.w w
 own:∀s b,st.boxes s=some b->b.live->V0.w.heap.size<=β s\/(100000<=s/\bQ.B (β s))
 oV:∀s∈bQ.ids,(100000<=s/\s<200000)/\β s=β0 s
 mY:∀b,bQ.B b->V0.X b
 small:n<=100000
end
theorem dI {cs}{ty:TypeId}:aY.live ⟨.lit cs,ty⟩:=λ_ h=>nomatch h
theorem dJ {vs}{ty:TypeId}:aY.live ⟨.row vs,ty⟩:=λ_ h=>nomatch h
theorem f_ {vs}{ty:TypeId}(h:vs≠[]):aY.live ⟨.aG vs,ty⟩:=λ_ e=>by cases e;exact h
theorem fM {ty:TypeId}:¬aY.live ⟨.aG [],ty⟩:=λh=>h [] rfl rfl
theorem kK {b}{k:Prop}:wc (So b) k↔(b.live->k):=by obtain ⟨cs,ty⟩:=b;(cases cs with|lit cs=>exact ⟨λh _=>h,λh=>h dI⟩|row cs=>exact ⟨λh _=>h,λh=>h dJ⟩|aG vs=>exact ⟨λh l=>h (l vs rfl),λh l=>h (f_ l)⟩)
theorem zy {l m:zA Prop}{k:Prop}:wc (l++m) k↔wc l (wc m k):=by
 induction l with
 | nil=>exact Wv7
 | cons p r u=>exact ⟨λh a=>u.1 (h a),λh a=>u.2 (h a)⟩
def Xq {b:aY}:gdP b↔b.live:=by obtain ⟨cs,ty⟩:=b;(cases cs with|lit cs=>exact ⟨λ_=>dI,λ_=>trivial⟩|row cs=>exact ⟨λ_=>dJ,λ_=>trivial⟩|aG vs=>exact ⟨λh=>f_ h,λl=>l vs rfl⟩)
def C.bW {β β'}{c:C}(h:∀s∈c.ids,β s=β' s):c.den β=c.den β':=by
 cases c with
 | v x=>rfl
 | w x=>rfl
 | tt=>rfl
 | ff=>rfl
 | ptr s o=>simp [C.den,h s (by simp [C.ids])]
 | mS s o n c=>simp [C.den,h s (by simp [C.ids])]
 | d_ s n c=>simp [C.den,h s (by simp [C.ids])]
 | tK f ss=>
  have:(ss.map λs=>Value.pointer (some ⟨β s,0,none⟩))=ss.map λs=>Value.pointer (some ⟨β' s,0,none⟩):=
   Ŗ λs a=>by rw [h s (by simpa [C.ids] using a)]
  simp only [C.den,this]
 | WR f vs=>rfl
def FM {β:Nat->Nat}:∀{cs:zA C} {vs:zA um},OY cs=some vs->cs.map (C.den β)=vs
 | [],_,h=>by cases h;rfl
 | .v x::r,vs,h=>by
  unfold OY at h;split at h
  ·rename_i l u;cases h;rw [ĺ,FM u];rfl
  ·cases h
theorem pI {β β'}{cs:zA C}(h:∀s∈cs.flatMap C.ids,β s=β' s):cs.map (C.den β)=cs.map (C.den β'):=
 Ŗ λc a=>C.bW λs b=>h s (ċ.2 ⟨c,a,b⟩)
def EC {β β':Nat->Nat}{x:ut×zA C}(h:∀s∈x.2.flatMap C.ids,β s=β' s):kG β x=kG β' x:=by
 obtain ⟨b,cs⟩:=x
 cases b with
 | true=>simp only [kG];rw [pI h]
 | false=>
  match cs,h with
  | [],_=>rfl
  | [c],h=>simp only [kG];exact C.bW λs a=>h s (by simpa using a)
  | _::_::_,_=>rfl
theorem SV.bW {β β'}{x:SV}(h:∀s∈x.ids,β s=β' s):x.den β=x.den β':=by (cases x with|c x=>exact C.bW h|agg cs=>{simp only [SV.den];rw [pI h]}|xD xs=>{simp only [SV.den];congr 2;exact Ŗ λx a=>EC λs b=>h s (ċ.2 ⟨x,a,b⟩)})
def è.bW {β β'}{x:è}(h:∀s∈x.ids,β s=β' s):x.den β=x.den β':=by (cases x with|lit cs=>exact pI h|row vs=>rfl|aG vs=>rfl)
theorem aY.dF {β β'}{x:aY}(h:∀s∈x.cs.ids,β s=β' s):x.obj β=x.obj β':=by simp only [aY.obj];rw [è.bW h]
variable {P:Program} {T:dW} {n:Nat} {V0:Ó} {bQ:Mw} {β0:Nat->Nat} {st:St} {β:Nat->Nat} {a:Act} {w:World} {V:Ó}
def Þ.eval (h:Þ n V0 bQ β0 st β a w V){x v}(u:st.bK x=some v):a.eval x=v.den β:=by
 cases x with
 | tmp t=>exact h.aA t v u
 | const c=>
  simp only [St.bK,ā] at u;subst u;simp only [Act.eval];unfold SV.ofConst;split
  ·rfl
  ·rfl
  ·rename_i cs;simp only [SV.den];congr 1
   have:∀l:zA um,(l.map C.ofConst).map (C.den β)=l:=by
    intro l
    induction l with
    | nil=>rfl
    | cons y r z=>
     simp only [ĺ,z];congr 1;unfold C.ofConst;split<;>rfl
   rw [this]
  ·rfl
 | global g=>simp only [St.bK,ā] at u;subst u;rfl
 | func f=>simp only [St.bK,ā] at u;subst u;simp [Act.eval,SV.den,C.den]
def Þ.live (h:Þ n V0 bQ β0 st β a w V){x:Operand}{v:SV}(u:st.bK x=some v):∀s∈v.ids,∃b,st.boxes s=some b:=by (cases x with|const c=>{simp only [St.bK,ā] at u;subst u;intro s d;exfalso;have e:∀y,(C.ofConst y).ids=[]:=by{intro y;unfold C.ofConst;split<;>rfl};unfold SV.ofConst at d;grind [SV.ids,C.ids]}|_=>grind [h.Eh,St.bK,SV.ids,C.ids])
def beq_eq {a b:Nat}:Nat.beq a b=true↔a=b:=by constructor;{exact Nat.eq_of_beq_eq_true};{intro h;subst h;exact Qb7 a}
theorem eF (st:St)(d x t):(st.put (some d) x).aA t=if t=d then some x else st.aA t:=by grind [St.put,Nat.beq_refl,beq_eq.1]
theorem ao (st:St)(s b t):(st.box s b).boxes t=if t=s then some b else st.boxes t:=by grind [St.box,Nat.beq_refl,beq_eq.1]
def vZ (l:Array um)(d t:Nat)(v:um)(u:d<l.size):(l.setIfInBounds d v).getD t undef=if t=d then v else l.getD t undef:=by by_cases h:t=d;{subst h;simp [u]};{simp [h,Ne.symm h]}
def Þ.put (h:Þ n V0 bQ β0 st β a w V){d x v}(u:d<n)(E:v=x.den β)(z:∀s∈x.ids,∃b,st.boxes s=some b):Þ n V0 bQ β0 (st.put (some d) x) β (a.put (some d) v) w V where
 defers:=h.defers
 size:=by simp [Act.put,h.size]
 aA:=by
  intro t y c;rw [eF] at c;show (a.tmps.setIfInBounds d v).getD t undef=_;rw [vZ _ _ _ _ (by rw [h.size];exact u)];grind [h.aA]
 Eh:=by intro t y c;rw [eF] at c;split at c;{simp only [ā] at c;rw [<-c];exact z};{exact h.Eh t y c}
 Eg:=h.Eg
 boxes:=h.boxes
 inj:=h.inj
 tJ:=h.tJ
 Af:=h.Af
 ext:=h.ext
 own:=h.own
 oV:=h.oV
 mY:=h.mY
 small:=h.small
def Þ.K0 (h:Þ n V0 bQ β0 st β a w V){d:Option Nat}{x:SV}{v:um}(u:∀k,d=some k->k<n)(y:v=x.den β)(z:∀s∈x.ids,∃b,st.boxes s=some b):Þ n V0 bQ β0 (st.put d x) β (a.put d v) w V:=by (cases d with|none=>exact h|some d=>exact h.put (u d rfl) y z)
def Þ.drew (h:Þ n V0 bQ β0 st β a w V):Þ n V0 bQ β0 st β a { w with drawn:=w.drawn+1 } V:=
 ⟨h.defers,h.size,h.aA,h.Eh,h.Eg,h.boxes,h.inj,h.tJ,h.Af,⟨h.ext.size,h.ext.bh,h.ext.os,h.ext.tape,h.ext.out,Nat.le_succ_of_le h.ext.dr⟩,h.own,h.oV,h.mY,h.small⟩
def aK {w:World}{b:Nat}{o:Obj}(h:w.heap[b]?=some o):b<w.heap.size:=χ
theorem eY (w:World)(o){b:Nat}(h:b<w.heap.size):(w.alloc o).heap[b]?=w.heap[b]?:=by show (w.heap.push o)[b]?=_;grind
def heap_alloc_new (w:World)(o:Obj):(w.alloc o).heap[w.heap.size]?=some o:=by show (w.heap.push o)[w.heap.size]?=_;rw [Array.getElem?_push,Ä rfl]
theorem a_ (β s b):cJ β s b s=b:=by simp [cJ,Qb7]
theorem iU (β){s t}(b)(h:t≠s):cJ β s b t=β t:=by have:Nat.beq t s=false:=by{grind [beq_eq.1]};simp [cJ,this]
def Þ.new (h:Þ n V0 bQ β0 st β a w V){d:Nat}{b:aY}(F:d<n)(E:st.boxes d=none)(M:∀s∈b.cs.ids,∃b',st.boxes s=some b'):Þ n V0 bQ β0 (st.box d b) (cJ β d w.heap.size) a (w.alloc (b.obj β)) V:=by have r:∀s b',st.boxes s=some b'->s≠d:=λs b' c e=>by{rw [e,E] at c;cases c};have hβ:∀s b',st.boxes s=some b'->cJ β d w.heap.size s=β s:=λs b' c=>iU _ _ (r s b' c);have f:∀s b',st.boxes s=some b'->b'.live->β s<w.heap.size:=λs b' c l=>aK (h.boxes s b' c l);have y:∀b' o,V.bh b' o->b'<w.heap.size:=λb' o z=>aK (h.tJ b' o z).1;refine ⟨h.defers,h.size,?_,?_,?_,?_,?_,?_,?_,?_,?_,?_,h.mY,?_⟩;{intro t x m;rw [h.aA t x m];exact SV.bW λs c=>by{have ⟨b',g⟩:=h.Eh t x m s c;exact (hβ s b' g).symm}};{intro t x m s c;have ⟨b',g⟩:=h.Eh t x m s c;grind [ao]};{grind [ao,h.Eg]};{intro s b' c l;rw [ao] at c;split at c;{rename_i e;simp only [ā] at c;rw [e,a_,heap_alloc_new,<-c];grind [aY.dF]};{rw [hβ s b' c,eY _ _ (f s b' c l),h.boxes s b' c l];grind [aY.dF,h.Eg]}};{intro s u b1 b2 j A k B he;rw [ao] at j k;split at j<;>split at k;{rename_i p q;rw [p,q]};{rename_i p q;rw [p,a_,hβ u b2 k] at he;have:=f u b2 k B;omega};{rename_i p q;rw [q,a_,hβ s b1 j] at he;have:=f s b1 j A;omega};grind [h.inj]};{grind [h.tJ,eY]};{intro s b' c l o v;rw [ao] at c;split at c;{rename_i e;rw [e,a_] at v;have:=y _ o v;omega};grind [h.Af]};{exact h.ext.m ⟨ψ,λi C _=>eY _ _ C,rfl,rfl,rfl,Ù _⟩};{intro s b' c l;rw [ao] at c;split at c;{rename_i e;rw [e,a_];exact .inl h.ext.size};{rw [hβ s b' c];exact h.own s b' c l}};{intro s c;have ⟨j,k⟩:=h.oV s c;grind [iU,h.small]};{exact h.small}
def Þ.void (h:Þ n V0 bQ β0 st β a w V){s:Nat}{ty:TypeId}:Þ n V0 bQ β0 (st.box s ⟨.aG [],ty⟩) β a w V:=by have hw:∀t b,st.boxes t=some b->∃u,(st.box s ⟨.aG [],ty⟩).boxes t=some u:=by{grind [ao]};have e:∀t b,(st.box s ⟨.aG [],ty⟩).boxes t=some b->b.live->st.boxes t=some b:=by{grind [ao,fM]};refine ⟨h.defers,h.size,h.aA,?_,?_,λt b c l=>h.boxes t b (e t b c l) l,λt k b1 b2 m i o j=>h.inj t k b1 b2 (e _ _ m i) i (e _ _ o j) j,h.tJ,λt b c l=>h.Af t b (e t b c l) l,h.ext,λt b c l=>h.own t b (e t b c l) l,h.oV,h.mY,h.small⟩;{intro t x p f d;have ⟨b,g⟩:=h.Eh t x p f d;exact hw f b g};{intro t b c f d;have:∃u,st.boxes f=some u:=by{rw [ao] at c;split at c;{cases c;cases d};grind [h.Eg]};grind}
def Þ.Ao (h:Þ n V0 bQ β0 st β a w V){s:Nat}{b b':aY}(z:st.boxes s=some b)(lb:b.live)(M:∀s'∈b'.cs.ids,∃y,st.boxes s'=some y){w':World}(hw:w'.heap=w.heap.setIfInBounds (β s) (b'.obj β))(E:w'.os=w.os)(F:w'.tape=w.tape)(hout:w'.output=w.output)(hdr:w.drawn<=w'.drawn:=by first|exact Ù _|exact Ww9 _):Þ n V0 bQ β0 (st.box s b') β a w' V:=by have j:=aK (h.boxes s b z lb);have l:∀i,w'.heap[i]?=if i=β s then some (b'.obj β) else w.heap[i]?:=χ;refine ⟨h.defers,h.size,h.aA,?_,?_,?_,?_,?_,?_,?_,?_,h.oV,h.mY,h.small⟩;{intro t x k s' d;obtain ⟨b1,c⟩:=h.Eh t x k s' d;grind [ao]};{grind [ao,h.Eg]};{grind [ao,h.inj,h.boxes]};{intro t m b1 b2 o g p q he;have f:∀t b1,(st.box s b').boxes t=some b1->b1.live->∃b2,st.boxes t=some b2/\b2.live:=by{grind [ao]};grind [h.inj]};{grind [h.tJ,h.Af]};{grind [ao,h.Af]};{refine ⟨by rw [hw];simpa using h.ext.size,λi r u=>?_,E.m h.ext.os,F.m h.ext.tape,hout.m h.ext.out,Ą h.ext.dr hdr⟩<;>grind [h.own,h.mY,h.ext.bh]};{intro t b1 c g;rw [ao] at c;split at c;{rename_i e;rw [e];exact h.own s b z lb};{exact h.own t b1 c g}}
end
section
variable {P:Program} {T:dW} {n:Nat} {V0:Ó} {bQ:Mw} {β0:Nat->Nat} {st:St} {β:Nat->Nat} {a:Act} {w:World} {V:Ó}
theorem fy:∀(sc:zA Prop)(k:Prop),G6 sc k↔(∀p∈sc,p)/\k
 | [],k=>by simp [G6]
 | p::r,k=>by
  simp only [G6,fy r k,ç];constructor
  ·grind
  ·rintro ⟨u,y⟩;exact ⟨u p (.inl rfl),λq z=>u q (.inr z),y⟩
def aM {t:TypeId}{i:TI}(h:pN P t=some i):∃info d z,P.info? t=some info/\P.underlying t=some d/\info.zero=some z/\i.k=nE d/\i.size=info.size/\i.bytes=info.bytes/\i.zero=z.cells.toList.map C.ofConst:=by unfold pN at h;grind
theorem Kf (β y):(C.ofConst y).den β=y:=by unfold C.ofConst;split<;>rfl
def KJ (β:Nat->Nat)(l:zA um):(l.map C.ofConst).map (C.den β)=l:=by induction l<;>grind [Kf]
def Kw (y:um):(C.ofConst y).ids=[]:=by unfold C.ofConst;split<;>rfl
def HV (l:zA um):(l.map C.ofConst).flatMap C.ids=[]:=by
 induction l with
 | nil=>rfl
 | cons y r u=>simp [Kw]
def aj {t:TypeId}{d:TypeDesc}(h:P.underlying t=some d)(w:World):(underlying t).run P w=.ok d w:=by simp [underlying,h]
def nk {t:TypeId}{i:TypeInfo}(h:P.info? t=some i)(w:World):(typeInfo t).run P w=.ok i w:=by simp [typeInfo,h]
def aS {t:TypeId}{i:TypeInfo}(h:P.info? t=some i)(w:World):(sizeOf t).run P w=.ok i.size w:=by simp [sizeOf,nk h]
def kX {t:TypeId}{i:TypeInfo}{z:um}(h:P.info? t=some i)(u:i.zero=some z)(w:World):(zeroValue t).run P w=.ok z w:=by simp [zeroValue,nk h,u]
def xH:TK->Bool
 | .struct _|.arr _ _=>true
 | _=>false
def jx {t:TypeId}{d:TypeDesc}(h:P.underlying t=some d)(w:World):(isAgg t).run P w=.ok (xH (nE d)) w:=by simp only [isAgg,Sem.run_bind,aj h,Result.andThen_ok];cases d<;>rfl
def ď (st:St)(x:SV):Prop:=∀s∈x.ids,∃b,st.boxes s=some b
theorem Gn {k k'}(h:Cu k k'=true):k=k':=by cases k<;>cases k'<;>simp_all [Cu]
theorem Nn {op k x y}{sc:zA Prop}{v u}(h:rA op k x y=.ret sc v)(hsc:∀p∈sc,p):(binOp op u (.int k x) (.int k y)).run P w=.ok (v.den β) w/\v.ids=[]:=by
 cases op<;>simp only [rA,Q.ret.injEq] at h<;>obtain ⟨rfl,rfl⟩:=h <;>
  simp only [ç,Ġ,Ì,forall_eq,false_imp_iff,implies_true] at hsc <;>
  refine ⟨?_,rfl⟩ <;>
  simp [binOp,Op.intArith,Op.intDiv,Op.intBits,Op.intCmp,Op.shift,SV.den,C.den,b_,hsc]
 all_goals (try (intro h;omega))
theorem R6 {op k k' x y}{sc:zA Prop}{v u}(hop:op=.shl\/op=.shr)(h:rA op k x y=.ret sc v)(hsc:∀p∈sc,p):(binOp op u (.int k x) (.int k' y)).run P w=.ok (v.den β) w/\v.ids=[]:=by
 rcases hop with rfl|rfl<;>simp only [rA,Q.ret.injEq] at h<;>obtain ⟨rfl,rfl⟩:=h <;>
  simp only [ç,Ġ,Ì,forall_eq] at hsc <;>
  refine ⟨?_,rfl⟩ <;>
  simp [binOp,Op.shift,SV.den,C.den]<;>(intro h;omega)
section eqs
variable {t:TypeId} (d:Nat)
def QX (h:P.underlying t=some .bool)(x y:ut):(Op.equalIn (d+1) t (.bool x) (.bool y)).run P w=.ok (x==y) w:=by simp [Op.equalIn,aj h]
def Gc {e:TypeId}(h:P.underlying t=some (.pointer e))(p:OA):(Op.equalIn (d+1) t (.pointer p) (.pointer none)).run P w=.ok p.isNone w:=by cases p<;>simp [Op.equalIn,aj h]
def uQ {e:TypeId}(h:P.underlying t=some (.slice e))(p:OA)(n c m k:Nat):(Op.equalIn (d+1) t (.slice p n c) (.slice none m k)).run P w=.ok p.isNone w:=by cases p<;>simp [Op.equalIn,aj h]
def Ce {ms:Array (String×TypeId)}(h:P.underlying t=some (.interface ms)){x:um}(y:ÿ x):(Op.equalIn (d+1) t x .nilIface).run P w=.ok (gF x) w:=by rcases y with rfl|⟨u,v,rfl⟩<;>simp [Op.equalIn,aj h,gF]
end eqs
def mQ {t:TypeId}{x y:um}{r:ut}(h:∀d,(Op.equalIn (d+1) t x y).run P w=.ok r w):(Op.equal t x y).run P w=.ok r w:=h 9999
def JF {op:BinOp}{u:TypeId}{x y:ut}(z:P.underlying u=some .bool)(hop:op=.eql\/op=.neq):(binOp op u (.bool x) (.bool y)).run P w=.ok (.bool (if op=.eql then x==y else !(x==y))) w:=by have:=mQ (w:=w) λd=>QX d z x y;rcases hop with rfl|rfl<;>simp only [binOp,Sem.run_bind,this,Result.andThen_ok,Sem.run_pure]<;>rfl
def FJ {c:C}{b:ut}(h:c.bool?=some b):c.den β=.bool b/\c.ids=[]:=by (cases c with|v x=>{cases x<;>simp_all [C.bool?,C.den,C.ids]}|_=>simp_all [C.bool?,C.den,C.ids])
def Kh {d:TypeDesc}{k:IntKind}(h:nE d=.int k):d=.int k:=by cases d<;>simp_all [nE]
def HG {d:TypeDesc}(h:nE d=.bool):d=.bool:=by cases d<;>simp_all [nE]
def Ki {d:TypeDesc}{e:TypeId}(h:nE d=.ptr e):d=.pointer e:=by cases d<;>simp_all [nE]
def bo {d:TypeDesc}{e:TypeId}(h:nE d=.slice e):d=.slice e:=by cases d<;>simp_all [nE]
def ED {d:TypeDesc}(h:nE d=.iface):∃ms,d=.interface ms:=by cases d<;>simp_all [nE]
def lE {d:TypeDesc}{fs:zA (TypeId×Nat)}(h:nE d=.struct fs):∃gs,d=.struct gs/\fs=gs.toList.map λf=>(f.type,f.offset):=by cases d<;>simp_all [nE]
def rj {d:TypeDesc}{m:Nat}{e:TypeId}(h:nE d=.arr m e):d=.array m e:=by cases d<;>simp_all [nE]
def kY {t:TypeId}{x y:um}{r:ut}(neg:ut)(h:(Op.equal t x y).run P w=.ok r w)(z:(∃p,x=.pointer p/\y=.pointer none)\/(∃p n c m k,x=.slice p n c/\y=.slice none m k)\/(ÿ x/\y=.nilIface)):(binOp (if neg then .neq else .eql) t x y).run P w=.ok (.bool (if neg then !r else r)) w:=by rcases z with ⟨p,rfl,rfl⟩|⟨p,n,c,m,k,rfl,rfl⟩|⟨z,rfl⟩;{cases p<;>cases neg<;>simp only [Ŏ,Ð,Ï,binOp,Sem.run_bind,h,Result.andThen_ok,Sem.run_pure]};{cases neg<;>simp only [Ŏ,Ð,Ï,binOp,Sem.run_bind,h,Result.andThen_ok,Sem.run_pure]};{rcases z with rfl|⟨u,v,rfl⟩<;>cases neg<;>simp only [Ŏ,Ð,Ï,binOp,Sem.run_bind,h,Result.andThen_ok,Sem.run_pure]}
def uR {op:BinOp}{t:TypeId}{x y:Operand}{u v:um}(h:(∃p,u=.pointer p)\/(∃p n c,u=.slice p n c)\/(∃k n,u=.int k n)\/(∃b,u=.bool b)\/∃c,y=.const c)(z:v=.nilIface->∃c,y=.const c)(hu:∀cs,u≠.agg cs):(eqGuard op t x y u v).run P w=.ok () w:=by
 have key:∀(m:Sem Unit),m=(match (generalizing:=false) u,v with
   | .nilIface,.nilIface=>do
    if (match (generalizing:=false) x with|.const _=>true|_=>false)||(match (generalizing:=false) y with|.const _=>true|_=>false) then return
    if <- Op.eqGuardIn Op.maxDepth t u v then unsupported (.noEntry "binop/eql: two nil values of an interface type with methods, neither of them the literal nil")
   | .agg _,.agg _=>do
    if !(<-program).eqGuardType (<-program).depth t then return
    if <- Op.eqGuardIn Op.maxDepth t u v then unsupported (.noEntry "binop/eql: two nil values of an interface type with methods, in a part of a struct or an array")
   | _,_=>pure ())->m.run P w=.ok () w:=by
  intro m hm;rw [hm];clear hm;revert z hu;split
  ·intro z _;obtain ⟨c,rfl⟩:=z rfl;simp
  ·rename_i cs _;intro _ hu;exact Å rfl (hu cs)
  ·intro _ _;rfl
 cases op<;>first|rfl|exact key _ rfl
def Ve {E:TypeId}{i:TI}(hi:pN P E=some i){x y:C}(neg:ut){sc:zA Prop}{v:SV}(h:Iq neg i.k x y=.ret sc v)(hsc:∀p∈sc,p):(binOp (if neg then .neq else .eql) E (x.den β) (y.den β)).run P w=.ok (v.den β) w/\v.ids=[]/\((∃p,x.den β=.pointer p)\/(∃p n c,x.den β=.slice p n c)\/y.den β=.nilIface)/\(y.den β=.nilIface->y=.v .nilIface)/\(∀cs,x.den β≠.agg cs):=by obtain ⟨info,d,z,j,b,l,g,-⟩:=aM hi;unfold Iq at h;split at h;{rename_i e a;rw [g] at a;obtain rfl:=Ki a;split at h;{split at h;{simp only [Q.ret.injEq] at h;obtain ⟨rfl,rfl⟩:=h;refine ⟨?_,by cases neg<;>rfl,.inl ⟨_,rfl⟩,by simp [C.den],by simp [C.den]⟩;rename_i s o;have:=kY (w:=w) neg (mQ λd=>Gc d b (some ⟨β s,o,none⟩)) (.inl ⟨_,rfl,rfl⟩);cases neg<;>exact this};{simp only [Q.ret.injEq] at h;obtain ⟨rfl,rfl⟩:=h;refine ⟨?_,rfl,.inl ⟨_,rfl⟩,by simp [C.den],by simp [C.den]⟩;exact kY (w:=w) neg (mQ λd=>Gc d b _) (.inl ⟨_,rfl,rfl⟩)};{cases h}};{cases h}};{rename_i e a;rw [g] at a;obtain rfl:=bo a;split at h;{split at h;{simp only [Q.ret.injEq] at h;obtain ⟨rfl,rfl⟩:=h;refine ⟨?_,by cases neg<;>rfl,.inr (.inl ⟨_,_,_,rfl⟩),by simp [C.den],by simp [C.den]⟩;rename_i m k _ s o n c;have:=kY (w:=w) neg (mQ λd=>uQ d b (some ⟨β s,o,none⟩) n c m k) (.inr (.inl ⟨_,_,_,_,_,rfl,rfl⟩));cases neg<;>exact this};{simp only [Q.ret.injEq] at h;obtain ⟨rfl,rfl⟩:=h;refine ⟨?_,rfl,.inr (.inl ⟨_,_,_,rfl⟩),by simp [C.den],by simp [C.den]⟩;rename_i m k _ s n c;have:=kY (w:=w) neg (mQ λd=>uQ d b (mA (β s) c) n c m k) (.inr (.inl ⟨_,_,_,_,_,rfl,rfl⟩));have e:(mA (β s) c).isNone=Nat.beq c 0:=by{cases c<;>rfl};rw [e] at this;exact this};{simp only [Q.ret.injEq] at h;obtain ⟨rfl,rfl⟩:=h;refine ⟨?_,rfl,.inr (.inl ⟨_,_,_,rfl⟩),by simp [C.den],by simp [C.den]⟩;exact kY (w:=w) neg (mQ λd=>uQ d b _ _ _ _ _) (.inr (.inl ⟨_,_,_,_,_,rfl,rfl⟩))};{cases h}};{cases h}};{rename_i a;rw [g] at a;obtain ⟨ms,rfl⟩:=ED a;split at h;{split at h;{simp only [Q.ret.injEq] at h;obtain ⟨rfl,rfl⟩:=h;have f:=hsc _ (õ.2 rfl);refine ⟨?_,rfl,.inr (.inr rfl),λ_=>rfl,?_⟩;{exact kY (w:=w) neg (mQ λd=>Ce d b f) (.inr (.inr ⟨f,rfl⟩))};{intro cs e;rcases f with f|⟨u,v,f⟩<;>· simp only [C.den] at e;rw [f] at e;cases e}};{simp only [Q.ret.injEq] at h;obtain ⟨rfl,rfl⟩:=h;refine ⟨?_,by cases neg<;>rfl,.inr (.inr rfl),λ_=>rfl,by simp [C.den]⟩;have:=kY (w:=w) neg (mQ λd=>Ce d b (x:=.nilIface) (.inl rfl)) (.inr (.inr ⟨.inl rfl,rfl⟩));cases neg<;>exact this};{cases h}};{cases h}};{cases h}
def Vc (hT:dW.ok P T){op:BinOp}{F:TypeId}{x y:C}{ox oy:Operand}{sc:zA Prop}{v:SV}(h:Io T op F x y=.ret sc v)(hsc:∀p∈sc,p)(M:y=.v .nilIface->∃c,oy=.const c):(do eqGuard op F ox oy (x.den β) (y.den β);binOp op F (x.den β) (y.den β)).run P w=.ok (v.den β) w/\v.ids=[]:=by
 unfold Io at h;split at h
 ·rename_i i f;have f:=hT _ _ f;obtain ⟨info,d,z,u,j,A,o,-⟩:=aM f;split at h
  ·split at h
   ·rename_i k a l b
    have g:(eqGuard op F ox oy (C.den β (.v (.int k a))) (C.den β (.v (.int l b)))).run P w=.ok () w:=
     uR (.inr (.inr (.inl ⟨_,_,rfl⟩))) (by simp [C.den]) (by simp [C.den])
    have key:(binOp op F (.int k a) (.int l b)).run P w=.ok (v.den β) w/\v.ids=[]:=by grind [R6,Gn,Nn]
    simp only [Sem.run_bind,g,Result.andThen_ok];exact key
   ·cases h
  ·rename_i m;rw [o] at m;obtain rfl:=HG m;split at h;{rename_i a b q r;have n:=FJ (β:=β) q;have M:=FJ (β:=β) r;have g:(eqGuard op F ox oy (x.den β) (y.den β)).run P w=.ok () w:=by{rw [n.1,M.1];exact uR (.inr (.inr (.inr (.inl ⟨_,rfl⟩)))) ψ ψ};simp only [Sem.run_bind,g,Result.andThen_ok];rw [n.1,M.1];split at h;{simp only [Q.ret.injEq] at h;obtain ⟨rfl,rfl⟩:=h;exact ⟨JF j (.inl rfl),rfl⟩};{simp only [Q.ret.injEq] at h;obtain ⟨rfl,rfl⟩:=h;exact ⟨JF j (.inr rfl),rfl⟩};{cases h}};{cases h}
  ·have key:∀neg:ut,Iq neg i.k x y=.ret sc v->(do eqGuard (if neg then .neq else .eql) F ox oy (x.den β) (y.den β);binOp (if neg then .neq else .eql) F (x.den β) (y.den β)).run P w=.ok (v.den β) w/\v.ids=[]:=by{intro neg h;have ⟨B,D,E,s,t⟩:=Ve (w:=w) (β:=β) f neg h hsc;have g:(eqGuard (if neg then BinOp.neq else BinOp.eql) F ox oy (x.den β) (y.den β)).run P w=.ok () w:=by{refine uR ?_ (λe=>M (s e)) t<;>grind};grind [Sem.run_bind,Result.andThen_ok]};grind
 ·cases h
end
end Go.Eng
