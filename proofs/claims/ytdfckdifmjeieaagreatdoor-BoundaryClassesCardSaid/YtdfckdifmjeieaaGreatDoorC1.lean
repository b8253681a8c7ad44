import Derived.WalkKit
import Derived.Deep.LoopGhost
import Derived.KernelRfl
set_option linter.all false
def Ŭ{p:Prop}(h:p:=by intros;rename_i h;cases h):p:=h
abbrev ū{α:Type}(a:Option α)(p:Prop):=a.isSome=true/\a.isSome=true/\p
abbrev Á:=@of_decide_eq_true
abbrev Â:=@of_decide_eq_false
abbrev Ã:=@if_neg
abbrev Ä:=@if_pos
abbrev Å:=@absurd
abbrev Æ:=@congrArg
abbrev Ç:=@decide_eq_true
abbrev È:=@decide_eq_false
abbrev É:=@decide_eq_decide
abbrev Ê:=@eq_of_beq
abbrev Ë:=@beq_iff_eq
abbrev Ì:=@or_false
abbrev Í:=@and_true
abbrev Î:=@true_and
abbrev Ï:=@if_true
abbrev Ð:=@if_false
abbrev Ñ:=@decide_eq_true_eq
abbrev Ò:=@decide_eq_false_iff_not
def ω{p:Prop}(h:p:=by first|omega|(dsimp only;omega)):p:=h
def Ų{p:Prop}(h:p:=by and_intros<;>first|exact True.intro|rfl|trivial|omega):p:=h
def ų{p q:Prop}(a:p:=by first|omega|(dsimp only;omega))(b:q:=by first|omega|(dsimp only;omega)):p/\q:=⟨a,b⟩
def σ{p:Prop}(h:p:=by and_intros<;>rfl):p:=h
def ψ{p:Prop}(h:p:=by simp):p:=h
def φ{p:Prop}(h:p:=by decide):p:=h
def χ{p:Prop}(h:p:=by grind):p:=h
def η{p:Prop}(h:p:=by and_intros<;>trivial):p:=h
def θ{p:Prop}(h:p:=by trivial):p:=h
def ζ{p:Prop}(h:p:=by kernel_rfl):p:=h
def ξ{p:Prop}(h:p:=by assumption):p:=h
def κ{p:Prop}(h:p:=by decide +kernel):p:=h
def π{p:Prop}(h:p:=by intro h;nomatch h):p:=h
abbrev Go.Calls.s:=@Go.Calls.mono
def Eq.m{α:Sort _}{a b c:α}(h:a=b)(g:b=c):a=c:=Eq.trans h g
def Iff.m{a b c:Prop}(h:a<->b)(g:b<->c):a<->c:=Iff.trans h g
def List.Perm.m{α:Type _}{a b c:@List α}(h:a.Perm b)(g:b.Perm c):a.Perm c:=List.Perm.trans h g
def List.Sublist.m{α:Type _}{a b c:@List α}(h:a.Sublist b)(g:b.Sublist c):a.Sublist c:=List.Sublist.trans h g
abbrev Ý:=@Int.toNat_natCast
abbrev ñ:=@List.getElem?_eq_getElem
abbrev Ù:=@Nat.le_refl
abbrev í:=@List.length_append
abbrev ë:=@List.length_take
abbrev ø:=@List.mem_cons_of_mem
abbrev õ:=@List.mem_singleton
abbrev ç:=@List.mem_cons
abbrev ä:=@Nat.zero_le
abbrev Ă:=@Nat.mul_le_mul_right
abbrev ú:=@List.getElem_mem
abbrev ü:=@List.mem_append
abbrev đ:=@List.getElem?_eq_some_iff
abbrev ā:=@Option.some.injEq
abbrev Ę:=@List.getD_eq_getElem?_getD
abbrev ĕ:=@List.length_eq_zero_iff
abbrev ą:=@List.mem_cons_self
abbrev ď:=@Int.eq_ofNat_of_zero_le
abbrev ī:=@List.drop_eq_getElem_cons
abbrev Ď:=@List.mem_of_getElem?
abbrev Ċ:=@List.length_cons
abbrev Ĕ:=@List.mem_append_left
abbrev ć:=@List.append_nil
abbrev ĝ:=@List.mem_append_right
abbrev þ:=@List.mem_map
abbrev ÿ:=@Nat.le_trans
abbrev Č:=@Bool.and_eq_true
abbrev ĳ:=@List.getElem?_append_left
abbrev č:=@List.mem_flatMap
abbrev ė:=@Nat.mod_eq_of_lt
abbrev Ĝ:=@List.append_assoc
abbrev Ġ:=@List.flatMap_cons
abbrev ě:=@List.not_mem_nil
abbrev ĉ:=@Nat.zero_add
abbrev ĩ:=@Int.natAbs_natCast
abbrev į:=@List.pairwise_cons
abbrev Ě:=@List.length_map
abbrev ľ:=@List.drop_of_length_le
abbrev ķ:=@Nat.pow_le_pow_right
abbrev ň:=@List.getElem?_append_right
abbrev Ī:=@List.take_length
abbrev ģ:=@Bool.eq_iff_iff
abbrev ħ:=@List.all_eq_true
abbrev Qz3:=@List.take_succ_eq_append_getElem
abbrev Ĳ:=@List.getElem?_take
abbrev Į:=@Bool.not_eq_true'
abbrev Ħ:=@Nat.min_eq_left
abbrev Đ:=@Nat.add_mul
abbrev Ľ:=@Nat.lt_of_lt_of_le
abbrev ē:=@Nat.lt_or_ge
abbrev ĺ:=@Nat.eq_zero_or_pos
abbrev ŋ:=@List.take_of_length_le
abbrev ť:=@List.take_append_getElem
abbrev ł:=@List.take_add_one
abbrev Ĵ:=@List.length_drop
abbrev Ň:=@Nat.mul_le_mul_left
abbrev Ė:=@Nat.pow_add
abbrev Ŕ:=@Nat.le_of_ble_eq_true
abbrev ġ:=@Nat.add_zero
abbrev Qk9:=@Int.tmod_eq_emod_of_nonneg
abbrev Ļ:=@Rat.mul_eq_zero
abbrev ĵ:=@Nat.two_pow_pos
abbrev Ĩ:=@Nat.pow_succ
abbrev Ģ:=@Nat.mul_one
abbrev Qj4:=@Int.tdiv_eq_ediv_of_nonneg
abbrev Ŝ:=@BitVec.ofInt_natCast
abbrev Ŀ:=@List.length_nil
abbrev ę:=@Nat.mod_lt
abbrev Qj8:=@List.take_append_drop
abbrev Ŧ:=@List.getElem?_eq_none
abbrev Qv0:=@Classical.byContradiction
abbrev Ő:=@Bool.false_eq_true
abbrev Ņ:=@Nat.gcd_dvd_left
abbrev ŏ:=@Bool.not_eq_false'
abbrev Ř:=@List.map_congr_left
abbrev š:=@Rat.num_eq_zero
abbrev Ĭ:=@Nat.mul_zero
abbrev ŗ:=@Nat.div_eq_of_lt
abbrev Ĺ:=@List.map_cons
abbrev ń:=@List.mem_filter
abbrev Š:=@BitVec.toNat_ofNat
abbrev ş:=@Nat.lt_of_le_of_lt
abbrev Qb2:=@List.pairwise_iff_getElem
abbrev Ń:=@Int.natAbs_mul
abbrev ļ:=@Nat.mul_comm
abbrev Qb5:=@List.mem_iff_getElem
abbrev ō:=@Nat.mul_ne_zero
abbrev ũ:=@Bool.false_ne_true
abbrev Qb8:=@Nat.beq_refl
abbrev Qb9:=@Nat.div_lt_iff_lt_mul
abbrev İ:=@Nat.mul_add
abbrev Qn1:=@List.drop_set_of_lt
abbrev Qn2:=@Nat.add_sub_cancel_left
abbrev œ:=@List.cons.injEq
abbrev Œ:=@List.nil_append
abbrev ő:=@Option.some.inj
abbrev Ţ:=@Nat.gcd_dvd_right
abbrev Qn7:=@List.mem_of_mem_take
abbrev Qn8:=@List.getElem?_set_ne
abbrev Qn9:=@List.getElem?_drop
abbrev ņ:=@Nat.mul_assoc
abbrev Qm1:=@Rat.mul_inv_cancel
abbrev ś:=@List.map_append
abbrev Ś:=@Int.natCast_mul
abbrev Qm4:=@List.length_pos_iff
abbrev Ŋ:=@Nat.add_assoc
abbrev Qm6:=@Nat.sub_add_cancel
abbrev Ť:=@List.foldl_cons
abbrev Qm8:=@Int.sign_eq_zero_iff_zero
abbrev ţ:=@Nat.not_lt_zero
abbrev Ŗ:=@Prod.mk.injEq
abbrev Qc1:=@List.cons_append
abbrev Qc2:=@List.any_eq_true
abbrev Qc3:=@List.flatMap_append
abbrev Ş:=@Nat.succ_mul
abbrev Qc5:=@List.length_singleton
abbrev Ũ:=@Int.natAbs_neg
abbrev Qc7:=@Nat.mul_lt_mul_of_pos_right
abbrev Qc8:=@Nat.div_le_self
abbrev Qc9:=@Nat.add_sub_cancel
abbrev ŀ:=@Array.ext'
abbrev Qd1:=@Int.sign_eq_neg_one_of_neg
abbrev Ō:=@Nat.one_mul
abbrev Qd3:=@Bool.not_eq_eq_eq_not
abbrev ŝ:=@Nat.zero_mul
abbrev Qd5:=@Nat.div_add_mod
abbrev Qd6:=@Rat.intCast_neg
abbrev Qd7:=@Option.isSome_iff_exists
abbrev Qd8:=@List.set_eq_of_length_le
abbrev Qd9:=@Nat.xor_lt_two_pow
abbrev Qf0:=@Nat.one_lt_two_pow
abbrev Qf1:=@Array.toList_map
abbrev ŕ:=@Rat.mul_pos
abbrev Qf3:=@List.getElem?_of_mem
abbrev Qf4:=@List.pairwise_append
abbrev Qf5:=@List.pairwise_singleton
abbrev Qf6:=@List.take_zero
abbrev ŧ:=@Nat.gcd_comm
abbrev Qf8:=@Array.mk.injEq
abbrev Qf9:=@Bool.or_eq_true
abbrev Qg0:=@Rat.intCast_mul
abbrev Qg1:=@List.length_set
abbrev Qg2:=@Int.sign_eq_one_of_pos
abbrev Qg3:=@Nat.mul_div_cancel
abbrev Qg4:=@List.getElem_set_self
abbrev Qg5:=@Nat.gcd_zero_right
abbrev Qg6:=@Nat.pos_of_ne_zero
abbrev Qg7:=@Nat.mul_le_mul
abbrev Qg8:=@Nat.testBit_eq_decide_div_mod_eq
abbrev Qg9:=@List.mem_of_mem_drop
abbrev Qh0:=@Nat.add_mul_div_left
abbrev Qh1:=@List.ext_getElem?
abbrev Qh2:=@Nat.mod_add_div
abbrev Qh3:=@Int.mul_ediv_cancel_left
abbrev Qh4:=@Rat.intCast_inj
abbrev Qh5:=@Rat.num_intCast
abbrev Qh6:=@Int.mul_comm
abbrev Qh7:=@Rat.mkRat_one
abbrev Qh8:=@Nat.gcd_eq_zero_iff
abbrev Qh9:=@List.getElem_of_mem
abbrev Qp0:=@Option.getD_some
abbrev Qp1:=@List.drop_drop
abbrev Qp2:=@Array.getElem?_eq_none
abbrev Qp3:=@List.filter_eq_nil_iff
abbrev Qp4:=@Nat.and_lt_two_pow
abbrev Qp5:=@Nat.mul_eq_zero
abbrev Qp6:=@Rat.neg_num
abbrev Qp7:=@Int.natAbs_dvd_natAbs
abbrev Qp8:=@Rat.mul_pos_iff_of_pos_left
abbrev Qp9:=@List.take_set
abbrev Qr0:=@List.getElem?_set
abbrev Qr1:=@List.getElem_drop
abbrev Qr2:=@Nat.gcd_zero_left
abbrev Qr3:=@Int.lt_trichotomy
abbrev Qr4:=@Array.getElem?_eq_some_iff
abbrev Qr5:=@Array.getElem_toList
abbrev Qr6:=@List.exists_mem_of_ne_nil
abbrev Qr7:=@Rat.mkRat_self
abbrev Qr8:=@Nat.le_add_right
abbrev Qr9:=@List.getElem_map
abbrev Qs0:=@List.take_replicate
abbrev Qs1:=@List.countP_pos_iff
abbrev Qs2:=@List.filter_eq_self
abbrev Qs3:=@List.eq_of_mem_replicate
abbrev Qs4:=@Nat.le_of_lt
abbrev Qs5:=@List.getElem_append_left
abbrev Qs6:=@List.set_eq_take_append_cons_drop
abbrev Qs7:=@List.getElem?_replicate
abbrev Qs8:=@Rat.num_mkRat
abbrev Qs9:=@Rat.sub_eq_add_neg
abbrev Qt0:=@Nat.gcd_le_left
abbrev Qt1:=@Nat.dvd_trans
abbrev Qt2:=@Rat.intCast_add
abbrev ř:=@Prod.ext
abbrev Qt4:=@List.filter_append
abbrev Qt5:=@List.getElem?_set_self
abbrev Qt6:=@List.getElem_cons_zero
abbrev Qt7:=@Int.natAbs_ediv_of_dvd
abbrev Qt8:=@Rat.inv_pos
abbrev Qt9:=@List.getElem_take
abbrev Wq0:=@List.mem_range
abbrev Wq1:=@List.take_take
abbrev Wq2:=@List.map_map
abbrev Wq3:=@Nat.le_div_iff_mul_le
abbrev Wq4:=@List.getElem!_eq_getElem?_getD
abbrev Wq5:=@Option.getD_none
abbrev Wq6:=@Nat.shiftLeft_add_eq_or_of_lt
abbrev Wq7:=@Nat.mul_lt_mul''
abbrev Wq8:=@List.drop_length
abbrev Wq9:=@List.take_append_of_le_length
abbrev Ww0:=@Int.sign_neg_iff
abbrev Ww1:=@Nat.zero_lt_succ
abbrev Ww2:=@List.take_subset
abbrev Ww3:=@Rat.den_mkRat
abbrev Ww4:=@Nat.le_of_dvd
abbrev Ww5:=@Nat.lt_irrefl
abbrev Ww6:=@Int.not_lt
abbrev Ww7:=@Nat.le_succ
abbrev Ww8:=@List.length_flatten
abbrev Ww9:=@Array.length_toList
abbrev Wx0:=@List.mem_map_of_mem
abbrev Wx1:=@Nat.pow_mul
abbrev Wx2:=@Nat.pow_pos
abbrev Wx3:=@Int.mul_neg
abbrev Wx4:=@Int.sign_eq_neg_one_iff_neg
abbrev Wx5:=@Int.mul_lt_mul_of_pos_right
abbrev Wx6:=@Int.le_refl
abbrev Wx7:=@List.getD_cons_succ
abbrev Wx8:=@Rat.mkRat_mul_mkRat
abbrev Wx9:=@Int.mul_eq_zero
abbrev Wy0:=@List.any_append
abbrev Wy1:=@Int.fdiv_eq_ediv_of_nonneg
abbrev Wy2:=@Int.lt_of_mul_lt_mul_right
abbrev Wy3:=@List.map_replicate
abbrev Wy4:=@Nat.mod_self
abbrev Wy5:=@Nat.add_comm
abbrev Wy6:=@Nat.div_mul_cancel
abbrev Wy7:=@Int.add_zero
abbrev Wy8:=@Array.mapM_eq_mapM_toList
abbrev Wy9:=@Int.ofNat_tmod
abbrev Wz0:=@Nat.add_mul_mod_self_left
abbrev Wz1:=@Rat.num_nonneg
abbrev Wz2:=@Bool.and_false
abbrev Wz3:=@Int.eq_of_mul_eq_mul_left
abbrev Wz4:=@List.getElem_append_right
abbrev Wz5:=@List.drop_zero
abbrev Wz6:=@List.getLastD_eq_getLast?
abbrev Wz7:=@List.getElem?_map
abbrev Wz8:=@Nat.or_lt_two_pow
abbrev Wz9:=@Nat.gcd_pos_of_pos_right
abbrev Wk0:=@List.Pairwise.imp_of_mem
abbrev Wk1:=@List.map_take
abbrev Wk2:=@List.map_drop
abbrev Wk3:=@Rat.mul_assoc
abbrev Wk4:=@Int.neg_mul
abbrev Wk5:=@Int.one_mul
abbrev Wk6:=@Bool.and_true
abbrev Wk7:=@List.sum_cons
abbrev Wk8:=@Nat.shiftLeft_eq
abbrev Wk9:=@Int.natCast_emod
abbrev Wj0:=@Rat.mkRat_eq_iff
abbrev Wj1:=@List.flatMap_nil
abbrev Wj2:=@Option.map_some
abbrev Wj3:=@Nat.sub_zero
abbrev Wj4:=@BitVec.toNat_or
abbrev Wj5:=@Nat.testBit_xor
abbrev Wj6:=@Nat.mul_add_div
abbrev Wj7:=@Nat.mul_add_mod
abbrev Wj8:=@Nat.zero_div
abbrev Wj9:=@Rat.mul_def'
abbrev Wv0:=@List.nodup_cons
abbrev Wv1:=@Rat.intCast_sub
abbrev Wv2:=@Rat.mul_comm
abbrev Wv3:=@Nat.min_le_left
abbrev Wv4:=@Rat.mul_nonneg
abbrev Wv5:=@Nat.mul_pos
abbrev Wv6:=@Rat.neg_den
open Go.IntKind (i64 u64 u32)
abbrev zA:=@List
abbrev ut:=Bool
abbrev um:=Go.Value
abbrev tt:Prop:=true=true
namespace Go.Eng
section
abbrev OA:=Option Addr
abbrev sm {α:Type}(a:α):Prop:=a=a
structure Ó where
 w:World
 H:Nat->Prop
 X:Nat->Prop
 hH:∀b,H b->b<w.heap.size
 hX:∀b,X b->H b
abbrev _root_.un:=Ó
def Ó.bo (V:Ó)(b:Nat)(o:Obj):Prop:=¬V.H b/\V.w.heap[b]?=some o
def Ó.at (V:Ó)(p:Addr)(v:Value):Prop:=¬V.H p.block/\V.w.cell? p=some v
def Ó.Le (V V':Ó):Prop:=∀b o,V.bo b o->V'.bo b o
structure kQ (X:Nat->Prop) (w w':World):Prop where
 size:w.heap.size<=w'.heap.size
 bo:∀b,b<w.heap.size->¬X b->w'.heap[b]?=w.heap[b]?
 os:w'.os=w.os
 tape:w'.tape=w.tape
 out:w'.output=w.output
 dr:w.drawn<=w'.drawn
def Ó.to (V:Ó)(w':World)(h:V.w.heap.size<=w'.heap.size):Ó:=⟨w',V.H,V.X,λb u=>Ľ (V.hH b u) h,V.hX⟩
def Ó.au (V:Ó)(u:List Nat):Ó:={ V with X:=λb=>b∈u/\V.H b,hX:=λ_ h=>h.2 }
def Ó.UW (V:Ó)(b:Nat):Ó:={ V with H:=λx=>V.H x\/(x=b/\b<V.w.heap.size),hH:=λx h=>h.elim (V.hH x) λh=>h.1▸h.2,hX:=λx h=>.inl (V.hX x h) }
def Ó.aY (V:Ó)(p:Prop)(b:Nat):Ó:={ V with H:=λx=>V.H x\/(p/\x=b/\b<V.w.heap.size),hH:=λx h=>h.elim (V.hH x) λh=>h.2.1▸h.2.2,hX:=λx h=>.inl (V.hX x h) }
def Ó.shut (V:Ó):Ó:={ V with X:=λ_=>False,hX:=λ_ h=>h.elim }
def iQ (P : Program)(f : FuncId) : Prop := ∃ fn, P.funcs[f]? = some fn ∧ fn.body.isNone=false ∧ (fn.name == "runtime.NumGoroutine")=false
def ae (P:Program)(f:FuncId)(args:Array Value)(V:Ó)(R:Value->Ó->Prop):Prop:=
 iQ P f/\Calls P f args V.w λe w'=>∃r,e=.returned r/\∃u:kQ V.X V.w w',R r (V.to w' u.size)
inductive C where
 | v (x:Value)|w (x:Value)|tt|ff
 | ptr (s o:Nat)
 | nN (s o n c:Nat)
 | eM (s n c:Nat)
 | uX (f:FuncId) (ss:List Nat)
 | XW (f:FuncId) (vs:List Value)
inductive SV where
 | c (x:C)|agg (cs:List C)|xU (xs:List (Bool×List C))
inductive æ where
 | lit (cs:List C)|row (vs:List Value)|aH (vs:List Value)
structure aZ where
 cs:æ
 ty:TypeId
def aZ.live (b:aZ):Prop:=∀vs,b.cs=.aH vs->vs≠[]
def Tv (b:aZ):List Prop:=
 match b.cs with
 | .aH vs=>[vs≠[]]
 | _=>[]
def gdP (b:aZ):Prop:=
 match b.cs with
 | .aH vs=>vs≠[]
 | _=>True
def wI:List Prop->Prop->Prop
 | [],k=>k
 | p::r,k=>p->wI r k
def mA (b c:Nat):OA:=if c=0 then none else some ⟨b,0,none⟩
structure St where
 aF:Nat->Option SV
 boxes:Nat->Option aZ
def C.den (β:Nat->Nat):C->Value
 | .v x=>x
 | .w x=>x
 | .tt=>.bool true
 | .ff=>.bool false
 | .ptr s o=>.pointer (some ⟨β s,o,none⟩)
 | .nN s o n c=>.slice (some ⟨β s,o,none⟩) n c
 | .eM s n c=>.slice (mA (β s) c) n c
 | .uX f ss=>.func (.func f) #[] (ss.map λs=>Value.pointer (some ⟨β s,0,none⟩)).toArray
 | .XW f vs=>.func (.func f) #[.agg vs.toArray] #[]
def kT (β:Nat->Nat):Bool×List C->Value
 | (true,cs)=>.agg (cs.map (C.den β)).toArray
 | (false,[c])=>c.den β
 | (false,_)=>.tuple #[]
def yx:Bool×List C->Option SV
 | (true,cs)=>some (.agg cs)
 | (false,[c])=>some (.c c)
 | (false,_)=>none
def SV.den (β:Nat->Nat):SV->Value
 | .c x=>x.den β
 | .agg cs=>.agg (cs.map (C.den β)).toArray
 | .xU xs=>.tuple (xs.map (kT β)).toArray
def SV.cells:SV->List C
 | .c x=>[x]
 | .agg cs=>cs
 | .xU _=>[]
def PS:List C->Option (List Value)
 | []=>some []
 | .v x::r=>match PS r with
  | some l=>some (x::l)
  | none=>none
 | _::_=>none
def æ.den (β:Nat->Nat):æ->List Value
 | .lit cs=>cs.map (C.den β)
 | .row vs=>vs
 | .aH vs=>vs
def aZ.obj (β:Nat->Nat)(b:aZ):Obj:=.cells (b.cs.den β).toArray b.ty (0,0)
def C.ids:C->List Nat
 | .ptr s _=>[s]
 | .nN s _ _ _=>[s]
 | .eM s _ _=>[s]
 | .uX _ ss=>ss
 | _=>[]
def SV.ids:SV->List Nat
 | .c x=>x.ids
 | .agg cs=>cs.flatMap C.ids
 | .xU xs=>xs.flatMap λx=>x.2.flatMap C.ids
def SV.CL:SV->Bool
 | .xU _=>true
 | _=>false
def ie:C->List Prop
 | .v (.agg _)|.v (.tuple _)=>[False]
 | .w x=>[x.oneCell'=true]
 | _=>[]
def SV.ie (x:SV):List Prop:=x.cells.flatMap Eng.ie
def æ.ids:æ->List Nat
 | .lit cs=>cs.flatMap C.ids
 | .row _=>[]
 | .aH _=>[]
def St.put (st:St)(d:Option Nat)(x:SV):St:=
 match d with
 | none=>st
 | some d=>{ st with aF:=λt=>cond (Nat.beq t d) (some x) (st.aF t) }
def St.box (st:St)(s:Nat)(b:aZ):St:={ st with boxes:=λt=>cond (Nat.beq t s) (some b) (st.boxes t) }
def C.ofConst:Value->C
 | .bool true=>.tt
 | .bool false=>.ff
 | x=>.v x
def SV.ofConst:Value->SV
 | .bool true=>.c .tt
 | .bool false=>.c .ff
 | .agg cs=>.agg (cs.toList.map C.ofConst)
 | x=>.c (.v x)
def St.bQ (st:St):Operand->Option SV
 | .tmp t=>st.aF t
 | .const v=>some (.ofConst v)
 | .global g=>some (.c (.v (.pointer (some ⟨g,0,none⟩))))
 | .func f=>some (.c (.uX f []))
inductive TK where
 | int (k:IntKind)|bool|str|ptr (e:TypeId)|slice (e:TypeId)|struct (fs:List (TypeId×Nat))|arr (n:Nat) (e:TypeId)|iface|func|tuple (ts:List TypeId)|other
structure TI where
 k:TK
 size:Nat
 bytes:Nat
 zero:List C
def nQ:TypeDesc->TK
 | .int k=>.int k
 | .bool=>.bool
 | .string=>.str
 | .pointer e=>.ptr e
 | .slice e=>.slice e
 | .array n e=>.arr n e
 | .struct fs=>.struct (fs.toList.map λf=>(f.type,f.offset))
 | .interface _=>.iface
 | .func ..=>.func
 | .tuple es=>.tuple es.toList
 | _=>.other
def pV (P:Program)(t:TypeId):Option TI:=
 match P.info? t,P.underlying t with
 | some i,some d=>
  match i.zero with
  | some z=>some { k:=nQ d,size:=i.size,bytes:=i.bytes,zero:=z.cells.toList.map C.ofConst }
  | none=>none
 | _,_=>none
abbrev eA:=List (Nat×TI)
def aI {α:Type}:List (Nat×α)->Nat->Option α
 | [],_=>none
 | (s,x)::r,t=>cond (Nat.beq t s) (some x) (aI r t)
def eA.ok (P:Program)(T:eA):Prop:=∀t i,aI T t=some i->pV P t=some i
inductive EH where
 | int (k:IntKind)|bool|slice|ptr|str|any
inductive BH where
 | one (s:EH)|agg (l:List EH)
inductive Sh where
 | val (s:BH)|xU (l:List BH)|none
def shC:C->EH
 | .v (.int k _)=>.int k
 | .v (.slice ..)=>.slice
 | .v (.pointer _)=>.ptr
 | .v (.string _)=>.str
 | .tt|.ff=>.bool
 | _=>.any
def oP (i:TI):BH:=
 match i.k with
 | .struct _|.arr _ _=>.agg (i.zero.map shC)
 | _=>match i.zero with
  | [z]=>.one (shC z)
  | _=>.one .any
def EH.ex:EH->(C->Prop)->Prop
 | .int k,K=>∃n:Int,K (.v (.int k n))
 | .bool,K=>∃b:Bool,K (.v (.bool b))
 | .slice,K=>∃(a:OA)(n c:Nat),K (.v (.slice a n c))
 | .ptr,K=>∃p:OA,K (.v (.pointer p))
 | .str,K=>∃s:ByteArray,K (.v (.string s))
 | .any,K=>∃x:Value,K (.w x)
def exL:List EH->(List C->Prop)->Prop
 | [],K=>K []
 | s::r,K=>s.ex λv=>exL r λvs=>K (v::vs)
def BH.ex:BH->(SV->Prop)->Prop
 | .one s,K=>s.ex λc=>K (.c c)
 | .agg l,K=>exL l λcs=>K (.agg cs)
def exT:List BH->(List (Bool×List C)->Prop)->Prop
 | [],K=>K []
 | .one s::r,K=>s.ex λc=>exT r λvs=>K ((false,[c])::vs)
 | .agg l::r,K=>exL l λcs=>exT r λvs=>K ((true,cs)::vs)
def Sh.ex:Sh->(SV->Prop)->Prop
 | .val s,K=>s.ex K
 | .xU l,K=>exT l λvs=>K (.xU vs)
 | .none,K=>K (.xU [])
def shTs (T:eA):List TypeId->Option (List BH)
 | []=>some []
 | t::r=>match aI T t,shTs T r with
  | some i,some l=>some (oP i::l)
  | _,_=>Option.none
def shOf (T:eA)(t:TypeId):Option Sh:=
 match aI T t with
 | some i=>match i.k with
  | .tuple []=>some .none
  | .tuple ts=>match shTs T ts with
   | some l=>some (.xU l)
   | Option.none=>Option.none
  | _=>some (.val (oP i))
 | Option.none=>Option.none
inductive Q where
 | fail
 | ret (sc:List Prop) (x:SV)
 | new (sc:List Prop) (b:aZ) (x:Nat->SV)
 | Ax (sc:List Prop) (s:Nat) (b:aZ)
 | rd (p:OA) (sh:BH)
 | uz (vs:List Value) (o size:Nat) (sh:BH)
 | yL (s:Nat) (vs:List Value) (n c:Nat) (x:OA×Nat ⊕ List Value) (size bytes:Nat) (ty:TypeId)
 | app (old:Option Nat) (ba:OA) (vs:List Value) (n c:Nat) (x:OA×Nat ⊕ List Value) (size bytes:Nat) (ty:TypeId)
def b_ (op:BinOp)(k:IntKind)(a b:Int):Int:=
 match op with
 | .and=>k.wrap ((BitVec.ofInt k.bits a &&& BitVec.ofInt k.bits b).toNat:Int)
 | .or=>k.wrap ((BitVec.ofInt k.bits a ||| BitVec.ofInt k.bits b).toNat:Int)
 | .xor=>k.wrap ((BitVec.ofInt k.bits a ^^^ BitVec.ofInt k.bits b).toNat:Int)
 | _=>k.wrap ((BitVec.ofInt k.bits a &&& ~~~(BitVec.ofInt k.bits b)).toNat:Int)
def rG (op:BinOp)(k:IntKind)(a b:Int):Q:=
 match op with
 | .add=>.ret [] (.c (.v (.int k (k.wrap (a+b)))))
 | .sub=>.ret [] (.c (.v (.int k (k.wrap (a-b)))))
 | .mul=>.ret [] (.c (.v (.int k (k.wrap (a*b)))))
 | .quo=>.ret [b≠0] (.c (.v (.int k (k.wrap (a.tdiv b)))))
 | .rem=>.ret [b≠0] (.c (.v (.int k (a.tmod b))))
 | .and=>.ret [] (.c (.v (.int k (b_ .and k a b))))
 | .or=>.ret [] (.c (.v (.int k (b_ .or k a b))))
 | .xor=>.ret [] (.c (.v (.int k (b_ .xor k a b))))
 | .andNot=>.ret [] (.c (.v (.int k (b_ .andNot k a b))))
 | .shl=>.ret [0<=b] (.c (.v (.int k (k.wrap (a*2^(min b.toNat k.bits))))))
 | .shr=>.ret [0<=b] (.c (.v (.int k (a.fdiv (2^(min b.toNat k.bits))))))
 | .eql=>.ret [] (.c (.v (.bool (a==b))))
 | .neq=>.ret [] (.c (.v (.bool (a != b))))
 | .lss=>.ret [] (.c (.v (.bool (decide (a<b)))))
 | .leq=>.ret [] (.c (.v (.bool (decide (a<=b)))))
 | .gtr=>.ret [] (.c (.v (.bool (decide (a>b)))))
 | .geq=>.ret [] (.c (.v (.bool (decide (a≥b)))))
def C.bool?:C->Option Bool
 | .tt=>some true
 | .ff=>some false
 | .v (.bool b)=>some b
 | _=>none
def eU:Value->Bool
 | .nilIface=>true
 | _=>false
def û (x:Value):Prop:=x=.nilIface\/∃t v,x=.iface t v
def CN:IntKind->IntKind->Bool
 | .i8,.i8|.i16,.i16|.i32,.i32|.i64,.i64|.u8,.u8|.u16,.u16|.u32,.u32|.u64,.u64=>true
 | _,_=>false
def I8 (neg:Bool)(k:TK)(x y:C):Q:=
 match k with
 | .ptr _=>match y with
  | .v (.pointer none)=>match x with
   | .ptr _ _=>.ret [] (.c (if neg then .tt else .ff))
   | .v (.pointer p)=>.ret [] (.c (.v (.bool (if neg then !p.isNone else p.isNone))))
   | _=>.fail
  | _=>.fail
 | .slice _=>match y with
  | .v (.slice none _ _)=>match x with
   | .nN _ _ _ _=>.ret [] (.c (if neg then .tt else .ff))
   | .eM _ _ c=>.ret [] (.c (.v (.bool (if neg then !(Nat.beq c 0) else Nat.beq c 0))))
   | .v (.slice a _ _)=>.ret [] (.c (.v (.bool (if neg then !a.isNone else a.isNone))))
   | _=>.fail
  | _=>.fail
 | .iface=>match y with
  | .v .nilIface=>match x with
   | .w y=>.ret [û y] (.c (.v (.bool (if neg then !eU y else eU y))))
   | .v .nilIface=>.ret [] (.c (if neg then .ff else .tt))
   | _=>.fail
  | _=>.fail
 | _=>.fail
def I6 (T:eA)(op:BinOp)(u:TypeId)(x y:C):Q:=
 match aI T u with
 | some i=>match i.k with
  | .int _=>match x,y with
   | .v (.int k a),.v (.int k' b)=>
    match op with
    | .shl|.shr=>rG op k a b
    | _=>if CN k k' then rG op k a b else .fail
   | _,_=>.fail
  | .bool=>match x.bool?,y.bool? with
   | some a,some b=>match op with
    | .eql=>.ret [] (.c (.v (.bool (a==b))))
    | .neq=>.ret [] (.c (.v (.bool (!(a==b)))))
    | _=>.fail
   | _,_=>.fail
  | k=>match op with
   | .eql=>I8 false k x y
   | .neq=>I8 true k x y
   | _=>.fail
 | none=>.fail
def af (p:OA)(n:Nat):OA:=p.map λa=>a.add n
def ă (cs:List C)(o:Nat)(xs:List C):List C:=cs.take o++xs++cs.drop (o+xs.length)
def bI (vs:List Value)(o:Nat)(xs:List Value):List Value:=
 match xs with
 | [x]=>vs.set o x
 | _=>vs.take o++xs++vs.drop (o+xs.length)
def C.val?:C->Option Value
 | .v x=>some x
 | .w x=>some x
 | .tt=>some (.bool true)
 | .ff=>some (.bool false)
 | _=>none
def ni:List C->Option (List Value)
 | []=>some []
 | c::r=>match c.val?,ni r with
  | some v,some vs=>some (v::vs)
  | _,_=>none
def mh (bx:Nat->Option aZ)(i:TI)(x:SV):Q:=
 match x with
 | .c (.ptr b o)=>match bx b with
  | some ⟨.lit cs,_⟩=>match i.k with
   | .struct _|.arr _ _=>if Nat.ble (o+i.size) cs.length then .ret [] (.agg ((cs.drop o).take i.size)) else .fail
   | _=>match cs[o]? with
    | some c=>.ret [] (.c c)
    | none=>.fail
  | some ⟨.row vs,_⟩=>.uz vs o i.size (oP i)
  | some ⟨.aH vs,_⟩=>if Nat.beq i.size 0 then .fail else .uz vs o i.size (oP i)
  | none=>.fail
 | .c (.v (.pointer p))=>if Nat.beq i.zero.length i.size then .rd p (oP i) else .fail
 | _=>.fail
def jA (bx:Nat->Option aZ)(i:TI)(a x:SV):Q:=
 match a with
 | .c (.ptr b o)=>if Nat.beq x.cells.length i.size&&!x.CL then match bx b with
   | some ⟨.lit cs,ty⟩=>if Nat.ble (o+i.size) cs.length then .Ax x.ie b ⟨.lit (ă cs o x.cells),ty⟩ else .fail
   | some ⟨.row vs,ty⟩=>match ni x.cells with
    | some xs=>.Ax (x.ie++[o+i.size<=vs.length]) b ⟨.row (bI vs o xs),ty⟩
    | none=>.fail
   | some ⟨.aH vs,ty⟩=>if Nat.beq i.size 0 then .fail else match ni x.cells with
    | some xs=>.Ax (x.ie++[o+i.size<=vs.length]) b ⟨.aH (bI vs o xs),ty⟩
    | none=>.fail
   | none=>.fail
  else .fail
 | _=>.fail
def ur (place:Nat->Option (Nat×Nat))(cells:List C):List (Nat×SV)->Option (List C)
 | []=>some cells
 | (i,x)::r=>match place i with
  | none=>none
  | some (off,size)=>if Nat.beq x.cells.length size&&Nat.ble (off+size) cells.length&&!x.CL then ur place (ă cells off x.cells) r else none
def ö (ρ:Operand->Option SV):List (Nat×Operand)->Option (List (Nat×SV))
 | []=>some []
 | (i,o)::r=>match ρ o,ö ρ r with
  | some x,some l=>some ((i,x)::l)
  | _,_=>none
def iI (T:eA):List (TypeId×Nat)->Option (List (Nat×Nat))
 | []=>some []
 | (t,off)::r=>match aI T t,iI T r with
  | some i,some l=>some ((off,i.size)::l)
  | _,_=>none
def rep (n:Nat)(u:List C):List C:=(List.replicate n u).flatten
def vN (n:Nat)(u:List Value):List Value:=
 match u with
 | [z]=>List.replicate n z
 | _=>(List.replicate n u).flatten
def kq (a:OA)(m l sz:Nat):OA:=if m=l then a else af a (l*sz)
def qO (o m l sz:Nat):Nat:=if m=l then o else o+l*sz
def Zj (c:Nat):Option SV->Option (List Prop×Nat)
 | none=>some ([],c)
 | some (.c (.v (.int _ m)))=>some ([0<=m/\m<=(c:Int)],m.toNat)
 | _=>none
def Wh (n m:Nat):Option SV->Option SV->Option (List Prop×Nat)
 | some (.c (.v (.int _ h))),_=>some ([0<=h/\h<=(m:Int)],h.toNat)
 | none,none=>some ([],n)
 | _,_=>none
def qLow (h:Nat):Option SV->Option (List Prop×Option Nat)
 | none=>some ([],none)
 | some (.c (.v (.int _ l)))=>some ([0<=l/\l<=(h:Int)],some l.toNat)
 | _=>none
def tA (n c:Nat)(lo hi mx:Option SV):Option (List Prop×Option Nat×Nat×Nat):=
 match Zj c mx with
 | none=>none
 | some (u,m)=>match Wh n m hi mx with
  | none=>none
  | some (y,h)=>match qLow h lo with
   | none=>none
   | some (z,l)=>some (u++y++z,l,h,m)
def IW (ρ:Operand->Option SV):Option Operand->Option (Option SV)
 | none=>some none
 | some x=>match ρ x with
  | some v=>some (some v)
  | none=>none
def yQ (sz:Nat)(x:SV)(lo hi mx:Option SV):Q:=
 match x with
 | .c (.v (.slice a n c))=>match tA n c lo hi mx with
  | some (sc,none,h,m)=>.ret sc (.c (.v (.slice a h m)))
  | some (sc,some l,h,m)=>.ret sc (.c (.v (.slice (kq a m l sz) (h-l) (m-l))))
  | none=>.fail
 | .c (.nN s o n c)=>match tA n c lo hi mx with
  | some (sc,none,h,m)=>.ret sc (.c (.nN s o h m))
  | some (sc,some l,h,m)=>.ret sc (.c (.nN s (qO o m l sz) (h-l) (m-l)))
  | none=>.fail
 | .c (.eM s n c)=>match mx with
  | none=>match tA n c lo hi none with
   | some (sc,none,h,m)=>.ret sc (.c (.eM s h m))
   | _=>.fail
  | some _=>.fail
 | _=>.fail
def jz (T:eA)(i:TI)(x y:SV):Q:=
 match y with
 | .c (.v (.int _ n))=>match i.k with
  | .slice e=>match aI T e with
   | some u=>match x with
    | .c (.v (.slice a len _))=>.ret [a.isSome=true,0<=n/\n<(len:Int)] (.c (.v (.pointer (af a (n.toNat*u.size)))))
    | .c (.nN s o len _)=>.ret [0<=n/\n<(len:Int)] (.c (.ptr s (o+n.toNat*u.size)))
    | .c (.eM s len c)=>.ret [0<=n/\n<(len:Int),len<=c] (.c (.ptr s (n.toNat*u.size)))
    | _=>.fail
   | none=>.fail
  | .arr len e=>match aI T e with
   | some u=>match x with
    | .c (.ptr s o)=>.ret [0<=n/\n<(len:Int)] (.c (.ptr s (o+n.toNat*u.size)))
    | .c (.v (.pointer a))=>.ret [a.isSome=true,0<=n/\n<(len:Int)] (.c (.v (.pointer (af a (n.toNat*u.size)))))
    | _=>.fail
   | none=>.fail
  | _=>.fail
 | _=>.fail
def Hj (T:eA)(i:TI)(l c:SV):Q:=
 match i.k with
 | .slice e=>match aI T e with
  | some u=>match l,c with
   | .c (.v (.int _ n)),.c (.v (.int _ m))=>match ni u.zero with
    | some y=>if Nat.beq u.bytes 0||Nat.beq u.size 0||!(Nat.beq u.size y.length) then .fail else .new [0<=n,n<=m,(u.bytes:Int)*m<=2^47] ⟨.row (vN m.toNat y),e⟩ λd=>.c (.nN d 0 n.toNat m.toNat)
    | none=>.fail
   | _,_=>.fail
  | none=>.fail
 | _=>.fail
def Di:List SV->Option (List Nat)
 | []=>some []
 | .c (.ptr s 0)::r=>match Di r with
  | some l=>some (s::l)
  | none=>none
 | _=>none
def cR (ρ:Operand->Option SV):List Operand->Option (List SV)
 | []=>some []
 | o::r=>match ρ o,cR ρ r with
  | some x,some l=>some (x::l)
  | _,_=>none
def cM (a b:Int):Int:=if b<a then b else a
def ct (a b:Int):Int:=if b>a then b else a
def ĭ (f:Int->Int->Int)(k:IntKind)(a:Int):List SV->Option Int
 | []=>some a
 | .c (.v (.int k' b))::r=>if CN k k' then ĭ f k (f a b) r else none
 | _=>none
def gz (bx:Nat->Option aZ)(s:Nat):Option (List Value):=
 match bx s with
 | some ⟨.lit cs,_⟩=>ni cs
 | some ⟨.row vs,_⟩=>some vs
 | _=>none
def nZ (bx:Nat->Option aZ)(s:Nat):Option TypeId:=match bx s with|some b=>some b.ty|none=>none
def aO (ws:List Value)(o n:Nat):List Value:=cond (Nat.ble (o+n) ws.length) ((ws.drop o).take n) (List.replicate n (.agg #[]))
def rY (ws:List Value)(k c sz:Nat):List Value:=cond (Nat.ble k c) (aO ws 0 (k*sz)) (List.replicate (k*sz) (.agg #[]))
def cX (bx:Nat->Option aZ)(e:TypeId)(u:TI)(b x:SV):Q:=
 match ni u.zero with
 | none=>.fail
 | some y=>if Nat.beq u.bytes 0||Nat.beq u.size 0||!(Nat.beq u.size y.length) then .fail else
  let src:Option (OA×Nat ⊕ List Value):=match x with
   | .c (.v (.slice a k _))=>some (.inl (a,k))
   | .c (.nN s o k _)=>match bx s with
    | some ⟨.row ws,_⟩=>some (.inr (aO ws o (k*u.size)))
    | _=>match gz bx s with
     | some ws=>if Nat.ble (o+k*u.size) ws.length then some (.inr ((ws.drop o).take (k*u.size))) else none
     | none=>none
   | .c (.eM s k c)=>match bx s with
    | some ⟨.aH ws,_⟩=>some (.inr (rY ws k c u.size))
    | _=>none
   | _=>none
  match src with
  | none=>.fail
  | some src=>match b with
   | .c (.v (.slice a n c))=>.app none a [] n c src u.size u.bytes e
   | .c (.nN s 0 n c)=>match gz bx s,nZ bx s with
    | some vs,some ty=>if Nat.beq ty e then .app (some s) none vs n c src u.size u.bytes e else .fail
    | _,_=>.fail
   | .c (.eM s n c)=>match bx s with
    | some ⟨.aH vs,ty⟩=>if Nat.beq ty e then .yL s vs n c src u.size u.bytes e else .fail
    | _=>.fail
   | _=>.fail
def oM (b:Builtin)(k:TK)(xs:List SV):Q:=
 match xs with
 | []=>.fail
 | x::r=>match b with
  | .len=>match r,k,x with
   | [],.slice _,.c (.v (.slice _ n _))=>.ret [] (.c (.v (.int .i64 n)))
   | [],.slice _,.c (.nN _ _ n _)=>.ret [] (.c (.v (.int .i64 n)))
   | [],.slice _,.c (.eM _ n _)=>.ret [] (.c (.v (.int .i64 n)))
   | [],.str,.c (.v (.string s))=>.ret [] (.c (.v (.int .i64 s.size)))
   | _,_,_=>.fail
  | .cap=>match r,k,x with
   | [],.slice _,.c (.v (.slice _ _ c))=>.ret [] (.c (.v (.int .i64 c)))
   | [],.slice _,.c (.nN _ _ _ c)=>.ret [] (.c (.v (.int .i64 c)))
   | [],.slice _,.c (.eM _ _ c)=>.ret [] (.c (.v (.int .i64 c)))
   | _,_,_=>.fail
  | .min=>match x with
   | .c (.v (.int k a))=>match ĭ cM k a r with
    | some m=>.ret [] (.c (.v (.int k m)))
    | none=>.fail
   | _=>.fail
  | .max=>match x with
   | .c (.v (.int k a))=>match ĭ ct k a r with
    | some m=>.ret [] (.c (.v (.int k m)))
    | none=>.fail
   | _=>.fail
  | _=>.fail
def Dk (t:TypeId)(i:TI)(v:SV):Q:=
 match i.k with
 | .iface=>.fail
 | _=>match v.ids,v.CL with
  | [],false=>.ret [] (.c (.w (.iface t (v.den λ_=>0))))
  | _,_=>.fail
def qe (T:eA)(bx:Nat->Option aZ)(t:TypeId)(x:SV):Q:=
 match aI T t with
 | some i=>match i.k with
  | .slice e=>match aI T e with
   | some u=>match ni u.zero,x with
    | some y,.c (.nN s o n _)=>match bx s with
     | some ⟨.row vs,ty⟩=>if Nat.beq u.size 0||!(Nat.beq u.size y.length)||!(y.all Value.oneCell') then .fail else .Ax [o+n*u.size<=vs.length] s ⟨.row (vs.take o++vN n y++vs.drop (o+n*u.size)),ty⟩
     | _=>.fail
    | _,_=>.fail
   | none=>.fail
  | _=>.fail
 | none=>.fail
def QU:List C->Option (List (OA×Nat×Nat))
 | []=>some []
 | .v (.slice p n c)::r=>match QU r with
  | some l=>some ((p,n,c)::l)
  | none=>none
 | _=>none
def oN (T:eA)(i:TI)(cs:List C)(k:Int):Q:=
 match i.k with
 | .arr n e=>match aI T e,QU cs with
  | some u,some l=>match u.k with
   | .slice _=>if Nat.beq u.size 1&&Nat.beq l.length n then .ret [0<=k/\k<(n:Int)] (.c (.v (.slice (l.getD k.toNat (none,0,0)).1 (l.getD k.toNat (none,0,0)).2.1 (l.getD k.toNat (none,0,0)).2.2))) else .fail
   | _=>.fail
  | _,_=>.fail
 | _=>.fail
def aW (T:eA)(ρ:Operand->Option SV)(bx:Nat->Option aZ)(op:Op):Q:=
 match op with
 | .move x|.assign x=>match ρ x with
  | some v=>.ret [] v
  | none=>.fail
 | .pick c a b=>match ρ c with
  | some (.c .tt)=>match ρ a with
   | some v=>.ret [] v
   | none=>.fail
  | some (.c .ff)=>match ρ b with
   | some v=>.ret [] v
   | none=>.fail
  | _=>.fail
 | .alloc t=>match aI T t with
  | some i=>.new [] ⟨.lit i.zero,t⟩ λd=>.c (.ptr d 0)
  | none=>.fail
 | .box t x=>match ρ x with
  | some v=>match v.CL with
   | true=>.fail
   | false=>.new v.ie ⟨.lit v.cells,t⟩ λd=>.c (.ptr d 0)
  | none=>.fail
 | .build t parts=>match aI T t,ö ρ parts.toList with
  | some i,some z=>match i.k with
   | .struct fs=>match iI T fs with
    | some pl=>match ur (λj=>pl[j]?) i.zero z with
     | some cs=>.ret (z.flatMap λx=>x.2.ie) (.agg cs)
     | none=>.fail
    | none=>.fail
   | .arr _ e=>match aI T e with
    | some u=>match ur (λj=>some (j*u.size,u.size)) i.zero z with
     | some cs=>.ret (z.flatMap λx=>x.2.ie) (.agg cs)
     | none=>.fail
    | none=>.fail
   | _=>.fail
  | _,_=>.fail
 | .buildSlice t len parts=>match aI T t,ö ρ parts.toList with
  | some i,some z=>match i.k with
   | .slice e=>match aI T e with
    | some u=>if Nat.ble (len*u.size) 16777216&&Nat.beq u.zero.length u.size&&!(Nat.beq u.size 0) then match ur (λj=>some (j*u.size,u.size)) (rep len u.zero) z with
      | some cs=>.new (z.flatMap λx=>x.2.ie) ⟨.lit cs,e⟩ λd=>.c (.nN d 0 len len)
      | none=>.fail
     else .fail
    | none=>.fail
   | _=>.fail
  | _,_=>.fail
 | .load t a=>match aI T t,ρ a with
  | some i,some x=>mh bx i x
  | _,_=>.fail
 | .store t a x=>match aI T t,ρ a,ρ x with
  | some i,some O,some E=>jA bx i O E
  | _,_,_=>.fail
 | .nilCheck x=>match ρ x with
  | some (.c (.ptr s o))=>.ret [] (.c (.ptr s o))
  | some (.c (.v (.pointer p)))=>.ret [p.isSome=true] (.c (.v (.pointer p)))
  | _=>.fail
 | .binOp o N x y _=>match ρ x,ρ y with
  | some (.c a),some (.c b)=>match b with
   | .v .nilIface=>match y with
    | .const _=>I6 T o N a b
    | _=>.fail
   | b=>I6 T o N a b
  | _,_=>.fail
 | .unOp .not _ x=>match ρ x with
  | some (.c .tt)=>.ret [] (.c .ff)
  | some (.c .ff)=>.ret [] (.c .tt)
  | some (.c (.v (.bool b)))=>.ret [] (.c (.v (.bool (!b))))
  | _=>.fail
 | .unOp .xor _ x=>match ρ x with
  | some (.c (.v (.int k n)))=>.ret [] (.c (.v (.int k (b_ .xor k (if k.signed then -1 else k.max) n))))
  | _=>.fail
 | .unOp .neg _ x=>match ρ x with
  | some (.c (.v (.int k n)))=>.ret [] (.c (.v (.int k (k.wrap (0-n)))))
  | _=>.fail
 | .convert src dst x=>match aI T src,aI T dst,ρ x with
  | some _,some i,some (.c (.v (.int _ n)))=>match i.k with
   | .int k=>.ret [] (.c (.v (.int k (k.wrap n))))
   | _=>.fail
  | _,_,_=>.fail
 | .makeFunc (.func f) first caps=>match first.toList with
  | []=>match cR ρ caps.toList with
   | some xs=>match Di xs with
    | some ss=>.ret [] (.c (.uX f ss))
    | none=>.fail
   | none=>.fail
  | [x]=>match caps.toList,ρ x with
   | [],some (.agg cs)=>match PS cs with
    | some vs=>.ret [] (.c (.XW f vs))
    | none=>.fail
   | _,_=>.fail
  | _=>.fail
 | .makeSlice t l c=>match aI T t,ρ l,ρ c with
  | some i,some Z,some cv=>Hj T i Z cv
  | _,_,_=>.fail
 | .slice t x lo hi mx=>match aI T t,ρ x,IW ρ lo,IW ρ hi,IW ρ mx with
  | some i,some E,some l,some h,some m=>match i.k with
   | .slice e=>match aI T e with
    | some u=>yQ u.size E l h m
    | none=>.fail
   | _=>.fail
  | _,_,_,_,_=>.fail
 | .fieldAddr t x f=>match aI T t,ρ x with
  | some i,some E=>match i.k with
   | .struct fs=>match fs[f]? with
    | some (F,off)=>match aI T F with
     | some fi=>if Nat.beq fi.size 0 then .fail else match E with
      | .c (.ptr s o)=>.ret [] (.c (.ptr s (o+off)))
      | .c (.v (.pointer p))=>.ret [p.isSome=true] (.c (.v (.pointer (af p off))))
      | _=>.fail
     | none=>.fail
    | none=>.fail
   | _=>.fail
  | _,_=>.fail
 | .field t x f=>match aI T t,ρ x with
  | some i,some (.agg cs)=>match i.k with
   | .struct fs=>match fs[f]? with
    | some (F,off)=>match aI T F with
     | some fi=>match fi.k with
      | .struct _|.arr _ _=>.ret [] (.agg ((cs.drop off).take fi.size))
      | _=>match cs[off]? with
       | some c=>.ret [] (.c c)
       | none=>.fail
     | none=>.fail
    | none=>.fail
   | _=>.fail
  | _,_=>.fail
 | .indexAddr t x M=>match aI T t,ρ x,ρ M with
  | some i,some E,some iv=>jz T i E iv
  | _,_,_=>.fail
 | .extract x j=>match ρ x with
  | some (.xU xs)=>match xs[j]? with
   | some v=>match yx v with
    | some y=>.ret [] y
    | none=>.fail
   | none=>.fail
  | _=>.fail
 | .call c=>match c.callee with
  | .builtin .append=>match cR ρ c.args.toList,c.argTypes.toList with
   | some [b,x],[t,t']=>match aI T t,aI T t' with
    | some i,some i'=>match i.k,i'.k with
     | .slice e,.slice _=>match aI T e with
      | some u=>cX bx e u b x
      | none=>.fail
     | _,_=>.fail
    | _,_=>.fail
   | _,_=>.fail
  | .builtin .clear=>match cR ρ c.args.toList,c.argTypes.toList with
   | some [x],[t]=>qe T bx t x
   | _,_=>.fail
  | .builtin b=>match cR ρ c.args.toList,c.argTypes.toList with
   | some xs,t::_=>match aI T t with
    | some i=>oM b i.k xs
    | none=>.fail
   | _,_=>.fail
  | _=>.fail
 | .index t x M=>match aI T t,ρ x,ρ M with
  | some i,some (.c (.v (.string s))),some (.c (.v (.int _ n)))=>match i.k with
   | .str=>.ret [0<=n/\n<(s.size:Int)] (.c (.v (.int .u8 ((s.data.toList.getD n.toNat 0).toNat:Int))))
   | _=>.fail
  | some i,some (.agg cs),some (.c (.v (.int _ n)))=>oN T i cs n
  | _,_,_=>.fail
 | .makeInterface t x=>match aI T t,ρ x with
  | some i,some v=>Dk t i v
  | _,_=>.fail
 | _=>.fail
def HL:List Prop->Prop->Prop
 | [],k=>k
 | p::r,k=>p/\HL r k
def Ó.Zs (V:Ó)(p:Addr):Nat->List C->Prop->Prop
 | _,[],k=>k
 | i,c::r,k=>V.at (p.add i) (c.den λ_=>0)/\V.Zs p (i+1) r k
def Ó.Zr (V:Ó)(p:OA)(x:SV)(k:Prop):Prop:=
 match x with
 | .agg cs=>∃a,p=some a/\V.Zs a 0 cs k
 | .c c=>(∃a,p=some a/\V.at a (c.den λ_=>0))/\k
 | .xU _=>False
def ZA (vs:List Value)(o size:Nat)(x:SV):Prop:=
 match x with
 | .agg cs=>o+size<=vs.length/\(vs.drop o).take size=cs.map (C.den λ_=>0)
 | .c c=>vs[o]?=some (c.den λ_=>0)
 | .xU _=>False
def jm (x:Nat):List Nat->Bool
 | []=>false
 | y::r=>cond (Nat.beq x y) true (jm x r)
def ô:List Nat->List Nat
 | []=>[]
 | x::r=>let l:=ô r;cond (jm x l) l (x::l)
def Fa (l m:List Nat):Bool:=l.all λx=>!(jm x m)
def WU (l m:List Nat):Bool:=l.all λx=>jm x m
def C.rel (L:List Nat)(β:Nat->Nat)(J:C->Value):C->C
 | .ptr s o=>cond (jm s L) (.v (.pointer (some ⟨β s,o,none⟩))) (.ptr s o)
 | .nN s o n c=>cond (jm s L) (.v (.slice (some ⟨β s,o,none⟩) n c)) (.nN s o n c)
 | .eM s n c=>cond (jm s L) (.v (.slice (mA (β s) c) n c)) (.eM s n c)
 | .uX f ss=>cond (Fa ss L) (.uX f ss) (.w (J (.uX f ss)))
 | x=>x
def SV.rel (L:List Nat)(β:Nat->Nat)(J:C->Value):SV->SV
 | .c x=>.c (x.rel L β J)
 | .agg cs=>.agg (cs.map (C.rel L β J))
 | .xU xs=>.xU (xs.map λx=>(x.1,x.2.map (C.rel L β J)))
def aZ.rel (L:List Nat)(β:Nat->Nat)(J:C->Value)(b:aZ):aZ:=
 match b.cs with
 | .row _=>b
 | .aH _=>b
 | .lit cs=>⟨.lit (cs.map (C.rel L β J)),b.ty⟩
def St.rel (st:St)(L:List Nat)(β:Nat->Nat)(J:C->Value):St:=
 ⟨λt=>match st.aF t with|some x=>some (x.rel L β J)|none=>none,
   λt=>cond (jm t L) none (match st.boxes t with|some b=>some (b.rel L β J)|none=>none)⟩
def Ó.sl (V:Ó)(a:OA)(xs:List Value):Prop:=∀i v,xs[i]?=some v->∃ad,a=some ad/\V.at (ad.add i) v
variable{V V':Ó}
def uv (s d:Nat):Nat:=cond (Nat.blt s 100000) d (d+200000)
def Kd (s:Nat)(vs:List Value)(n c size bytes:Nat)(ty:TypeId)(d:Nat)(st:St)(V:Ó)(K:St->Ó->Prop)(k:Nat)(xs:List Value):Prop:=
 (n+k)*bytes<=2^47/\n<=c/\c*size<=vs.length/\xs.length=k*size/\(∀v∈xs,v.oneCell'=true) /\
  match st.boxes (uv s d) with
  | some _=>False
  | none=>∀(_:Nat)(_:C->Value)(spare:List Value)(u:Nat),n+k<=u->u*size<=(n+k)*size+spare.length ->
   K (((st.box s ⟨.aH [],ty⟩).box (uv s d) ⟨.row (vs.take (n*size)++xs++spare),ty⟩).put (some d) (.c (.nN (uv s d) 0 (n+k) u))) V
def zR (s:Nat)(vs:List Value)(n c size bytes:Nat)(ty:TypeId)(d:Nat)(st:St)(V:Ó)(K:St->Ó->Prop)(k:Nat)(xs:List Value):Prop:=
 (n+k)*bytes<=2^47/\n<=c/\c*size<=vs.length/\xs.length=k*size/\(∀v∈xs,v.oneCell'=true) /\
  match st.boxes (uv s d) with
  | some _=>False
  | none=>∀(spare:List Value)(u:Nat),n+k<=u->u*size<=(n+k)*size+spare.length ->
   K (((st.box s ⟨.aH [],ty⟩).box (uv s d) ⟨.aH (vs.take (n*size)++xs++spare),ty⟩).put (some d) (.c (.eM (uv s d) (n+k) u))) V
def Ke (vs:List Value)(n c size bytes:Nat)(ty:TypeId)(d:Nat)(st:St)(V:Ó)(K:St->Ó->Prop)(k:Nat)(xs:List Value):Prop:=
 (n+k)*bytes<=2^47/\c<n+k/\xs.length=k*size/\(∀v∈xs,v.oneCell'=true) /\
  match st.boxes d with
  | some _=>False
  | none=>∀(spare:List Value)(u:Nat),n+k<=u->u*size<=(n+k)*size+spare.length ->
   K ((st.box d ⟨.row (vs++xs++spare),ty⟩).put (some d) (.c (.nN d 0 (n+k) u))) V
def Ay (q:Q)(dst:Option Nat)(st:St)(V:Ó)(K:St->Ó->Prop):Prop:=
 match q with
 | .fail=>False
 | .ret sc x=>HL sc (K (st.put dst x) V)
 | .new sc b x=>match dst with
  | some d=>match st.boxes d with
   | none=>HL sc (K ((st.box d b).put (some d) (x d)) V)
   | some _=>False
  | none=>False
 | .Ax sc s b=>match dst with
  | none=>HL sc (K (st.box s b) V)
  | some _=>False
 | .rd p sh=>sh.ex λx=>V.Zr p x (K (st.put dst x) V)
 | .uz vs o size sh=>sh.ex λx=>ZA vs o size x/\K (st.put dst x) V
 | .yL s vs n c x size bytes ty=>match dst with
  | none=>False
  | some d=>match x with
   | .inr xs=>zR s vs n c size bytes ty d st V K (xs.length/size) xs
   | .inl (a,k)=>∃xs:List Value,V.sl a xs/\xs.length=k*size/\zR s vs n c size bytes ty d st V K k xs
 | .app old ba vs n c x size bytes ty=>match dst with
  | none=>False
  | some d=>match old with
   | some s=>match x with
    | .inr xs=>Kd s vs n c size bytes ty d st V K (xs.length/size) xs
    | .inl (a,k)=>∃xs:List Value,V.sl a xs/\xs.length=k*size/\Kd s vs n c size bytes ty d st V K k xs
   | none=>∃vs:List Value,V.sl ba vs/\vs.length=n*size/\n<=c/\(ba.isNone=true->c=0)/\(match x with
    | .inr xs=>Ke vs n c size bytes ty d st V K (xs.length/size) xs
    | .inl (a,k)=>∃xs:List Value,V.sl a xs/\xs.length=k*size/\(k=0->K (st.put (some d) (.c (.v (.slice ba n c)))) V)/\(k≠0->Ke vs n c size bytes ty d st V K k xs))
def cF (β:Nat->Nat)(s b:Nat):Nat->Nat:=λt=>cond (Nat.beq t s) b (β t)
def nX:List Nat->(Nat->Nat)->((Nat->Nat)->Prop)->Prop
 | [],β,k=>k β
 | s::r,β,k=>∀b:Nat,nX r (cF β s b) k
def pj (bx:Nat->Option aZ)(s:Nat):List Nat:=match bx s with|some b=>b.cs.ids|none=>[]
def ï (bx:Nat->Option aZ):Nat->List Nat->List Nat
 | 0,l=>l
 | n+1,l=>ï bx n (ô (l++l.flatMap (pj bx)))
def jP (bx:Nat->Option aZ)(l:List Nat):Bool:=l.all λs=>WU (pj bx s) l
def neH (bx:Nat->Option aZ)(b:aZ)(β:Nat->Nat)(s:Nat):List Nat->Prop->Prop
 | [],k=>k
 | t::r,k=>cond (Nat.beq s t) (neH bx b β s r k) (match bx t with
  | some b'=>wI (Tv b++Tv b') (β s≠β t)->neH bx b β s r k
  | none=>False)
def kO (bx:Nat->Option aZ)(β:Nat->Nat)(V:Ó):List Nat->Prop->Prop
 | [],k=>k
 | s::r,k=>match bx s with
  | some b=>wI (Tv b) (V.w.heap[β s]?=some (b.obj β))->wI (Tv b) (V.H (β s))->kO bx β V r (neH bx b β s r k)
  | none=>False
def vb (vs:List Value)(n b:Nat):Nat:=
 match vs with
 | []=>n
 | _::_=>b
def eZ (bx:Nat->Option aZ)(β:Nat->Nat)(n:Nat)(s:Nat):Nat:=
 match bx s with
 | some ⟨.aH vs,_⟩=>vb vs n (β s)
 | _=>β s
def C.kept:C->List Nat
 | .uX _ ss=>0::ss
 | c=>c.ids
def pR (u:Option (Nat×Nat)):List C->List C->(List C->Prop)->Prop
 | [],_,K=>K []
 | c::r,z::y,K=>match c with
  | .eM t _ _=>match u with
   | some (m,nb)=>match Nat.beq t m with
    | true=>∃n c:Nat,pR u r y λcs=>K (.eM nb n c::cs)
    | false=>False
   | none=>False
  | c=>match c.kept with
   | []=>(shC z).ex λv=>pR u r y λcs=>K (v::cs)
   | _=>pR u r y λcs=>K (c::cs)
 | _,[],_=>False
def fV (T:eA)(z:Option (Nat×Nat))(β:Nat->Nat)(V:Ó):List Nat->St->(St->Prop)->Prop
 | [],st,k=>k st
 | s::r,st,k=>match st.boxes s with
  | some ⟨.lit cs,ty⟩=>match aI T ty with
   | some i=>pR z cs i.zero λy=>V.w.heap[β s]?=some (.cells (y.map (C.den β)).toArray ty (0,0))/\fV T z β V r (st.box s ⟨.lit y,ty⟩) k
   | none=>False
  | some ⟨.row _,ty⟩=>∃vs:List Value,V.w.heap[β s]?=some (.cells vs.toArray ty (0,0))/\fV T z β V r (st.box s ⟨.row vs,ty⟩) k
  | some ⟨.aH vs,ty⟩=>vs≠[]/\∃u:List Value,u≠[]/\V.w.heap[β s]?=some (.cells u.toArray ty (0,0))/\fV T z β V r (st.box s ⟨.aH u,ty⟩) k
  | _=>False
def vt (bx:Nat->Option aZ)(β:Nat->Nat)(V:Ó):List Nat->Prop->Prop
 | [],k=>k
 | s::r,k=>match bx s with
  | some b=>wI (Tv b) (V.bo (β s) (b.obj β))->vt bx β V r k
  | none=>False
def vq:List C->List Nat
 | []=>[]
 | .eM t _ _::r=>t::vq r
 | _::r=>vq r
def wS (bx:Nat->Option aZ)(L:List Nat):List Nat:=ô (L.flatMap λs=>match bx s with|some ⟨.lit cs,_⟩=>vq cs|_=>[])
def pT:List SV->List Nat
 | []=>[]
 | .c (.eM s _ _)::_=>[s]
 | .c (.nN s 0 _ _)::_=>[s]
 | _::r=>pT r
def Bj (nb:Nat):List (Bool×List C)->List (Bool×List C)
 | []=>[]
 | (false,[.v (.slice _ n c)])::r=>(false,[.eM nb n c])::r
 | x::r=>x::Bj nb r
def Iq (nb:Nat):List C->List C
 | []=>[]
 | .v (.slice _ n c)::r=>.eM nb n c::r
 | x::r=>x::Iq nb r
def yE (nb:Nat):SV->SV
 | .c (.v (.slice _ n c))=>.c (.eM nb n c)
 | .agg cs=>.agg (Iq nb cs)
 | .xU xs=>.xU (Bj nb xs)
 | x=>x
def Ir (T:eA):List TypeId->Option TypeId
 | []=>none
 | t::r=>match aI T t with
  | some i=>match i.k with
   | .slice e=>some e
   | _=>Ir T r
  | none=>none
def UP (T:eA)(ty:TypeId):Option TypeId:=
 match aI T ty with
 | some i=>match i.k with
  | .slice e=>some e
  | .tuple ts=>Ir T ts
  | .struct fs=>Ir T (fs.map Prod.fst)
  | _=>none
 | none=>none
def aJ (β:Nat->Nat)(xs:List SV):Array Value:=(xs.map (SV.den β)).toArray
inductive CM where
 | none|au|rel|kL|give
def hZ (m:Option Nat)(d:Nat):Nat:=
 match m with
 | some m=>uv m d
 | Option.none=>d
def mvP (m:Option Nat)(nb:Nat):Option (Nat×Nat):=
 match m with
 | some m=>some (m,nb)
 | Option.none=>Option.none
def Ld (m:Option Nat)(L:List Nat):List Nat:=
 match m with
 | some m=>L.filter λs=>!(Nat.beq s m)
 | Option.none=>L
def wG (m:Option Nat)(ety:TypeId)(st:St):St:=
 match m with
 | some m=>st.box m ⟨.aH [],ety⟩
 | Option.none=>st
def ED (m:Option Nat)(st:St)(β:Nat->Nat)(b':Nat):Prop:=
 match m with
 | some m=>match st.boxes m with
  | some ⟨.aH vs,_⟩=>vs≠[]/\b'=β m
  | _=>b'=β m
 | Option.none=>False
def cK (T:eA)(give:Bool)(sh:Sh)(L:List Nat)(m:Option Nat)(d:Nat)(ety:TypeId)(β:Nat->Nat)(st:St)(V':Ó)(K:St->Ó->Prop)(E:Value)(y:Ó):Prop:=
 ∃(b':Nat)(u:List Value),(u≠[]->y.w.heap[b']?=some (.cells u.toArray ety (0,0)))/\(u≠[]->V'.w.heap.size<=b'\/ED m st β b') /\
  sh.ex λx=>E=(cond give (yE (hZ m d) x) x).den (cF β (hZ m d) b') /\
   fV T (mvP m (hZ m d)) (cF β (hZ m d) b') y (Ld m L) ((wG m ety st).box (hZ m d) ⟨.aH u,ety⟩) λz=>K (z.put (some d) (cond give (yE (hZ m d) x) x)) (y.shut.aY (u≠[]) b')
def Jf (bx:Nat->Option aZ)(m ety:Nat):Bool:=
 match bx m with
 | some ⟨_,t⟩=>Nat.beq t ety
 | Option.none=>true
def eK (st:St)(L:List Nat)(ty:TypeId):St:=L.foldl (λst s=>st.box s ⟨.aH [],ty⟩) st
def mc (st:St)(m:Option Nat)(d:Nat):Bool:=
 match st.boxes (hZ m d) with
 | some _=>false
 | Option.none=>true
def iw (P:Program)(T:eA)(m:CM)(f:FuncId)(xs:List SV)(ty:TypeId)(dst:Option Nat)(st:St)(V:Ó)(K:St->Ó->Prop):Prop:=
 match shOf T ty with
 | Option.none=>False
 | some sh=>match ï st.boxes 3 (ô (xs.flatMap SV.ids)) with
  | []=>match m with
   | .give=>match dst,UP T ty with
    | some d,some ety=>match mc st Option.none d with
     | false=>False
     | true=>∀V':Ó,V.Le V'->ae P f (aJ (λ_=>0) xs) V' (cK T true sh [] Option.none d ety (λ_=>0) st V' K)
    | _,Option.none=>∀V':Ó,V.Le V'->ae P f (aJ (λ_=>0) xs) V' λr u=>sh.ex λx=>r=x.den (λ_=>0)/\K (st.put dst x) u
    | _,_=>False
   | .kL=>match sh,dst with
    | .val (.one .ptr),some d=>match st.boxes d with
     | some _=>False
     | Option.none=>match aI T ty with
      | some E=>match E.k with
       | .ptr e=>match aI T e with
        | some F=>∀V':Ó,V.Le V'->ae P f (aJ (λ_=>0) xs) V' λr u=>∃b:Nat,exL (F.zero.map shC) λcs=>
          r=.pointer (some ⟨b,0,Option.none⟩)/\V'.w.heap.size<=b/\u.bo b (.cells (cs.map (C.den λ_=>0)).toArray e (0,0))/\K ((st.box d ⟨.lit cs,e⟩).put (some d) (.c (.ptr d 0))) (u.UW b)
        | Option.none=>False
       | _=>False
      | Option.none=>False
    | _,_=>False
   | _=>∀V':Ó,V.Le V'->ae P f (aJ (λ_=>0) xs) V' λr u=>sh.ex λx=>r=x.den (λ_=>0)/\K (st.put dst x) u
  | s::r=>match jP st.boxes (s::r) with
   | false=>False
   | true=>match m with
    | .none|.kL=>False
    | .give=>match dst,UP T ty,pT xs,wS st.boxes (s::r) with
     | some d,some ety,[],[]=>match mc st Option.none d with
      | false=>False
      | true=>∀V':Ó,V.Le V'->nX (s::r) (λ_=>0) λβ=>kO st.boxes β V' (s::r)
       (ae P f (aJ β xs) (V'.au ((s::r).map (eZ st.boxes β V'.w.heap.size))) (cK T true sh (s::r) Option.none d ety β st V' K))
     | some d,some ety,[m],[]=>match Jf st.boxes m ety with
      | true=>match mc st (some m) d with
       | false=>False
       | true=>∀V':Ó,V.Le V'->nX (s::r) (λ_=>0) λβ=>kO st.boxes β V' (s::r)
        (ae P f (aJ β xs) (V'.au ((s::r).map (eZ st.boxes β V'.w.heap.size))) (cK T true sh (s::r) (some m) d ety β st V' K))
      | false=>match mc (eK st (s::r) 0) Option.none d with
       | false=>False
       | true=>match (s::r).all λt=>Nat.blt t 100000 with
        | false=>False
        | true=>∀V':Ó,V.Le V'->nX (s::r) (λ_=>0) λβ=>vt st.boxes β V' (s::r)
         (ae P f (aJ β xs) V' (cK T true sh [] Option.none d ety (λ_=>0) (eK st (s::r) 0) V' K))
     | _,Option.none,_,_=>match (s::r).all λt=>Nat.blt t 100000 with
      | false=>False
      | true=>∀V':Ó,V.Le V'->nX (s::r) (λ_=>0) λβ=>vt st.boxes β V' (s::r)
       (ae P f (aJ β xs) V' λy u=>sh.ex λx=>y=x.den (λ_=>0)/\K ((eK st (s::r) 0).put dst x) u)
     | _,_,_,_=>False
    | .au=>match wS st.boxes (s::r) with
     | []=>∀V':Ó,V.Le V'->nX (s::r) (λ_=>0) λβ=>kO st.boxes β V' (s::r)
      (ae P f (aJ β xs) (V'.au ((s::r).map (eZ st.boxes β V'.w.heap.size))) λy u=>sh.ex λx=>y=x.den (λ_=>0)/\fV T Option.none β u (s::r) st λz=>K (z.put dst x) u.shut)
     | [m]=>match dst,nZ st.boxes m with
      | some d,some ety=>match mc st (some m) d with
       | false=>False
       | true=>∀V':Ó,V.Le V'->nX (s::r) (λ_=>0) λβ=>kO st.boxes β V' (s::r)
        (ae P f (aJ β xs) (V'.au ((s::r).map (eZ st.boxes β V'.w.heap.size))) (cK T false sh (s::r) (some m) d ety β st V' K))
      | _,_=>False
     | _=>False
    | .rel=>match (s::r).all λt=>Nat.blt t 100000 with
     | false=>False
     | true=>∀V':Ó,V.Le V'->nX (s::r) (λ_=>0) λβ=>vt st.boxes β V' (s::r)
      (ae P f (aJ β xs) V' λy u=>sh.ex λx=>y=x.den (λ_=>0)/\∀J:C->Value,K ((st.rel (s::r) β J).put dst x) u)
def qi (bx:Nat->Option aZ):List SV->Option (List Value×Nat×List SV)
 | []=>none
 | x::r=>match x with
  | .c (.eM s n c)=>match bx s with
   | some ⟨.aH vs,_⟩=>some (vs,c,.c (.v (.slice none n c))::r)
   | _=>none
  | x=>match qi bx r with
   | some (vs,c,u)=>some (vs,c,x::u)
   | none=>none
def mC (P:Program)(T:eA)(m:CM)(f:FuncId)(xs:List SV)(ty:TypeId)(dst:Option Nat)(st:St)(V:Ó)(K:St->Ó->Prop):Prop:=
 match m with
 | .au=>match qi st.boxes xs with
  | some (vs,c,u)=>(vs=[]->c=0/\iw P T .au f u ty dst st V K)/\(vs≠[]->iw P T .au f xs ty dst st V K)
  | none=>iw P T .au f xs ty dst st V K
 | m=>iw P T m f xs ty dst st V K
def Ci (ss:List Nat):List SV:=ss.map λs=>.c (.ptr s 0)
inductive ý where
 | free|own (l:List Nat)
def nH (op:Op):List Operand:=
 match op with
 | .load _ a=>[a]
 | .store _ a _=>[a]
 | .call ⟨.value f,args,_⟩=>args.toList++[f]
 | .call ⟨.builtin .append,args,_⟩=>args.toList
 | _=>[]
def iq (bx:Nat->Option aZ)(op:Op)(l:List Nat):List Nat:=
 match op with
 | .call _=>ï bx 3 (ô l)
 | _=>l
def On (P:Program)(t:TypeId)(name:String):Option FuncId:=
 match P.info? t,P.underlying t with
 | some i,some d=>match i.methods.find? (λm=>m.name==name) with
  | some m=>match m.path.toList,m.func,d with
   | [],some (f,false),.struct _=>some f
   | _,_,_=>none
  | none=>none
 | _,_=>none
def d_ (P:Program)(T:eA)(m:CM)(o:Oper)(st:St)(V:Ó)(K:St->Ó->Prop):Prop:=
 match o.op with
 | .call ⟨.value fop,args,_⟩=>match cR st.bQ args.toList with
  | some xs=>match st.bQ fop with
   | some (.c (.uX f ss))=>mC P T m f (xs++Ci ss) o.type o.dst st V K
   | some (.c (.XW f vs))=>mC P T .none f (.agg (vs.map .v)::xs) o.type o.dst st V K
   | _=>False
  | none=>False
 | .call ⟨.invoke recv name,args,_⟩=>match cR st.bQ args.toList with
  | some xs=>match st.bQ recv with
   | some (.c (.w (.iface t v)))=>match On P t name with
    | some f=>mC P T m f (.c (.w v)::xs) o.type o.dst st V K
    | none=>False
   | _=>False
  | none=>False
 | op=>Ay (aW T st.bQ st.boxes op) o.dst st V K
def dU (P:Program)(T:eA)(m:CM)(h:ý)(o:Oper)(st:St)(V:Ó)(K:St->Ó->Prop):Prop:=
 match h with
 | .free=>d_ P T m o st V K
 | .own l=>match cR st.bQ (nH o.op) with
  | some xs=>match WU (iq st.boxes o.op (xs.flatMap SV.ids)) l with
   | true=>d_ P T m o st V K
   | false=>False
  | none=>False
def mz:SV:=.xU []
def xJ (P:Program)(T:eA)(m:CM)(h:ý)(ops:Array Oper)(o:Oper)(st:St)(V:Ó)(K:St->Ó->Prop):Prop:=
 match o.guard with
 | none=>dU P T m h o st V K
 | some (j,b)=>match (ops[j]?).bind (·.dst) with
  | none=>False
  | some g=>match st.aF g with
   | some (.c .tt)=>match b with
    | true=>dU P T m h o st V K
    | false=>K (st.put o.dst mz) V
   | some (.c .ff)=>match b with
    | true=>K (st.put o.dst mz) V
    | false=>dU P T m h o st V K
   | some (.c (.v (.bool c)))=>match b with
    | true=>(c=true->dU P T m h o (st.put (some g) (.c .tt)) V K)/\(c=false->K ((st.put (some g) (.c .ff)).put o.dst mz) V)
    | false=>(c=true->K ((st.put (some g) (.c .tt)).put o.dst mz) V)/\(c=false->dU P T m h o (st.put (some g) (.c .ff)) V K)
   | some (.xU _)=>K (st.put o.dst mz) V
   | _=>False
inductive Cls where
 | pure|load|store|alloc|call|oG|odd|kL|app|give
def bM (LF RF:List Nat):Op->Cls
 | .move _|.assign _|.pick ..| .build ..| .nilCheck _|.binOp ..| .unOp ..| .convert ..| .makeFunc ..| .slice ..| .fieldAddr ..| .field ..| .indexAddr ..| .extract ..| .index ..| .makeInterface ..=>.pure
 | .load ..=>.load
 | .store ..=>.store
 | .alloc _|.box ..| .buildSlice ..| .makeSlice ..=>.alloc
 | .call ⟨.builtin .len,_,_⟩|.call ⟨.builtin .cap,_,_⟩=>.pure
 | .call ⟨.builtin .append,_,_⟩=>.app
 | .call ⟨.value (.func f),_,_⟩=>match jm f LF with
  | true=>match jm (f+1000000) LF with
   | true=>.give
   | false=>.oG
  | false=>match jm f RF with
   | true=>.odd
   | false=>match jm (f+1000000) RF with
    | true=>.kL
    | false=>.call
 | .call ⟨.value _,_,_⟩=>.oG
 | .call ⟨.invoke _ _,_,_⟩=>.call
 | _=>.odd
def kI (op:Op):List Nat:=op.operands.toList.filterMap λ|.tmp t=>some t|_=>none
def gR (ops:Array Oper)(o:Oper):List Nat:=
 match o.guard with
 | none=>[]
 | some (j,_)=>match (ops[j]?).bind (·.dst) with
  | some g=>[g]
  | none=>[]
def fS (o:Oper):List Nat:=match o.dst with|some d=>[d]|none=>[]
def xo (c:Cls)(h:ý)(d:List Nat):Option (List Nat×List Nat):=
 match c,h with
 | .pure,.free=>some ([],[])
 | .call,.free=>some ([],[])
 | .alloc,.free=>some (d,d)
 | .load,.own l=>some (l,[])
 | .store,.own l=>some (l,l)
 | .oG,.own l=>some (l,l++d++d.map (·+ 200000))
 | .app,.own l=>some (l,l++d++d.map (·+ 200000))
 | .give,.own l=>some (l,l++d++d.map (·+ 200000))
 | _,_=>none
def rS:Cls->Bool
 | .pure|.load|.store|.alloc=>true
 | _=>false
def ğ (LF RF:List Nat)(ops:Array Oper)(F M:ý)(u y:Oper):Bool:=
 rS (bM LF RF u.op) &&
 Fa (fS u) (kI y.op++gR ops y++fS y)&&Fa (fS y) (kI u.op++gR ops u) &&
 Fa (gR ops u) (kI y.op)&&Fa (gR ops y) (kI u.op) &&
 match xo (bM LF RF u.op) F (fS u),xo (bM LF RF y.op) M (fS y) with
 | some (N,z),some (O,E)=>Fa z O&&Fa E N&&Fa z E
 | _,_=>false
def fstOf (ops:List Oper)(t:Nat):Option Oper:=ops.find? λo=>match o.dst with|some d=>Nat.beq d t|none=>false
def Dw (st:St)(ops:List Oper):Nat->Operand->List Nat
 | 0,_=>[]
 | n+1,.tmp t=>match fstOf ops t with
  | some o=>match o.op with
   | .alloc _|.box ..| .buildSlice ..| .makeSlice ..=>[t]
   | .call _=>[t,t+200000]
   | .assign x=>Dw st ops n x++match st.aF t with
    | some x=>x.ids
    | none=>[]
   | .load _ a=>(Dw st ops n a).flatMap (pj st.boxes)
   | op=>op.operands.toList.flatMap (Dw st ops n)
  | none=>match st.aF t with
   | some x=>x.ids
   | none=>[]
 | _,_=>[]
def UX (LF RF:List Nat)(st:St)(ops:List Oper)(o:Oper):ý:=
 match bM LF RF o.op with
 | .load|.store=>.own (ô ((nH o.op).flatMap (Dw st ops 10)))
 | .oG|.app|.give=>.own (ï st.boxes 3 (ô ((nH o.op).flatMap (Dw st ops 10))))
 | _=>.free
def TL (ops:List Oper):List Nat:=
 ops.foldl (λacc o=>acc++[o.after.toList.foldl (λs e=>cond (Region.binds .any e) (Nat.lor (Nat.lor (Nat.shiftLeft 1 e.on) (acc.getD e.on 0)) s) s) 0]) []
def bitB (m i:Nat):Bool:=Nat.beq (Nat.land (Nat.shiftRight m i) 1) 1
def YM (LF RF:List Nat)(o:Oper):Bool:=match bM LF RF o.op with|.call|.oG|.odd|.kL|.app|.give=>true|_=>false
def OR (ops:Array Oper)(done:List Nat)(i:Nat):Bool:=
 match ops[i]? with
 | some o=>!(jm i done)&&o.after.toList.all λe=>!(Region.binds .any e)||jm e.on done
 | none=>false
def Jk (LF RF:List Nat)(ops:Array Oper):Nat->List Nat->List Nat
 | 0,_=>[]
 | n+1,done=>
  let rs:=(List.range ops.size).filter (OR ops done)
  match rs.find? (λi=>match ops[i]? with|some o=>!(YM LF RF o)|none=>false) with
  | some i=>i::Jk LF RF ops n (i::done)
  | none=>match rs with
   | i::_=>i::Jk LF RF ops n (i::done)
   | []=>[]
def vB (LF RF:List Nat)(ops:Array Oper):List Nat:=Jk LF RF ops ops.size []
def Bt (LF RF:List Nat)(ops:Array Oper)(u:List ý)(y:List Nat):List Nat->Bool
 | []=>true
 | i::r=>(r.all λj=>bitB (y.getD j 0) i||match ops[i]?,ops[j]? with|some a,some b=>ğ LF RF ops (u.getD i .free) (u.getD j .free) a b|_,_=>false)&&Bt LF RF ops u y r
def w_ (ops:Array Oper):List Nat->List Nat->Bool
 | _,[]=>true
 | done,i::r=>OR ops done i&&w_ ops (i::done) r
def QA (LF RF:List Nat)(ops:Array Oper)(u:List ý)(l:List Nat):Bool:=
 Nat.beq l.length ops.size&&((List.range ops.size).all λi=>jm i l)&&w_ ops [] l&&Bt LF RF ops u (TL ops.toList) l
def W9 (P:Program)(T:eA)(m:Nat->CM)(hint:Nat->ý)(ops:Array Oper):List Nat->St->Ó->(St->Ó->Prop)->Prop
 | [],st,V,K=>K st V
 | i::r,st,V,K=>match ops[i]? with
  | some o=>xJ P T (m i) (hint i) ops o st V λu V'=>W9 P T m hint ops r u V' K
  | none=>False
def nI (LF RF:List Nat)(ops:Array Oper)(i:Nat):CM:=
 match ops[i]? with
 | some o=>match bM LF RF o.op with
  | .oG=>.au
  | .odd=>.rel
  | .kL=>.kL
  | .give=>.give
  | _=>.none
 | Option.none=>.none
def modeN (LF RF:List Nat)(ops:Array Oper)(i:Nat):CM:=
 match ops[i]? with
 | some o=>match bM LF RF o.op with
  | .oG=>.au
  | .kL=>.kL
  | .give=>.give
  | _=>.rel
 | Option.none=>.none
structure Tm where
 τ:Type
 gh:Bool:=false
 keep:List Nat
 keepB:List Nat
 aF:τ->List (Nat×SV)
 boxes:τ->List (Nat×aZ)
structure Ann where
 τ:Type
 aF:τ->List (Nat×SV)
 boxes:τ->List (Nat×aZ)
def Qi {α:Type}(f:Nat->Option α):List Nat->List (Nat×α)
 | []=>[]
 | t::r=>match f t with
  | some x=>(t,x)::Qi f r
  | none=>Qi f r
def Tm.at (A:Tm)(st:St):Ann:=⟨A.τ,λx=>Qi st.aF A.keep++A.aF x,λx=>Qi st.boxes A.keepB++A.boxes x⟩
def u_ (ρ:List (Nat×Nat))(s s':Nat):Bool:=
 match aI ρ s' with
 | some t=>Nat.beq s t
 | none=>Nat.beq s s'
def GW (ρ:List (Nat×Nat)):List Nat->List Nat->Bool
 | [],[]=>true
 | s::r,s'::u=>u_ ρ s s'&&GW ρ r u
 | _,_=>false
def eqC (ρ:List (Nat×Nat)):C->C->List Prop
 | .v (.int k a),.v (.int k' b)=>cond (CN k k') [a=b] [False]
 | .v (.bool a),.v (.bool b)=>[a=b]
 | .tt,.v (.bool b)=>[true=b]
 | .ff,.v (.bool b)=>[false=b]
 | .v (.slice a n c),.v (.slice E n' u)=>[a=E,n=n',c=u]
 | .v (.slice a n c),.eM _ n' u=>[a=none,n=n',c=u,c=0]
 | .v (.pointer p),.v (.pointer q)=>[p=q]
 | .v x,.v y=>[x=y]
 | .w x,.w y=>[x=y]
 | .w x,.v y=>[x=y]
 | .v x,.w y=>[x=y]
 | .tt,.tt=>[]
 | .ff,.ff=>[]
 | .ptr s o,.ptr s' z=>cond (u_ ρ s s') [o=z] [False]
 | .nN s o n c,.nN s' z n' u=>cond (u_ ρ s s') [o=z,n=n',c=u] [False]
 | .nN s o n c,.eM s' n' u=>cond (u_ ρ s s') [o=0,n=n',c=u,c≠0] [False]
 | .eM s n c,.eM s' n' u=>cond (u_ ρ s s') [n=n',c=u] [False]
 | .uX f ss,.uX g ts=>cond (GW ρ ss ts) [f=g] [False]
 | .XW f vs,.XW g ws=>[f=g,vs=ws]
 | _,_=>[False]
def NY (ρ:List (Nat×Nat)):List C->List C->List Prop
 | [],[]=>[]
 | a::r,b::s=>eqC ρ a b++NY ρ r s
 | _,_=>[False]
def eqSV (ρ:List (Nat×Nat)):SV->SV->List Prop
 | .c a,.c b=>eqC ρ a b
 | .agg l,.agg m=>NY ρ l m
 | _,_=>[False]
def SV.plain:SV->Bool
 | .xU _=>false
 | _=>true
def UF (ρ:List (Nat×Nat))(a b:aZ):List Prop:=
 match a.cs,b.cs with
 | .lit l,.lit m=>cond (Nat.beq a.ty b.ty) (NY ρ l m) [False]
 | .row l,.row m=>cond (Nat.beq a.ty b.ty) [l=m] [False]
 | .aH l,.aH m=>cond (Nat.beq a.ty b.ty) [l=m] [False]
 | .row l,.aH m=>cond (Nat.beq a.ty b.ty) [l=m] [False]
 | .lit l,.aH m=>match ni l with
  | some ws=>cond (Nat.beq a.ty b.ty) [ws=m] [False]
  | none=>[False]
 | .lit l,.row m=>match ni l with
  | some ws=>cond (Nat.beq a.ty b.ty) [ws=m] [False]
  | none=>[False]
 | _,_=>[False]
def renC:C->C->List (Nat×Nat)
 | .ptr s _,.ptr s' _=>[(s',s)]
 | .nN s _ _ _,.nN s' _ _ _=>[(s',s)]
 | .nN s _ _ _,.eM s' _ _=>[(s',s)]
 | .eM s _ _,.eM s' _ _=>[(s',s)]
 | .uX _ ss,.uX _ ts=>ts.zip ss
 | _,_=>[]
def Wr:List C->List C->List (Nat×Nat)
 | a::r,b::s=>renC a b++Wr r s
 | _,_=>[]
def renSV:SV->SV->List (Nat×Nat)
 | .c a,.c b=>renC a b
 | .agg l,.agg m=>Wr l m
 | _,_=>[]
def renS (st:St):List (Nat×SV)->List (Nat×Nat)
 | []=>[]
 | (t,x)::r=>match st.aF t with
  | some y=>renSV y x++renS st r
  | none=>renS st r
def S8 (st:St)(ρ:List (Nat×Nat)):List (Nat×aZ)->List (Nat×Nat)
 | []=>[]
 | (t,x)::r=>match aI ρ t with
  | some s=>match st.boxes s with
   | some y=>(match y.cs,x.cs with|.lit l,.lit m=>Wr l m|_,_=>[])++S8 st ρ r
   | none=>S8 st ρ r
  | none=>S8 st ρ r
def Wq (st:St)(ss:List (Nat×SV))(u:List (Nat×aZ)):List (Nat×Nat):=
 let ρ1:=renS st ss
 let ρ2:=ρ1++S8 st ρ1 u
 let ρ3:=ρ2++S8 st ρ2 u
 ρ3++S8 st ρ3 u
def LS (ρ:List (Nat×Nat))(t:Nat):Nat:=
 match aI ρ t with
 | some s=>s
 | none=>t
def Hm (ρ:List (Nat×Nat)):List Nat->Bool
 | []=>true
 | t::r=>(Nat.blt t 100000==Nat.blt (LS ρ t) 100000)&&(Nat.blt t 100000||Nat.ble 200000 t||Nat.beq (LS ρ t) t)&&(r.all λu=>!(Nat.beq (LS ρ t) (LS ρ u)))&&Hm ρ r
def rV (ρ:List (Nat×Nat)):List (Nat×aZ)->List Nat
 | []=>[]
 | (t,x)::r=>match x.cs with
  | .aH _=>match aI ρ t with
   | some _=>t::rV ρ r
   | none=>rV ρ r
  | _=>t::rV ρ r
def Yn (ρ:List (Nat×Nat))(st:St):List (Nat×SV)->List Prop
 | []=>[]
 | (t,x)::r=>match st.aF t with
  | some y=>eqSV ρ y x++Yn ρ st r
  | none=>[False]
def Sk (ρ:List (Nat×Nat))(st:St):List (Nat×aZ)->List Prop
 | []=>[]
 | (t,x)::r=>match x.cs,aI ρ t with
  | .aH l,none=>(l=[])::Sk ρ st r
  | _,_=>match st.boxes (LS ρ t) with
   | some y=>UF ρ y x++Sk ρ st r
   | none=>[False]
def fitR (ρ:List (Nat×Nat))(u:List (Nat×aZ)):List Prop:=cond (Hm ρ (rV ρ u)) [] [False]
def sE (ss:List (Nat×SV))(u:List (Nat×aZ)):Bool:=
 let l:=u.map (·.1)
 (ss.all λx=>x.2.ids.all λs=>jm s l)&&(u.all λx=>x.2.cs.ids.all λs=>jm s l)
def Ann.st (A:Ann)(x:A.τ):St:=⟨aI (A.aF x),aI (A.boxes x)⟩
def allL:List Prop->Prop
 | []=>True
 | [p]=>p
 | p::r=>p/\allL r
def Ann.fits (A:Ann)(st:St)(x:A.τ)(k:Prop):Prop:=
 let ρ:=Wq st (A.aF x) (A.boxes x)
 allL (Yn ρ st (A.aF x)++Sk ρ st (A.boxes x)++fitR ρ (A.boxes x))/\k
def Ğ:Code->Nat
 | .region id _ _=>id
 | .seq a _=>Ğ a
 | .cond _ a b=>match Ğ a with
  | 1000000=>Ğ b
  | n=>n
 | .block _ a=>Ğ a
 | .loop a=>Ğ a
 | .scope a=>Ğ a
 | _=>1000000
abbrev J1:=List (Nat×Tm)
def vS:J1->Nat->Option Tm
 | [],_=>none
 | (s,x)::r,t=>cond (Nat.beq t s) (some x) (vS r t)
def relAt (RF:List Nat)(id:Nat):List Nat:=RF.filterMap λx=>cond (Nat.beq (x/100000) (100+id)) (some (x%100000)) none
def Re (l:List Nat)(st:St)(V:Ó)(K:St->Ó->Prop):Prop:=
 match l with
 | []=>K st V
 | s::r=>match jP st.boxes (s::r)&&(s::r).all λt=>Nat.blt t 100000 with
  | false=>False
  | true=>∀V':Ó,V.Le V'->nX (s::r) (λ_=>0) λβ=>vt st.boxes β V' (s::r) (∀J:C->Value,K (st.rel (s::r) β J) V')
def Mo (P:Program)(T:eA)(LF RF:List Nat)(ops:Array Oper)(draw:Bool)(st:St)(V:Ó)(K:St->Ó->Prop):Prop:=
 match draw with
 | false=>W9 P T (modeN LF RF ops) (λ_=>.free) ops (List.range ops.size) st V K
 | true=>let u:=ops.toList.map (UX LF RF st ops.toList)
  match QA LF RF ops u (vB LF RF ops) with
  | true=>W9 P T (nI LF RF ops) (λi=>u.getD i .free) ops (vB LF RF ops) st V K
  | false=>False
def unr (F:St->Ó->(Exit->St->Ó->Prop)->Prop):Nat->St->Ó->(Exit->St->Ó->Prop)->Prop
 | 0,_,_,_=>False
 | n+1,st,V,K=>F st V λe u V'=>match e with
  | .normal=>unr F n u V' K
  | e=>K e u V'
def vc (P:Program)(T:eA)(LF RF:List Nat)(L J:J1):Code->St->Ó->(Exit->St->Ó->Prop)->Prop
 | .skip,st,V,K=>K .normal st V
 | .region id ops draw,st,V,K=>match vS J (600000+id) with
  | none=>Re (relAt RF id) st V λu V'=>Mo P T LF RF ops draw u V' (K .normal)
  | some A=>∃I:A.τ->Ó->Prop,Re (relAt RF id) st V (λu V'=>Mo P T LF RF ops draw u V' λE z=>∃x,(A.at st).fits E x (I x z)) /\
   ∀x V',V.Le V'->I x V'->(sE ((A.at st).aF x) ((A.at st).boxes x)=true/\K .normal ((A.at st).st x) V')
 | .seq a b,st,V,K=>vc P T LF RF L J a st V λe u V'=>match e with
  | .normal=>vc P T LF RF L J b u V' K
  | e=>K e u V'
 | .cond c a b,st,V,K=>match vS J (Ğ (.cond c a b)) with
  | none=>match st.bQ c with
   | some (.c .tt)=>vc P T LF RF L J a st V K
   | some (.c .ff)=>vc P T LF RF L J b st V K
   | some (.c (.v (.bool t)))=>(t=true->vc P T LF RF L J a st V K)/\(t=false->vc P T LF RF L J b st V K)
   | _=>False
  | some A=>match st.bQ c with
   | some (.c .tt)=>vc P T LF RF L J a st V K
   | some (.c .ff)=>vc P T LF RF L J b st V K
   | some (.c (.v (.bool t)))=>∃I:A.τ->Ó->Prop,
    ((t=true->vc P T LF RF L J a st V λe u V'=>match e with
     | .normal=>∃x,(A.at st).fits u x (I x V')
     | e=>K e u V') /\
      (t=false->vc P T LF RF L J b st V λe u V'=>match e with
     | .normal=>∃x,(A.at st).fits u x (I x V')
     | e=>K e u V')) /\
    ∀x V',V.Le V'->I x V'->(sE ((A.at st).aF x) ((A.at st).boxes x)=true/\K .normal ((A.at st).st x) V')
   | _=>False
 | .block id a,st,V,K=>match vS J (500000+id) with
  | none=>vc P T LF RF L J a st V λe u V'=>match e with
   | .exit i=>cond (Nat.beq i id) (K .normal u V') (K (.exit i) u V')
   | e=>K e u V'
  | some A=>∃I:A.τ->Ó->Prop,vc P T LF RF L J a st V (λe u V'=>match e with
   | .exit i=>cond (Nat.beq i id) (∃x,(A.at st).fits u x (I x V')) (K (.exit i) u V')
   | .normal=>∃x,(A.at st).fits u x (I x V')
   | e=>K e u V')/\∀x V',V.Le V'->I x V'->(sE ((A.at st).aF x) ((A.at st).boxes x)=true/\K .normal ((A.at st).st x) V')
 | .loop a,st,V,K=>match vS L (Ğ a) with
  | none=>unr (λst V K=>vc P T LF RF L J a st V K) 3 st V K
  | some A=>match A.gh with
   | false=>∃(I:A.τ->Ó->Prop)(m:A.τ->Nat),(∃x,(A.at st).fits st x (I x V))/\∀x V',V.Le V'->I x V'->(sE ((A.at st).aF x) ((A.at st).boxes x)=true /\
    vc P T LF RF L J a ((A.at st).st x) V' λe u z=>match e with
     | .normal=>∃y,m y<m x/\(A.at st).fits u y (I y z)
     | e=>K e u z)
   | true=>∃I:A.τ->Nat->Ó->Prop,(∃x k,(A.at st).fits st x (I x k V))/\∀x k V',V.Le V'->I x k V'->(sE ((A.at st).aF x) ((A.at st).boxes x)=true /\
    vc P T LF RF L J a ((A.at st).st x) V' λe u z=>match e with
     | .normal=>∃y k',k'<k/\(A.at st).fits u y (I y k' z)
     | e=>K e u z)
 | .exit id,st,V,K=>K (.exit id) st V
 | .ret,st,V,K=>K .ret st V
 | .scope a,st,V,K=>vc P T LF RF L J a st V λe u V'=>match e with
  | .goto _=>False
  | e=>K e u V'
 | .label _,st,V,K=>K .normal st V
 | _,_,_,_=>False
def qh (T:eA)(st:St):List ResultVar->Option (List SV)
 | []=>some []
 | .tmp t::r=>match st.aF t,qh T st r with
  | some x,some l=>some (x::l)
  | _,_=>none
 | .cell a t::r=>match st.aF a,aI T t,qh T st r with
  | some (.c (.ptr s o)),some i,some l=>match mh st.boxes i (.c (.ptr s o)) with
   | .ret _ x=>some (x::l)
   | _=>none
  | _,_,_=>none
def Ā (l m:List Nat):List Nat:=l.filter λx=>!(jm x m)
def TZ (bx:Nat->Option aZ)(β:Nat->Nat)(V:Ó):List Nat->Prop->Prop
 | [],k=>k
 | s::r,k=>match bx s with
  | some ⟨.aH _,_⟩=>False
  | some b=>V.w.heap[β s]?=some (b.obj β)->TZ bx β V r k
  | none=>False
def mF:List (Nat×aZ)->List Nat
 | []=>[]
 | (s,b)::r=>match b.cs with
  | .aH _=>mF r
  | _=>s::mF r
def Vt (u:List (Nat×aZ))(β0:Nat->Nat)(b:Nat)(k:Prop):Prop:=
 match u with
 | []=>k
 | (m,x)::r=>match x.cs with
  | .aH vs=>(vs≠[]/\b=β0 m)\/Vt r β0 b k
  | _=>Vt r β0 b k
def qg (β:Nat->Nat):List SV->Value
 | [x]=>x.den β
 | l=>.tuple (l.map (SV.den β)).toArray
def z_ (T:eA)(bx:Nat->Option aZ)(s:Nat):Bool:=
 cond (Nat.ble 100000 s) true (match bx s with|some ⟨.row _,ty⟩|some ⟨.aH _,ty⟩=>Nat.ble 2 (T.filter λx=>Nat.beq x.1 ty).length|some ⟨.lit _,ty⟩=>Nat.ble 3 (T.filter λx=>Nat.beq x.1 ty).length|_=>false)
def QK (T:eA)(rs:List ResultVar)(u:List (Nat×aZ))(β0:Nat->Nat)(y:Nat)(R:Value->Ó->Prop)(st:St)(V:Ó):Prop:=
 match qh T st rs with
 | none=>False
 | some xs=>let F:=mF u
  let L:=ï st.boxes 3 (ô (xs.flatMap SV.ids++F))
  match jP st.boxes L with
  | false=>False
  | true=>match (Ā L F).filter (z_ T st.boxes) with
   | []=>∀V':Ó,V.Le V'->nX (Ā L F) β0 λβ=>TZ st.boxes β V' F (vt st.boxes β V' (Ā L F) (R (qg β xs) V'))
   | [s]=>match st.boxes s with
    | some b=>∀V':Ó,nX (Ā L F) β0 λβ=>V.Le (V'.aY (gdP b) (β s))->TZ st.boxes β V' F (wI (Tv b) (V'.w.heap[β s]?=some (b.obj β)) ->
      wI (Tv b) (y<=β s\/Vt u β0 (β s) False)->vt st.boxes β V' ((Ā L F).filter (!Nat.beq s ·)) (R (qg β xs) V'))
    | none=>False
   | _=>False
def vcFn (P:Program)(T:eA)(LF RF:List Nat)(L J:J1)(code:Code)(rs:List ResultVar)(ss:List (Nat×SV))(u:List (Nat×aZ))(β0:Nat->Nat)(V:Ó)(R:Value->Ó->Prop):Prop:=
 vc P T LF RF L J code ⟨aI ss,aI u⟩ V λe st V'=>match e with
  | .normal=>QK T rs u β0 V.w.heap.size R st V'
  | .ret=>QK T rs u β0 V.w.heap.size R st V'
  | _=>False
def kv (n:Nat):Code->Bool
 | .region _ ops _=>ops.toList.all λo=>match o.dst with|some d=>Nat.blt d n|none=>true
 | .seq a b=>kv n a&&kv n b
 | .cond _ a b=>kv n a&&kv n b
 | .block _ a=>kv n a
 | .loop a=>kv n a
 | .scope a=>kv n a
 | _=>true
def tE:Nat->List (Nat×SV)->Bool
 | _,[]=>true
 | i,(j,x)::r=>Nat.beq i j&&x.plain&&tE (i+1) r
def Jw (P:Program)(T:eA)(LF RF:List Nat)(L J:J1)(fn:Func)(ss:List (Nat×SV))(u:List (Nat×aZ))(β0:Nat->Nat)(V:Ó)(R:Value->Ó->Prop):Prop:=
 match fn.body with
 | some code=>match kv fn.ntmps code&&tE 0 ss&&Nat.ble ss.length fn.ntmps&&Nat.ble fn.ntmps 100000&&(u.all λb=>Nat.ble 100000 b.1&&Nat.blt b.1 200000)&&sE ss u with
  | true=>vcFn P T LF RF L J code fn.results.toList ss u β0 V R
  | false=>False
 | none=>False
theorem Ó.Le.refl (V:un):V.Le V:=λ_ _ h=>h
def Ó.Le.m {u:un}(h:V.Le V')(k:V'.Le u):V.Le u:=λb o x=>k b o (h b o x)
def leLd {u:zA Nat}(h:V.Le V'):V.Le (V'.au u):=h
def leSh (h:V.Le V'):V.Le V'.shut:=h
def aA (h:V.Le V':=by with_reducible repeat first|assumption|exact Ó.Le.refl _|apply leLd|apply leSh|refine Ó.Le.m ?_ ξ):V.Le V':=h
def ra {p:Prop}(h:p:=by first|exact .le (by with_reducible assumption) aA|exact .le (by with_reducible assumption) aA λ_ _ g=>.le g aA):p:=h
def Ó.Le.at (h:V.Le V'){p:Addr}{v:um}(k:V.at p v):V'.at p v:=by obtain ⟨b,a⟩:=k;unfold World.cell? at a;split at a;{rename_i c;have ⟨d,e⟩:=h p.block _ ⟨b,c⟩;refine ⟨d,?_⟩<;>grind [World.cell?]};cases a
def kQ.refl (X:Nat->Prop)(w:World):kQ X w w:=⟨Ù _,λ_ _ _=>rfl,rfl,rfl,rfl,Ù _⟩
def kQ.m {X:Nat->Prop}{a b c:World}(h:kQ X a b)(k:kQ X b c):kQ X a c:=
 ⟨ÿ h.size k.size,λi d e=>(k.bo i (Ľ d h.size) e).m (h.bo i d e),k.os.m h.os,k.tape.m h.tape,k.out.m h.out,ÿ h.dr k.dr⟩
def kQ.s {X Y:Nat->Prop}{a b:World}(h:kQ X a b)(hxy:∀i,X i->Y i):kQ Y a b:=
 ⟨h.size,λi c d=>h.bo i c λe=>d (hxy i e),h.os,h.tape,h.out,h.dr⟩
def Ó.Vg (V:un)(w':World)(u:kQ V.X V.w w'):V.Le (V.to w' u.size):=by rintro b o ⟨a,d⟩;refine ⟨a,?_⟩;have c:b<V.w.heap.size:=χ;show w'.heap[b]?=some o;grind [u.bo,V.hX]
def ae.s {P:Program}{f:FuncId}{args:Array um}{R u:um->un->Prop}(h:ae P f args V R)(y:∀r V',V.Le V'->R r V'->u r V'):ae P f args V u:=
 ⟨h.1,h.2.s λ_ b ⟨r,he,a,c⟩=>⟨r,he,a,y r _ (V.Vg b a) c⟩⟩
structure Nl where
 ids:List Nat
 B:Nat->Prop
section
variable(n:Nat)(V0:Ó)(bU:Nl)(β0:Nat->Nat)
structure ß (st:St) (β:Nat->Nat) (a:Act) (w:World) (V:Ó):Prop where
 defers:a.defers=[]
 size:a.tmps.size=n
 aF:∀t x,st.aF t=some x->a.tmps.getD t undef=x.den β
 EK:∀t x,st.aF t=some x->∀s∈x.ids,∃b,st.boxes s=some b
 EJ:∀s b,st.boxes s=some b->∀s'∈b.cs.ids,∃b',st.boxes s'=some b'
 boxes:∀s b,st.boxes s=some b->b.live->w.heap[β s]?=some (b.obj β)
 inj:∀s s' b b',st.boxes s=some b->b.live->st.boxes s'=some b'->b'.live->β s=β s'->s=s'
 tK:∀b o,V.bo b o->w.heap[b]?=some o/\¬V0.H b
 Ar:∀s b,st.boxes s=some b->b.live->∀o,¬V.bo (β s) o
 ext:kQ V0.X V0.w w
 own:∀s b,st.boxes s=some b->b.live->V0.w.heap.size<=β s\/(100000<=s/\bU.B (β s))
 pf:∀s∈bU.ids,(100000<=s/\s<200000)/\β s=β0 s
 nt:∀b,bU.B b->V0.X b
 small:n<=100000
end
theorem dP {cs:zA C}{ty:TypeId}:aZ.live ⟨.lit cs,ty⟩:=λ_ h=>nomatch h
theorem dQ {vs:zA um}{ty:TypeId}:aZ.live ⟨.row vs,ty⟩:=λ_ h=>nomatch h
theorem gI {vs:zA um}{ty:TypeId}(h:vs≠[]):aZ.live ⟨.aH vs,ty⟩:=λ_ e=>by cases e;exact h
theorem fW {ty:TypeId}:¬aZ.live ⟨.aH [],ty⟩:=λh=>h [] rfl rfl
theorem kX {b:aZ}{k:Prop}:wI (Tv b) k↔(b.live->k):=by obtain ⟨cs,ty⟩:=b;(cases cs with|lit cs=>exact ⟨λh _=>h,λh=>h dP⟩|row cs=>exact ⟨λh _=>h,λh=>h dQ⟩|aH vs=>exact ⟨λh l=>h (l vs rfl),λh l=>h (gI l)⟩)
theorem zO {l m:zA Prop}{k:Prop}:wI (l++m) k↔wI l (wI m k):=by
 induction l with
 | nil=>exact Iff.rfl
 | cons p r u=>exact ⟨λh a=>u.1 (h a),λh a=>u.2 (h a)⟩
def Yu {b:aZ}:gdP b↔b.live:=by obtain ⟨cs,ty⟩:=b;(cases cs with|lit cs=>exact ⟨λ_=>dP,λ_=>trivial⟩|row cs=>exact ⟨λ_=>dQ,λ_=>trivial⟩|aH vs=>exact ⟨λh=>gI h,λl=>l vs rfl⟩)
def C.bZ {β β':Nat->Nat}{c:C}(h:∀s∈c.ids,β s=β' s):c.den β=c.den β':=by
 cases c with
 | v x=>rfl
 | w x=>rfl
 | tt=>rfl
 | ff=>rfl
 | ptr s o=>simp [C.den,h s (by simp [C.ids])]
 | nN s o n c=>simp [C.den,h s (by simp [C.ids])]
 | eM s n c=>simp [C.den,h s (by simp [C.ids])]
 | uX f ss=>
  have:(ss.map λs=>Value.pointer (some ⟨β s,0,none⟩))=ss.map λs=>Value.pointer (some ⟨β' s,0,none⟩):=
   Ř λs a=>by rw [h s (by simpa [C.ids] using a)]
  simp only [C.den,this]
 | XW f vs=>rfl
def Gn {β:Nat->Nat}:∀{cs:zA C} {vs:zA um},PS cs=some vs->cs.map (C.den β)=vs
 | [],_,h=>by cases h;rfl
 | .v x::r,vs,h=>by
  unfold PS at h;split at h
  ·rename_i l u;cases h;rw [Ĺ,Gn u];rfl
  ·cases h
theorem pQ {β β':Nat->Nat}{cs:zA C}(h:∀s∈cs.flatMap C.ids,β s=β' s):cs.map (C.den β)=cs.map (C.den β'):=
 Ř λc a=>C.bZ λs b=>h s (č.2 ⟨c,a,b⟩)
def E8 {β β':Nat->Nat}{x:ut×zA C}(h:∀s∈x.2.flatMap C.ids,β s=β' s):kT β x=kT β' x:=by
 obtain ⟨b,cs⟩:=x
 cases b with
 | true=>simp only [kT];rw [pQ h]
 | false=>
  match cs,h with
  | [],_=>rfl
  | [c],h=>simp only [kT];exact C.bZ λs a=>h s (by simpa using a)
  | _::_::_,_=>rfl
theorem SV.bZ {β β':Nat->Nat}{x:SV}(h:∀s∈x.ids,β s=β' s):x.den β=x.den β':=by (cases x with|c x=>exact C.bZ h|agg cs=>{simp only [SV.den];rw [pQ h]}|xU xs=>{simp only [SV.den];congr 2;exact Ř λx a=>E8 λs b=>h s (č.2 ⟨x,a,b⟩)})
def æ.bZ {β β':Nat->Nat}{x:æ}(h:∀s∈x.ids,β s=β' s):x.den β=x.den β':=by (cases x with|lit cs=>exact pQ h|row vs=>rfl|aH vs=>rfl)
theorem aZ.dK {β β':Nat->Nat}{x:aZ}(h:∀s∈x.cs.ids,β s=β' s):x.obj β=x.obj β':=by simp only [aZ.obj];rw [æ.bZ h]
variable{P:Program}{T:eA}{n:Nat}{V0:Ó}{bU:Nl}{β0:Nat->Nat}{st:St}{β:Nat->Nat}{a:Act}{w:World}{V:Ó}
def ß.eval (h:ß n V0 bU β0 st β a w V){x:Operand}{v:SV}(u:st.bQ x=some v):a.eval x=v.den β:=by
 cases x with
 | tmp t=>exact h.aF t v u
 | const c=>
  simp only [St.bQ,ā] at u;subst u;simp only [Act.eval];unfold SV.ofConst;split
  ·rfl
  ·rfl
  ·rename_i cs;simp only [SV.den];congr 1
   have:∀l:zA um,(l.map C.ofConst).map (C.den β)=l:=by
    intro l
    induction l with
    | nil=>rfl
    | cons y r z=>
     simp only [Ĺ,z];congr 1;unfold C.ofConst;split<;>rfl
   rw [this]
  ·rfl
 | global g=>simp only [St.bQ,ā] at u;subst u;rfl
 | func f=>simp only [St.bQ,ā] at u;subst u;simp [Act.eval,SV.den,C.den]
def ß.live (h:ß n V0 bU β0 st β a w V){x:Operand}{v:SV}(u:st.bQ x=some v):∀s∈v.ids,∃b,st.boxes s=some b:=by (cases x with|const c=>{simp only [St.bQ,ā] at u;subst u;intro s d;exfalso;have e:∀y,(C.ofConst y).ids=[]:=by{intro y;unfold C.ofConst;split<;>rfl};unfold SV.ofConst at d;grind [SV.ids,C.ids]}|_=>grind [h.EK,St.bQ,SV.ids,C.ids])
def beq_eq {a b:Nat}:Nat.beq a b=true↔a=b:=by constructor;{exact Nat.eq_of_beq_eq_true};intro h;subst h;exact Qb8 a
theorem eV (st:St)(d:Nat)(x:SV)(t:Nat):(st.put (some d) x).aF t=if t=d then some x else st.aF t:=by grind [St.put,Nat.beq_refl,beq_eq.1]
theorem aq (st:St)(s:Nat)(b:aZ)(t:Nat):(st.box s b).boxes t=if t=s then some b else st.boxes t:=by grind [St.box,Nat.beq_refl,beq_eq.1]
def wF (l:Array um)(d t:Nat)(v:um)(u:d<l.size):(l.setIfInBounds d v).getD t undef=if t=d then v else l.getD t undef:=by by_cases h:t=d;{subst h;simp [u]};simp [h,Ne.symm h]
def ß.put (h:ß n V0 bU β0 st β a w V){d:Nat}{x:SV}{v:um}(u:d<n)(E:v=x.den β)(z:∀s∈x.ids,∃b,st.boxes s=some b):ß n V0 bU β0 (st.put (some d) x) β (a.put (some d) v) w V where
 defers:=h.defers
 size:=by simp [Act.put,h.size]
 aF:=by
  intro t y c;rw [eV] at c;show (a.tmps.setIfInBounds d v).getD t undef=_;rw [wF _ _ _ _ (by rw [h.size];exact u)];grind [h.aF]
 EK:=by intro t y c;rw [eV] at c;split at c;{simp only [ā] at c;rw [<-c];exact z};exact h.EK t y c
 EJ:=h.EJ
 boxes:=h.boxes
 inj:=h.inj
 tK:=h.tK
 Ar:=h.Ar
 ext:=h.ext
 own:=h.own
 pf:=h.pf
 nt:=h.nt
 small:=h.small
def ß.LG (h:ß n V0 bU β0 st β a w V){d:Option Nat}{x:SV}{v:um}(u:∀k,d=some k->k<n)(y:v=x.den β)(z:∀s∈x.ids,∃b,st.boxes s=some b):ß n V0 bU β0 (st.put d x) β (a.put d v) w V:=by (cases d with|none=>exact h|some d=>exact h.put (u d rfl) y z)
def ß.drew (h:ß n V0 bU β0 st β a w V):ß n V0 bU β0 st β a { w with drawn:=w.drawn+1 } V:=
 ⟨h.defers,h.size,h.aF,h.EK,h.EJ,h.boxes,h.inj,h.tK,h.Ar,⟨h.ext.size,h.ext.bo,h.ext.os,h.ext.tape,h.ext.out,Nat.le_succ_of_le h.ext.dr⟩,h.own,h.pf,h.nt,h.small⟩
def aN {w:World}{b:Nat}{o:Obj}(h:w.heap[b]?=some o):b<w.heap.size:=χ
theorem fC (w:World)(o:Obj){b:Nat}(h:b<w.heap.size):(w.alloc o).heap[b]?=w.heap[b]?:=by show (w.heap.push o)[b]?=_;grind
def heap_alloc_new (w:World)(o:Obj):(w.alloc o).heap[w.heap.size]?=some o:=by show (w.heap.push o)[w.heap.size]?=_;rw [Array.getElem?_push,Ä rfl]
theorem bh (β:Nat->Nat)(s b:Nat):cF β s b s=b:=by simp [cF,Qb8]
theorem jd (β:Nat->Nat){s t:Nat}(b:Nat)(h:t≠s):cF β s b t=β t:=by have:Nat.beq t s=false:=by{grind [beq_eq.1]};simp [cF,this]
def ß.new (h:ß n V0 bU β0 st β a w V){d:Nat}{b:aZ}(F:d<n)(E:st.boxes d=none)(M:∀s∈b.cs.ids,∃b',st.boxes s=some b'):ß n V0 bU β0 (st.box d b) (cF β d w.heap.size) a (w.alloc (b.obj β)) V:=by have r:∀s b',st.boxes s=some b'->s≠d:=λs b' c e=>by{rw [e,E] at c;cases c};have hβ:∀s b',st.boxes s=some b'->cF β d w.heap.size s=β s:=λs b' c=>jd _ _ (r s b' c);have f:∀s b',st.boxes s=some b'->b'.live->β s<w.heap.size:=λs b' c l=>aN (h.boxes s b' c l);have y:∀b' o,V.bo b' o->b'<w.heap.size:=λb' o z=>aN (h.tK b' o z).1;refine ⟨h.defers,h.size,?_,?_,?_,?_,?_,?_,?_,?_,?_,?_,h.nt,?_⟩;{intro t x m;rw [h.aF t x m];exact SV.bZ λs c=>by{have ⟨b',g⟩:=h.EK t x m s c;exact (hβ s b' g).symm}};{intro t x m s c;have ⟨b',g⟩:=h.EK t x m s c;grind [aq]};{grind [aq,h.EJ]};{intro s b' c l;rw [aq] at c;split at c;{rename_i e;simp only [ā] at c;rw [e,bh,heap_alloc_new,<-c];grind [aZ.dK]};rw [hβ s b' c,fC _ _ (f s b' c l),h.boxes s b' c l];grind [aZ.dK,h.EJ]};{intro s u b1 b2 j A k B he;rw [aq] at j k;split at j<;>split at k;{rename_i p q;rw [p,q]};{rename_i p q;rw [p,bh,hβ u b2 k] at he;have:=f u b2 k B;omega};{rename_i p q;rw [q,bh,hβ s b1 j] at he;have:=f s b1 j A;omega};grind [h.inj]};{grind [h.tK,fC]};{intro s b' c l o v;rw [aq] at c;split at c;{rename_i e;rw [e,bh] at v;have:=y _ o v;omega};grind [h.Ar]};{exact h.ext.m ⟨ψ,λi C _=>fC _ _ C,rfl,rfl,rfl,Ù _⟩};{intro s b' c l;rw [aq] at c;split at c;{rename_i e;rw [e,bh];exact .inl h.ext.size};rw [hβ s b' c];exact h.own s b' c l};{intro s c;have ⟨j,k⟩:=h.pf s c;grind [jd,h.small]};exact h.small
def ß.void (h:ß n V0 bU β0 st β a w V){s:Nat}{ty:TypeId}:ß n V0 bU β0 (st.box s ⟨.aH [],ty⟩) β a w V:=by have hw:∀t b,st.boxes t=some b->∃u,(st.box s ⟨.aH [],ty⟩).boxes t=some u:=by{grind [aq]};have e:∀t b,(st.box s ⟨.aH [],ty⟩).boxes t=some b->b.live->st.boxes t=some b:=by{grind [aq,fW]};refine ⟨h.defers,h.size,h.aF,?_,?_,λt b c l=>h.boxes t b (e t b c l) l,λt k b1 b2 m i o j=>h.inj t k b1 b2 (e _ _ m i) i (e _ _ o j) j,h.tK,λt b c l=>h.Ar t b (e t b c l) l,h.ext,λt b c l=>h.own t b (e t b c l) l,h.pf,h.nt,h.small⟩;{intro t x p f d;have ⟨b,g⟩:=h.EK t x p f d;exact hw f b g};intro t b c f d;have:∃u,st.boxes f=some u:=by{rw [aq] at c;split at c;{cases c;cases d};grind [h.EJ]};grind
def ß.Ax (h:ß n V0 bU β0 st β a w V){s:Nat}{b b':aZ}(z:st.boxes s=some b)(lb:b.live)(M:∀s'∈b'.cs.ids,∃y,st.boxes s'=some y){w':World}(hw:w'.heap=w.heap.setIfInBounds (β s) (b'.obj β))(E:w'.os=w.os)(F:w'.tape=w.tape)(hout:w'.output=w.output)(hdr:w.drawn<=w'.drawn:=by first|exact Ù _|exact Ww7 _):ß n V0 bU β0 (st.box s b') β a w' V:=by have j:=aN (h.boxes s b z lb);have l:∀i,w'.heap[i]?=if i=β s then some (b'.obj β) else w.heap[i]?:=χ;refine ⟨h.defers,h.size,h.aF,?_,?_,?_,?_,?_,?_,?_,?_,h.pf,h.nt,h.small⟩;{intro t x k s' d;obtain ⟨b1,c⟩:=h.EK t x k s' d;grind [aq]};{grind [aq,h.EJ]};{grind [aq,h.inj,h.boxes]};{intro t m b1 b2 o g p q he;have f:∀t b1,(st.box s b').boxes t=some b1->b1.live->∃b2,st.boxes t=some b2/\b2.live:=by{grind [aq]};grind [h.inj]};{grind [h.tK,h.Ar]};{grind [aq,h.Ar]};{refine ⟨by rw [hw];simpa using h.ext.size,λi r u=>?_,E.m h.ext.os,F.m h.ext.tape,hout.m h.ext.out,ÿ h.ext.dr hdr⟩<;>grind [h.own,h.nt,h.ext.bo]};intro t b1 c g;rw [aq] at c;split at c;{rename_i e;rw [e];exact h.own s b z lb};exact h.own t b1 c g
end
section
variable{P:Program}{T:eA}{n:Nat}{V0:Ó}{bU:Nl}{β0:Nat->Nat}{st:St}{β:Nat->Nat}{a:Act}{w:World}{V:Ó}
theorem fK:∀(sc:zA Prop)(k:Prop),HL sc k↔(∀p∈sc,p)/\k
 | [],k=>by simp [HL]
 | p::r,k=>by
  simp only [HL,fK r k,ç];constructor
  ·grind
  ·rintro ⟨u,y⟩;exact ⟨u p (.inl rfl),λq z=>u q (.inr z),y⟩
def aP {t:TypeId}{i:TI}(h:pV P t=some i):∃info d z,P.info? t=some info/\P.underlying t=some d/\info.zero=some z/\i.k=nQ d/\i.size=info.size/\i.bytes=info.bytes/\i.zero=z.cells.toList.map C.ofConst:=by unfold pV at h;grind
theorem KL (β:Nat->Nat)(y:um):(C.ofConst y).den β=y:=by unfold C.ofConst;split<;>rfl
def Lh (β:Nat->Nat)(l:zA um):(l.map C.ofConst).map (C.den β)=l:=by induction l<;>grind [KL]
def K3 (y:um):(C.ofConst y).ids=[]:=by unfold C.ofConst;split<;>rfl
def Iw (l:zA um):(l.map C.ofConst).flatMap C.ids=[]:=by
 induction l with
 | nil=>rfl
 | cons y r u=>simp [K3]
def aj {t:TypeId}{d:TypeDesc}(h:P.underlying t=some d)(w:World):(underlying t).run P w=.ok d w:=by simp [underlying,h]
def nM {t:TypeId}{i:TypeInfo}(h:P.info? t=some i)(w:World):(typeInfo t).run P w=.ok i w:=by simp [typeInfo,h]
def aU {t:TypeId}{i:TypeInfo}(h:P.info? t=some i)(w:World):(sizeOf t).run P w=.ok i.size w:=by simp [sizeOf,nM h]
def lF {t:TypeId}{i:TypeInfo}{z:um}(h:P.info? t=some i)(u:i.zero=some z)(w:World):(zeroValue t).run P w=.ok z w:=by simp [zeroValue,nM h,u]
def xW:TK->Bool
 | .struct _|.arr _ _=>true
 | _=>false
def jD {t:TypeId}{d:TypeDesc}(h:P.underlying t=some d)(w:World):(isAgg t).run P w=.ok (xW (nQ d)) w:=by simp only [isAgg,Sem.run_bind,aj h,Result.andThen_ok];cases d<;>rfl
def Ē (st:St)(x:SV):Prop:=∀s∈x.ids,∃b,st.boxes s=some b
theorem G9 {k k':IntKind}(h:CN k k'=true):k=k':=by cases k<;>cases k'<;>simp_all [CN]
theorem Og {op:BinOp}{k:IntKind}{x y:Int}{sc:zA Prop}{v:SV}{u:TypeId}(h:rG op k x y=.ret sc v)(hsc:∀p∈sc,p):(binOp op u (.int k x) (.int k y)).run P w=.ok (v.den β) w/\v.ids=[]:=by
 cases op<;>simp only [rG,Q.ret.injEq] at h<;>obtain ⟨rfl,rfl⟩:=h <;>
  simp only [ç,ě,Ì,forall_eq,false_imp_iff,implies_true] at hsc <;>
  refine ⟨?_,rfl⟩ <;>
  simp [binOp,Op.intArith,Op.intDiv,Op.intBits,Op.intCmp,Op.shift,SV.den,C.den,b_,hsc]
 all_goals (try (intro h;omega))
theorem Tb {op:BinOp}{k k':IntKind}{x y:Int}{sc:zA Prop}{v:SV}{u:TypeId}(hop:op=.shl\/op=.shr)(h:rG op k x y=.ret sc v)(hsc:∀p∈sc,p):(binOp op u (.int k x) (.int k' y)).run P w=.ok (v.den β) w/\v.ids=[]:=by
 rcases hop with rfl|rfl<;>simp only [rG,Q.ret.injEq] at h<;>obtain ⟨rfl,rfl⟩:=h <;>
  simp only [ç,ě,Ì,forall_eq] at hsc <;>
  refine ⟨?_,rfl⟩ <;>
  simp [binOp,Op.shift,SV.den,C.den]<;>(intro h;omega)
section eqs
variable{t:TypeId}(d:Nat)
def Si (h:P.underlying t=some .bool)(x y:ut):(Op.equalIn (d+1) t (.bool x) (.bool y)).run P w=.ok (x==y) w:=by simp [Op.equalIn,aj h]
def GY {e:TypeId}(h:P.underlying t=some (.pointer e))(p:OA):(Op.equalIn (d+1) t (.pointer p) (.pointer none)).run P w=.ok p.isNone w:=by cases p<;>simp [Op.equalIn,aj h]
def va {e:TypeId}(h:P.underlying t=some (.slice e))(p:OA)(n c m k:Nat):(Op.equalIn (d+1) t (.slice p n c) (.slice none m k)).run P w=.ok p.isNone w:=by cases p<;>simp [Op.equalIn,aj h]
def Cu {ms:Array (String×TypeId)}(h:P.underlying t=some (.interface ms)){x:um}(y:û x):(Op.equalIn (d+1) t x .nilIface).run P w=.ok (eU x) w:=by rcases y with rfl|⟨u,v,rfl⟩<;>simp [Op.equalIn,aj h,eU]
end eqs
def mZ {t:TypeId}{x y:um}{r:ut}(h:∀d,(Op.equalIn (d+1) t x y).run P w=.ok r w):(Op.equal t x y).run P w=.ok r w:=h 9999
def Kh {op:BinOp}{u:TypeId}{x y:ut}(z:P.underlying u=some .bool)(hop:op=.eql\/op=.neq):(binOp op u (.bool x) (.bool y)).run P w=.ok (.bool (if op=.eql then x==y else !(x==y))) w:=by have:=mZ (w:=w) λd=>Si d z x y;rcases hop with rfl|rfl<;>simp only [binOp,Sem.run_bind,this,Result.andThen_ok,Sem.run_pure]<;>rfl
def Gk {c:C}{b:ut}(h:c.bool?=some b):c.den β=.bool b/\c.ids=[]:=by (cases c with|v x=>{cases x<;>simp_all [C.bool?,C.den,C.ids]}|_=>simp_all [C.bool?,C.den,C.ids])
def KN {d:TypeDesc}{k:IntKind}(h:nQ d=.int k):d=.int k:=by cases d<;>simp_all [nQ]
def Ij {d:TypeDesc}(h:nQ d=.bool):d=.bool:=by cases d<;>simp_all [nQ]
def KO {d:TypeDesc}{e:TypeId}(h:nQ d=.ptr e):d=.pointer e:=by cases d<;>simp_all [nQ]
def bu {d:TypeDesc}{e:TypeId}(h:nQ d=.slice e):d=.slice e:=by cases d<;>simp_all [nQ]
def E_ {d:TypeDesc}(h:nQ d=.iface):∃ms,d=.interface ms:=by cases d<;>simp_all [nQ]
def lS {d:TypeDesc}{fs:zA (TypeId×Nat)}(h:nQ d=.struct fs):∃gs,d=.struct gs/\fs=gs.toList.map λf=>(f.type,f.offset):=by cases d<;>simp_all [nQ]
def rA {d:TypeDesc}{m:Nat}{e:TypeId}(h:nQ d=.arr m e):d=.array m e:=by cases d<;>simp_all [nQ]
def lI {t:TypeId}{x y:um}{r:ut}(neg:ut)(h:(Op.equal t x y).run P w=.ok r w)(z:(∃p,x=.pointer p/\y=.pointer none)\/(∃p n c m k,x=.slice p n c/\y=.slice none m k)\/(û x/\y=.nilIface)):(binOp (if neg then .neq else .eql) t x y).run P w=.ok (.bool (if neg then !r else r)) w:=by rcases z with ⟨p,rfl,rfl⟩|⟨p,n,c,m,k,rfl,rfl⟩|⟨z,rfl⟩;{cases p<;>cases neg<;>simp only [Ő,Ð,Ï,binOp,Sem.run_bind,h,Result.andThen_ok,Sem.run_pure]};{cases neg<;>simp only [Ő,Ð,Ï,binOp,Sem.run_bind,h,Result.andThen_ok,Sem.run_pure]};rcases z with rfl|⟨u,v,rfl⟩<;>cases neg<;>simp only [Ő,Ð,Ï,binOp,Sem.run_bind,h,Result.andThen_ok,Sem.run_pure]
def vg {op:BinOp}{t:TypeId}{x y:Operand}{u v:um}(h:(∃p,u=.pointer p)\/(∃p n c,u=.slice p n c)\/(∃k n,u=.int k n)\/(∃b,u=.bool b)\/∃c,y=.const c)(z:v=.nilIface->∃c,y=.const c)(hu:∀cs,u≠.agg cs):(eqGuard op t x y u v).run P w=.ok () w:=by
 have key:∀(m:Sem Unit),m=(match (generalizing:=false) u,v with
   | .nilIface,.nilIface=>do
    if (match (generalizing:=false) x with|.const _=>true|_=>false)||(match (generalizing:=false) y with|.const _=>true|_=>false) then return
    if <- Op.eqGuardIn Op.maxDepth t u v then unsupported (.noEntry "binop/eql: two nil values of an interface type with methods, neither of them the literal nil")
   | .agg _,.agg _=>do
    if !(<-program).eqGuardType (<-program).depth t then return
    if <- Op.eqGuardIn Op.maxDepth t u v then unsupported (.noEntry "binop/eql: two nil values of an interface type with methods, in a part of a struct or an array")
   | _,_=>pure ())->m.run P w=.ok () w:=by
  intro m hm;rw [hm];clear hm;revert z hu;split
  ·intro z _;obtain ⟨c,rfl⟩:=z rfl;simp
  ·rename_i cs _;intro _ hu;exact Å rfl (hu cs)
  ·intro _ _;rfl
 cases op<;>first|rfl|exact key _ rfl
def Wi {E:TypeId}{i:TI}(hi:pV P E=some i){x y:C}(neg:ut){sc:zA Prop}{v:SV}(h:I8 neg i.k x y=.ret sc v)(hsc:∀p∈sc,p):(binOp (if neg then .neq else .eql) E (x.den β) (y.den β)).run P w=.ok (v.den β) w/\v.ids=[]/\((∃p,x.den β=.pointer p)\/(∃p n c,x.den β=.slice p n c)\/y.den β=.nilIface)/\(y.den β=.nilIface->y=.v .nilIface)/\(∀cs,x.den β≠.agg cs):=by obtain ⟨info,d,z,j,b,l,g,-⟩:=aP hi;unfold I8 at h;split at h;{rename_i e a;rw [g] at a;obtain rfl:=KO a;split at h;{split at h;{cases h;refine ⟨?_,by cases neg<;>rfl,.inl ⟨_,rfl⟩,by simp [C.den],by simp [C.den]⟩;rename_i s o;have:=lI (w:=w) neg (mZ λd=>GY d b (some ⟨β s,o,none⟩)) (.inl ⟨_,rfl,rfl⟩);cases neg<;>exact this};{cases h;refine ⟨?_,rfl,.inl ⟨_,rfl⟩,by simp [C.den],by simp [C.den]⟩;exact lI (w:=w) neg (mZ λd=>GY d b _) (.inl ⟨_,rfl,rfl⟩)};cases h};cases h};{rename_i e a;rw [g] at a;obtain rfl:=bu a;split at h;{split at h;{cases h;refine ⟨?_,by cases neg<;>rfl,.inr (.inl ⟨_,_,_,rfl⟩),by simp [C.den],by simp [C.den]⟩;rename_i m k _ s o n c;have:=lI (w:=w) neg (mZ λd=>va d b (some ⟨β s,o,none⟩) n c m k) (.inr (.inl ⟨_,_,_,_,_,rfl,rfl⟩));cases neg<;>exact this};{cases h;refine ⟨?_,rfl,.inr (.inl ⟨_,_,_,rfl⟩),by simp [C.den],by simp [C.den]⟩;rename_i m k _ s n c;have:=lI (w:=w) neg (mZ λd=>va d b (mA (β s) c) n c m k) (.inr (.inl ⟨_,_,_,_,_,rfl,rfl⟩));have e:(mA (β s) c).isNone=Nat.beq c 0:=by{cases c<;>rfl};rw [e] at this;exact this};{cases h;refine ⟨?_,rfl,.inr (.inl ⟨_,_,_,rfl⟩),by simp [C.den],by simp [C.den]⟩;exact lI (w:=w) neg (mZ λd=>va d b _ _ _ _ _) (.inr (.inl ⟨_,_,_,_,_,rfl,rfl⟩))};cases h};cases h};{rename_i a;rw [g] at a;obtain ⟨ms,rfl⟩:=E_ a;split at h;{split at h;{cases h;have f:=hsc _ (õ.2 rfl);refine ⟨?_,rfl,.inr (.inr rfl),λ_=>rfl,?_⟩;{exact lI (w:=w) neg (mZ λd=>Cu d b f) (.inr (.inr ⟨f,rfl⟩))};intro cs e;rcases f with f|⟨u,v,f⟩<;>· simp only [C.den] at e;rw [f] at e;cases e};{cases h;refine ⟨?_,by cases neg<;>rfl,.inr (.inr rfl),λ_=>rfl,by simp [C.den]⟩;have:=lI (w:=w) neg (mZ λd=>Cu d b (x:=.nilIface) (.inl rfl)) (.inr (.inr ⟨.inl rfl,rfl⟩));cases neg<;>exact this};cases h};cases h};cases h
def Wg (hT:eA.ok P T){op:BinOp}{F:TypeId}{x y:C}{ox oy:Operand}{sc:zA Prop}{v:SV}(h:I6 T op F x y=.ret sc v)(hsc:∀p∈sc,p)(M:y=.v .nilIface->∃c,oy=.const c):(do eqGuard op F ox oy (x.den β) (y.den β);binOp op F (x.den β) (y.den β)).run P w=.ok (v.den β) w/\v.ids=[]:=by
 unfold I6 at h;split at h
 ·rename_i i f;have f:=hT _ _ f;obtain ⟨info,d,z,u,j,A,o,-⟩:=aP f;split at h
  ·split at h
   ·rename_i k a l b
    have g:(eqGuard op F ox oy (C.den β (.v (.int k a))) (C.den β (.v (.int l b)))).run P w=.ok () w:=
     vg (.inr (.inr (.inl ⟨_,_,rfl⟩))) (by simp [C.den]) (by simp [C.den])
    have key:(binOp op F (.int k a) (.int l b)).run P w=.ok (v.den β) w/\v.ids=[]:=by grind [Tb,G9,Og]
    simp only [Sem.run_bind,g,Result.andThen_ok];exact key
   ·cases h
  ·rename_i m;rw [o] at m;obtain rfl:=Ij m;split at h;{rename_i a b q r;have n:=Gk (β:=β) q;have M:=Gk (β:=β) r;have g:(eqGuard op F ox oy (x.den β) (y.den β)).run P w=.ok () w:=by{rw [n.1,M.1];exact vg (.inr (.inr (.inr (.inl ⟨_,rfl⟩)))) ψ ψ};simp only [Sem.run_bind,g,Result.andThen_ok];rw [n.1,M.1];split at h;{cases h;exact ⟨Kh j (.inl rfl),rfl⟩};{cases h;exact ⟨Kh j (.inr rfl),rfl⟩};cases h};cases h
  ·have key:∀neg:ut,I8 neg i.k x y=.ret sc v->(do eqGuard (if neg then .neq else .eql) F ox oy (x.den β) (y.den β);binOp (if neg then .neq else .eql) F (x.den β) (y.den β)).run P w=.ok (v.den β) w/\v.ids=[]:=by{intro neg h;have ⟨B,D,E,s,t⟩:=Wi (w:=w) (β:=β) f neg h hsc;have g:(eqGuard (if neg then BinOp.neq else BinOp.eql) F ox oy (x.den β) (y.den β)).run P w=.ok () w:=by{refine vg ?_ (λe=>M (s e)) t<;>grind};grind [Sem.run_bind,Result.andThen_ok]};grind
 ·cases h
end
end Go.Eng
