/- A part of the proof (joined by program from: SetP, Row, RefH, VFrB, RefI, FragA, VFrS, RefJ). -/
import Derived.Test.YtimkdinmcbepnaaGreatDoorR12
import Derived.Test.YtimkdinmcbepnaaGreatDoorR6
import Derived.Test.YtimkdinmcbepnaaGreatDoorR5
set_option linter.unusedVariables false
open Go.IntKind (i64 u64 u32)
/- Plain: sets of spans: the points inside; a list in order is told by its points. -/
namespace Go.Proofs.Tryz
open Go.Eng Go.Big
def Sp.inn (s:Sp) (t:Rat):Prop:=(s.a=true \/ s.lo < t)/\(s.b=true \/ t < s.hi)
def memS (ss:List Sp) (t:Rat):Prop:=∃s ∈ ss,s.inn t
def Sp.good (s:Sp):Prop:=s.can/\s.emp=false
def Sp.bef (s t:Sp):Prop:=s.b=false/\t.a=false/\s.hi < t.lo
/-- A list in order whose spans do not touch. -/
def reg (ss:List Sp):Prop:=(∀s ∈ ss,s.good)/\ss.Pairwise Sp.bef
theorem pick (E:List Rat):∀l u:Rat,l < u->∃t,l < t/\t < u/\t ∉ E:=by
 induction E with
 | nil=>exact fun l u h=>⟨(l + u) / 2,by grind,by grind,by simp⟩
 | cons e r ih=>
  intro l u h
  by_cases c:l < e/\e < u
  ·obtain ⟨t,h1,h2,h3⟩:=ih l e c.1
   refine ⟨t,h1,by grind,fun hm=>?_⟩
   rcases List.mem_cons.1 hm with rfl | hm
   ·grind
   ·exact h3 hm
  ·obtain ⟨t,h1,h2,h3⟩:=ih l u h
   refine ⟨t,h1,h2,fun hm=>?_⟩
   rcases List.mem_cons.1 hm with rfl | hm
   ·exact c ⟨h1,h2⟩
   ·exact h3 hm
theorem maxL : ∀ l : List Rat, l = [] ∨ ∃ m ∈ l, ∀ x ∈ l, x ≤ m := by
  intro l
  induction l with
  | nil => exact .inl rfl
  | cons y r ih =>
    rcases ih with rfl | ⟨m, hm, h⟩
    · exact .inr ⟨y, by simp, by intro x hx; simp at hx; grind⟩
    · by_cases c : m < y
      · exact .inr ⟨y, by simp, fun x hx => by rcases List.mem_cons.1 hx with rfl | hx; · grind
                                               · have := h x hx; grind⟩
      · exact .inr ⟨m, by simp [hm], fun x hx => by rcases List.mem_cons.1 hx with rfl | hx; · grind
                                                    · exact h x hx⟩
theorem minL : ∀ l : List Rat, l = [] ∨ ∃ m ∈ l, ∀ x ∈ l, m ≤ x := by
  intro l
  induction l with
  | nil => exact .inl rfl
  | cons y r ih =>
    rcases ih with rfl | ⟨m, hm, h⟩
    · exact .inr ⟨y, by simp, by intro x hx; simp at hx; grind⟩
    · by_cases c : y < m
      · exact .inr ⟨y, by simp, fun x hx => by rcases List.mem_cons.1 hx with rfl | hx; · grind
                                               · have := h x hx; grind⟩
      · exact .inr ⟨m, by simp [hm], fun x hx => by rcases List.mem_cons.1 hx with rfl | hx; · grind
                                                    · exact h x hx⟩
theorem pickL (E Ls Us:List Rat) (h:∀l ∈ Ls,∀u ∈ Us,l < u):∃t,(∀l ∈ Ls,l < t)/\(∀u ∈ Us,t < u)/\t ∉ E:=by
 have key:∃a b:Rat,a < b/\(∀l ∈ Ls,l<=a)/\∀u ∈ Us,b<=u:=by
  rcases maxL Ls with rfl | ⟨m,hm,h1⟩
  ·rcases minL Us with rfl | ⟨n,hn,h2⟩
   ·exact ⟨0,1,by decide,(fun _ h=>by cases h),(fun _ h=>by cases h)⟩
   ·exact ⟨n - 1,n,by grind,(fun _ h=>by cases h),h2⟩
  ·rcases minL Us with rfl | ⟨n,hn,h2⟩
   ·exact ⟨m,m + 1,by grind,h1,(fun _ h=>by cases h)⟩
   ·exact ⟨m,n,h m hm n hn,h1,h2⟩
 obtain ⟨a,b,hab,h1,h2⟩:=key
 obtain ⟨t,t1,t2,t3⟩:=pick E a b hab
 exact ⟨t,fun l hl=>by have:=h1 l hl; grind,fun u hu=>by have:=h2 u hu; grind,t3⟩
def Sp.los (s:Sp):List Rat:=if s.a then [] else [s.lo]
def Sp.his (s:Sp):List Rat:=if s.b then [] else [s.hi]
theorem inn_iff {s:Sp} {t:Rat}:s.inn t↔(∀l ∈ s.los,l < t)/\∀u ∈ s.his,t < u:=by
 unfold Sp.inn Sp.los Sp.his
 cases s.a <;> cases s.b <;> simp
theorem los_mem {s:Sp} {l:Rat} (h:l ∈ s.los):s.a=false/\l=s.lo:=by
 unfold Sp.los at h; cases ha:s.a <;> simp [ha] at h; exact ⟨rfl,h⟩
theorem his_mem {s:Sp} {l:Rat} (h:l ∈ s.his):s.b=false/\l=s.hi:=by
 unfold Sp.his at h; cases ha:s.b <;> simp [ha] at h; exact ⟨rfl,h⟩
theorem lo_hi {s:Sp} (h:s.emp=false) (ha:s.a=false) (hb:s.b=false):s.lo < s.hi:=by
 rcases Sp.emp_iff.1 h with h | h | h
 ·rw [ha] at h; cases h
 ·rw [hb] at h; cases h
 ·exact h
theorem pick_in {s:Sp} (h:s.emp=false) (E:List Rat):∃t,s.inn t/\t ∉ E:=by
 obtain ⟨t,h1,h2,h3⟩:=pickL E s.los s.his (fun l hl u hu=>by
  obtain ⟨ha,rfl⟩:=los_mem hl; obtain ⟨hb,rfl⟩:=his_mem hu; exact lo_hi h ha hb)
 exact ⟨t,inn_iff.2 ⟨h1,h2⟩,h3⟩
theorem reg.tail {s:Sp} {r:List Sp} (h:reg (s :: r)):reg r:=⟨fun x hx=>h.1 x (by simp [hx]),(List.pairwise_cons.1 h.2).2⟩
theorem reg.bef {s:Sp} {r:List Sp} (h:reg (s :: r)) {x:Sp} (hx:x ∈ r):s.bef x:=(List.pairwise_cons.1 h.2).1 x hx
theorem not_low {s:Sp} {r:List Sp} (h:reg (s :: r)) (ha:s.a=false) {t:Rat} (ht:t<=s.lo):¬ memS (s :: r) t:=by
 rintro ⟨x,hx,h1,h2⟩
 rcases List.mem_cons.1 hx with rfl | hx
 ·rcases h1 with h1 | h1
  ·rw [ha] at h1; cases h1
  ·grind
 ·obtain ⟨b1,b2,b3⟩:=h.bef hx
  have:=lo_hi (h.1 s (by simp)).2 ha b1
  rcases h1 with h1 | h1
  ·rw [b2] at h1; cases h1
  ·grind
def nl:List Sp->List Rat
 | []=>[]
 | x :: _=>[x.lo]
theorem not_gap {s:Sp} {r:List Sp} (h:reg (s :: r)) (hb:s.b=false) {t:Rat} (h1:s.hi<=t) (h2:∀x ∈ nl r,t<=x):¬ memS (s :: r) t:=by
 rintro ⟨x,hx,g1,g2⟩
 rcases List.mem_cons.1 hx with rfl | hx
 ·rcases g2 with g2 | g2
  ·rw [hb] at g2; cases g2
  ·grind
 ·cases r with
  | nil=>cases hx
  | cons y r=>exact not_low h.tail (h.bef (by simp)).2.1 (h2 y.lo (by simp [nl])) ⟨x,hx,g1,g2⟩
set_option linter.unusedSectionVars false
section
variable {s s':Sp} {r r':List Sp} {E:List Rat} (h:reg (s :: r)) (h':reg (s' :: r')) (e:∀t,t ∉ E->memS (s :: r) t->memS (s' :: r') t)
include h h' e
theorem un_a (ha:s.a=true):s'.a=true:=by
 cases ha':s'.a with
 | true=>rfl
 | false=>
  obtain ⟨t,-,h2,h3⟩:=pickL E [] (s'.lo :: s.his) (fun l hl=>by cases hl)
  have:=e t h3 ⟨s,by simp,.inl ha,(inn_iff.2 ⟨(fun l hl=>by unfold Sp.los at hl; rw [if_pos ha] at hl; cases hl),fun u hu=>h2 u (by simp [hu])⟩).2⟩
  exact absurd this (not_low h' ha' (by have:=h2 s'.lo (by simp); grind))
theorem un_lo (ha:s.a=false) (ha':s'.a=false):¬ s.lo < s'.lo:=by
 intro hlt
 obtain ⟨t,h1,h2,h3⟩:=pickL E [s.lo] (s'.lo :: s.his) (fun l hl u hu=>by
  obtain rfl:l=s.lo:=by simpa using hl
  rcases List.mem_cons.1 hu with rfl | hu
  ·exact hlt
  ·obtain ⟨hb,rfl⟩:=his_mem hu
   exact lo_hi (h.1 s (by simp)).2 ha hb)
 have:=e t h3 ⟨s,by simp,inn_iff.2 ⟨(fun l hl=>by obtain ⟨-,rfl⟩:=los_mem hl; exact h1 _ (by simp)),fun u hu=>h2 u (by simp [hu])⟩⟩
 exact absurd this (not_low h' ha' (by have:=h2 s'.lo (by simp); grind))
theorem un_b (h0 : s.a = false → s'.a = false ∧ s.lo = s'.lo) (hb : s.b = true) : s'.b = true := by
  cases hb' : s'.b with
  | true => rfl
  | false =>
    have hn : ∀ u ∈ nl r', s'.hi < u := fun u hu => by
      cases r' with
      | nil => cases hu
      | cons y r' => obtain rfl : u = y.lo := by simpa [nl] using hu
                     exact (h'.bef (by simp)).2.2
    obtain ⟨t, h1, h2, h3⟩ := pickL E (s'.hi :: s.los) (nl r') (fun l hl u hu => by
      rcases List.mem_cons.1 hl with rfl | hl
      · exact hn u hu
      · obtain ⟨ha, rfl⟩ := los_mem hl
        have := lo_hi (h'.1 s' (by simp)).2 (h0 ha).1 hb'
        have := hn u hu
        rw [(h0 ha).2]; grind)
    have := e t h3 ⟨s, by simp, (inn_iff.2 ⟨(fun l hl => h1 l (by simp [hl])), (fun u hu => by unfold Sp.his at hu; rw [if_pos hb] at hu; cases hu)⟩ : s.inn t)⟩
    exact absurd this (not_gap h' hb' (by have := h1 s'.hi (by simp); grind) (fun x hx => by have := h2 x hx; grind))
theorem un_hi (h0 : s.a = false → s'.a = false ∧ s.lo = s'.lo) (hb : s.b = false) (hb' : s'.b = false) : ¬ s'.hi < s.hi := by
  intro hlt
  have hn : ∀ u ∈ nl r', s'.hi < u := fun u hu => by
    cases r' with
    | nil => cases hu
    | cons y r' => obtain rfl : u = y.lo := by simpa [nl] using hu
                   exact (h'.bef (by simp)).2.2
  obtain ⟨t, h1, h2, h3⟩ := pickL E [s'.hi] (s.hi :: nl r') (fun l hl u hu => by
    obtain rfl : l = s'.hi := by simpa using hl
    rcases List.mem_cons.1 hu with rfl | hu
    · exact hlt
    · exact hn u hu)
  have ht := h1 s'.hi (by simp)
  have hin : s.inn t := by
    refine ⟨?_, .inr (h2 s.hi (by simp))⟩
    cases ha : s.a with
    | true => exact .inl rfl
    | false =>
      have := lo_hi (h'.1 s' (by simp)).2 (h0 ha).1 hb'
      rw [(h0 ha).2]
      exact .inr (by grind)
  exact absurd (e t h3 ⟨s, by simp, hin⟩) (not_gap h' hb' (by grind) (fun x hx => by have := h2 x (by simp [hx]); grind))
end
theorem Sp.ext' {s t:Sp} (h1:s.a=t.a) (h2:s.b=t.b) (h3:s.lo=t.lo) (h4:s.hi=t.hi):s=t:=by
 cases s; cases t; simp at *; exact ⟨h3,h4,h1,h2⟩
/-- A list in order is told by its points, but for a few. -/
theorem reg_unique {E:List Rat}:∀{xs ys:List Sp},reg xs->reg ys->(∀t,t ∉ E->(memS xs t↔memS ys t))->xs=ys:=by
 intro xs
 induction xs with
 | nil=>
  intro ys _ hy e
  cases ys with
  | nil=>rfl
  | cons s r=>
   obtain ⟨t,h1,h2⟩:=pick_in (hy.1 s (by simp)).2 E
   obtain ⟨x,hx,-⟩:=(e t h2).2 ⟨s,by simp,h1⟩
   cases hx
 | cons s r ih=>
  intro ys hx hy e
  cases ys with
  | nil=>
   obtain ⟨t,h1,h2⟩:=pick_in (hx.1 s (by simp)).2 E
   obtain ⟨x,hx,-⟩:=(e t h2).1 ⟨s,by simp,h1⟩
   cases hx
  | cons s' r'=>
   have e1:=fun t ht=>(e t ht).1
   have e2:=fun t ht=>(e t ht).2
   have beq:∀{a b:Bool},(a=true->b=true)->(b=true->a=true)->a=b:=fun {a b} h1 h2=>by
    cases a <;> cases b <;> simp at h1 h2 ⊢
   have ha:s.a=s'.a:=beq (un_a hx hy e1) (un_a hy hx e2)
   have hl:s.a=false->s.lo=s'.lo:=fun h1=>by
    have k1:=un_lo hx hy e1 h1 (ha ▸ h1)
    have k2:=un_lo hy hx e2 (ha ▸ h1) h1
    grind
   have h0:s.a=false->s'.a=false/\s.lo=s'.lo:=fun h=>⟨ha ▸ h,hl h⟩
   have h0':s'.a=false->s.a=false/\s'.lo=s.lo:=fun h=>⟨ha.symm ▸ h,(hl (ha.symm ▸ h)).symm⟩
   have hb:s.b=s'.b:=beq (un_b hx hy e1 h0) (un_b hy hx e2 h0')
   have hh:s.b=false->s.hi=s'.hi:=fun h1=>by
    have k1:=un_hi hx hy e1 h0 h1 (hb ▸ h1)
    have k2:=un_hi hy hx e2 h0' (hb ▸ h1) h1
    grind
   have gs:=(hx.1 s (by simp)).1
   have gs':=(hy.1 s' (by simp)).1
   have es:s=s':=by
    refine Sp.ext' ha hb ?_ ?_
    ·cases h1:s.a with
     | false=>exact hl h1
     | true=>rw [gs.1 h1,gs'.1 (ha ▸ h1)]
    ·cases h1:s.b with
     | false=>exact hh h1
     | true=>rw [gs.2 h1,gs'.2 (hb ▸ h1)]
   subst es
   have dis:∀{q:List Sp} {t:Rat},reg (s :: q)->memS q t->¬ s.inn t:=by
    rintro q t hq ⟨x,hx,h1,h2⟩ ⟨g1,g2⟩
    obtain ⟨b1,b2,b3⟩:=hq.bef hx
    rw [b1] at g2; rw [b2] at h1
    simp at g2 h1
    grind
   rw [ih hx.tail hy.tail (fun t ht=>⟨fun m=>?_,fun m=>?_⟩)]
   ·obtain ⟨x,hm,hi⟩:=e1 t ht (by obtain ⟨x,g1,g2⟩:=m; exact ⟨x,by simp [g1],g2⟩)
    rcases List.mem_cons.1 hm with rfl | hm
    ·exact absurd hi (dis hx m)
    ·exact ⟨x,hm,hi⟩
   ·obtain ⟨x,hm,hi⟩:=e2 t ht (by obtain ⟨x,g1,g2⟩:=m; exact ⟨x,by simp [g1],g2⟩)
    rcases List.mem_cons.1 hm with rfl | hm
    ·exact absurd hi (dis hy m)
    ·exact ⟨x,hm,hi⟩
end Go.Proofs.Tryz
/- Lists of any element: as they lie in an own row, and in memory. -/
namespace Go.Eng
theorem adr_add2 (a:Addr) (m n:Nat):(a.add m).add n=a.add (m + n):=by
 unfold Addr.add
 by_cases h1:m=0
 ·subst h1; simp
 ·by_cases h2:n=0
  ·subst h2; simp [h1]
  ·rw [if_neg h1,if_neg h2,if_neg (by omega)]
   simp only [Nat.add_assoc]
variable {α:Type} {sz:Nat} {R:View->Value->α->Prop} {V V':View}
/-- The first cells of a row are the elements of a list. -/
structure Row (sz:Nat) (R:View->Value->α->Prop) (V:View) (vs:List Value) (al:List α):Prop where
 at_:∀(i:Nat) (h:i < al.length),∃xs:List Value,xs.length=sz/\R V (.agg xs.toArray) al[i]/\∀j x,xs[j]?=some x->vs[i * sz + j]?=some x
/-- The elements of a list lie one behind the other. -/
structure Lst (sz:Nat) (R:View->Value->α->Prop) (V:View) (p:OA) (n:Nat) (al:List α):Prop where
 len:n=al.length
 at_:∀(i:Nat) (h:i < al.length),∃ad,addrAdd p (i * sz)=some ad/\∃xs:List Value,xs.length=sz/\R V (.agg xs.toArray) al[i]/\∀j x,xs[j]?=some x->V.at (ad.add j) x
theorem Row.nil {vs:List Value}:Row sz R V vs []:=⟨fun i h=>absurd h (Nat.not_lt_zero i)⟩
theorem Lst.nil {p:OA}:Lst sz R V p 0 []:=⟨rfl,fun i h=>absurd h (Nat.not_lt_zero i)⟩
theorem Row.le {vs:List Value} {al:List α} (h:Row sz R V vs al) (m:∀v a,R V v a->R V' v a):Row sz R V' vs al:=
 ⟨fun i hi=>by obtain ⟨xs,h1,h2,h3⟩:=h.at_ i hi; exact ⟨xs,h1,m _ _ h2,h3⟩⟩
theorem Lst.le {p:OA} {n:Nat} {al:List α} (h:Lst sz R V p n al) (l:V.Le V') (m:∀v a,R V v a->R V' v a):Lst sz R V' p n al:=
 ⟨h.len,fun i hi=>by obtain ⟨ad,h0,xs,h1,h2,h3⟩:=h.at_ i hi; exact ⟨ad,h0,xs,h1,m _ _ h2,fun j x hx=>l.at (h3 j x hx)⟩⟩
theorem Row.len_le {vs:List Value} {al:List α} (h:Row sz R V vs al) (hs:0 < sz):al.length * sz<=vs.length:=by
 by_cases h0:al.length=0
 ·rw [h0]; omega
 ·obtain ⟨xs,h1,-,h3⟩:=h.at_ (al.length - 1) (by omega)
  have hx:sz - 1 < xs.length:=by omega
  have:=(List.getElem?_eq_some_iff.1 (h3 (sz - 1) _ (List.getElem?_eq_getElem hx))).1
  have e:al.length * sz=(al.length - 1) * sz + sz:=by
   obtain ⟨m,hm⟩:∃m,al.length=m + 1:=⟨al.length - 1,by omega⟩
   rw [hm,Nat.add_sub_cancel,Nat.succ_mul]
  omega
/-- One more element at the end, al 'append' lays it. -/
theorem Row.snoc {vs:List Value} {al:List α} (h:Row sz R V vs al) {xs sp:List Value} {a:α} (hx:xs.length=sz) (ha:R V (.agg xs.toArray) a) (hs:0 < sz) :
  Row sz R V (vs.take (al.length * sz)++xs++sp) (al++[a]):=by
 have hl:=h.len_le hs
 have ht:(vs.take (al.length * sz)).length=al.length * sz:=by rw [List.length_take]; omega
 refine ⟨fun i hi=>?_⟩
 rw [List.length_append,List.length_singleton] at hi
 by_cases e:i=al.length
 ·subst e
  refine ⟨xs,hx,by rw [List.getElem_append_right (Nat.le_refl _)]; simpa using ha,fun j x hj=>?_⟩
  have hj':=(List.getElem?_eq_some_iff.1 hj).1
  rw [List.append_assoc,List.getElem?_append_right (by rw [ht]; omega),ht,Nat.add_sub_cancel_left,List.getElem?_append_left hj']
  exact hj
 ·have hi':i < al.length:=by omega
  obtain ⟨ys,y1,y2,y3⟩:=h.at_ i hi'
  refine ⟨ys,y1,by rw [List.getElem_append_left hi']; exact y2,fun j x hj=>?_⟩
  have hj':=(List.getElem?_eq_some_iff.1 hj).1
  have hlt:i * sz + j < al.length * sz:=by
   have:(i + 1) * sz<=al.length * sz:=Nat.mul_le_mul_right _ hi'
   rw [Nat.succ_mul] at this
   omega
  rw [List.append_assoc,List.getElem?_append_left (by rw [ht]; exact hlt),List.getElem?_take,if_pos hlt]
  exact y3 j x hj
/-- A row that became memory. -/
theorem Lst.of_row {bk:Nat} {ty:TypeId} {m:Nat × Nat} {vs:List Value} {al:List α} (hb:V.blk bk (.cells vs.toArray ty m)) (h:Row sz R V vs al):Lst sz R V (some ⟨bk,0,none⟩) al.length al:=by
 refine ⟨rfl,fun i hi=>?_⟩
 obtain ⟨xs,h1,h2,h3⟩:=h.at_ i hi
 refine ⟨⟨bk,i * sz,none⟩,by simp [addrAdd,add_zero'],xs,h1,h2,fun j x hj=>?_⟩
 have e:(⟨bk,i * sz,none⟩:Addr).add j=⟨bk,i * sz + j,none⟩:=by rw [← add_zero',adr_add2,add_zero']
 rw [e]
 exact blk_at hb (h3 j x hj)
/-- The same for a slice that may be nil. -/
theorem Lst.of_mrow {bk c:Nat} {ty:TypeId} {m:Nat × Nat} {vs:List Value} {al:List α} (hb:vs≠[]->V.blk bk (.cells vs.toArray ty m)) (h:Row sz R V vs al) (hs:0 < sz) (hc:al.length<=c):Lst sz R V (mA bk c) al.length al:=by
 cases al with
 | nil=>exact Lst.nil
 | cons a r=>
  have hne:vs≠[]:=fun e=>by
   have:=h.len_le hs
   rw [e,List.length_cons,Nat.succ_mul] at this
   simp at this; omega
  have:mA bk c=some ⟨bk,0,none⟩:=by unfold mA; rw [if_neg]; rw [List.length_cons] at hc; omega
  rw [this]
  exact Lst.of_row (hb hne) h
end Go.Eng
/- Contracts: the reference's spans and fragments: written, compared, a number's class, Has. -/
namespace Go.Proofs.Tryz
open Go.Eng Go.Big
theorem c_zero_true {V:View} {v:Value} (h:RRw V v false [] []):Acts prog 102 #[v] V fun r V'=>r=.bool true:=by
 obtain ⟨p,n,c,q,m,e,rfl,hx,hy⟩:=h
 obtain rfl:=hx.len
 obtain rfl:=hy.len
 exact vc_ref06_zero false p _ c q _ e V _ ⟨fun _=>⟨fun _ V1 l1=>rfl,(fun h=>nomatch h)⟩,(fun h=>nomatch h)⟩
theorem c_ref06_Same {V:View} {v w:Value} {s:Sp} (h:RSp V v s) (h':RSp V w s) {k:Nat} (hs:s.sz k) (hk:k<=1099511627776) :
  Acts prog 68 #[v,w] V fun r V'=>r=.bool true:=by
 obtain ⟨lo,hi,a,b⟩:=s
 obtain ⟨b1,p,n,c,p',n',c',d,q,m,e,q',m',e',rfl,h1,h2⟩:=h
 obtain ⟨b2,i,j,t,i',j',t',f,o,u,g,o',u',g',rfl,h3,h4⟩:=h'
 dsimp only at h1 h2 h3 h4 ⊢
 refine vc_ref06_Same _ _ _ _ _ _ _ _ _ _ _ _ _ _ _ _ _ _ _ _ _ _ _ _ _ _ _ _ _ _ _ _ V _ ⟨fun _=>⟨fun _=>?_,(by intro h; simp at h)⟩,(by intro h; simp at h)⟩
 have tl:∀V4:View,V.Le V4->b=true->Acts prog 102 #[.agg #[.bool d,.slice q m e,.slice q' m' e']] V4 fun r V'=>r=.bool true:=fun V4 l4 hb=>c_zero_true ((h2.1 hb).le l4)
 have tl':∀V4:View,V.Le V4->b=true->Acts prog 102 #[.agg #[.bool f,.slice o u g,.slice o' u' g']] V4 fun r V'=>r=.bool true:=fun V4 l4 hb=>c_zero_true ((h4.1 hb).le l4)
 have tq:∀V4:View,V.Le V4->b=false->Acts prog 37 #[.agg #[.bool d,.slice q m e,.slice q' m' e'],.agg #[.bool f,.slice o u g,.slice o' u' g']] V4 fun r V'=>r=.bool true:=fun V4 l4 hb=>(c_ref01_SameQ ((h2.2 hb).le l4) ((h4.2 hb).le l4) hs.2 hk).mono fun r V5 _ h=>by rw [h]; simp
 cases a with
 | true=>
  refine ⟨fun _ V1 l1=>(c_zero_true ((h1.1 rfl).le l1)).mono ?_,(fun h=>nomatch h)⟩
  rintro r V2 l2 rfl
  refine ⟨_,rfl,fun _ V3 l3=>(c_zero_true ((h3.1 rfl).le (l1.trans (l2.trans l3)))).mono ?_,(fun h=>nomatch h)⟩
  rintro r V4 l4 rfl
  have L:=l1.trans (l2.trans (l3.trans l4))
  refine ⟨_,rfl,fun _=>⟨fun hb V5 l5=>(tl V5 (L.trans l5) hb).mono ?_,fun hb=>⟨fun _ V5 l5=>(tq V5 (L.trans l5) hb).mono ?_,fun hb'=>by rw [hb] at hb'; cases hb'⟩⟩,(fun h=>nomatch h)⟩
  ·rintro r V6 l6 rfl
   refine ⟨_,rfl,fun _ V7 l7=>(tl' V7 (L.trans (l5.trans (l6.trans l7))) hb).mono ?_,(fun h=>nomatch h)⟩
   rintro r V8 l8 rfl
   exact ⟨_,rfl,fun _ V9 l9=>rfl,(fun h=>nomatch h)⟩
  ·rintro r V6 l6 rfl
   exact ⟨_,rfl,fun V7 l7=>rfl⟩
 | false=>
  refine ⟨(fun h=>nomatch h),fun _=>⟨fun _ V1 l1=>(c_ref01_SameQ ((h1.2 rfl).le l1) ((h3.2 rfl).le l1) hs.1 hk).mono ?_,(fun h=>nomatch h)⟩⟩
  rintro r V4 l4 rfl
  have L:=l1.trans l4
  refine ⟨_,rfl,fun _=>⟨fun hb V5 l5=>(tl V5 (L.trans l5) hb).mono ?_,fun hb=>⟨fun _ V5 l5=>(tq V5 (L.trans l5) hb).mono ?_,fun hb'=>by rw [hb] at hb'; cases hb'⟩⟩,(by intro h; simp at h)⟩
  ·rintro r V6 l6 rfl
   refine ⟨_,rfl,fun _ V7 l7=>(tl' V7 (L.trans (l5.trans (l6.trans l7))) hb).mono ?_,(fun h=>nomatch h)⟩
   rintro r V8 l8 rfl
   exact ⟨_,rfl,fun _ V9 l9=>rfl,(fun h=>nomatch h)⟩
  ·rintro r V6 l6 rfl
   exact ⟨_,rfl,fun V7 l7=>rfl⟩
theorem c_ref06_Write {V:View} {v:Value} {s:Sp} (h:RSs V v s) {k:Nat} (hs:s.sz k) (hk:k<=1099511627776):Acts prog 59 #[v] V fun r V'=>RSp V' r s:=by
 obtain ⟨b1,p,n,c,p',n',c',d,q,m,e,q',m',e',rfl,h1,h2⟩:=h
 have t:∀{V:View} {v:Value} {x:Rat} {no:Bool},RA V v x->(!no)=true->RE V v x no:=fun h e=>by
  rw [Bool.not_eq_true'] at e; subst e; exact ⟨(fun h=>nomatch h),fun _=>h⟩
 have f:∀{V:View} {x:Rat} {no:Bool},(!no)=false->RE V (.agg #[.bool false,.slice none 0 0,.slice none 0 0]) x no:=fun e=>by
  rw [Bool.not_eq_false'] at e; subst e; exact ⟨fun _=>RRw.nil,(fun h=>nomatch h)⟩
 refine vc_ref06_Write _ _ _ _ _ _ _ _ _ _ _ _ _ _ _ _ V _ ⟨fun ha V1 l1=>(c_ref01_ToQ (h1.le l1) hs.1 hk).mono ?_,fun ha=>⟨fun hb V7 l7=>(c_ref01_ToQ (h2.le l7) hs.2 hk).mono ?_,fun hb V10 l10=>?_⟩⟩
 ·rintro r V2 l2 g1
  have g10:=g1
  obtain ⟨_,_,_,_,_,_,_,rfl⟩:=g1.shape
  refine ⟨_,_,_,_,_,_,_,rfl,fun hb V3 l3=>(c_ref01_ToQ (h2.le (l1.trans (l2.trans l3))) hs.2 hk).mono ?_,fun hb V6 l6=>?_⟩
  ·rintro r V4 l4 g2
   have g20:=g2
   obtain ⟨_,_,_,_,_,_,_,rfl⟩:=g2.shape
   exact ⟨_,_,_,_,_,_,_,rfl,fun V5 l5=>⟨_,_,_,_,_,_,_,_,_,_,_,_,_,_,rfl,t (g10.le (l3.trans (l4.trans l5))) ha,t (g20.le l5) hb⟩⟩
  ·exact ⟨_,_,_,_,_,_,_,_,_,_,_,_,_,_,rfl,t (g10.le l6) ha,f hb⟩
 ·rintro r V8 l8 g2
  have g20:=g2
  obtain ⟨_,_,_,_,_,_,_,rfl⟩:=g2.shape
  exact ⟨_,_,_,_,_,_,_,rfl,fun V9 l9=>⟨_,_,_,_,_,_,_,_,_,_,_,_,_,_,rfl,f ha,t (g20.le l9) hb⟩⟩
 ·exact ⟨_,_,_,_,_,_,_,_,_,_,_,_,_,_,rfl,f ha,f hb⟩
theorem SzL.digs {k:Nat} {l:L3} (h:SzL k l) (hk:k<=1099511627776):(digs l.1.natAbs).length<=1099511627776/\(digs l.2.1.natAbs).length<=1099511627776/\(digs l.2.2.natAbs).length<=1099511627776:=by
 have d1:=digs_len_bits (show l.1.natAbs < 2 ^ k from h.1.1)
 have d2:=digs_len_bits (show l.2.1.natAbs < 2 ^ k from h.2.1.1)
 have d3:=digs_len_bits (show l.2.2.natAbs < 2 ^ k from h.2.2.1)
 exact ⟨by omega,by omega,by omega⟩
/-- A fragment that lies at an address; a list of fragments. -/
def FAt (V:View) (ad:Addr) (l:L3) (s:Sp):Prop:=∃xs:List Value,RFa V (.agg xs.toArray) l s/\∀i x,xs[i]?=some x->V.at (ad.add i) x
theorem FAt.le {V V':View} {ad:Addr} {l:L3} {s:Sp} (h:FAt V ad l s) (e:V.Le V'):FAt V' ad l s:=by
 obtain ⟨xs,h1,h2⟩:=h; exact ⟨xs,h1.le e,fun i x hx=>e.at (h2 i x hx)⟩
structure RFas (V:View) (p:OA) (n:Nat) (fs:List (L3 × Sp)):Prop where
 len:n=fs.length
 at_:∀(i:Nat) (h:i < fs.length),∃ad,addrAdd p (i * 14)=some ad/\FAt V ad fs[i].1 fs[i].2
theorem RFas.le {V V':View} {p:OA} {n:Nat} {fs:List (L3 × Sp)} (h:RFas V p n fs) (e:V.Le V'):RFas V' p n fs:=⟨h.len,fun i hi=>by obtain ⟨ad,h1,h2⟩:=h.at_ i hi; exact ⟨ad,h1,h2.le e⟩⟩
theorem isSome_addr {p:OA} {j:Nat} {ad:Addr} (h:addrAdd p j=some ad):p.isSome=true:=by
 cases p with
 | none=>cases h
 | some a=>rfl
/-- A span that lies at an address; a list of spans. -/
def SAt (V:View) (ad:Addr) (s:Sp):Prop:=∃xs:List Value,RSs V (.agg xs.toArray) s/\∀i x,xs[i]?=some x->V.at (ad.add i) x
theorem SAt.le {V V':View} {ad:Addr} {s:Sp} (h:SAt V ad s) (e:V.Le V'):SAt V' ad s:=by
 obtain ⟨xs,h1,h2⟩:=h; exact ⟨xs,h1.le e,fun i x hx=>e.at (h2 i x hx)⟩
structure RSl (V:View) (p:OA) (n:Nat) (ss:List Sp):Prop where
 len:n=ss.length
 at_:∀(i:Nat) (h:i < ss.length),∃ad,addrAdd p (i * 8)=some ad/\SAt V ad ss[i]
theorem RSl.le {V V':View} {p:OA} {n:Nat} {ss:List Sp} (h:RSl V p n ss) (e:V.Le V'):RSl V' p n ss:=⟨h.len,fun i hi=>by obtain ⟨ad,h1,h2⟩:=h.at_ i hi; exact ⟨ad,h1,h2.le e⟩⟩
/-- The class of a number: by how it lies to both ends. -/
def clsV (a b:Int):Int:=if 0 < a/\b < 0 then 2 else if (a=0/\b<=0) \/ (b=0/\0<=a) then 1 else 0
def Sp.la (s:Sp) (t:Rat):Int:=if s.a then 1 else cmpQ t s.lo
def Sp.lb (s:Sp) (t:Rat):Int:=if s.b then -1 else cmpQ t s.hi
def clsL:List Sp->Rat->Int
 | [],_=>0
 | s :: r,t=>if clsV (s.la t) (s.lb t)≠0 then clsV (s.la t) (s.lb t) else clsL r t
theorem c_ref06_Class {V:View} {p:OA} {n c:Nat} {v:Value} {ss:List Sp} {t:Rat} (hl:RSl V p n ss) (ht:RQ V v t) {k:Nat} (hs:∀s ∈ ss,s.sz k) (st:Sz k t) (hk:2 * k < 274877906944) (hn:ss.length < 4611686018427387904) :
  Acts prog 36 #[.slice p n c,v] V fun r V'=>r=.int .i64 (clsL ss t):=by
 obtain rfl:=hl.len
 have ht0:=ht
 obtain ⟨_,_,_,_,_,_,rfl⟩:=ht.shape
 refine vc_ref06_Class p _ c _ _ _ _ _ _ _ V _ ⟨fun z V'=>0<=z/\z<=ss.length/\clsL ss t=clsL (ss.drop z.toNat) t,fun z=>(ss.length - z).toNat,⟨0,by and_intros <;> rfl,by omega,by omega,rfl⟩,?_⟩
 rintro z V1 l1 ⟨z0,z1,z2⟩
 refine ⟨rfl,fun hz=>?_,fun hz V12 l12=>?_⟩
 ·have hz:z < ss.length:=of_decide_eq_true hz
  obtain ⟨i,rfl⟩:∃i:Nat,z=i:=⟨z.toNat,by omega⟩
  have hi:i < ss.length:=by omega
  rw [Int.toNat_natCast] at z2 ⊢
  have w:i64.wrap ((i:Int) + 1)=(i:Int) + 1:=i64w (by omega)
  rw [w]
  have si:=hs _ (List.getElem_mem hi)
  obtain ⟨ad,ha,xs,⟨bb,pp,nn,cc,pp',nn',cc',dd,qq,mm,ee,qq',mm',ee',ex,h1,h2⟩,hx⟩:=(hl.le l1).at_ i hi
  have ex:=congrArg Array.toList (Value.agg.inj ex)
  dsimp only at ex
  subst ex
  rw [List.drop_eq_getElem_cons hi] at z2
  generalize ss[i]=s at *
  simp only [clsL] at z2
  refine ⟨isSome_addr ha,⟨by omega,hz⟩,_,_,_,_,_,_,_,_,_,_,_,_,_,_,s.a,s.b,ad,by rw [ha],hx 0 _ rfl,hx 1 _ rfl,hx 2 _ rfl,hx 3 _ rfl,hx 4 _ rfl,hx 5 _ rfl,hx 6 _ rfl,hx 7 _ rfl,fun z _=>z=s.la t,⟨fun h V2 l2=>(c_num_C (ht0.le (l1.trans l2)) (h1.le l2) st si.1 (by omega)).mono ?_,fun h=>⟨1,by and_intros <;> rfl,?_⟩⟩,?_⟩
  ·rintro r V3 l3 rfl
   exact ⟨_,rfl,_,by and_intros <;> rfl,by unfold Sp.la; rw [Bool.not_eq_true'] at h; rw [h]; rfl⟩
  ·unfold Sp.la; rw [Bool.not_eq_false'] at h; rw [h]; rfl
  rintro za V4 l4 rfl
  refine ⟨rfl,fun z _=>z=s.lb t,⟨fun h V5 l5=>(c_num_C (ht0.le (l1.trans (l4.trans l5))) (h2.le (l4.trans l5)) st si.2 (by omega)).mono ?_,fun h=>⟨-1,by and_intros <;> rfl,?_⟩⟩,?_⟩
  ·rintro r V6 l6 rfl
   exact ⟨_,rfl,_,by and_intros <;> rfl,by unfold Sp.lb; rw [Bool.not_eq_true'] at h; rw [h]; rfl⟩
  ·unfold Sp.lb; rw [Bool.not_eq_false'] at h; rw [h]; rfl
  rintro zb V7 l7 rfl
  generalize s.la t=a at *
  generalize s.lb t=b at *
  refine ⟨rfl,fun z _=>z=decide (0 < a/\b < 0),⟨fun h=>⟨_,by and_intros <;> rfl,?_⟩,fun h=>⟨_,by and_intros <;> rfl,?_⟩⟩,?_⟩
  ·have h:0 < a:=of_decide_eq_true h
   simp [h]
  ·have h:¬ 0 < a:=of_decide_eq_false h
   simp [h]
  rintro z9 V8 l8 rfl
  refine ⟨rfl,fun h V9 l9=>?_,fun h=>⟨fun z _=>z=decide ((a=0/\b<=0) \/ (b=0/\0<=a)),⟨fun ha=>⟨fun hb=>⟨_,by and_intros <;> rfl,?_⟩,fun hb=>⟨fun hc=>⟨_,by and_intros <;> rfl,?_⟩,fun hc=>⟨_,by and_intros <;> rfl,?_⟩⟩⟩,fun ha=>⟨fun hc=>⟨_,by and_intros <;> rfl,?_⟩,fun hc=>⟨_,by and_intros <;> rfl,?_⟩⟩⟩,?_⟩⟩
  ·have h:=of_decide_eq_true h
   rw [z2]
   simp [clsV,h]
  ·simp at ha hb; simp [ha,hb]
  ·simp at ha hb hc; simp [ha,hc]
  ·simp at ha hb hc; simp [ha,hc]; omega
  ·simp at ha hc; simp [ha,hc]
  ·simp at ha hc; simp [ha,hc]
  rintro z11 V10 l10 rfl
  have h:=of_decide_eq_false h
  refine ⟨rfl,fun h' V11 l11=>?_,fun h'=>⟨(i:Int) + 1,by dsimp only; omega,by and_intros <;> rfl,by omega,by omega,?_⟩⟩
  ·have h':=of_decide_eq_true h'
   rw [z2]
   have:clsV a b=1:=by unfold clsV; rw [if_neg h,if_pos h']
   rw [this]; rfl
  ·have h':=of_decide_eq_false h'
   have:clsV a b=0:=by unfold clsV; rw [if_neg h,if_neg h']
   rw [z2,this]
   show _=clsL (ss.drop ((i:Int) + 1).toNat) t
   rw [show ((i:Int) + 1).toNat=i + 1 from by omega]
   rfl
 ·have hz:¬ z < ss.length:=of_decide_eq_false hz
  rw [z2,show z.toNat=ss.length from by omega,List.drop_length]
  rfl
theorem cmpQ_swap (x y:Rat):cmpQ y x=- cmpQ x y:=by
 unfold cmpQ
 rw [show y - x=-(x - y) from by grind]
 exact Int.sign_neg _
end Go.Proofs.Tryz
/- By program: the conditions of the functions, from their loaded code. -/
namespace Go.Proofs.Tryz
open Go.Eng
set_option maxRecDepth 100000
end Go.Proofs.Tryz
/- Contracts: the reference reads numbers, points, lines, spans, fragments of package api in any form. -/
namespace Go.Proofs.Tryz
open Go.Eng Go.Big
/-- A line of package api in any form. -/
def RLw (V:View) (v:Value) (b1:Bool) (xs:List Nat) (b2:Bool) (ys:List Nat) (b3:Bool) (zs:List Nat):Prop:=∃p n c q m e s i j,v=.agg #[.bool b1,.slice p n c,.bool b2,.slice q m e,.bool b3,.slice s i j]/\RD V p n c xs/\RD V q m e ys/\RD V s i j zs
theorem RLw.le {V V':View} {v:Value} {b1:Bool} {xs:List Nat} {b2:Bool} {ys:List Nat} {b3:Bool} {zs:List Nat} (h:RLw V v b1 xs b2 ys b3 zs) (l:V.Le V'):RLw V' v b1 xs b2 ys b3 zs:=by
 obtain ⟨p,n,c,q,m,e,s,i,j,rfl,h1,h2,h3⟩:=h
 exact ⟨_,_,_,_,_,_,_,_,_,rfl,h1.le l,h2.le l,h3.le l⟩
def lnW (b1:Bool) (xs:List Nat) (b2:Bool) (ys:List Nat) (b3:Bool) (zs:List Nat):L3:=(ival b1 xs,ival b2 ys,ival b3 zs)
/-- A fragment of package api in any form. -/
structure FW where
 b1:Bool
 xs:List Nat
 b2:Bool
 ys:List Nat
 b3:Bool
 zs:List Nat
 c1:Bool
 us:List Nat
 vs:List Nat
 c2:Bool
 ws:List Nat
 ts:List Nat
 na:Bool
 nb:Bool
def FW.ln (f:FW):L3:=lnW f.b1 f.xs f.b2 f.ys f.b3 f.zs
def FW.sp (f:FW):Sp:=spW f.c1 f.us f.vs f.c2 f.ws f.ts f.na f.nb
def FW.ok (f:FW):Bool:=okLn f.b1 f.xs f.b2 f.ys f.b3 f.zs && okW f.c1 f.us f.vs f.c2 f.ws f.ts f.na f.nb
structure FW.short (f:FW):Prop where
 x:f.xs.length<=1000000
 y:f.ys.length<=1000000
 z:f.zs.length<=1000000
 u:f.us.length<=1000000
 v:f.vs.length<=1000000
 w:f.ws.length<=1000000
 t:f.ts.length<=1000000
def RFw (V:View) (v:Value) (f:FW):Prop:=∃p1 n1 d1 p2 n2 d2 p3 n3 d3 p n c p' n' c' q m e q' m' e',
 v=.agg #[.bool f.b1,.slice p1 n1 d1,.bool f.b2,.slice p2 n2 d2,.bool f.b3,.slice p3 n3 d3,.bool f.c1,.slice p n c,.slice p' n' c',.bool f.c2,.slice q m e,.slice q' m' e',.bool f.na,.bool f.nb] /\
 RLw V (.agg #[.bool f.b1,.slice p1 n1 d1,.bool f.b2,.slice p2 n2 d2,.bool f.b3,.slice p3 n3 d3]) f.b1 f.xs f.b2 f.ys f.b3 f.zs /\
 RSw V (.agg #[.bool f.c1,.slice p n c,.slice p' n' c',.bool f.c2,.slice q m e,.slice q' m' e',.bool f.na,.bool f.nb]) f.c1 f.us f.vs f.c2 f.ws f.ts f.na f.nb
theorem RFw.le {V V':View} {v:Value} {f:FW} (h:RFw V v f) (l:V.Le V'):RFw V' v f:=by
 obtain ⟨p1,n1,d1,p2,n2,d2,p3,n3,d3,p,n,c,p',n',c',q,m,e,q',m',e',rfl,h1,h2⟩:=h
 exact ⟨_,_,_,_,_,_,_,_,_,_,_,_,_,_,_,_,_,_,_,_,_,rfl,h1.le l,h2.le l⟩
end Go.Proofs.Tryz
/- Contracts of package fragment; points made of ints. -/
namespace Go.Proofs.Tryz
open Go.Eng Go.Big
theorem FrSh.ex {V:View} {v:Value} {l:L3} {s:Sp} (h:RFr V v l s):∃(x1 x2:Int) (p:OA) (y1 y2:Int) (q:OA) (z1 z2:Int) (r:OA) (u1 u2:Int) (t:OA) (w1 w2:Int) (o:OA),
 v=.agg #[.int .i64 x1,.int .i64 x2,.pointer p,.int .i64 y1,.int .i64 y2,.pointer q,.int .i64 z1,.int .i64 z2,.pointer r,.int .i64 u1,.int .i64 u2,.pointer t,.int .i64 w1,.int .i64 w2,.pointer o,.bool s.a,.bool s.b]:=by
 obtain ⟨_,_,_,_,_,_,_,_,_,_,_,_,_,_,_,e,-⟩:=h; exact ⟨_,_,_,_,_,_,_,_,_,_,_,_,_,_,_,e⟩
end Go.Proofs.Tryz
/- By program: the conditions of the functions, from their loaded code. -/
namespace Go.Proofs.Tryz
open Go.Eng
open Go.Value renaming int→I,pointer→P,slice→S,agg→A,bool→B,tuple→T
open Go.IntKind renaming i64→J,u64→U,u32→W
set_option maxRecDepth 100000
theorem vc_ref06_Sample (c:Bool) (d:OA) (e f:Nat) (g:OA) (i k:Nat) (l:Bool) (m:OA) (n o:Nat) (p:OA) (q r:Nat) (a b:Bool) (V:View) (R:VR) (h:((a=true->((b=true->(Rt V R (A #[B false,S none 0 0,S none 0 0])))/\(b=false->((a=true->(Ca V 19 #[I J 1] fun i0 i1=>∃t,∃u w x,∃y z a0,i0=A #[B t,S u w x,S y z a0]/\(Ca i1 78 #[A #[B l,S m n o,S p q r],A #[B t,S u w x,S y z a0]] fun i2 i3=>∃a1,∃a2 a3 a4,∃a5 a6 a7,i2=A #[B a1,S a2 a3 a4,S a5 a6 a7]/\(Rt i3 R (A #[B a1,S a2 a3 a4,S a5 a6 a7])))))/\(a=false->((b=true->(Ca V 19 #[I J 1] fun i4 i5=>∃a9,∃b0 b1 b2,∃b3 b4 b5,i4=A #[B a9,S b0 b1 b2,S b3 b4 b5]/\(Ca i5 23 #[A #[B c,S d e f,S g i k],A #[B a9,S b0 b1 b2,S b3 b4 b5]] fun i6 i7=>∃b6,∃b7 b8 b9,∃c0 c1 c2,i6=A #[B b6,S b7 b8 b9,S c0 c1 c2]/\(Rt i7 R (A #[B b6,S b7 b8 b9,S c0 c1 c2])))))/\(b=false->(Ca V 101 #[A #[B c,S d e f,S g i k],A #[B l,S m n o,S p q r]] fun i8 i9=>∃c4,∃c5 c6 c7,∃c8 c9 d0,i8=A #[B c4,S c5 c6 c7,S c8 c9 d0]/\(Rt i9 R (A #[B c4,S c5 c6 c7,S c8 c9 d0]))))))))))/\(a=false->((a=true->(Ca V 19 #[I J 1] fun k0 k1=>∃d2,∃d3 d4 d5,∃d6 d7 d8,k0=A #[B d2,S d3 d4 d5,S d6 d7 d8]/\(Ca k1 78 #[A #[B l,S m n o,S p q r],A #[B d2,S d3 d4 d5,S d6 d7 d8]] fun k2 k3=>∃d9,∃e0 e1 e2,∃e3 e4 e5,k2=A #[B d9,S e0 e1 e2,S e3 e4 e5]/\(Rt k3 R (A #[B d9,S e0 e1 e2,S e3 e4 e5])))))/\(a=false->((b=true->(Ca V 19 #[I J 1] fun k4 k5=>∃e7,∃e8 e9 f0,∃f1 f2 f3,k4=A #[B e7,S e8 e9 f0,S f1 f2 f3]/\(Ca k5 23 #[A #[B c,S d e f,S g i k],A #[B e7,S e8 e9 f0,S f1 f2 f3]] fun k6 k7=>∃f4,∃f5 f6 f7,∃f8 f9 g0,k6=A #[B f4,S f5 f6 f7,S f8 f9 g0]/\(Rt k7 R (A #[B f4,S f5 f6 f7,S f8 f9 g0])))))/\(b=false->(Ca V 101 #[A #[B c,S d e f,S g i k],A #[B l,S m n o,S p q r]] fun k8 k9=>∃g2,∃g3 g4 g5,∃g6 g7 g8,k8=A #[B g2,S g3 g4 g5,S g6 g7 g8]/\(Rt k9 R (A #[B g2,S g3 g4 g5,S g6 g7 g8])))))))))):
 Acts prog 39 #[A #[B c,S d e f,S g i k,B l,S m n o,S p q r,B a,B b]] V R:=
 fd (LF:=LF0) (RF:=[1000010]) [] [] func39 h
end Go.Proofs.Tryz
/- Contracts: Half, Mid, Sample, Cross of the reference; it reads right fragments. -/
namespace Go.Proofs.Tryz
open Go.Eng Go.Big
theorem szi_two:Sz 2 (((2:Int):Rat)):=⟨by show (2:Int).natAbs < _; decide,by show (1:Nat) < _; decide⟩
theorem szi_one:Sz 2 (((1:Int):Rat)):=⟨by show (1:Int).natAbs < _; decide,by show (1:Nat) < _; decide⟩
theorem c_num_Half {V:View} {v:Value} {x:Rat} (h:RQ V v x) {k:Nat} (sx:Sz k x) (hk:k + 2 < 274877906944) :
  Acts prog 154 #[v] V fun r V'=>RQ V' r (x * ((2:Int):Rat)⁻¹):=by
 have h0:=h
 obtain ⟨_,_,_,_,_,_,rfl⟩:=h.shape
 refine vc_num_Half _ _ _ _ _ _ _ V _ fun V1 l1=>(c_num_Of 2 (by decide) (by decide)).mono ?_
 rintro r V2 l2 g
 have g0:=g
 obtain ⟨_,_,_,_,_,_,rfl⟩:=g.shape
 refine ⟨_,_,_,_,_,_,_,rfl,fun V3 l3=>(c_num_Over (h0.le (l1.trans (l2.trans l3))) (g0.le l3) (by show (2:Int)≠0; decide) sx szi_two hk).mono ?_⟩
 rintro r V4 l4 q
 have q0:=q
 obtain ⟨_,_,_,_,_,_,rfl⟩:=q.shape
 exact ⟨_,_,_,_,_,_,_,rfl,fun V5 l5=>q0.le l5⟩
theorem c_num_Mid {V:View} {v w:Value} {x y:Rat} (h:RQ V v x) (h':RQ V w y) {k:Nat} (sx:Sz k x) (sy:Sz k y) (hk:4 * k + 4 < 274877906944) :
  Acts prog 101 #[v,w] V fun r V'=>RQ V' r ((x + y) * ((2:Int):Rat)⁻¹):=by
 have h0:=h
 have h0':=h'
 obtain ⟨_,_,_,_,_,_,rfl⟩:=h.shape
 obtain ⟨_,_,_,_,_,_,rfl⟩:=h'.shape
 refine vc_num_Mid _ _ _ _ _ _ _ _ _ _ _ _ _ _ V _ fun V1 l1=>(c_num_Plus (h0.le l1) (h0'.le l1) sx sy (by omega)).mono ?_
 rintro r V2 l2 g
 have g0:=g
 obtain ⟨_,_,_,_,_,_,rfl⟩:=g.shape
 refine ⟨_,_,_,_,_,_,_,rfl,fun V3 l3=>(c_num_Half (g0.le l3) (sx.add sy) (by omega)).mono ?_⟩
 rintro r V4 l4 q
 have q0:=q
 obtain ⟨_,_,_,_,_,_,rfl⟩:=q.shape
 exact ⟨_,_,_,_,_,_,_,rfl,fun V5 l5=>q0.le l5⟩
theorem sz_samp {s:Sp} {k:Nat} (ss:s.sz k):Sz (2 * k + 10) s.samp:=by
 have z:Sz (2 * k + 10) (0:Rat):=⟨by show (0:Int).natAbs < _; exact Nat.lt_of_lt_of_le (by decide) (Nat.one_le_two_pow),Nat.one_lt_two_pow (by omega)⟩
 unfold Sp.samp
 split
 ·split
  ·exact z
  ·exact (ss.2.sub szi_one).mono (by omega)
 ·split
  ·exact (ss.1.add szi_one).mono (by omega)
  ·exact ((ss.1.add ss.2).mul (sz_inv szi_two)).mono (by omega)
theorem c_ref06_Sample {V:View} {v:Value} {s:Sp} (h:RSs V v s) {k:Nat} (ss:s.sz k) (hk:4 * k + 4 < 274877906944) :
  Acts prog 39 #[v] V fun r V'=>RQ V' r s.samp:=by
 obtain ⟨b,p,n,c,p',n',c',d,q,m,e,q',m',e',rfl,h1,h2⟩:=h
 have a1:s.a=true->s.b=true->s.samp=0:=fun x y=>by simp [Sp.samp,x,y]
 have a2:s.a=true->s.b=false->s.samp=s.hi - ((1:Int):Rat):=fun x y=>by simp [Sp.samp,x,y]
 have a3:s.a=false->s.b=true->s.samp=s.lo + ((1:Int):Rat):=fun x y=>by simp [Sp.samp,x,y]
 have a4:s.a=false->s.b=false->s.samp=(s.lo + s.hi) * ((2:Int):Rat)⁻¹:=fun x y=>by simp [Sp.samp,x,y]
 have no:∀{P:Prop},s.a=true->s.a=false->P:=fun x y=>by rw [x] at y; cases y
 refine vc_ref06_Sample b p n c p' n' c' d q m e q' m' e' s.a s.b V _ ⟨fun ha=>⟨fun hb V1 l1=>?_,fun hb=>⟨fun _ V2 l2=>(c_num_Of 1 (by decide) (by decide)).mono ?_,fun e=>no ha e⟩⟩,fun ha=>⟨fun e=>no e ha,fun _=>⟨fun hb V7 l7=>(c_num_Of 1 (by decide) (by decide)).mono ?_,fun hb V12 l12=>(c_num_Mid (h1.le l12) (h2.le l12) ss.1 ss.2 hk).mono ?_⟩⟩⟩
 ·rw [a1 ha hb]
  have:=RQ.zero (V:=V1)
  simpa using this
 ·rw [a2 ha hb]
  rintro r V3 l3 g
  have g0:=g
  obtain ⟨_,_,_,_,_,_,rfl⟩:=g.shape
  refine ⟨_,_,_,_,_,_,_,rfl,fun V4 l4=>(c_num_Sub (h2.le (l2.trans (l3.trans l4))) (g0.le l4) ss.2 szi_one (by omega)).mono ?_⟩
  rintro r V5 l5 q
  have q0:=q
  obtain ⟨_,_,_,_,_,_,rfl⟩:=q.shape
  exact ⟨_,_,_,_,_,_,_,rfl,fun V6 l6=>q0.le l6⟩
 ·rw [a3 ha hb]
  rintro r V3 l3 g
  have g0:=g
  obtain ⟨_,_,_,_,_,_,rfl⟩:=g.shape
  refine ⟨_,_,_,_,_,_,_,rfl,fun V4 l4=>(c_num_Plus (h1.le (l7.trans (l3.trans l4))) (g0.le l4) ss.1 szi_one (by omega)).mono ?_⟩
  rintro r V5 l5 q
  have q0:=q
  obtain ⟨_,_,_,_,_,_,rfl⟩:=q.shape
  exact ⟨_,_,_,_,_,_,_,rfl,fun V6 l6=>q0.le l6⟩
 ·rw [a4 ha hb]
  rintro r V5 l5 q
  have q0:=q
  obtain ⟨_,_,_,_,_,_,rfl⟩:=q.shape
  exact ⟨_,_,_,_,_,_,_,rfl,fun V6 l6=>q0.le l6⟩
/-- A right fragment of package api in normal form. -/
theorem RFa.raw {V:View} {v:Value} {l:L3} {s:Sp} (h:RFa V v l s) (ho:FOk l s) {k:Nat} (sl:SzL k l) (ss:s.sz k) (hk:k<=1000000):∃f:FW,RFw V v f/\f.ok=true/\f.ln=l/\f.sp=s/\f.short:=by
 obtain ⟨b1,p1,n1,c1,b2,p2,n2,c2,b3,p3,n3,c3,b,p,n,c,p',n',c',d,q,m,e,q',m',e',rfl,h1,h2⟩:=h
 obtain ⟨_,_,_,_,_,_,_,_,_,el,x1,x2,x3⟩:=h1
 have el:=congrArg Array.toList (Value.agg.inj el)
 simp only [List.cons.injEq,Value.bool.injEq,Value.slice.injEq,and_true] at el
 obtain ⟨rfl,⟨rfl,rfl,rfl⟩,rfl,⟨rfl,rfl,rfl⟩,rfl,rfl,rfl,rfl⟩:=el
 obtain ⟨_,_,_,_,_,_,_,_,_,_,_,_,_,_,es,y1,y2⟩:=h2
 have es:=congrArg Array.toList (Value.agg.inj es)
 simp only [List.cons.injEq,Value.bool.injEq,Value.slice.injEq,and_true] at es
 obtain ⟨rfl,⟨rfl,rfl,rfl⟩,⟨rfl,rfl,rfl⟩,rfl,⟨rfl,rfl,rfl⟩,⟨rfl,rfl,rfl⟩⟩:=es
 obtain ⟨ok,can,emp⟩:=ho
 obtain ⟨w1,us,vs,r1,o1,e1,z1⟩:=y1.raw can.1
 obtain ⟨w2,ws,ts,r2,o2,e2,z2⟩:=y2.raw can.2
 have i1:=r1
 have i2:=r2
 obtain ⟨_,_,_,_,_,_,f1,-,-⟩:=i1
 obtain ⟨_,_,_,_,_,_,f2,-,-⟩:=i2
 have f1:=congrArg Array.toList (Value.agg.inj f1)
 have f2:=congrArg Array.toList (Value.agg.inj f2)
 simp only [List.cons.injEq,Value.bool.injEq,Value.slice.injEq,and_true] at f1 f2
 obtain ⟨rfl,-⟩:=f1
 obtain ⟨rfl,-⟩:=f2
 have len:∀{z:Int},Sz k (z:Rat)->(digs z.natAbs).length<=1000000:=fun h=>Nat.le_trans (digs_len_bits h.1) hk
 have d1:=z1 k ss.1
 have d2:=z2 k ss.2
 refine ⟨⟨decide (l.1 < 0),digs l.1.natAbs,decide (l.2.1 < 0),digs l.2.1.natAbs,decide (l.2.2 < 0),digs l.2.2.natAbs,b,us,vs,d,ws,ts,s.a,s.b⟩,⟨_,_,_,_,_,_,_,_,_,_,_,_,_,_,_,_,_,_,_,_,_,rfl,⟨_,_,_,_,_,_,_,_,_,rfl,x1,x2,x3⟩,⟨_,_,_,_,_,_,_,_,_,_,_,_,rfl,r1,r2⟩⟩,?_,?_,?_,⟨len sl.1,len sl.2.1,len sl.2.2,Nat.le_trans d1.1 hk,Nat.le_trans d1.2 hk,Nat.le_trans d2.1 hk,Nat.le_trans d2.2 hk⟩⟩
 ·have e3:spW b us vs d ws ts s.a s.b=s:=by unfold spW; rw [e1,e2]
  unfold FW.ok okW
  dsimp only
  rw [okLn_okL,o1,o2,e3,emp]
  show okL l && true=true
  rw [ok]; rfl
 ·unfold FW.ln lnW
  dsimp only
  rw [ival_digs,ival_digs,ival_digs]
 ·unfold FW.sp spW
  dsimp only
  rw [e1,e2]
end Go.Proofs.Tryz
