/- A part of the proof (joined by program from: AngP, VLoc, OrdP, LocA). -/
import Derived.Test.YtcbcbdbheiopbaaGreatDoorL16
import Derived.Test.YtcbcbdbheiopbaaGreatDoorL15
import Derived.Test.YtcbcbdbheiopbaaGreatDoorL5
import Derived.Test.YtcbcbdbheiopbaaGreatDoorL6
import Derived.Test.YtcbcbdbheiopbaaGreatDoorL14
set_option linter.unusedVariables false
open Go.IntKind (i64 u64 u32)
/- Plain: directions compared; lists of rays in order, each once; the samples between them; lines through a point that are not the same. -/
namespace Go.Proofs.Tryz.Sec
open Go.Eng Go.Big
/-! directions in order -/
def half (u:V2):Int:=if u.2.num.sign > 0 \/ u.2.num.sign=0/\u.1.num.sign > 0 then 1 else if u.2.num.sign < 0 \/ u.1.num.sign < 0 then 2 else 0
def ang (u v:V2):Int:=if half u < half v then -1 else if half u > half v then 1 else -(cr u v).num.sign
theorem sg_gt {q:Rat}:q.num.sign > 0↔q > 0:=by
 have:=Rat.num_nonneg (q:=-q)
 rw [Rat.neg_num] at this
 rw [gt_iff_lt,Int.sign_pos_iff]
 have h2:(0<=-q)↔¬ q > 0:=by constructor <;> intro h <;> grind
 rw [h2] at this
 by_cases h:q > 0
 ·exact ⟨fun _=>h,fun _=>by
   have:¬ 0<=-q.num:=fun g=>this.1 g h
   omega⟩
 ·exact ⟨fun g=>by have:=this.2 h; omega,fun g=>absurd g h⟩
theorem sg_lt {q:Rat}:q.num.sign < 0↔q < 0:=by
 have:=@sg_gt (-q)
 rw [Rat.neg_num,Int.sign_neg] at this
 constructor
 ·intro h; have:=this.1 (by omega); grind
 ·intro h; have:=this.2 (by grind); omega
theorem half_cases (u:V2):half u=1/\up u \/ half u=2/\dn u \/ half u=0/\u.1=0/\u.2=0:=by
 unfold half up dn
 split
 ·rename_i h; rw [sg_gt,sg_gt,sg_zero] at h; exact .inl ⟨rfl,h⟩
 ·rename_i h
  rw [sg_gt,sg_gt,sg_zero] at h
  split
  ·rename_i h'; rw [sg_lt,sg_lt] at h'; exact .inr (.inl ⟨rfl,by grind⟩)
  ·rename_i h'; rw [sg_lt,sg_lt] at h'; exact .inr (.inr ⟨rfl,by grind,by grind⟩)
theorem ang_lt {u v:V2}:ang u v < 0↔half u < half v \/ half u=half v/\cr u v > 0:=by
 have:=@sg_gt (cr u v)
 unfold ang
 by_cases h1:half u < half v
 ·simp [h1]
 ·by_cases h2:half u > half v
  ·rw [if_neg h1,if_pos h2]; omega
  ·rw [if_neg h1,if_neg h2]; constructor
   ·intro h; exact .inr ⟨by omega,this.1 (by omega)⟩
   ·rintro (h | ⟨h,h'⟩)
    ·omega
    ·have:=this.2 h'; omega
theorem ang_zero {u v:V2}:ang u v=0↔half u=half v/\cr u v=0:=by
 have:=@sg_zero (cr u v)
 unfold ang
 by_cases h1:half u < half v
 ·rw [if_pos h1]; constructor
  ·intro h; omega
  ·rintro ⟨h,_⟩; omega
 ·by_cases h2:half u > half v
  ·rw [if_neg h1,if_pos h2]; constructor
   ·intro h; omega
   ·rintro ⟨h,_⟩; omega
  ·rw [if_neg h1,if_neg h2]; constructor
   ·intro h; exact ⟨by omega,this.1 (by omega)⟩
   ·rintro ⟨_,h⟩; have:=this.2 h; omega
theorem ang_or (u v:V2):ang u v < 0 \/ ang u v=0 \/ ang v u < 0:=by
 rw [ang_lt,ang_zero,ang_lt]
 have:=cr_swap u v
 rcases Int.lt_trichotomy (half u) (half v) with h | h | h
 ·exact .inl (.inl h)
 ·by_cases p:cr u v > 0
  ·exact .inl (.inr ⟨h,p⟩)
  ·by_cases q:cr u v=0
   ·exact .inr (.inl ⟨h,q⟩)
   ·exact .inr (.inr (.inr ⟨h.symm,by grind⟩))
 ·exact .inr (.inr (.inl h))
theorem ang_asy (u v:V2) (h:ang u v < 0):¬ ang v u < 0:=by
 rw [ang_lt] at *
 have:=cr_swap u v
 rintro (h' | ⟨h',g'⟩) <;> rcases h with h | ⟨h,g⟩
 ·omega
 ·omega
 ·omega
 ·grind
theorem cr_half {a b d:V2} (hab:half a=half b) (hbd:half b=half d) (h1:cr a b<=0) (h2:cr b d<=0):cr a d<=0:=by
 by_cases h:cr a d<=0
 ·exact h
 exfalso
 have c:cr a d > 0:=by grind
 have j1:=jac1 a d b
 have j2:=jac2 a d b
 rcases half_cases b with ⟨e,hb⟩ | ⟨e,hb⟩ | ⟨e,hb⟩
 ·have ha:up a:=by rcases half_cases a with ⟨e',h⟩ | ⟨e',h⟩ | ⟨e',h⟩ <;> first | exact h | omega
  have hd:up d:=by rcases half_cases d with ⟨e',h⟩ | ⟨e',h⟩ | ⟨e',h⟩ <;> first | exact h | omega
  unfold up at ha hb hd
  have m1:=mn (show -(cr a b) ≥ 0 by grind) (show d.2 ≥ 0 by grind)
  have m2:=mn (show -(cr b d) ≥ 0 by grind) (show a.2 ≥ 0 by grind)
  have m3:=mn (show cr a d ≥ 0 by grind) (show b.2 ≥ 0 by grind)
  have z3:cr a d * b.2=0:=by grind
  have b2:b.2=0:=by rcases Rat.mul_eq_zero.1 z3 with h | h <;> grind
  have b1:b.1 > 0:=by grind
  have d2:d.2=0:=by
   by_cases q:d.2 > 0
   ·have:=mp b1 q; unfold cr at h2; rw [b2] at h2; grind
   ·grind
  have d1:d.1 > 0:=by grind
  have:=mn (show a.2 ≥ 0 by grind) (show d.1 ≥ 0 by grind)
  unfold cr at c
  rw [d2] at c
  grind
 ·have ha:dn a:=by rcases half_cases a with ⟨e',h⟩ | ⟨e',h⟩ | ⟨e',h⟩ <;> first | exact h | omega
  have hd:dn d:=by rcases half_cases d with ⟨e',h⟩ | ⟨e',h⟩ | ⟨e',h⟩ <;> first | exact h | omega
  unfold dn at ha hb hd
  have m1:=mn (show -(cr a b) ≥ 0 by grind) (show -d.2 ≥ 0 by grind)
  have m2:=mn (show -(cr b d) ≥ 0 by grind) (show -a.2 ≥ 0 by grind)
  have m3:=mn (show cr a d ≥ 0 by grind) (show -b.2 ≥ 0 by grind)
  have z3:cr a d * b.2=0:=by grind
  have b2:b.2=0:=by rcases Rat.mul_eq_zero.1 z3 with h | h <;> grind
  have b1:-b.1 > 0:=by grind
  have d2:d.2=0:=by
   by_cases q:-d.2 > 0
   ·have:=mp b1 q; unfold cr at h2; rw [b2] at h2; grind
   ·grind
  have d1:d.1 < 0:=by grind
  have:=mn (show -a.2 ≥ 0 by grind) (show -d.1 ≥ 0 by grind)
  unfold cr at c
  rw [d2] at c
  grind
 ·have ha:a.1=0/\a.2=0:=by rcases half_cases a with ⟨e',h⟩ | ⟨e',h⟩ | ⟨e',h⟩ <;> first | exact h | omega
  unfold cr at c
  rw [ha.1,ha.2] at c
  grind
theorem ang_ge {u v:V2}:¬ ang u v < 0↔half v < half u \/ half u=half v/\cr u v<=0:=by
 rw [ang_lt]
 constructor
 ·intro h
  rcases Int.lt_trichotomy (half u) (half v) with g | g | g
  ·exact absurd (.inl g) h
  ·exact .inr ⟨g,by by_cases p:cr u v > 0; exact absurd (.inr ⟨g,p⟩) h; grind⟩
  ·exact .inl g
 ·rintro (h | ⟨h,g⟩) (h' | ⟨h',g'⟩)
  ·omega
  ·omega
  ·omega
  ·grind
theorem ang_tr (a b d:V2) (h:¬ ang a b < 0) (h':¬ ang b d < 0):¬ ang a d < 0:=by
 rw [ang_ge] at *
 rcases h with h | ⟨h,g⟩ <;> rcases h' with h' | ⟨h',g'⟩
 ·exact .inl (by omega)
 ·exact .inl (by omega)
 ·exact .inl (by omega)
 ·exact .inr ⟨by omega,cr_half h h' g g'⟩
theorem ang_nz {u v:V2} (hu:nz u) (hv:nz v):ang u v < 0↔aLt u v:=by
 have h0:∀{w:V2},nz w->¬ (w.1=0/\w.2=0):=fun h g=>by unfold nz at h; rcases h with h | h; exact h g.1; exact h g.2
 rw [ang_lt]
 unfold aLt
 rcases half_cases u with ⟨e,h⟩ | ⟨e,h⟩ | ⟨e,h⟩
 ·rcases half_cases v with ⟨e',h'⟩ | ⟨e',h'⟩ | ⟨e',h'⟩
  ·rw [e,e']; constructor
   ·rintro (g | ⟨_,g⟩)
    ·omega
    ·exact .inr ⟨.inl ⟨h,h'⟩,g⟩
   ·rintro (⟨_,g⟩ | ⟨_,g⟩)
    ·exact (not_both h' g).elim
    ·exact .inr ⟨rfl,g⟩
  ·rw [e,e']; exact ⟨fun _=>.inl ⟨h,h'⟩,fun _=>.inl (by decide)⟩
  ·exact absurd h' (h0 hv)
 ·rcases half_cases v with ⟨e',h'⟩ | ⟨e',h'⟩ | ⟨e',h'⟩
  ·rw [e,e']; constructor
   ·rintro (g | ⟨g,_⟩) <;> omega
   ·rintro (⟨g,_⟩ | ⟨⟨g,_⟩ | ⟨_,g⟩,_⟩)
    ·exact (not_both g h).elim
    ·exact (not_both g h).elim
    ·exact (not_both h' g).elim
  ·rw [e,e']; constructor
   ·rintro (g | ⟨_,g⟩)
    ·omega
    ·exact .inr ⟨.inr ⟨h,h'⟩,g⟩
   ·rintro (⟨g,_⟩ | ⟨_,g⟩)
    ·exact (not_both g h).elim
    ·exact .inr ⟨rfl,g⟩
  ·exact absurd h' (h0 hv)
 ·exact absurd h (h0 hu)
/-- The same direction. -/
theorem ang_same {u v:V2} (hu:nz u) (h:ang u v=0):∃c:Rat,c > 0/\u=(c * v.1,c * v.2):=by
 rw [ang_zero] at h
 obtain ⟨e,c⟩:=h
 have fin:∀k:Rat,k > 0->u.1=k * v.1->u.2=k * v.2->∃c:Rat,c > 0/\u=(c * v.1,c * v.2):=fun k h0 h1 h2=>⟨k,h0,Prod.ext h1 h2⟩
 have pos:∀x y:Rat,y≠0->x * y > 0->x * y⁻¹ > 0:=fun x y hy h=>by
  have e:=inv_mul hy x
  generalize x * y⁻¹=t at *
  have e2:t * (y * y)=x * y:=by grind
  have:=sq_pos (u:=(y,0)) (.inl hy)
  unfold dt at this
  by_cases q:t > 0
  ·exact q
  ·have:=mn (show -t ≥ 0 by grind) (show y * y ≥ 0 by grind); grind
 unfold cr at c
 have two:v.2≠0->u.2 * v.2 > 0->∃c:Rat,c > 0/\u=(c * v.1,c * v.2):=fun h0 h1=>by
  refine fin (u.2 * v.2⁻¹) (pos _ _ h0 h1) ?_ (inv_mul h0 _).symm
  have:=inv_mul h0 u.1
  have:u.1 * v.2 * v.2⁻¹=u.2 * v.1 * v.2⁻¹:=by rw [show u.1 * v.2=u.2 * v.1 by grind]
  grind
 have one:v.1≠0->u.1 * v.1 > 0->v.2=0->u.2=0->∃c:Rat,c > 0/\u=(c * v.1,c * v.2):=fun h0 h1 h2 h3=>
  fin (u.1 * v.1⁻¹) (pos _ _ h0 h1) (inv_mul h0 _).symm (by rw [h2,h3]; grind)
 rcases half_cases u with ⟨e1,h⟩ | ⟨e1,h⟩ | ⟨e1,h⟩
 ·have h':up v:=by rcases half_cases v with ⟨e',h⟩ | ⟨e',h⟩ | ⟨e',h⟩ <;> first | exact h | omega
  unfold up at h h'
  by_cases q:v.2 > 0
  ·refine two (by grind) ?_
   by_cases q':u.2 > 0
   ·exact mp q' q
   ·have u2:u.2=0:=by grind
    have:=mp (show u.1 > 0 by grind) q
    rw [u2] at c; grind
  ·have v2:v.2=0:=by grind
   have v1:v.1 > 0:=by grind
   by_cases q':u.2 > 0
   ·have:=mp q' v1; rw [v2] at c; grind
   ·exact one (by grind) (mp (by grind) v1) v2 (by grind)
 ·have h':dn v:=by rcases half_cases v with ⟨e',h⟩ | ⟨e',h⟩ | ⟨e',h⟩ <;> first | exact h | omega
  unfold dn at h h'
  by_cases q:v.2 < 0
  ·refine two (by grind) ?_
   by_cases q':u.2 < 0
   ·have:=mp (show -u.2 > 0 by grind) (show -v.2 > 0 by grind); grind
   ·have u2:u.2=0:=by grind
    have:=mp (show -u.1 > 0 by grind) (show -v.2 > 0 by grind)
    rw [u2] at c; grind
  ·have v2:v.2=0:=by grind
   have v1:-v.1 > 0:=by grind
   by_cases q':u.2 < 0
   ·have:=mp (show -u.2 > 0 by grind) v1; rw [v2] at c; grind
   ·refine one (by grind) ?_ v2 (by grind)
    have:=mp (show -u.1 > 0 by grind) v1; grind
 ·unfold nz at hu; grind
theorem ang_trz {a b d:V2} (h:ang a b=0) (h':ang b d=0):ang a d=0:=by
 have z:∀{u v:V2},ang u v=0↔¬ ang u v < 0/\¬ ang v u < 0:=by
  intro u v
  constructor
  ·intro e
   refine ⟨by omega,?_⟩
   rw [ang_zero] at e
   have:=cr_swap u v
   rw [ang_lt]
   rintro (g | ⟨_,g⟩)
   ·omega
   ·grind
  ·rintro ⟨g,g'⟩
   rcases ang_or u v with e | e | e
   ·exact absurd e g
   ·exact e
   ·exact absurd e g'
 rw [z] at *
 exact ⟨ang_tr _ _ _ h.1 h'.1,ang_tr _ _ _ h'.2 h.2⟩
theorem ang_self (a:V2):ang a a=0:=ang_zero.2 ⟨rfl,by unfold cr; grind⟩
theorem ang_ltl {a b d:V2} (h:¬ ang b a < 0) (h':ang b d < 0):ang a d < 0:=by
 by_cases q:ang a d < 0
 ·exact q
 ·exact absurd h' (ang_tr _ _ _ h q)
/-- Directions in order, each once. -/
def eP (u v:V2):Bool:=decide (ang u v=0)
theorem cptF_ang:∀{r:List V2} {p:V2},(p :: r).Pairwise (fun x y=>¬ ang y x < 0) ->
  (cptF eP p r).Pairwise (fun x y=>ang x y < 0)/\(∀x ∈ cptF eP p r,ang p x < 0)/\∀x ∈ p :: r,∃y ∈ p :: cptF eP p r,ang y x=0
 | [],p,_=>⟨List.Pairwise.nil,(fun x h=>by cases h),fun x h=>⟨x,h,ang_self x⟩⟩
 | a :: r,p,h=>by
  obtain ⟨h1,h2⟩:=List.pairwise_cons.1 h
  obtain ⟨i1,i2,i3⟩:=cptF_ang h2
  have pa:¬ ang a p < 0:=h1 a (List.mem_cons_self ..)
  unfold cptF
  by_cases e:ang a p=0
  ·have:eP a p=true:=decide_eq_true e
   rw [if_pos this]
   have pa':¬ ang p a < 0:=fun g=>by
    rcases ang_zero.1 e with ⟨e1,e2⟩
    rw [ang_lt] at g
    have:=cr_swap a p
    rcases g with g | ⟨_,g⟩
    ·omega
    ·grind
   refine ⟨i1,fun x hx=>ang_ltl pa (i2 x hx),fun x hx=>?_⟩
   rcases List.mem_cons.1 hx with rfl | hx
   ·exact ⟨x,List.mem_cons_self ..,ang_self x⟩
   ·obtain ⟨y,hy,g⟩:=i3 x hx
    rcases List.mem_cons.1 hy with rfl | hy
    ·refine ⟨p,List.mem_cons_self ..,ang_trz (b:=y) ?_ g⟩
     rcases ang_or p y with q | q | q
     ·exact absurd q pa'
     ·exact q
     ·exact absurd q pa
    ·exact ⟨y,List.mem_cons_of_mem _ hy,g⟩
  ·have:eP a p=false:=decide_eq_false e
   rw [this]
   have lt:ang p a < 0:=by
    rcases ang_or p a with q | q | q
    ·exact q
    ·exfalso; apply e
     rw [ang_zero] at *
     have:=cr_swap a p
     exact ⟨q.1.symm,by grind⟩
    ·exact absurd q pa
   refine ⟨List.pairwise_cons.2 ⟨i2,i1⟩,fun x hx=>?_,fun x hx=>?_⟩
   ·rcases List.mem_cons.1 hx with rfl | hx
    ·exact lt
    ·exact ang_ltl (b:=a) pa (i2 x hx)
   ·rcases List.mem_cons.1 hx with rfl | hx
    ·exact ⟨x,List.mem_cons_self ..,ang_self x⟩
    ·obtain ⟨y,hy,g⟩:=i3 x hx
     exact ⟨y,List.mem_cons_of_mem _ hy,g⟩
theorem cmpt_ang {m:List V2} (h:m.Pairwise (fun x y=>¬ ang y x < 0)):(cmpt eP m).Pairwise (fun x y=>ang x y < 0)/\∀x ∈ m,∃y ∈ cmpt eP m,ang y x=0:=by
 cases m with
 | nil=>exact ⟨List.Pairwise.nil,fun x h=>by cases h⟩
 | cons p r=>
  obtain ⟨h1,h2,h3⟩:=cptF_ang h
  exact ⟨List.pairwise_cons.2 ⟨h2,h1⟩,h3⟩
/-- Rays of some lines: with each its opposite, in order, equal ones left out. -/
theorem ray_of {m:List V2} (h:m.Pairwise (fun x y=>¬ ang y x < 0)) (hn:∀r ∈ m,nz r) (ho:∀r ∈ m,∃s ∈ m,opp s r):Ray (cmpt eP m)/\∀x ∈ m,∃y ∈ cmpt eP m,∃c:Rat,c > 0/\y=(c * x.1,c * x.2):=by
 obtain ⟨h1,h2⟩:=cmpt_ang h
 have sub:∀x ∈ cmpt eP m,x ∈ m:=cmpt_sub
 have mem:∀x ∈ m,∃y ∈ cmpt eP m,∃c:Rat,c > 0/\y=(c * x.1,c * x.2):=fun x hx=>by
  obtain ⟨y,hy,e⟩:=h2 x hx
  exact ⟨y,hy,ang_same (hn y (sub y hy)) e⟩
 refine ⟨⟨fun r hr=>hn r (sub r hr),fun r hr=>?_,?_⟩,mem⟩
 ·obtain ⟨s,hs,k,k0,e1,e2⟩:=ho r (sub r hr)
  obtain ⟨y,hy,c,c0,e⟩:=mem s hs
  refine ⟨y,hy,c * k,mp c0 k0,?_,?_⟩
  ·rw [e]; show c * s.1=_; rw [e1]; grind
  ·rw [e]; show c * s.2=_; rw [e2]; grind
 ·refine List.Pairwise.imp_of_mem ?_ h1
  intro a b ha hb g
  exact (ang_nz (hn a (sub a ha)) (hn b (sub b hb))).1 g
/-! the samples of the program, and those of the reference -/
section
variable {D:List V2} (h:Ray D)
include h
theorem nxt_ge {i:Nat} {u w:V2} (hi:D[i]?=some u) (hw:D[(i + 1) % D.length]?=some w):cr u w ≥ 0:=by
 by_cases q:cr u w ≥ 0
 ·exact q
 exfalso
 have hwm:w ∈ D:=List.mem_of_getElem? hw
 have hu:u ∈ D:=List.mem_of_getElem? hi
 obtain ⟨s,hs,ho⟩:=h.cl w hwm
 obtain ⟨k,k0,_,e2⟩:=opp_cr ho u
 have p:cr u s > 0:=by rw [e2]; have:=mp k0 (show -(cr u w) > 0 by grind); grind
 obtain ⟨j,hj⟩:=List.getElem?_of_mem hs
 refine anti2 (h.nz u hu) (h.nz w hwm) (h.nz s hs) (cyc h hi hw hj (fun e=>?_) (fun e=>?_)) p (by grind)
 ·rw [e,hi] at hj; cases hj; unfold cr at p; grind
 ·rw [e,hw] at hj; cases hj; grind
omit h in
/-- One sample for each sector. -/
def secS (f:V2->V2->V2) (D:List V2):List V2:=(List.range D.length).map fun i=>f (D.getD i (0,0)) (D.getD ((i + 1) % D.length) (0,0))
theorem sec_sms {f:V2->V2->V2} (hf:∀u ∈ D,∀w ∈ D,cr u w ≥ 0->IsSm u w (f u w)) (hD:D≠[]):Sms D (secS f D):=by
 have hl:0 < D.length:=List.length_pos_iff.2 hD
 have key:∀i u w,D[i]?=some u->D[(i + 1) % D.length]?=some w->D.getD i (0,0)=u/\D.getD ((i + 1) % D.length) (0,0)=w/\IsSm u w (f u w):=fun i u w hi hw=>
  ⟨by rw [List.getD_eq_getElem?_getD,hi]; rfl,by rw [List.getD_eq_getElem?_getD,hw]; rfl,hf u (List.mem_of_getElem? hi) w (List.mem_of_getElem? hw) (nxt_ge h hi hw)⟩
 refine .inr ⟨hD,fun x hx=>?_,fun i u w hi hw=>?_⟩
 ·obtain ⟨i,hi,rfl⟩:=List.mem_map.1 hx
  have hi:=List.mem_range.1 hi
  have e1:D[i]?=some D[i]:=List.getElem?_eq_getElem hi
  have e2:D[(i + 1) % D.length]?=some (D[(i + 1) % D.length]'(Nat.mod_lt _ hl)):=List.getElem?_eq_getElem _
  obtain ⟨k1,k2,k3⟩:=key i _ _ e1 e2
  exact ⟨i,_,_,e1,e2,by rw [k1,k2]; exact k3⟩
 ·obtain ⟨k1,k2,k3⟩:=key i u w hi hw
  refine ⟨_,List.mem_map.2 ⟨i,List.mem_range.2 (List.getElem?_eq_some_iff.1 hi).1,rfl⟩,?_⟩
  rw [k1,k2]; exact k3
end
/-! lines through a point, no two the same -/
end Go.Proofs.Tryz.Sec
/- By program: the conditions of the functions, from their loaded code. -/
namespace Go.Proofs.Tryz
open Go.Eng
open Go.Value renaming int→I,pointer→P,slice→S,agg→A,bool→B,tuple→T
open Go.IntKind renaming i64→J,u64→U,u32→W
set_option maxRecDepth 100000
theorem vc_geo_Pt_half (b c:Int) (d:OA) (l m:Int) (n:OA) (V:View) (R:VR) (h:(Ca V 165 #[A #[I J l,I J m,P n]] fun z e=>∃a,z=I J a/\(((decide (a > (0:Int)))=true->(Rt e R (I J 1)))/\((decide (a > (0:Int)))=false->(((a == (0:Int))=true->(Ca e 165 #[A #[I J b,I J c,P d]] fun a0 f=>∃g,a0=I J g/\(((decide (g > (0:Int)))=true->(Rt f R (I J 1)))/\((decide (g > (0:Int)))=false->(((decide (a < (0:Int)))=true->(Rt f R (I J 2)))/\((decide (a < (0:Int)))=false->(Ca f 165 #[A #[I J b,I J c,P d]] fun a1 r=>∃i,a1=I J i/\(((decide (i < (0:Int)))=true->(Rt r R (I J 2)))/\((decide (i < (0:Int)))=false->(Rt r R (I J 0)))))))))))/\((a == (0:Int))=false->(((decide (a < (0:Int)))=true->(Rt e R (I J 2)))/\((decide (a < (0:Int)))=false->(Ca e 165 #[A #[I J b,I J c,P d]] fun a2 w=>∃k,a2=I J k/\(((decide (k < (0:Int)))=true->(Rt w R (I J 2)))/\((decide (k < (0:Int)))=false->(Rt w R (I J 0))))))))))))):
 Acts prog 283 #[A #[I J b,I J c,P d,I J l,I J m,P n]] V R:=
 fd (LF:=LF0) (RF:=[1000015]) [] [] func283 h
theorem vc_geo_Angle (c d:Int) (e:OA) (f g:Int) (i:OA) (k l:Int) (m:OA) (n o:Int) (p:OA) (V:View) (R:VR) (h:(Ca V 283 #[A #[I J c,I J d,P e,I J f,I J g,P i]] fun z a0=>∃a,z=I J a/\(Ca a0 283 #[A #[I J k,I J l,P m,I J n,I J o,P p]] fun a1 q=>∃b,a1=I J b/\(((decide (a < b))=true->(Rt q R (I J (-1))))/\((decide (a < b))=false->(((decide (a > b))=true->(Rt q R (I J 1)))/\((decide (a > b))=false->(Ca q 230 #[A #[I J c,I J d,P e,I J f,I J g,P i],A #[I J k,I J l,P m,I J n,I J o,P p]] fun a2 a3=>∃t,∃u,∃w,a2=A #[I J t,I J u,P w]/\(Ca a3 165 #[A #[I J t,I J u,P w]] fun a4 a5=>∃x,a4=I J x/\(Rt a5 R (I J (J.wrap (0 - x))))))))))))):
 Acts prog 234 #[A #[I J c,I J d,P e,I J f,I J g,P i],A #[I J k,I J l,P m,I J n,I J o,P p]] V R:=
 fd (LF:=LF0) (RF:=[1000015]) [] [] func234 h
theorem vc_geo_Directions_1 (a b:Int) (c:OA) (d e:Int) (f:OA) (g i:Int) (k:OA) (l m:Int) (n:OA) (V:View) (R:VR) (h:(Ca V 234 #[A #[I J a,I J b,P c,I J d,I J e,P f],A #[I J g,I J i,P k,I J l,I J m,P n]] fun q r=>∃o,q=I J o/\(Rt r R (B (o == (0:Int)))))):
 Acts prog 236 #[A #[I J a,I J b,P c,I J d,I J e,P f],A #[I J g,I J i,P k,I J l,I J m,P n]] V R:=
 fd (LF:=LF0) (RF:=[1000015]) [] [] func236 h
theorem vc_geo_Pt_Neg (a b:Int) (c:OA) (d e:Int) (f:OA) (V:View) (R:VR) (h:(Ca V 269 #[A #[I J a,I J b,P c]] fun p q=>∃g,∃i,∃k,p=A #[I J g,I J i,P k]/\(Ca q 269 #[A #[I J d,I J e,P f]] fun r s=>∃l,∃m,∃n,r=A #[I J l,I J m,P n]/\(Rt s R (A #[I J g,I J i,P k,I J l,I J m,P n]))))):
 Acts prog 239 #[A #[I J a,I J b,P c,I J d,I J e,P f]] V R:=
 fd (LF:=LF0) (RF:=[1000015]) [] [] func239 h
theorem vc_geo_Pt_Primitive (a b:Int) (c:OA) (d e:Int) (f:OA) (V:View) (R:VR) (h:(Ca V 198 #[A #[I J a,I J b,P c],A #[I J d,I J e,P f]] fun w x=>∃g,∃i,∃k,w=A #[I J g,I J i,P k]/\(Ca x 285 #[A #[I J g,I J i,P k]] fun y z=>∃l,∃m,∃n,y=A #[I J l,I J m,P n]/\(Ca z 284 #[A #[I J a,I J b,P c,I J d,I J e,P f],A #[I J l,I J m,P n]] fun a0 a1=>∃o,∃p,∃q,∃r,∃s,∃t,a0=A #[I J o,I J p,P q,I J r,I J s,P t]/\(Rt a1 R (A #[I J o,I J p,P q,I J r,I J s,P t])))))):
 Acts prog 238 #[A #[I J a,I J b,P c,I J d,I J e,P f]] V R:=
 fd (LF:=LF0) (RF:=[1000015]) [] [] func238 h
theorem vc_bsp_T_rays (a:OA) (e f:Int) (r:OA) (g i:Int) (s:OA) (y o u:Nat) (d:List Value) (V:View) (R:VR) (hw100000:d≠[]->V.w.heap[y]?=some (.cells d.toArray 145 (0,0))) (hx100000:d≠[]->V.X y) (h:(Ca V 161 #[P a] fun g9 m=>∃c8,g9=B c8/\((c8=true->(∀c9:View,∀a2:Nat,m.Le (c9.hideG (d≠[]) a2)->(d≠[]->c9.w.heap[a2]?=some (.cells d.toArray 145 (0,0)))->(d≠[]->V.w.heap.size<=a2 \/ (d≠[]/\a2=y) \/ False)->R (S (mA a2 u) o u) c9))/\(c8=false->(a.isSome=true)/\(a.isSome=true)/\(∃d6,∃d7,∃d8,∃d9,∃e0,∃e1,∃e2,∃e3,∃e4,∃p,addrAdd a 0=some p/\m.at (p.add 0) (I J d6)/\m.at (p.add 1) (I J d7)/\m.at (p.add 2) (P d8)/\m.at (p.add 3) (I J d9)/\m.at (p.add 4) (I J e0)/\m.at (p.add 5) (P e1)/\m.at (p.add 6) (I J e2)/\m.at (p.add 7) (I J e3)/\m.at (p.add 8) (P e4)/\(Ca m 162 #[A #[I J d6,I J d7,P d8,I J d9,I J e0,P e1,I J e2,I J e3,P e4],A #[I J e,I J f,P r,I J g,I J i,P s]] fun i0 k=>∃n,i0=I J n/\(∃d0:(Nat × Nat × (List Value))->VP,(((n == (0:Int))=true->(a.isSome=true)/\(a.isSome=true)/\(∃e5,∃e6,∃e7,∃e8,∃e9,∃f0,∃f1,∃f2,∃f3,∃q,addrAdd a 0=some q/\k.at (q.add 0) (I J e5)/\k.at (q.add 1) (I J e6)/\k.at (q.add 2) (P e7)/\k.at (q.add 3) (I J e8)/\k.at (q.add 4) (I J e9)/\k.at (q.add 5) (P f0)/\k.at (q.add 6) (I J f1)/\k.at (q.add 7) (I J f2)/\k.at (q.add 8) (P f3)/\(Ca k 237 #[A #[I J e5,I J e6,P e7,I J e8,I J e9,P f0,I J f1,I J f2,P f3]] fun i1 i2=>∃f4,∃f5,∃f6,∃f7,∃f8,∃f9,i1=A #[I J f4,I J f5,P f6,I J f7,I J f8,P f9]/\(Ca i2 238 #[A #[I J f4,I J f5,P f6,I J f7,I J f8,P f9]] fun i3 i4=>∃a3,∃a4,∃a5,∃a6,∃a7,∃a8,i3=A #[I J a3,I J a4,P a5,I J a6,I J a7,P a8]/\(Ca i4 239 #[A #[I J a3,I J a4,P a5,I J a6,I J a7,P a8]] fun i5 i6=>∃b7,∃b8,∃b9,∃c0,∃c1,∃c2,i5=A #[I J b7,I J b8,P b9,I J c0,I J c1,P c2]/\((o + 2) * 48<=140737488355328/\o<=u/\u * 6<=d.length/\([I J a3,I J a4,P a5,I J a6,I J a7,P a8,I J b7,I J b8,P b9,I J c0,I J c1,P c2]:List Value).length=2 * 6/\(∀i7 ∈ ([I J a3,I J a4,P a5,I J a6,I J a7,P a8,I J b7,I J b8,P b9,I J c0,I J c1,P c2]:List Value),i7.oneCell'=true)/\∀(g0:List Value) (d1:Nat),o + 2<=d1->d1 * 6<=(o + 2) * 6 + g0.length->(∃c3,(s3 a 0 n (((o + 2:Nat)=c3.1)/\((d1:Nat)=c3.2.1)/\s6 e f r g i s (((d.take (o * 6)++([I J a3,I J a4,P a5,I J a6,I J a7,P a8,I J b7,I J b8,P b9,I J c0,I J c1,P c2]:List Value)++g0)=c3.2.2))))/\d0 c3 i6)))))))/\((n == (0:Int))=false->(∃c4,(s3 a 0 n (((o:Nat)=c4.1)/\((u:Nat)=c4.2.1)/\s6 e f r g i s ((d=c4.2.2))))/\d0 c4 k)))/\∀(l:Nat × Nat × (List Value)) (z:View),k.Le z->d0 l z->(true=true/\(∃d2:(Nat × Nat × (List Value))->VP,(((decide (n ≥ (0:Int)))=true->(a.isSome=true)/\(a.isSome=true)/\(∃g1,(∃g2,addrAdd a 9=some g2/\z.at g2 (P g1))/\(∀a0,z.Le a0->∀a9:Nat,(l.2.2≠[]->a0.w.heap[a9]?=some (.cells l.2.2.toArray 145 (0,0)))->(l.2.2≠[]->a0.H a9)->Acts prog 154 #[P g1,A #[I J e,I J f,P r,I J g,I J i,P s],S (mA a9 l.2.1) l.1 l.2.1] (a0.lend [vb l.2.2 a0.w.heap.size a9]) fun i8 g3=>∃(b0:Nat) (b1:List Value),(b1≠[]->g3.w.heap[b0]?=some (.cells b1.toArray 145 (0,0)))/\(b1≠[]->a0.w.heap.size<=b0 \/ (l.2.2≠[]/\b0=a9))/\∃(k0:OA) (g4 d3:Nat),i8=S (mA b0 d3) g4 d3/\(∃c5,(s3 a 0 n (((g4:Nat)=c5.1)/\((d3:Nat)=c5.2.1)/\s6 e f r g i s ((b1=c5.2.2))))/\d2 c5 (g3.shut.hideG (b1≠[]) b0)))))/\((decide (n ≥ (0:Int)))=false->(∃c6,(s3 a 0 n (((l.1:Nat)=c6.1)/\((l.2.1:Nat)=c6.2.1)/\s6 e f r g i s ((l.2.2=c6.2.2))))/\d2 c6 z)))/\∀(b:Nat × Nat × (List Value)) (b2:View),z.Le b2->d2 b b2->(true=true/\(((decide (n<=(0:Int)))=true->(a.isSome=true)/\(a.isSome=true)/\(∃g5,(∃g6,addrAdd a 10=some g6/\b2.at g6 (P g5))/\(∀a1,b2.Le a1->∀b3:Nat,(b.2.2≠[]->a1.w.heap[b3]?=some (.cells b.2.2.toArray 145 (0,0)))->(b.2.2≠[]->a1.H b3)->Acts prog 154 #[P g5,A #[I J e,I J f,P r,I J g,I J i,P s],S (mA b3 b.2.1) b.1 b.2.1] (a1.lend [vb b.2.2 a1.w.heap.size b3]) fun i9 g7=>∃(b4:Nat) (x:List Value),(x≠[]->g7.w.heap[b4]?=some (.cells x.toArray 145 (0,0)))/\(x≠[]->a1.w.heap.size<=b4 \/ (b.2.2≠[]/\b4=b3))/\∃(k1:OA) (g8 c7:Nat),i9=S (mA b4 c7) g8 c7/\(∀d4:View,∀b5:Nat,(g7.shut.hideG (x≠[]) b4).Le (d4.hideG (x≠[]) b5)->(x≠[]->d4.w.heap[b5]?=some (.cells x.toArray 145 (0,0)))->(x≠[]->V.w.heap.size<=b5 \/ (d≠[]/\b5=y) \/ False)->R (S (mA b5 c7) g8 c7) d4))))/\((decide (n<=(0:Int)))=false->(∀d5:View,∀b6:Nat,b2.Le (d5.hideG (b.2.2≠[]) b6)->(b.2.2≠[]->d5.w.heap[b6]?=some (.cells b.2.2.toArray 145 (0,0)))->(b.2.2≠[]->V.w.heap.size<=b6 \/ (d≠[]/\b6=y) \/ False)->R (S (mA b6 b.2.1) b.1 b.2.1) d5))))))))))))):
 Acts prog 154 #[P a,A #[I J e,I J f,P r,I J g,I J i,P s],S (mA y u) o u] V R:=
 fn_does (LF:=LF0) (RF:=[1000015]) (β0:=(upd1 (fun _=>0) 100000 y)) tab_ok mixed [] [(5,⟨Nat × Nat × (List Value),false,[0,4,7],[4],fun t=>[(2,.c (.msl 200002 t.1 t.2.1))],fun t=>[(200002,⟨.mrow t.2.2,145⟩)]⟩),(8,⟨Nat × Nat × (List Value),false,[0,4,7],[4],fun t=>[(2,.c (.msl 200002 t.1 t.2.1))],fun t=>[(200002,⟨.mrow t.2.2,145⟩)]⟩)] func154 (by kernel_rfl) [(0,.c (.v (P a))),(1,.agg [.v (I J e),.v (I J f),.v (P r),.v (I J g),.v (I J i),.v (P s)]),(2,.c (.msl 100000 o u))] [(100000,⟨.mrow d,145⟩)] (by kernel_rfl) ⟨⟨hw100000,hx100000⟩,trivial,trivial⟩ h (by kernel_rfl)
theorem vc_geo_Directions (g i b:Nat) (a:List Value) (V:View) (R:VR) (hw100000:a≠[]->V.w.heap[g]?=some (.cells a.toArray 145 (0,0))) (hx100000:a≠[]->V.X g) (h:((a=[]->(b:Nat)=0/\(Ca V 233 #[S none i b,.func (.func 234) #[] #[]] fun a5 a6=> a5=T #[]/\(∀k,a6.Le k->∀m:Nat,(a≠[]->k.w.heap[m]?=some (.cells a.toArray 145 (0,0)))->(a≠[]->k.H m)->Acts prog 235 #[S (mA m b) i b,.func (.func 236) #[] #[]] (k.lend [vb a k.w.heap.size m]) fun a7 a0=>∃(n:Nat) (d:List Value),(d≠[]->a0.w.heap[n]?=some (.cells d.toArray 145 (0,0)))/\(d≠[]->k.w.heap.size<=n \/ (a≠[]/\n=m))/\∃(b0:OA) (a1 u:Nat),a7=S (mA n u) a1 u/\(∀y:View,∀o:Nat,(a0.shut.hideG (d≠[]) n).Le (y.hideG (d≠[]) o)->(d≠[]->y.w.heap[o]?=some (.cells d.toArray 145 (0,0)))->(d≠[]->V.w.heap.size<=o \/ (a≠[]/\o=g) \/ False)->R (S (mA o u) a1 u) y))))/\(a≠[]->(∀p,V.Le p->∀q:Nat,(a≠[]->p.w.heap[q]?=some (.cells a.toArray 145 (0,0)))->(a≠[]->p.H q)->Acts prog 233 #[S (mA q b) i b,.func (.func 234) #[] #[]] (p.lend [vb a p.w.heap.size q]) fun a8 a2=> a8=T #[]/\a≠[]/\∃f:List Value,f≠[]/\a2.w.heap[q]?=some (.cells f.toArray 145 (0,0))/\(∀l,a2.shut.Le l->∀r:Nat,(f≠[]->l.w.heap[r]?=some (.cells f.toArray 145 (0,0)))->(f≠[]->l.H r)->Acts prog 235 #[S (mA r b) i b,.func (.func 236) #[] #[]] (l.lend [vb f l.w.heap.size r]) fun a9 a3=>∃(s:Nat) (e:List Value),(e≠[]->a3.w.heap[s]?=some (.cells e.toArray 145 (0,0)))/\(e≠[]->l.w.heap.size<=s \/ (f≠[]/\s=r))/\∃(b1:OA) (a4 x:Nat),a9=S (mA s x) a4 x/\(∀z:View,∀t:Nat,(a3.shut.hideG (e≠[]) s).Le (z.hideG (e≠[]) t)->(e≠[]->z.w.heap[t]?=some (.cells e.toArray 145 (0,0)))->(e≠[]->V.w.heap.size<=t \/ (a≠[]/\t=g) \/ False)->R (S (mA t x) a4 x) z)))))):
 Acts prog 153 #[S (mA g b) i b] V R:=
 fn_does (LF:=LF0) (RF:=[1000015]) (β0:=(upd1 (fun _=>0) 100000 g)) tab_ok mixed [] [] func153 (by kernel_rfl) [(0,.c (.msl 100000 i b))] [(100000,⟨.mrow a,145⟩)] (by kernel_rfl) ⟨⟨hw100000,hx100000⟩,trivial,trivial⟩ h (by kernel_rfl)
theorem vc_geo_Sectors (e:OA) (b f:Nat) (V:View) (R:VR) (h:((((b:Int) == (0:Int))=true->(Ca V 200 #[I J 1] fun d2 d3=>∃c1,∃c2,∃c3,d2=A #[I J c1,I J c2,P c3]/\(∀a9,d3.Le a9->∀c4:Nat,(a9.blk c4 (.cells #[I J c1,I J c2,P c3,I J 0,I J 0,P none] 145 (0,0)))->R (S (some ⟨c4,0,none⟩) 1 1) a9)))/\(((b:Int) == (0:Int))=false->(∃(o:(Nat × Nat × (List Value) × Int)->VP) (p:(Nat × Nat × (List Value) × Int)->Nat),(∃m,(s8 e b f e b f (b:Int) (none:OA) (((0:Nat)=m.1)/\((0:Nat)=m.2.1)/\sm 0/\((0:Int)=m.2.2.2)/\(m.2.2.1=[])))/\o m V)/\∀(a:Nat × Nat × (List Value) × Int) (d:View),V.Le d->o a d->(true=true/\(((decide (a.2.2.2 < (b:Int)))=true->(e.isSome=true)/\(0<=a.2.2.2/\a.2.2.2 < (b:Int))/\(∃q,∃r,∃s,∃t,∃u,∃w,∃g,addrAdd e (a.2.2.2.toNat * 6)=some g/\d.at (g.add 0) (I J q)/\d.at (g.add 1) (I J r)/\d.at (g.add 2) (P s)/\d.at (g.add 3) (I J t)/\d.at (g.add 4) (I J u)/\d.at (g.add 5) (P w)/\((b:Int)≠0)/\(e.isSome=true)/\(0<=((J.wrap (a.2.2.2 + (1:Int))).tmod (b:Int))/\((J.wrap (a.2.2.2 + (1:Int))).tmod (b:Int)) < (b:Int))/\(∃b0,∃b1,∃b2,∃b3,∃b4,∃b5,∃i,addrAdd e ((((J.wrap (a.2.2.2 + (1:Int))).tmod (b:Int)).toNat) * 6)=some i/\d.at (i.add 0) (I J b0)/\d.at (i.add 1) (I J b1)/\d.at (i.add 2) (P b2)/\d.at (i.add 3) (I J b3)/\d.at (i.add 4) (I J b4)/\d.at (i.add 5) (P b5)/\(Ca d 230 #[A #[I J q,I J r,P s,I J t,I J u,P w],A #[I J b0,I J b1,P b2,I J b3,I J b4,P b5]] fun d4 d5=>∃c5,∃c6,∃c7,d4=A #[I J c5,I J c6,P c7]/\(Ca d5 165 #[A #[I J c5,I J c6,P c7]] fun d6 c8=>∃b6,d6=I J b6/\(((decide (b6 > (0:Int)))=true->(Ca c8 231 #[A #[I J q,I J r,P s,I J t,I J u,P w],A #[I J b0,I J b1,P b2,I J b3,I J b4,P b5]] fun d7 d8=>∃x,∃y,∃z,∃a0,∃a1,∃a2,d7=A #[I J x,I J y,P z,I J a0,I J a1,P a2]/\((a.1 + 1) * 48<=140737488355328/\a.1<=a.2.1/\a.2.1 * 6<=a.2.2.1.length/\([I J x,I J y,P z,I J a0,I J a1,P a2]:List Value).length=1 * 6/\(∀b7 ∈ ([I J x,I J y,P z,I J a0,I J a1,P a2]:List Value),b7.oneCell'=true)/\∀(c9:List Value) (b8:Nat),a.1 + 1<=b8->b8 * 6<=(a.1 + 1) * 6 + c9.length->(∃k:Nat × Nat × (List Value) × Int,p k < p a/\(s7 e b f e b f (b:Int) (((a.1 + 1:Nat)=k.1)/\((b8:Nat)=k.2.1)/\((J.wrap (a.2.2.2 + (1:Int)))=k.2.2.2)/\((a.2.2.1.take (a.1 * 6)++([I J x,I J y,P z,I J a0,I J a1,P a2]:List Value)++c9)=k.2.2.1)))/\o k d8))))/\((decide (b6 > (0:Int)))=false->(Ca c8 232 #[A #[I J q,I J r,P s,I J t,I J u,P w]] fun d9 e0=>∃a3,∃a4,∃a5,∃a6,∃a7,∃a8,d9=A #[I J a3,I J a4,P a5,I J a6,I J a7,P a8]/\((a.1 + 1) * 48<=140737488355328/\a.1<=a.2.1/\a.2.1 * 6<=a.2.2.1.length/\([I J a3,I J a4,P a5,I J a6,I J a7,P a8]:List Value).length=1 * 6/\(∀b7 ∈ ([I J a3,I J a4,P a5,I J a6,I J a7,P a8]:List Value),b7.oneCell'=true)/\∀(d0:List Value) (b9:Nat),a.1 + 1<=b9->b9 * 6<=(a.1 + 1) * 6 + d0.length->(∃l:Nat × Nat × (List Value) × Int,p l < p a/\(s7 e b f e b f (b:Int) (((a.1 + 1:Nat)=l.1)/\((b9:Nat)=l.2.1)/\((J.wrap (a.2.2.2 + (1:Int)))=l.2.2.2)/\((a.2.2.1.take (a.1 * 6)++([I J a3,I J a4,P a5,I J a6,I J a7,P a8]:List Value)++d0)=l.2.2.1)))/\o l e0))))))))))/\((decide (a.2.2.2 < (b:Int)))=false->(∀c0,d.Le c0->∀d1:Nat,(a.2.2.1≠[]->c0.blk d1 (.cells a.2.2.1.toArray 145 (0,0)))->R (S (mA d1 a.2.1) a.1 a.2.1) c0)))))))):
 Acts prog 152 #[S e b f] V R:=
 fd (LF:=LF0) (RF:=[1000015]) [(5,⟨Nat × Nat × (List Value) × Int,false,[0,13,14],[],fun n=>[(3,.c (.msl 3 n.1 n.2.1)),(15,.c (.v (I J n.2.2.2)))],fun n=>[(3,⟨.mrow n.2.2.1,145⟩)]⟩)] [] func152 h
theorem vc_geo_Classes (a b:Bool) (V:View) (R:VR) (h:((a=true->((b=true->(Rt V R (I J 2)))/\(b=false->((a=true->(Rt V R (I J 1)))/\(a=false->(Rt V R (I J 0)))))))/\(a=false->((a=true->(Rt V R (I J 1)))/\(a=false->(Rt V R (I J 0))))))):
 Acts prog 155 #[B a,B b] V R:=
 fd (LF:=LF0) (RF:=[1000015]) [] [] func155 h
theorem vc_bsp_T_Toward (a4:OA) (b d:Int) (q:OA) (e f:Int) (r:OA) (g i:Int) (s:OA) (k l:Int) (t:OA) (V:View) (R:VR) (h:(∃y:(OA)->Nat->VP,(∃(a5:(OA)) (e8:Nat),(sm 0/\sm 0/\((a4:OA)=a5)/\s11 b d q e f r g i s k l (sm t))/\y a5 e8 V)/\∀(a:(OA)) (a0:Nat) (a1:View),V.Le a1->y a a0 a1->(true=true/\(Ca a1 161 #[P a] fun e9 m=>∃a2,e9=B a2/\(((!a2)=true->(a.isSome=true)/\(a.isSome=true)/\(∃a6,∃a7,∃a8,∃a9,∃b0,∃b1,∃b2,∃b3,∃b4,∃o,addrAdd a 0=some o/\m.at (o.add 0) (I J a6)/\m.at (o.add 1) (I J a7)/\m.at (o.add 2) (P a8)/\m.at (o.add 3) (I J a9)/\m.at (o.add 4) (I J b0)/\m.at (o.add 5) (P b1)/\m.at (o.add 6) (I J b2)/\m.at (o.add 7) (I J b3)/\m.at (o.add 8) (P b4)/\(Ca m 162 #[A #[I J a6,I J a7,P a8,I J a9,I J b0,P b1,I J b2,I J b3,P b4],A #[I J b,I J d,P q,I J e,I J f,P r]] fun f0 n=>∃z,f0=I J z/\(∃a3:Int->VP,(((z == (0:Int))=true->(a.isSome=true)/\(a.isSome=true)/\(∃b5,∃b6,∃b7,∃b8,∃b9,∃c0,∃c1,∃c2,∃c3,∃p,addrAdd a 0=some p/\n.at (p.add 0) (I J b5)/\n.at (p.add 1) (I J b6)/\n.at (p.add 2) (P b7)/\n.at (p.add 3) (I J b8)/\n.at (p.add 4) (I J b9)/\n.at (p.add 5) (P c0)/\n.at (p.add 6) (I J c1)/\n.at (p.add 7) (I J c2)/\n.at (p.add 8) (P c3)/\(Ca n 163 #[A #[I J b5,I J b6,P b7,I J b8,I J b9,P c0,I J c1,I J c2,P c3]] fun f1 f2=>∃c4,∃c5,∃c6,∃c7,∃c8,∃c9,f1=A #[I J c4,I J c5,P c6,I J c7,I J c8,P c9]/\(Ca f2 164 #[A #[I J c4,I J c5,P c6,I J c7,I J c8,P c9],A #[I J g,I J i,P s,I J k,I J l,P t]] fun f3 f4=>∃d0,∃d1,∃d2,f3=A #[I J d0,I J d1,P d2]/\(Ca f4 165 #[A #[I J d0,I J d1,P d2]] fun f5 f6=>∃d3,f5=I J d3/\(∃d4:Int,(s3 a 0 0 ((d3=d4)/\s11 b d q e f r g i s k l (sm t)))/\a3 d4 f6))))))/\((z == (0:Int))=false->(∃d5:Int,(s3 a 0 0 ((z=d5)/\s11 b d q e f r g i s k l (sm t)))/\a3 d5 n)))/\∀(w:Int) (u:View),n.Le u->a3 w u->(true=true/\(((w == (1:Int))=true->(a.isSome=true)/\(a.isSome=true)/\(∃d6,(∃d7,addrAdd a 9=some d7/\u.at d7 (P d6))/\(∃(d8:(OA)) (d9:Nat),d9 < a0/\(sm 0/\sm 0/\((d6:OA)=d8)/\s11 b d q e f r g i s k l (sm t))/\y d8 d9 u)))/\((w == (1:Int))=false->(((w == (-1:Int))=true->(a.isSome=true)/\(a.isSome=true)/\(∃e0,(∃e1,addrAdd a 10=some e1/\u.at e1 (P e0))/\(∃(e2:(OA)) (e3:Nat),e3 < a0/\(sm 0/\sm 0/\((e0:OA)=e2)/\s11 b d q e f r g i s k l (sm t))/\y e2 e3 u)))/\((w == (-1:Int))=false->(Rt u R (T #[B false,B false])))))))))))/\((!a2)=false->(a.isSome=true)/\(a.isSome=true)/\(∃e5,(∃e6,addrAdd a 11=some e6/\m.at e6 (B e5))/\(Rt m R (T #[B e5,B true]))))))))):
 Acts prog 84 #[P a4,A #[I J b,I J d,P q,I J e,I J f,P r],A #[I J g,I J i,P s,I J k,I J l,P t]] V R:=
 fd (LF:=LF0) (RF:=[1000015]) [(1,⟨(OA),true,[4,5],[4,5],fun x=>[(0,.c (.v (P x)))],fun x=>[]⟩)] [(4,⟨Int,false,[0,4,5],[4,5],fun x=>[(8,.c (.v (I J x)))],fun x=>[]⟩)] func84 h
theorem vc_bsp_T_Class (m:OA) (e f:Int) (n:OA) (g i:Int) (o:OA) (V:View) (R:VR) (h:(∀a6,V.Le a6->Acts prog 154 #[P m,A #[I J e,I J f,P n,I J g,I J i,P o],S none 0 0] a6 fun c4 a9=>∃(y:Nat) (k:List Value),(k≠[]->a9.w.heap[y]?=some (.cells k.toArray 145 (0,0)))/\(k≠[]->a6.w.heap.size<=y \/ False)/\∃(d1:OA) (b0 z:Nat),c4=S (mA y z) b0 z/\(∀p:View,(a9.shut.hideG (k≠[]) y).Le p->∀s:Nat,(k≠[]->p.w.heap[s]?=some (.cells k.toArray 145 (0,0)))->(k≠[]->p.H s)->Acts prog 153 #[S (mA s z) b0 z] (p.lend [vb k p.w.heap.size s]) fun c5 b1=>∃(t:Nat) (q:List Value),(q≠[]->b1.w.heap[t]?=some (.cells q.toArray 145 (0,0)))/\(q≠[]->p.w.heap.size<=t \/ (k≠[]/\t=s))/\∃(d2:OA) (b2 a0:Nat),c5=S (mA t a0) b2 a0/\(∀a7:View,(b1.shut.hideG (q≠[]) t).Le a7->∀b3:Nat,(q≠[]->a7.blk b3 (.cells q.toArray 145 (0,0)))->Acts prog 152 #[S (mA b3 a0) b2 a0] a7 fun c6 b4=>∃r b a1,c6=S r b a1/\∀d3:C->Value,(∃(a2:(Bool × Bool × Int)->VP) (a3:(Bool × Bool × Int)->Nat),(∃a4,(s6 m 0 r b a1 (b:Int) ((false=a4.1)/\(true=a4.2.1)/\((0:Int)=a4.2.2)/\s5 e f n g i (sm o)))/\a2 a4 b4)/\∀(a:Bool × Bool × Int) (d:View),b4.Le d->a2 a d->(true=true/\(((decide (a.2.2 < (b:Int)))=true->(r.isSome=true)/\(0<=a.2.2/\a.2.2 < (b:Int))/\(∃b5,∃b6,∃b7,∃b8,∃b9,∃c0,∃l,addrAdd r (a.2.2.toNat * 6)=some l/\d.at (l.add 0) (I J b5)/\d.at (l.add 1) (I J b6)/\d.at (l.add 2) (P b7)/\d.at (l.add 3) (I J b8)/\d.at (l.add 4) (I J b9)/\d.at (l.add 5) (P c0)/\(Ca d 84 #[P m,A #[I J e,I J f,P n,I J g,I J i,P o],A #[I J b5,I J b6,P b7,I J b8,I J b9,P c0]] fun c7 c1=>∃a8,∃c8,c7=T #[B a8,B c8]/\((a8=true->(∃u:Bool × Bool × Int,a3 u < a3 a/\(s6 m 0 r b a1 (b:Int) ((true=u.1)/\(a.2.1=u.2.1)/\((J.wrap (a.2.2 + (1:Int)))=u.2.2)/\s5 e f n g i (sm o)))/\a2 u c1))/\(a8=false->(∃x:Bool × Bool × Int,a3 x < a3 a/\(s6 m 0 r b a1 (b:Int) ((a.1=x.1)/\(false=x.2.1)/\((J.wrap (a.2.2 + (1:Int)))=x.2.2)/\s5 e f n g i (sm o)))/\a2 x c1))))))/\((decide (a.2.2 < (b:Int)))=false->(Ca d 155 #[B a.1,B a.2.1] fun c9 d0=>∃c2,c9=I J c2/\(Rt d0 R (I J c2))))))))))):
 Acts prog 74 #[P m,A #[I J e,I J f,P n,I J g,I J i,P o]] V R:=
 fd (LF:=LF0) (RF:=[1000015]) [(3,⟨Bool × Bool × Int,false,[0,3,15,16],[3],fun a5=>[(5,.c (.v (B a5.1))),(6,.c (.v (B a5.2.1))),(17,.c (.v (I J a5.2.2)))],fun a5=>[]⟩)] [] func74 h
theorem vc_locate_Class (c:Int) (d:OA) (e f:Nat) (g:Bool) (i:OA) (k l:Nat) (m:OA) (n o:Nat) (p:Bool) (q:OA) (r s:Nat) (t:OA) (u w:Nat) (V:View) (R:VR) (h:(Ca V 73 #[A #[I J c,S d e f]] fun a9 a=>∃x,∃b,a9=T #[P x,B b]/\(((!b)=true->(∃y,(∃z,(some ⟨0,0,none⟩:OA)=some z/\a.at z (y))/\(Rt a R (T #[I J 0,y]))))/\((!b)=false->(Ca a 75 #[A #[B g,S i k l,S m n o,B p,S q r s,S t u w]] fun b0 b1=>∃a1,∃a2,∃a3,∃a4,∃a5,∃a6,b0=A #[I J a1,I J a2,P a3,I J a4,I J a5,P a6]/\(Ca b1 74 #[P x,A #[I J a1,I J a2,P a3,I J a4,I J a5,P a6]] fun b2 b3=>∃a7,b2=I J a7/\(Rt b3 R (T #[I J a7,.nilIface])))))))):
 Acts prog 18 #[A #[I J c,S d e f],A #[B g,S i k l,S m n o,B p,S q r s,S t u w]] V R:=
 fd (LF:=LF0) (RF:=[1000015]) [] [] func18 h
theorem vc_locate_Toward (f:Int) (g:OA) (i k:Nat) (l:Bool) (m:OA) (n o:Nat) (p:OA) (q r:Nat) (s:Bool) (t:OA) (u w:Nat) (x:OA) (y z:Nat) (a0:Bool) (a1:OA) (a2 a3:Nat) (a4:OA) (a5 a6:Nat) (a7:Bool) (a8:OA) (a9 b0:Nat) (b1:OA) (b2 b3:Nat) (V:View) (R:VR) (h:(Ca V 73 #[A #[I J f,S g i k]] fun d3 a=>∃b4,∃b,d3=T #[P b4,B b]/\(((!b)=true->(∃b5,(∃b6,(some ⟨0,0,none⟩:OA)=some b6/\a.at b6 (b5))/\(Rt a R (T #[I J 0,B false,b5]))))/\((!b)=false->(Ca a 75 #[A #[B l,S m n o,S p q r,B s,S t u w,S x y z]] fun d4 d5=>∃b8,∃b9,∃c0,∃c1,∃c2,∃c3,d4=A #[I J b8,I J b9,P c0,I J c1,I J c2,P c3]/\(Ca d5 75 #[A #[B a0,S a1 a2 a3,S a4 a5 a6,B a7,S a8 a9 b0,S b1 b2 b3]] fun d6 d7=>∃c4,∃c5,∃c6,∃c7,∃c8,∃c9,d6=A #[I J c4,I J c5,P c6,I J c7,I J c8,P c9]/\(Ca d7 84 #[P b4,A #[I J b8,I J b9,P c0,I J c1,I J c2,P c3],A #[I J c4,I J c5,P c6,I J c7,I J c8,P c9]] fun d8 c=>∃d,∃e,d8=T #[B d,B e]/\(((!e)=true->(Rt c R (T #[I J 0,B false,.nilIface])))/\((!e)=false->((d=true->(Rt c R (T #[I J (-2),B true,.nilIface])))/\(d=false->(Rt c R (T #[I J (-1),B true,.nilIface]))))))))))))):
 Acts prog 28 #[A #[I J f,S g i k],A #[B l,S m n o,S p q r,B s,S t u w,S x y z],A #[B a0,S a1 a2 a3,S a4 a5 a6,B a7,S a8 a9 b0,S b1 b2 b3]] V R:=
 fd (LF:=LF0) (RF:=[1000015]) [] [] func28 h
theorem vc_locate_Leaf (a:Int) (b:OA) (c d:Nat) (e:Bool) (f:OA) (g i:Nat) (k:OA) (l m:Nat) (n:Bool) (o:OA) (p q:Nat) (r:OA) (s t:Nat) (V:View) (R:VR) (h:(Ca V 28 #[A #[I J a,S b c d],A #[B e,S f g i,S k l m,B n,S o p q,S r s t],A #[B false,S none 0 0,S none 0 0,B false,S none 0 0,S none 0 0]] fun z a0=>∃u,∃w,∃x,z=T #[I J u,B w,x]/\(Rt a0 R (T #[I J u,B w,x])))):
 Acts prog 27 #[A #[I J a,S b c d],A #[B e,S f g i,S k l m,B n,S o p q,S r s t]] V R:=
 fd (LF:=LF0) (RF:=[1000015]) [] [] func27 h
end Go.Proofs.Tryz
/- Directions (package geo) in a row that is sorted: how they are compared. -/
namespace Go.Proofs.Tryz
open Go.Eng Go.Big
theorem c_Pt_half {V:View} {v:Value} {p:Rat × Rat} (h:RPt V v p.1 p.2) {k:Nat} (s1:Sz k p.1) (s2:Sz k p.2) (hk:k<=1099511627776) :
  Acts prog 283 #[v] V fun r V'=>r=.int .i64 (Sec.half p):=by
 obtain ⟨x1,x2,q,y1,y2,q',rfl,hx,hy⟩:=h
 refine vc_geo_Pt_half x1 x2 q y1 y2 q' V _ fun V1 l1=>(c_R_Sign (hy.le l1) s2 hk).mono ?_
 rintro r V2 l2 rfl
 have l12:=l1.trans l2
 refine ⟨_,rfl,fun h1 V3 l3=>?_,fun h1=>⟨fun h2 V4 l4=>(c_R_Sign (hx.le (l12.trans l4)) s1 hk).mono ?_,fun h2=>⟨fun h3 V12 l12'=>?_,fun h3 V13 l13=>(c_R_Sign (hx.le (l12.trans l13)) s1 hk).mono ?_⟩⟩⟩
 ·have h1:p.2.num.sign > 0:=of_decide_eq_true h1
  unfold Sec.half; rw [if_pos (.inl h1)]
 ·have h1:¬ p.2.num.sign > 0:=of_decide_eq_false h1
  have h2:p.2.num.sign=0:=by simpa using h2
  rintro r V5 l5 rfl
  refine ⟨_,rfl,fun h3 V6 l6=>?_,fun h3=>⟨fun h4 V7 l7=>?_,fun h4 V8 l8=>(c_R_Sign (hx.le (l12.trans (l4.trans (l5.trans l8)))) s1 hk).mono ?_⟩⟩
  ·have h3:p.1.num.sign > 0:=of_decide_eq_true h3
   unfold Sec.half; rw [if_pos (.inr ⟨h2,h3⟩)]
  ·have h4:p.2.num.sign < 0:=of_decide_eq_true h4
   omega
  ·have h3:¬ p.1.num.sign > 0:=of_decide_eq_false h3
   have hn:¬ (p.2.num.sign > 0 \/ p.2.num.sign=0/\p.1.num.sign > 0):=by omega
   rintro r V9 l9 rfl
   refine ⟨_,rfl,fun h5 V10 l10=>?_,fun h5 V11 l11=>?_⟩
   ·have h5:p.1.num.sign < 0:=of_decide_eq_true h5
    unfold Sec.half; rw [if_neg hn,if_pos (.inr h5)]
   ·have h5:¬ p.1.num.sign < 0:=of_decide_eq_false h5
    unfold Sec.half; rw [if_neg hn,if_neg (by omega)]
 ·have h1:¬ p.2.num.sign > 0:=of_decide_eq_false h1
  have h2:¬ p.2.num.sign=0:=by simpa using h2
  have h3:p.2.num.sign < 0:=of_decide_eq_true h3
  unfold Sec.half; rw [if_neg (by omega),if_pos (.inl h3)]
 ·have h1:¬ p.2.num.sign > 0:=of_decide_eq_false h1
  have h2:¬ p.2.num.sign=0:=by simpa using h2
  have h3:¬ p.2.num.sign < 0:=of_decide_eq_false h3
  omega
theorem sign_le (q:Rat):-1<=q.num.sign/\q.num.sign<=1:=by
 rcases Int.lt_trichotomy q.num 0 with h | h | h
 ·rw [Int.sign_eq_neg_one_of_neg h]; omega
 ·rw [h]; decide
 ·rw [Int.sign_eq_one_of_pos h]; omega
theorem c_geo_Angle {V:View} {v w:Value} {a b:Rat × Rat} (h:RPt V v a.1 a.2) (h':RPt V w b.1 b.2) {k:Nat} (s1:Sz k a.1) (s2:Sz k a.2) (s3:Sz k b.1) (s4:Sz k b.2) (hk:4 * k + 3 < 274877906944) :
  Acts prog 234 #[v,w] V fun r V'=>r=.int .i64 (Sec.ang a b):=by
 have h0:=h
 have h0':=h'
 obtain ⟨x1,x2,q,y1,y2,q',rfl,-⟩:=h
 obtain ⟨u1,u2,t,w1,w2,t',rfl,-⟩:=h'
 refine vc_geo_Angle x1 x2 q y1 y2 q' u1 u2 t w1 w2 t' V _ fun V1 l1=>(c_Pt_half (h0.le l1) s1 s2 (by omega)).mono ?_
 rintro r V2 l2 rfl
 refine ⟨_,rfl,fun V3 l3=>(c_Pt_half (h0'.le (l1.trans (l2.trans l3))) s3 s4 (by omega)).mono ?_⟩
 rintro r V4 l4 rfl
 have l14:=l1.trans (l2.trans (l3.trans l4))
 refine ⟨_,rfl,fun g V5 l5=>?_,fun g=>⟨fun g' V6 l6=>?_,fun g' V7 l7=>(c_geo_Pt_Cross (h0.le (l14.trans l7)) (h0'.le (l14.trans l7)) s1 s2 s3 s4 hk).mono ?_⟩⟩
 ·unfold Sec.ang; rw [if_pos (of_decide_eq_true g)]
 ·unfold Sec.ang; rw [if_neg (of_decide_eq_false g),if_pos (of_decide_eq_true g')]
 ·rintro r V8 l8 gc
  have gc0:=gc
  obtain ⟨c0,c1,c2,rfl⟩:=gc.shape
  refine ⟨_,_,_,rfl,fun V9 l9=>(c_R_Sign (gc0.le l9) (z_geo_Pt_Cross_0 s1 s2 s3 s4) (by omega)).mono ?_⟩
  rintro r V10 l10 rfl
  refine ⟨_,rfl,fun V11 l11=>?_⟩
  have bd:=sign_le (a.1 * b.2 - a.2 * b.1)
  rw [i64w (by omega)]
  unfold Sec.ang; rw [if_neg (of_decide_eq_false g),if_neg (of_decide_eq_false g')]
  show _=Value.int .i64 (-(a.1 * b.2 - a.2 * b.1).num.sign)
  congr 1; omega
def dCP:Rat × Rat:=(0,0)
def cCP (a b:Rat × Rat):Int:=Sec.ang a b
theorem ordCP:Ord cCP:=⟨Sec.ang_asy,Sec.ang_tr⟩
/-- A direction; its numbers are not great. -/
def RCP (V:View) (v:Value) (c:Rat × Rat):Prop:=RPt V v c.1 c.2/\Sz 100000 c.1/\Sz 100000 c.2
theorem RCP.le {V V':View} {v:Value} {c:Rat × Rat} (h:RCP V v c) (l:V.Le V'):RCP V' v c:=⟨h.1.le l,h.2⟩
theorem RCP.shape {V:View} {v:Value} {c:Rat × Rat} (h:RCP V v c):∃(x y:Int) (p:OA) (xb yb:Int) (pb:OA),v=.agg #[.int .i64 x,.int .i64 y,.pointer p,.int .i64 xb,.int .i64 yb,.pointer pb]:=by
 obtain ⟨⟨x1,x2,p,y1,y2,q,e,-⟩,-⟩:=h; exact ⟨_,_,_,_,_,_,e⟩
theorem c_chg_cmpP {V:View} {v w:Value} {a b:Rat × Rat} (h:RCP V v a) (h':RCP V w b):Acts prog 234 #[v,w] V fun r V'=>r=.int .i64 (cCP a b):=
 c_geo_Angle h.1 h'.1 h.2.1 h.2.2 h'.2.1 h'.2.2 (by omega)
def eP (a b:Rat × Rat):Bool:=Sec.eP a b
theorem c_eqvP {V:View} {v w:Value} {a b:Rat × Rat} (h:RCP V v a) (h':RCP V w b):Acts prog 236 #[v,w] V fun r V'=>r=.bool (eP a b):=by
 have h0:=h
 have h0':=h'
 obtain ⟨_,_,_,_,_,_,rfl⟩:=h.shape
 obtain ⟨_,_,_,_,_,_,rfl⟩:=h'.shape
 refine vc_geo_Directions_1 _ _ _ _ _ _ _ _ _ _ _ _ V _ fun V1 l1=>(c_chg_cmpP (h0.le l1) (h0'.le l1)).mono ?_
 rintro r V2 l2 rfl
 refine ⟨_,rfl,fun V3 l3=>?_⟩
 unfold eP Sec.eP cCP
 congr 1
/-! the positive multiple with coprime coordinates -/
theorem c_Pt_Neg {V:View} {v:Value} {p:Rat × Rat} (h:RPt V v p.1 p.2) {k:Nat} (s1:Sz k p.1) (s2:Sz k p.2) (hk:k<=1099511627776) :
  Acts prog 239 #[v] V fun r V'=>RPt V' r (-p.1) (-p.2):=by
 obtain ⟨x1,x2,q,y1,y2,q',rfl,hx,hy⟩:=h
 refine vc_geo_Pt_Neg x1 x2 q y1 y2 q' V _ fun V1 l1=>(c_R_Neg (hx.le l1) s1 hk).mono ?_
 rintro r V2 l2 g
 have g0:=g
 obtain ⟨a,b,c,rfl⟩:=g.shape
 refine ⟨_,_,_,rfl,fun V3 l3=>(c_R_Neg (hy.le (l1.trans (l2.trans l3))) s2 hk).mono ?_⟩
 rintro r V4 l4 g'
 have g0':=g'
 obtain ⟨a',b',c',rfl⟩:=g'.shape
 exact ⟨_,_,_,rfl,fun V5 l5=>⟨_,_,_,_,_,_,rfl,g0.le (l3.trans (l4.trans l5)),g0'.le l5⟩⟩
def primV (p:Rat × Rat):Rat × Rat:=(p.1 * (gcdQ p.1 p.2)⁻¹,p.2 * (gcdQ p.1 p.2)⁻¹)
theorem c_Pt_Primitive {V:View} {v:Value} {p:Rat × Rat} (h:RPt V v p.1 p.2) {k:Nat} (s1:Sz k p.1) (s2:Sz k p.2) (hk:8 * k + 8 < 274877906944) :
  Acts prog 238 #[v] V fun r V'=>RPt V' r (primV p).1 (primV p).2:=by
 have h0:=h
 obtain ⟨x1,x2,q,y1,y2,q',rfl,hx,hy⟩:=h
 refine vc_geo_Pt_Primitive x1 x2 q y1 y2 q' V _ fun V1 l1=>(c_frac_Gcd (hx.le l1) (hy.le l1) s1 s2 (by omega)).mono ?_
 rintro r V2 l2 g
 have g0:=g
 obtain ⟨a,b,c,rfl⟩:=g.shape
 refine ⟨_,_,_,rfl,fun V3 l3=>(c_R_Inv (g0.le l3) (Sz_gcdQ s1 s2) (by omega)).mono ?_⟩
 rintro r V4 l4 g'
 have g0':=g'
 obtain ⟨a',b',c',rfl⟩:=g'.shape
 refine ⟨_,_,_,rfl,fun V5 l5=>(c_geo_Pt_Scale (h0.le (l1.trans (l2.trans (l3.trans (l4.trans l5))))) (g0'.le l5) (k:=k + k + 1) (s1.mono (by omega)) (s2.mono (by omega)) (sz_inv (Sz_gcdQ s1 s2)) (by omega)).mono ?_⟩
 rintro r V6 l6 gs
 have gs0:=gs
 obtain ⟨_,_,_,_,_,_,rfl,-⟩:=gs
 exact ⟨_,_,_,_,_,_,rfl,fun V7 l7=>gs0.le l7⟩
end Go.Proofs.Tryz
/- Contracts: the rays of the lines through a point (package bsp). -/
namespace Go.Proofs.Tryz
open Go.Eng Go.Big
theorem GR.snoc2 {α:Type} {sz:Nat} {R:View->Value->α->Prop} {V:View} {n c:Nat} {vs:List Value} {l:List α} (h:GR sz R V n c vs l) {xs ys:List Value} {a b:α} (hx:xs.length=sz) (hy:ys.length=sz) (ha:R V (.agg xs.toArray) a) (hb:R V (.agg ys.toArray) b) (h0:0 < sz) {sp:List Value} {c':Nat} (h1:n + 2<=c') (h2:c' * sz<=(n + 2) * sz + sp.length) :
  GR sz R V (n + 2) c' (vs.take (n * sz)++(xs++ys)++sp) (l++[a,b]):=by
 have hl:=h.row.len_le h0
 have hn:=h.len
 have hc:=h.cap
 have hm:n * sz<=c * sz:=Nat.mul_le_mul_right _ h.le
 have r1:=h.row.snoc (sp:=ys++sp) hx ha h0
 have r2:=r1.snoc (sp:=sp) hy hb h0
 have ht:(vs.take (l.length * sz)).length=l.length * sz:=by rw [List.length_take]; omega
 have e:(vs.take (l.length * sz)++xs++(ys++sp)).take ((l++[a]).length * sz)=vs.take (l.length * sz)++xs:=by
  have:(vs.take (l.length * sz)++xs).length=(l++[a]).length * sz:=by
   rw [List.length_append,ht,hx,List.length_append,Nat.add_mul]; simp
  rw [← this,List.take_left' rfl]
 rw [e] at r2
 refine ⟨by rw [List.length_append,hn]; rfl,h1,?_,?_⟩
 ·rw [← hn] at ht
  simp only [List.length_append,ht,hx,hy]
  rw [Nat.add_mul] at h2
  omega
 ·rw [hn]
  simpa using r2
/-- The rays of lines: with each direction its opposite. -/
def negV (p:Rat × Rat):Rat × Rat:=(-p.1,-p.2)
def rayL (l:L3):List (Rat × Rat):=[primV (Sec.dirL l),negV (primV (Sec.dirL l))]
def raysL (M:List L3):List (Rat × Rat):=M.flatMap rayL
theorem raysL_append (M N:List L3):raysL (M++N)=raysL M++raysL N:=List.flatMap_append ..
theorem sz_primV {p:Rat × Rat} {k:Nat} (s1:Sz k p.1) (s2:Sz k p.2):Sz (3 * k + 3) (primV p).1/\Sz (3 * k + 3) (primV p).2:=
 ⟨(Sz.mul s1 (sz_inv (Sz_gcdQ s1 s2))).mono (by omega),(Sz.mul s2 (sz_inv (Sz_gcdQ s1 s2))).mono (by omega)⟩
theorem one12 {a b:Int} {p:OA} {c d:Int} {q:OA} {e f:Int} {r:OA} {g h:Int} {s:OA}:∀v ∈ ([.int .i64 a,.int .i64 b,.pointer p,.int .i64 c,.int .i64 d,.pointer q,.int .i64 e,.int .i64 f,.pointer r,.int .i64 g,.int .i64 h,.pointer s]:List Value),v.oneCell'=true:=by
 intro v hm
 simp only [List.mem_cons,List.not_mem_nil,or_false] at hm
 rcases hm with rfl | rfl | rfl | rfl | rfl | rfl | rfl | rfl | rfl | rfl | rfl | rfl <;> rfl
theorem sg_ge0 {q:Rat}:q.num.sign ≥ 0↔q ≥ 0:=by
 have:=@Sec.sg_lt q
 constructor
 ·intro h; by_cases g:q ≥ 0
  ·exact g
  ·have:=this.2 (by grind); omega
 ·intro h; by_cases g:q.num.sign ≥ 0
  ·exact g
  ·have:=this.1 (by omega); grind
theorem sg_le0 {q:Rat}:q.num.sign<=0↔q<=0:=by
 have:=@Sec.sg_gt q
 constructor
 ·intro h; by_cases g:q<=0
  ·exact g
  ·have:=this.2 (by grind); omega
 ·intro h; by_cases g:q.num.sign<=0
  ·exact g
  ·have:=this.1 (by omega); grind
theorem c_bsp_rays {pv:Value} {p:Rat × Rat} (s1:Sz 100000 p.1) (s2:Sz 100000 p.2):∀(t:Tr) {V:View} {q:OA} {lb n c:Nat} {vs:List Value} {o:List (Rat × Rat)},RT V q t->t.All Bd->RPt V pv p.1 p.2 ->
  (vs≠[]->V.w.heap[lb]?=some (.cells vs.toArray 145 (0,0)))->(vs≠[]->V.X lb)->GR 6 RCP V n c vs o->(vs≠[]->0 < n)->n + 2 * t.size<=1000000 ->
  Acts prog 154 #[.pointer q,pv,.slice (mA lb c) n c] V fun r V'=>∃(bm:Nat) (vm:List Value) (n' c':Nat),(vm≠[]->V'.w.heap[bm]?=some (.cells vm.toArray 145 (0,0)))/\(vm≠[]->V.w.heap.size<=bm \/ (vs≠[]/\bm=lb)) /\
   r=.slice (mA bm c') n' c'/\GR 6 RCP (V'.hideG (vm≠[]) bm) n' c' vm (o++raysL (Sec.metL t p))/\(vm≠[]->0 < n')/\n'<=n + 2 * t.size:=by
 intro t
 induction t with
 | leaf i=>
  intro V q lb n c vs o h ha hp hw hx hg hpos hn
  obtain ⟨x1,x2,x3,y1,y2,y3,rfl,-⟩:=hp
  refine vc_bsp_T_rays q x1 x2 x3 y1 y2 y3 lb n c vs V _ hw hx fun V1 l1=>(c_bsp_IsLeaf (h.le l1)).mono ?_
  rintro r V2 l2 rfl
  have or3:∀{A B:Prop},A \/ B \/ False->A \/ B:=fun h=>h.imp id fun h=>h.elim id False.elim
  refine ⟨_,rfl,fun hl V3 bk hle e2 e3=>⟨bk,vs,n,c,e2,fun h=>or3 (e3 h),rfl,?_,hpos,by omega⟩,fun hl=>by cases hl⟩
  show GR 6 RCP _ n c vs (o++[])
  rw [List.append_nil]
  exact hg.mono fun _ _ g=>RCP.le g ((l1.trans l2).trans hle)
 | node ln a b iha ihb=>
  intro V q lb n c vs o h ha hp hw hx hg hpos hn
  have hp0:=hp
  obtain ⟨x1,x2,x3,y1,y2,y3,rfl,-⟩:=hp
  refine vc_bsp_T_rays q x1 x2 x3 y1 y2 y3 lb n c vs V _ hw hx fun V1 l1=>(c_bsp_IsLeaf (h.le l1)).mono ?_
  rintro r V2 l2 rfl
  have or3:∀{A B:Prop},A \/ B \/ False->A \/ B:=fun h=>h.imp id fun h=>h.elim id False.elim
  refine ⟨_,rfl,(fun hl=>by cases hl),fun _=>?_⟩
  obtain ⟨bb,u1,u2,u3,v1,v2,v3,w1,w2,w3,pl,pr,i,rfl,hb,hln,ha',hbb⟩:=h.le (l1.trans l2)
  obtain ⟨hbd,haa,hab⟩:=ha
  simp only [Tr.size] at hn
  have hat:∀{W:View},V2.Le W->∀j v,([.int .i64 u1,.int .i64 u2,.pointer u3,.int .i64 v1,.int .i64 v2,.pointer v3,.int .i64 w1,.int .i64 w2,.pointer w3,.pointer pl,.pointer pr,.bool i]:List Value)[j]?=some v->W.at ((⟨bb,0,none⟩:Addr).add j) v:=by
   intro W hW j v hv; rw [add_zero']; exact blk_at (xs:=[_,_,_,_,_,_,_,_,_,_,_,_]) (hW _ _ hb) hv
  have h0:=View.Le.refl V2
  have sl:=hbd.szl
  refine ⟨rfl,rfl,_,_,_,_,_,_,_,_,_,⟨bb,0,none⟩,rfl,hat h0 0 _ rfl,hat h0 1 _ rfl,hat h0 2 _ rfl,hat h0 3 _ rfl,hat h0 4 _ rfl,hat h0 5 _ rfl,hat h0 6 _ rfl,hat h0 7 _ rfl,hat h0 8 _ rfl,fun V4 l4=>(k_Side (L:=ln) (hln.le l4) (hp0.le (l1.trans (l2.trans l4))) (k:=100000) ⟨sl.1.mono (by omega),sl.2.1.mono (by omega),sl.2.2.mono (by omega)⟩ s1 s2 (by omega)).mono ?_⟩
  rintro r V5 l5 rfl
  have l25:=l4.trans l5
  have L5:=l1.trans (l2.trans l25)
  have hg5:GR 6 RCP V5 n c vs o:=hg.mono fun _ _ g=>RCP.le g L5
  refine ⟨_,rfl,fun z V'=>GR 6 RCP V' z.1 z.2.1 z.2.2 (o++raysL (if valL ln p.1 p.2=0 then [ln] else []))/\(z.2.2≠[]->0 < z.1)/\z.1<=n + 2,⟨fun e0=>?_,fun e0=>?_⟩,?_⟩
  ·have e0:valL ln p.1 p.2=0:=Sec.sg_zero.1 (by simpa using e0)
   refine ⟨rfl,rfl,_,_,_,_,_,_,_,_,_,⟨bb,0,none⟩,rfl,hat l25 0 _ rfl,hat l25 1 _ rfl,hat l25 2 _ rfl,hat l25 3 _ rfl,hat l25 4 _ rfl,hat l25 5 _ rfl,hat l25 6 _ rfl,hat l25 7 _ rfl,hat l25 8 _ rfl,fun V6 l6=>(c_geo_Ln_Dir (hln.le (l25.trans l6)) sl.1 sl.2.1 sl.2.2 (by omega)).mono ?_⟩
   rintro r V7 l7 gd
   have gd0:RPt V7 r (Sec.dirL ln).1 (Sec.dirL ln).2:=gd
   obtain ⟨d1,d2,d3,d4,d5,d6,rfl,-⟩:=gd
   have sd1:Sz 1000 (Sec.dirL ln).1:=sl.2.1
   have sd2:Sz 1000 (Sec.dirL ln).2:=sl.1.neg
   refine ⟨_,_,_,_,_,_,rfl,fun V8 l8=>(c_Pt_Primitive (p:=Sec.dirL ln) (gd0.le l8) sd1 sd2 (by omega)).mono ?_⟩
   rintro r V9 l9 ge
   have ge0:=ge
   obtain ⟨e1,e2,e3,e4,e5,e6,rfl,-⟩:=ge
   obtain ⟨sp1,sp2⟩:=sz_primV sd1 sd2
   refine ⟨_,_,_,_,_,_,rfl,fun V10 l10=>(c_Pt_Neg (p:=primV (Sec.dirL ln)) (ge0.le l10) sp1 sp2 (by omega)).mono ?_⟩
   rintro r V11 l11 gf
   have gf0:=gf
   obtain ⟨f1,f2,f3,f4,f5,f6,rfl,-⟩:=gf
   refine ⟨_,_,_,_,_,_,rfl,by omega,hg.le,hg.cap,rfl,one12,fun sp c' g1 g2=>⟨(n + 2,c',_),by and_intros <;> rfl,?_,fun _=>Nat.succ_pos _,Nat.le_refl _⟩⟩
   rw [if_pos e0]
   have L11:=l6.trans (l7.trans (l8.trans (l9.trans (l10.trans l11))))
   exact (hg5.mono fun _ _ g=>RCP.le g L11).snoc2 (xs:=[_,_,_,_,_,_]) (ys:=[_,_,_,_,_,_]) rfl rfl ⟨ge0.le (l10.trans l11),sp1.mono (by omega),sp2.mono (by omega)⟩ ⟨gf0,sp1.neg.mono (by omega),sp2.neg.mono (by omega)⟩ (by decide) g1 g2
  ·have e0:¬ valL ln p.1 p.2=0:=fun h=>by rw [Sec.sg_zero.2 h] at e0; cases e0
   refine ⟨(n,c,vs),by and_intros <;> rfl,?_,hpos,by dsimp only; omega⟩
   rw [if_neg e0]
   show GR 6 RCP _ n c vs (o++[])
   rw [List.append_nil]
   exact hg5
  ·rintro ⟨n1,c1,vs1⟩ V12 l12 ⟨g1,gp1,gn1⟩
   dsimp only at g1 gp1 gn1 ⊢
   have l212:=l25.trans l12
   refine ⟨rfl,fun z V'=>GR 6 RCP V' z.1 z.2.1 z.2.2 (o++raysL ((if valL ln p.1 p.2=0 then [ln] else [])++(if valL ln p.1 p.2 ≥ 0 then Sec.metL a p else [])))/\(z.2.2≠[]->0 < z.1)/\z.1<=n + 2 + 2 * a.size,⟨fun e1=>?_,fun e1=>?_⟩,?_⟩
   ·have e1:valL ln p.1 p.2 ≥ 0:=sg_ge0.1 (of_decide_eq_true e1)
    refine ⟨rfl,rfl,pl,rdc (l212 _ _ hb) 9 rfl,fun V13 l13 bk f1 f2=>?_⟩
    refine (iha (V:=V13.lend [vb vs1 V13.w.heap.size bk]) (lb:=bk) (RT.le (V:=V2) (V':=V13.lend _) (fun b o h=>(l212.trans l13) b o h) ha') haa (RPt.le (V:=V) (V':=V13.lend _) hp0 fun b o h=>(L5.trans (l12.trans l13)) b o h) f1 (fun h=>⟨by simp [vb_ne h],f2 h⟩) (g1.mono (V':=V13.lend _) fun _ _ g=>RCP.le g fun b o h=>l13 b o h) gp1 (by omega)).mono ?_
    rintro r V14 l14 ⟨bm,vm,n2,c2,a1,a2,rfl,a3,a4,a5⟩
    refine ⟨bm,vm,a1,a2,none,n2,c2,rfl,(n2,c2,vm),by and_intros <;> rfl,?_,a4,by dsimp only; omega⟩
    rw [raysL_append,if_pos e1,← List.append_assoc]
    exact a3.mono fun _ _ g=>RCP.le g fun b o h=>h
   ·have e1:¬ valL ln p.1 p.2 ≥ 0:=fun h=>(of_decide_eq_false e1) (sg_ge0.2 h)
    refine ⟨(n1,c1,vs1),by and_intros <;> rfl,?_,gp1,by dsimp only; omega⟩
    rw [if_neg e1,List.append_nil]
    exact g1
   ·rintro ⟨n2,c2,vs2⟩ V15 l15 ⟨g2,gp2,gn2⟩
    dsimp only at g2 gp2 gn2 ⊢
    have l215:=l212.trans l15
    refine ⟨rfl,fun e2=>?_,fun e2 V19 bk hle k1 k2=>⟨bk,vs2,n2,c2,k1,fun h=>or3 (k2 h),rfl,?_,gp2,by simp only [Tr.size]; omega⟩⟩
    ·have e2:valL ln p.1 p.2<=0:=sg_le0.1 (of_decide_eq_true e2)
     refine ⟨rfl,rfl,pr,rdc (l215 _ _ hb) 10 rfl,fun V16 l16 bk f1 f2=>?_⟩
     refine (ihb (V:=V16.lend [vb vs2 V16.w.heap.size bk]) (lb:=bk) (RT.le (V:=V2) (V':=V16.lend _) (fun b o h=>(l215.trans l16) b o h) hbb) hab (RPt.le (V:=V) (V':=V16.lend _) hp0 fun b o h=>(L5.trans (l12.trans (l15.trans l16))) b o h) f1 (fun h=>⟨by simp [vb_ne h],f2 h⟩) (g2.mono (V':=V16.lend _) fun _ _ g=>RCP.le g fun b o h=>l16 b o h) gp2 (by omega)).mono ?_
     rintro r V17 l17 ⟨bm,vm,n3,c3,a1,a2,rfl,a3,a4,a5⟩
     refine ⟨bm,vm,a1,a2,none,n3,c3,rfl,fun V18 bk2 hle k1 k2=>⟨bk2,vm,n3,c3,k1,fun h=>or3 (k2 h),rfl,?_,a4,by simp only [Tr.size]; omega⟩⟩
     simp only [Sec.metL]
     rw [if_pos e2,← List.append_assoc,raysL_append,← List.append_assoc]
     exact a3.mono fun _ _ g=>RCP.le g fun b o h=>hle b o h
    ·have e2:¬ valL ln p.1 p.2<=0:=fun h=>(of_decide_eq_false e2) (sg_le0.2 h)
     simp only [Sec.metL]
     rw [if_neg e2,List.append_nil]
     exact g2.mono fun _ _ g=>RCP.le g hle
end Go.Proofs.Tryz
