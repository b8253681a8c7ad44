/- A part of the proof (joined by program from: SortP, SecP, SentA, ErrA). -/
import Derived.Test.YtcbcbdbheiopbaaGreatDoorL5
import Derived.WalkKit
import Derived.LaidEql
import Derived.Stop.Asserts
import Derived.RowKitTokens
set_option linter.unusedVariables false
open Go.IntKind (i64 u64 u32)
/- Plain: what sorting in place does to a list: swaps, segments, the order of the elements. -/
namespace Go.Proofs.Tryz
open Go.Big
section
variable {α:Type}
/-- A comparison that orders. -/
structure Ord (c:α->α->Int):Prop where
 asy:∀a b,c a b < 0->¬ c b a < 0
 tr:∀a b d,¬ c a b < 0->¬ c b d < 0->¬ c a d < 0
variable {c:α->α->Int}
theorem Ord.le (h:Ord c) {a b:α} (l:c a b < 0):¬ c b a < 0:=h.asy a b l
theorem Ord.refl (h:Ord c) (a:α):¬ c a a < 0:=fun l=>h.asy a a l l
/-- Two elements change places. -/
def swp (d:α) (l:List α) (i j:Nat):List α:=(l.set i (l.getD j d)).set j (l.getD i d)
variable {d:α}
theorem swp_len {l:List α} {i j:Nat}:(swp d l i j).length=l.length:=by simp [swp]
theorem getD_set {l:List α} {i k:Nat} {x:α} (hi:i < l.length):(l.set i x).getD k d=if k=i then x else l.getD k d:=by
 simp only [List.getD_eq_getElem?_getD,List.getElem?_set]
 by_cases h:k=i
 ·subst h; simp [hi]
 ·have:¬ i=k:=fun e=>h e.symm
  simp [h,this]
theorem swp_at {l:List α} {i j k:Nat} (hi:i < l.length) (hj:j < l.length):(swp d l i j).getD k d=if k=j then l.getD i d else if k=i then l.getD j d else l.getD k d:=by
 unfold swp
 rw [getD_set (by simpa using hj),getD_set hi]
theorem swp_perm {l:List α} {i j:Nat} (hi:i < l.length) (hj:j < l.length):(swp d l i j).Perm l:=by
 have h:=Array.swap_perm (xs:=l.toArray) (i:=i) (j:=j) (by simpa using hi) (by simpa using hj)
 have e:(l.toArray.swap i j (by simpa using hi) (by simpa using hj)).toList=swp d l i j:=by
  simp [Array.swap,swp,List.getD_eq_getElem?_getD,hi,hj]
 have:=h.toList
 rw [e] at this
 simpa using this
/-- Only the part from a to b was changed, within itself. -/
structure Seg (d:α) (l m:List α) (a b:Nat):Prop where
 len:m.length=l.length
 out:∀k,¬ (a<=k/\k < b)->m.getD k d=l.getD k d
 mem:∀k,a<=k->k < b->∃k',a<=k'/\k' < b/\m.getD k d=l.getD k' d
 perm:m.Perm l
theorem Seg.refl (l:List α) (a b:Nat):Seg d l l a b:=⟨rfl,fun _ _=>rfl,fun k h h'=>⟨k,h,h',rfl⟩,.refl _⟩
theorem Seg.trans {l m n:List α} {a b:Nat} (h:Seg d l m a b) (g:Seg d m n a b):Seg d l n a b:=
 ⟨g.len.trans h.len,fun k hk=>(g.out k hk).trans (h.out k hk),fun k h1 h2=>by
  obtain ⟨k',h3,h4,e⟩:=g.mem k h1 h2
  obtain ⟨k'',h5,h6,e'⟩:=h.mem k' h3 h4
  exact ⟨k'',h5,h6,e.trans e'⟩,g.perm.trans h.perm⟩
theorem Seg.wide {l m:List α} {a b a' b':Nat} (h:Seg d l m a b) (ha:a'<=a) (hb:b<=b'):Seg d l m a' b':=
 ⟨h.len,fun k hk=>h.out k (by omega),fun k h1 h2=>by
  by_cases hk:a<=k/\k < b
  ·obtain ⟨k',h3,h4,e⟩:=h.mem k hk.1 hk.2
   exact ⟨k',by omega,by omega,e⟩
  ·exact ⟨k,h1,h2,h.out k hk⟩,h.perm⟩
theorem Seg.swp {l:List α} {a b i j:Nat} (hi:a<=i) (hi':i < b) (hj:a<=j) (hj':j < b) (hb:b<=l.length):Seg d l (swp d l i j) a b:=by
 refine ⟨swp_len,fun k hk=>?_,fun k h1 h2=>?_,swp_perm (by omega) (by omega)⟩
 ·rw [swp_at (by omega) (by omega),if_neg (by omega),if_neg (by omega)]
 ·rw [swp_at (by omega) (by omega)]
  split
  ·exact ⟨i,hi,hi',rfl⟩
  ·split
   ·exact ⟨j,hj,hj',rfl⟩
   ·exact ⟨k,h1,h2,rfl⟩
/-- Ascending from a to b. -/
def Asc (c:α->α->Int) (d:α) (l:List α) (a b:Nat):Prop:=∀p q,a<=p->p < q->q < b->¬ c (l.getD q d) (l.getD p d) < 0
theorem Asc.short {l:List α} {a b:Nat} (h:b<=a + 1):Asc c d l a b:=fun p q h1 h2 h3=>by omega
theorem Asc.step (ho:Ord c) {l:List α} {a b:Nat} (h:Asc c d l a b) (h0:a < b) (hb:¬ c (l.getD b d) (l.getD (b - 1) d) < 0):Asc c d l a (b + 1):=by
 intro p q h1 h2 h3
 by_cases e:q=b
 ·subst e
  by_cases e':p=q - 1
  ·subst e'; exact hb
  ·exact ho.tr _ _ _ hb (h p (q - 1) h1 (by omega) (by omega))
 ·exact h p q h1 h2 (by omega)
/-- Insertion: the part from a to i is in order but for the element at j. -/
def Ins (c:α->α->Int) (d:α) (l:List α) (a i j:Nat):Prop:=∀p q,a<=p->p < q->q<=i->q≠j->¬ c (l.getD q d) (l.getD p d) < 0
theorem Ins.start {l:List α} {a i:Nat} (h:Asc c d l a i):Ins c d l a i i:=fun p q h1 h2 h3 h4=>h p q h1 h2 (by omega)
theorem Ins.done (ho:Ord c) {l:List α} {a i j:Nat} (h:Ins c d l a i j) (hji:j<=i) (hs:j<=a \/ ¬ c (l.getD j d) (l.getD (j - 1) d) < 0):Asc c d l a (i + 1):=by
 intro p q h1 h2 h3
 by_cases e:q=j
 ·subst e
  rcases hs with hs | hs
  ·omega
  ·by_cases e':p=q - 1
   ·subst e'; exact hs
   ·exact ho.tr _ _ _ hs (h p (q - 1) h1 (by omega) (by omega) (by omega))
 ·exact h p q h1 h2 (by omega) e
theorem Ins.move (ho:Ord c) {l:List α} {a i j:Nat} (h:Ins c d l a i j) (hj:a < j) (hji:j<=i) (hi:i < l.length) (hl:c (l.getD j d) (l.getD (j - 1) d) < 0):Ins c d (swp d l j (j - 1)) a i (j - 1):=by
 intro p q h1 h2 h3 h4
 have ha:=fun k=>swp_at (d:=d) (l:=l) (i:=j) (j:=j - 1) (k:=k) (by omega) (by omega)
 rw [ha,ha]
 by_cases eq:q=j
 ·subst eq
  rw [if_neg (by omega),if_pos rfl]
  by_cases ep:p=q - 1
  ·rw [if_pos ep]; exact ho.asy _ _ hl
  ·rw [if_neg ep,if_neg (by omega)]; exact h p (q - 1) h1 (by omega) (by omega) (by omega)
 ·rw [if_neg h4,if_neg eq]
  by_cases ep:p=j - 1
  ·rw [if_pos ep]; exact h j q (by omega) (by omega) h3 eq
  ·rw [if_neg ep]
   by_cases ep':p=j
   ·rw [if_pos ep']; exact h (j - 1) q (by omega) (by omega) h3 eq
   ·rw [if_neg ep']; exact h p q h1 h2 h3 eq
/-! heaps -/
/-- From lo on, no child (below hi) is greater than its parent; the place r is left out; its children are not greater than its parent. -/
def Hp (c:α->α->Int) (d:α) (l:List α) (f lo hi:Nat) (r:Option Nat):Prop:=
 (∀i k,lo<=i->(k=2 * i + 1 \/ k=2 * i + 2)->k < hi->r≠some i->¬ c (l.getD (f + i) d) (l.getD (f + k) d) < 0) /\
 (∀i j k,r=some j->lo<=i->(j=2 * i + 1 \/ j=2 * i + 2)->(k=2 * j + 1 \/ k=2 * j + 2)->k < hi->¬ c (l.getD (f + i) d) (l.getD (f + k) d) < 0)
theorem Hp.top (ho:Ord c) {l:List α} {f hi:Nat} (h:Hp c d l f 0 hi none):∀k,k < hi->¬ c (l.getD f d) (l.getD (f + k) d) < 0:=by
 intro k
 induction k using Nat.strongRecOn with
 | ind k ih=>
  intro hk
  by_cases h0:k=0
  ·subst h0; exact ho.refl _
  ·exact ho.tr _ _ _ (ih ((k - 1) / 2) (by omega) (by omega)) (h.1 ((k - 1) / 2) k (by omega) (by omega) hk (by simp))
theorem Hp.leaf {l:List α} {f lo hi r:Nat} (h:Hp c d l f lo hi (some r)) (hr:hi<=2 * r + 1):Hp c d l f lo hi none:=
 ⟨fun i k h1 h2 h3 _=>by
  by_cases e:r=i
  ·omega
  ·exact h.1 i k h1 h2 h3 (by simpa using e),fun i j k e=>by cases e⟩
theorem Hp.stop (ho:Ord c) {l:List α} {f lo hi r k:Nat} (h:Hp c d l f lo hi (some r)) (hk:k=2 * r + 1 \/ k=2 * r + 2) (hm:∀k',(k'=2 * r + 1 \/ k'=2 * r + 2)->k' < hi->¬ c (l.getD (f + k) d) (l.getD (f + k') d) < 0)
  (hs:¬ c (l.getD (f + r) d) (l.getD (f + k) d) < 0):Hp c d l f lo hi none:=
 ⟨fun i k' h1 h2 h3 _=>by
  by_cases e:r=i
  ·subst e; exact ho.tr _ _ _ hs (hm k' h2 h3)
  ·exact h.1 i k' h1 h2 h3 (by simpa using e),fun i j k e=>by cases e⟩
theorem Hp.down (ho:Ord c) {l:List α} {f lo hi r k:Nat} (h:Hp c d l f lo hi (some r)) (hlo:lo<=r) (hl:f + hi<=l.length) (hk:k=2 * r + 1 \/ k=2 * r + 2) (hkh:k < hi) (hm:∀k',(k'=2 * r + 1 \/ k'=2 * r + 2)->k' < hi->¬ c (l.getD (f + k) d) (l.getD (f + k') d) < 0)
  (hs:c (l.getD (f + r) d) (l.getD (f + k) d) < 0):Hp c d (swp d l (f + r) (f + k)) f lo hi (some k):=by
 have ha:=fun x=>swp_at (d:=d) (l:=l) (i:=f + r) (j:=f + k) (k:=x) (by omega) (by omega)
 refine ⟨fun i k' h1 h2 h3 h4=>?_,fun i j k' e h1 h2 h3 h4=>?_⟩
 ·have h4:¬ i=k:=fun e=>h4 (by rw [e])
  rw [ha,ha,if_neg (show ¬ f + i=f + k by omega)]
  by_cases er:i=r
  ·subst er
   rw [if_pos rfl]
   by_cases ek:k'=k
   ·rw [if_pos (by omega)]; exact ho.asy _ _ hs
   ·rw [if_neg (by omega),if_neg (by omega)]; exact hm k' h2 h3
  ·rw [if_neg (by omega)]
   by_cases ek:k'=r
   ·subst ek
    rw [if_neg (by omega),if_pos rfl]
    exact h.2 i k' k rfl h1 h2 hk hkh
   ·rw [if_neg (by omega),if_neg (by omega)]
    exact h.1 i k' h1 h2 h3 (by simp; omega)
 ·cases e
  rw [ha,ha]
  have:i=r:=by omega
  subst this
  rw [if_neg (by omega),if_pos rfl,if_neg (by omega),if_neg (by omega)]
  exact h.1 k k' (by omega) h3 h4 (by simp; omega)
/-- One more place joins the heap from below. -/
theorem Hp.more {l:List α} {f lo hi:Nat} (h:Hp c d l f (lo + 1) hi none):Hp c d l f lo hi (some lo):=
 ⟨fun i k h1 h2 h3 h4=>h.1 i k (by have:¬ lo=i:=fun e=>h4 (by rw [e]); omega) h2 h3 (by simp),fun i j k e h1 h2 h3 h4=>by cases e; omega⟩
/-- The two parts of a list: nothing in front is greater than anything behind. -/
def Sep (c:α->α->Int) (d:α) (l:List α) (a m b:Nat):Prop:=∀p q,a<=p->p < m->m<=q->q < b->¬ c (l.getD q d) (l.getD p d) < 0
theorem Seg.sep {l m:List α} {a b x y z:Nat} (h:Seg d l m a b) (hs:Sep c d l x y z) (hc:(x<=a/\b<=y) \/ (y<=a/\b<=z) \/ b<=x \/ z<=a):Sep c d m x y z:=by
 intro p q h1 h2 h3 h4
 have key:∀k,∃k',m.getD k d=l.getD k' d/\(k=k' \/ a<=k/\k < b/\a<=k'/\k' < b):=fun k=>by
  by_cases hk:a<=k/\k < b
  ·obtain ⟨k',e1,e2,e⟩:=h.mem k hk.1 hk.2
   exact ⟨k',e,.inr ⟨hk.1,hk.2,e1,e2⟩⟩
  ·exact ⟨k,h.out k hk,.inl rfl⟩
 obtain ⟨p',e1,e2⟩:=key p
 obtain ⟨q',f1,f2⟩:=key q
 rw [e1,f1]
 exact hs p' q' (by omega) (by omega) (by omega) (by omega)
theorem Seg.asc {l m:List α} {a b x y:Nat} (h:Seg d l m a b) (hs:Asc c d l x y) (hc:y<=a \/ b<=x):Asc c d m x y:=by
 intro p q h1 h2 h3
 rw [h.out p (by omega),h.out q (by omega)]
 exact hs p q h1 h2 h3
theorem Asc.join {l:List α} {a m b:Nat} (h1:Asc c d l a m) (h2:Asc c d l m b) (h3:Sep c d l a m b):Asc c d l a b:=by
 intro p q g1 g2 g3
 by_cases hq:q < m
 ·exact h1 p q g1 g2 hq
 ·by_cases hp:m<=p
  ·exact h2 p q hp g2 g3
  ·exact h3 p q g1 (by omega) (by omega) g3
end
end Go.Proofs.Tryz
/- Plain: directions of the plane in order; the sectors between rays that stand with their opposites: each sector's sample stands for all vectors in it. -/
namespace Go.Proofs.Tryz.Sec
abbrev V2:=Rat × Rat
def cr (u v:V2):Rat:=u.1 * v.2 - u.2 * v.1
def dt (u v:V2):Rat:=u.1 * v.1 + u.2 * v.2
def trn (u:V2):V2:=(-u.2,u.1)
def up (u:V2):Prop:=u.2 > 0 \/ u.2=0/\u.1 > 0
def dn (u:V2):Prop:=u.2 < 0 \/ u.2=0/\u.1 < 0
def nz (u:V2):Prop:=u.1≠0 \/ u.2≠0
/-- u lies ahead of v by angle. -/
def aLt (u v:V2):Prop:=(up u/\dn v) \/ ((up u/\up v \/ dn u/\dn v)/\cr u v > 0)
def lin (a:Rat) (u:V2) (b:Rat) (w:V2):V2:=(a * u.1 + b * w.1,a * u.2 + b * w.2)
/-- Opposite directions. -/
def opp (s r:V2):Prop:=∃c:Rat,c > 0/\s.1=-(c * r.1)/\s.2=-(c * r.2)
theorem up_dn {u:V2} (h:nz u):up u \/ dn u:=by unfold nz at h; unfold up dn; grind
theorem not_both {u:V2} (h:up u) (h':dn u):False:=by unfold up at h; unfold dn at h'; grind
theorem cr_swap (u v:V2):cr v u=-cr u v:=by unfold cr; grind
theorem jac1 (u w r:V2):cr u r * w.1 + cr r w * u.1=cr u w * r.1:=by unfold cr; grind
theorem jac2 (u w r:V2):cr u r * w.2 + cr r w * u.2=cr u w * r.2:=by unfold cr; grind
theorem cr_lin (r:V2) (a:Rat) (u:V2) (b:Rat) (w:V2):cr r (lin a u b w)=a * cr r u + b * cr r w:=by unfold cr lin; grind
theorem cr_trn (r u:V2):cr r (trn u)=dt r u:=by unfold cr trn dt; grind
theorem opp_cr {s r:V2} (h:opp s r) (z:V2):∃c:Rat,c > 0/\cr s z=-(c * cr r z)/\cr z s=-(c * cr z r):=by
 obtain ⟨c,h0,h1,h2⟩:=h
 exact ⟨c,h0,by unfold cr; rw [h1,h2]; grind,by unfold cr; rw [h1,h2]; grind⟩
theorem mp {a b:Rat} (ha:a > 0) (hb:b > 0):a * b > 0:=Rat.mul_pos ha hb
theorem mn {a b:Rat} (ha:a ≥ 0) (hb:b ≥ 0):a * b ≥ 0:=Rat.mul_nonneg ha hb
/-- the four ways in which a ray would lie between -/
theorem b1 {u w r:V2} (hu:up u) (hw:dn w) (hr:up r) (a:cr u r > 0) (b:cr r w<=0) (c:cr u w ≥ 0):False:=by
 have e:=jac2 u w r
 unfold up at hu hr; unfold dn at hw
 have h1:cr u r * (-w.2) ≥ 0:=mn (by grind) (by grind)
 have h2:(-(cr r w)) * u.2 ≥ 0:=mn (by grind) (by grind)
 have h3:cr u w * r.2 ≥ 0:=mn c (by grind)
 have z1:cr u r * w.2=0:=by grind
 have w2:w.2=0:=by rcases Rat.mul_eq_zero.1 z1 with h | h <;> grind
 have w1:w.1 < 0:=by grind
 have bb:cr r w=-(r.2 * w.1):=by unfold cr; grind
 have r2:r.2=0:=by
  by_cases h:r.2 > 0
  ·have:=mp h (show -w.1 > 0 by grind)
   grind
  ·grind
 have r1:r.1 > 0:=by grind
 have aa:cr u r=-(u.2 * r.1):=by unfold cr; grind
 have:=mn (show u.2 ≥ 0 by grind) (show r.1 ≥ 0 by grind)
 grind
theorem b2 {u w r:V2} (hu:up u) (hw:dn w) (hr:dn r) (a:cr u r<=0) (b:cr r w > 0) (c:cr u w ≥ 0):False:=by
 have e:=jac2 u w r
 unfold up at hu; unfold dn at hw hr
 have h1:(-(cr u r)) * (-w.2) ≥ 0:=mn (by grind) (by grind)
 have h2:cr r w * u.2 ≥ 0:=mn (by grind) (by grind)
 have h3:cr u w * (-r.2) ≥ 0:=mn c (by grind)
 have z1:cr r w * u.2=0:=by grind
 have u2:u.2=0:=by rcases Rat.mul_eq_zero.1 z1 with h | h <;> grind
 have u1:u.1 > 0:=by grind
 have cc:cr u w=u.1 * w.2:=by unfold cr; grind
 have w2:w.2=0:=by
  by_cases h:w.2 < 0
  ·have:=mp u1 (show -w.2 > 0 by grind)
   grind
  ·grind
 have w1:w.1 < 0:=by grind
 have bb:cr r w=-(r.2 * w.1):=by unfold cr; grind
 have:=mn (show -r.2 ≥ 0 by grind) (show -w.1 ≥ 0 by grind)
 grind
theorem b3 {u w r:V2} (hu:dn u) (hw:up w) (hr:dn r) (a:cr u r > 0) (b:cr r w<=0) (c:cr u w ≥ 0):False:=by
 have e:=jac2 u w r
 unfold dn at hu hr; unfold up at hw
 have h1:cr u r * w.2 ≥ 0:=mn (by grind) (by grind)
 have h2:(-(cr r w)) * (-u.2) ≥ 0:=mn (by grind) (by grind)
 have h3:cr u w * (-r.2) ≥ 0:=mn c (by grind)
 have z1:cr u r * w.2=0:=by grind
 have w2:w.2=0:=by rcases Rat.mul_eq_zero.1 z1 with h | h <;> grind
 have w1:w.1 > 0:=by grind
 have bb:cr r w=-(r.2 * w.1):=by unfold cr; grind
 have r2:r.2=0:=by
  by_cases h:r.2 < 0
  ·have:=mp w1 (show -r.2 > 0 by grind)
   grind
  ·grind
 have r1:r.1 < 0:=by grind
 have aa:cr u r=-(u.2 * r.1):=by unfold cr; grind
 have:=mn (show -u.2 ≥ 0 by grind) (show -r.1 ≥ 0 by grind)
 grind
theorem b4 {u w r:V2} (hu:dn u) (hw:up w) (hr:up r) (a:cr u r<=0) (b:cr r w > 0) (c:cr u w ≥ 0):False:=by
 have e:=jac2 u w r
 unfold dn at hu; unfold up at hw hr
 have h1:(-(cr u r)) * w.2 ≥ 0:=mn (by grind) (by grind)
 have h2:cr r w * (-u.2) ≥ 0:=mn (by grind) (by grind)
 have h3:cr u w * r.2 ≥ 0:=mn c (by grind)
 have z1:cr r w * u.2=0:=by grind
 have u2:u.2=0:=by rcases Rat.mul_eq_zero.1 z1 with h | h <;> grind
 have u1:u.1 < 0:=by grind
 have cc:cr u w=u.1 * w.2:=by unfold cr; grind
 have w2:w.2=0:=by
  by_cases h:w.2 > 0
  ·have:=mp h (show -u.1 > 0 by grind)
   grind
  ·grind
 have w1:w.1 > 0:=by grind
 have bb:cr r w=-(r.2 * w.1):=by unfold cr; grind
 have:=mn (show r.2 ≥ 0 by grind) (show w.1 ≥ 0 by grind)
 grind
/-! the nearest ray on each side -/
theorem near_tr {u s r v:V2} (hr:cr r v > 0) (hu:cr u v > 0) (hs:cr s v > 0) (h1:cr r u ≥ 0) (h2:cr u s ≥ 0):cr r s ≥ 0:=by
 have e:cr r s * cr u v=cr r u * cr s v + cr u s * cr r v:=by unfold cr; grind
 have a1:=mn h1 (show cr s v ≥ 0 by grind)
 have a2:=mn h2 (show cr r v ≥ 0 by grind)
 by_cases h:cr r s ≥ 0
 ·exact h
 ·have:=mp (show -(cr r s) > 0 by grind) hu
  grind
theorem near:∀(D:List V2) (v:V2),(∃r ∈ D,cr r v > 0)->∃u ∈ D,cr u v > 0/\∀r ∈ D,cr r v > 0->cr r u ≥ 0
 | [],v,⟨r,h,_⟩=>by cases h
 | d :: D,v,h=>by
  by_cases hD:∃r ∈ D,cr r v > 0
  ·obtain ⟨u,hu,h1,h2⟩:=near D v hD
   by_cases hd:cr d v > 0
   ·by_cases hc:cr d u ≥ 0
    ·refine ⟨u,List.mem_cons_of_mem _ hu,h1,fun r hr hp=>?_⟩
     rcases List.mem_cons.1 hr with rfl | hr
     ·exact hc
     ·exact h2 r hr hp
    ·refine ⟨d,List.mem_cons_self ..,hd,fun r hr hp=>?_⟩
     rcases List.mem_cons.1 hr with rfl | hr
     ·unfold cr; grind
     ·have:=cr_swap d u
      exact near_tr hp h1 hd (h2 r hr hp) (by grind)
   ·refine ⟨u,List.mem_cons_of_mem _ hu,h1,fun r hr hp=>?_⟩
    rcases List.mem_cons.1 hr with rfl | hr
    ·exact absurd hp hd
    ·exact h2 r hr hp
  ·obtain ⟨r,hr,hp⟩:=h
   rcases List.mem_cons.1 hr with rfl | hr
   ·refine ⟨r,List.mem_cons_self ..,hp,fun s hs hps=>?_⟩
    rcases List.mem_cons.1 hs with rfl | hs
    ·unfold cr; grind
    ·exact absurd ⟨s,hs,hps⟩ hD
   ·exact absurd ⟨r,hr,hp⟩ hD
/-- Directions in order, each once; with each its opposite. -/
structure Ray (D:List V2):Prop where
 nz:∀r ∈ D,nz r
 cl:∀r ∈ D,∃s ∈ D,opp s r
 asc:D.Pairwise aLt
/-- The same sign. -/
def ss (a b:Rat):Prop:=(b > 0->a > 0)/\(b < 0->a < 0)
theorem aLt_uu {u v:V2} (hu:up u) (hv:up v):aLt u v->cr u v > 0:=by
 rintro (⟨_,h⟩ | ⟨_,h⟩)
 ·exact (not_both hv h).elim
 ·exact h
theorem aLt_dd {u v:V2} (hu:dn u) (hv:dn v):aLt u v->cr u v > 0:=by
 rintro (⟨h,_⟩ | ⟨_,h⟩)
 ·exact (not_both h hu).elim
 ·exact h
theorem aLt_du {u v:V2} (hu:dn u) (hv:up v):¬aLt u v:=by
 rintro (⟨h,_⟩ | ⟨⟨h,_⟩ | ⟨_,h⟩,_⟩)
 ·exact not_both h hu
 ·exact not_both h hu
 ·exact not_both hv h
/-- no ray lies between the two nearest ones -/
theorem btw {u w r v:V2} (nu:nz u) (nw:nz w) (nr:nz r)
  (o:aLt u r/\aLt r w \/ aLt w u/\aLt u r \/ aLt r w/\aLt w u)
  (h0:cr r v≠0) (hr:cr r v > 0->cr u r<=0) (hr':cr r v < 0->cr r w<=0) (c:cr u w ≥ 0):False:=by
 have sw:=cr_swap u w
 have two:cr u r > 0->cr r w > 0->False:=fun a b=>by
  by_cases h:cr r v > 0
  ·have:=hr h; grind
  ·have:=hr' (by grind); grind
 have f1:cr u r > 0->cr r w<=0:=fun a=>by
  by_cases h:cr r v > 0
  ·have:=hr h; grind
  ·exact hr' (by grind)
 have f2:cr r w > 0->cr u r<=0:=fun a=>by
  by_cases h:cr r v > 0
  ·exact hr h
  ·have:=hr' (by grind); grind
 rcases up_dn nu with hu | hu <;> rcases up_dn nw with hw | hw <;> rcases up_dn nr with hn | hn
 ·rcases o with ⟨a,b⟩ | ⟨a,b⟩ | ⟨a,b⟩
  ·exact two (aLt_uu hu hn a) (aLt_uu hn hw b)
  ·have:=aLt_uu hw hu a; grind
  ·have:=aLt_uu hw hu b; grind
 ·rcases o with ⟨a,b⟩ | ⟨a,b⟩ | ⟨a,b⟩
  ·exact aLt_du hn hw b
  ·have:=aLt_uu hw hu a; grind
  ·exact aLt_du hn hw a
 ·rcases o with ⟨a,b⟩ | ⟨a,b⟩ | ⟨a,b⟩
  ·have:=aLt_uu hu hn a
   exact b1 hu hw hn this (f1 this) c
  ·exact aLt_du hw hu a
  ·exact aLt_du hw hu b
 ·rcases o with ⟨a,b⟩ | ⟨a,b⟩ | ⟨a,b⟩
  ·have:=aLt_dd hn hw b
   exact b2 hu hw hn (f2 this) this c
  ·exact aLt_du hw hu a
  ·exact aLt_du hw hu b
 ·rcases o with ⟨a,b⟩ | ⟨a,b⟩ | ⟨a,b⟩
  ·exact aLt_du hu hn a
  ·exact aLt_du hu hn b
  ·have:=aLt_uu hn hw a
   exact b4 hu hw hn (f2 this) this c
 ·rcases o with ⟨a,b⟩ | ⟨a,b⟩ | ⟨a,b⟩
  ·exact aLt_du hn hw b
  ·have:=aLt_dd hu hn b
   exact b3 hu hw hn this (f1 this) c
  ·exact aLt_du hn hw a
 ·rcases o with ⟨a,b⟩ | ⟨a,b⟩ | ⟨a,b⟩
  ·exact aLt_du hu hn a
  ·exact aLt_du hu hn b
  ·have:=aLt_dd hw hu b; grind
 ·rcases o with ⟨a,b⟩ | ⟨a,b⟩ | ⟨a,b⟩
  ·exact two (aLt_dd hu hn a) (aLt_dd hn hw b)
  ·have:=aLt_dd hw hu a; grind
  ·have:=aLt_dd hw hu b; grind
def mir (u:V2):V2:=(u.1,-u.2)
theorem cr_mir (u v:V2):cr (mir u) (mir v)=-cr u v:=by unfold cr mir; grind
theorem near' (D:List V2) (v:V2) (h:∃r ∈ D,cr r v < 0):∃w ∈ D,cr w v < 0/\∀r ∈ D,cr r v < 0->cr r w<=0:=by
 obtain ⟨r,hr,hn⟩:=h
 obtain ⟨w,hw,h1,h2⟩:=near (D.map mir) (mir v) ⟨mir r,List.mem_map_of_mem hr,by rw [cr_mir]; grind⟩
 obtain ⟨w0,h0,rfl⟩:=List.mem_map.1 hw
 rw [cr_mir] at h1
 refine ⟨w0,h0,by grind,fun r hr hn=>?_⟩
 have:=h2 (mir r) (List.mem_map_of_mem hr) (by rw [cr_mir]; grind)
 rw [cr_mir] at this
 grind
section
variable {D:List V2} (h:Ray D) {v:V2} (hv:∀r ∈ D,cr r v≠0)
include h hv
/-- The nearest rays on both sides of v. -/
theorem sides (hD:D≠[]):∃u ∈ D,∃w ∈ D,cr u v > 0/\cr w v < 0/\cr u w ≥ 0 /\
  (∀r ∈ D,cr r v > 0->cr u r<=0/\cr r w ≥ 0)/\(∀r ∈ D,cr r v < 0->cr r w<=0/\cr u r ≥ 0):=by
 obtain ⟨d,hd⟩:=List.exists_mem_of_ne_nil D hD
 have pos:∃r ∈ D,cr r v > 0:=by
  by_cases hp:cr d v > 0
  ·exact ⟨d,hd,hp⟩
  ·obtain ⟨s,hs,ho⟩:=h.cl d hd
   obtain ⟨c,c0,e,_⟩:=opp_cr ho v
   have:=hv d hd
   exact ⟨s,hs,by rw [e]; have:=mp c0 (show -(cr d v) > 0 by grind); grind⟩
 obtain ⟨u,hu,u1,u2⟩:=near D v pos
 have neg:∃r ∈ D,cr r v < 0:=by
  obtain ⟨s,hs,ho⟩:=h.cl u hu
  obtain ⟨c,c0,e,_⟩:=opp_cr ho v
  exact ⟨s,hs,by rw [e]; have:=mp c0 u1; grind⟩
 obtain ⟨w,hw,w1,w2⟩:=near' D v neg
 have A:∀r ∈ D,cr r v > 0->cr r w ≥ 0:=fun r hr hp=>by
  obtain ⟨s,hs,ho⟩:=h.cl r hr
  obtain ⟨c,c0,e,_⟩:=opp_cr ho v
  obtain ⟨c',c0',e',_⟩:=opp_cr ho w
  have:=w2 s hs (by rw [e]; have:=mp c0 hp; grind)
  rw [e'] at this
  by_cases hh:cr r w ≥ 0
  ·exact hh
  ·have:=mp c0' (show -(cr r w) > 0 by grind); grind
 have B:∀r ∈ D,cr r v < 0->cr u r ≥ 0:=fun r hr hp=>by
  obtain ⟨s,hs,ho⟩:=h.cl r hr
  obtain ⟨c,c0,e,_⟩:=opp_cr ho v
  obtain ⟨c',c0',e',_⟩:=opp_cr ho u
  have:=u2 s hs (by rw [e]; have:=mp c0 (show -(cr r v) > 0 by grind); grind)
  rw [e'] at this
  have sw:=cr_swap r u
  by_cases hh:cr u r ≥ 0
  ·exact hh
  ·have:=mp c0' (show cr r u > 0 by grind); grind
 refine ⟨u,hu,w,hw,u1,w1,A u hu u1,fun r hr hp=>⟨?_,A r hr hp⟩,fun r hr hp=>⟨w2 r hr hp,B r hr hp⟩⟩
 have:=u2 r hr hp
 have sw:=cr_swap u r
 grind
omit hv in
/-- D in order, each once. -/
theorem lt_of {i j:Nat} {a b:V2} (hi:D[i]?=some a) (hj:D[j]?=some b) (hij:i < j):aLt a b:=by
 obtain ⟨h1,e1⟩:=List.getElem?_eq_some_iff.1 hi
 obtain ⟨h2,e2⟩:=List.getElem?_eq_some_iff.1 hj
 have:=List.pairwise_iff_getElem.1 h.asc i j h1 h2 hij
 rwa [e1,e2] at this
/-- Every vector that is parallel to no ray lies between two rays that follow each other. -/
theorem sect (hD:D≠[]):∃i u w,D[i]?=some u/\D[(i + 1) % D.length]?=some w/\cr u v > 0/\cr w v < 0/\cr u w ≥ 0 /\
  (∀r ∈ D,cr r v > 0->cr u r<=0/\cr r w ≥ 0)/\(∀r ∈ D,cr r v < 0->cr r w<=0/\cr u r ≥ 0):=by
 obtain ⟨u,hu,w,hw,u1,w1,uw,hp,hn⟩:=sides h hv hD
 obtain ⟨i,hi⟩:=List.getElem?_of_mem hu
 obtain ⟨j,hj⟩:=List.getElem?_of_mem hw
 have li:i < D.length:=(List.getElem?_eq_some_iff.1 hi).1
 have lj:j < D.length:=(List.getElem?_eq_some_iff.1 hj).1
 have ij:i≠j:=fun e=>by
  subst e; rw [hi] at hj; cases hj; grind
 refine ⟨i,u,w,hi,?_,u1,w1,uw,hp,hn⟩
 by_cases e:(i + 1) % D.length=j
 ·rw [e]; exact hj
 have lk:(i + 1) % D.length < D.length:=Nat.mod_lt _ (by omega)
 obtain ⟨r,hr⟩:∃r,D[(i + 1) % D.length]?=some r:=⟨_,List.getElem?_eq_getElem lk⟩
 have hm:r ∈ D:=List.mem_of_getElem? hr
 refine (btw (h.nz u hu) (h.nz w hw) (h.nz r hm) (v:=v) ?_ (hv r hm) (fun a=>(hp r hm a).1) (fun a=>(hn r hm a).1) uw).elim
 by_cases hl:i + 1 < D.length
 ·rw [Nat.mod_eq_of_lt hl] at hr e
  by_cases hlt:i < j
  ·exact .inl ⟨lt_of h hi hr (by omega),lt_of h hr hj (by omega)⟩
  ·exact .inr (.inl ⟨lt_of h hj hi (by omega),lt_of h hi hr (by omega)⟩)
 ·have:i + 1=D.length:=by omega
  rw [this,Nat.mod_self] at hr e
  exact .inr (.inr ⟨lt_of h hr hj (by omega),lt_of h hj hi (by omega)⟩)
end
theorem nz_of {r:V2} (h:nz r) {c:Rat} (h1:c * r.1=0) (h2:c * r.2=0):c=0:=by
 rcases Rat.mul_eq_zero.1 h1 with e | e
 ·exact e
 ·rcases Rat.mul_eq_zero.1 h2 with e' | e'
  ·exact e'
  ·unfold nz at h; grind
theorem sq_pos {u:V2} (h:nz u):dt u u > 0:=by
 have sq:∀x:Rat,x * x ≥ 0:=fun x=>by
  by_cases hx:x ≥ 0
  ·exact mn hx hx
  ·have:=mn (show -x ≥ 0 by grind) (show -x ≥ 0 by grind); grind
 have:=sq u.1
 have:=sq u.2
 unfold dt
 by_cases hh:u.1 * u.1 + u.2 * u.2 > 0
 ·exact hh
 ·unfold nz at h
  have e1:u.1 * u.1=0:=by grind
  have e2:u.2 * u.2=0:=by grind
  rcases Rat.mul_eq_zero.1 e1 with e | e <;> rcases Rat.mul_eq_zero.1 e2 with e' | e' <;> grind
/-- The sample between two rays that follow each other. -/
def IsSm (u w v':V2):Prop:=cr u w > 0/\(∃a b:Rat,a > 0/\b > 0/\v'=lin a u b w) \/ cr u w<=0/\∃a:Rat,a > 0/\v'=lin a (trn u) 0 w
section
variable {D:List V2} (h:Ray D)
include h
/-- a sample between the nearest rays has the same signs -/
theorem same_of {v u w v':V2} (hu:u ∈ D) (hw:w ∈ D) (u1:cr u v > 0) (w1:cr w v < 0) (uw:cr u w ≥ 0)
  (hp:∀r ∈ D,cr r v > 0->cr u r<=0/\cr r w ≥ 0) (hn:∀r ∈ D,cr r v < 0->cr r w<=0/\cr u r ≥ 0)
  (hs:IsSm u w v') {r:V2} (hr:r ∈ D):(cr r v > 0->cr r v' > 0)/\(cr r v < 0->cr r v' < 0):=by
 rcases hs with ⟨c,a,b,a0,b0,rfl⟩ | ⟨c,a,a0,rfl⟩
 ·have key:cr r u=0->cr r w=0->False:=fun e1 e2=>by
   have:=jac1 u w r
   have:=jac2 u w r
   have s:=cr_swap u r
   have:=nz_of (h.nz r hr) (c:=cr u w) (by grind) (by grind)
   grind
  have s:=cr_swap u r
  rw [cr_lin]
  constructor
  ·intro p
   obtain ⟨p1,p2⟩:=hp r hr p
   have m1:=mn (show a ≥ 0 by grind) (show cr r u ≥ 0 by grind)
   have m2:=mn (show b ≥ 0 by grind) p2
   by_cases z:cr r u=0
   ·have:=mp b0 (show cr r w > 0 by grind); grind
   ·have:=mp a0 (show cr r u > 0 by grind); grind
  ·intro p
   obtain ⟨p1,p2⟩:=hn r hr p
   have m1:=mn (show a ≥ 0 by grind) (show -(cr r u) ≥ 0 by grind)
   have m2:=mn (show b ≥ 0 by grind) (show -(cr r w) ≥ 0 by grind)
   by_cases z:cr r u=0
   ·have:=mp b0 (show -(cr r w) > 0 by grind); grind
   ·have:=mp a0 (show -(cr r u) > 0 by grind); grind
 ·have z:cr u w=0:=by grind
  rw [cr_lin,cr_trn]
  have nu:=sq_pos (h.nz u hu)
  by_cases z0:cr r v=0
  ·exact ⟨fun p=>by grind,fun p=>by grind⟩
  have pl:cr u r=0:=by
   have e1:=jac1 u w v
   have e2:=jac2 u w v
   have s1:=cr_swap v w
   have s2:=cr_swap u r
   have ew:cr u v * cr r w=cr w v * cr r u:=by
    have:cr u v * w.1=cr w v * u.1:=by grind
    have:cr u v * w.2=cr w v * u.2:=by grind
    unfold cr at *
    grind
   by_cases q:cr u r=0
   ·exact q
   ·by_cases p:cr r v > 0
    ·obtain ⟨p1,p2⟩:=hp r hr p
     have m1:=mn (show cr u v ≥ 0 by grind) p2
     have m2:=mp (show -(cr w v) > 0 by grind) (show cr r u > 0 by grind)
     grind
    ·obtain ⟨p1,p2⟩:=hn r hr (by grind)
     have m1:=mn (show cr u v ≥ 0 by grind) (show -(cr r w) ≥ 0 by grind)
     have m2:=mp (show -(cr w v) > 0 by grind) (show -(cr r u) > 0 by grind)
     grind
  have id:cr r v * dt u u=cr u v * dt r u:=by
   have:cr r v * dt u u - cr u v * dt r u=cr u r * (-(dt u v)):=by unfold cr dt; grind
   grind
  constructor
  ·intro p
   have m1:=mp p nu
   have:dt r u > 0:=by
    by_cases q:dt r u > 0
    ·exact q
    ·have:=mn (show cr u v ≥ 0 by grind) (show -(dt r u) ≥ 0 by grind); grind
   have:=mp a0 this
   grind
  ·intro p
   have m1:=mp (show -(cr r v) > 0 by grind) nu
   have:-(dt r u) > 0:=by
    by_cases q:-(dt r u) > 0
    ·exact q
    ·have:=mn (show cr u v ≥ 0 by grind) (show dt r u ≥ 0 by grind); grind
   have:=mp a0 this
   grind
end
/-! samples are parallel to no ray -/
theorem anti1 {u w s:V2} (nu:nz u) (nw:nz w) (ns:nz s) (o:aLt s u/\aLt u w \/ aLt u w/\aLt w s \/ aLt w s/\aLt s u)
  (a:cr u s > 0) (b:cr s w > 0) (c:cr u w > 0):False:=by
 have e2:=jac2 u w s
 have e1:=jac1 u w s
 have s1:=cr_swap u s
 have s2:=cr_swap s w
 rcases up_dn nu with hu | hu <;> rcases up_dn nw with hw | hw <;> rcases up_dn ns with hs | hs
 ·rcases o with ⟨p,q⟩ | ⟨p,q⟩ | ⟨p,q⟩
  ·have:=aLt_uu hs hu p; grind
  ·have:=aLt_uu hw hs q; grind
  ·have:=aLt_uu hw hs p; grind
 ·unfold up at hu hw
  unfold dn at hs
  have m1:=mn (show cr u s ≥ 0 by grind) (show w.2 ≥ 0 by grind)
  have m2:=mn (show cr s w ≥ 0 by grind) (show u.2 ≥ 0 by grind)
  have m3:=mn (show cr u w ≥ 0 by grind) (show -s.2 ≥ 0 by grind)
  have z1:cr u s * w.2=0:=by grind
  have z2:cr s w * u.2=0:=by grind
  have w2:w.2=0:=by rcases Rat.mul_eq_zero.1 z1 with h | h <;> grind
  have u2:u.2=0:=by rcases Rat.mul_eq_zero.1 z2 with h | h <;> grind
  unfold cr at c
  rw [w2,u2] at c
  grind
 ·rcases o with ⟨p,q⟩ | ⟨p,q⟩ | ⟨p,q⟩
  ·have:=aLt_uu hs hu p; grind
  ·exact aLt_du hw hs q
  ·exact aLt_du hw hs p
 ·rcases o with ⟨p,q⟩ | ⟨p,q⟩ | ⟨p,q⟩
  ·exact aLt_du hs hu p
  ·have:=aLt_dd hw hs q; grind
  ·exact aLt_du hs hu q
 ·rcases o with ⟨p,q⟩ | ⟨p,q⟩ | ⟨p,q⟩
  ·exact aLt_du hu hw q
  ·exact aLt_du hu hw p
  ·have:=aLt_uu hw hs p; grind
 ·rcases o with ⟨p,q⟩ | ⟨p,q⟩ | ⟨p,q⟩
  ·exact aLt_du hu hw q
  ·exact aLt_du hu hw p
  ·have:=aLt_dd hs hu q; grind
 ·unfold dn at hu hw
  unfold up at hs
  have m1:=mn (show cr u s ≥ 0 by grind) (show -w.2 ≥ 0 by grind)
  have m2:=mn (show cr s w ≥ 0 by grind) (show -u.2 ≥ 0 by grind)
  have m3:=mn (show cr u w ≥ 0 by grind) (show s.2 ≥ 0 by grind)
  have z1:cr u s * w.2=0:=by grind
  have z2:cr s w * u.2=0:=by grind
  have w2:w.2=0:=by rcases Rat.mul_eq_zero.1 z1 with h | h <;> grind
  have u2:u.2=0:=by rcases Rat.mul_eq_zero.1 z2 with h | h <;> grind
  unfold cr at c
  rw [w2,u2] at c
  grind
 ·rcases o with ⟨p,q⟩ | ⟨p,q⟩ | ⟨p,q⟩
  ·have:=aLt_dd hs hu p; grind
  ·have:=aLt_dd hw hs q; grind
  ·have:=aLt_dd hw hs p; grind
theorem anti2 {u w s:V2} (nu:nz u) (nw:nz w) (ns:nz s) (o:aLt s u/\aLt u w \/ aLt u w/\aLt w s \/ aLt w s/\aLt s u)
  (a:cr u s > 0) (c:cr u w<=0):False:=by
 have s1:=cr_swap u s
 rcases up_dn nu with hu | hu <;> rcases up_dn ns with hs | hs
 ·rcases o with ⟨p,q⟩ | ⟨p,q⟩ | ⟨p,q⟩
  ·have:=aLt_uu hs hu p; grind
  ·rcases up_dn nw with hw | hw
   ·have:=aLt_uu hu hw p; grind
   ·exact aLt_du hw hs q
  ·have:=aLt_uu hs hu q; grind
 ·rcases o with ⟨p,q⟩ | ⟨p,q⟩ | ⟨p,q⟩
  ·exact aLt_du hs hu p
  ·rcases up_dn nw with hw | hw
   ·have:=aLt_uu hu hw p; grind
   ·exact b2 hu hs hw c (aLt_dd hw hs q) (by grind)
  ·exact aLt_du hs hu q
 ·rcases o with ⟨p,q⟩ | ⟨p,q⟩ | ⟨p,q⟩
  ·rcases up_dn nw with hw | hw
   ·exact aLt_du hu hw q
   ·have:=aLt_dd hu hw q; grind
  ·rcases up_dn nw with hw | hw
   ·exact aLt_du hu hw p
   ·have:=aLt_dd hu hw p; grind
  ·rcases up_dn nw with hw | hw
   ·exact b4 hu hs hw c (aLt_uu hw hs p) (by grind)
   ·exact aLt_du hw hs p
 ·rcases o with ⟨p,q⟩ | ⟨p,q⟩ | ⟨p,q⟩
  ·have:=aLt_dd hs hu p; grind
  ·rcases up_dn nw with hw | hw
   ·exact aLt_du hu hw p
   ·have:=aLt_dd hu hw p; grind
  ·have:=aLt_dd hs hu q; grind
section
variable {D:List V2} (h:Ray D)
include h
theorem cyc {i k:Nat} {u w s:V2} (hi:D[i]?=some u) (hw:D[(i + 1) % D.length]?=some w) (hk:D[k]?=some s)
  (n1:k≠i) (n2:k≠(i + 1) % D.length):aLt s u/\aLt u w \/ aLt u w/\aLt w s \/ aLt w s/\aLt s u:=by
 have li:i < D.length:=(List.getElem?_eq_some_iff.1 hi).1
 have lk:k < D.length:=(List.getElem?_eq_some_iff.1 hk).1
 by_cases hl:i + 1 < D.length
 ·rw [Nat.mod_eq_of_lt hl] at hw n2
  by_cases hlt:k < i
  ·exact .inl ⟨lt_of h hk hi hlt,lt_of h hi hw (by omega)⟩
  ·exact .inr (.inl ⟨lt_of h hi hw (by omega),lt_of h hw hk (by omega)⟩)
 ·have:i + 1=D.length:=by omega
  rw [this,Nat.mod_self] at hw n2
  exact .inr (.inr ⟨lt_of h hw hk (by omega),lt_of h hk hi (by omega)⟩)
/-- A sample is parallel to no ray. -/
theorem sm_gen {i:Nat} {u w v':V2} (hi:D[i]?=some u) (hw:D[(i + 1) % D.length]?=some w) (hs:IsSm u w v') :
  ∀r ∈ D,cr r v'≠0:=by
 intro r hr z
 have hu:u ∈ D:=List.mem_of_getElem? hi
 have hwm:w ∈ D:=List.mem_of_getElem? hw
 have nu:=sq_pos (h.nz u hu)
 have nr:=sq_pos (h.nz r hr)
 rcases hs with ⟨c,a,b,a0,b0,rfl⟩ | ⟨c,a,a0,rfl⟩
 ·
  have key:∀s ∈ D,cr s (lin a u b w)=0->cr u s > 0->False:=fun s hs z p=>by
   have s1:=cr_swap u s
   rw [cr_lin,s1] at z
   have q:cr s w > 0:=by
    by_cases q:cr s w > 0
    ·exact q
    ·have:=mp a0 p
     have:=mn (show b ≥ 0 by grind) (show -(cr s w) ≥ 0 by grind)
     grind
   obtain ⟨k,hk⟩:=List.getElem?_of_mem hs
   refine anti1 (h.nz u hu) (h.nz w hwm) (h.nz s hs) (cyc h hi hw hk (fun e=>?_) (fun e=>?_)) p q c
   ·rw [e,hi] at hk; cases hk; unfold cr at p; grind
   ·rw [e,hw] at hk; cases hk; unfold cr at q; grind
  by_cases p:cr u r > 0
  ·exact key r hr z p
  ·obtain ⟨s,hs,ho⟩:=h.cl r hr
   obtain ⟨k,k0,e1,e2⟩:=opp_cr ho u
   obtain ⟨k',k0',e3,_⟩:=opp_cr ho (lin a u b w)
   by_cases q:cr u r=0
   ·have s1:=cr_swap u r
    rw [cr_lin,s1,q] at z
    have:b * cr r w=0:=by grind
    have rw0:cr r w=0:=by rcases Rat.mul_eq_zero.1 this with e | e <;> grind
    have j1:=jac1 u w r
    have j2:=jac2 u w r
    have:=nz_of (h.nz r hr) (c:=cr u w) (by grind) (by grind)
    grind
   ·refine key s hs (by rw [e3,z]; grind) ?_
    rw [e2]
    have:=mp k0 (show -(cr u r) > 0 by grind)
    grind
 ·have key:∀s ∈ D,cr u s > 0->False:=fun s hs p=>by
   obtain ⟨k,hk⟩:=List.getElem?_of_mem hs
   refine anti2 (h.nz u hu) (h.nz w hwm) (h.nz s hs) (cyc h hi hw hk (fun e=>?_) (fun e=>?_)) p c
   ·rw [e,hi] at hk; cases hk; unfold cr at p; grind
   ·rw [e,hw] at hk; cases hk; grind
  rw [cr_lin,cr_trn] at z
  have d0:dt r u=0:=by
   have:a * dt r u=0:=by grind
   rcases Rat.mul_eq_zero.1 this with e | e <;> grind
  have c0:cr u r≠0:=fun e=>by
   have:cr u r * cr u r + dt r u * dt r u=dt u u * dt r r:=by unfold cr dt; grind
   have:=mp nu nr
   grind
  by_cases p:cr u r > 0
  ·exact key r hr p
  ·obtain ⟨s,hs,ho⟩:=h.cl r hr
   obtain ⟨k,k0,e1,e2⟩:=opp_cr ho u
   refine key s hs ?_
   rw [e2]
   have:=mp k0 (show -(cr u r) > 0 by grind)
   grind
/-- The samples of all sectors: one for each sector, and they stand for all vectors that are parallel to no ray. -/
def Sms (D S:List V2):Prop:=(D=[]/\S=[(1,0)]) \/ D≠[]/\(∀x ∈ S,∃i u w,D[i]?=some u/\D[(i + 1) % D.length]?=some w/\IsSm u w x) /\
 ∀i u w,D[i]?=some u->D[(i + 1) % D.length]?=some w->∃x ∈ S,IsSm u w x
theorem sms_gen {S:List V2} (hS:Sms D S):∀x ∈ S,∀r ∈ D,cr r x≠0:=by
 rcases hS with ⟨rfl,rfl⟩ | ⟨_,h1,_⟩
 ·intro x _ r hr; cases hr
 ·intro x hx
  obtain ⟨i,u,w,a,b,c⟩:=h1 x hx
  exact sm_gen h a b c
theorem sms_all {S:List V2} (hS:Sms D S) {v:V2} (hv:∀r ∈ D,cr r v≠0) :
  ∃x ∈ S,∀r ∈ D,(cr r v > 0->cr r x > 0)/\(cr r v < 0->cr r x < 0):=by
 rcases hS with ⟨rfl,rfl⟩ | ⟨h0,_,h2⟩
 ·exact ⟨_,List.mem_singleton.2 rfl,fun r hr=>by cases hr⟩
 ·obtain ⟨i,u,w,hi,hw,u1,w1,uw,hp,hn⟩:=sect h hv h0
  obtain ⟨x,hx,hs⟩:=h2 i u w hi hw
  exact ⟨x,hx,fun r hr=>same_of h (List.mem_of_getElem? hi) (List.mem_of_getElem? hw) u1 w1 uw hp hn hs hr⟩
end
/-! a vector may be turned a little, so that it is parallel to none of some directions -/
theorem ab_le (x:Rat):∃y:Rat,y ≥ 0/\x<=y/\-x<=y:=by
 by_cases h:x ≥ 0
 ·exact ⟨x,h,by grind,by grind⟩
 ·exact ⟨-x,by grind,by grind,by grind⟩
theorem pert1 (v:V2) (hv:nz v) (r:V2) (hr:nz r):∃e:Rat,e > 0/\∀t:Rat,0 < t->t<=e ->
  (cr r v > 0->cr r (lin 1 v t (trn v)) > 0)/\(cr r v < 0->cr r (lin 1 v t (trn v)) < 0)/\cr r (lin 1 v t (trn v))≠0:=by
 have key:∀t:Rat,cr r (lin 1 v t (trn v))=cr r v + t * dt r v:=fun t=>by rw [cr_lin,cr_trn]; grind
 by_cases z:cr r v=0
 ·have d0:dt r v≠0:=fun e=>by
   have:cr r v * cr r v + dt r v * dt r v=dt r r * dt v v:=by unfold cr dt; grind
   have:=mp (sq_pos hr) (sq_pos hv)
   grind
  refine ⟨1,by grind,fun t t0 _=>?_⟩
  rw [key]
  refine ⟨fun h=>by grind,fun h=>by grind,fun h=>?_⟩
  have:t * dt r v=0:=by grind
  rcases Rat.mul_eq_zero.1 this with e | e <;> grind
 ·obtain ⟨y,y0,y1,y2⟩:=ab_le (dt r v)
  obtain ⟨x,x0,x1,x2⟩:∃x:Rat,x > 0/\(cr r v > 0->x=cr r v)/\(cr r v < 0->x=-(cr r v)):=by
   by_cases p:cr r v > 0
   ·exact ⟨cr r v,p,fun _=>rfl,fun h=>by grind⟩
   ·exact ⟨-(cr r v),by grind,fun h=>by grind,fun _=>rfl⟩
  have y3:y + 1 > 0:=by grind
  have inv:(y + 1)⁻¹ > 0:=Rat.inv_pos.2 y3
  refine ⟨x * (y + 1)⁻¹,mp x0 inv,fun t t0 te=>?_⟩
  have m1:t * (y + 1)<=x:=by
   have:=mn (show x * (y + 1)⁻¹ - t ≥ 0 by grind) (show y + 1 ≥ 0 by grind)
   have e:(y + 1)⁻¹ * (y + 1)=1:=Rat.inv_mul_cancel _ (by grind)
   have:x * (y + 1)⁻¹ * (y + 1)=x:=by rw [Rat.mul_assoc,e,Rat.mul_one]
   grind
  have m2:=mn (show t ≥ 0 by grind) (show y - dt r v ≥ 0 by grind)
  have m3:=mn (show t ≥ 0 by grind) (show y + dt r v ≥ 0 by grind)
  rw [key]
  refine ⟨fun h=>?_,fun h=>?_,fun h=>?_⟩
  ·have:=x1 h; grind
  ·have:=x2 h; grind
  ·by_cases p:cr r v > 0
   ·have:=x1 p; grind
   ·have:=x2 (by grind); grind
theorem pert (v:V2) (hv:nz v):∀R:List V2,(∀r ∈ R,nz r)->∃e:Rat,e > 0/\∀t:Rat,0 < t->t<=e->∀r ∈ R,
  (cr r v > 0->cr r (lin 1 v t (trn v)) > 0)/\(cr r v < 0->cr r (lin 1 v t (trn v)) < 0)/\cr r (lin 1 v t (trn v))≠0
 | [],_=>⟨1,by grind,fun t _ _ r hr=>by cases hr⟩
 | r :: R,h=>by
  obtain ⟨e,e0,he⟩:=pert v hv R fun r hr=>h r (List.mem_cons_of_mem _ hr)
  obtain ⟨f,f0,hf⟩:=pert1 v hv r (h r (List.mem_cons_self ..))
  obtain ⟨g,g0,g1,g2⟩:∃g:Rat,g > 0/\g<=e/\g<=f:=by
   by_cases q:e<=f
   ·exact ⟨e,e0,by grind,q⟩
   ·exact ⟨f,f0,by grind,by grind⟩
  refine ⟨g,g0,fun t t0 tg s hs=>?_⟩
  rcases List.mem_cons.1 hs with rfl | hs
  ·exact hf t t0 (by grind)
  ·exact he t t0 (by grind) s hs
/-- v turned a little -/
theorem turned (v:V2) (hv:nz v) (R:List V2) (h:∀r ∈ R,nz r):∃x:V2,∀r ∈ R,
  (cr r v > 0->cr r x > 0)/\(cr r v < 0->cr r x < 0)/\cr r x≠0:=by
 obtain ⟨e,e0,he⟩:=pert v hv R h
 exact ⟨_,he e e0 (by grind)⟩
end Go.Proofs.Tryz.Sec
/- A sentinel error that is seen. -/
namespace Go.Proofs.Tryz
open Go.Eng
/-- A sentinel error: what its variable holds. -/
def Sent (V:View) (g:Nat) (y:Value):Prop:=V.at ⟨g,0,none⟩ y
theorem Sent.le {V V':View} {g:Nat} {y:Value} (h:Sent V g y) (l:V.Le V'):Sent V' g y:=l.at h
/-- A value of a sentinel's kind. -/
def SErr (y:Value):Prop:=∃a:Addr,y=.iface 449 (.pointer (some a))
end Go.Proofs.Tryz
/- errors.Is at a sentinel: the same, or nil. -/
namespace Go.Proofs.Tryz
open Go.Eng
section
open Go.RowKit Go.Extern.Stop Go.Stop Go.Extern
end
end Go.Proofs.Tryz
