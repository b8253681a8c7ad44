import Derived.Test.YthpmdmkmfoaamaaGreatDoorF10
import Derived.Test.YthpmdmkmfoaamaaGreatDoorF14
import Derived.WalkKit
import Derived.LaidEql
import Derived.Stop.Asserts
import Derived.RowKitTokens
import Derived.Test.YthpmdmkmfoaamaaGreatDoorF5
import Derived.Test.YthpmdmkmfoaamaaGreatDoorF13
import Derived.Test.YthpmdmkmfoaamaaGreatDoorF7
set_option linter.unusedVariables false
open Go.IntKind (i64 u64 u32)
namespace Go.Proofs.Tryz
open Go.eM
section
variable {α:Type}
structure Ord (c:α->α->Int):Prop where
 H8:∀a b,c a b<0->¬c b a<0
 tr:∀a b d,¬c a b<0->¬c b d<0->¬c a d<0
variable {c:α->α->Int}
theorem Ord.le (h:Ord c){a b:α}(l:c a b<0):¬c b a<0:=h.H8 a b l
theorem Ord.refl (h:Ord c)(a:α):¬c a a<0:=fun l=>h.H8 a a l l
def iT (d:α)(l:List α)(i j:Nat):List α:=(l.set i (l.getD j d)).set j (l.getD i d)
variable {d:α}
theorem mY {l:List α}{i j:Nat}:(iT d l i j).length=l.length:=by simp [iT]
theorem pB {l:List α}{i k:Nat}{x:α}(hi:i<l.length):(l.set i x).getD k d=if k=i then x else l.getD k d:=by
 simp only [List.getD_eq_getElem?_getD,List.getElem?_set]
 by_cases h:k=i
 ·subst h;simp [hi]
 ·have:¬i=k:=fun e=>h e.symm
  simp [h,this]
theorem kY {l:List α}{i j k:Nat}(hi:i<l.length)(hj:j<l.length):(iT d l i j).getD k d=if k=j then l.getD i d else if k=i then l.getD j d else l.getD k d:=by
 unfold iT
 rw [pB (by simpa using hj),pB hi]
theorem HH {l:List α}{i j:Nat}(hi:i<l.length)(hj:j<l.length):(iT d l i j).Perm l:=by
 have h:=Array.swap_perm (xs:=l.toArray) (i:=i) (j:=j) (by simpa using hi) (by simpa using hj)
 have e:(l.toArray.swap i j (by simpa using hi) (by simpa using hj)).toList=iT d l i j:=by
  simp [Array.swap,iT,List.getD_eq_getElem?_getD,hi,hj]
 have:=h.toList
 rw [e] at this
 simpa using this
structure gP (d:α) (l m:List α) (a b:Nat):Prop where
 len:m.length=l.length
 out:∀k,¬(a<=k/\k<b)->m.getD k d=l.getD k d
 mem:∀k,a<=k->k<b->∃k',a<=k'/\k'<b/\m.getD k d=l.getD k' d
 perm:m.Perm l
theorem gP.refl (l:List α)(a b:Nat):gP d l l a b:=⟨rfl,fun _ _=>rfl,fun k h h'=>⟨k,h,h',rfl⟩,.refl _⟩
theorem gP.trans {l m n:List α}{a b:Nat}(h:gP d l m a b)(g:gP d m n a b):gP d l n a b:=
 ⟨g.len.trans h.len,fun k hk=>(g.out k hk).trans (h.out k hk),fun k h1 h2=>by
  obtain ⟨k',h3,h4,e⟩:=g.mem k h1 h2
  obtain ⟨k'',h5,h6,e'⟩:=h.mem k' h3 h4
  exact ⟨k'',h5,h6,e.trans e'⟩,g.perm.trans h.perm⟩
theorem gP.wide {l m:List α}{a b a' b':Nat}(h:gP d l m a b)(ha:a'<=a)(hb:b<=b'):gP d l m a' b':=
 ⟨h.len,fun k hk=>h.out k (by omega),fun k h1 h2=>by
  by_cases hk:a<=k/\k<b
  ·obtain ⟨k',h3,h4,e⟩:=h.mem k hk.1 hk.2
   exact ⟨k',by omega,by omega,e⟩
  ·exact ⟨k,h1,h2,h.out k hk⟩,h.perm⟩
theorem gP.iT {l:List α}{a b i j:Nat}(hi:a<=i)(hi':i<b)(hj:a<=j)(hj':j<b)(hb:b<=l.length):gP d l (iT d l i j) a b:=by
 refine ⟨mY,fun k hk=>?_,fun k h1 h2=>?_,HH (by omega) (by omega)⟩
 ·rw [kY (by omega) (by omega),if_neg (by omega),if_neg (by omega)]
 ·rw [kY (by omega) (by omega)]
  split
  ·exact ⟨i,hi,hi',rfl⟩
  ·split
   ·exact ⟨j,hj,hj',rfl⟩
   ·exact ⟨k,h1,h2,rfl⟩
def oS (c:α->α->Int)(d:α)(l:List α)(a b:Nat):Prop:=∀p q,a<=p->p<q->q<b->¬c (l.getD q d) (l.getD p d)<0
theorem oS.short {l:List α}{a b:Nat}(h:b<=a+1):oS c d l a b:=fun p q h1 h2 h3=>by omega
theorem oS.step (ho:Ord c){l:List α}{a b:Nat}(h:oS c d l a b)(h0:a<b)(hb:¬c (l.getD b d) (l.getD (b-1) d)<0):oS c d l a (b+1):=by
 intro p q h1 h2 h3
 by_cases e:q=b
 ·subst e
  by_cases e':p=q-1
  ·subst e';exact hb
  ·exact ho.tr _ _ _ hb (h p (q-1) h1 (by omega) (by omega))
 ·exact h p q h1 h2 (by omega)
def H0 (c:α->α->Int)(d:α)(l:List α)(a i j:Nat):Prop:=∀p q,a<=p->p<q->q<=i->q≠j->¬c (l.getD q d) (l.getD p d)<0
theorem H0.start {l:List α}{a i:Nat}(h:oS c d l a i):H0 c d l a i i:=fun p q h1 h2 h3 h4=>h p q h1 h2 (by omega)
theorem H0.done (ho:Ord c){l:List α}{a i j:Nat}(h:H0 c d l a i j)(hji:j<=i)(hs:j<=a\/¬c (l.getD j d) (l.getD (j-1) d)<0):oS c d l a (i+1):=by
 intro p q h1 h2 h3
 by_cases e:q=j
 ·subst e
  rcases hs with hs|hs
  ·omega
  ·by_cases e':p=q-1
   ·subst e';exact hs
   ·exact ho.tr _ _ _ hs (h p (q-1) h1 (by omega) (by omega) (by omega))
 ·exact h p q h1 h2 (by omega) e
theorem H0.move (ho:Ord c){l:List α}{a i j:Nat}(h:H0 c d l a i j)(hj:a<j)(hji:j<=i)(hi:i<l.length)(hl:c (l.getD j d) (l.getD (j-1) d)<0):H0 c d (iT d l j (j-1)) a i (j-1):=by
 intro p q h1 h2 h3 h4
 have ha:=fun k=>kY (d:=d) (l:=l) (i:=j) (j:=j-1) (k:=k) (by omega) (by omega)
 rw [ha,ha]
 by_cases eq:q=j
 ·subst eq
  rw [if_neg (by omega),if_pos rfl]
  by_cases ep:p=q-1
  ·rw [if_pos ep];exact ho.H8 _ _ hl
  ·rw [if_neg ep,if_neg (by omega)];exact h p (q-1) h1 (by omega) (by omega) (by omega)
 ·rw [if_neg h4,if_neg eq]
  by_cases ep:p=j-1
  ·rw [if_pos ep];exact h j q (by omega) (by omega) h3 eq
  ·rw [if_neg ep]
   by_cases Sy:p=j
   ·rw [if_pos Sy];exact h (j-1) q (by omega) (by omega) h3 eq
   ·rw [if_neg Sy];exact h p q h1 h2 h3 eq
def Hp (c:α->α->Int)(d:α)(l:List α)(f lo hi:Nat)(r:Option Nat):Prop:=
 (∀i k,lo<=i->(k=2*i+1\/k=2*i+2)->k<hi->r≠some i->¬c (l.getD (f+i) d) (l.getD (f+k) d)<0) /\
 (∀i j k,r=some j->lo<=i->(j=2*i+1\/j=2*i+2)->(k=2*j+1\/k=2*j+2)->k<hi->¬c (l.getD (f+i) d) (l.getD (f+k) d)<0)
theorem Hp.top (ho:Ord c){l:List α}{f hi:Nat}(h:Hp c d l f 0 hi none):∀k,k<hi->¬c (l.getD f d) (l.getD (f+k) d)<0:=by
 intro k
 induction k using Nat.strongRecOn with
 | ind k ih=>
  intro hk
  by_cases h0:k=0
  ·subst h0;exact ho.refl _
  ·exact ho.tr _ _ _ (ih ((k-1) / 2) (by omega) (by omega)) (h.1 ((k-1) / 2) k (by omega) (by omega) hk (by simp))
theorem Hp.leaf {l:List α}{f lo hi r:Nat}(h:Hp c d l f lo hi (some r))(hr:hi<=2*r+1):Hp c d l f lo hi none:=
 ⟨fun i k h1 h2 h3 _=>by
  by_cases e:r=i
  ·omega
  ·exact h.1 i k h1 h2 h3 (by simpa using e),fun i j k e=>by cases e⟩
theorem Hp.stop (ho:Ord c){l:List α}{f lo hi r k:Nat}(h:Hp c d l f lo hi (some r))(hk:k=2*r+1\/k=2*r+2)(hm:∀k',(k'=2*r+1\/k'=2*r+2)->k'<hi->¬c (l.getD (f+k) d) (l.getD (f+k') d)<0)
  (hs:¬c (l.getD (f+r) d) (l.getD (f+k) d)<0):Hp c d l f lo hi none:=
 ⟨fun i k' h1 h2 h3 _=>by
  by_cases e:r=i
  ·subst e;exact ho.tr _ _ _ hs (hm k' h2 h3)
  ·exact h.1 i k' h1 h2 h3 (by simpa using e),fun i j k e=>by cases e⟩
theorem Hp.down (ho:Ord c){l:List α}{f lo hi r k:Nat}(h:Hp c d l f lo hi (some r))(hlo:lo<=r)(hl:f+hi<=l.length)(hk:k=2*r+1\/k=2*r+2)(hkh:k<hi)(hm:∀k',(k'=2*r+1\/k'=2*r+2)->k'<hi->¬c (l.getD (f+k) d) (l.getD (f+k') d)<0)
  (hs:c (l.getD (f+r) d) (l.getD (f+k) d)<0):Hp c d (iT d l (f+r) (f+k)) f lo hi (some k):=by
 have ha:=fun x=>kY (d:=d) (l:=l) (i:=f+r) (j:=f+k) (k:=x) (by omega) (by omega)
 refine ⟨fun i k' h1 h2 h3 h4=>?_,fun i j k' e h1 h2 h3 h4=>?_⟩
 ·have h4:¬i=k:=fun e=>h4 (by rw [e])
  rw [ha,ha,if_neg (show ¬f+i=f+k by omega)]
  by_cases er:i=r
  ·subst er
   rw [if_pos rfl]
   by_cases ek:k'=k
   ·rw [if_pos (by omega)];exact ho.H8 _ _ hs
   ·rw [if_neg (by omega),if_neg (by omega)];exact hm k' h2 h3
  ·rw [if_neg (by omega)]
   by_cases ek:k'=r
   ·subst ek
    rw [if_neg (by omega),if_pos rfl]
    exact h.2 i k' k rfl h1 h2 hk hkh
   ·rw [if_neg (by omega),if_neg (by omega)]
    exact h.1 i k' h1 h2 h3 (by simp;omega)
 ·cases e
  rw [ha,ha]
  have:i=r:=by omega
  subst this
  rw [if_neg (by omega),if_pos rfl,if_neg (by omega),if_neg (by omega)]
  exact h.1 k k' (by omega) h3 h4 (by simp;omega)
theorem Hp.more {l:List α}{f lo hi:Nat}(h:Hp c d l f (lo+1) hi none):Hp c d l f lo hi (some lo):=
 ⟨fun i k h1 h2 h3 h4=>h.1 i k (by have:¬lo=i:=fun e=>h4 (by rw [e]);omega) h2 h3 (by simp),fun i j k e h1 h2 h3 h4=>by cases e;omega⟩
theorem Hp.pop {l:List α}{f hi:Nat}(h:Hp c d l f 0 (hi+1) none)(hl:f+hi<l.length):Hp c d (iT d l f (f+hi)) f 0 hi (some 0):=by
 have ha:=fun x=>kY (d:=d) (l:=l) (i:=f) (j:=f+hi) (k:=x) (by omega) (by omega)
 refine ⟨fun i k h1 h2 h3 h4=>?_,fun i j k e h1 h2 h3 h4=>by cases e;omega⟩
 have h4:¬i=0:=fun e=>h4 (by rw [e])
 rw [ha,ha,if_neg (by omega),if_neg (by omega),if_neg (by omega),if_neg (by omega)]
 exact h.1 i k h1 h2 (by omega) (by simp)
def Sep (c:α->α->Int)(d:α)(l:List α)(a m b:Nat):Prop:=∀p q,a<=p->p<m->m<=q->q<b->¬c (l.getD q d) (l.getD p d)<0
theorem gP.sep {l m:List α}{a b x y z:Nat}(h:gP d l m a b)(hs:Sep c d l x y z)(hc:(x<=a/\b<=y)\/(y<=a/\b<=z)\/b<=x\/z<=a):Sep c d m x y z:=by
 intro p q h1 h2 h3 h4
 have key:∀k,∃k',m.getD k d=l.getD k' d/\(k=k'\/a<=k/\k<b/\a<=k'/\k'<b):=fun k=>by
  by_cases hk:a<=k/\k<b
  ·obtain ⟨k',e1,e2,e⟩:=h.mem k hk.1 hk.2
   exact ⟨k',e,.inr ⟨hk.1,hk.2,e1,e2⟩⟩
  ·exact ⟨k,h.out k hk,.inl rfl⟩
 obtain ⟨p',e1,e2⟩:=key p
 obtain ⟨q',f1,f2⟩:=key q
 rw [e1,f1]
 exact hs p' q' (by omega) (by omega) (by omega) (by omega)
theorem gP.Al {l m:List α}{a b x y:Nat}(h:gP d l m a b)(hs:oS c d l x y)(hc:y<=a\/b<=x):oS c d m x y:=by
 intro p q h1 h2 h3
 rw [h.out p (by omega),h.out q (by omega)]
 exact hs p q h1 h2 h3
theorem oS.join {l:List α}{a m b:Nat}(h1:oS c d l a m)(h2:oS c d l m b)(h3:Sep c d l a m b):oS c d l a b:=by
 intro p q g1 g2 g3
 by_cases hq:q<m
 ·exact h1 p q g1 g2 hq
 ·by_cases hp:m<=p
  ·exact h2 p q hp g2 g3
  ·exact h3 p q g1 (by omega) (by omega) g3
end
end Go.Proofs.Tryz
namespace Go.Proofs.Tryz.aw
abbrev V2:=Rat×Rat
def cr (u v:V2):Rat:=u.1*v.2-u.2*v.1
def dt (u v:V2):Rat:=u.1*v.1+u.2*v.2
def Eb (u:V2):V2:=(-u.2,u.1)
def up (u:V2):Prop:=u.2>0\/u.2=0/\u.1>0
def dn (u:V2):Prop:=u.2<0\/u.2=0/\u.1<0
def nz (u:V2):Prop:=u.1≠0\/u.2≠0
def nP (u v:V2):Prop:=(up u/\dn v)\/((up u/\up v\/dn u/\dn v)/\cr u v>0)
def wH (a:Rat)(u:V2)(b:Rat)(w:V2):V2:=(a*u.1+b*w.1,a*u.2+b*w.2)
def O6 (s r:V2):Prop:=∃c:Rat,c>0/\s.1=-(c*r.1)/\s.2=-(c*r.2)
theorem js {u:V2}(h:nz u):up u\/dn u:=by unfold nz at h;unfold up dn;grind
theorem dU {u:V2}(h:up u)(h':dn u):False:=by unfold up at h;unfold dn at h';grind
theorem bV (u v:V2):cr v u=-cr u v:=by unfold cr;grind
theorem Gs (u w r:V2):cr u r*w.1+cr r w*u.1=cr u w*r.1:=by unfold cr;grind
theorem zd (u w r:V2):cr u r*w.2+cr r w*u.2=cr u w*r.2:=by unfold cr;grind
theorem qG (r:V2)(a:Rat)(u:V2)(b:Rat)(w:V2):cr r (wH a u b w)=a*cr r u+b*cr r w:=by unfold cr wH;grind
theorem CA (r u:V2):cr r (Eb u)=dt r u:=by unfold cr Eb dt;grind
theorem jG {s r:V2}(h:O6 s r)(z:V2):∃c:Rat,c>0/\cr s z=-(c*cr r z)/\cr z s=-(c*cr z r):=by
 obtain ⟨c,h0,h1,h2⟩:=h
 exact ⟨c,h0,by unfold cr;rw [h1,h2];grind,by unfold cr;rw [h1,h2];grind⟩
theorem mp {a b:Rat}(ha:a>0)(hb:b>0):a*b>0:=Rat.mul_pos ha hb
theorem mn {a b:Rat}(ha:a≥0)(hb:b≥0):a*b≥0:=Rat.mul_nonneg ha hb
theorem b1 {u w r:V2}(hu:up u)(hw:dn w)(hr:up r)(a:cr u r>0)(b:cr r w<=0)(c:cr u w≥0):False:=by
 have e:=zd u w r
 unfold up at hu hr;unfold dn at hw
 have h1:cr u r*(-w.2)≥0:=mn (by grind) (by grind)
 have h2:(-(cr r w))*u.2≥0:=mn (by grind) (by grind)
 have h3:cr u w*r.2≥0:=mn c (by grind)
 have z1:cr u r*w.2=0:=by grind
 have w2:w.2=0:=by rcases Rat.mul_eq_zero.1 z1 with h|h<;>grind
 have w1:w.1<0:=by grind
 have bb:cr r w=-(r.2*w.1):=by unfold cr;grind
 have r2:r.2=0:=by
  by_cases h:r.2>0
  ·have:=mp h (show -w.1>0 by grind)
   grind
  ·grind
 have r1:r.1>0:=by grind
 have aa:cr u r=-(u.2*r.1):=by unfold cr;grind
 have:=mn (show u.2≥0 by grind) (show r.1≥0 by grind)
 grind
theorem b2 {u w r:V2}(hu:up u)(hw:dn w)(hr:dn r)(a:cr u r<=0)(b:cr r w>0)(c:cr u w≥0):False:=by
 have e:=zd u w r
 unfold up at hu;unfold dn at hw hr
 have h1:(-(cr u r))*(-w.2)≥0:=mn (by grind) (by grind)
 have h2:cr r w*u.2≥0:=mn (by grind) (by grind)
 have h3:cr u w*(-r.2)≥0:=mn c (by grind)
 have z1:cr r w*u.2=0:=by grind
 have u2:u.2=0:=by rcases Rat.mul_eq_zero.1 z1 with h|h<;>grind
 have u1:u.1>0:=by grind
 have cc:cr u w=u.1*w.2:=by unfold cr;grind
 have w2:w.2=0:=by
  by_cases h:w.2<0
  ·have:=mp u1 (show -w.2>0 by grind)
   grind
  ·grind
 have w1:w.1<0:=by grind
 have bb:cr r w=-(r.2*w.1):=by unfold cr;grind
 have:=mn (show -r.2≥0 by grind) (show -w.1≥0 by grind)
 grind
theorem b3 {u w r:V2}(hu:dn u)(hw:up w)(hr:dn r)(a:cr u r>0)(b:cr r w<=0)(c:cr u w≥0):False:=by
 have e:=zd u w r
 unfold dn at hu hr;unfold up at hw
 have h1:cr u r*w.2≥0:=mn (by grind) (by grind)
 have h2:(-(cr r w))*(-u.2)≥0:=mn (by grind) (by grind)
 have h3:cr u w*(-r.2)≥0:=mn c (by grind)
 have z1:cr u r*w.2=0:=by grind
 have w2:w.2=0:=by rcases Rat.mul_eq_zero.1 z1 with h|h<;>grind
 have w1:w.1>0:=by grind
 have bb:cr r w=-(r.2*w.1):=by unfold cr;grind
 have r2:r.2=0:=by
  by_cases h:r.2<0
  ·have:=mp w1 (show -r.2>0 by grind)
   grind
  ·grind
 have r1:r.1<0:=by grind
 have aa:cr u r=-(u.2*r.1):=by unfold cr;grind
 have:=mn (show -u.2≥0 by grind) (show -r.1≥0 by grind)
 grind
theorem b4 {u w r:V2}(hu:dn u)(hw:up w)(hr:up r)(a:cr u r<=0)(b:cr r w>0)(c:cr u w≥0):False:=by
 have e:=zd u w r
 unfold dn at hu;unfold up at hw hr
 have h1:(-(cr u r))*w.2≥0:=mn (by grind) (by grind)
 have h2:cr r w*(-u.2)≥0:=mn (by grind) (by grind)
 have h3:cr u w*r.2≥0:=mn c (by grind)
 have z1:cr r w*u.2=0:=by grind
 have u2:u.2=0:=by rcases Rat.mul_eq_zero.1 z1 with h|h<;>grind
 have u1:u.1<0:=by grind
 have cc:cr u w=u.1*w.2:=by unfold cr;grind
 have w2:w.2=0:=by
  by_cases h:w.2>0
  ·have:=mp h (show -u.1>0 by grind)
   grind
  ·grind
 have w1:w.1>0:=by grind
 have bb:cr r w=-(r.2*w.1):=by unfold cr;grind
 have:=mn (show r.2≥0 by grind) (show w.1≥0 by grind)
 grind
theorem I6 {u s r v:V2}(hr:cr r v>0)(hu:cr u v>0)(hs:cr s v>0)(h1:cr r u≥0)(h2:cr u s≥0):cr r s≥0:=by
 have e:cr r s*cr u v=cr r u*cr s v+cr u s*cr r v:=by unfold cr;grind
 have a1:=mn h1 (show cr s v≥0 by grind)
 have a2:=mn h2 (show cr r v≥0 by grind)
 by_cases h:cr r s≥0
 ·exact h
 ·have:=mp (show -(cr r s)>0 by grind) hu
  grind
theorem KU:∀(D:List V2)(v:V2),(∃r∈D,cr r v>0)->∃u∈D,cr u v>0/\∀r∈D,cr r v>0->cr r u≥0
 | [],v,⟨r,h,_⟩=>by cases h
 | d::D,v,h=>by
  by_cases hD:∃r∈D,cr r v>0
  ·obtain ⟨u,hu,h1,h2⟩:=KU D v hD
   by_cases hd:cr d v>0
   ·by_cases hc:cr d u≥0
    ·refine ⟨u,List.mem_cons_of_mem _ hu,h1,fun r hr hp=>?_⟩
     rcases List.mem_cons.1 hr with rfl|hr
     ·exact hc
     ·exact h2 r hr hp
    ·refine ⟨d,List.mem_cons_self ..,hd,fun r hr hp=>?_⟩
     rcases List.mem_cons.1 hr with rfl|hr
     ·unfold cr;grind
     ·have:=bV d u
      exact I6 hp h1 hd (h2 r hr hp) (by grind)
   ·refine ⟨u,List.mem_cons_of_mem _ hu,h1,fun r hr hp=>?_⟩
    rcases List.mem_cons.1 hr with rfl|hr
    ·exact absurd hp hd
    ·exact h2 r hr hp
  ·obtain ⟨r,hr,hp⟩:=h
   rcases List.mem_cons.1 hr with rfl|hr
   ·refine ⟨r,List.mem_cons_self ..,hp,fun s hs hps=>?_⟩
    rcases List.mem_cons.1 hs with rfl|hs
    ·unfold cr;grind
    ·exact absurd ⟨s,hs,hps⟩ hD
   ·exact absurd ⟨r,hr,hp⟩ hD
structure Aj (D:List V2):Prop where
 nz:∀r∈D,nz r
 cl:∀r∈D,∃s∈D,O6 s r
 Al:D.Pairwise nP
def ss (a b:Rat):Prop:=(b>0->a>0)/\(b<0->a<0)
theorem dk {u v:V2}(hu:up u)(hv:up v):nP u v->cr u v>0:=by
 rintro (⟨_,h⟩|⟨_,h⟩)
 ·exact (dU hv h).elim
 ·exact h
theorem df {u v:V2}(hu:dn u)(hv:dn v):nP u v->cr u v>0:=by
 rintro (⟨h,_⟩|⟨_,h⟩)
 ·exact (dU h hu).elim
 ·exact h
theorem bG {u v:V2}(hu:dn u)(hv:up v):¬nP u v:=by
 rintro (⟨h,_⟩|⟨⟨h,_⟩|⟨_,h⟩,_⟩)
 ·exact dU h hu
 ·exact dU h hu
 ·exact dU hv h
theorem Ug {u w r v:V2}(nu:nz u)(nw:nz w)(nr:nz r)
  (o:nP u r/\nP r w\/nP w u/\nP u r\/nP r w/\nP w u)
  (h0:cr r v≠0)(hr:cr r v>0->cr u r<=0)(hr':cr r v<0->cr r w<=0)(c:cr u w≥0):False:=by
 have sw:=bV u w
 have two:cr u r>0->cr r w>0->False:=fun a b=>by
  by_cases h:cr r v>0
  ·have:=hr h;grind
  ·have:=hr' (by grind);grind
 have f1:cr u r>0->cr r w<=0:=fun a=>by
  by_cases h:cr r v>0
  ·have:=hr h;grind
  ·exact hr' (by grind)
 have f2:cr r w>0->cr u r<=0:=fun a=>by
  by_cases h:cr r v>0
  ·exact hr h
  ·have:=hr' (by grind);grind
 rcases js nu with hu|hu<;>rcases js nw with hw|hw<;>rcases js nr with hn|hn
 ·rcases o with ⟨a,b⟩|⟨a,b⟩|⟨a,b⟩
  ·exact two (dk hu hn a) (dk hn hw b)
  ·have:=dk hw hu a;grind
  ·have:=dk hw hu b;grind
 ·rcases o with ⟨a,b⟩|⟨a,b⟩|⟨a,b⟩
  ·exact bG hn hw b
  ·have:=dk hw hu a;grind
  ·exact bG hn hw a
 ·rcases o with ⟨a,b⟩|⟨a,b⟩|⟨a,b⟩
  ·have:=dk hu hn a
   exact b1 hu hw hn this (f1 this) c
  ·exact bG hw hu a
  ·exact bG hw hu b
 ·rcases o with ⟨a,b⟩|⟨a,b⟩|⟨a,b⟩
  ·have:=df hn hw b
   exact b2 hu hw hn (f2 this) this c
  ·exact bG hw hu a
  ·exact bG hw hu b
 ·rcases o with ⟨a,b⟩|⟨a,b⟩|⟨a,b⟩
  ·exact bG hu hn a
  ·exact bG hu hn b
  ·have:=dk hn hw a
   exact b4 hu hw hn (f2 this) this c
 ·rcases o with ⟨a,b⟩|⟨a,b⟩|⟨a,b⟩
  ·exact bG hn hw b
  ·have:=df hu hn b
   exact b3 hu hw hn this (f1 this) c
  ·exact bG hn hw a
 ·rcases o with ⟨a,b⟩|⟨a,b⟩|⟨a,b⟩
  ·exact bG hu hn a
  ·exact bG hu hn b
  ·have:=df hw hu b;grind
 ·rcases o with ⟨a,b⟩|⟨a,b⟩|⟨a,b⟩
  ·exact two (df hu hn a) (df hn hw b)
  ·have:=df hw hu a;grind
  ·have:=df hw hu b;grind
def KT (u:V2):V2:=(u.1,-u.2)
theorem yX (u v:V2):cr (KT u) (KT v)=-cr u v:=by unfold cr KT;grind
theorem NT (D:List V2)(v:V2)(h:∃r∈D,cr r v<0):∃w∈D,cr w v<0/\∀r∈D,cr r v<0->cr r w<=0:=by
 obtain ⟨r,hr,hn⟩:=h
 obtain ⟨w,hw,h1,h2⟩:=KU (D.map KT) (KT v) ⟨KT r,List.mem_map_of_mem hr,by rw [yX];grind⟩
 obtain ⟨w0,h0,rfl⟩:=List.mem_map.1 hw
 rw [yX] at h1
 refine ⟨w0,h0,by grind,fun r hr hn=>?_⟩
 have:=h2 (KT r) (List.mem_map_of_mem hr) (by rw [yX];grind)
 rw [yX] at this
 grind
section
variable {D:List V2} (h:Aj D) {v:V2} (hv:∀r ∈ D,cr r v≠0)
include h hv
theorem Oj (hD:D≠[]):∃u∈D,∃w∈D,cr u v>0/\cr w v<0/\cr u w≥0 /\
  (∀r∈D,cr r v>0->cr u r<=0/\cr r w≥0)/\(∀r∈D,cr r v<0->cr r w<=0/\cr u r≥0):=by
 obtain ⟨d,hd⟩:=List.exists_mem_of_ne_nil D hD
 have pos:∃r∈D,cr r v>0:=by
  by_cases hp:cr d v>0
  ·exact ⟨d,hd,hp⟩
  ·obtain ⟨s,hs,ho⟩:=h.cl d hd
   obtain ⟨c,c0,e,_⟩:=jG ho v
   have:=hv d hd
   exact ⟨s,hs,by rw [e];have:=mp c0 (show -(cr d v)>0 by grind);grind⟩
 obtain ⟨u,hu,u1,u2⟩:=KU D v pos
 have neg:∃r∈D,cr r v<0:=by
  obtain ⟨s,hs,ho⟩:=h.cl u hu
  obtain ⟨c,c0,e,_⟩:=jG ho v
  exact ⟨s,hs,by rw [e];have:=mp c0 u1;grind⟩
 obtain ⟨w,hw,w1,w2⟩:=NT D v neg
 have A:∀r∈D,cr r v>0->cr r w≥0:=fun r hr hp=>by
  obtain ⟨s,hs,ho⟩:=h.cl r hr
  obtain ⟨c,c0,e,_⟩:=jG ho v
  obtain ⟨c',c0',e',_⟩:=jG ho w
  have:=w2 s hs (by rw [e];have:=mp c0 hp;grind)
  rw [e'] at this
  by_cases hh:cr r w≥0
  ·exact hh
  ·have:=mp c0' (show -(cr r w)>0 by grind);grind
 have B:∀r∈D,cr r v<0->cr u r≥0:=fun r hr hp=>by
  obtain ⟨s,hs,ho⟩:=h.cl r hr
  obtain ⟨c,c0,e,_⟩:=jG ho v
  obtain ⟨c',c0',e',_⟩:=jG ho u
  have:=u2 s hs (by rw [e];have:=mp c0 (show -(cr r v)>0 by grind);grind)
  rw [e'] at this
  have sw:=bV r u
  by_cases hh:cr u r≥0
  ·exact hh
  ·have:=mp c0' (show cr r u>0 by grind);grind
 refine ⟨u,hu,w,hw,u1,w1,A u hu u1,fun r hr hp=>⟨?_,A r hr hp⟩,fun r hr hp=>⟨w2 r hr hp,B r hr hp⟩⟩
 have:=u2 r hr hp
 have sw:=bV u r
 grind
omit hv in
theorem jj {i j:Nat}{a b:V2}(hi:D[i]?=some a)(hj:D[j]?=some b)(wG:i<j):nP a b:=by
 obtain ⟨h1,e1⟩:=List.getElem?_eq_some_iff.1 hi
 obtain ⟨h2,e2⟩:=List.getElem?_eq_some_iff.1 hj
 have:=List.pairwise_iff_getElem.1 h.Al i j h1 h2 wG
 rwa [e1,e2] at this
theorem Rl (hD:D≠[]):∃i u w,D[i]?=some u/\D[(i+1)%D.length]?=some w/\cr u v>0/\cr w v<0/\cr u w≥0 /\
  (∀r∈D,cr r v>0->cr u r<=0/\cr r w≥0)/\(∀r∈D,cr r v<0->cr r w<=0/\cr u r≥0):=by
 obtain ⟨u,hu,w,hw,u1,w1,uw,hp,hn⟩:=Oj h hv hD
 obtain ⟨i,hi⟩:=List.getElem?_of_mem hu
 obtain ⟨j,hj⟩:=List.getElem?_of_mem hw
 have li:i<D.length:=(List.getElem?_eq_some_iff.1 hi).1
 have lj:j<D.length:=(List.getElem?_eq_some_iff.1 hj).1
 have ij:i≠j:=fun e=>by
  subst e;rw [hi] at hj;cases hj;grind
 refine ⟨i,u,w,hi,?_,u1,w1,uw,hp,hn⟩
 by_cases e:(i+1)%D.length=j
 ·rw [e];exact hj
 have lk:(i+1)%D.length<D.length:=Nat.mod_lt _ (by omega)
 obtain ⟨r,hr⟩:∃r,D[(i+1)%D.length]?=some r:=⟨_,List.getElem?_eq_getElem lk⟩
 have hm:r∈D:=List.mem_of_getElem? hr
 refine (Ug (h.nz u hu) (h.nz w hw) (h.nz r hm) (v:=v) ?_ (hv r hm) (fun a=>(hp r hm a).1) (fun a=>(hn r hm a).1) uw).elim
 by_cases hl:i+1<D.length
 ·rw [Nat.mod_eq_of_lt hl] at hr e
  by_cases hlt:i<j
  ·exact .inl ⟨jj h hi hr (by omega),jj h hr hj (by omega)⟩
  ·exact .inr (.inl ⟨jj h hj hi (by omega),jj h hi hr (by omega)⟩)
 ·have:i+1=D.length:=by omega
  rw [this,Nat.mod_self] at hr e
  exact .inr (.inr ⟨jj h hr hj (by omega),jj h hj hi (by omega)⟩)
end
theorem J4 {r:V2}(h:nz r){c:Rat}(h1:c*r.1=0)(h2:c*r.2=0):c=0:=by
 rcases Rat.mul_eq_zero.1 h1 with e|e
 ·exact e
 ·rcases Rat.mul_eq_zero.1 h2 with e'|e'
  ·exact e'
  ·unfold nz at h;grind
theorem sq_pos {u:V2}(h:nz u):dt u u>0:=by
 have sq:∀x:Rat,x*x≥0:=fun x=>by
  by_cases hx:x≥0
  ·exact mn hx hx
  ·have:=mn (show -x≥0 by grind) (show -x≥0 by grind);grind
 have:=sq u.1
 have:=sq u.2
 unfold dt
 by_cases hh:u.1*u.1+u.2*u.2>0
 ·exact hh
 ·unfold nz at h
  have e1:u.1*u.1=0:=by grind
  have e2:u.2*u.2=0:=by grind
  rcases Rat.mul_eq_zero.1 e1 with e|e<;>rcases Rat.mul_eq_zero.1 e2 with e'|e'<;>grind
def qj (u w v':V2):Prop:=cr u w>0/\(∃a b:Rat,a>0/\b>0/\v'=wH a u b w)\/cr u w<=0/\∃a:Rat,a>0/\v'=wH a (Eb u) 0 w
section
variable {D:List V2} (h:Aj D)
include h
theorem Jo {v u w v':V2}(hu:u∈D)(hw:w∈D)(u1:cr u v>0)(w1:cr w v<0)(uw:cr u w≥0)
  (hp:∀r∈D,cr r v>0->cr u r<=0/\cr r w≥0)(hn:∀r∈D,cr r v<0->cr r w<=0/\cr u r≥0)
  (hs:qj u w v'){r:V2}(hr:r∈D):(cr r v>0->cr r v'>0)/\(cr r v<0->cr r v'<0):=by
 rcases hs with ⟨c,a,b,a0,b0,rfl⟩|⟨c,a,a0,rfl⟩
 ·have key:cr r u=0->cr r w=0->False:=fun e1 e2=>by
   have:=Gs u w r
   have:=zd u w r
   have s:=bV u r
   have:=J4 (h.nz r hr) (c:=cr u w) (by grind) (by grind)
   grind
  have s:=bV u r
  rw [qG]
  constructor
  ·intro p
   obtain ⟨p1,p2⟩:=hp r hr p
   have m1:=mn (show a≥0 by grind) (show cr r u≥0 by grind)
   have m2:=mn (show b≥0 by grind) p2
   by_cases z:cr r u=0
   ·have:=mp b0 (show cr r w>0 by grind);grind
   ·have:=mp a0 (show cr r u>0 by grind);grind
  ·intro p
   obtain ⟨p1,p2⟩:=hn r hr p
   have m1:=mn (show a≥0 by grind) (show -(cr r u)≥0 by grind)
   have m2:=mn (show b≥0 by grind) (show -(cr r w)≥0 by grind)
   by_cases z:cr r u=0
   ·have:=mp b0 (show -(cr r w)>0 by grind);grind
   ·have:=mp a0 (show -(cr r u)>0 by grind);grind
 ·have z:cr u w=0:=by grind
  rw [qG,CA]
  have nu:=sq_pos (h.nz u hu)
  by_cases z0:cr r v=0
  ·exact ⟨fun p=>by grind,fun p=>by grind⟩
  have pl:cr u r=0:=by
   have e1:=Gs u w v
   have e2:=zd u w v
   have s1:=bV v w
   have s2:=bV u r
   have ew:cr u v*cr r w=cr w v*cr r u:=by
    have:cr u v*w.1=cr w v*u.1:=by grind
    have:cr u v*w.2=cr w v*u.2:=by grind
    unfold cr at *
    grind
   by_cases q:cr u r=0
   ·exact q
   ·by_cases p:cr r v>0
    ·obtain ⟨p1,p2⟩:=hp r hr p
     have m1:=mn (show cr u v≥0 by grind) p2
     have m2:=mp (show -(cr w v)>0 by grind) (show cr r u>0 by grind)
     grind
    ·obtain ⟨p1,p2⟩:=hn r hr (by grind)
     have m1:=mn (show cr u v≥0 by grind) (show -(cr r w)≥0 by grind)
     have m2:=mp (show -(cr w v)>0 by grind) (show -(cr r u)>0 by grind)
     grind
  have id:cr r v*dt u u=cr u v*dt r u:=by
   have:cr r v*dt u u-cr u v*dt r u=cr u r*(-(dt u v)):=by unfold cr dt;grind
   grind
  constructor
  ·intro p
   have m1:=mp p nu
   have:dt r u>0:=by
    by_cases q:dt r u>0
    ·exact q
    ·have:=mn (show cr u v≥0 by grind) (show -(dt r u)≥0 by grind);grind
   have:=mp a0 this
   grind
  ·intro p
   have m1:=mp (show -(cr r v)>0 by grind) nu
   have:-(dt r u)>0:=by
    by_cases q:-(dt r u)>0
    ·exact q
    ·have:=mn (show cr u v≥0 by grind) (show dt r u≥0 by grind);grind
   have:=mp a0 this
   grind
end
theorem Mg {u w s:V2}(nu:nz u)(nw:nz w)(ns:nz s)(o:nP s u/\nP u w\/nP u w/\nP w s\/nP w s/\nP s u)
  (a:cr u s>0)(b:cr s w>0)(c:cr u w>0):False:=by
 have e2:=zd u w s
 have e1:=Gs u w s
 have s1:=bV u s
 have s2:=bV s w
 rcases js nu with hu|hu<;>rcases js nw with hw|hw<;>rcases js ns with hs|hs
 ·rcases o with ⟨p,q⟩|⟨p,q⟩|⟨p,q⟩
  ·have:=dk hs hu p;grind
  ·have:=dk hw hs q;grind
  ·have:=dk hw hs p;grind
 ·unfold up at hu hw
  unfold dn at hs
  have m1:=mn (show cr u s≥0 by grind) (show w.2≥0 by grind)
  have m2:=mn (show cr s w≥0 by grind) (show u.2≥0 by grind)
  have m3:=mn (show cr u w≥0 by grind) (show -s.2≥0 by grind)
  have z1:cr u s*w.2=0:=by grind
  have z2:cr s w*u.2=0:=by grind
  have w2:w.2=0:=by rcases Rat.mul_eq_zero.1 z1 with h|h<;>grind
  have u2:u.2=0:=by rcases Rat.mul_eq_zero.1 z2 with h|h<;>grind
  unfold cr at c
  rw [w2,u2] at c
  grind
 ·rcases o with ⟨p,q⟩|⟨p,q⟩|⟨p,q⟩
  ·have:=dk hs hu p;grind
  ·exact bG hw hs q
  ·exact bG hw hs p
 ·rcases o with ⟨p,q⟩|⟨p,q⟩|⟨p,q⟩
  ·exact bG hs hu p
  ·have:=df hw hs q;grind
  ·exact bG hs hu q
 ·rcases o with ⟨p,q⟩|⟨p,q⟩|⟨p,q⟩
  ·exact bG hu hw q
  ·exact bG hu hw p
  ·have:=dk hw hs p;grind
 ·rcases o with ⟨p,q⟩|⟨p,q⟩|⟨p,q⟩
  ·exact bG hu hw q
  ·exact bG hu hw p
  ·have:=df hs hu q;grind
 ·unfold dn at hu hw
  unfold up at hs
  have m1:=mn (show cr u s≥0 by grind) (show -w.2≥0 by grind)
  have m2:=mn (show cr s w≥0 by grind) (show -u.2≥0 by grind)
  have m3:=mn (show cr u w≥0 by grind) (show s.2≥0 by grind)
  have z1:cr u s*w.2=0:=by grind
  have z2:cr s w*u.2=0:=by grind
  have w2:w.2=0:=by rcases Rat.mul_eq_zero.1 z1 with h|h<;>grind
  have u2:u.2=0:=by rcases Rat.mul_eq_zero.1 z2 with h|h<;>grind
  unfold cr at c
  rw [w2,u2] at c
  grind
 ·rcases o with ⟨p,q⟩|⟨p,q⟩|⟨p,q⟩
  ·have:=df hs hu p;grind
  ·have:=df hw hs q;grind
  ·have:=df hw hs p;grind
theorem JF {u w s:V2}(nu:nz u)(nw:nz w)(ns:nz s)(o:nP s u/\nP u w\/nP u w/\nP w s\/nP w s/\nP s u)
  (a:cr u s>0)(c:cr u w<=0):False:=by
 have s1:=bV u s
 rcases js nu with hu|hu<;>rcases js ns with hs|hs
 ·rcases o with ⟨p,q⟩|⟨p,q⟩|⟨p,q⟩
  ·have:=dk hs hu p;grind
  ·rcases js nw with hw|hw
   ·have:=dk hu hw p;grind
   ·exact bG hw hs q
  ·have:=dk hs hu q;grind
 ·rcases o with ⟨p,q⟩|⟨p,q⟩|⟨p,q⟩
  ·exact bG hs hu p
  ·rcases js nw with hw|hw
   ·have:=dk hu hw p;grind
   ·exact b2 hu hs hw c (df hw hs q) (by grind)
  ·exact bG hs hu q
 ·rcases o with ⟨p,q⟩|⟨p,q⟩|⟨p,q⟩
  ·rcases js nw with hw|hw
   ·exact bG hu hw q
   ·have:=df hu hw q;grind
  ·rcases js nw with hw|hw
   ·exact bG hu hw p
   ·have:=df hu hw p;grind
  ·rcases js nw with hw|hw
   ·exact b4 hu hs hw c (dk hw hs p) (by grind)
   ·exact bG hw hs p
 ·rcases o with ⟨p,q⟩|⟨p,q⟩|⟨p,q⟩
  ·have:=df hs hu p;grind
  ·rcases js nw with hw|hw
   ·exact bG hu hw p
   ·have:=df hu hw p;grind
  ·have:=df hs hu q;grind
section
variable {D:List V2} (h:Aj D)
include h
theorem PM {i k:Nat}{u w s:V2}(hi:D[i]?=some u)(hw:D[(i+1)%D.length]?=some w)(hk:D[k]?=some s)
  (n1:k≠i)(n2:k≠(i+1)%D.length):nP s u/\nP u w\/nP u w/\nP w s\/nP w s/\nP s u:=by
 have li:i<D.length:=(List.getElem?_eq_some_iff.1 hi).1
 have lk:k<D.length:=(List.getElem?_eq_some_iff.1 hk).1
 by_cases hl:i+1<D.length
 ·rw [Nat.mod_eq_of_lt hl] at hw n2
  by_cases hlt:k<i
  ·exact .inl ⟨jj h hk hi hlt,jj h hi hw (by omega)⟩
  ·exact .inr (.inl ⟨jj h hi hw (by omega),jj h hw hk (by omega)⟩)
 ·have:i+1=D.length:=by omega
  rw [this,Nat.mod_self] at hw n2
  exact .inr (.inr ⟨jj h hw hk (by omega),jj h hk hi (by omega)⟩)
theorem La {i:Nat}{u w v':V2}(hi:D[i]?=some u)(hw:D[(i+1)%D.length]?=some w)(hs:qj u w v') :
  ∀r∈D,cr r v'≠0:=by
 intro r hr z
 have hu:u∈D:=List.mem_of_getElem? hi
 have M6:w∈D:=List.mem_of_getElem? hw
 have nu:=sq_pos (h.nz u hu)
 have nr:=sq_pos (h.nz r hr)
 rcases hs with ⟨c,a,b,a0,b0,rfl⟩|⟨c,a,a0,rfl⟩
 ·
  have key:∀s∈D,cr s (wH a u b w)=0->cr u s>0->False:=fun s hs z p=>by
   have s1:=bV u s
   rw [qG,s1] at z
   have q:cr s w>0:=by
    by_cases q:cr s w>0
    ·exact q
    ·have:=mp a0 p
     have:=mn (show b≥0 by grind) (show -(cr s w)≥0 by grind)
     grind
   obtain ⟨k,hk⟩:=List.getElem?_of_mem hs
   refine Mg (h.nz u hu) (h.nz w M6) (h.nz s hs) (PM h hi hw hk (fun e=>?_) (fun e=>?_)) p q c
   ·rw [e,hi] at hk;cases hk;unfold cr at p;grind
   ·rw [e,hw] at hk;cases hk;unfold cr at q;grind
  by_cases p:cr u r>0
  ·exact key r hr z p
  ·obtain ⟨s,hs,ho⟩:=h.cl r hr
   obtain ⟨k,k0,e1,e2⟩:=jG ho u
   obtain ⟨k',WJ,e3,_⟩:=jG ho (wH a u b w)
   by_cases q:cr u r=0
   ·have s1:=bV u r
    rw [qG,s1,q] at z
    have:b*cr r w=0:=by grind
    have WY:cr r w=0:=by rcases Rat.mul_eq_zero.1 this with e|e<;>grind
    have j1:=Gs u w r
    have j2:=zd u w r
    have:=J4 (h.nz r hr) (c:=cr u w) (by grind) (by grind)
    grind
   ·refine key s hs (by rw [e3,z];grind) ?_
    rw [e2]
    have:=mp k0 (show -(cr u r)>0 by grind)
    grind
 ·have key:∀s∈D,cr u s>0->False:=fun s hs p=>by
   obtain ⟨k,hk⟩:=List.getElem?_of_mem hs
   refine JF (h.nz u hu) (h.nz w M6) (h.nz s hs) (PM h hi hw hk (fun e=>?_) (fun e=>?_)) p c
   ·rw [e,hi] at hk;cases hk;unfold cr at p;grind
   ·rw [e,hw] at hk;cases hk;grind
  rw [qG,CA] at z
  have d0:dt r u=0:=by
   have:a*dt r u=0:=by grind
   rcases Rat.mul_eq_zero.1 this with e|e<;>grind
  have c0:cr u r≠0:=fun e=>by
   have:cr u r*cr u r+dt r u*dt r u=dt u u*dt r r:=by unfold cr dt;grind
   have:=mp nu nr
   grind
  by_cases p:cr u r>0
  ·exact key r hr p
  ·obtain ⟨s,hs,ho⟩:=h.cl r hr
   obtain ⟨k,k0,e1,e2⟩:=jG ho u
   refine key s hs ?_
   rw [e2]
   have:=mp k0 (show -(cr u r)>0 by grind)
   grind
def Fq (D S:List V2):Prop:=(D=[]/\S=[(1,0)])\/D≠[]/\(∀x∈S,∃i u w,D[i]?=some u/\D[(i+1)%D.length]?=some w/\qj u w x) /\
 ∀i u w,D[i]?=some u->D[(i+1)%D.length]?=some w->∃x∈S,qj u w x
theorem tz {S:List V2}(hS:Fq D S):∀x∈S,∀r∈D,cr r x≠0:=by
 rcases hS with ⟨rfl,rfl⟩|⟨_,h1,_⟩
 ·intro x _ r hr;cases hr
 ·intro x hx
  obtain ⟨i,u,w,a,b,c⟩:=h1 x hx
  exact La h a b c
theorem Ju {S:List V2}(hS:Fq D S){v:V2}(hv:∀r∈D,cr r v≠0) :
  ∃x∈S,∀r∈D,(cr r v>0->cr r x>0)/\(cr r v<0->cr r x<0):=by
 rcases hS with ⟨rfl,rfl⟩|⟨h0,_,h2⟩
 ·exact ⟨_,List.mem_singleton.2 rfl,fun r hr=>by cases hr⟩
 ·obtain ⟨i,u,w,hi,hw,u1,w1,uw,hp,hn⟩:=Rl h hv h0
  obtain ⟨x,hx,hs⟩:=h2 i u w hi hw
  exact ⟨x,hx,fun r hr=>Jo h (List.mem_of_getElem? hi) (List.mem_of_getElem? hw) u1 w1 uw hp hn hs hr⟩
end
theorem Mf (x:Rat):∃y:Rat,y≥0/\x<=y/\-x<=y:=by
 by_cases h:x≥0
 ·exact ⟨x,h,by grind,by grind⟩
 ·exact ⟨-x,by grind,by grind,by grind⟩
theorem Oa (v:V2)(hv:nz v)(r:V2)(hr:nz r):∃e:Rat,e>0/\∀t:Rat,0<t->t<=e ->
  (cr r v>0->cr r (wH 1 v t (Eb v))>0)/\(cr r v<0->cr r (wH 1 v t (Eb v))<0)/\cr r (wH 1 v t (Eb v))≠0:=by
 have key:∀t:Rat,cr r (wH 1 v t (Eb v))=cr r v+t*dt r v:=fun t=>by rw [qG,CA];grind
 by_cases z:cr r v=0
 ·have d0:dt r v≠0:=fun e=>by
   have:cr r v*cr r v+dt r v*dt r v=dt r r*dt v v:=by unfold cr dt;grind
   have:=mp (sq_pos hr) (sq_pos hv)
   grind
  refine ⟨1,by grind,fun t t0 _=>?_⟩
  rw [key]
  refine ⟨fun h=>by grind,fun h=>by grind,fun h=>?_⟩
  have:t*dt r v=0:=by grind
  rcases Rat.mul_eq_zero.1 this with e|e<;>grind
 ·obtain ⟨y,y0,y1,y2⟩:=Mf (dt r v)
  obtain ⟨x,x0,x1,x2⟩:∃x:Rat,x>0/\(cr r v>0->x=cr r v)/\(cr r v<0->x=-(cr r v)):=by
   by_cases p:cr r v>0
   ·exact ⟨cr r v,p,fun _=>rfl,fun h=>by grind⟩
   ·exact ⟨-(cr r v),by grind,fun h=>by grind,fun _=>rfl⟩
  have y3:y+1>0:=by grind
  have inv:(y+1)⁻¹>0:=Rat.inv_pos.2 y3
  refine ⟨x*(y+1)⁻¹,mp x0 inv,fun t t0 te=>?_⟩
  have m1:t*(y+1)<=x:=by
   have:=mn (show x*(y+1)⁻¹-t≥0 by grind) (show y+1≥0 by grind)
   have e:(y+1)⁻¹*(y+1)=1:=Rat.inv_mul_cancel _ (by grind)
   have:x*(y+1)⁻¹*(y+1)=x:=by rw [Rat.mul_assoc,e,Rat.mul_one]
   grind
  have m2:=mn (show t≥0 by grind) (show y-dt r v≥0 by grind)
  have m3:=mn (show t≥0 by grind) (show y+dt r v≥0 by grind)
  rw [key]
  refine ⟨fun h=>?_,fun h=>?_,fun h=>?_⟩
  ·have:=x1 h;grind
  ·have:=x2 h;grind
  ·by_cases p:cr r v>0
   ·have:=x1 p;grind
   ·have:=x2 (by grind);grind
theorem N_ (v:V2)(hv:nz v):∀R:List V2,(∀r∈R,nz r)->∃e:Rat,e>0/\∀t:Rat,0<t->t<=e->∀r∈R,
  (cr r v>0->cr r (wH 1 v t (Eb v))>0)/\(cr r v<0->cr r (wH 1 v t (Eb v))<0)/\cr r (wH 1 v t (Eb v))≠0
 | [],_=>⟨1,by grind,fun t _ _ r hr=>by cases hr⟩
 | r::R,h=>by
  obtain ⟨e,e0,he⟩:=N_ v hv R fun r hr=>h r (List.mem_cons_of_mem _ hr)
  obtain ⟨f,f0,hf⟩:=Oa v hv r (h r (List.mem_cons_self ..))
  obtain ⟨g,g0,g1,g2⟩:∃g:Rat,g>0/\g<=e/\g<=f:=by
   by_cases q:e<=f
   ·exact ⟨e,e0,by grind,q⟩
   ·exact ⟨f,f0,by grind,by grind⟩
  refine ⟨g,g0,fun t t0 tg s hs=>?_⟩
  rcases List.mem_cons.1 hs with rfl|hs
  ·exact hf t t0 (by grind)
  ·exact he t t0 (by grind) s hs
theorem Lk (v:V2)(hv:nz v)(R:List V2)(h:∀r∈R,nz r):∃x:V2,∀r∈R,
  (cr r v>0->cr r x>0)/\(cr r v<0->cr r x<0)/\cr r x≠0:=by
 obtain ⟨e,e0,he⟩:=N_ v hv R h
 exact ⟨_,he e e0 (by grind)⟩
end Go.Proofs.Tryz.aw
namespace Go.Proofs.Tryz
open Go.bz
section
open Go.RowKit Go.Extern.Stop Go.Stop Go.Extern
theorem EE (v:Value)(w:World):(Extern.ReflectliteType.typeOf #[.iface 315 v]).run prog w=.ok (.iface 198 (.agg #[.pointer (some ⟨3,315,none⟩)])) w:=by kernel_rfl
theorem wF (w : World) : ((Extern.ReflectliteType.method fun t => do Extern.Rtype.noPackHeld "Comparable" t; (fun a => Value.bool a.comparable) <$> typeInfo t) #[.agg #[.pointer (some ⟨3, 315, none⟩)]]).run prog w = .ok (.bool true) w := by kernel_rfl
theorem Iw:(prog.info? 315).map (·.comparable)=some true:=by kernel_rfl
theorem Iy:(prog.info? 339).map (·.size)=some 1:=by kernel_rfl
theorem nf (v : Value)(w : World) : (Go.method 451 198 v "Comparable").run prog w = .ok (274, v) w := by kernel_rfl
theorem Ix (a:Addr)(w:World) :
  Calls prog 31 #[.iface 315 (.pointer (some a)),.iface 315 (.pointer (some a))] w fun e w'=>e=.returned (.bool true)/\w'=w:=by
 obtain ⟨i,hi,hcmp⟩:=Option.map_eq_some_iff.1 Iw
 obtain ⟨j,hj,hjs⟩:=Option.map_eq_some_iff.1 Iy
 have h8:=@run_callFunc_extern prog 84 _ Extern.ReflectliteType.typeOf func84 (by kernel_rfl) (by kernel_rfl) (by kernel_rfl) (by kernel_rfl)
 have h32 := @run_callFunc_extern prog 274 _ (Extern.ReflectliteType.method fun t => do Extern.Rtype.noPackHeld "Comparable" t; pure (.bool (← typeInfo t).comparable)) func274 (by kernel_rfl) (by kernel_rfl) (by kernel_rfl) (by kernel_rfl)
 have tT:=EE
 have cT:=wF
 have mR:=nf
 have heq:=run_eql_iface_ptr_same (P:=prog) w a underlying37 underlying315 hi hcmp hj
 go_enter func31,ntmps31
 go_wp2
 refine wp_loop_rounds 1 ?_
 rw [rounds_succ]
 go_wp2
 go_ret
 exact ⟨rfl,rfl⟩
end
theorem Ck {f:FuncId}{args:Array Value}{V:View}{v:Value}(hc:ir prog f)(h:Calls prog f args V.w fun e w'=>e=.returned v/\w'=V.w):ab prog f args V fun r _=>r=v:=
 ⟨hc,h.mono fun e w' ⟨h1,h2⟩=>by subst h2;exact ⟨v,h1,gV.refl _ _,rfl⟩⟩
theorem fB {V:View}{y:Value}(h:FD y):ab prog 31 #[y,y] V fun r _=>r=.bool true:=by
 obtain ⟨a,rfl⟩:=h
 exact Ck ⟨f31,func31,rfl,by kernel_rfl⟩ (Ix a V.w)
end Go.Proofs.Tryz
namespace Go.Proofs.Tryz
open Go.bz
set_option maxRecDepth 100000
end Go.Proofs.Tryz
namespace Go.Proofs.Tryz
open Go.bz Go.eM
theorem xC {V:View}{l:List Nd}(hb:∀x∈l,Bd x.ln){v:Value}{root:Int}(h:AT V v root l) :
  ab prog 45 #[v] V fun r V'=>∃q,r=.tuple #[.pointer q,.bool (kd l root).isSome]/\∀t,kd l root=some t->RT V' q t:=by
 obtain ⟨p,n,c,rfl,h⟩:=h
 refine (FY hb root h).mono ?_
 rintro r V' _ ⟨h1,h2⟩
 cases e:kd l root with
 | none=>obtain ⟨q,rfl⟩:=h1 e;exact ⟨q,rfl,fun t ht=>by cases ht⟩
 | some t=>obtain ⟨q,rfl,hq⟩:=h2 t e;exact ⟨q,rfl,fun t' ht=>by cases ht;exact hq⟩
end Go.Proofs.Tryz
namespace Go.Proofs.Tryz
open Go.bz
set_option maxRecDepth 100000
end Go.Proofs.Tryz
namespace Go.Proofs.Tryz
open Go.bz Go.eM
def Tr.depth:Tr->Nat
 | .leaf _=>0
 | .node _ a b=>1+max a.depth b.depth
def Tr.ins:Tr->Nat
 | .leaf i=>if i then 1 else 0
 | .node _ a b=>a.ins+b.ins
theorem D6 {V:View}{p:OA}{i:Bool}(h:RW V p (.leaf i)):p.isSome=true/\(∃a,ag p 0=some a/\V.at a (.bool true))/\∃a,ag p 1=some a/\V.at a (.bool i):=by
 obtain ⟨b,c2,c3,c4,c5,c6,c7,c8,c9,rfl,hb⟩:=h
 exact ⟨rfl,yj hb 0 rfl,yj hb 1 rfl⟩
end Go.Proofs.Tryz
namespace Go.bz
open Go.Proofs.Tryz
variable {α:Type} {sz:Nat} {R:View->Value->α->Prop} {V V':View} {d:α}
theorem Row.get {vs:List Value}{al:List α}(h:Row sz R V vs al){i:Nat}(hi:i<al.length)(hs:0<sz) :
  ∃xs:List Value,xs.length=sz/\R V (.agg xs.toArray) (al.getD i d)/\i*sz+sz<=vs.length/\(vs.drop (i*sz)).take sz=xs:=by
 obtain ⟨xs,h1,h2,h3⟩:=h.at_ i hi
 have hl:=h.eY hs
 have:(i+1)*sz<=al.length*sz:=Nat.mul_le_mul_right _ hi
 rw [Nat.succ_mul] at this
 refine ⟨xs,h1,by simpa [List.getD_eq_getElem?_getD,hi] using h2,by omega,?_⟩
 apply List.ext_getElem?
 intro j
 rw [List.getElem?_take]
 split
 ·rename_i hj
  rw [List.getElem?_drop]
  have hx:j<xs.length:=by omega
  rw [h3 j _ (List.getElem?_eq_getElem hx),List.getElem?_eq_getElem hx]
 ·rename_i hj
  rw [List.getElem?_eq_none (by omega)]
theorem Row.put {vs:List Value}{al:List α}(h:Row sz R V vs al){i:Nat}(hi:i<al.length)(hs:0<sz){xs:List Value}{a:α}(hx:xs.length=sz)(ha:R V (.agg xs.toArray) a) :
  Row sz R V (ae vs (i*sz) xs) (al.set i a):=by
 have hl:=h.eY hs
 have h9:∀k,k<al.length->k*sz+sz<=vs.length:=fun k hk=>by
  have:(k+1)*sz<=al.length*sz:=Nat.mul_le_mul_right _ hk
  rw [Nat.succ_mul] at this
  omega
 have hi9:=h9 i hi
 rw [kV (by omega)]
 have ht:(vs.take (i*sz)).length=i*sz:=by rw [List.length_take];omega
 refine ⟨fun k hk=>?_⟩
 rw [List.length_set] at hk
 by_cases e:k=i
 ·subst e
  refine ⟨xs,hx,by simpa using ha,fun j x hj=>?_⟩
  have hj':=(List.getElem?_eq_some_iff.1 hj).1
  rw [List.append_assoc,List.getElem?_append_right (by omega),ht,Nat.add_sub_cancel_left,List.getElem?_append_left hj']
  exact hj
 ·obtain ⟨ys,y1,y2,y3⟩:=h.at_ k hk
  refine ⟨ys,y1,by rw [List.getElem_set_ne (fun e'=>e e'.symm)];exact y2,fun j x hj=>?_⟩
  have hj':=(List.getElem?_eq_some_iff.1 hj).1
  by_cases lt:k<i
  ·have:(k+1)*sz<=i*sz:=Nat.mul_le_mul_right _ lt
   rw [Nat.succ_mul] at this
   rw [List.append_assoc,List.getElem?_append_left (by omega),List.getElem?_take,if_pos (by omega)]
   exact y3 j x hj
  ·have:(i+1)*sz<=k*sz:=Nat.mul_le_mul_right _ (by omega)
   rw [Nat.succ_mul] at this
   rw [List.getElem?_append_right (by rw [List.length_append];omega),List.length_append,ht,hx,List.getElem?_drop]
   rw [show i*sz+sz+(k*sz+j-(i*sz+sz))=k*sz+j by omega]
   exact y3 j x hj
theorem jr {vs xs:List Value}{o:Nat}(h:o+xs.length<=vs.length):(ae vs o xs).length=vs.length:=by
 rw [kV h];simp only [List.length_append,List.length_take,List.length_drop];omega
theorem Row.swap {vs:List Value}{al:List α}(h:Row sz R V vs al){i j:Nat}(hi:i<al.length)(hj:j<al.length)(hs:0<sz){xs ys:List Value}(hx:xs.length=sz)(hy:ys.length=sz)(h1:R V (.agg xs.toArray) (al.getD i d))(h2:R V (.agg ys.toArray) (al.getD j d)) :
  Row sz R V (ae (ae vs (i*sz) ys) (j*sz) xs) (iT d al i j):=by
 have:=h.put hi hs hy h2
 exact this.put (by simpa using hj) hs hx h1
end Go.bz
namespace Go.Proofs.Tryz
open Go.bz Go.eM
section
variable {α:Type} (e:α->α->Bool)
def nY:α->List α->List α
 | _,[]=>[]
 | p,a::r=>if e a p then nY a r else a::nY a r
def eW:List α->List α
 | []=>[]
 | a::r=>a::nY e a r
variable {e}
theorem xK {d:α}:∀{r:List α} {p a:α},nY e p (r++[a])=nY e p r++if e a ((p::r).getD r.length d) then [] else [a]
 | [],p,a=>by simp [nY]
 | b::r,p,a=>by
  have ih:=xK (d:=d) (r:=r) (p:=b) (a:=a)
  have hd:(p::b::r).getD (b::r).length d=(b::r).getD r.length d:=rfl
  rw [hd,List.cons_append]
  simp only [nY]
  split
  ·exact ih
  ·rw [ih];rfl
theorem mJ {d:α}{l:List α}{k:Nat}(hk:k+1<l.length):eW e (l.take (k+2))=eW e (l.take (k+1))++if e (l.getD (k+1) d) (l.getD k d) then [] else [l.getD (k+1) d]:=by
 cases l with
 | nil=>simp at hk
 | cons a r=>
  have hk':k<r.length:=by simpa using hk
  have h1:(a::r).take (k+2)=a::(r.take k++[r[k]]):=by
   rw [List.take_succ_cons,List.take_append_getElem hk']
  have h2:(a::r).take (k+1)=a::r.take k:=List.take_succ_cons
  rw [h1,h2]
  simp only [eW]
  rw [xK (d:=d)]
  have e1:(a::r).getD (k+1) d=r[k]:=by rw [List.getD_cons_succ,List.getD_eq_getElem?_getD,List.getElem?_eq_getElem hk'];rfl
  have e2:(a::r.take k).getD (r.take k).length d=(a::r).getD k d:=by
   have hl:(r.take k).length=k:=by rw [List.length_take];omega
   rw [hl]
   cases k with
   | zero=>rfl
   | succ k=>
    rw [List.getD_cons_succ,List.getD_cons_succ,List.getD_eq_getElem?_getD,List.getD_eq_getElem?_getD,List.getElem?_take,if_pos (by omega)]
  rw [e1,e2,List.cons_append]
theorem uh:∀{r:List α} {p:α},∀x∈nY e p r,x∈r
 | [],p,x,h=>h
 | b::r,p,x,h=>by
  unfold nY at h
  split at h
  ·exact List.mem_cons_of_mem _ (uh x h)
  ·rcases List.mem_cons.1 h with rfl|h
   ·exact List.mem_cons_self ..
   ·exact List.mem_cons_of_mem _ (uh x h)
theorem F2 {l:List α}:∀x∈eW e l,x∈l:=by
 cases l with
 | nil=>exact fun x h=>h
 | cons a r=>
  intro x h
  rcases List.mem_cons.1 h with rfl|h
  ·exact List.mem_cons_self ..
  ·exact List.mem_cons_of_mem _ (uh x h)
theorem AU:∀{r:List α} {p:α},(nY e p r).length<=r.length
 | [],p=>Nat.le_refl _
 | b::r,p=>by
  have:=AU (r:=r) (p:=b)
  unfold nY
  split<;>simp<;>omega
theorem ug {l:List α}:(eW e l).length<=l.length:=by
 cases l with
 | nil=>exact Nat.le_refl _
 | cons a r=>have:=AU (e:=e) (r:=r) (p:=a);simp [eW];omega
theorem Is {d:α}{l:List α}{k:Nat}(hk:k+1<l.length)(he:e (l.getD (k+1) d) (l.getD k d)=true):(eW e l).length<l.length:=by
 have key:∀j,k+2+j<=l.length->(eW e (l.take (k+2+j))).length<k+2+j:=by
  intro j
  induction j with
  | zero=>
   intro _
   rw [Nat.add_zero,mJ (d:=d) hk,he,if_pos rfl,List.append_nil]
   have:=ug (e:=e) (l:=l.take (k+1))
   rw [List.length_take] at this
   omega
  | succ j ih=>
   intro hj
   have:=ih (by omega)
   rw [show k+2+(j+1)=k+1+j+2 by omega,mJ (d:=d) (by omega),List.length_append,show k+1+j+1=k+2+j by omega]
   split<;>simp<;>omega
 have:=key (l.length-(k+2)) (by omega)
 rwa [show k+2+(l.length-(k+2))=l.length by omega,List.take_length] at this
theorem AP {l:List α}(h:l.length<=1):eW e l=l:=by
 match l,h with
 | [],_=>rfl
 | [a],_=>rfl
 | _::_::_,h=>simp at h
end
end Go.Proofs.Tryz
namespace Go.bz
open Go.Proofs.Tryz
section
variable {α:Type} {sz:Nat} {R:View->Value->α->Prop} {V:View} {d:α}
theorem Row.Io {vs zs:List Value}{al:List α}(h:Row sz R V vs al){k:Nat}(hk:k<=al.length)(hs:0<sz):Row sz R V (vs.take (k*sz)++zs) (al.take k):=by
 have hl:=h.eY hs
 refine ⟨fun i hi=>?_⟩
 rw [List.length_take] at hi
 obtain ⟨xs,h1,h2,h3⟩:=h.at_ i (by omega)
 refine ⟨xs,h1,by rw [List.getElem_take];exact h2,fun j x hj=>?_⟩
 have hj':=(List.getElem?_eq_some_iff.1 hj).1
 have h4:(i+1)*sz<=k*sz:=Nat.mul_le_mul_right _ (by omega)
 have h5:k*sz<=al.length*sz:=Nat.mul_le_mul_right _ hk
 rw [Nat.succ_mul] at h4
 rw [List.getElem?_append_left (by rw [List.length_take];omega),List.getElem?_take,if_pos (by omega)]
 exact h3 j x hj
end
end Go.bz
namespace Go.Proofs.Tryz
open Go.bz Go.eM
theorem TA.ex {V:View}{v:Value}{l:L3}{s:Sp}(h:LA V v l s):∃(x1 x2:Int)(p:OA)(y1 y2:Int)(q:OA)(z1 z2:Int)(r:OA)(u1 u2:Int)(t:OA)(w1 w2:Int)(o:OA),
 v=.agg #[.int .i64 x1,.int .i64 x2,.pointer p,.int .i64 y1,.int .i64 y2,.pointer q,.int .i64 z1,.int .i64 z2,.pointer r,.int .i64 u1,.int .i64 u2,.pointer t,.int .i64 w1,.int .i64 w2,.pointer o,.bool s.a,.bool s.b]:=by
 obtain ⟨_,_,_,_,_,_,_,_,_,_,_,_,_,_,_,e,-⟩:=h;exact ⟨_,_,_,_,_,_,_,_,_,_,_,_,_,_,_,e⟩
structure Cg (V:View) (p:OA) (n:Nat) (fs:List (L3×Sp)):Prop where
 len:n=fs.length
 at_:∀(i:Nat)(h:i<fs.length),∃ad,ag p (i*17)=some ad/\∃xs:List Value,LA V (.agg xs.toArray) fs[i].1 fs[i].2/\∀j x,xs[j]?=some x->V.at (ad.add j) x
theorem Cg.le {V V':View}{p:OA}{n:Nat}{fs:List (L3×Sp)}(h:Cg V p n fs)(e:V.Le V'):Cg V' p n fs:=⟨h.len,fun i hi=>by obtain ⟨ad,h1,xs,h2,h3⟩:=h.at_ i hi;exact ⟨ad,h1,xs,h2.le e,fun j x hx=>e.at (h3 j x hx)⟩⟩
theorem Cg.nil {V:View}:Cg V none 0 []:=⟨rfl,fun i hi=>by simp at hi⟩
theorem Cg.one {V:View}{bk:Nat}{xs:List Value}{ty:TypeId}{l:L3}{s:Sp}(hb:V.bu bk (.cells xs.toArray ty (0,0)))(hf:LA V (.agg xs.toArray) l s):Cg V (some ⟨bk,0,none⟩) 1 [(l,s)]:=by
 refine ⟨rfl,fun i hi=>?_⟩
 obtain rfl:i=0:=by simpa using hi
 refine ⟨⟨bk,0,none⟩,by simp [ag,add_zero'],_,hf,fun j x hx=>?_⟩
 rw [add_zero']
 exact bU hb hx
theorem jy {V:View}(z w:Int){p q:OA}{n c m e:Nat}(ha:RD V p n c (ai z.natAbs))(hb:RD V q m e (ai w.natAbs))(hm:(ai z.natAbs).length<=1099511627776)(hn:(ai w.natAbs).length<=1099511627776) :
  ab prog 159 #[.agg #[.bool (decide (z<0)),.slice p n c],.agg #[.bool (decide (w<0)),.slice q m e]] V fun r V'=>r=.int .i64 (z-w).sign:=by
 refine vI _ p n c _ q m e V _ fun V1 l1=>(fV w (hb.le l1)).mono ?_
 rintro r V2 l2 ⟨p1,n1,c1,rfl,g1⟩
 refine ⟨_,_,_,_,rfl,fun V3 l3=>(qz z (-w) (ha.le (l1.trans (l2.trans l3))) (g1.le l3) hm (by rw [Int.natAbs_neg];exact hn)).mono ?_⟩
 rintro r V4 l4 ⟨p2,n2,c2,rfl,g2⟩
 refine ⟨_,_,_,_,rfl,fun V5 l5=>(kG _ (g2.le l5)).mono ?_⟩
 rintro r V6 l6 rfl
 exact ⟨_,rfl,fun V7 l7=>by rw [Int.sub_eq_add_neg]⟩
def nX (l m:L3):Int:=if (l.1-m.1).sign≠0 then (l.1-m.1).sign else if (l.2.1-m.2.1).sign≠0 then (l.2.1-m.2.1).sign else (l.2.2-m.2.2).sign
theorem Ip {l m:L3}:nX l m=0↔l=m:=by
 have e:∀{a b:Int},(a-b).sign=0↔a=b:=fun {a b}=>by rw [Int.sign_eq_zero_iff_zero];omega
 unfold nX
 constructor
 ·intro h
  by_cases h1:(l.1-m.1).sign=0
  ·rw [if_neg (by simpa using h1)] at h
   by_cases h2:(l.2.1-m.2.1).sign=0
   ·rw [if_neg (by simpa using h2)] at h
    exact Prod.ext (e.1 h1) (Prod.ext (e.1 h2) (e.1 h))
   ·rw [if_pos h2] at h;exact absurd h h2
  ·rw [if_pos h1] at h;exact absurd h h1
 ·rintro rfl
  simp
theorem rv {V:View}{v w:Value}{l m:L3}(hl:RL V v l.1 l.2.1 l.2.2)(hm:RL V w m.1 m.2.1 m.2.2){k:Nat}(sl:Fs k l)(sm:Fs k m)(hk:k<=1099511627776) :
  ab prog 109 #[v,w] V fun r V'=>r=.int .i64 (nX l m):=by
 obtain ⟨d1,d2,d3⟩:=sl.ai hk
 obtain ⟨e1,e2,e3⟩:=sm.ai hk
 obtain ⟨_,_,_,_,_,_,_,_,_,rfl,a1,a2,a3⟩:=hl
 obtain ⟨_,_,_,_,_,_,_,_,_,rfl,b1,b2,b3⟩:=hm
 refine Ab _ _ _ _ _ _ _ _ _ _ _ _ _ _ _ _ _ _ _ _ _ _ _ _ V _ fun V1 l1=>(jy _ _ (a1.le l1) (b1.le l1) d1 e1).mono ?_
 rintro r V2 l2 rfl
 unfold nX
 refine ⟨_,rfl,fun h V3 l3=>?_,fun h V4 l4=>(jy _ _ (a2.le (l1.trans (l2.trans l4))) (b2.le (l1.trans (l2.trans l4))) d2 e2).mono ?_⟩
 ·rw [bne_iff_ne] at h
  rw [if_pos h]
 ·rw [bne_eq_false_iff_eq] at h
  rw [if_neg (by rw [h];decide)]
  rintro r V5 l5 rfl
  refine ⟨_,rfl,fun h V6 l6=>?_,fun h V7 l7=>(jy _ _ (a3.le (l1.trans (l2.trans (l4.trans (l5.trans l7))))) (b3.le (l1.trans (l2.trans (l4.trans (l5.trans l7))))) d3 e3).mono ?_⟩
  ·rw [bne_iff_ne] at h
   rw [if_pos h]
  ·rw [bne_eq_false_iff_eq] at h
   rw [if_neg (by rw [h];decide)]
   rintro r V8 l8 rfl
   exact ⟨_,rfl,fun V9 l9=>rfl⟩
def Kq:L3:=(0,0,0)
theorem yW {a b:L3}:nX a b<0↔(a.1<b.1\/a.1=b.1/\(a.2.1<b.2.1\/a.2.1=b.2.1/\a.2.2<b.2.2)):=by
 have s:∀{x y:Int},(x<y/\(x-y).sign=-1)\/(x=y/\(x-y).sign=0)\/(y<x/\(x-y).sign=1):=by
  intro x y
  rcases Int.lt_trichotomy x y with h|h|h
  ·exact .inl ⟨h,Int.sign_eq_neg_one_of_neg (by omega)⟩
  ·exact .inr (.inl ⟨h,by rw [h,Int.sub_self];rfl⟩)
  ·exact .inr (.inr ⟨h,Int.sign_eq_one_of_pos (by omega)⟩)
 unfold nX
 rcases @s a.1 b.1 with ⟨h1,e1⟩|⟨h1,e1⟩|⟨h1,e1⟩<;>rcases @s a.2.1 b.2.1 with ⟨h2,e2⟩|⟨h2,e2⟩|⟨h2,e2⟩<;>rcases @s a.2.2 b.2.2 with ⟨h3,e3⟩|⟨h3,e3⟩|⟨h3,e3⟩<;>rw [e1,e2,e3]<;>simp<;>omega
def HT (V:View)(v:Value)(c:L3):Prop:=Cd V v c.1 c.2.1 c.2.2/\Bd c
theorem HT.le {V V':View}{v:Value}{c:L3}(h:HT V v c)(l:V.Le V'):HT V' v c:=⟨h.1.le l,h.2⟩
theorem HT.shape {V:View}{v:Value}{c:L3}(h:HT V v c):∃(x y:Int)(p:OA)(xb yb:Int)(pb:OA)(xc yc:Int)(pc:OA),v=.agg #[.int .i64 x,.int .i64 y,.pointer p,.int .i64 xb,.int .i64 yb,.pointer pb,.int .i64 xc,.int .i64 yc,.pointer pc]:=by
 obtain ⟨⟨x1,x2,p,y1,y2,q,z1,z2,r,e,-⟩,-⟩:=h;exact ⟨_,_,_,_,_,_,_,_,_,e⟩
def eL (a b:L3):Bool:=decide (a=b)
end Go.Proofs.Tryz
namespace Go.Proofs.Tryz
open Go.eM
section
variable {α:Type} {c:α->α->Int} {d:α}
structure PQ (c:α->α->Int) (d:α) (l0 l:List α) (a0 b0 a b:Nat):Prop where
 Jr:gP d l0 l a0 b0
 ha:a0<=a
 lF:a<=b
 hb:b<=b0
 lo:oS c d l a0 a
 hi:oS c d l b b0
 s1:Sep c d l a0 a b0
 s2:Sep c d l a0 b b0
 pre:0<a->∀k,a<=k->k<b->¬c (l.getD k d) (l.getD (a-1) d)<0
variable {l0 l m:List α} {a0 b0 a b mid:Nat}
theorem PQ.start {l:List α}(h:a<=b)(hp:0<a->∀k,a<=k->k<b->¬c (l.getD k d) (l.getD (a-1) d)<0):PQ c d l l a b a b:=
 ⟨.refl _ _ _,Nat.le_refl _,h,Nat.le_refl _,.short (by omega),.short (by omega),fun p q h1 h2=>by omega,fun p q h1 h2 h3 h4=>by omega,hp⟩
theorem PQ.change (h:PQ c d l0 l a0 b0 a b)(hs:gP d l m a b):PQ c d l0 m a0 b0 a b:=
 ⟨h.Jr.trans (hs.wide h.ha h.hb),h.ha,h.lF,h.hb,hs.Al h.lo (.inl (Nat.le_refl _)),hs.Al h.hi (.inr (Nat.le_refl _)),hs.sep h.s1 (.inr (.inl ⟨Nat.le_refl _,h.hb⟩)),hs.sep h.s2 (.inl ⟨h.ha,Nat.le_refl _⟩),fun h0 k h1 h2=>by
  obtain ⟨k',h3,h4,e⟩:=hs.mem k h1 h2
  rw [e,hs.out (a-1) (by omega)]
  exact h.pre h0 k' h3 h4⟩
theorem PQ.fin (h:PQ c d l0 l a0 b0 a b)(hs:gP d l m a b)(ha:oS c d m a b):gP d l0 m a0 b0/\oS c d m a0 b0:=by
 have h':=h.change hs
 refine ⟨h'.Jr,h'.lo.join (ha.join h'.hi fun p q h1 h2 h3 h4=>h'.s2 p q (by have:=h.ha;omega) h2 h3 h4) h'.s1⟩
theorem PQ.left (ho:Ord c)(h:PQ c d l0 l a0 b0 a b)(hm:a<=mid)(hm':mid<b)(h1:∀k,a<=k->k<mid->c (l.getD k d) (l.getD mid d)<0)(h2:∀k,mid<k->k<b->¬c (l.getD k d) (l.getD mid d)<0)
  (hs:gP d l m a mid)(ha:oS c d m a mid):PQ c d l0 m a0 b0 (mid+1) b:=by
 have e0:=h.ha
 have e1:=h.hb
 have em:m.getD mid d=l.getD mid d:=hs.out mid (by omega)
 have below:∀k,a<=k->k<mid->¬c (m.getD mid d) (m.getD k d)<0:=fun k g1 g2=>by
  obtain ⟨k',g3,g4,e⟩:=hs.mem k g1 g2
  rw [em,e];exact ho.H8 _ _ (h1 k' g3 g4)
 have t1:=hs.sep h.s1 (.inr (.inl ⟨Nat.le_refl _,by omega⟩))
 have t2:=hs.sep h.s2 (.inl ⟨e0,by omega⟩)
 have up:∀q,mid<q->q<b->¬c (m.getD q d) (m.getD mid d)<0:=fun q g1 g2=>by rw [em,hs.out q (by omega)];exact h2 q g1 g2
 refine ⟨h.Jr.trans (hs.wide e0 (by omega)),by omega,by omega,e1,(hs.Al h.lo (.inl (Nat.le_refl _))).join (m:=a) (fun p q g1 g2 g3=>?_) fun p q g1 g2 g3 g4=>t1 p q g1 g2 g3 (by omega),hs.Al h.hi (.inr (by omega)),fun p q g1 g2 g3 g4=>?_,t2,fun _ k g1 g2=>up k (by omega) g2⟩
 ·by_cases e:q=mid
  ·subst e;exact below p g1 g2
  ·exact ha p q g1 g2 (by omega)
 ·by_cases hq:b<=q
  ·exact t2 p q g1 (by omega) hq g4
  ·by_cases hp:p<a
   ·exact t1 p q g1 hp (by omega) g4
   ·have u:=up q (by omega) (by omega)
    by_cases e:p=mid
    ·subst e;exact u
    ·exact ho.tr _ _ _ u (below p (by omega) (by omega))
theorem PQ.right (ho:Ord c)(h:PQ c d l0 l a0 b0 a b)(hm:a<=mid)(hm':mid<b)(h1:∀k,a<=k->k<mid->c (l.getD k d) (l.getD mid d)<0)(h2:∀k,mid<k->k<b->¬c (l.getD k d) (l.getD mid d)<0)
  (hs:gP d l m (mid+1) b)(ha:oS c d m (mid+1) b):PQ c d l0 m a0 b0 a mid:=by
 have e0:=h.ha
 have e1:=h.hb
 have em:m.getD mid d=l.getD mid d:=hs.out mid (by omega)
 have up:∀q,mid<q->q<b->¬c (m.getD q d) (m.getD mid d)<0:=fun q g1 g2=>by
  obtain ⟨k',g3,g4,e⟩:=hs.mem q (by omega) g2
  rw [em,e];exact h2 k' (by omega) g4
 have below:∀k,a<=k->k<mid->¬c (m.getD mid d) (m.getD k d)<0:=fun k g1 g2=>by
  rw [em,hs.out k (by omega)];exact ho.H8 _ _ (h1 k g1 g2)
 have t1:=hs.sep h.s1 (.inr (.inl ⟨by omega,e1⟩))
 have t2:=hs.sep h.s2 (.inl ⟨by omega,Nat.le_refl _⟩)
 have t3:=hs.Al h.hi (.inr (Nat.le_refl _))
 refine ⟨h.Jr.trans (hs.wide (by omega) e1),e0,hm,by omega,hs.Al h.lo (.inl (by omega)),fun p q g1 g2 g3=>?_,t1,fun p q g1 g2 g3 g4=>?_,fun h0 k g1 g2=>?_⟩
 ·by_cases hq:q<b
  ·by_cases e:p=mid
   ·subst e;exact up q g2 hq
   ·exact ha p q (by omega) g2 hq
  ·by_cases hp:p<b
   ·exact t2 p q (by omega) hp (by omega) g3
   ·exact t3 p q (by omega) g2 g3
 ·by_cases hq:b<=q
  ·exact t2 p q g1 (by omega) hq g4
  ·by_cases hp:p<a
   ·exact t1 p q g1 hp (by omega) g4
   ·have u:=below p (by omega) g2
    by_cases e:q=mid
    ·subst e;exact u
    ·exact ho.tr _ _ _ (up q (by omega) (by omega)) u
 ·rw [hs.out k (by omega),hs.out (a-1) (by omega)];exact h.pre h0 k g1 (by omega)
theorem PQ.Ul (ho:Ord c)(h:PQ c d l0 l a0 b0 a b)(h0:0<a)(hm:a<mid)(hm':mid<=b){x:α}(hx:¬c (l.getD (a-1) d) x<0)(hs:gP d l m a b)
  (h1:∀k,a<=k->k<mid->¬c x (m.getD k d)<0)(h2:∀k,mid<=k->k<b->c x (m.getD k d)<0):PQ c d l0 m a0 b0 mid b:=by
 have h':=h.change hs
 have e0:=h.ha
 have e1:=h.hb
 have ex:¬c (m.getD (a-1) d) x<0:=by rw [hs.out (a-1) (by omega)];exact hx
 have pr:=h'.pre h0
 refine ⟨h'.Jr,by omega,hm',e1,h'.lo.join (m:=a) (fun p q g1 g2 g3=>?_) fun p q g1 g2 g3 g4=>h'.s1 p q g1 g2 g3 (by omega),h'.hi,fun p q g1 g2 g3 g4=>?_,h'.s2,fun _ k g1 g2=>?_⟩
 ·exact ho.tr _ _ _ (pr q (by omega) (by omega)) (ho.tr _ _ _ ex (h1 p g1 (by omega)))
 ·by_cases hq:b<=q
  ·exact h'.s2 p q g1 (by omega) hq g4
  ·by_cases hp:p<a
   ·exact h'.s1 p q g1 hp (by omega) g4
   ·exact ho.tr _ _ _ (ho.H8 _ _ (h2 q g3 (by omega))) (h1 p (by omega) g2)
 ·exact ho.tr _ _ _ (ho.H8 _ _ (h2 k g1 g2)) (h1 (mid-1) (by omega) (by omega))
structure HQ (c:α->α->Int) (d:α) (l:List α) (f i n:Nat):Prop where
 hp:Hp c d l f 0 i none
 Al:oS c d l (f+i) (f+n)
 sep:Sep c d l f (f+i) (f+n)
theorem HQ.start {f n:Nat}(h:Hp c d l f 0 n none):HQ c d l f n n:=⟨h,.short (by omega),fun p q h1 h2 h3 h4=>by omega⟩
theorem HQ.step (ho:Ord c){f k n:Nat}(h:HQ c d l f (k+1) n)(hk:k+1<=n)(hl:f+n<=l.length)(hs:gP d (iT d l f (f+k)) m f (f+k))(hm:Hp c d m f 0 k none):HQ c d m f k n:=by
 have ha:=fun x=>kY (d:=d) (l:=l) (i:=f) (j:=f+k) (k:=x) (by omega) (by omega)
 have out:∀q,f+k<q->m.getD q d=l.getD q d:=fun q hq=>by rw [hs.out q (by omega),ha,if_neg (by omega),if_neg (by omega)]
 have top:m.getD (f+k) d=l.getD f d:=by rw [hs.out (f+k) (by omega),ha,if_pos rfl]
 refine ⟨hm,fun p q g1 g2 g3=>?_,fun p q g1 g2 g3 g4=>?_⟩
 ·rw [out q (by omega)]
  by_cases e:p=f+k
  ·rw [e,top];exact h.sep f q (Nat.le_refl _) (by omega) (by omega) g3
  ·rw [out p (by omega)];exact h.Al p q (by omega) g2 g3
 ·have hp:∃j,j<k+1/\m.getD p d=l.getD (f+j) d:=by
   obtain ⟨p',e1,e2,e⟩:=hs.mem p g1 g2
   rw [e,ha,if_neg (by omega)]
   split
   ·exact ⟨k,by omega,rfl⟩
   ·exact ⟨p'-f,by omega,by rw [show f+(p'-f)=p' by omega]⟩
  obtain ⟨j,hj,e⟩:=hp
  rw [e]
  by_cases eq:q=f+k
  ·rw [eq,top];exact h.hp.top ho j hj
  ·rw [out q (by omega)];exact h.sep (f+j) q (by omega) (by omega) (by omega) g4
theorem HQ.fin {f n:Nat}(h:HQ c d l f 0 n):oS c d l f (f+n):=by have:=h.Al;simpa using this
structure PT (P:α->Prop) (d:α) (l:List α) (a b i j:Nat):Prop where
 hi:a<i
 wG:i<=j+1
 hj:j<b
 lo:∀k,a<k->k<i->P (l.getD k d)
 up:∀k,j<k->k<b->¬P (l.getD k d)
variable {P:α->Prop} {i j:Nat}
theorem PT.start (h:a+1<b):PT P d l a b (a+1) (b-1):=⟨by omega,by omega,by omega,fun k h1 h2=>by omega,fun k h1 h2=>by omega⟩
theorem PT.KN (h:PT P d l a b i j)(wG:i<=j)(hp:P (l.getD i d)):PT P d l a b (i+1) j:=⟨by have:=h.hi;omega,by omega,h.hj,fun k h1 h2=>by
 by_cases e:k=i
 ·subst e;exact hp
 ·exact h.lo k h1 (by omega),h.up⟩
theorem PT.Kr (h:PT P d l a b i j)(wG:i<=j)(hp:¬P (l.getD j d)):PT P d l a b i (j-1):=⟨h.hi,by omega,by have:=h.hj;omega,h.lo,fun k h1 h2=>by
 by_cases e:k=j
 ·subst e;exact hp
 ·exact h.up k (by have:=h.hi;omega) h2⟩
theorem PT.swap (h:PT P d l a b i j)(wG:i<=j)(hl:b<=l.length)(h1:¬P (l.getD i d))(h2:P (l.getD j d)):PT P d (iT d l i j) a b (i+1) (j-1)/\(iT d l i j).getD a d=l.getD a d/\gP d l (iT d l i j) a b:=by
 have e0:=h.hi
 have e1:=h.hj
 have ne:i≠j:=fun e=>h1 (e▸h2)
 have ha:=fun x=>kY (d:=d) (l:=l) (i:=i) (j:=j) (k:=x) (by omega) (by omega)
 refine ⟨⟨by omega,by omega,by omega,fun k g1 g2=>?_,fun k g1 g2=>?_⟩,by rw [ha,if_neg (by omega),if_neg (by omega)],gP.iT (by omega) (by omega) (by omega) e1 hl⟩
 ·rw [ha,if_neg (by omega)]
  by_cases e:k=i
  ·rw [if_pos e];exact h2
  ·rw [if_neg e];exact h.lo k g1 (by omega)
 ·rw [ha]
  by_cases e:k=j
  ·rw [if_pos e];exact h1
  ·rw [if_neg e,if_neg (by omega)];exact h.up k (by omega) g2
theorem PT.fin (ho:Ord c)(h:PT (fun x=>c x (l.getD a d)<0) d l a b i j)(wG:¬i<=j)(hl:b<=l.length):gP d l (iT d l j a) a b/\a<=j/\j<b /\
  (∀k,a<=k->k<j->c ((iT d l j a).getD k d) ((iT d l j a).getD j d)<0)/\(∀k,j<k->k<b->¬c ((iT d l j a).getD k d) ((iT d l j a).getD j d)<0):=by
 have e0:=h.hi
 have e1:=h.wG
 have e2:=h.hj
 have ha:=fun x=>kY (d:=d) (l:=l) (i:=j) (j:=a) (k:=x) (by omega) (by omega)
 have ej:(iT d l j a).getD j d=l.getD a d:=by
  rw [ha]
  by_cases e:j=a
  ·rw [if_pos e,e]
  ·rw [if_neg e,if_pos rfl]
 refine ⟨gP.iT (by omega) e2 (Nat.le_refl _) (by omega) hl,by omega,e2,fun k g1 g2=>?_,fun k g1 g2=>?_⟩
 ·rw [ej,ha]
  by_cases e:k=a
  ·rw [if_pos e];exact h.lo j (by omega) (by omega)
  ·rw [if_neg e,if_neg (by omega)];exact h.lo k (by omega) (by omega)
 ·rw [ej,ha,if_neg (by omega),if_neg (by omega)];exact h.up k g1 g2
end
end Go.Proofs.Tryz
namespace Go.Proofs.Tryz
open Go.bz Go.eM
theorem f_ (V:View):V.Le V.shut:=fun _ _ h=>h
set_option maxRecDepth 10000 in
theorem Ig {V:View}(x:Nat)(hx:x<256):ab prog 220 #[.int .u64 (x:Int)] V fun r V'=>r=.int .i64 (bf x:Int):=by
 refine oI _ V _ ⟨fun z _=>z=((x:Int),0),⟨fun h0=>absurd (of_decide_eq_true h0) (by omega),fun _=>⟨_,⟨rfl,rfl⟩,rfl⟩⟩,?_⟩
 rintro _ V1 l1 rfl
 refine ⟨rfl,fun z _=>z=((x:Int),0),⟨fun h0=>absurd (of_decide_eq_true h0) (by dsimp only;omega),fun _=>⟨_,⟨rfl,rfl⟩,rfl⟩⟩,?_⟩
 rintro _ V2 l2 rfl
 refine ⟨rfl,fun z _=>z=((x:Int),0),⟨fun h0=>absurd (of_decide_eq_true h0) (by dsimp only;omega),fun _=>⟨_,⟨rfl,rfl⟩,rfl⟩⟩,?_⟩
 rintro _ V3 l3 rfl
 have hw:IntKind.u8.wrap (x:Int)=x:=IntWalk.u8_in _ (by omega)
 have hsz:(Bh.size:Int)=256:=rfl
 dsimp only
 rw [hw]
 refine ⟨rfl,⟨by omega,by show (x:Int)<(Bh.size:Int);rw [hsz];omega⟩,fun V4 l4=>?_⟩
 show Value.int .i64 (i64.wrap (0+i64.wrap ((Bh.data.toList.getD (x:Int).toNat 0).toNat:Int)))=_
 congr 1
 have key:∀y:Nat,y<256->(Bh.data.toList.getD y 0).toNat=bf y:=by decide +kernel
 have hbl:bf x<=8:=fP.2 (by omega)
 have:=key x hx
 rw [Int.toNat_natCast,this]
 simp (disch:=omega) only [ar]
 omega
theorem ky {V:View}(x:Nat)(hx:x<256):ab prog 180 #[.int .u64 (x:Int)] V fun r V'=>r=.int .i64 (bf x:Int):=by
 refine qW _ V _ fun V1 l1=>(Ig x hx).mono ?_
 rintro r V2 l2 rfl
 exact ⟨_,rfl,fun V3 l3=>rfl⟩
theorem qw {V:View}(x:Nat)(h0:1<=x)(hx:x<50):ab prog 241 #[.int .i64 (x:Int)] V fun r V'=>∃m:Nat,r=.int .u64 m/\1<=m/\m<=2*x:=by
 have w:u64.wrap (x:Int)=x:=aM (by omega)
 refine jP _ V _ fun V1 l1=>?_
 rw [w]
 refine (ky x (by omega)).mono ?_
 rintro r V2 l2 rfl
 have key:∀y:Nat,y<50->1<=y->2^bf y<=2*y/\bf y<=6:=by decide +kernel
 obtain ⟨k1,k2⟩:=key x hx h0
 have e:min ((bf x:Nat):Int).toNat IntKind.u64.bits=bf x:=by
  show min ((bf x:Nat):Int).toNat 64=_
  rw [Int.toNat_natCast];omega
 have e2:((1:Int)*2^bf x)=((2^bf x:Nat):Int):=by rw [Int.one_mul];simp
 refine ⟨_,rfl,by omega,fun V3 l3=>⟨2^bf x,?_,Nat.one_le_two_pow,k1⟩⟩
 rw [e,e2]
 generalize 2^bf x=P at *
 rw [aM (by omega)]
theorem Kj {x m:Int}(h0:0<=m)(h1:m<1000):0<=aR .and .u64 x m/\aR .and .u64 x m<=m:=by
 have hb:(BitVec.ofInt 64 m).toNat=m.toNat:=by rw [BitVec.toNat_ofInt];omega
 have h:((BitVec.ofInt 64 x &&& BitVec.ofInt 64 m).toNat)<=m.toNat:=by rw [BitVec.toNat_and,hb];exact Nat.and_le_right
 show 0<=u64.wrap ((BitVec.ofInt 64 x &&& BitVec.ofInt 64 m).toNat:Int)/\u64.wrap ((BitVec.ofInt 64 x &&& BitVec.ofInt 64 m).toNat:Int)<=m
 rw [aM (by omega)]
 omega
theorem Cx {V:View}{rb:Nat}{x:Int}(hw:V.w.heap[rb]?=some (.cells #[.int .u64 x] 302 (0,0)))(hx:V.X rb) :
  ab prog 242 #[.pointer (some ⟨rb,0,none⟩)] V fun r V'=>∃y:Int,r=.int .u64 y/\V'.w.heap[rb]?=some (.cells #[.int .u64 y] 302 (0,0)):=
 kn rb x V _ hw hx ⟨by decide,by decide,by decide,fun V1 l1 h=>⟨_,rfl,h⟩⟩
end Go.Proofs.Tryz
namespace Go.Proofs.Tryz
open Go.bz
set_option maxRecDepth 100000
end Go.Proofs.Tryz
namespace Go.Proofs.Tryz
open Go.bz Go.eM
structure JD (V:View) (n:Nat) (vs:List Value) (l:List L3):Prop where
 row:Row 9 HT V vs l
 len:n=l.length
 mM:l.length<50
theorem JD.le {V V':View}{n:Nat}{vs:List Value}{l:List L3}(h:JD V n vs l)(e:V.Le V'):JD V' n vs l:=⟨h.row.le fun _ _ g=>HT.le g e,h.len,h.mM⟩
theorem JD.get {V:View}{n:Nat}{vs:List Value}{l:List L3}(h:JD V n vs l){k:Nat}(hk:k<l.length):∃(x y:Int)(p:OA)(xb yb:Int)(pb:OA)(xc yc:Int)(pc:OA),
  ((0+k*9)+9<=vs.length/\(vs.drop (0+k*9)).take 9=[.int .i64 x,.int .i64 y,.pointer p,.int .i64 xb,.int .i64 yb,.pointer pb,.int .i64 xc,.int .i64 yc,.pointer pc])/\HT V (.agg #[.int .i64 x,.int .i64 y,.pointer p,.int .i64 xb,.int .i64 yb,.pointer pb,.int .i64 xc,.int .i64 yc,.pointer pc]) (l.getD k Kq):=by
 obtain ⟨xs,-,h2,h3,h4⟩:=h.row.get (d:=Kq) hk (by decide)
 have h20:=h2
 obtain ⟨x,y,p,xb,yb,pb,xc,yc,pc,e⟩:=h2.shape
 have e:=congrArg Array.toList (Value.agg.inj e)
 dsimp only at e
 subst e
 rw [Nat.zero_add]
 exact ⟨x,y,p,xb,yb,pb,xc,yc,pc,⟨h3,h4⟩,h20⟩
theorem JD.swap {V:View}{n:Nat}{vs:List Value}{l:List L3}(h:JD V n vs l){i j:Nat}(hi:i<l.length)(hj:j<l.length){x y:Int}{p:OA}{xb yb:Int}{pb:OA}{xc yc:Int}{pc:OA}{x' y':Int}{p':OA}{Lt Lx:Int}{pb':OA}{OB RK:Int}{pc':OA}
  (h1:HT V (.agg #[.int .i64 x,.int .i64 y,.pointer p,.int .i64 xb,.int .i64 yb,.pointer pb,.int .i64 xc,.int .i64 yc,.pointer pc]) (l.getD i Kq))(h2:HT V (.agg #[.int .i64 x',.int .i64 y',.pointer p',.int .i64 Lt,.int .i64 Lx,.pointer pb',.int .i64 OB,.int .i64 RK,.pointer pc']) (l.getD j Kq)) :
  (0+i*9)+9<=vs.length/\(0+j*9)+9<=(ae vs (0+i*9) [.int .i64 x',.int .i64 y',.pointer p',.int .i64 Lt,.int .i64 Lx,.pointer pb',.int .i64 OB,.int .i64 RK,.pointer pc']).length /\
  JD V n (ae (ae vs (0+i*9) [.int .i64 x',.int .i64 y',.pointer p',.int .i64 Lt,.int .i64 Lx,.pointer pb',.int .i64 OB,.int .i64 RK,.pointer pc']) (0+j*9) [.int .i64 x,.int .i64 y,.pointer p,.int .i64 xb,.int .i64 yb,.pointer pb,.int .i64 xc,.int .i64 yc,.pointer pc]) (iT Kq l i j):=by
 obtain ⟨-,-,-,g1,-⟩:=h.row.get (d:=Kq) hi (by decide)
 obtain ⟨-,-,-,g2,-⟩:=h.row.get (d:=Kq) hj (by decide)
 rw [Nat.zero_add,Nat.zero_add]
 refine ⟨g1,by rw [jr (by exact g1)];exact g2,h.row.swap hi hj (by decide) rfl rfl h1 h2,by rw [mY];exact h.len,by rw [mY];exact h.mM⟩
end Go.Proofs.Tryz
namespace Go.Proofs.Tryz
open Go.bz
set_option maxRecDepth 100000
end Go.Proofs.Tryz
namespace Go.Proofs.Tryz
open Go.bz Go.eM
structure GR {α:Type} (sz:Nat) (R:View->Value->α->Prop) (V:View) (n c:Nat) (vs:List Value) (l:List α):Prop where
 len:n=l.length
 le:n<=c
 cap:c*sz<=vs.length
 row:Row sz R V vs l
theorem GR.nil {α:Type}{sz:Nat}{R:View->Value->α->Prop}{V:View}:GR sz R V 0 0 [] []:=⟨rfl,Nat.le_refl _,by simp,Row.nil⟩
theorem GR.mono {α:Type}{sz:Nat}{R:View->Value->α->Prop}{V V':View}{n c:Nat}{vs:List Value}{l:List α}(h:GR sz R V n c vs l)(m:∀v a,R V v a->R V' v a):GR sz R V' n c vs l:=⟨h.len,h.le,h.cap,h.row.le m⟩
theorem GR.snoc {α:Type}{sz:Nat}{R:View->Value->α->Prop}{V:View}{n c:Nat}{vs:List Value}{l:List α}(h:GR sz R V n c vs l){xs:List Value}{a:α}(hx:xs.length=sz)(ha:R V (.agg xs.toArray) a)(h0:0<sz){sp:List Value}{c':Nat}(h1:n+1<=c')(h2:c'*sz<=(n+1)*sz+sp.length) :
  GR sz R V (n+1) c' (vs.take (n*sz)++xs++sp) (l++[a]):=by
 have hn:=h.len
 have hc:=h.cap
 have hl:n*sz<=c*sz:=Nat.mul_le_mul_right _ h.le
 refine ⟨by rw [List.length_append,hn];rfl,h1,?_,?_⟩
 ·have ht:(vs.take (n*sz)).length=n*sz:=by rw [List.length_take];omega
  rw [List.length_append,List.length_append,ht,hx]
  rw [Nat.succ_mul] at h2
  exact h2
 ·have:=h.row.snoc (sp:=sp) hx ha h0
  rw [←hn] at this
  exact this
end Go.Proofs.Tryz
namespace Go.Proofs.Tryz
open Go.bz
set_option maxRecDepth 100000
end Go.Proofs.Tryz
namespace Go.Proofs.Tryz
open Go.bz Go.eM
def cK (l:L3):L3:=if l.1<0\/l.1=0/\l.2.1<0 then zJ l else l
def Tr.uI:Tr->List L3
 | .leaf _=>[]
 | .node l a b=>l::(a.uI++b.uI)
theorem mS:∀t:Tr,t.uI.length=t.size
 | .leaf _=>rfl
 | .node _ a b=>by simp only [Tr.uI,List.length_cons,List.length_append,mS a,mS b,Tr.size]
theorem mQ {p:L3->Prop}:∀{t:Tr},t.iU p->∀x∈t.uI,p x
 | .leaf _,_,x,h=>by cases h
 | .node l a b,⟨h1,h2,h3⟩,x,h=>by
  rcases List.mem_cons.1 h with rfl|h
  ·exact h1
  ·rcases List.mem_append.1 h with h|h
   ·exact mQ h2 x h
   ·exact mQ h3 x h
theorem Bd.rev {l:L3}(h:Bd l):Bd (zJ l):=by
 obtain ⟨h1,h2,h3⟩:=h
 unfold Bd zJ
 simp only [Int.natAbs_neg]
 exact ⟨h1,h2,h3⟩
theorem Bd.can {l:L3}(h:Bd l):Bd (cK l):=by
 unfold cK;split
 ·exact h.rev
 ·exact h
theorem Bd.J_ {l:L3}(h:Bd l):Fs 1000 l:=⟨h.sz.1,h.sz.2.1,h.sz.2.2⟩
theorem GG {V:View}{P:Prop}{b:Nat}(h:P->V.H b):V.Le (V.shut.bR P b):=fun x o g=>⟨fun hh=>by
 rcases hh with hh|hh
 ·exact g.1 hh
 ·rw [hh.2.1] at g;exact g.1 (h hh.1),g.2⟩
theorem ab.NC {f:FuncId}{args:Array Value}{V:View}{R R':Value->View->Prop}(h:ab prog f args V R)(hR:∀r V',V.Le V'->(∀b,V.H b->V'.H b)->R r V'->R' r V'):ab prog f args V R':=
 ⟨h.1,h.2.mono fun _ w' ⟨r,he,hx,hr⟩=>⟨r,he,hx,hR r _ (V.GH w' hx) (fun _ hb=>hb) hr⟩⟩
end Go.Proofs.Tryz
namespace Go.Proofs.Tryz.aw
open Go.bz Go.eM
def nv (l:L3)(v:V2):Rat:=(l.1:Rat)*v.1+(l.2.1:Rat)*v.2
def cj (l:L3):V2:=((l.2.1:Rat),-(l.1:Rat))
theorem J3 (l:L3)(v:V2):nv l v=cr (cj l) v:=by unfold nv cr cj;grind
def va (l:L3)(p v:V2):Int:=if (cq l p.1 p.2).num.sign=0 then (nv l v).num.sign else (cq l p.1 p.2).num.sign
def gC:Tr->V2->V2->Bool×Bool
 | .leaf i,_,_=>(i,true)
 | .node l a b,p,v=>if va l p v=1 then gC a p v else if va l p v=-1 then gC b p v else (false,false)
def cO:Tr->V2->List L3
 | .leaf _,_=>[]
 | .node l a b,p=>(if cq l p.1 p.2=0 then [l] else [])++((if cq l p.1 p.2≥0 then cO a p else [])++(if cq l p.1 p.2<=0 then cO b p else []))
theorem lY:∀{t:Tr} {p:V2} {l:L3},l∈cO t p->cq l p.1 p.2=0/\l∈t.uI
 | .leaf _,_,_,h=>by cases h
 | .node m a b,p,l,h=>by
  unfold cO at h
  simp only [List.mem_append] at h
  rcases h with h|h|h
  ·split at h
   ·rename_i e;rcases List.mem_singleton.1 h with rfl;exact ⟨e,List.mem_cons_self ..⟩
   ·cases h
  ·split at h
   ·have:=lY h;exact ⟨this.1,List.mem_cons_of_mem _ (List.mem_append_left _ this.2)⟩
   ·cases h
  ·split at h
   ·have:=lY h;exact ⟨this.1,List.mem_cons_of_mem _ (List.mem_append_right _ this.2)⟩
   ·cases h
theorem zM {q:Rat}:q.num.sign=-1↔q<0:=by
 rw [Int.sign_eq_neg_one_iff_neg,←Int.not_le,←Rat.not_le,Rat.num_nonneg]
theorem Dc {q:Rat}:q.num.sign=1↔q>0:=by
 have h:=@zM (-q)
 rw [Rat.neg_num,Int.sign_neg] at h
 constructor
 ·intro e;have:=h.1 (by rw [e]);grind
 ·intro e;have:=h.2 (by grind);omega
theorem d_ {q:Rat}:q.num.sign=0↔q=0:=by rw [Int.sign_eq_zero_iff_zero,Rat.num_eq_zero]
theorem mu:∀{t:Tr} {p v x:V2},(∀l∈cO t p,nv l v≠0)->(∀l∈cO t p,(nv l v>0->nv l x>0)/\(nv l v<0->nv l x<0)) ->
  gC t p x=gC t p v/\(gC t p v).2=true
 | .leaf _,_,_,_,_,_=>⟨rfl,rfl⟩
 | .node l a b,p,v,x,h0,h1=>by
  have ha:cq l p.1 p.2≥0->gC a p x=gC a p v/\(gC a p v).2=true:=fun e=>by
   have sub:∀m∈cO a p,m∈cO (.node l a b) p:=fun m hm=>by
    unfold cO
    rw [if_pos e]
    exact List.mem_append_right _ (List.mem_append_left _ hm)
   exact mu (fun m hm=>h0 m (sub m hm)) (fun m hm=>h1 m (sub m hm))
  have hb:cq l p.1 p.2<=0->gC b p x=gC b p v/\(gC b p v).2=true:=fun e=>by
   have sub:∀m∈cO b p,m∈cO (.node l a b) p:=fun m hm=>by
    unfold cO
    rw [if_pos e]
    exact List.mem_append_right _ (List.mem_append_right _ hm)
   exact mu (fun m hm=>h0 m (sub m hm)) (fun m hm=>h1 m (sub m hm))
  have hl:cq l p.1 p.2=0->l∈cO (.node l a b) p:=fun e=>by
   unfold cO
   rw [if_pos e]
   exact List.mem_append_left _ (List.mem_singleton.2 rfl)
  have key:va l p x=va l p v/\(va l p v=1/\cq l p.1 p.2≥0\/va l p v=-1/\cq l p.1 p.2<=0):=by
   unfold va
   by_cases e:cq l p.1 p.2=0
   ·have hm:=hl e
    rw [if_pos (d_.2 e),if_pos (d_.2 e)]
    obtain ⟨q1,q2⟩:=h1 l hm
    have q0:=h0 l hm
    by_cases q:nv l v>0
    ·rw [Dc.2 q,Dc.2 (q1 q)];exact ⟨rfl,.inl ⟨rfl,by grind⟩⟩
    ·have q':nv l v<0:=by grind
     rw [zM.2 q',zM.2 (q2 q')];exact ⟨rfl,.inr ⟨rfl,by grind⟩⟩
   ·have e':¬(cq l p.1 p.2).num.sign=0:=fun h=>e (d_.1 h)
    rw [if_neg e',if_neg e']
    refine ⟨rfl,?_⟩
    by_cases q:cq l p.1 p.2>0
    ·exact .inl ⟨Dc.2 q,by grind⟩
    ·exact .inr ⟨zM.2 (by grind),by grind⟩
  obtain ⟨k1,k2⟩:=key
  simp only [gC,k1]
  rcases k2 with ⟨e,g⟩|⟨e,g⟩
  ·rw [e,if_pos rfl,if_pos rfl];exact ha g
  ·rw [e,if_neg (by decide),if_pos rfl,if_neg (by decide),if_pos rfl];exact hb g
def Ee (D:List V2)(M:List L3):Prop:=∀l∈M,∃r∈D,∃c:Rat,c>0/\r=(c*(cj l).1,c*(cj l).2)
theorem Cz {l:L3}{r:V2}{c:Rat}(c0:c>0)(e:r=(c*(cj l).1,c*(cj l).2))(v:V2):cr r v=c*nv l v:=by
 rw [J3,e];unfold cr;grind
theorem DZ {c x:Rat}(c0:c>0):(c*x>0↔x>0)/\(c*x<0↔x<0)/\(c*x=0↔x=0):=by
 have p:x>0->c*x>0:=fun h=>mp c0 h
 have n:x<0->c*x<0:=fun h=>by have:=mp c0 (show -x>0 by grind);grind
 have z:x=0->c*x=0:=fun h=>by rw [h];grind
 refine ⟨⟨fun h=>?_,p⟩,⟨fun h=>?_,n⟩,⟨fun h=>?_,z⟩⟩
 ·by_cases q:x>0
  ·exact q
  ·by_cases q':x<0
   ·have:=n q';grind
   ·have:=z (by grind);grind
 ·by_cases q:x<0
  ·exact q
  ·by_cases q':x>0
   ·have:=p q';grind
   ·have:=z (by grind);grind
 ·rcases Rat.mul_eq_zero.1 h with h|h
  ·grind
  ·exact h
theorem Ee.gen {D:List V2}{M:List L3}(h:Ee D M){v:V2}(hv:∀r∈D,cr r v≠0):∀l∈M,nv l v≠0:=by
 intro l hl e
 obtain ⟨r,hr,c,c0,e'⟩:=h l hl
 exact hv r hr (by rw [Cz c0 e',e];grind)
theorem Ee.same {D:List V2}{M:List L3}(h:Ee D M){v x:V2}(hv:∀r∈D,(cr r v>0->cr r x>0)/\(cr r v<0->cr r x<0)) :
  ∀l∈M,(nv l v>0->nv l x>0)/\(nv l v<0->nv l x<0):=by
 intro l hl
 obtain ⟨r,hr,c,c0,e'⟩:=h l hl
 have:=hv r hr
 rw [Cz c0 e',Cz c0 e'] at this
 obtain ⟨a1,a2,_⟩:=@DZ c (nv l v) c0
 obtain ⟨b1,b2,_⟩:=@DZ c (nv l x) c0
 exact ⟨fun h=>b1.1 (this.1 (a1.2 h)),fun h=>b2.1 (this.2 (a2.2 h))⟩
theorem HC {D S:List V2}(h:Aj D)(hS:Fq D S):∀x∈S,nz x:=by
 intro x hx
 have g:=tz h hS x hx
 rcases hS with ⟨rfl,rfl⟩|⟨h0,_,_⟩
 ·rcases List.mem_singleton.1 hx with rfl;exact .inl (by decide)
 ·obtain ⟨d,hd⟩:=List.exists_mem_of_ne_nil D h0
  have:=g d hd
  unfold nz
  by_cases e:x.1=0
  ·right;intro e';exact this (by unfold cr;rw [e,e'];grind)
  ·exact .inl e
theorem Nu {D E S':List V2}(hD:∀r∈D,nz r)(hE:Aj E)(hS':Fq E S'){t:Tr}{p x:V2}(nx:nz x)(hx:∀r∈D,cr r x≠0)(c1:Ee D (cO t p))(c2:Ee E (cO t p)) :
  ∃y∈S',gC t p y=gC t p x/\(gC t p x).2=true:=by
 obtain ⟨z,hz⟩:=Lk x nx (D++E) fun r hr=>by
  rcases List.mem_append.1 hr with h|h
  ·exact hD r h
  ·exact hE.nz r h
 have z1:∀r∈D,(cr r x>0->cr r z>0)/\(cr r x<0->cr r z<0):=fun r hr=>⟨(hz r (List.mem_append_left _ hr)).1,(hz r (List.mem_append_left _ hr)).2.1⟩
 have z2:∀r∈E,cr r z≠0:=fun r hr=>(hz r (List.mem_append_right _ hr)).2.2
 obtain ⟨y,hy,y1⟩:=Ju hE hS' z2
 have t1:=mu (c1.gen hx) (c1.same z1)
 have t2:=mu (c2.gen z2) (c2.same y1)
 exact ⟨y,hy,t2.1.trans t1.1,t1.2⟩
def anyS (t:Tr)(p:V2)(S:List V2):Bool:=S.any fun v=>(gC t p v).1
def jx (t:Tr)(p:V2)(S:List V2):Bool:=S.all fun v=>(gC t p v).1
theorem K9 {D S E S':List V2}(hD:Aj D)(hS:Fq D S)(hE:Aj E)(hS':Fq E S'){t:Tr}{p:V2}(c1:Ee D (cO t p))(c2:Ee E (cO t p)) :
  anyS t p S=anyS t p S'/\jx t p S=jx t p S':=by
 have a:∀x∈S,∃y∈S',gC t p y=gC t p x:=fun x hx=>by
  obtain ⟨y,hy,e,_⟩:=Nu hD.nz hE hS' (HC hD hS x hx) (tz hD hS x hx) c1 c2
  exact ⟨y,hy,e⟩
 have b:∀x∈S',∃y∈S,gC t p y=gC t p x:=fun x hx=>by
  obtain ⟨y,hy,e,_⟩:=Nu hE.nz hD hS (HC hE hS' x hx) (tz hE hS' x hx) c2 c1
  exact ⟨y,hy,e⟩
 unfold anyS jx
 constructor
 ·rw [Bool.eq_iff_iff,List.any_eq_true,List.any_eq_true]
  constructor
  ·rintro ⟨x,hx,h⟩;obtain ⟨y,hy,e⟩:=a x hx;exact ⟨y,hy,by rw [e];exact h⟩
  ·rintro ⟨x,hx,h⟩;obtain ⟨y,hy,e⟩:=b x hx;exact ⟨y,hy,by rw [e];exact h⟩
 ·rw [Bool.eq_iff_iff,List.all_eq_true,List.all_eq_true]
  constructor
  ·intro h x hx;obtain ⟨y,hy,e⟩:=b x hx;rw [←e];exact h y hy
  ·intro h x hx;obtain ⟨y,hy,e⟩:=a x hx;rw [←e];exact h y hy
theorem inv_mul {c:Rat}(h:c≠0)(a:Rat):a*c⁻¹*c=a:=by rw [Rat.mul_assoc,Rat.inv_mul_cancel _ h,Rat.mul_one]
end Go.Proofs.Tryz.aw
