import Derived.Test.YthpmdmkmfoaamaaGreatDoorT13
import Derived.Test.YthpmdmkmfoaamaaGreatDoorT7
import Derived.Test.YthpmdmkmfoaamaaGreatDoorT9
import Derived.Test.YthpmdmkmfoaamaaGreatDoorT12
import Derived.Test.YthpmdmkmfoaamaaGreatDoorT5
import Derived.Test.YthpmdmkmfoaamaaGreatDoorT8
import Derived.Test.YthpmdmkmfoaamaaGreatDoorT11
set_option linter.unusedVariables false
open Go.IntKind (i64 u64 u32)
namespace Go.Proofs.Tryz
open Go.bh Go.dN
theorem dS {V:View}{l:List Nd}(hb:∀x∈l,Bd x.ln){v:Value}{root:Int}(h:AT V v root l) :
  ab prog 45 #[v] V fun r V'=>∃q,r=.tuple #[.pointer q,.bool (dv l root).isSome]/\∀t,dv l root=some t->RT V' q t:=by
 obtain ⟨p,n,c,rfl,h⟩:=h
 refine (zN hb root h).mono ?_
 rintro r V' _ ⟨h1,h2⟩
 cases e:dv l root with
 | none=>obtain ⟨q,rfl⟩:=h1 e;exact ⟨q,rfl,fun t ht=>by cases ht⟩
 | some t=>obtain ⟨q,rfl,hq⟩:=h2 t e;exact ⟨q,rfl,fun t' ht=>by cases ht;exact hq⟩
theorem dG {V:View}{l:List Nd}(hb:∀x∈l,Bd x.ln){v:Value}{root:Int}(h:AT V v root l) :
  ab prog 37 #[v] V fun r V'=>r=.bool (dv l root).isSome:=by
 have h0:=h
 obtain ⟨p,n,c,rfl,-⟩:=h
 refine qD root p n c V _ fun V1 l1=>(dS hb (h0.le l1)).mono ?_
 rintro r V2 l2 ⟨q,rfl,-⟩
 exact ⟨_,_,rfl,fun V3 l3=>rfl⟩
theorem lV {V:View}(code:Int){y:Value}(hy:my V 0 y) :
  ab prog 87 #[.int .i64 code] V fun r V'=>∃v e,r=.tuple #[v,e]/\(if code=-2\/code=-1 then v=.agg #[.int .i64 code,.slice none 0 0]/\e=.nilIface else v=.agg #[.int .i64 0,.slice none 0 0]/\e=y):=by
 refine tA code V _ ⟨fun h1=>⟨fun h2=>⟨y,⟨_,rfl,hy⟩,fun V1 l1=>⟨_,_,rfl,?_⟩⟩,fun h2 V2 l2=>⟨_,_,rfl,?_⟩⟩,fun h1 V3 l3=>⟨_,_,rfl,?_⟩⟩
 ·have h1:¬code=-2:=by simpa using h1
  have h2:¬code=-1:=by simpa using h2
  rw [if_neg (by omega)];exact ⟨rfl,rfl⟩
 ·have h2:code=-1:=by simpa using h2
  rw [if_pos (by omega)];exact ⟨rfl,rfl⟩
 ·have h1:code=-2:=by simpa using h1
  rw [if_pos (by omega)];exact ⟨rfl,rfl⟩
def iL (x:L3)(a b:Option Tr):Option Tr:=
 match a,b with
 | some a,some b=>if fV x=true then some (.node x a b) else none
 | _,_=>none
theorem uc {V:View}{u v w:Value}{x:L3}{r1 r2:Int}{l1 l2:List Nd}(hx:RL V u x.1 x.2.1 x.2.2)(hbx:Bd x)(h1:AT V v r1 l1)(h2:AT V w r2 l2)(hb1:∀x∈l1,Bd x.ln)(hb2:∀x∈l2,Bd x.ln)
  {y z:Value}(hy:my V 0 y)(hz:my V 1 z) :
  ab prog 88 #[u,v,w] V fun r V'=>∃o e,r=.tuple #[o,e]/\(iL x (dv l1 r1) (dv l2 r2)=none->o=.agg #[.int .i64 0,.slice none 0 0]/\e=y) /\
   (∀t,iL x (dv l1 r1) (dv l2 r2)=some t->if 65536<t.size then o=.agg #[.int .i64 0,.slice none 0 0]/\e=z else AT V' o (rt 0 t) (wr 0 t)/\e=.nilIface):=by
 have hx0:=hx
 have h10:=h1
 have h20:=h2
 obtain ⟨p1,n1,c1,p2,n2,c2,p3,n3,c3,rfl,-⟩:=hx
 obtain ⟨q1,m1,d1,rfl,-⟩:=h1
 obtain ⟨q2,m2,d2,rfl,-⟩:=h2
 refine tz _ p1 n1 c1 _ p2 n2 c2 _ p3 n3 c3 r1 q1 m1 d1 r2 q2 m2 d2 V _ fun V1 k1=>(lT (hx0.le k1) hbx).mono ?_
 rintro r V2 k2 ⟨ww,rfl,⟨x1,x2,x3,y1,y2,y3,z1,z2,z3,rfl⟩,hw⟩
 have JX:=k1.trans k2
 refine ⟨_,_,_,_,_,_,_,_,_,_,rfl,fun V3 k3=>(dS hb1 (h10.le (JX.trans k3))).mono ?_⟩
 rintro r V4 k4 ⟨a,rfl,ha⟩
 have JY:=JX.trans (k3.trans k4)
 refine ⟨_,_,rfl,fun V5 k5=>(dS hb2 (h20.le (JY.trans k5))).mono ?_⟩
 rintro r V6 k6 ⟨b,rfl,hb⟩
 have GC:=JY.trans (k5.trans k6)
 have fin:∀V7:View,iL x (dv l1 r1) (dv l2 r2)=none->∃o e,Value.tuple #[.agg #[.int .i64 0,.slice none 0 0],y]=.tuple #[o,e]/\(iL x (dv l1 r1) (dv l2 r2)=none->o=.agg #[.int .i64 0,.slice none 0 0]/\e=y) /\
   (∀t,iL x (dv l1 r1) (dv l2 r2)=some t->if 65536<t.size then o=.agg #[.int .i64 0,.slice none 0 0]/\e=z else AT V7 o (rt 0 t) (wr 0 t)/\e=.nilIface):=by
  intro V7 h
  exact ⟨_,_,rfl,fun _=>⟨rfl,rfl⟩,fun t ht=>by rw [h] at ht;cases ht⟩
 refine ⟨_,_,rfl,fun g1=>⟨y,⟨_,rfl,hy.le GC⟩,fun V7 k7=>fin V7 ?_⟩,fun g1=>⟨fun g2=>⟨y,⟨_,rfl,hy.le GC⟩,fun V8 k8=>fin V8 ?_⟩,fun g2=>⟨fun g3=>⟨y,⟨_,rfl,hy.le GC⟩,fun V9 k9=>fin V9 ?_⟩,fun g3 jq k10=>?_⟩⟩⟩
 ·have g1:fV x=false:=by simpa using g1
  unfold iL
  split
  ·rw [g1];rfl
  ·rfl
 ·have g2:dv l1 r1=none:=by simpa using g2
  unfold iL;rw [g2]
 ·have g3:dv l2 r2=none:=by simpa using g3
  unfold iL;rw [g3];split<;>first|rfl|(rename_i h;cases h)
 ·have g1:fV x=true:=by simpa using g1
  have g2:(dv l1 r1).isSome=true:=by simpa using g2
  have g3:(dv l2 r2).isSome=true:=by simpa using g3
  obtain ⟨s,hs⟩:=Option.isSome_iff_exists.1 g2
  obtain ⟨t,ht⟩:=Option.isSome_iff_exists.1 g3
  have ls:V2.Le jq:=k3.trans (k4.trans (k5.trans (k6.trans k10)))
  refine (qU ((hw g1).le ls) ((ha s hs).le (k5.trans (k6.trans k10))) ((hb t ht).le k10)).mono ?_
  have hj:iL x (dv l1 r1) (dv l2 r2)=some (.node x s t):=by unfold iL;rw [hs,ht,g1];rfl
  rintro r pJ k11 ⟨p,rfl,hp⟩
  have ET:=jk hb1 hs
  have EU:=jk hb2 ht
  have ss:=oG hs
  have st:=oG ht
  refine ⟨p,rfl,fun nu k12=>(pQ (hp.le k12) ⟨hbx,ET,EU⟩ (by simp only [Tr.size];omega) (hz.le (GC.trans (k10.trans (k11.trans k12))))).mono ?_⟩
  rintro r qH k13 ⟨o,e,rfl,ho⟩
  rw [hj]
  by_cases hbig:65536<(Tr.node x s t).size
  ·rw [if_pos hbig] at ho
   obtain ⟨rfl,rfl⟩:=ho
   refine ⟨_,_,_,_,_,rfl,fun pK k14=>⟨_,_,rfl,(fun h=>by cases h),fun u hu=>?_⟩⟩
   cases hu
   rw [if_pos hbig];exact ⟨rfl,rfl⟩
  ·rw [if_neg hbig] at ho
   obtain ⟨ho,rfl⟩:=ho
   have ho0:=ho
   obtain ⟨q,n,c,rfl,-⟩:=ho
   refine ⟨_,_,_,_,_,rfl,fun pK k14=>⟨_,_,rfl,(fun h=>by cases h),fun u hu=>?_⟩⟩
   cases hu
   rw [if_neg hbig];exact ⟨ho0.le k14,rfl⟩
theorem lW {V:View}{v w:Value}{r1 r2:Int}{l1 l2:List Nd}(h1:AT V v r1 l1)(h2:AT V w r2 l2)(hb1:∀x∈l1,Bd x.ln)(hb2:∀x∈l2,Bd x.ln) :
  ab prog 39 #[v,w] V fun r V'=>r=.bool (match dv l1 r1,dv l2 r2 with|some a,some b=>decide (a=b)|_,_=>false):=by
 have h10:=h1
 have h20:=h2
 obtain ⟨q1,m1,d1,rfl,-⟩:=h1
 obtain ⟨q2,m2,d2,rfl,-⟩:=h2
 refine tB r1 q1 m1 d1 r2 q2 m2 d2 V _ fun V1 k1=>(dS hb1 (h10.le k1)).mono ?_
 rintro r V2 k2 ⟨a,rfl,ha⟩
 refine ⟨_,_,rfl,fun V3 k3=>(dS hb2 (h20.le (k1.trans (k2.trans k3)))).mono ?_⟩
 rintro r V4 k4 ⟨b,rfl,hb⟩
 refine ⟨_,_,rfl,fun g1=>⟨fun g2 V5 k5=>?_,fun g2 V8 k8=>?_⟩,fun g1 V9 k9=>?_⟩
 ·obtain ⟨s,hs⟩:=Option.isSome_iff_exists.1 g1
  obtain ⟨t,ht⟩:=Option.isSome_iff_exists.1 g2
  refine (vS s t ((ha s hs).le (k3.trans (k4.trans k5))) ((hb t ht).le k5) (jk hb1 hs) (jk hb2 ht)).mono ?_
  rintro r V6 k6 rfl
  refine ⟨_,rfl,fun V7 k7=>?_⟩
  rw [hs,ht]
 ·have g2:dv l2 r2=none:=by simpa using g2
  rw [g2]
  cases dv l1 r1<;>rfl
 ·have g1:dv l1 r1=none:=by simpa using g1
  rw [g1]
theorem sr {V:View}{v:Value}{r1:Int}{l1:List Nd}(h1:AT V v r1 l1)(hb1:∀x∈l1,Bd x.ln){y:Value}(hy:my V 0 y) :
  ab prog 34 #[v] V fun r V'=>∃o e,r=.tuple #[o,e]/\(dv l1 r1=none->o=.agg #[.int .i64 0,.slice none 0 0]/\e=y)/\(∀t,dv l1 r1=some t->AT V' o (rt 0 t) (wr 0 t)/\e=.nilIface):=by
 have h10:=h1
 obtain ⟨q1,m1,d1,rfl,-⟩:=h1
 refine qC r1 q1 m1 d1 V _ fun V1 k1=>(dS hb1 (h10.le k1)).mono ?_
 rintro r V2 k2 ⟨a,rfl,ha⟩
 refine ⟨_,_,rfl,fun g1=>⟨y,⟨_,rfl,hy.le (k1.trans k2)⟩,fun V3 k3=>⟨_,_,rfl,fun _=>⟨rfl,rfl⟩,fun t ht=>?_⟩⟩,fun g1 V4 k4=>?_⟩
 ·have g1:dv l1 r1=none:=by simpa using g1
  rw [g1] at ht;cases ht
 ·have g1:(dv l1 r1).isSome=true:=by simpa using g1
  obtain ⟨s,hs⟩:=Option.isSome_iff_exists.1 g1
  have:=oG hs
  refine (qT ((ha s hs).le k4) (jk hb1 hs) (by omega)).mono ?_
  rintro r V5 k5 ⟨q,n,c,rfl,hns⟩
  refine ⟨_,_,_,_,rfl,fun V6 k6=>⟨_,_,rfl,(fun h=>by rw [hs] at h;cases h),fun t ht=>?_⟩⟩
  rw [hs] at ht;cases ht
  exact ⟨⟨_,_,_,rfl,hns.le k6⟩,rfl⟩
end Go.Proofs.Tryz
namespace Go.Proofs.Tryz
open Go.dN
section
variable {α:Type}
structure Ord (c:α->α->Int):Prop where
 Ea:∀a b,c a b<0->¬c b a<0
 tr:∀a b d,¬c a b<0->¬c b d<0->¬c a d<0
variable {c:α->α->Int}
theorem Ord.le (h:Ord c){a b:α}(l:c a b<0):¬c b a<0:=h.Ea a b l
theorem Ord.refl (h:Ord c)(a:α):¬c a a<0:=fun l=>h.Ea a a l l
def mK (d:α)(l:List α)(i j:Nat):List α:=(l.set i (l.getD j d)).set j (l.getD i d)
variable {d:α}
theorem sW {l:List α}{i j:Nat}:(mK d l i j).length=l.length:=by simp [mK]
theorem kn {l:List α}{i k:Nat}{x:α}(hi:i<l.length):(l.set i x).getD k d=if k=i then x else l.getD k d:=by
 simp only [List.getD_eq_getElem?_getD,List.getElem?_set]
 by_cases h:k=i
 ·subst h;simp [hi]
 ·have:¬i=k:=fun e=>h e.symm
  simp [h,this]
theorem jP {l:List α}{i j k:Nat}(hi:i<l.length)(hj:j<l.length):(mK d l i j).getD k d=if k=j then l.getD i d else if k=i then l.getD j d else l.getD k d:=by
 unfold mK
 rw [kn (by simpa using hj),kn hi]
theorem Bc {l:List α}{i j:Nat}(hi:i<l.length)(hj:j<l.length):(mK d l i j).Perm l:=by
 have h:=Array.swap_perm (xs:=l.toArray) (i:=i) (j:=j) (by simpa using hi) (by simpa using hj)
 have e:(l.toArray.swap i j (by simpa using hi) (by simpa using hj)).toList=mK d l i j:=by
  simp [Array.swap,mK,List.getD_eq_getElem?_getD,hi,hj]
 have:=h.toList
 rw [e] at this
 simpa using this
structure lQ (d:α) (l m:List α) (a b:Nat):Prop where
 len:m.length=l.length
 out:∀k,¬(a<=k/\k<b)->m.getD k d=l.getD k d
 mem:∀k,a<=k->k<b->∃k',a<=k'/\k'<b/\m.getD k d=l.getD k' d
 perm:m.Perm l
theorem lQ.refl (l:List α)(a b:Nat):lQ d l l a b:=⟨rfl,fun _ _=>rfl,fun k h h'=>⟨k,h,h',rfl⟩,.refl _⟩
theorem lQ.trans {l m n:List α}{a b:Nat}(h:lQ d l m a b)(g:lQ d m n a b):lQ d l n a b:=
 ⟨g.len.trans h.len,fun k hk=>(g.out k hk).trans (h.out k hk),fun k h1 h2=>by
  obtain ⟨k',h3,h4,e⟩:=g.mem k h1 h2
  obtain ⟨k'',h5,h6,e'⟩:=h.mem k' h3 h4
  exact ⟨k'',h5,h6,e.trans e'⟩,g.perm.trans h.perm⟩
theorem lQ.wide {l m:List α}{a b a' b':Nat}(h:lQ d l m a b)(ha:a'<=a)(hb:b<=b'):lQ d l m a' b':=
 ⟨h.len,fun k hk=>h.out k (by omega),fun k h1 h2=>by
  by_cases hk:a<=k/\k<b
  ·obtain ⟨k',h3,h4,e⟩:=h.mem k hk.1 hk.2
   exact ⟨k',by omega,by omega,e⟩
  ·exact ⟨k,h1,h2,h.out k hk⟩,h.perm⟩
theorem lQ.mK {l:List α}{a b i j:Nat}(hi:a<=i)(hi':i<b)(hj:a<=j)(hj':j<b)(hb:b<=l.length):lQ d l (mK d l i j) a b:=by
 refine ⟨sW,fun k hk=>?_,fun k h1 h2=>?_,Bc (by omega) (by omega)⟩
 ·rw [jP (by omega) (by omega),if_neg (by omega),if_neg (by omega)]
 ·rw [jP (by omega) (by omega)]
  split
  ·exact ⟨i,hi,hi',rfl⟩
  ·split
   ·exact ⟨j,hj,hj',rfl⟩
   ·exact ⟨k,h1,h2,rfl⟩
def pO (c:α->α->Int)(d:α)(l:List α)(a b:Nat):Prop:=∀p q,a<=p->p<q->q<b->¬c (l.getD q d) (l.getD p d)<0
theorem pO.short {l:List α}{a b:Nat}(h:b<=a+1):pO c d l a b:=fun p q h1 h2 h3=>by omega
theorem pO.step (ho:Ord c){l:List α}{a b:Nat}(h:pO c d l a b)(h0:a<b)(hb:¬c (l.getD b d) (l.getD (b-1) d)<0):pO c d l a (b+1):=by
 intro p q h1 h2 h3
 by_cases e:q=b
 ·subst e
  by_cases e':p=q-1
  ·subst e';exact hb
  ·exact ho.tr _ _ _ hb (h p (q-1) h1 (by omega) (by omega))
 ·exact h p q h1 h2 (by omega)
def De (c:α->α->Int)(d:α)(l:List α)(a i j:Nat):Prop:=∀p q,a<=p->p<q->q<=i->q≠j->¬c (l.getD q d) (l.getD p d)<0
theorem De.start {l:List α}{a i:Nat}(h:pO c d l a i):De c d l a i i:=fun p q h1 h2 h3 h4=>h p q h1 h2 (by omega)
theorem De.done (ho:Ord c){l:List α}{a i j:Nat}(h:De c d l a i j)(hji:j<=i)(hs:j<=a\/¬c (l.getD j d) (l.getD (j-1) d)<0):pO c d l a (i+1):=by
 intro p q h1 h2 h3
 by_cases e:q=j
 ·subst e
  rcases hs with hs|hs
  ·omega
  ·by_cases e':p=q-1
   ·subst e';exact hs
   ·exact ho.tr _ _ _ hs (h p (q-1) h1 (by omega) (by omega) (by omega))
 ·exact h p q h1 h2 (by omega) e
theorem De.move (ho:Ord c){l:List α}{a i j:Nat}(h:De c d l a i j)(hj:a<j)(hji:j<=i)(hi:i<l.length)(hl:c (l.getD j d) (l.getD (j-1) d)<0):De c d (mK d l j (j-1)) a i (j-1):=by
 intro p q h1 h2 h3 h4
 have ha:=fun k=>jP (d:=d) (l:=l) (i:=j) (j:=j-1) (k:=k) (by omega) (by omega)
 rw [ha,ha]
 by_cases eq:q=j
 ·subst eq
  rw [if_neg (by omega),if_pos rfl]
  by_cases ep:p=q-1
  ·rw [if_pos ep];exact ho.Ea _ _ hl
  ·rw [if_neg ep,if_neg (by omega)];exact h p (q-1) h1 (by omega) (by omega) (by omega)
 ·rw [if_neg h4,if_neg eq]
  by_cases ep:p=j-1
  ·rw [if_pos ep];exact h j q (by omega) (by omega) h3 eq
  ·rw [if_neg ep]
   by_cases Js:p=j
   ·rw [if_pos Js];exact h (j-1) q (by omega) (by omega) h3 eq
   ·rw [if_neg Js];exact h p q h1 h2 h3 eq
def Hp (c:α->α->Int)(d:α)(l:List α)(f lo hi:Nat)(r:Option Nat):Prop:=
 (∀i k,lo<=i->(k=2*i+1\/k=2*i+2)->k<hi->r≠some i->¬c (l.getD (f+i) d) (l.getD (f+k) d)<0) /\
 (∀i j k,r=some j->lo<=i->(j=2*i+1\/j=2*i+2)->(k=2*j+1\/k=2*j+2)->k<hi->¬c (l.getD (f+i) d) (l.getD (f+k) d)<0)
theorem Hp.top (ho:Ord c){l:List α}{f hi:Nat}(h:Hp c d l f 0 hi none):∀k,k<hi->¬c (l.getD f d) (l.getD (f+k) d)<0:=by
 intro k
 induction k using Nat.strongRecOn with
 | ind k ih=>
  intro hk
  by_cases h0:k=0
  ·subst h0;exact ho.refl _
  ·exact ho.tr _ _ _ (ih ((k-1) / 2) (by omega) (by omega)) (h.1 ((k-1) / 2) k (by omega) (by omega) hk (by simp))
theorem Hp.leaf {l:List α}{f lo hi r:Nat}(h:Hp c d l f lo hi (some r))(hr:hi<=2*r+1):Hp c d l f lo hi none:=
 ⟨fun i k h1 h2 h3 _=>by
  by_cases e:r=i
  ·omega
  ·exact h.1 i k h1 h2 h3 (by simpa using e),fun i j k e=>by cases e⟩
theorem Hp.stop (ho:Ord c){l:List α}{f lo hi r k:Nat}(h:Hp c d l f lo hi (some r))(hk:k=2*r+1\/k=2*r+2)(hm:∀k',(k'=2*r+1\/k'=2*r+2)->k'<hi->¬c (l.getD (f+k) d) (l.getD (f+k') d)<0)
  (hs:¬c (l.getD (f+r) d) (l.getD (f+k) d)<0):Hp c d l f lo hi none:=
 ⟨fun i k' h1 h2 h3 _=>by
  by_cases e:r=i
  ·subst e;exact ho.tr _ _ _ hs (hm k' h2 h3)
  ·exact h.1 i k' h1 h2 h3 (by simpa using e),fun i j k e=>by cases e⟩
theorem Hp.down (ho:Ord c){l:List α}{f lo hi r k:Nat}(h:Hp c d l f lo hi (some r))(hlo:lo<=r)(hl:f+hi<=l.length)(hk:k=2*r+1\/k=2*r+2)(hkh:k<hi)(hm:∀k',(k'=2*r+1\/k'=2*r+2)->k'<hi->¬c (l.getD (f+k) d) (l.getD (f+k') d)<0)
  (hs:c (l.getD (f+r) d) (l.getD (f+k) d)<0):Hp c d (mK d l (f+r) (f+k)) f lo hi (some k):=by
 have ha:=fun x=>jP (d:=d) (l:=l) (i:=f+r) (j:=f+k) (k:=x) (by omega) (by omega)
 refine ⟨fun i k' h1 h2 h3 h4=>?_,fun i j k' e h1 h2 h3 h4=>?_⟩
 ·have h4:¬i=k:=fun e=>h4 (by rw [e])
  rw [ha,ha,if_neg (show ¬f+i=f+k by omega)]
  by_cases er:i=r
  ·subst er
   rw [if_pos rfl]
   by_cases ek:k'=k
   ·rw [if_pos (by omega)];exact ho.Ea _ _ hs
   ·rw [if_neg (by omega),if_neg (by omega)];exact hm k' h2 h3
  ·rw [if_neg (by omega)]
   by_cases ek:k'=r
   ·subst ek
    rw [if_neg (by omega),if_pos rfl]
    exact h.2 i k' k rfl h1 h2 hk hkh
   ·rw [if_neg (by omega),if_neg (by omega)]
    exact h.1 i k' h1 h2 h3 (by simp;omega)
 ·cases e
  rw [ha,ha]
  have:i=r:=by omega
  subst this
  rw [if_neg (by omega),if_pos rfl,if_neg (by omega),if_neg (by omega)]
  exact h.1 k k' (by omega) h3 h4 (by simp;omega)
theorem Hp.more {l:List α}{f lo hi:Nat}(h:Hp c d l f (lo+1) hi none):Hp c d l f lo hi (some lo):=
 ⟨fun i k h1 h2 h3 h4=>h.1 i k (by have:¬lo=i:=fun e=>h4 (by rw [e]);omega) h2 h3 (by simp),fun i j k e h1 h2 h3 h4=>by cases e;omega⟩
def Sep (c:α->α->Int)(d:α)(l:List α)(a m b:Nat):Prop:=∀p q,a<=p->p<m->m<=q->q<b->¬c (l.getD q d) (l.getD p d)<0
theorem lQ.sep {l m:List α}{a b x y z:Nat}(h:lQ d l m a b)(hs:Sep c d l x y z)(hc:(x<=a/\b<=y)\/(y<=a/\b<=z)\/b<=x\/z<=a):Sep c d m x y z:=by
 intro p q h1 h2 h3 h4
 have key:∀k,∃k',m.getD k d=l.getD k' d/\(k=k'\/a<=k/\k<b/\a<=k'/\k'<b):=fun k=>by
  by_cases hk:a<=k/\k<b
  ·obtain ⟨k',e1,e2,e⟩:=h.mem k hk.1 hk.2
   exact ⟨k',e,.inr ⟨hk.1,hk.2,e1,e2⟩⟩
  ·exact ⟨k,h.out k hk,.inl rfl⟩
 obtain ⟨p',e1,e2⟩:=key p
 obtain ⟨q',f1,f2⟩:=key q
 rw [e1,f1]
 exact hs p' q' (by omega) (by omega) (by omega) (by omega)
theorem lQ.Bp {l m:List α}{a b x y:Nat}(h:lQ d l m a b)(hs:pO c d l x y)(hc:y<=a\/b<=x):pO c d m x y:=by
 intro p q h1 h2 h3
 rw [h.out p (by omega),h.out q (by omega)]
 exact hs p q h1 h2 h3
theorem pO.join {l:List α}{a m b:Nat}(h1:pO c d l a m)(h2:pO c d l m b)(h3:Sep c d l a m b):pO c d l a b:=by
 intro p q g1 g2 g3
 by_cases hq:q<m
 ·exact h1 p q g1 g2 hq
 ·by_cases hp:m<=p
  ·exact h2 p q hp g2 g3
  ·exact h3 p q g1 (by omega) (by omega) g3
end
end Go.Proofs.Tryz
namespace Go.Proofs.Tryz.G1
abbrev V2:=Rat×Rat
def cr (u v:V2):Rat:=u.1*v.2-u.2*v.1
def up (u:V2):Prop:=u.2>0\/u.2=0/\u.1>0
def dn (u:V2):Prop:=u.2<0\/u.2=0/\u.1<0
def nz (u:V2):Prop:=u.1≠0\/u.2≠0
def K1 (u v:V2):Prop:=(up u/\dn v)\/((up u/\up v\/dn u/\dn v)/\cr u v>0)
def L4 (s r:V2):Prop:=∃c:Rat,c>0/\s.1=-(c*r.1)/\s.2=-(c*r.2)
theorem B3 (u w r:V2):cr u r*w.2+cr r w*u.2=cr u w*r.2:=by unfold cr;grind
theorem mp {a b:Rat}(ha:a>0)(hb:b>0):a*b>0:=Rat.mul_pos ha hb
theorem mn {a b:Rat}(ha:a≥0)(hb:b≥0):a*b≥0:=Rat.mul_nonneg ha hb
theorem b1 {u w r:V2}(hu:up u)(hw:dn w)(hr:up r)(a:cr u r>0)(b:cr r w<=0)(c:cr u w≥0):False:=by
 have e:=B3 u w r
 unfold up at hu hr;unfold dn at hw
 have h1:cr u r*(-w.2)≥0:=mn (by grind) (by grind)
 have h2:(-(cr r w))*u.2≥0:=mn (by grind) (by grind)
 have h3:cr u w*r.2≥0:=mn c (by grind)
 have z1:cr u r*w.2=0:=by grind
 have w2:w.2=0:=by rcases Rat.mul_eq_zero.1 z1 with h|h<;>grind
 have w1:w.1<0:=by grind
 have bb:cr r w=-(r.2*w.1):=by unfold cr;grind
 have r2:r.2=0:=by
  by_cases h:r.2>0
  ·have:=mp h (show -w.1>0 by grind)
   grind
  ·grind
 have r1:r.1>0:=by grind
 have aa:cr u r=-(u.2*r.1):=by unfold cr;grind
 have:=mn (show u.2≥0 by grind) (show r.1≥0 by grind)
 grind
theorem b2 {u w r:V2}(hu:up u)(hw:dn w)(hr:dn r)(a:cr u r<=0)(b:cr r w>0)(c:cr u w≥0):False:=by
 have e:=B3 u w r
 unfold up at hu;unfold dn at hw hr
 have h1:(-(cr u r))*(-w.2)≥0:=mn (by grind) (by grind)
 have h2:cr r w*u.2≥0:=mn (by grind) (by grind)
 have h3:cr u w*(-r.2)≥0:=mn c (by grind)
 have z1:cr r w*u.2=0:=by grind
 have u2:u.2=0:=by rcases Rat.mul_eq_zero.1 z1 with h|h<;>grind
 have u1:u.1>0:=by grind
 have cc:cr u w=u.1*w.2:=by unfold cr;grind
 have w2:w.2=0:=by
  by_cases h:w.2<0
  ·have:=mp u1 (show -w.2>0 by grind)
   grind
  ·grind
 have w1:w.1<0:=by grind
 have bb:cr r w=-(r.2*w.1):=by unfold cr;grind
 have:=mn (show -r.2≥0 by grind) (show -w.1≥0 by grind)
 grind
theorem b3 {u w r:V2}(hu:dn u)(hw:up w)(hr:dn r)(a:cr u r>0)(b:cr r w<=0)(c:cr u w≥0):False:=by
 have e:=B3 u w r
 unfold dn at hu hr;unfold up at hw
 have h1:cr u r*w.2≥0:=mn (by grind) (by grind)
 have h2:(-(cr r w))*(-u.2)≥0:=mn (by grind) (by grind)
 have h3:cr u w*(-r.2)≥0:=mn c (by grind)
 have z1:cr u r*w.2=0:=by grind
 have w2:w.2=0:=by rcases Rat.mul_eq_zero.1 z1 with h|h<;>grind
 have w1:w.1>0:=by grind
 have bb:cr r w=-(r.2*w.1):=by unfold cr;grind
 have r2:r.2=0:=by
  by_cases h:r.2<0
  ·have:=mp w1 (show -r.2>0 by grind)
   grind
  ·grind
 have r1:r.1<0:=by grind
 have aa:cr u r=-(u.2*r.1):=by unfold cr;grind
 have:=mn (show -u.2≥0 by grind) (show -r.1≥0 by grind)
 grind
theorem b4 {u w r:V2}(hu:dn u)(hw:up w)(hr:up r)(a:cr u r<=0)(b:cr r w>0)(c:cr u w≥0):False:=by
 have e:=B3 u w r
 unfold dn at hu;unfold up at hw hr
 have h1:(-(cr u r))*w.2≥0:=mn (by grind) (by grind)
 have h2:cr r w*(-u.2)≥0:=mn (by grind) (by grind)
 have h3:cr u w*r.2≥0:=mn c (by grind)
 have z1:cr r w*u.2=0:=by grind
 have u2:u.2=0:=by rcases Rat.mul_eq_zero.1 z1 with h|h<;>grind
 have u1:u.1<0:=by grind
 have cc:cr u w=u.1*w.2:=by unfold cr;grind
 have w2:w.2=0:=by
  by_cases h:w.2>0
  ·have:=mp h (show -u.1>0 by grind)
   grind
  ·grind
 have w1:w.1>0:=by grind
 have bb:cr r w=-(r.2*w.1):=by unfold cr;grind
 have:=mn (show r.2≥0 by grind) (show w.1≥0 by grind)
 grind
structure Gs (D:List V2):Prop where
 nz:∀r∈D,nz r
 cl:∀r∈D,∃s∈D,L4 s r
 Bp:D.Pairwise K1
def ss (a b:Rat):Prop:=(b>0->a>0)/\(b<0->a<0)
section
variable {D:List V2} (h:Gs D) {v:V2} (hv:∀r ∈ D,cr r v≠0)
include h hv
omit hv in
end
section
variable {D:List V2} (h:Gs D)
include h
end
section
variable {D:List V2} (h:Gs D)
include h
end
end Go.Proofs.Tryz.G1
namespace Go.Proofs.Tryz
open Go.bh Go.dN
def Tr.depth:Tr->Nat
 | .leaf _=>0
 | .node _ a b=>1+max a.depth b.depth
end Go.Proofs.Tryz
namespace Go.bh
open Go.Proofs.Tryz
variable {α:Type} {sz:Nat} {R:View->Value->α->Prop} {V V':View} {d:α}
theorem Row.get {vs:List Value}{al:List α}(h:Row sz R V vs al){i:Nat}(hi:i<al.length)(hs:0<sz) :
  ∃xs:List Value,xs.length=sz/\R V (.agg xs.toArray) (al.getD i d)/\i*sz+sz<=vs.length/\(vs.drop (i*sz)).take sz=xs:=by
 obtain ⟨xs,h1,h2,h3⟩:=h.at_ i hi
 have hl:=h.sC hs
 have:(i+1)*sz<=al.length*sz:=Nat.mul_le_mul_right _ hi
 rw [Nat.succ_mul] at this
 refine ⟨xs,h1,by simpa [List.getD_eq_getElem?_getD,hi] using h2,by omega,?_⟩
 apply List.ext_getElem?
 intro j
 rw [List.getElem?_take]
 split
 ·rename_i hj
  rw [List.getElem?_drop]
  have hx:j<xs.length:=by omega
  rw [h3 j _ (List.getElem?_eq_getElem hx),List.getElem?_eq_getElem hx]
 ·rename_i hj
  rw [List.getElem?_eq_none (by omega)]
theorem Row.put {vs:List Value}{al:List α}(h:Row sz R V vs al){i:Nat}(hi:i<al.length)(hs:0<sz){xs:List Value}{a:α}(hx:xs.length=sz)(ha:R V (.agg xs.toArray) a) :
  Row sz R V (cQ vs (i*sz) xs) (al.set i a):=by
 have hl:=h.sC hs
 have h9:∀k,k<al.length->k*sz+sz<=vs.length:=fun k hk=>by
  have:(k+1)*sz<=al.length*sz:=Nat.mul_le_mul_right _ hk
  rw [Nat.succ_mul] at this
  omega
 have hi9:=h9 i hi
 rw [ie (by omega)]
 have ht:(vs.take (i*sz)).length=i*sz:=by rw [List.length_take];omega
 refine ⟨fun k hk=>?_⟩
 rw [List.length_set] at hk
 by_cases e:k=i
 ·subst e
  refine ⟨xs,hx,by simpa using ha,fun j x hj=>?_⟩
  have hj':=(List.getElem?_eq_some_iff.1 hj).1
  rw [List.append_assoc,List.getElem?_append_right (by omega),ht,Nat.add_sub_cancel_left,List.getElem?_append_left hj']
  exact hj
 ·obtain ⟨ys,y1,y2,y3⟩:=h.at_ k hk
  refine ⟨ys,y1,by rw [List.getElem_set_ne (fun e'=>e e'.symm)];exact y2,fun j x hj=>?_⟩
  have hj':=(List.getElem?_eq_some_iff.1 hj).1
  by_cases lt:k<i
  ·have:(k+1)*sz<=i*sz:=Nat.mul_le_mul_right _ lt
   rw [Nat.succ_mul] at this
   rw [List.append_assoc,List.getElem?_append_left (by omega),List.getElem?_take,if_pos (by omega)]
   exact y3 j x hj
  ·have:(i+1)*sz<=k*sz:=Nat.mul_le_mul_right _ (by omega)
   rw [Nat.succ_mul] at this
   rw [List.getElem?_append_right (by rw [List.length_append];omega),List.length_append,ht,hx,List.getElem?_drop]
   rw [show i*sz+sz+(k*sz+j-(i*sz+sz))=k*sz+j by omega]
   exact y3 j x hj
theorem uW {vs xs:List Value}{o:Nat}(h:o+xs.length<=vs.length):(cQ vs o xs).length=vs.length:=by
 rw [ie h];simp only [List.length_append,List.length_take,List.length_drop];omega
theorem Row.swap {vs:List Value}{al:List α}(h:Row sz R V vs al){i j:Nat}(hi:i<al.length)(hj:j<al.length)(hs:0<sz){xs ys:List Value}(hx:xs.length=sz)(hy:ys.length=sz)(h1:R V (.agg xs.toArray) (al.getD i d))(h2:R V (.agg ys.toArray) (al.getD j d)) :
  Row sz R V (cQ (cQ vs (i*sz) ys) (j*sz) xs) (mK d al i j):=by
 have:=h.put hi hs hy h2
 exact this.put (by simpa using hj) hs hx h1
end Go.bh
namespace Go.Proofs.Tryz
open Go.bh Go.dN
section
variable {α:Type} (e:α->α->Bool)
variable {e}
end
end Go.Proofs.Tryz
namespace Go.bh
open Go.Proofs.Tryz
section
variable {α:Type} {sz:Nat} {R:View->Value->α->Prop} {V:View} {d:α}
end
end Go.bh
namespace Go.Proofs.Tryz
open Go.bh Go.dN
theorem Kr.ex {V:View}{v:Value}{l:L3}{s:Sp}(h:D8 V v l s):∃(x1 x2:Int)(p:OA)(y1 y2:Int)(q:OA)(z1 z2:Int)(r:OA)(u1 u2:Int)(t:OA)(w1 w2:Int)(o:OA),
 v=.agg #[.int .i64 x1,.int .i64 x2,.pointer p,.int .i64 y1,.int .i64 y2,.pointer q,.int .i64 z1,.int .i64 z2,.pointer r,.int .i64 u1,.int .i64 u2,.pointer t,.int .i64 w1,.int .i64 w2,.pointer o,.bool s.a,.bool s.b]:=by
 obtain ⟨_,_,_,_,_,_,_,_,_,_,_,_,_,_,_,e,-⟩:=h;exact ⟨_,_,_,_,_,_,_,_,_,_,_,_,_,_,_,e⟩
end Go.Proofs.Tryz
namespace Go.Proofs.Tryz
open Go.bh
set_option maxRecDepth 100000
end Go.Proofs.Tryz
namespace Go.Proofs.Tryz
open Go.bh Go.dN
structure vL (V:View) (p:OA) (n:Nat) (fs:List (L3×Sp)):Prop where
 len:n=fs.length
 at_:∀(i:Nat)(h:i<fs.length),∃ad,af p (i*17)=some ad/\∃xs:List Value,D8 V (.agg xs.toArray) fs[i].1 fs[i].2/\∀j x,xs[j]?=some x->V.at (ad.add j) x
theorem vL.le {V V':View}{p:OA}{n:Nat}{fs:List (L3×Sp)}(h:vL V p n fs)(e:V.Le V'):vL V' p n fs:=⟨h.len,fun i hi=>by obtain ⟨ad,h1,xs,h2,h3⟩:=h.at_ i hi;exact ⟨ad,h1,xs,h2.le e,fun j x hx=>e.at (h3 j x hx)⟩⟩
theorem vL.nil {V:View}:vL V none 0 []:=⟨rfl,fun i hi=>by simp at hi⟩
theorem vL.one {V:View}{bk:Nat}{xs:List Value}{ty:TypeId}{l:L3}{s:Sp}(hb:V.bj bk (.cells xs.toArray ty (0,0)))(hf:D8 V (.agg xs.toArray) l s):vL V (some ⟨bk,0,none⟩) 1 [(l,s)]:=by
 refine ⟨rfl,fun i hi=>?_⟩
 obtain rfl:i=0:=by simpa using hi
 refine ⟨⟨bk,0,none⟩,by simp [af,add_zero'],_,hf,fun j x hx=>?_⟩
 rw [add_zero']
 exact bY hb hx
end Go.Proofs.Tryz
namespace Go.Proofs.Tryz
open Go.bh
set_option maxRecDepth 100000
end Go.Proofs.Tryz
namespace Go.Proofs.Tryz
open Go.bh Go.dN
def Ds:L3:=(0,0,0)
def Bl (V:View)(v:Value)(c:L3):Prop:=tJ V v c.1 c.2.1 c.2.2/\Bd c
theorem Bl.le {V V':View}{v:Value}{c:L3}(h:Bl V v c)(l:V.Le V'):Bl V' v c:=⟨h.1.le l,h.2⟩
theorem Bl.shape {V:View}{v:Value}{c:L3}(h:Bl V v c):∃(x y:Int)(p:OA)(xb yb:Int)(pb:OA)(xc yc:Int)(pc:OA),v=.agg #[.int .i64 x,.int .i64 y,.pointer p,.int .i64 xb,.int .i64 yb,.pointer pb,.int .i64 xc,.int .i64 yc,.pointer pc]:=by
 obtain ⟨⟨x1,x2,p,y1,y2,q,z1,z2,r,e,-⟩,-⟩:=h;exact ⟨_,_,_,_,_,_,_,_,_,e⟩
end Go.Proofs.Tryz
namespace Go.Proofs.Tryz
open Go.dN
section
variable {α:Type} {c:α->α->Int} {d:α}
structure PQ (c:α->α->Int) (d:α) (l0 l:List α) (a0 b0 a b:Nat):Prop where
 GL:lQ d l0 l a0 b0
 ha:a0<=a
 vI:a<=b
 hb:b<=b0
 lo:pO c d l a0 a
 hi:pO c d l b b0
 s1:Sep c d l a0 a b0
 s2:Sep c d l a0 b b0
 pre:0<a->∀k,a<=k->k<b->¬c (l.getD k d) (l.getD (a-1) d)<0
variable {l0 l m:List α} {a0 b0 a b mid:Nat}
theorem PQ.start {l:List α}(h:a<=b)(hp:0<a->∀k,a<=k->k<b->¬c (l.getD k d) (l.getD (a-1) d)<0):PQ c d l l a b a b:=
 ⟨.refl _ _ _,Nat.le_refl _,h,Nat.le_refl _,.short (by omega),.short (by omega),fun p q h1 h2=>by omega,fun p q h1 h2 h3 h4=>by omega,hp⟩
theorem PQ.change (h:PQ c d l0 l a0 b0 a b)(hs:lQ d l m a b):PQ c d l0 m a0 b0 a b:=
 ⟨h.GL.trans (hs.wide h.ha h.hb),h.ha,h.vI,h.hb,hs.Bp h.lo (.inl (Nat.le_refl _)),hs.Bp h.hi (.inr (Nat.le_refl _)),hs.sep h.s1 (.inr (.inl ⟨Nat.le_refl _,h.hb⟩)),hs.sep h.s2 (.inl ⟨h.ha,Nat.le_refl _⟩),fun h0 k h1 h2=>by
  obtain ⟨k',h3,h4,e⟩:=hs.mem k h1 h2
  rw [e,hs.out (a-1) (by omega)]
  exact h.pre h0 k' h3 h4⟩
theorem PQ.fin (h:PQ c d l0 l a0 b0 a b)(hs:lQ d l m a b)(ha:pO c d m a b):lQ d l0 m a0 b0/\pO c d m a0 b0:=by
 have h':=h.change hs
 refine ⟨h'.GL,h'.lo.join (ha.join h'.hi fun p q h1 h2 h3 h4=>h'.s2 p q (by have:=h.ha;omega) h2 h3 h4) h'.s1⟩
theorem PQ.left (ho:Ord c)(h:PQ c d l0 l a0 b0 a b)(hm:a<=mid)(hm':mid<b)(h1:∀k,a<=k->k<mid->c (l.getD k d) (l.getD mid d)<0)(h2:∀k,mid<k->k<b->¬c (l.getD k d) (l.getD mid d)<0)
  (hs:lQ d l m a mid)(ha:pO c d m a mid):PQ c d l0 m a0 b0 (mid+1) b:=by
 have e0:=h.ha
 have e1:=h.hb
 have em:m.getD mid d=l.getD mid d:=hs.out mid (by omega)
 have below:∀k,a<=k->k<mid->¬c (m.getD mid d) (m.getD k d)<0:=fun k g1 g2=>by
  obtain ⟨k',g3,g4,e⟩:=hs.mem k g1 g2
  rw [em,e];exact ho.Ea _ _ (h1 k' g3 g4)
 have t1:=hs.sep h.s1 (.inr (.inl ⟨Nat.le_refl _,by omega⟩))
 have t2:=hs.sep h.s2 (.inl ⟨e0,by omega⟩)
 have up:∀q,mid<q->q<b->¬c (m.getD q d) (m.getD mid d)<0:=fun q g1 g2=>by rw [em,hs.out q (by omega)];exact h2 q g1 g2
 refine ⟨h.GL.trans (hs.wide e0 (by omega)),by omega,by omega,e1,(hs.Bp h.lo (.inl (Nat.le_refl _))).join (m:=a) (fun p q g1 g2 g3=>?_) fun p q g1 g2 g3 g4=>t1 p q g1 g2 g3 (by omega),hs.Bp h.hi (.inr (by omega)),fun p q g1 g2 g3 g4=>?_,t2,fun _ k g1 g2=>up k (by omega) g2⟩
 ·by_cases e:q=mid
  ·subst e;exact below p g1 g2
  ·exact ha p q g1 g2 (by omega)
 ·by_cases hq:b<=q
  ·exact t2 p q g1 (by omega) hq g4
  ·by_cases hp:p<a
   ·exact t1 p q g1 hp (by omega) g4
   ·have u:=up q (by omega) (by omega)
    by_cases e:p=mid
    ·subst e;exact u
    ·exact ho.tr _ _ _ u (below p (by omega) (by omega))
theorem PQ.right (ho:Ord c)(h:PQ c d l0 l a0 b0 a b)(hm:a<=mid)(hm':mid<b)(h1:∀k,a<=k->k<mid->c (l.getD k d) (l.getD mid d)<0)(h2:∀k,mid<k->k<b->¬c (l.getD k d) (l.getD mid d)<0)
  (hs:lQ d l m (mid+1) b)(ha:pO c d m (mid+1) b):PQ c d l0 m a0 b0 a mid:=by
 have e0:=h.ha
 have e1:=h.hb
 have em:m.getD mid d=l.getD mid d:=hs.out mid (by omega)
 have up:∀q,mid<q->q<b->¬c (m.getD q d) (m.getD mid d)<0:=fun q g1 g2=>by
  obtain ⟨k',g3,g4,e⟩:=hs.mem q (by omega) g2
  rw [em,e];exact h2 k' (by omega) g4
 have below:∀k,a<=k->k<mid->¬c (m.getD mid d) (m.getD k d)<0:=fun k g1 g2=>by
  rw [em,hs.out k (by omega)];exact ho.Ea _ _ (h1 k g1 g2)
 have t1:=hs.sep h.s1 (.inr (.inl ⟨by omega,e1⟩))
 have t2:=hs.sep h.s2 (.inl ⟨by omega,Nat.le_refl _⟩)
 have t3:=hs.Bp h.hi (.inr (Nat.le_refl _))
 refine ⟨h.GL.trans (hs.wide (by omega) e1),e0,hm,by omega,hs.Bp h.lo (.inl (by omega)),fun p q g1 g2 g3=>?_,t1,fun p q g1 g2 g3 g4=>?_,fun h0 k g1 g2=>?_⟩
 ·by_cases hq:q<b
  ·by_cases e:p=mid
   ·subst e;exact up q g2 hq
   ·exact ha p q (by omega) g2 hq
  ·by_cases hp:p<b
   ·exact t2 p q (by omega) hp (by omega) g3
   ·exact t3 p q (by omega) g2 g3
 ·by_cases hq:b<=q
  ·exact t2 p q g1 (by omega) hq g4
  ·by_cases hp:p<a
   ·exact t1 p q g1 hp (by omega) g4
   ·have u:=below p (by omega) g2
    by_cases e:q=mid
    ·subst e;exact u
    ·exact ho.tr _ _ _ (up q (by omega) (by omega)) u
 ·rw [hs.out k (by omega),hs.out (a-1) (by omega)];exact h.pre h0 k g1 (by omega)
structure HQ (c:α->α->Int) (d:α) (l:List α) (f i n:Nat):Prop where
 hp:Hp c d l f 0 i none
 Bp:pO c d l (f+i) (f+n)
 sep:Sep c d l f (f+i) (f+n)
theorem HQ.start {f n:Nat}(h:Hp c d l f 0 n none):HQ c d l f n n:=⟨h,.short (by omega),fun p q h1 h2 h3 h4=>by omega⟩
theorem HQ.step (ho:Ord c){f k n:Nat}(h:HQ c d l f (k+1) n)(hk:k+1<=n)(hl:f+n<=l.length)(hs:lQ d (mK d l f (f+k)) m f (f+k))(hm:Hp c d m f 0 k none):HQ c d m f k n:=by
 have ha:=fun x=>jP (d:=d) (l:=l) (i:=f) (j:=f+k) (k:=x) (by omega) (by omega)
 have out:∀q,f+k<q->m.getD q d=l.getD q d:=fun q hq=>by rw [hs.out q (by omega),ha,if_neg (by omega),if_neg (by omega)]
 have top:m.getD (f+k) d=l.getD f d:=by rw [hs.out (f+k) (by omega),ha,if_pos rfl]
 refine ⟨hm,fun p q g1 g2 g3=>?_,fun p q g1 g2 g3 g4=>?_⟩
 ·rw [out q (by omega)]
  by_cases e:p=f+k
  ·rw [e,top];exact h.sep f q (Nat.le_refl _) (by omega) (by omega) g3
  ·rw [out p (by omega)];exact h.Bp p q (by omega) g2 g3
 ·have hp:∃j,j<k+1/\m.getD p d=l.getD (f+j) d:=by
   obtain ⟨p',e1,e2,e⟩:=hs.mem p g1 g2
   rw [e,ha,if_neg (by omega)]
   split
   ·exact ⟨k,by omega,rfl⟩
   ·exact ⟨p'-f,by omega,by rw [show f+(p'-f)=p' by omega]⟩
  obtain ⟨j,hj,e⟩:=hp
  rw [e]
  by_cases eq:q=f+k
  ·rw [eq,top];exact h.hp.top ho j hj
  ·rw [out q (by omega)];exact h.sep (f+j) q (by omega) (by omega) (by omega) g4
theorem HQ.fin {f n:Nat}(h:HQ c d l f 0 n):pO c d l f (f+n):=by have:=h.Bp;simpa using this
structure PT (P:α->Prop) (d:α) (l:List α) (a b i j:Nat):Prop where
 hi:a<i
 EX:i<=j+1
 hj:j<b
 lo:∀k,a<k->k<i->P (l.getD k d)
 up:∀k,j<k->k<b->¬P (l.getD k d)
variable {P:α->Prop} {i j:Nat}
theorem PT.start (h:a+1<b):PT P d l a b (a+1) (b-1):=⟨by omega,by omega,by omega,fun k h1 h2=>by omega,fun k h1 h2=>by omega⟩
theorem PT.swap (h:PT P d l a b i j)(EX:i<=j)(hl:b<=l.length)(h1:¬P (l.getD i d))(h2:P (l.getD j d)):PT P d (mK d l i j) a b (i+1) (j-1)/\(mK d l i j).getD a d=l.getD a d/\lQ d l (mK d l i j) a b:=by
 have e0:=h.hi
 have e1:=h.hj
 have ne:i≠j:=fun e=>h1 (e▸h2)
 have ha:=fun x=>jP (d:=d) (l:=l) (i:=i) (j:=j) (k:=x) (by omega) (by omega)
 refine ⟨⟨by omega,by omega,by omega,fun k g1 g2=>?_,fun k g1 g2=>?_⟩,by rw [ha,if_neg (by omega),if_neg (by omega)],lQ.mK (by omega) (by omega) (by omega) e1 hl⟩
 ·rw [ha,if_neg (by omega)]
  by_cases e:k=i
  ·rw [if_pos e];exact h2
  ·rw [if_neg e];exact h.lo k g1 (by omega)
 ·rw [ha]
  by_cases e:k=j
  ·rw [if_pos e];exact h1
  ·rw [if_neg e,if_neg (by omega)];exact h.up k (by omega) g2
theorem PT.fin (ho:Ord c)(h:PT (fun x=>c x (l.getD a d)<0) d l a b i j)(EX:¬i<=j)(hl:b<=l.length):lQ d l (mK d l j a) a b/\a<=j/\j<b /\
  (∀k,a<=k->k<j->c ((mK d l j a).getD k d) ((mK d l j a).getD j d)<0)/\(∀k,j<k->k<b->¬c ((mK d l j a).getD k d) ((mK d l j a).getD j d)<0):=by
 have e0:=h.hi
 have e1:=h.EX
 have e2:=h.hj
 have ha:=fun x=>jP (d:=d) (l:=l) (i:=j) (j:=a) (k:=x) (by omega) (by omega)
 have ej:(mK d l j a).getD j d=l.getD a d:=by
  rw [ha]
  by_cases e:j=a
  ·rw [if_pos e,e]
  ·rw [if_neg e,if_pos rfl]
 refine ⟨lQ.mK (by omega) e2 (Nat.le_refl _) (by omega) hl,by omega,e2,fun k g1 g2=>?_,fun k g1 g2=>?_⟩
 ·rw [ej,ha]
  by_cases e:k=a
  ·rw [if_pos e];exact h.lo j (by omega) (by omega)
  ·rw [if_neg e,if_neg (by omega)];exact h.lo k (by omega) (by omega)
 ·rw [ej,ha,if_neg (by omega),if_neg (by omega)];exact h.up k g1 g2
end
end Go.Proofs.Tryz
namespace Go.Proofs.Tryz
open Go.bh
set_option maxRecDepth 100000
end Go.Proofs.Tryz
namespace Go.Proofs.Tryz
open Go.bh Go.dN
end Go.Proofs.Tryz
namespace Go.Proofs.Tryz
open Go.bh
set_option maxRecDepth 100000
end Go.Proofs.Tryz
namespace Go.Proofs.Tryz
open Go.bh Go.dN
structure CF (V:View) (n:Nat) (vs:List Value) (l:List L3):Prop where
 row:Row 9 Bl V vs l
 len:n=l.length
 Jv:l.length<50
theorem CF.le {V V':View}{n:Nat}{vs:List Value}{l:List L3}(h:CF V n vs l)(e:V.Le V'):CF V' n vs l:=⟨h.row.le fun _ _ g=>Bl.le g e,h.len,h.Jv⟩
theorem CF.get {V:View}{n:Nat}{vs:List Value}{l:List L3}(h:CF V n vs l){k:Nat}(hk:k<l.length):∃(x y:Int)(p:OA)(xb yb:Int)(pb:OA)(xc yc:Int)(pc:OA),
  ((0+k*9)+9<=vs.length/\(vs.drop (0+k*9)).take 9=[.int .i64 x,.int .i64 y,.pointer p,.int .i64 xb,.int .i64 yb,.pointer pb,.int .i64 xc,.int .i64 yc,.pointer pc])/\Bl V (.agg #[.int .i64 x,.int .i64 y,.pointer p,.int .i64 xb,.int .i64 yb,.pointer pb,.int .i64 xc,.int .i64 yc,.pointer pc]) (l.getD k Ds):=by
 obtain ⟨xs,-,h2,h3,h4⟩:=h.row.get (d:=Ds) hk (by decide)
 have h20:=h2
 obtain ⟨x,y,p,xb,yb,pb,xc,yc,pc,e⟩:=h2.shape
 have e:=congrArg Array.toList (Value.agg.inj e)
 dsimp only at e
 subst e
 rw [Nat.zero_add]
 exact ⟨x,y,p,xb,yb,pb,xc,yc,pc,⟨h3,h4⟩,h20⟩
theorem CF.swap {V:View}{n:Nat}{vs:List Value}{l:List L3}(h:CF V n vs l){i j:Nat}(hi:i<l.length)(hj:j<l.length){x y:Int}{p:OA}{xb yb:Int}{pb:OA}{xc yc:Int}{pc:OA}{x' y':Int}{p':OA}{IP IQ:Int}{pb':OA}{Gj IU:Int}{pc':OA}
  (h1:Bl V (.agg #[.int .i64 x,.int .i64 y,.pointer p,.int .i64 xb,.int .i64 yb,.pointer pb,.int .i64 xc,.int .i64 yc,.pointer pc]) (l.getD i Ds))(h2:Bl V (.agg #[.int .i64 x',.int .i64 y',.pointer p',.int .i64 IP,.int .i64 IQ,.pointer pb',.int .i64 Gj,.int .i64 IU,.pointer pc']) (l.getD j Ds)) :
  (0+i*9)+9<=vs.length/\(0+j*9)+9<=(cQ vs (0+i*9) [.int .i64 x',.int .i64 y',.pointer p',.int .i64 IP,.int .i64 IQ,.pointer pb',.int .i64 Gj,.int .i64 IU,.pointer pc']).length /\
  CF V n (cQ (cQ vs (0+i*9) [.int .i64 x',.int .i64 y',.pointer p',.int .i64 IP,.int .i64 IQ,.pointer pb',.int .i64 Gj,.int .i64 IU,.pointer pc']) (0+j*9) [.int .i64 x,.int .i64 y,.pointer p,.int .i64 xb,.int .i64 yb,.pointer pb,.int .i64 xc,.int .i64 yc,.pointer pc]) (mK Ds l i j):=by
 obtain ⟨-,-,-,g1,-⟩:=h.row.get (d:=Ds) hi (by decide)
 obtain ⟨-,-,-,g2,-⟩:=h.row.get (d:=Ds) hj (by decide)
 rw [Nat.zero_add,Nat.zero_add]
 refine ⟨g1,by rw [uW (by exact g1)];exact g2,h.row.swap hi hj (by decide) rfl rfl h1 h2,by rw [sW];exact h.len,by rw [sW];exact h.Jv⟩
end Go.Proofs.Tryz
namespace Go.Proofs.Tryz
open Go.bh
set_option maxRecDepth 100000
end Go.Proofs.Tryz
namespace Go.Proofs.Tryz
open Go.bh Go.dN
structure GR {α:Type} (sz:Nat) (R:View->Value->α->Prop) (V:View) (n c:Nat) (vs:List Value) (l:List α):Prop where
 len:n=l.length
 le:n<=c
 cap:c*sz<=vs.length
 row:Row sz R V vs l
theorem GR.nil {α:Type}{sz:Nat}{R:View->Value->α->Prop}{V:View}:GR sz R V 0 0 [] []:=⟨rfl,Nat.le_refl _,by simp,Row.nil⟩
theorem GR.mono {α:Type}{sz:Nat}{R:View->Value->α->Prop}{V V':View}{n c:Nat}{vs:List Value}{l:List α}(h:GR sz R V n c vs l)(m:∀v a,R V v a->R V' v a):GR sz R V' n c vs l:=⟨h.len,h.le,h.cap,h.row.le m⟩
theorem GR.snoc {α:Type}{sz:Nat}{R:View->Value->α->Prop}{V:View}{n c:Nat}{vs:List Value}{l:List α}(h:GR sz R V n c vs l){xs:List Value}{a:α}(hx:xs.length=sz)(ha:R V (.agg xs.toArray) a)(h0:0<sz){sp:List Value}{c':Nat}(h1:n+1<=c')(h2:c'*sz<=(n+1)*sz+sp.length) :
  GR sz R V (n+1) c' (vs.take (n*sz)++xs++sp) (l++[a]):=by
 have hn:=h.len
 have hc:=h.cap
 have hl:n*sz<=c*sz:=Nat.mul_le_mul_right _ h.le
 refine ⟨by rw [List.length_append,hn];rfl,h1,?_,?_⟩
 ·have ht:(vs.take (n*sz)).length=n*sz:=by rw [List.length_take];omega
  rw [List.length_append,List.length_append,ht,hx]
  rw [Nat.succ_mul] at h2
  exact h2
 ·have:=h.row.snoc (sp:=sp) hx ha h0
  rw [←hn] at this
  exact this
end Go.Proofs.Tryz
namespace Go.Proofs.Tryz.G1
open Go.bh Go.dN
def nv (l:L3)(v:V2):Rat:=(l.1:Rat)*v.1+(l.2.1:Rat)*v.2
def ym (l:L3):V2:=((l.2.1:Rat),-(l.1:Rat))
theorem FL (l:L3)(v:V2):nv l v=cr (ym l) v:=by unfold nv cr ym;grind
def Gk (D:List V2)(M:List L3):Prop:=∀l∈M,∃r∈D,∃c:Rat,c>0/\r=(c*(ym l).1,c*(ym l).2)
theorem v_ {l:L3}{r:V2}{c:Rat}(c0:c>0)(e:r=(c*(ym l).1,c*(ym l).2))(v:V2):cr r v=c*nv l v:=by
 rw [FL,e];unfold cr;grind
theorem xI {c x:Rat}(c0:c>0):(c*x>0↔x>0)/\(c*x<0↔x<0)/\(c*x=0↔x=0):=by
 have p:x>0->c*x>0:=fun h=>mp c0 h
 have n:x<0->c*x<0:=fun h=>by have:=mp c0 (show -x>0 by grind);grind
 have z:x=0->c*x=0:=fun h=>by rw [h];grind
 refine ⟨⟨fun h=>?_,p⟩,⟨fun h=>?_,n⟩,⟨fun h=>?_,z⟩⟩
 ·by_cases q:x>0
  ·exact q
  ·by_cases q':x<0
   ·have:=n q';grind
   ·have:=z (by grind);grind
 ·by_cases q:x<0
  ·exact q
  ·by_cases q':x>0
   ·have:=p q';grind
   ·have:=z (by grind);grind
 ·rcases Rat.mul_eq_zero.1 h with h|h
  ·grind
  ·exact h
theorem Gk.gen {D:List V2}{M:List L3}(h:Gk D M){v:V2}(hv:∀r∈D,cr r v≠0):∀l∈M,nv l v≠0:=by
 intro l hl e
 obtain ⟨r,hr,c,c0,e'⟩:=h l hl
 exact hv r hr (by rw [v_ c0 e',e];grind)
theorem Gk.same {D:List V2}{M:List L3}(h:Gk D M){v x:V2}(hv:∀r∈D,(cr r v>0->cr r x>0)/\(cr r v<0->cr r x<0)) :
  ∀l∈M,(nv l v>0->nv l x>0)/\(nv l v<0->nv l x<0):=by
 intro l hl
 obtain ⟨r,hr,c,c0,e'⟩:=h l hl
 have:=hv r hr
 rw [v_ c0 e',v_ c0 e'] at this
 obtain ⟨a1,a2,_⟩:=@xI c (nv l v) c0
 obtain ⟨b1,b2,_⟩:=@xI c (nv l x) c0
 exact ⟨fun h=>b1.1 (this.1 (a1.2 h)),fun h=>b2.1 (this.2 (a2.2 h))⟩
section
variable {D:List V2} (h:Gs D)
include h
omit h in
end
end Go.Proofs.Tryz.G1
namespace Go.Proofs.Tryz
open Go.bh
set_option maxRecDepth 100000
end Go.Proofs.Tryz
namespace Go.Proofs.Tryz
open Go.bh Go.dN
def Ej (V:View)(v:Value)(c:Rat×Rat):Prop:=Gp V v c.1 c.2/\Sz 100000 c.1/\Sz 100000 c.2
theorem Ej.le {V V':View}{v:Value}{c:Rat×Rat}(h:Ej V v c)(l:V.Le V'):Ej V' v c:=⟨h.1.le l,h.2⟩
theorem Ej.shape {V:View}{v:Value}{c:Rat×Rat}(h:Ej V v c):∃(x y:Int)(p:OA)(xb yb:Int)(pb:OA),v=.agg #[.int .i64 x,.int .i64 y,.pointer p,.int .i64 xb,.int .i64 yb,.pointer pb]:=by
 obtain ⟨⟨x1,x2,p,y1,y2,q,e,-⟩,-⟩:=h;exact ⟨_,_,_,_,_,_,e⟩
theorem GR.F_ {α:Type}{sz:Nat}{R:View->Value->α->Prop}{V:View}{n c:Nat}{vs:List Value}{l:List α}(h:GR sz R V n c vs l){xs ys:List Value}{a b:α}(hx:xs.length=sz)(hy:ys.length=sz)(ha:R V (.agg xs.toArray) a)(hb:R V (.agg ys.toArray) b)(h0:0<sz){sp:List Value}{c':Nat}(h1:n+2<=c')(h2:c'*sz<=(n+2)*sz+sp.length) :
  GR sz R V (n+2) c' (vs.take (n*sz)++(xs++ys)++sp) (l++[a,b]):=by
 have hl:=h.row.sC h0
 have hn:=h.len
 have hc:=h.cap
 have hm:n*sz<=c*sz:=Nat.mul_le_mul_right _ h.le
 have r1:=h.row.snoc (sp:=ys++sp) hx ha h0
 have r2:=r1.snoc (sp:=sp) hy hb h0
 have ht:(vs.take (l.length*sz)).length=l.length*sz:=by rw [List.length_take];omega
 have e:(vs.take (l.length*sz)++xs++(ys++sp)).take ((l++[a]).length*sz)=vs.take (l.length*sz)++xs:=by
  have:(vs.take (l.length*sz)++xs).length=(l++[a]).length*sz:=by
   rw [List.length_append,ht,hx,List.length_append,Nat.add_mul];simp
  rw [←this,List.take_left' rfl]
 rw [e] at r2
 refine ⟨by rw [List.length_append,hn];rfl,h1,?_,?_⟩
 ·rw [←hn] at ht
  simp only [List.length_append,ht,hx,hy]
  rw [Nat.add_mul] at h2
  omega
 ·rw [hn]
  simpa using r2
def I0 (_:View)(v:Value)(i:Int):Prop:=v=.agg #[.int .i64 i]
theorem A6 {α:Type}{sz:Nat}{R:View->Value->α->Prop}{V:View}{vs:List Value}{al bl:List α}(h:Row sz R V vs (al++bl)):Row sz R V vs al:=by
 refine ⟨fun i hi=>?_⟩
 obtain ⟨xs,h1,h2,h3⟩:=h.at_ i (by rw [List.length_append];omega)
 rw [List.getElem_append_left hi] at h2
 exact ⟨xs,h1,h2,h3⟩
def yV (ts:List Tr):Nat:=(ts.map Tr.size).sum
theorem AA {V:View}{p:OA}{n c:Nat}{l:List Nd}(h:NS V p n c l){k:Nat}{d:Nd}(hd:l[k]?=some d):∃a,af p (k*8)=some a/\V.at (a.add 6) (.int .i64 d.left)/\V.at (a.add 7) (.int .i64 d.right):=by
 obtain ⟨b1,p1,m1,c1,b2,p2,m2,c2,b3,p3,m3,c3,a,ha,-,-,-,-,-,-,a6,a7,-⟩:=h.rd hd
 exact ⟨a,ha,a6,a7⟩
theorem FM {x y:Int}:∀v∈([.int .i64 x,.int .i64 y]:List Value),v.oneCell'=true:=by
 intro v hm
 simp only [List.mem_cons,List.not_mem_nil,or_false] at hm
 rcases hm with rfl|rfl<;>rfl
theorem iH {V:View}{l:List Nd}(hb:∀x∈l,Bd x.ln){root:Int}{p:OA}{n c:Nat}(h:NS V p n c l) :
  ab prog 38 #[.agg #[.int .i64 root,.slice p n c]] V fun r V'=>(dv l root=none->r=.bool false)/\∀t,dv l root=some t->r=.bool (decide (root=rt 0 t/\l=wr 0 t)):=by
 have hl:=h.len
 subst hl
 refine mW root p l.length c V _ fun V1 l1=>(dG hb (⟨p,l.length,c,rfl,h.le l1⟩:AT V1 _ root l)).mono ?_
 rintro r V2 l2 rfl
 cases e:dv l root with
 | none=>exact ⟨_,rfl,fun _ V3 l3=>⟨fun _=>rfl,fun t ht=>by cases ht⟩,fun h=>by cases h⟩
 | some t=>
  obtain ⟨Lu,hsz,-⟩:=AF e
  have hlen:l.length<=65536:=by
   rcases Nat.lt_or_ge 65536 l.length with h|h
   ·unfold dv at e;rw [if_pos h] at e;cases e
   ·exact h
  have fin:∀b:Bool,(b=true↔Lay l root 0 t)->((some t=none->Value.bool b=.bool false)/\∀t',some t=some t'->Value.bool b=.bool (decide (root=rt 0 t'/\l=wr 0 t'))):=fun b hb=>by
   refine ⟨(fun h=>by cases h),fun t' ht=>?_⟩
   cases ht
   congr 1
   rw [Bool.eq_iff_iff,decide_eq_true_iff,hb,B7 hsz]
  have hns:=h.le (l1.trans l2)
  refine ⟨_,rfl,(fun h=>by cases h),fun _=>⟨fun z V'=>∃(k:Nat)(ns:List Int)(ts:List Tr),z.1=(k:Int)/\I1 l ns ts/\(vK l ns ts k↔Lay l root 0 t)/\k+yV ts=t.size/\ns.length<=k+1/\GR 1 I0 V' z.2.1 z.2.2.1 z.2.2.2 ns.reverse,fun z=>(2*(t.size-z.1)+z.2.1).toNat,
   ⟨(0,1,1,[.int .i64 root]),by and_intros<;>first|rfl|trivial|decide,0,[root],[t],rfl,⟨Lu,trivial⟩,⟨fun h=>h.1,fun h=>⟨h,trivial⟩⟩,by simp [yV],by simp,⟨rfl,Nat.le_refl _,Nat.le_refl _,row_one rfl rfl⟩⟩,?_⟩⟩
  rintro ⟨z,m,d,vs⟩ V4 l4 ⟨k,ns,ts,ez,hR,hY,hs,hk1,g⟩
  dsimp only at ez g ⊢
  subst ez
  have E1:=hns.le l4
  have gl:=g.len
  rw [List.length_reverse] at gl
  refine ⟨by trivial,fun hpos=>?_,fun hpos V6 l6=>fin true ⟨fun _=>?_,fun _=>rfl⟩⟩
  ·have hpos:0<m:=by have:=of_decide_eq_true hpos;omega
   cases ns with
   | nil=>rw [List.length_nil] at gl;omega
   | cons x ns=>
    cases ts with
    | nil=>exact hR.elim
    | cons tx ts=>
     obtain ⟨hx,hR⟩:=hR
     have hsum:yV (tx::ts)=tx.size+yV ts:=rfl
     rw [hsum] at hs
     rw [List.length_cons] at gl hk1
     have wm:i64.wrap ((m:Int)-1)=((m-1:Nat):Int):=by rw [aG (by omega)];omega
     rw [wm,Int.toNat_natCast,Nat.mul_one]
     obtain ⟨xs,hx1,hx2,hx3⟩:=g.row.at_ (m-1) (by rw [List.length_reverse,List.length_cons];omega)
     have ex:(x::ns).reverse[m-1]'(by rw [List.length_reverse,List.length_cons];omega)=x:=by
      simp only [List.reverse_cons]
      rw [List.getElem_append_right (by rw [List.length_reverse];omega)]
      simp
     rw [ex] at hx2
     have hx2:=congrArg Array.toList (Value.agg.inj hx2)
     dsimp only at hx2
     subst hx2
     have hv:=hx3 0 _ rfl
     rw [Nat.mul_one,Nat.add_zero] at hv
     have gd:GR 1 I0 V4 (m-1) d vs ns.reverse:=by
      have gr:=g.row
      rw [List.reverse_cons] at gr
      exact ⟨by rw [List.length_reverse];omega,by have:=g.le;omega,g.cap,A6 gr⟩
     refine ⟨⟨by omega,by omega⟩,g.le,x,hv,⟨by omega,by have:=g.le;omega⟩,fun hneg=>?_,fun hneg=>?_⟩
     ·have hneg:x<0:=of_decide_eq_true hneg
      refine ⟨((k:Int),m-1,d,vs),by dsimp only;omega,by and_intros<;>first|rfl|trivial,k,ns,ts,rfl,hR,?_,?_,by omega,gd⟩
      ·cases tx with
       | leaf i=>exact (yC hx).symm.trans hY
       | node ln a b=>obtain ⟨k',y,e',-⟩:=hx;omega
      ·cases tx with
       | leaf i=>simp only [Tr.size] at hs;omega
       | node ln a b=>obtain ⟨k',y,e',-⟩:=hx;omega
     ·have hneg:¬x<0:=of_decide_eq_false hneg
      cases tx with
      | leaf i=>exfalso;have hx:x=(if i then -2 else -1):=hx;split at hx<;>omega
      | node ln a b=>
       obtain ⟨k',y,rfl,hy,hyl,-,ha,hb'⟩:=hx
       refine ⟨fun hne V5 l5=>fin false ⟨(fun h=>by cases h),fun hL=>?_⟩,fun heq=>?_⟩
       ·exfalso
        have hne:((k':Nat):Int)≠(k:Int):=by simpa using hne
        exact Ao hne (hY.2 hL)
       ·have heq:k'=k:=by
         have:((k':Nat):Int)=(k:Int):=by simpa using heq
         omega
        subst heq
        simp only [Tr.size] at hs
        have hk:=(List.getElem?_eq_some_iff.1 hy).1
        have w1:i64.wrap ((k':Int)+1)=((k'+1:Nat):Int):=by rw [aG (by omega)];rfl
        obtain ⟨ad,had,a6,a7⟩:=AA E1 hy
        rw [w1,Int.toNat_natCast,had]
        have iS:=E1.Af (show l.length≠0 by omega)
        have hr:(y.left::y.right::ns).reverse=ns.reverse++[y.right,y.left]:=by simp
        refine ⟨iS,⟨by omega,by omega⟩,rfl,y.right,⟨_,rfl,a7⟩,iS,⟨by omega,by omega⟩,rfl,y.left,⟨_,rfl,a6⟩,by omega,gd.le,gd.cap,rfl,FM,fun sp c' k1 k2=>⟨(((k'+1:Nat):Int),m-1+2,c',_),by dsimp only;omega,by and_intros<;>first|rfl|trivial,k'+1,y.left::y.right::ns,a::b::ts,rfl,⟨ha,hb',hR⟩,(yD hy hyl).symm.trans hY,?_,by rw [List.length_cons,List.length_cons];omega,?_⟩⟩
        ·have:yV (a::b::ts)=a.size+(b.size+yV ts):=rfl
         omega
        ·rw [hr]
         have:=gd.F_ (xs:=[.int .i64 y.right]) (ys:=[.int .i64 y.left]) (a:=y.right) (b:=y.left) rfl rfl rfl rfl (by decide) k1 k2
         dsimp only
         rw [List.singleton_append,Nat.mul_one] at this
         exact this
  ·have hpos:m=0:=by have:=of_decide_eq_false hpos;omega
   cases ns with
   | cons x ns=>rw [List.length_cons] at gl;omega
   | nil=>
    cases ts with
    | cons t ts=>exact hR.elim
    | nil=>exact hY.1 trivial
end Go.Proofs.Tryz
namespace Go.Proofs.Tryz
open Go.bh
set_option maxRecDepth 100000
end Go.Proofs.Tryz
namespace Go.Proofs.Tryz
open Go.bh Go.dN
def GX (V:View)(v:Value)(l:L3):Prop:=RL V v l.1 l.2.1 l.2.2
theorem GX.le {V V':View}{v:Value}{l:L3}(h:GX V v l)(e:V.Le V'):GX V' v l:=RL.le h e
def LL:L3:=(0,1,0)
theorem CC:fV LL=true:=by decide
theorem oV {z:Int}(k:Nat)(hk:k≠0)(h:z.natAbs<=1):z.natAbs<2^k:=Nat.lt_of_le_of_lt h (Nat.one_lt_two_pow hk)
theorem Df (k:Nat)(hk:k≠0):LL.1.natAbs<2^k/\LL.2.1.natAbs<2^k/\LL.2.2.natAbs<2^k:=⟨oV k hk (by decide),oV k hk (by decide),oV k hk (by decide)⟩
theorem zq:Bd LL:=Df 1000 (by decide)
theorem tI {V:View}{v:Value}{a b c:Int}(h:RL V v a b c):∃(b1:Bool)(p1:OA)(n1 c1:Nat)(b2:Bool)(p2:OA)(n2 c2:Nat)(b3:Bool)(p3:OA)(n3 c3:Nat),v=.agg #[.bool b1,.slice p1 n1 c1,.bool b2,.slice p2 n2 c2,.bool b3,.slice p3 n3 c3]:=by
 obtain ⟨p,n,s,p',n',s',q,m,e,rfl,-⟩:=h
 exact ⟨_,_,_,_,_,_,_,_,_,_,_,_,rfl⟩
theorem sq {V:View}{u w:Value}(hp:RP V u ((0:Int):Rat) ((0:Int):Rat))(hq:RP V w ((1:Int):Rat) ((0:Int):Rat)) :
  ab prog 50 #[u,w] V fun r V'=>∃l,r=.tuple #[l,.bool true]/\RL V' l LL.1 LL.2.1 LL.2.2:=by
 have s0:Sz 1 ((0:Int):Rat):=by unfold Sz;decide
 have s1:Sz 1 ((1:Int):Rat):=wU
 refine (mD hp hq s0 s0 s1 s0 (by omega) (by omega)).mono ?_
 have e1:(rQ ((0:Int):Rat) ((0:Int):Rat) ((1:Int):Rat) ((0:Int):Rat)).1.num=0:=by decide +kernel
 have e2:(rQ ((0:Int):Rat) ((0:Int):Rat) ((1:Int):Rat) ((0:Int):Rat)).2.1.num=1:=by decide +kernel
 have e3:(rQ ((0:Int):Rat) ((0:Int):Rat) ((1:Int):Rat) ((0:Int):Rat)).2.2.num=0:=by decide +kernel
 rw [e1,e2,e3]
 rintro r V' _ ⟨-,h⟩
 exact h (by omega)
structure D_ (V:View) (y z:Value):Prop where
 inv:my V 0 y
 J8:my V 1 z
 yE:Dj y
 zE:Dj z
theorem D_.le {V V':View}{y z:Value}(h:D_ V y z)(l:V.Le V'):D_ V' y z:=⟨h.inv.le l,h.J8.le l,h.yE,h.zE⟩
theorem uG:IsIface .nilIface/\dW .nilIface=true:=⟨.inl rfl,rfl⟩
theorem AT.leaf {V:View}(i:Bool):AT V (.agg #[.int .i64 (rt 0 (.leaf i)),.slice none 0 0]) (rt 0 (.leaf i)) (wr 0 (.leaf i)):=⟨_,_,_,rfl,NS.nil⟩
theorem ku {p:L3->Prop}:∀{t:Tr} {k:Nat},t.kc p->∀x∈wr k t,p x.ln
 | .leaf _,_,_,x,h=>by simp [wr] at h
 | .node l a b,k,⟨h1,h2,h3⟩,x,h=>by
  simp only [wr,List.mem_cons,List.mem_append] at h
  rcases h with rfl|h|h
  ·exact h1
  ·exact ku h2 x h
  ·exact ku h3 x h
theorem mY {V:View}{y z:Value}(hs:D_ V y z):ab prog 33 #[] V fun r V'=>r=.bool true:=by
 refine pz V _ fun V1 l1=>(nM 0 0 (by omega) (by omega) (by omega) (by omega)).mono ?_
 rintro r V2 l2 hp
 have hp0:=hp
 obtain ⟨p1,n1,c1,p2,n2,c2,p3,n3,c3,p4,n4,c4,rfl,-⟩:=hp
 refine ⟨_,_,_,_,_,_,_,_,_,_,_,_,_,_,rfl,fun V3 l3=>(nM 1 0 (by omega) (by omega) (by omega) (by omega)).mono ?_⟩
 rintro r V4 l4 hq
 have hq0:=hq
 obtain ⟨q1,m1,d1,q2,m2,d2,q3,m3,d3,q4,m4,d4,rfl,-⟩:=hq
 refine ⟨_,_,_,_,_,_,_,_,_,_,_,_,_,_,rfl,fun V5 l5=>(sq (hp0.le (l3.trans (l4.trans l5))) (hq0.le l5)).mono ?_⟩
 rintro r V6 l6 ⟨l,rfl,hl⟩
 obtain ⟨b1,u1,v1,w1,b2,u2,v2,w2,b3,u3,v3,w3,rfl⟩:=(tI hl)
 have Bs:=l1.trans (l2.trans (l3.trans (l4.trans (l5.trans l6))))
 refine ⟨_,_,_,_,_,_,_,_,_,_,_,_,_,rfl,fun V7 l7=>(lV (-2) (hs.inv.le (Bs.trans l7))).mono ?_⟩
 rintro r V8 l8 ⟨o,e,rfl,ho⟩
 rw [if_pos (by omega)] at ho
 obtain ⟨rfl,rfl⟩:=ho
 refine ⟨_,_,_,_,_,rfl,fun V9 l9=>(lV (-1) (hs.inv.le (Bs.trans (l7.trans (l8.trans l9))))).mono ?_⟩
 rintro r jq l10 ⟨o,e,rfl,ho⟩
 rw [if_pos (by omega)] at ho
 obtain ⟨rfl,rfl⟩:=ho
 have lq:=Bs.trans (l7.trans (l8.trans (l9.trans l10)))
 obtain ⟨t1,t2,t3⟩:=zq.ag
 refine ⟨_,_,_,_,_,rfl,fun pJ cA=>(lU (hl.le (l7.trans (l8.trans (l9.trans (l10.trans cA))))) (by omega) (by omega) (by omega)).mono ?_⟩
 rintro r nu dt hm
 obtain ⟨b1,u1,v1,w1,b2,u2,v2,w2,b3,u3,v3,w3,rfl⟩:=(tI hm)
 have o1:dv (wr 0 (.leaf true)) (rt 0 (.leaf true))=some (.leaf true):=wE trivial (by simp [Tr.size])
 have o2:dv (wr 0 (.leaf false)) (rt 0 (.leaf false))=some (.leaf false):=wE trivial (by simp [Tr.size])
 refine ⟨_,_,_,_,_,_,_,_,_,_,_,_,rfl,fun qH dJ=>(uc (x:=LL) (hm.le dJ) zq (AT.leaf true) (AT.leaf false) (fun x h=>by simp [wr] at h) (fun x h=>by simp [wr] at h) (hs.inv.le (lq.trans (cA.trans (dt.trans dJ)))) (hs.J8.le (lq.trans (cA.trans (dt.trans dJ))))).mono ?_⟩
 rintro r pK dO ⟨o,e,rfl,-,ho⟩
 rw [o1,o2] at ho
 have ho:=ho (.node LL (.leaf true) (.leaf false)) (by unfold iL;rw [CC];rfl)
 rw [if_neg (by simp [Tr.size])] at ho
 obtain ⟨hat,rfl⟩:=ho
 have Hm:=hat
 obtain ⟨q,n,c,rfl,hns⟩:=hat
 have hn:n=1:=hns.len
 subst hn
 obtain ⟨_,_,_,_,_,_,_,_,_,_,_,_,a,ha,-,-,-,-,-,-,a6,a7,-⟩:=hns.rd (k:=0) (d:=⟨LL,-2,-1⟩) rfl
 have ha:af q 0=some a:=by simpa using ha
 refine ⟨_,_,_,_,_,rfl,uG.1,fun _=>⟨uG.1,fun _=>⟨uG.1,fun _=>⟨fun _=>⟨fun _=>⟨hns.Af (by omega),⟨by omega,by omega⟩,by rw [ha];rfl,-2,⟨a.add 6,by rw [ha];rfl,a6⟩,fun _=>⟨hns.Af (by omega),⟨by omega,by omega⟩,by rw [ha];rfl,-1,⟨a.add 7,by rw [ha];rfl,a7⟩,fun _ pL fp=>(dG ?_ (Hm.le fp)).mono ?_,(fun h=>by simp at h)⟩,(fun h=>by simp at h)⟩,(fun h=>by simp at h)⟩,(fun h=>by simp [rt] at h)⟩,fun h=>by rw [uG.2] at h;cases h⟩,fun h=>by rw [uG.2] at h;cases h⟩,fun h=>by rw [uG.2] at h;cases h⟩
 ·exact ku ⟨zq,trivial,trivial⟩
 ·rintro r rV dX rfl
  refine ⟨_,rfl,fun pP ew=>?_⟩
  rw [wE (t:=.node LL (.leaf true) (.leaf false)) ⟨CC,trivial,trivial⟩ (by simp [Tr.size])]
  rfl
def ch:Nat->Tr
 | 0=>.leaf false
 | m+1=>.node LL (.leaf true) (ch m)
theorem A7 {V:View}{t:Tr}{p:OA}(h:RW V p t):p.isSome=true:=by
 cases t with
 | leaf i=>obtain ⟨b,c2,c3,c4,c5,c6,c7,c8,c9,rfl,hb⟩:=h;rfl
 | node l x y=>obtain ⟨b,i,b1,p1,n1,c1,b2,p2,n2,c2,b3,p3,n3,c3,pl,pr,rfl,-⟩:=h;rfl
theorem BK:∀(t:Tr) {V:View} {p:OA} {lb:Nat} {n c:Nat} {vs:List Value} {l:List Nd},RW V p t->t.kc D7->n=l.length ->
  (vs≠[]->V.w.heap[lb]?=some (.cells vs.toArray 76 (0,0)))->(vs≠[]->V.X lb)->n<=c->c*8<=vs.length->NR V vs l->n+t.size<=1000000 ->
  ab prog 48 #[.pointer p,.slice (mA lb c) n c] V fun r V'=>∃(bm:Nat)(vm:List Value)(c':Nat),(vm≠[]->V'.w.heap[bm]?=some (.cells vm.toArray 76 (0,0)))/\(vm≠[]->V.w.heap.size<=bm\/(vs≠[]/\bm=lb)) /\
   r=.tuple #[.slice (mA bm c') (n+t.size) c',.int .i64 (rt n t)]/\n+t.size<=c'/\c'*8<=vm.length/\NR (V'.bH (vm≠[]) bm) vm (l++wr n t):=by
 intro t
 induction t with
 | leaf i=>
  intro V p lb n c vs l hp _ hn hv hxv hnc hcv hnr hsz
  have hs:=A7 hp
  obtain ⟨b,c2,c3,c4,c5,c6,c7,c8,c9,rfl,hb⟩:=hp
  have fin:∀(V3:View)(bk:Nat)(x:Int),V.Le (V3.bH (vs≠[]) bk)->(vs≠[]->V3.w.heap[bk]?=some (.cells vs.toArray 76 (0,0))) ->
    (vs≠[]->V.w.heap.size<=bk\/(vs≠[]/\bk=lb)\/False)->x=rt n (.leaf i)->∃(bm:Nat)(vm:List Value)(c':Nat),(vm≠[]->V3.w.heap[bm]?=some (.cells vm.toArray 76 (0,0)))/\(vm≠[]->V.w.heap.size<=bm\/(vs≠[]/\bm=lb)) /\
   Value.tuple #[.slice (mA bk c) n c,.int .i64 x]=.tuple #[.slice (mA bm c') (n+(Tr.leaf i).size) c',.int .i64 (rt n (.leaf i))]/\n+(Tr.leaf i).size<=c'/\c'*8<=vm.length/\NR (V3.bH (vm≠[]) bm) vm (l++wr n (.leaf i)):=by
   intro V3 bk x hle e3 e4 hx
   refine ⟨bk,vs,c,e3,fun h=>?_,by rw [hx];rfl,hnc,hcv,?_⟩
   ·rcases e4 h with h|h|h
    ·exact .inl h
    ·exact .inr h
    ·exact h.elim
   ·simp only [wr,List.append_nil]
    exact hnr.le hle
  refine jc _ lb n c vs V _ hv hxv ⟨hs,hs,true,tE hb 0 rfl,fun _=>⟨hs,hs,i,tE hb 1 rfl,fun hi V1 bk a1 a2 a3=>fin V1 bk _ a1 a2 a3 (by subst hi;rfl),fun hi V2 bk a1 a2 a3=>fin V2 bk _ a1 a2 a3 (by subst hi;rfl)⟩,fun h=>by cases h⟩
 | node ln x y zo ihy=>
  intro V p lb n c vs l hp hall hn hv hxv hnc hcv hnr hsz
  have hs:=A7 hp
  simp only [Tr.size] at hsz
  obtain ⟨⟨-,hbd⟩,hax,Hn⟩:=hall
  obtain ⟨b,i,b1,p1,n1,c1,b2,p2,n2,c2,b3,p3,n3,c3,pl,pr,rfl,hb,hl,hx,hy⟩:=hp
  have hat:∀j v,([.bool b1,.slice p1 n1 c1,.bool b2,.slice p2 n2 c2,.bool b3,.slice p3 n3 c3]:List Value)[j]?=some v->V.at (((⟨b,2,none⟩:Addr)).add j) v:=by
   intro j v hv
   have hj:j<6:=by
    rcases Nat.lt_or_ge j 6 with hj|hj
    ·exact hj
    ·rw [List.getElem?_eq_none (by simpa using hj)] at hv;cases hv
   have h2:(⟨b,2,none⟩:Addr)=(⟨b,0,none⟩:Addr).add 2:=by rw [add_zero']
   rw [h2,zv,add_zero']
   refine bY (xs:=[_,_,_,_,_,_,_,_,_,_]) hb ?_
   match j,hj,hv with
   | 0,_,hv=>exact hv
   | 1,_,hv=>exact hv
   | 2,_,hv=>exact hv
   | 3,_,hv=>exact hv
   | 4,_,hv=>exact hv
   | 5,_,hv=>exact hv
  obtain ⟨t1,t2,t3⟩:=hbd.ag
  refine jc _ lb n c vs V _ hv hxv ⟨hs,hs,false,tE hb 0 rfl,(fun h=>by cases h),fun _=>⟨hs,hs,b1,p1,n1,c1,b2,p2,n2,c2,b3,p3,n3,c3,⟨b,2,none⟩,by simp [af,add_zero'],hat 0 _ rfl,hat 1 _ rfl,hat 2 _ rfl,hat 3 _ rfl,hat 4 _ rfl,hat 5 _ rfl,fun V3 l3=>(lU (hl.le l3) (by omega) (by omega) (by omega)).mono ?_⟩⟩
  rintro r V4 l4 ER
  have Dv:=ER
  obtain ⟨d1,q1,m1,e1,d2,q2,m2,e2,d3,q3,m3,e3,rfl⟩:=xW ER
  have yA:=l3.trans l4
  refine ⟨_,_,_,_,_,_,_,_,_,_,_,_,rfl,by omega,hnc,hcv,rfl,by intro v hv;simp at hv;rcases hv with rfl|rfl|rfl|rfl|rfl|rfl|rfl|rfl<;>rfl,fun sp c' g1 g2=>?_⟩
  have hb4:=yA _ _ hb
  refine ⟨hs,hs,pl,tE hb4 8 rfl,fun V5 l5 bk1 f1 f2=>?_⟩
  have hpush:=NR.push (sp:=sp) (x:=0) (y:=0) (hnr.le yA) (by omega) (ln:=ln) Dv
  rw [←hn] at hpush
  generalize hrow:vs.take (n*8)++([_,_,_,_,_,_,_,_]:List Value)++sp=row at f1 f2 hpush ⊢
  have hrl:row.length=n*8+8+sp.length:=by
   rw [←hrow];simp only [List.length_append,List.length_take,List.length_cons,List.length_nil];omega
  have DI:row≠[]:=fun e=>by rw [e] at hrl;simp only [List.length_nil] at hrl;omega
  have DQ:=yA.trans l5
  have i1:=zo (V:=V5.aR [vb row V5.w.heap.size bk1]) (p:=pl) (lb:=bk1) (n:=n+1) (c:=c') (vs:=row) (l:=l++[⟨ln,0,0⟩]) (RW.le (V:=V) (V':=V5.aR _) (fun b o h=>DQ b o h) hx) hax (by simp [hn]) f1 (fun h=>⟨by simp [xS h],f2 h⟩) g1 (by omega) (NR.le (V:=V4) (V':=V5.aR _) hpush fun b o h=>l5 b o h) (by omega)
  refine i1.mono ?_
  rintro r V6 l6 ⟨bm,vm,c1',a1,a2,rfl,a5,a6,a7⟩
  have LP:V5.Le V6:=fun b o h=>l6 b o h
  have J5:V5.Le (V6.shut.bH (vm≠[]) bm):=oh (V':=V5) LP (View.Le.refl V5) fun h=>(a2 h).imp id fun h'=>by rw [h'.2];exact f2 DI
  refine ⟨bm,vm,a1,a2,none,_,_,_,rfl,hs,hs,pr,tE ((DQ.trans J5) _ _ hb) 9 rfl,fun V7 l7 bk2 d1 d2=>?_⟩
  have Fb:vm≠[]:=fun e=>by rw [e] at a6;simp at a6;omega
  have iy:V.Le V7:=(DQ.trans J5).trans l7
  have i2:=ihy (V:=V7.aR [vb vm V7.w.heap.size bk2]) (p:=pr) (lb:=bk2) (n:=n+1+x.size) (c:=c1') (vs:=vm) (l:=l++[⟨ln,0,0⟩]++wr (n+1) x) (RW.le (V:=V) (V':=V7.aR _) (fun b o h=>iy b o h) hy) Hn (by simp [hn,a_];omega) d1 (fun h=>⟨by simp [xS h],d2 h⟩) a5 a6 (NR.le (V:=V6.bH (vm≠[]) bm) (V':=V7.aR _) a7 fun b o h=>l7 b o h) (by omega)
  refine i2.mono ?_
  rintro r V8 l8 ⟨bn,vn,c2',b1',b2',rfl,b5,b6,b7⟩
  have hlen:n*8+8<=vn.length:=by omega
  simp only [Int.toNat_natCast]
  refine ⟨bn,vn,b1',b2',none,_,_,_,rfl,⟨by omega,by omega⟩,b5,by omega,⟨by omega,by omega⟩,b5,by rw [List.length_set];omega,fun V9 Eb u1 u4 u5=>?_⟩
  have hfin:=NR.kids (V:=V8.bH (vn≠[]) bn) (l:=l) (r:=wr (n+1) x++wr (n+1+x.size) y) (ln:=ln) (u:=0) (v:=0) (x:=rt (n+1) x) (y:=rt (n+1+x.size) y) (by simpa using b7)
  rw [←hn] at hfin
  refine ⟨Eb,_,c2',u4,fun h=>?_,by rw [show n+(Tr.node ln x y).size=n+1+x.size+y.size from by simp only [Tr.size];omega];rfl,by simp only [Tr.size];omega,by simp only [List.length_set];omega,?_⟩
  ·rcases u5 h with h|h|h
   ·exact .inl h
   ·exact .inr h
   ·exact h.elim
  ·simp only [wr]
   exact NR.le (V:=V8.bH (vn≠[]) bn) hfin fun b o h=>u1 b o h
theorem pX {V:View}{p:OA}{t:Tr}(h:RW V p t)(ha:t.kc D7)(hs:t.size<=1000000) :
  ab prog 14 #[.pointer p] V fun r V'=>AT V' r (rt 0 t) (wr 0 t):=by
 refine pF p V _ fun V1 l1=>?_
 refine ab.C9 (BK t (V:=V1) (lb:=0) (vs:=[]) (l:=[]) (n:=0) (c:=0) (h.le l1) ha rfl (fun h=>absurd rfl h) (fun h=>absurd rfl h) (Nat.le_refl _) (Nat.le_refl _) (fun i d hd=>by simp at hd) (by omega)) ?_
 rintro r V2 l2 hH ⟨bm,vm,c',a1,a2,rfl,a5,a6,a7⟩
 refine ⟨bm,vm,a1,fun h=>(a2 h).imp id fun h'=>absurd rfl h'.1,none,_,_,_,rfl,fun V3 l3 bk hb=>?_⟩
 simp only [List.nil_append,Nat.zero_add] at a7 a5 ⊢
 have:=NS.ofRow (V:=V3) (b:=bk) (c:=c') (vm:=vm) (l:=wr 0 t) (ty:=76) hb (by rw [a_];exact a5) (a7.le fun b o h=>l3 b o h)
 rw [a_] at this
 exact ⟨_,_,_,rfl,this⟩
def xV (V:View)(vs:List Value)(i:Nat)(d:Nd):Prop:=∃(b1:Bool)(p1:OA)(n1 c1:Nat)(b2:Bool)(p2:OA)(n2 c2:Nat)(b3:Bool)(p3:OA)(n3 c3:Nat),
 (∀j v,([.bool b1,.slice p1 n1 c1,.bool b2,.slice p2 n2 c2,.bool b3,.slice p3 n3 c3,.int .i64 d.left,.int .i64 d.right]:List Value)[j]?=some v->vs[i*8+j]?=some v) /\
 zt V (.agg #[.bool b1,.slice p1 n1 c1,.bool b2,.slice p2 n2 c2,.bool b3,.slice p3 n3 c3]) d.ln
theorem xV.le {V V':View}{vs:List Value}{i:Nat}{d:Nd}(h:xV V vs i d)(hl:V.Le V'):xV V' vs i d:=by
 obtain ⟨b1,p1,n1,c1,b2,p2,n2,c2,b3,p3,n3,c3,h1,h2⟩:=h
 exact ⟨b1,p1,n1,c1,b2,p2,n2,c2,b3,p3,n3,c3,h1,h2.le hl⟩
theorem AQ {vs xs:List Value}{k i:Nat}(hx:xs.length=8)(h:k*8+8<=vs.length)(hi:i<k*8\/k*8+8<=i):(vs.take (k*8)++xs++vs.drop (k*8+8))[i]?=vs[i]?:=by
 have ht:(vs.take (k*8)).length=k*8:=by rw [List.length_take];omega
 rcases hi with hi|hi
 ·rw [List.append_assoc,List.getElem?_append_left (by omega),List.getElem?_take,if_pos hi]
 ·rw [List.getElem?_append_right (by rw [List.length_append];omega),List.length_append,ht,hx,List.getElem?_drop]
  congr 1
  omega
theorem LU {a b c d e f g h v:Value}{j:Nat}(hv:([a,b,c,d,e,f,g,h]:List Value)[j]?=some v):j<8:=by
 rcases Nat.lt_or_ge j 8 with hj|hj
 ·exact hj
 ·rw [List.getElem?_eq_none (by simpa using hj)] at hv;cases hv
theorem xV.out {V:View}{vs xs:List Value}{k i:Nat}{d:Nd}(h:xV V vs i d)(hx:xs.length=8)(hk:k*8+8<=vs.length)(hi:i≠k):xV V (vs.take (k*8)++xs++vs.drop (k*8+8)) i d:=by
 obtain ⟨b1,p1,n1,c1,b2,p2,n2,c2,b3,p3,n3,c3,h1,h2⟩:=h
 refine ⟨b1,p1,n1,c1,b2,p2,n2,c2,b3,p3,n3,c3,fun j v hv=>?_,h2⟩
 have:=LU hv
 rw [AQ hx hk (by omega)]
 exact h1 j v hv
def vm (n b m:Nat):Nat:=(n-1-m+(n-b))%n
theorem ki {V : View}{v w : Value}{r1 r2 : Int}{l1 l2 : List Nd}(h1 : AT V v r1 l1)(h2 : AT V w r2 l2)(hb : ∀ x∈l1, Bd x.ln)(hk1 : ∀ x∈l1, fV x.ln = true)(hk2 : ∀ x∈l2, fV x.ln = true)(hlen : l1.length≤1000000) :
    ab prog 40 #[v, w] V fun r V' => r = .bool (decide (r1 = r2 ∧ l1 = l2)) := by
  obtain ⟨q1, n1, c1, rfl, hs1⟩ := h1
  obtain ⟨q2, n2, c2, rfl, hs2⟩ := h2
  have e1 : n1 = l1.length := hs1.len
  have e2 : n2 = l2.length := hs2.len
  subst e1 e2
  refine qz r1 q1 l1.length c1 r2 q2 l2.length c2 V _ ⟨fun g V1 k1 => ?_, fun g => ⟨fun g2 V2 k2 => ?_, fun g2 => ?_⟩⟩
  · have g : r1 ≠ r2 := by simpa using g
    rw [decide_eq_false (fun h => g h.1)]
  · have g2 : l1.length ≠ l2.length := by rw [bne_iff_ne] at g2;omega
    rw [decide_eq_false (fun h => g2 (by rw [h.2]))]
  have g : r1 = r2 := by simpa using g
  have g2 : l1.length = l2.length := by have : ((l1.length : Nat) : Int) = (l2.length : Nat) := by simpa using g2
                                        omega
  refine ⟨fun z _ => ∃ i : Nat, z = i ∧ i≤l1.length ∧ l1.take i = l2.take i, fun z => (l1.length-z).toNat, ⟨0, by (try dsimp only);and_intros<;>trivial, 0, rfl, by omega, by simp⟩, ?_⟩
  rintro _ V3 k3 ⟨i, rfl, hi, ht⟩
  refine ⟨rfl, fun g3 => ?_, fun g3 V9 k9 => ?_⟩
  · have g3 : i<l1.length := by have := of_decide_eq_true g3;omega
    have hg1 : l1[i]? = some (l1[i]'(by omega)) := List.getElem?_eq_getElem (by omega)
    have hg2 : l2[i]? = some (l2[i]'(by omega)) := List.getElem?_eq_getElem (by omega)
    generalize l1[i]'(by omega) = d at hg1
    generalize l2[i]'(by omega) = d' at hg2
    obtain ⟨b1, p1, m1, f1, b2, p2, m2, f2, b3, p3, m3, f3, a, ha, a0, a1, a2, a3, a4, a5, a6, a7, hL⟩ := (hs1.le k3).rd hg1
    obtain ⟨b1', H3, LV, He, b2', H5, LW, f2', b3', H6, LX, f3', a', ha', a0', a1', KY, a3', a4', KZ, a6', K0, hL'⟩ := (hs2.le k3).rd hg2
    have hne : d ≠ d' → l1 ≠ l2 := fun h e => h (by rw [e, hg2] at hg1;exact (Option.some.inj hg1).symm)
    obtain ⟨t1, t2, t3⟩ := (hb d (List.mem_of_getElem? hg1)).ag
    have hi1 : IntKind.i64.wrap ((i : Int)+1) = ((i+1 : Nat) : Int) := by rw [aG (by omega)];omega
    rw [Int.toNat_natCast, hi1]
    refine ⟨hs1.Af (by omega), ⟨by omega, by omega⟩, b1, p1, m1, f1, b2, p2, m2, f2, b3, p3, m3, f3, d.left, d.right, a, ha, a0, a1, a2, a3, a4, a5, a6, a7, hs2.Af (by omega), ⟨by omega, by omega⟩, b1', H3, LV, He, b2', H5, LW, f2', b3', H6, LX, f3', d'.left, d'.right, a', ha', a0', a1', KY, a3', a4', KZ, a6', K0, fun g4 V4 k4 => ?_, fun g4 => ⟨fun g5 V5 k5 => ?_, fun g5 V6 k6 => (pW ((hL.ok (hk1 d (List.mem_of_getElem? hg1))).le k6) ((hL'.ok (hk2 d' (List.mem_of_getElem? hg2))).le k6) (by omega) (by omega) (by omega)).mono ?_⟩⟩
    · have g4 : d.left ≠ d'.left := by simpa using g4
      rw [decide_eq_false (fun h => hne (fun e => g4 (by rw [e])) h.2)]
    · have g5 : d.right ≠ d'.right := by simpa using g5
      rw [decide_eq_false (fun h => hne (fun e => g5 (by rw [e])) h.2)]
    · rintro r V7 k7 rfl
      have h4 : d.left = d'.left := by simpa using g4
      have h5 : d.right = d'.right := by simpa using g5
      refine ⟨_, rfl, fun g6 V8 k8 => ?_, fun g6 => ⟨((i+1 : Nat) : Int), by dsimp only;omega, by and_intros<;>trivial, i+1, rfl, by omega, ?_⟩⟩
      · have g6 : ¬(d.ln.1 = d'.ln.1 ∧ d.ln.2.1 = d'.ln.2.1 ∧ d.ln.2.2 = d'.ln.2.2) := by rw [Bool.not_eq_true'] at g6;exact of_decide_eq_false g6
        rw [decide_eq_false (fun h => hne (fun e => g6 (by rw [e];exact ⟨rfl, rfl, rfl⟩)) h.2)]
      · have h6 : d.ln.1 = d'.ln.1 ∧ d.ln.2.1 = d'.ln.2.1 ∧ d.ln.2.2 = d'.ln.2.2 := by rw [Bool.not_eq_false'] at g6;exact of_decide_eq_true g6
        clear g4 g5 g6
        have hd : d = d' := by
          obtain ⟨⟨x1, x2, x3⟩, y1, y2⟩ := d
          obtain ⟨⟨u1, u2, u3⟩, w1, w2⟩ := d'
          dsimp only at h4 h5 h6
          obtain ⟨rfl, rfl, rfl⟩ := h6
          subst h4 h5
          rfl
        rw [List.take_add_one, List.take_add_one, ht, hg1, hg2, hd]
  · have g3 : i = l1.length := by have := of_decide_eq_false g3;omega
    subst g3
    rw [List.take_of_length_le (Nat.le_refl _), List.take_of_length_le (by omega)] at ht
    rw [decide_eq_true ⟨g, ht⟩]
theorem DW {t:Tr}(h:t.kc D7):t.kc Bd:=Tr.kc.imp (fun _ h=>h.2) h
end Go.Proofs.Tryz
namespace Go.bh
def View.bare (V:View)(b:Nat):View:=⟨V.w,fun x=>V.H x/\x≠b,fun x=>V.X x/\x≠b,fun x h=>V.hH x h.1,fun x h=>⟨V.hX x h.1,h.2⟩⟩
theorem ab.bare {P:Program}{f:FuncId}{args:Array Value}{V:View}{b:Nat}{R:Value->View->Prop}(hs:b<V.w.heap.size)(h:ab P f args (V.bare b) R) :
  ab P f args V fun r V'=>V'.w.heap[b]?=V.w.heap[b]?/\R r (V'.bare b):=by
 refine ⟨h.1,h.2.mono fun _ w' ⟨r,he,hx,hr⟩=>⟨r,he,⟨hx.size,fun x h1 h2=>hx.bj x h1 fun h=>h2 h.1,hx.os,hx.tape,hx.out⟩,hx.bj b hs (fun h=>h.2 rfl),hr⟩⟩
def CD (V:View)(b:Nat):Prop:=∃(cs:Array Value)(ty:TypeId)(m:Nat×Nat),V.w.heap[b]?=some (.cells cs ty m)/\∀v∈cs,∀k z,v≠.int k z
theorem CD.ne {V:View}{b:Nat}(h:CD V b){a:Addr}{k:IntKind}{z:Int}(ha:(V.bare b).at a (.int k z)):a.block≠b:=by
 obtain ⟨cs,ty,m,hb,hn⟩:=h
 intro e
 have h2:=ha.2
 unfold World.cell? at h2
 rw [e] at h2
 have hb':(V.bare b).w.heap[b]?=some (.cells cs ty m):=hb
 rw [hb'] at h2
 dsimp only at h2
 split at h2
 ·cases h2
 ·obtain ⟨hi,e2⟩:=Array.getElem?_eq_some_iff.1 h2
  exact hn _ (e2▸Array.getElem_mem hi) k z rfl
end Go.bh
namespace Go.Proofs.Tryz
open Go.bh Go.dN
theorem Bj:∀{t:Tr} {k:Nat},t.kc D7->∀x∈wr k t,fV x.ln=true
 | .leaf _,_,_,x,h=>by cases h
 | .node l a b,k,⟨h1,h2,h3⟩,x,h=>by
  simp only [wr] at h
  rcases List.mem_cons.1 h with rfl|h
  ·exact h1.1
  ·rcases List.mem_append.1 h with h|h
   ·exact Bj h2 x h
   ·exact Bj h3 x h
theorem rX:∀{t:Tr},t.kc (fun x=>fV x=true)->t.kc Bd->t.kc D7
 | .leaf _,_,_=>trivial
 | .node _ _ _,⟨a1,a2,a3⟩,⟨b1,b2,b3⟩=>⟨⟨a1,b1⟩,rX a2 b2,rX a3 b3⟩
theorem mE {V:View}{l:List Nd}(hb:∀x∈l,Bd x.ln){v:Value}{root:Int}(h:AT V v root l)(ho:dv l root=none){y:Value}(hy:my V 0 y) :
  ab prog 35 #[v] V fun r V'=>r=.tuple #[.int .i64 0,y]:=by
 have h0:=h
 obtain ⟨p,n,c,rfl,hn⟩:=h
 refine tC root p _ c V _ fun V1 l1=>(dG hb (h0.le l1)).mono ?_
 rintro r V2 l2 rfl
 rw [ho]
 exact ⟨_,rfl,fun _=>⟨y,⟨_,rfl,hy.le (l1.trans l2)⟩,fun V3 l3=>rfl⟩,(fun h=>nomatch h)⟩
theorem ld {V:View}{l:List Nd}(hb:∀x∈l,Bd x.ln){v:Value}{root:Int}(h:AT V v root l)(ho:dv l root=none){y:Value}(hy:my V 0 y) :
  ab prog 36 #[v] V fun r V'=>r=.tuple #[.slice none 0 0,y]:=by
 have h0:=h
 obtain ⟨p,n,c,rfl,hn⟩:=h
 refine qB root p _ c V _ fun V1 l1=>(dS hb (h0.le l1)).mono ?_
 rintro r V2 l2 ⟨q,rfl,hq⟩
 rw [ho]
 exact ⟨_,_,rfl,fun _=>⟨y,⟨_,rfl,hy.le (l1.trans l2)⟩,fun V3 l3=>rfl⟩,(fun h=>nomatch h)⟩
theorem kh {V:View}{y z:Value}(hs:D_ V y z){root:Int}{p:OA}{n c:Nat}{rs:List Rn}(h:zh 8 xX V p n rs)(hc:n<=c)(hn:p.isNone=true->c=0) :
  ab prog 8 #[.agg #[.int .i64 root,.slice p n c]] V fun r V'=>r=.bool true:=by
 have hl:=h.len
 refine jZ root p n c V _ ⟨fun _ V1 l1=>(mY (hs.le l1)).mono ?_,fun h12=>?_⟩
 ·rintro r V2 l2 rfl
  exact ⟨_,rfl,fun V3 l3=>rfl⟩
 have h12:n<=12:=by have:=of_decide_eq_false h12;omega
 refine ⟨fun z _=>∃i:Nat,z=(i:Int)/\i<=n/\∀r∈rs.take i,r.short,fun z=>(n-z).toNat,⟨0,by and_intros<;>first|rfl|trivial,0,rfl,Nat.zero_le _,fun r hr=>by simp at hr⟩,?_⟩
 rintro _ V4 l4 ⟨i,rfl,hi,hsh⟩
 refine ⟨by trivial,fun hlt=>?_,fun hlt jq l10=>?_⟩
 ·have hlt:i<n:=by have:=of_decide_eq_true hlt;omega
  have hi':i<rs.length:=by omega
  have w1:i64.wrap ((i:Int)+1)=((i+1:Nat):Int):=by rw [aG (by omega)];rfl
  rw [w1,Int.toNat_natCast]
  obtain ⟨is,p1,n1,c1,p2,n2,c2,p3,n3,c3,a,had,a0,a1,a2,a3,a4,a5,a6,a7,e1,e2,e3⟩:=F7 (h.le l4 fun _ _ g=>xX.le g l4) hi'
  refine ⟨is,⟨by omega,by omega⟩,_,p1,n1,c1,_,p2,n2,c2,_,p3,n3,c3,_,_,a,had,a0,a1,a2,a3,a4,a5,a6,a7,fun V5 l5 bk hbk=>(zM 3 hbk).mono ?_⟩
  rintro r V6 l6 ⟨b,rfl,hb⟩
  refine ⟨_,rfl,fun _=>⟨fun _ V7 l7=>(mY (hs.le (l4.trans (l5.trans (l6.trans l7))))).mono ?_,fun hb'=>⟨((i+1:Nat):Int),by dsimp only;omega,by and_intros<;>first|rfl|trivial,i+1,rfl,hlt,fun r hr=>?_⟩⟩⟩
  ·rintro r V8 l8 rfl
   exact ⟨_,rfl,fun V9 l9=>rfl⟩
  ·rw [←List.take_append_getElem hi',List.mem_append,List.mem_singleton] at hr
   rcases hr with hr|rfl
   ·exact hsh r hr
   ·obtain ⟨g1,g2,g3⟩:=hb (by simpa using hb')
    exact ⟨by omega,by omega,by omega⟩
 have hlt:i=n:=by have:=of_decide_eq_false hlt;omega
 subst hlt
 rw [List.take_of_length_le (by omega)] at hsh
 have lq:=l4.trans l10
 obtain ⟨hns,hbd⟩:=NS.DV (h.le lq fun _ _ g=>xX.le g lq) hsh hc hn
 have hlen:(rs.map Rn.nd).length<=12:=by rw [List.length_map];omega
 generalize rs.map Rn.nd=l at *
 have hA:∀{W:View},jq.Le W->AT W (.agg #[.int .i64 root,.slice p i c]) root l:=fun e=>⟨p,i,c,rfl,hns.le e⟩
 refine (sk hbd root hns).mono ?_
 rintro r pJ cA ⟨q,rfl,hq⟩
 refine ⟨_,_,rfl,fun nu dt=>(sr (hA (cA.trans dt)) hbd (hs.inv.le (lq.trans (cA.trans dt)))).mono ?_⟩
 rintro r qH dJ ⟨o,e,rfl,k1,k2⟩
 have me:=cA.trans (dt.trans dJ)
 have wz:=lq.trans me
 cases hof:dv l root with
 | none=>
  obtain ⟨rfl,rfl⟩:=k1 hof
  refine ⟨_,_,_,_,_,rfl,fun _ pK dO=>(mE hbd (hA (me.trans dO)) hof (hs.inv.le (wz.trans dO))).mono ?_,(fun h=>by cases h)⟩
  rintro r pL fp rfl
  have Ak:=dO.trans fp
  refine ⟨_,_,rfl,fun rV dX=>(ld hbd (hA (me.trans (Ak.trans dX))) hof (hs.inv.le (wz.trans (Ak.trans dX)))).mono ?_⟩
  rintro r pP ew rfl
  have C0:=Ak.trans (dX.trans ew)
  refine ⟨_,_,_,_,rfl,fun vH gk=>(mY (hs.le (wz.trans (C0.trans gk)))).mono ?_⟩
  rintro r zi iB rfl
  have C1:=C0.trans (gk.trans iB)
  refine ⟨_,rfl,fun _ Bm lr=>(dG hbd (hA (me.trans (C1.trans lr)))).mono ?_,(fun h=>by cases h)⟩
  rintro r tL il rfl
  have C2:=C1.trans (lr.trans il)
  rw [hof]
  refine ⟨_,rfl,fun _ xY lu=>(iH hbd (hns.le (me.trans (C2.trans lu)))).mono ?_,(fun h=>by cases h)⟩
  rintro r vM js ⟨g1,-⟩
  have g1:=g1 hof
  subst g1
  have Al:=C2.trans (lu.trans js)
  refine ⟨_,rfl,fun _ Bn wA=>(lW (hA (me.trans (Al.trans wA))) (hA (me.trans (Al.trans wA))) hbd hbd).mono ?_,(fun h=>by cases h)⟩
  rintro r Bo pM rfl
  have Fk:=wz.trans (Al.trans (wA.trans pM))
  rw [hof]
  refine ⟨_,rfl,fun _=>⟨e,⟨_,rfl,hs.inv.le Fk⟩,fun Eo xE=>(dT hs.yE).mono ?_⟩,(fun h=>by cases h)⟩
  rintro r Gu uA rfl
  have Fl:=Fk.trans (xE.trans uA)
  refine ⟨_,rfl,fun _=>⟨e,⟨_,rfl,hs.inv.le Fl⟩,fun Ep B4=>(dT hs.yE).mono ?_⟩,(fun h=>by cases h)⟩
  rintro r G2 C3 rfl
  have HS:=Fl.trans (B4.trans C3)
  refine ⟨_,rfl,fun _=>⟨e,⟨_,rfl,hs.inv.le HS⟩,fun Er yB=>(dT hs.yE).mono ?_⟩,(fun h=>by cases h)⟩
  rintro r Ks GG rfl
  exact ⟨_,rfl,fun _ Kt LJ=>rfl,(fun h=>by cases h)⟩
 | some t=>
  obtain ⟨ho,rfl⟩:=k2 t hof
  have HB:=Ce hof
  obtain ⟨-,hsz,hok⟩:=AF hof
  have HF:t.kc D7:=rX hok (jk hbd hof)
  have ho0:=ho
  obtain ⟨po,no,co,rfl,-⟩:=ho
  have Lt:=hq t hof
  refine ⟨_,_,_,_,_,rfl,(fun h=>by cases h),fun _ Ms JZ=>(pX (RW.le (dt.trans (dJ.trans JZ)) Lt) HF (by omega)).mono ?_⟩
  rintro r Mt LM hw
  have hw0:=hw
  obtain ⟨pw,nw,cw,rfl,-⟩:=hw
  have Am:=JZ.trans LM
  refine ⟨_,_,_,_,rfl,fun Mu J0=>(mY (hs.le (wz.trans (Am.trans J0)))).mono ?_⟩
  rintro r Mv LN rfl
  have C4:=J0.trans LN
  have CX:=me.trans (Am.trans C4)
  refine ⟨_,rfl,fun _ Mw HU=>(dG hbd (hA (CX.trans HU))).mono ?_,(fun h=>by cases h)⟩
  rintro r Mx J1 rfl
  rw [hof]
  have Ai:=CX.trans (HU.trans J1)
  refine ⟨_,rfl,fun _ G3 l46=>(lW (hA (Ai.trans l46)) (hA (Ai.trans l46)) hbd hbd).mono ?_,(fun h=>by cases h)⟩
  rintro r I3 J2 rfl
  rw [hof]
  have CY:=Ai.trans (l46.trans J2)
  have Fq:=C4.trans (HU.trans (J1.trans (l46.trans J2)))
  refine ⟨_,rfl,fun _ G4 HV=>(iH hbd (hns.le (CY.trans HV))).mono ?_,fun h=>by simp at h⟩
  rintro r I4 J3 ⟨-,g2⟩
  have g2:=g2 t hof
  subst g2
  have Fo:=CY.trans (HV.trans J3)
  have C5:=Fq.trans (HV.trans J3)
  have hwk:∀x∈wr 0 t,fV x.ln=true:=Bj HF
  have hwb:∀x∈wr 0 t,Bd x.ln:=ku (DW HF)
  refine ⟨_,rfl,fun G5 HW=>(ki (hA (Fo.trans HW)) (hw0.le (C5.trans HW)) hbd HB hwk (by omega)).mono ?_⟩
  rintro r I5 LO rfl
  have C6:=C5.trans (HW.trans LO)
  refine ⟨_,rfl,fun _=>⟨uG.1,fun _ G6 J4=>(ki (ho0.le (Am.trans (C6.trans J4))) (hw0.le (C6.trans J4)) hwb hwk hwk (by rw [a_];omega)).mono ?_,fun h=>by rw [uG.2] at h;cases h⟩,fun h=>by simp at h⟩
  rintro r I6 MJ rfl
  refine ⟨_,rfl,fun G7 MK=>?_⟩
  simp
end Go.Proofs.Tryz
