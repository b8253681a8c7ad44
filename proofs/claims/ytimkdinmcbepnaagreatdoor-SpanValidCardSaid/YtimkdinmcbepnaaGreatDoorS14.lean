/- A part of the proof (joined by program from: VSpanA, SpanA, SortP, SortQ, RowS, SweepP). -/
import Derived.Test.YtimkdinmcbepnaaGreatDoorS5
import Derived.Test.YtimkdinmcbepnaaGreatDoorS13
import Derived.Test.YtimkdinmcbepnaaGreatDoorS12
set_option linter.unusedVariables false
open Go.IntKind (i64 u64 u32)
/- By program: the conditions of the functions, from their loaded code. -/
namespace Go.Proofs.Tryz
open Go.Eng
open Go.Value renaming int→I,pointer→P,slice→S,agg→A,bool→B,tuple→T
open Go.IntKind renaming i64→J,u64→U,u32→W
set_option maxRecDepth 100000
theorem vc_geo_Set_API (g:OA) (e a2:Nat) (V:View) (R:VR) (h:(∃(a3:(Nat × Nat × (List Value) × Int)->VP) (a6:(Nat × Nat × (List Value) × Int)->Nat),(∃i,(s5 g e a2 (e:Int) (none:OA) (((0:Nat)=i.1)/\((0:Nat)=i.2.1)/\sm 0/\((0:Int)=i.2.2.2)/\(i.2.2.1=[])))/\a3 i V)/\∀(a:Nat × Nat × (List Value) × Int) (b:View),V.Le b->a3 a b->(true=true/\(((decide (a.2.2.2 < (e:Int)))=true->(g.isSome=true)/\(0<=a.2.2.2/\a.2.2.2 < (e:Int))/\(∃a7,∃a8,∃a9,∃b0,∃b1,∃b2,∃b3,∃b4,∃d,addrAdd g (a.2.2.2.toNat * 8)=some d/\b.at (d.add 0) (I J a7)/\b.at (d.add 1) (I J a8)/\b.at (d.add 2) (P a9)/\b.at (d.add 3) (I J b0)/\b.at (d.add 4) (I J b1)/\b.at (d.add 5) (P b2)/\b.at (d.add 6) (B b3)/\b.at (d.add 7) (B b4)/\(Ca b 131 #[A #[I J a7,I J a8,P a9,I J b0,I J b1,P b2,B b3,B b4]] fun b7 b8=>∃l,∃m n o,∃p q r,∃s,∃t u w,∃x y z,∃a0,∃a1,b7=A #[B l,S m n o,S p q r,B s,S t u w,S x y z,B a0,B a1]/\((a.1 + 1) * 120<=140737488355328/\a.1<=a.2.1/\a.2.1 * 8<=a.2.2.1.length/\([B l,S m n o,S p q r,B s,S t u w,S x y z,B a0,B a1]:List Value).length=1 * 8/\(∀b9 ∈ ([B l,S m n o,S p q r,B s,S t u w,S x y z,B a0,B a1]:List Value),b9.oneCell'=true)/\∀(b5:List Value) (a4:Nat),a.1 + 1<=a4->a4 * 8<=(a.1 + 1) * 8 + b5.length->(∃f:Nat × Nat × (List Value) × Int,a6 f < a6 a/\(s4 g e a2 (e:Int) (((a.1 + 1:Nat)=f.1)/\((a4:Nat)=f.2.1)/\((J.wrap (a.2.2.2 + (1:Int)))=f.2.2.2)/\((a.2.2.1.take (a.1 * 8)++([B l,S m n o,S p q r,B s,S t u w,S x y z,B a0,B a1]:List Value)++b5)=f.2.2.1)))/\a3 f b8)))))/\((decide (a.2.2.2 < (e:Int)))=false->(∀a5,b.Le a5->∀b6:Nat,(a.2.2.1≠[]->a5.blk b6 (.cells a.2.2.1.toArray 77 (0,0)))->R (S (mA b6 a.2.1) a.1 a.2.1) a5)))))):
 Acts prog 65 #[S g e a2] V R:=
 fd (LF:=LF0) (RF:=[1000010]) [(3,⟨Nat × Nat × (List Value) × Int,false,[6,7],[],fun k=>[(3,.c (.msl 3 k.1 k.2.1)),(8,.c (.v (I J k.2.2.2)))],fun k=>[(3,⟨.mrow k.2.2.1,77⟩)]⟩)] [] func65 h
end Go.Proofs.Tryz
/- Contracts: lists of spans are written (printed by mkspan.py). -/
namespace Go.Proofs.Tryz
open Go.Eng Go.Big
theorem sp_shape {V:View} {v:Value} {s:Sp} (h:RSp V v s):∃b p n c p' n' c' d q m e q' m' e',v=.agg #[.bool b,.slice p n c,.slice p' n' c',.bool d,.slice q m e,.slice q' m' e',.bool s.a,.bool s.b]:=by
 obtain ⟨_,_,_,_,_,_,_,_,_,_,_,_,_,_,e,-⟩:=h; exact ⟨_,_,_,_,_,_,_,_,_,_,_,_,_,_,e⟩
theorem iv_shape {V:View} {v:Value} {s:Sp} (h:RIv V v s):∃(x1 x2:Int) (p:OA) (y1 y2:Int) (q:OA),v=.agg #[.int .i64 x1,.int .i64 x2,.pointer p,.int .i64 y1,.int .i64 y2,.pointer q,.bool s.a,.bool s.b]:=by
 obtain ⟨_,_,_,_,_,_,e,-⟩:=h; exact ⟨_,_,_,_,_,_,e⟩
theorem c_Set_API {V:View} {p:OA} {n c:Nat} {ls:List Sp} (h:Lst 8 RIv V p n ls) (hn:ls.length<=1000) {k:Nat} (hs:∀s ∈ ls,s.sz k) (hk:k<=1099511627776) :
  Acts prog 65 #[.slice p n c] V fun r V'=>∃q m e,r=.slice q m e/\Lst 8 RSp V' q m ls:=by
 obtain rfl:=h.len
 refine vc_geo_Set_API p _ c V _ ⟨fun z V'=>∃j:Nat,z.2.2.2=(j:Int)/\j<=ls.length/\z.1=j/\j<=z.2.1/\z.2.1 * 8<=z.2.2.1.length/\Row 8 RSp V' z.2.2.1 (ls.take j),
  fun z=>ls.length - z.2.2.2.toNat,⟨(0,0,[],0),by and_intros <;> rfl,0,rfl,Nat.zero_le _,rfl,Nat.le_refl _,Nat.le_refl _,Row.nil⟩,?_⟩
 rintro ⟨z1,z2,vs,z4⟩ V1 l1 ⟨j,e4,jle,e1,jc,hv,hx⟩
 dsimp only at e4 e1 jc hv hx
 subst e4 e1
 refine ⟨rfl,fun hlt=>?_,fun hlt V4 l4 bk hb=>?_⟩
 ·have hlt:(z1:Int) < ls.length:=of_decide_eq_true hlt
  have hi:z1 < ls.length:=by omega
  obtain ⟨ad,ha,xs,-,hf,hat⟩:=(h.le l1 fun _ _ g=>RIv.le g l1).at_ z1 hi
  have w:i64.wrap ((z1:Int) + 1)=(z1:Int) + 1:=i64w (by omega)
  dsimp only
  rw [Int.toNat_natCast,w]
  have hf0:=hf
  obtain ⟨_,_,_,_,_,_,ex⟩:=iv_shape hf
  have ex:=congrArg Array.toList (Value.agg.inj ex)
  dsimp only at ex
  subst ex
  refine ⟨isSome_addr ha,⟨by omega,by omega⟩,_,_,_,_,_,_,_,_,ad,ha,hat 0 _ rfl,hat 1 _ rfl,hat 2 _ rfl,hat 3 _ rfl,hat 4 _ rfl,hat 5 _ rfl,hat 6 _ rfl,hat 7 _ rfl,fun V2 l2=>(c_Iv_API (hf0.le l2) (hs _ (List.getElem_mem hi)) hk).mono ?_⟩
  rintro r V3 l3 g
  have g0:=g
  obtain ⟨_,_,_,_,_,_,_,_,_,_,_,_,_,_,rfl⟩:=sp_shape g
  have tl:(ls.take z1).length=z1:=by rw [List.length_take]; omega
  refine ⟨_,_,_,_,_,_,_,_,_,_,_,_,_,_,_,_,rfl,by omega,jc,hv,rfl,?_,fun sp c' h1 h2=>⟨(z1 + 1,c',_,(z1:Int) + 1),by dsimp only; omega,by and_intros <;> rfl,z1 + 1,rfl,hi,rfl,h1,?_,?_⟩⟩
  ·intro v hm
   simp only [List.mem_cons,List.not_mem_nil,or_false] at hm
   rcases hm with rfl | rfl | rfl | rfl | rfl | rfl | rfl | rfl <;> rfl
  ·dsimp only
   have ht:(vs.take (z1 * 8)).length=z1 * 8:=by rw [List.length_take]; omega
   rw [List.length_append,List.length_append,ht]
   simp only [List.length_cons,List.length_nil]
   omega
  ·dsimp only
   rw [List.take_add_one,List.getElem?_eq_getElem hi]
   have:=(hx.le (V':=V3) fun _ _ g=>RSp.le g (l2.trans l3)).snoc (sp:=sp) rfl g0 (by decide)
   rw [tl] at this
   exact this
 ·have hlt:¬ (z1:Int) < ls.length:=of_decide_eq_false hlt
  obtain rfl:z1=ls.length:=by omega
  rw [List.take_length] at hx
  exact ⟨_,_,_,rfl,Lst.of_mrow hb (hx.le fun _ _ g=>RSp.le g l4) (by decide) jc⟩
end Go.Proofs.Tryz
/- Plain: what sorting in place does to a list: swaps, segments, the order of the elements. -/
namespace Go.Proofs.Tryz
open Go.Big
section
variable {α:Type}
/-- A comparison that orders. -/
structure Ord (c:α->α->Int):Prop where
 asy:∀a b,c a b < 0->¬ c b a < 0
 tr:∀a b d,¬ c a b < 0->¬ c b d < 0->¬ c a d < 0
variable {c:α->α->Int}
theorem Ord.le (h:Ord c) {a b:α} (l:c a b < 0):¬ c b a < 0:=h.asy a b l
theorem Ord.refl (h:Ord c) (a:α):¬ c a a < 0:=fun l=>h.asy a a l l
/-- Two elements change places. -/
def swp (d:α) (l:List α) (i j:Nat):List α:=(l.set i (l.getD j d)).set j (l.getD i d)
variable {d:α}
theorem swp_len {l:List α} {i j:Nat}:(swp d l i j).length=l.length:=by simp [swp]
theorem getD_set {l:List α} {i k:Nat} {x:α} (hi:i < l.length):(l.set i x).getD k d=if k=i then x else l.getD k d:=by
 simp only [List.getD_eq_getElem?_getD,List.getElem?_set]
 by_cases h:k=i
 ·subst h; simp [hi]
 ·have:¬ i=k:=fun e=>h e.symm
  simp [h,this]
theorem swp_at {l:List α} {i j k:Nat} (hi:i < l.length) (hj:j < l.length):(swp d l i j).getD k d=if k=j then l.getD i d else if k=i then l.getD j d else l.getD k d:=by
 unfold swp
 rw [getD_set (by simpa using hj),getD_set hi]
theorem swp_perm {l:List α} {i j:Nat} (hi:i < l.length) (hj:j < l.length):(swp d l i j).Perm l:=by
 have h:=Array.swap_perm (xs:=l.toArray) (i:=i) (j:=j) (by simpa using hi) (by simpa using hj)
 have e:(l.toArray.swap i j (by simpa using hi) (by simpa using hj)).toList=swp d l i j:=by
  simp [Array.swap,swp,List.getD_eq_getElem?_getD,hi,hj]
 have:=h.toList
 rw [e] at this
 simpa using this
/-- Only the part from a to b was changed, within itself. -/
structure Seg (d:α) (l m:List α) (a b:Nat):Prop where
 len:m.length=l.length
 out:∀k,¬ (a<=k/\k < b)->m.getD k d=l.getD k d
 mem:∀k,a<=k->k < b->∃k',a<=k'/\k' < b/\m.getD k d=l.getD k' d
 perm:m.Perm l
theorem Seg.refl (l:List α) (a b:Nat):Seg d l l a b:=⟨rfl,fun _ _=>rfl,fun k h h'=>⟨k,h,h',rfl⟩,.refl _⟩
theorem Seg.trans {l m n:List α} {a b:Nat} (h:Seg d l m a b) (g:Seg d m n a b):Seg d l n a b:=
 ⟨g.len.trans h.len,fun k hk=>(g.out k hk).trans (h.out k hk),fun k h1 h2=>by
  obtain ⟨k',h3,h4,e⟩:=g.mem k h1 h2
  obtain ⟨k'',h5,h6,e'⟩:=h.mem k' h3 h4
  exact ⟨k'',h5,h6,e.trans e'⟩,g.perm.trans h.perm⟩
theorem Seg.wide {l m:List α} {a b a' b':Nat} (h:Seg d l m a b) (ha:a'<=a) (hb:b<=b'):Seg d l m a' b':=
 ⟨h.len,fun k hk=>h.out k (by omega),fun k h1 h2=>by
  by_cases hk:a<=k/\k < b
  ·obtain ⟨k',h3,h4,e⟩:=h.mem k hk.1 hk.2
   exact ⟨k',by omega,by omega,e⟩
  ·exact ⟨k,h1,h2,h.out k hk⟩,h.perm⟩
theorem Seg.swp {l:List α} {a b i j:Nat} (hi:a<=i) (hi':i < b) (hj:a<=j) (hj':j < b) (hb:b<=l.length):Seg d l (swp d l i j) a b:=by
 refine ⟨swp_len,fun k hk=>?_,fun k h1 h2=>?_,swp_perm (by omega) (by omega)⟩
 ·rw [swp_at (by omega) (by omega),if_neg (by omega),if_neg (by omega)]
 ·rw [swp_at (by omega) (by omega)]
  split
  ·exact ⟨i,hi,hi',rfl⟩
  ·split
   ·exact ⟨j,hj,hj',rfl⟩
   ·exact ⟨k,h1,h2,rfl⟩
/-- Ascending from a to b. -/
def Asc (c:α->α->Int) (d:α) (l:List α) (a b:Nat):Prop:=∀p q,a<=p->p < q->q < b->¬ c (l.getD q d) (l.getD p d) < 0
theorem Asc.short {l:List α} {a b:Nat} (h:b<=a + 1):Asc c d l a b:=fun p q h1 h2 h3=>by omega
theorem Asc.step (ho:Ord c) {l:List α} {a b:Nat} (h:Asc c d l a b) (h0:a < b) (hb:¬ c (l.getD b d) (l.getD (b - 1) d) < 0):Asc c d l a (b + 1):=by
 intro p q h1 h2 h3
 by_cases e:q=b
 ·subst e
  by_cases e':p=q - 1
  ·subst e'; exact hb
  ·exact ho.tr _ _ _ hb (h p (q - 1) h1 (by omega) (by omega))
 ·exact h p q h1 h2 (by omega)
/-- Insertion: the part from a to i is in order but for the element at j. -/
def Ins (c:α->α->Int) (d:α) (l:List α) (a i j:Nat):Prop:=∀p q,a<=p->p < q->q<=i->q≠j->¬ c (l.getD q d) (l.getD p d) < 0
theorem Ins.start {l:List α} {a i:Nat} (h:Asc c d l a i):Ins c d l a i i:=fun p q h1 h2 h3 h4=>h p q h1 h2 (by omega)
theorem Ins.done (ho:Ord c) {l:List α} {a i j:Nat} (h:Ins c d l a i j) (hji:j<=i) (hs:j<=a \/ ¬ c (l.getD j d) (l.getD (j - 1) d) < 0):Asc c d l a (i + 1):=by
 intro p q h1 h2 h3
 by_cases e:q=j
 ·subst e
  rcases hs with hs | hs
  ·omega
  ·by_cases e':p=q - 1
   ·subst e'; exact hs
   ·exact ho.tr _ _ _ hs (h p (q - 1) h1 (by omega) (by omega) (by omega))
 ·exact h p q h1 h2 (by omega) e
theorem Ins.move (ho:Ord c) {l:List α} {a i j:Nat} (h:Ins c d l a i j) (hj:a < j) (hji:j<=i) (hi:i < l.length) (hl:c (l.getD j d) (l.getD (j - 1) d) < 0):Ins c d (swp d l j (j - 1)) a i (j - 1):=by
 intro p q h1 h2 h3 h4
 have ha:=fun k=>swp_at (d:=d) (l:=l) (i:=j) (j:=j - 1) (k:=k) (by omega) (by omega)
 rw [ha,ha]
 by_cases eq:q=j
 ·subst eq
  rw [if_neg (by omega),if_pos rfl]
  by_cases ep:p=q - 1
  ·rw [if_pos ep]; exact ho.asy _ _ hl
  ·rw [if_neg ep,if_neg (by omega)]; exact h p (q - 1) h1 (by omega) (by omega) (by omega)
 ·rw [if_neg h4,if_neg eq]
  by_cases ep:p=j - 1
  ·rw [if_pos ep]; exact h j q (by omega) (by omega) h3 eq
  ·rw [if_neg ep]
   by_cases ep':p=j
   ·rw [if_pos ep']; exact h (j - 1) q (by omega) (by omega) h3 eq
   ·rw [if_neg ep']; exact h p q h1 h2 h3 eq
/-! heaps -/
/-- From lo on, no child (below hi) is greater than its parent; the place r is left out; its children are not greater than its parent. -/
def Hp (c:α->α->Int) (d:α) (l:List α) (f lo hi:Nat) (r:Option Nat):Prop:=
 (∀i k,lo<=i->(k=2 * i + 1 \/ k=2 * i + 2)->k < hi->r≠some i->¬ c (l.getD (f + i) d) (l.getD (f + k) d) < 0) /\
 (∀i j k,r=some j->lo<=i->(j=2 * i + 1 \/ j=2 * i + 2)->(k=2 * j + 1 \/ k=2 * j + 2)->k < hi->¬ c (l.getD (f + i) d) (l.getD (f + k) d) < 0)
theorem Hp.top (ho:Ord c) {l:List α} {f hi:Nat} (h:Hp c d l f 0 hi none):∀k,k < hi->¬ c (l.getD f d) (l.getD (f + k) d) < 0:=by
 intro k
 induction k using Nat.strongRecOn with
 | ind k ih=>
  intro hk
  by_cases h0:k=0
  ·subst h0; exact ho.refl _
  ·exact ho.tr _ _ _ (ih ((k - 1) / 2) (by omega) (by omega)) (h.1 ((k - 1) / 2) k (by omega) (by omega) hk (by simp))
theorem Hp.leaf {l:List α} {f lo hi r:Nat} (h:Hp c d l f lo hi (some r)) (hr:hi<=2 * r + 1):Hp c d l f lo hi none:=
 ⟨fun i k h1 h2 h3 _=>by
  by_cases e:r=i
  ·omega
  ·exact h.1 i k h1 h2 h3 (by simpa using e),fun i j k e=>by cases e⟩
theorem Hp.stop (ho:Ord c) {l:List α} {f lo hi r k:Nat} (h:Hp c d l f lo hi (some r)) (hk:k=2 * r + 1 \/ k=2 * r + 2) (hm:∀k',(k'=2 * r + 1 \/ k'=2 * r + 2)->k' < hi->¬ c (l.getD (f + k) d) (l.getD (f + k') d) < 0)
  (hs:¬ c (l.getD (f + r) d) (l.getD (f + k) d) < 0):Hp c d l f lo hi none:=
 ⟨fun i k' h1 h2 h3 _=>by
  by_cases e:r=i
  ·subst e; exact ho.tr _ _ _ hs (hm k' h2 h3)
  ·exact h.1 i k' h1 h2 h3 (by simpa using e),fun i j k e=>by cases e⟩
theorem Hp.down (ho:Ord c) {l:List α} {f lo hi r k:Nat} (h:Hp c d l f lo hi (some r)) (hlo:lo<=r) (hl:f + hi<=l.length) (hk:k=2 * r + 1 \/ k=2 * r + 2) (hkh:k < hi) (hm:∀k',(k'=2 * r + 1 \/ k'=2 * r + 2)->k' < hi->¬ c (l.getD (f + k) d) (l.getD (f + k') d) < 0)
  (hs:c (l.getD (f + r) d) (l.getD (f + k) d) < 0):Hp c d (swp d l (f + r) (f + k)) f lo hi (some k):=by
 have ha:=fun x=>swp_at (d:=d) (l:=l) (i:=f + r) (j:=f + k) (k:=x) (by omega) (by omega)
 refine ⟨fun i k' h1 h2 h3 h4=>?_,fun i j k' e h1 h2 h3 h4=>?_⟩
 ·have h4:¬ i=k:=fun e=>h4 (by rw [e])
  rw [ha,ha,if_neg (show ¬ f + i=f + k by omega)]
  by_cases er:i=r
  ·subst er
   rw [if_pos rfl]
   by_cases ek:k'=k
   ·rw [if_pos (by omega)]; exact ho.asy _ _ hs
   ·rw [if_neg (by omega),if_neg (by omega)]; exact hm k' h2 h3
  ·rw [if_neg (by omega)]
   by_cases ek:k'=r
   ·subst ek
    rw [if_neg (by omega),if_pos rfl]
    exact h.2 i k' k rfl h1 h2 hk hkh
   ·rw [if_neg (by omega),if_neg (by omega)]
    exact h.1 i k' h1 h2 h3 (by simp; omega)
 ·cases e
  rw [ha,ha]
  have:i=r:=by omega
  subst this
  rw [if_neg (by omega),if_pos rfl,if_neg (by omega),if_neg (by omega)]
  exact h.1 k k' (by omega) h3 h4 (by simp; omega)
/-- One more place joins the heap from below. -/
theorem Hp.more {l:List α} {f lo hi:Nat} (h:Hp c d l f (lo + 1) hi none):Hp c d l f lo hi (some lo):=
 ⟨fun i k h1 h2 h3 h4=>h.1 i k (by have:¬ lo=i:=fun e=>h4 (by rw [e]); omega) h2 h3 (by simp),fun i j k e h1 h2 h3 h4=>by cases e; omega⟩
/-- The greatest element goes behind the heap. -/
theorem Hp.pop {l:List α} {f hi:Nat} (h:Hp c d l f 0 (hi + 1) none) (hl:f + hi < l.length):Hp c d (swp d l f (f + hi)) f 0 hi (some 0):=by
 have ha:=fun x=>swp_at (d:=d) (l:=l) (i:=f) (j:=f + hi) (k:=x) (by omega) (by omega)
 refine ⟨fun i k h1 h2 h3 h4=>?_,fun i j k e h1 h2 h3 h4=>by cases e; omega⟩
 have h4:¬ i=0:=fun e=>h4 (by rw [e])
 rw [ha,ha,if_neg (by omega),if_neg (by omega),if_neg (by omega),if_neg (by omega)]
 exact h.1 i k h1 h2 (by omega) (by simp)
/-- The two parts of a list: nothing in front is greater than anything behind. -/
def Sep (c:α->α->Int) (d:α) (l:List α) (a m b:Nat):Prop:=∀p q,a<=p->p < m->m<=q->q < b->¬ c (l.getD q d) (l.getD p d) < 0
theorem Seg.sep {l m:List α} {a b x y z:Nat} (h:Seg d l m a b) (hs:Sep c d l x y z) (hc:(x<=a/\b<=y) \/ (y<=a/\b<=z) \/ b<=x \/ z<=a):Sep c d m x y z:=by
 intro p q h1 h2 h3 h4
 have key:∀k,∃k',m.getD k d=l.getD k' d/\(k=k' \/ a<=k/\k < b/\a<=k'/\k' < b):=fun k=>by
  by_cases hk:a<=k/\k < b
  ·obtain ⟨k',e1,e2,e⟩:=h.mem k hk.1 hk.2
   exact ⟨k',e,.inr ⟨hk.1,hk.2,e1,e2⟩⟩
  ·exact ⟨k,h.out k hk,.inl rfl⟩
 obtain ⟨p',e1,e2⟩:=key p
 obtain ⟨q',f1,f2⟩:=key q
 rw [e1,f1]
 exact hs p' q' (by omega) (by omega) (by omega) (by omega)
theorem Seg.asc {l m:List α} {a b x y:Nat} (h:Seg d l m a b) (hs:Asc c d l x y) (hc:y<=a \/ b<=x):Asc c d m x y:=by
 intro p q h1 h2 h3
 rw [h.out p (by omega),h.out q (by omega)]
 exact hs p q h1 h2 h3
theorem Asc.join {l:List α} {a m b:Nat} (h1:Asc c d l a m) (h2:Asc c d l m b) (h3:Sep c d l a m b):Asc c d l a b:=by
 intro p q g1 g2 g3
 by_cases hq:q < m
 ·exact h1 p q g1 g2 hq
 ·by_cases hp:m<=p
  ·exact h2 p q hp g2 g3
  ·exact h3 p q g1 (by omega) (by omega) g3
end
end Go.Proofs.Tryz
/- Plain: quicksort's state between two partitions. -/
namespace Go.Proofs.Tryz
open Go.Big
section
variable {α:Type} {c:α->α->Int} {d:α}
structure PQ (c:α->α->Int) (d:α) (l0 l:List α) (a0 b0 a b:Nat):Prop where
 seg:Seg d l0 l a0 b0
 ha:a0<=a
 hab:a<=b
 hb:b<=b0
 lo:Asc c d l a0 a
 hi:Asc c d l b b0
 s1:Sep c d l a0 a b0
 s2:Sep c d l a0 b b0
 pre:0 < a->∀k,a<=k->k < b->¬ c (l.getD k d) (l.getD (a - 1) d) < 0
variable {l0 l m:List α} {a0 b0 a b mid:Nat}
theorem PQ.start {l:List α} (h:a<=b) (hp:0 < a->∀k,a<=k->k < b->¬ c (l.getD k d) (l.getD (a - 1) d) < 0):PQ c d l l a b a b:=
 ⟨.refl _ _ _,Nat.le_refl _,h,Nat.le_refl _,.short (by omega),.short (by omega),fun p q h1 h2=>by omega,fun p q h1 h2 h3 h4=>by omega,hp⟩
theorem PQ.change (h:PQ c d l0 l a0 b0 a b) (hs:Seg d l m a b):PQ c d l0 m a0 b0 a b:=
 ⟨h.seg.trans (hs.wide h.ha h.hb),h.ha,h.hab,h.hb,hs.asc h.lo (.inl (Nat.le_refl _)),hs.asc h.hi (.inr (Nat.le_refl _)),hs.sep h.s1 (.inr (.inl ⟨Nat.le_refl _,h.hb⟩)),hs.sep h.s2 (.inl ⟨h.ha,Nat.le_refl _⟩),fun h0 k h1 h2=>by
  obtain ⟨k',h3,h4,e⟩:=hs.mem k h1 h2
  rw [e,hs.out (a - 1) (by omega)]
  exact h.pre h0 k' h3 h4⟩
theorem PQ.fin (h:PQ c d l0 l a0 b0 a b) (hs:Seg d l m a b) (ha:Asc c d m a b):Seg d l0 m a0 b0/\Asc c d m a0 b0:=by
 have h':=h.change hs
 refine ⟨h'.seg,h'.lo.join (ha.join h'.hi fun p q h1 h2 h3 h4=>h'.s2 p q (by have:=h.ha; omega) h2 h3 h4) h'.s1⟩
theorem PQ.left (ho:Ord c) (h:PQ c d l0 l a0 b0 a b) (hm:a<=mid) (hm':mid < b) (h1:∀k,a<=k->k < mid->c (l.getD k d) (l.getD mid d) < 0) (h2:∀k,mid < k->k < b->¬ c (l.getD k d) (l.getD mid d) < 0)
  (hs:Seg d l m a mid) (ha:Asc c d m a mid):PQ c d l0 m a0 b0 (mid + 1) b:=by
 have e0:=h.ha
 have e1:=h.hb
 have em:m.getD mid d=l.getD mid d:=hs.out mid (by omega)
 have below:∀k,a<=k->k < mid->¬ c (m.getD mid d) (m.getD k d) < 0:=fun k g1 g2=>by
  obtain ⟨k',g3,g4,e⟩:=hs.mem k g1 g2
  rw [em,e]; exact ho.asy _ _ (h1 k' g3 g4)
 have t1:=hs.sep h.s1 (.inr (.inl ⟨Nat.le_refl _,by omega⟩))
 have t2:=hs.sep h.s2 (.inl ⟨e0,by omega⟩)
 have up:∀q,mid < q->q < b->¬ c (m.getD q d) (m.getD mid d) < 0:=fun q g1 g2=>by rw [em,hs.out q (by omega)]; exact h2 q g1 g2
 refine ⟨h.seg.trans (hs.wide e0 (by omega)),by omega,by omega,e1,(hs.asc h.lo (.inl (Nat.le_refl _))).join (m:=a) (fun p q g1 g2 g3=>?_) fun p q g1 g2 g3 g4=>t1 p q g1 g2 g3 (by omega),hs.asc h.hi (.inr (by omega)),fun p q g1 g2 g3 g4=>?_,t2,fun _ k g1 g2=>up k (by omega) g2⟩
 ·by_cases e:q=mid
  ·subst e; exact below p g1 g2
  ·exact ha p q g1 g2 (by omega)
 ·by_cases hq:b<=q
  ·exact t2 p q g1 (by omega) hq g4
  ·by_cases hp:p < a
   ·exact t1 p q g1 hp (by omega) g4
   ·have u:=up q (by omega) (by omega)
    by_cases e:p=mid
    ·subst e; exact u
    ·exact ho.tr _ _ _ u (below p (by omega) (by omega))
theorem PQ.right (ho:Ord c) (h:PQ c d l0 l a0 b0 a b) (hm:a<=mid) (hm':mid < b) (h1:∀k,a<=k->k < mid->c (l.getD k d) (l.getD mid d) < 0) (h2:∀k,mid < k->k < b->¬ c (l.getD k d) (l.getD mid d) < 0)
  (hs:Seg d l m (mid + 1) b) (ha:Asc c d m (mid + 1) b):PQ c d l0 m a0 b0 a mid:=by
 have e0:=h.ha
 have e1:=h.hb
 have em:m.getD mid d=l.getD mid d:=hs.out mid (by omega)
 have up:∀q,mid < q->q < b->¬ c (m.getD q d) (m.getD mid d) < 0:=fun q g1 g2=>by
  obtain ⟨k',g3,g4,e⟩:=hs.mem q (by omega) g2
  rw [em,e]; exact h2 k' (by omega) g4
 have below:∀k,a<=k->k < mid->¬ c (m.getD mid d) (m.getD k d) < 0:=fun k g1 g2=>by
  rw [em,hs.out k (by omega)]; exact ho.asy _ _ (h1 k g1 g2)
 have t1:=hs.sep h.s1 (.inr (.inl ⟨by omega,e1⟩))
 have t2:=hs.sep h.s2 (.inl ⟨by omega,Nat.le_refl _⟩)
 have t3:=hs.asc h.hi (.inr (Nat.le_refl _))
 refine ⟨h.seg.trans (hs.wide (by omega) e1),e0,hm,by omega,hs.asc h.lo (.inl (by omega)),fun p q g1 g2 g3=>?_,t1,fun p q g1 g2 g3 g4=>?_,fun h0 k g1 g2=>?_⟩
 ·by_cases hq:q < b
  ·by_cases e:p=mid
   ·subst e; exact up q g2 hq
   ·exact ha p q (by omega) g2 hq
  ·by_cases hp:p < b
   ·exact t2 p q (by omega) hp (by omega) g3
   ·exact t3 p q (by omega) g2 g3
 ·by_cases hq:b<=q
  ·exact t2 p q g1 (by omega) hq g4
  ·by_cases hp:p < a
   ·exact t1 p q g1 hp (by omega) g4
   ·have u:=below p (by omega) g2
    by_cases e:q=mid
    ·subst e; exact u
    ·exact ho.tr _ _ _ (up q (by omega) (by omega)) u
 ·rw [hs.out k (by omega),hs.out (a - 1) (by omega)]; exact h.pre h0 k g1 (by omega)
/-- Where the pivot is no greater than what lies ahead, the elements equal to it go to the front. -/
theorem PQ.equ (ho:Ord c) (h:PQ c d l0 l a0 b0 a b) (h0:0 < a) (hm:a < mid) (hm':mid<=b) {x:α} (hx:¬ c (l.getD (a - 1) d) x < 0) (hs:Seg d l m a b)
  (h1:∀k,a<=k->k < mid->¬ c x (m.getD k d) < 0) (h2:∀k,mid<=k->k < b->c x (m.getD k d) < 0):PQ c d l0 m a0 b0 mid b:=by
 have h':=h.change hs
 have e0:=h.ha
 have e1:=h.hb
 have ex:¬ c (m.getD (a - 1) d) x < 0:=by rw [hs.out (a - 1) (by omega)]; exact hx
 have pr:=h'.pre h0
 refine ⟨h'.seg,by omega,hm',e1,h'.lo.join (m:=a) (fun p q g1 g2 g3=>?_) fun p q g1 g2 g3 g4=>h'.s1 p q g1 g2 g3 (by omega),h'.hi,fun p q g1 g2 g3 g4=>?_,h'.s2,fun _ k g1 g2=>?_⟩
 ·exact ho.tr _ _ _ (pr q (by omega) (by omega)) (ho.tr _ _ _ ex (h1 p g1 (by omega)))
 ·by_cases hq:b<=q
  ·exact h'.s2 p q g1 (by omega) hq g4
  ·by_cases hp:p < a
   ·exact h'.s1 p q g1 hp (by omega) g4
   ·exact ho.tr _ _ _ (ho.asy _ _ (h2 q g3 (by omega))) (h1 p (by omega) g2)
 ·exact ho.tr _ _ _ (ho.asy _ _ (h2 k g1 g2)) (h1 (mid - 1) (by omega) (by omega))
/-- The second half of a heap sort: a heap in front, the greatest behind, in order. -/
structure HQ (c:α->α->Int) (d:α) (l:List α) (f i n:Nat):Prop where
 hp:Hp c d l f 0 i none
 asc:Asc c d l (f + i) (f + n)
 sep:Sep c d l f (f + i) (f + n)
theorem HQ.start {f n:Nat} (h:Hp c d l f 0 n none):HQ c d l f n n:=⟨h,.short (by omega),fun p q h1 h2 h3 h4=>by omega⟩
theorem HQ.step (ho:Ord c) {f k n:Nat} (h:HQ c d l f (k + 1) n) (hk:k + 1<=n) (hl:f + n<=l.length) (hs:Seg d (swp d l f (f + k)) m f (f + k)) (hm:Hp c d m f 0 k none):HQ c d m f k n:=by
 have ha:=fun x=>swp_at (d:=d) (l:=l) (i:=f) (j:=f + k) (k:=x) (by omega) (by omega)
 have out:∀q,f + k < q->m.getD q d=l.getD q d:=fun q hq=>by rw [hs.out q (by omega),ha,if_neg (by omega),if_neg (by omega)]
 have top:m.getD (f + k) d=l.getD f d:=by rw [hs.out (f + k) (by omega),ha,if_pos rfl]
 refine ⟨hm,fun p q g1 g2 g3=>?_,fun p q g1 g2 g3 g4=>?_⟩
 ·rw [out q (by omega)]
  by_cases e:p=f + k
  ·rw [e,top]; exact h.sep f q (Nat.le_refl _) (by omega) (by omega) g3
  ·rw [out p (by omega)]; exact h.asc p q (by omega) g2 g3
 ·have hp:∃j,j < k + 1/\m.getD p d=l.getD (f + j) d:=by
   obtain ⟨p',e1,e2,e⟩:=hs.mem p g1 g2
   rw [e,ha,if_neg (by omega)]
   split
   ·exact ⟨k,by omega,rfl⟩
   ·exact ⟨p' - f,by omega,by rw [show f + (p' - f)=p' by omega]⟩
  obtain ⟨j,hj,e⟩:=hp
  rw [e]
  by_cases eq:q=f + k
  ·rw [eq,top]; exact h.hp.top ho j hj
  ·rw [out q (by omega)]; exact h.sep (f + j) q (by omega) (by omega) (by omega) g4
theorem HQ.fin {f n:Nat} (h:HQ c d l f 0 n):Asc c d l f (f + n):=by have:=h.asc; simpa using this
/-- A partition in progress: the pivot at a, the elements with P ahead of i, the others behind j. -/
structure PT (P:α->Prop) (d:α) (l:List α) (a b i j:Nat):Prop where
 hi:a < i
 hij:i<=j + 1
 hj:j < b
 lo:∀k,a < k->k < i->P (l.getD k d)
 up:∀k,j < k->k < b->¬ P (l.getD k d)
variable {P:α->Prop} {i j:Nat}
theorem PT.start (h:a + 1 < b):PT P d l a b (a + 1) (b - 1):=⟨by omega,by omega,by omega,fun k h1 h2=>by omega,fun k h1 h2=>by omega⟩
theorem PT.incr (h:PT P d l a b i j) (hij:i<=j) (hp:P (l.getD i d)):PT P d l a b (i + 1) j:=⟨by have:=h.hi; omega,by omega,h.hj,fun k h1 h2=>by
 by_cases e:k=i
 ·subst e; exact hp
 ·exact h.lo k h1 (by omega),h.up⟩
theorem PT.decr (h:PT P d l a b i j) (hij:i<=j) (hp:¬ P (l.getD j d)):PT P d l a b i (j - 1):=⟨h.hi,by omega,by have:=h.hj; omega,h.lo,fun k h1 h2=>by
 by_cases e:k=j
 ·subst e; exact hp
 ·exact h.up k (by have:=h.hi; omega) h2⟩
theorem PT.swap (h:PT P d l a b i j) (hij:i<=j) (hl:b<=l.length) (h1:¬ P (l.getD i d)) (h2:P (l.getD j d)):PT P d (swp d l i j) a b (i + 1) (j - 1)/\(swp d l i j).getD a d=l.getD a d/\Seg d l (swp d l i j) a b:=by
 have e0:=h.hi
 have e1:=h.hj
 have ne:i≠j:=fun e=>h1 (e ▸ h2)
 have ha:=fun x=>swp_at (d:=d) (l:=l) (i:=i) (j:=j) (k:=x) (by omega) (by omega)
 refine ⟨⟨by omega,by omega,by omega,fun k g1 g2=>?_,fun k g1 g2=>?_⟩,by rw [ha,if_neg (by omega),if_neg (by omega)],Seg.swp (by omega) (by omega) (by omega) e1 hl⟩
 ·rw [ha,if_neg (by omega)]
  by_cases e:k=i
  ·rw [if_pos e]; exact h2
  ·rw [if_neg e]; exact h.lo k g1 (by omega)
 ·rw [ha]
  by_cases e:k=j
  ·rw [if_pos e]; exact h1
  ·rw [if_neg e,if_neg (by omega)]; exact h.up k (by omega) g2
/-- The end: the pivot goes between the parts. -/
theorem PT.fin (ho:Ord c) (h:PT (fun x=>c x (l.getD a d) < 0) d l a b i j) (hij:¬ i<=j) (hl:b<=l.length):Seg d l (swp d l j a) a b/\a<=j/\j < b /\
  (∀k,a<=k->k < j->c ((swp d l j a).getD k d) ((swp d l j a).getD j d) < 0)/\(∀k,j < k->k < b->¬ c ((swp d l j a).getD k d) ((swp d l j a).getD j d) < 0):=by
 have e0:=h.hi
 have e1:=h.hij
 have e2:=h.hj
 have ha:=fun x=>swp_at (d:=d) (l:=l) (i:=j) (j:=a) (k:=x) (by omega) (by omega)
 have ej:(swp d l j a).getD j d=l.getD a d:=by
  rw [ha]
  by_cases e:j=a
  ·rw [if_pos e,e]
  ·rw [if_neg e,if_pos rfl]
 refine ⟨Seg.swp (by omega) e2 (Nat.le_refl _) (by omega) hl,by omega,e2,fun k g1 g2=>?_,fun k g1 g2=>?_⟩
 ·rw [ej,ha]
  by_cases e:k=a
  ·rw [if_pos e]; exact h.lo j (by omega) (by omega)
  ·rw [if_neg e,if_neg (by omega)]; exact h.lo k (by omega) (by omega)
 ·rw [ej,ha,if_neg (by omega),if_neg (by omega)]; exact h.up k g1 g2
end
end Go.Proofs.Tryz
/- Rows whose elements change places. -/
namespace Go.Eng
open Go.Proofs.Tryz
variable {α:Type} {sz:Nat} {R:View->Value->α->Prop} {V V':View} {d:α}
theorem Row.get {vs:List Value} {al:List α} (h:Row sz R V vs al) {i:Nat} (hi:i < al.length) (hs:0 < sz) :
  ∃xs:List Value,xs.length=sz/\R V (.agg xs.toArray) (al.getD i d)/\i * sz + sz<=vs.length/\(vs.drop (i * sz)).take sz=xs:=by
 obtain ⟨xs,h1,h2,h3⟩:=h.at_ i hi
 have hl:=h.len_le hs
 have:(i + 1) * sz<=al.length * sz:=Nat.mul_le_mul_right _ hi
 rw [Nat.succ_mul] at this
 refine ⟨xs,h1,by simpa [List.getD_eq_getElem?_getD,hi] using h2,by omega,?_⟩
 apply List.ext_getElem?
 intro j
 rw [List.getElem?_take]
 split
 ·rename_i hj
  rw [List.getElem?_drop]
  have hx:j < xs.length:=by omega
  rw [h3 j _ (List.getElem?_eq_getElem hx),List.getElem?_eq_getElem hx]
 ·rename_i hj
  rw [List.getElem?_eq_none (by omega)]
theorem Row.put {vs:List Value} {al:List α} (h:Row sz R V vs al) {i:Nat} (hi:i < al.length) (hs:0 < sz) {xs:List Value} {a:α} (hx:xs.length=sz) (ha:R V (.agg xs.toArray) a) :
  Row sz R V (setVals vs (i * sz) xs) (al.set i a):=by
 have hl:=h.len_le hs
 have h9:∀k,k < al.length->k * sz + sz<=vs.length:=fun k hk=>by
  have:(k + 1) * sz<=al.length * sz:=Nat.mul_le_mul_right _ hk
  rw [Nat.succ_mul] at this
  omega
 have hi9:=h9 i hi
 rw [setVals_eq (by omega)]
 have ht:(vs.take (i * sz)).length=i * sz:=by rw [List.length_take]; omega
 refine ⟨fun k hk=>?_⟩
 rw [List.length_set] at hk
 by_cases e:k=i
 ·subst e
  refine ⟨xs,hx,by simpa using ha,fun j x hj=>?_⟩
  have hj':=(List.getElem?_eq_some_iff.1 hj).1
  rw [List.append_assoc,List.getElem?_append_right (by omega),ht,Nat.add_sub_cancel_left,List.getElem?_append_left hj']
  exact hj
 ·obtain ⟨ys,y1,y2,y3⟩:=h.at_ k hk
  refine ⟨ys,y1,by rw [List.getElem_set_ne (fun e'=>e e'.symm)]; exact y2,fun j x hj=>?_⟩
  have hj':=(List.getElem?_eq_some_iff.1 hj).1
  by_cases lt:k < i
  ·have:(k + 1) * sz<=i * sz:=Nat.mul_le_mul_right _ lt
   rw [Nat.succ_mul] at this
   rw [List.append_assoc,List.getElem?_append_left (by omega),List.getElem?_take,if_pos (by omega)]
   exact y3 j x hj
  ·have:(i + 1) * sz<=k * sz:=Nat.mul_le_mul_right _ (by omega)
   rw [Nat.succ_mul] at this
   rw [List.getElem?_append_right (by rw [List.length_append]; omega),List.length_append,ht,hx,List.getElem?_drop]
   rw [show i * sz + sz + (k * sz + j - (i * sz + sz))=k * sz + j by omega]
   exact y3 j x hj
theorem setVals_len {vs xs:List Value} {o:Nat} (h:o + xs.length<=vs.length):(setVals vs o xs).length=vs.length:=by
 rw [setVals_eq h]; simp only [List.length_append,List.length_take,List.length_drop]; omega
/-- Two elements change places. -/
theorem Row.swap {vs:List Value} {al:List α} (h:Row sz R V vs al) {i j:Nat} (hi:i < al.length) (hj:j < al.length) (hs:0 < sz) {xs ys:List Value} (hx:xs.length=sz) (hy:ys.length=sz) (h1:R V (.agg xs.toArray) (al.getD i d)) (h2:R V (.agg ys.toArray) (al.getD j d)) :
  Row sz R V (setVals (setVals vs (i * sz) ys) (j * sz) xs) (swp d al i j):=by
 have:=h.put hi hs hy h2
 exact this.put (by simpa using hj) hs hx h1
end Go.Eng
/- Plain: sweeping over sorted changes makes the regular set of an operator. -/
namespace Go.Proofs.Tryz
open Go.Eng Go.Big
abbrev Chg:=Rat × Int × Int
def chg1 (k:Int) (s:Sp):List Chg:=(if s.a then [] else [(s.lo,k,1)])++(if s.b then [] else [(s.hi,k,-1)])
def chgL (A B:List Sp):List Chg:=A.flatMap (chg1 0)++B.flatMap (chg1 1)
def op0:List Sp->Int
 | []=>0
 | s :: r=>(if s.a then 1 else 0) + op0 r
/-- The sum of the changes of one list, of those below t. -/
def sumB (k:Int):List Chg->Rat->Int
 | [],_=>0
 | c :: r,t=>(if c.2.1=k/\c.1 < t then c.2.2 else 0) + sumB k r t
def sumA (k:Int):List Chg->Int
 | []=>0
 | c :: r=>(if c.2.1=k then c.2.2 else 0) + sumA k r
theorem sumB_perm {k:Int} {t:Rat} {l m:List Chg} (h:l.Perm m):sumB k l t=sumB k m t:=by
 induction h with
 | nil=>rfl
 | cons x _ ih=>simp only [sumB,ih]
 | swap x y l=>simp only [sumB]; omega
 | trans _ _ h1 h2=>exact h1.trans h2
theorem sumB_app {k:Int} {t:Rat}:∀{l m:List Chg},sumB k (l++m) t=sumB k l t + sumB k m t
 | [],m=>by simp [sumB]
 | c :: r,m=>by simp only [List.cons_append,sumB,sumB_app (l:=r)]; omega
theorem sumA_app {k:Int}:∀{l m:List Chg},sumA k (l++m)=sumA k l + sumA k m
 | [],m=>by simp [sumA]
 | c :: r,m=>by simp only [List.cons_append,sumA,sumA_app (l:=r)]; omega
theorem sumB_all {k:Int} {t:Rat}:∀{l:List Chg},(∀c ∈ l,c.1 < t)->sumB k l t=sumA k l
 | [],_=>rfl
 | c :: r,h=>by
  simp only [sumB,sumA,sumB_all (l:=r) fun x hx=>h x (by simp [hx]),h c (by simp),and_true]
theorem sumB_none {k:Int} {t:Rat}:∀{l:List Chg},(∀c ∈ l,¬ c.1 < t)->sumB k l t=0
 | [],_=>rfl
 | c :: r,h=>by
  simp only [sumB,sumB_none (l:=r) fun x hx=>h x (by simp [hx]),h c (by simp),and_false,if_false]; omega
theorem sumB_other {k k':Int} {t:Rat} (hk:k≠k'):∀{l:List Sp},sumB k (l.flatMap (chg1 k')) t=0
 | []=>rfl
 | s :: r=>by
  rw [List.flatMap_cons,sumB_app,sumB_other hk (l:=r)]
  have hk':¬ k'=k:=fun e=>hk e.symm
  unfold chg1
  cases s.a <;> cases s.b <;> simp [sumB,hk']
theorem sumB_own {k:Int} {t:Rat}:∀{l:List Sp},(∀s ∈ l,s.good)->(∀s ∈ l,¬ s.isEnd t)->op0 l + sumB k (l.flatMap (chg1 k)) t=(l.countP fun s=>s.innB t:Nat)
 | [],_,_=>rfl
 | s :: r,hg,he=>by
  have ih:=sumB_own (k:=k) (t:=t) (l:=r) (fun x hx=>hg x (by simp [hx])) fun x hx=>he x (by simp [hx])
  have hs:=(hg s (by simp)).2
  have hn:=he s (by simp)
  rw [List.flatMap_cons,sumB_app,List.countP_cons]
  simp only [op0]
  rw [Sp.emp_iff] at hs
  unfold Sp.isEnd at hn
  have key:(if s.a=true then (1:Int) else 0) + sumB k (chg1 k s) t=(if s.innB t=true then 1 else 0:Nat):=by
   unfold chg1 Sp.innB
   cases ha:s.a <;> cases hb:s.b <;> simp [ha,hb] at hs hn <;> simp [sumB] <;> (try (by_cases h1:s.lo < t)) <;> (try (by_cases h2:s.hi < t)) <;> (try (by_cases h3:t < s.hi)) <;> simp_all <;> grind
  omega
theorem count_in {l:List Sp} {t:Rat}:decide ((0:Int) < (l.countP fun s=>s.innB t:Nat))=inB l t:=by
 refine bool_eq ⟨fun h=>?_,fun h=>?_⟩
 ·have h:=of_decide_eq_true h
  have:0 < l.countP fun s=>s.innB t:=by omega
  obtain ⟨s,hs,h⟩:=List.countP_pos_iff.1 this
  exact List.any_eq_true.2 ⟨s,hs,h⟩
 ·obtain ⟨s,hs,h⟩:=List.any_eq_true.1 h
  have:0 < l.countP fun s=>s.innB t:=List.countP_pos_iff.2 ⟨s,hs,h⟩
  exact decide_eq_true (by omega)
theorem chg_mem {A B:List Sp} {c:Chg}:c ∈ chgL A B->∃s ∈ A++B,s.isEnd c.1:=by
 intro h
 have one:∀{k:Int} {s:Sp},c ∈ chg1 k s->s.isEnd c.1:=fun {k s} h=>by
  unfold chg1 at h
  unfold Sp.isEnd
  cases ha:s.a <;> cases hb:s.b <;> simp [ha,hb] at h ⊢
  ·rcases h with rfl | rfl <;> simp
  ·subst h; rfl
  ·subst h; rfl
 rcases List.mem_append.1 h with h | h
 ·obtain ⟨s,hs,h⟩:=List.mem_flatMap.1 h
  exact ⟨s,List.mem_append_left _ hs,one h⟩
 ·obtain ⟨s,hs,h⟩:=List.mem_flatMap.1 h
  exact ⟨s,List.mem_append_right _ hs,one h⟩
def endOf (s:Sp):Sp:=⟨s.lo,0,s.a,true⟩
def swR (was:Bool) (last:Sp) (out:List Sp):List Sp:=out++if was then [endOf last] else []
def accT (acc:Bool->Bool->Bool) (A B:List Sp) (t:Rat):Bool:=acc (inB A t) (inB B t)
/-- Ahead of change i: what was made so far is right below it. -/
structure SwI (acc:Bool->Bool->Bool) (A B:List Sp) (cs:List Chg) (i:Nat) (was:Bool) (last:Sp) (out:List Sp):Prop where
 rg:reg (swR was last out)
 lo:∀s ∈ swR was last out,∀h:i < cs.length,s.a=false->s.lo < cs[i].1
 hi:∀s ∈ out,s.b=false/\∀h:i < cs.length,s.hi < cs[i].1
 inn:∀t,(∀s ∈ A++B,¬ s.isEnd t)->(∀h:i < cs.length,t < cs[i].1)->inB (swR was last out) t=accT acc A B t
 fr:was=true->last.hi=0/\last.b=false
section
variable {acc:Bool->Bool->Bool} {A B:List Sp} {cs:List Chg} {i:Nat} {was:Bool} {last:Sp} {out:List Sp}
/-- Between two changes the counts tell what is inside. -/
theorem sw_now (hp:cs.Perm (chgL A B)) (hA:∀s ∈ A,s.good) (hB:∀s ∈ B,s.good) (hs:cs.Pairwise fun x y=>x.1<=y.1) {t:Rat} (ht:∀s ∈ A++B,¬ s.isEnd t)
  (h1:∀c ∈ cs.take i,c.1 < t) (h2:∀h:i < cs.length,t < cs[i].1) :
  acc (decide ((0:Int) < op0 A + sumA 0 (cs.take i))) (decide ((0:Int) < op0 B + sumA 1 (cs.take i)))=accT acc A B t:=by
 have h3:∀c ∈ cs.drop i,¬ c.1 < t:=by
  intro c hc
  by_cases hi:i < cs.length
  ·obtain ⟨j,hj,rfl⟩:=List.getElem_of_mem hc
   rw [List.getElem_drop]
   have hl:=h2 hi
   rw [List.length_drop] at hj
   rcases Nat.eq_zero_or_pos j with rfl | h0
   ·simp only [Nat.add_zero]; grind
   ·have:=List.pairwise_iff_getElem.1 hs i (i + j) hi (by omega) (by omega)
    grind
  ·rw [List.drop_eq_nil_of_le (by omega)] at hc; cases hc
 have e:∀k,sumA k (cs.take i)=sumB k (chgL A B) t:=fun k=>by
  rw [← sumB_perm hp,← sumB_all h1]
  conv=>rhs; rw [← List.take_append_drop i cs]
  rw [sumB_app,sumB_none h3]; omega
 have a1:=sumB_own (k:=0) (t:=t) hA fun s hs=>ht s (List.mem_append_left _ hs)
 have b1:=sumB_own (k:=1) (t:=t) hB fun s hs=>ht s (List.mem_append_right _ hs)
 have a2:sumB 0 (B.flatMap (chg1 1)) t=0:=sumB_other (by decide)
 have b2:sumB 1 (A.flatMap (chg1 0)) t=0:=sumB_other (by decide)
 rw [e,e]
 unfold chgL accT
 rw [sumB_app,sumB_app,a2,b2,← count_in,← count_in,← a1,← b1,Int.add_zero,Int.zero_add]
theorem inB_app {x y:List Sp} {t:Rat}:inB (x++y) t=(inB x t || inB y t):=by unfold inB; rw [List.any_append]
theorem sw_start {was:Bool} (hw:was=acc (decide ((0:Int) < op0 A)) (decide ((0:Int) < op0 B))) (hp:cs.Perm (chgL A B)) (hA:∀s ∈ A,s.good) (hB:∀s ∈ B,s.good) (hs:cs.Pairwise fun x y=>x.1<=y.1) :
  SwI acc A B cs 0 was ⟨0,0,true,false⟩ []:=by
 refine ⟨?_,fun s h _ ha=>?_,fun s h=>(by cases h),fun t ht h2=>?_,fun _=>⟨rfl,rfl⟩⟩
 ·unfold swR
  cases was
  ·exact ⟨fun s h=>by simp at h,by simp⟩
  ·refine ⟨fun s h=>?_,by simp⟩
   obtain rfl:s=endOf ⟨0,0,true,false⟩:=by simpa using h
   exact ⟨⟨fun _=>rfl,fun _=>rfl⟩,rfl⟩
 ·unfold swR at h
  cases was <;> simp at h
  subst h
  cases ha
 ·have:=sw_now (acc:=acc) (i:=0) hp hA hB hs ht (fun c hc=>by simp at hc) h2
  simp only [List.take_zero,sumA,Int.add_zero] at this
  rw [← this,← hw]
  unfold swR endOf inB Sp.innB
  cases was <;> simp
/-- A change whose number comes again. -/
theorem sw_skip (h:SwI acc A B cs i was last out) (hi:i + 1 < cs.length) (he:cs[i].1=cs[i + 1].1):SwI acc A B cs (i + 1) was last out:=
 ⟨h.rg,fun s hs _ ha=>by rw [← he]; exact h.lo s hs (by omega) ha,fun s hs=>⟨(h.hi s hs).1,fun _=>by rw [← he]; exact (h.hi s hs).2 (by omega)⟩,
  fun t ht h2=>h.inn t ht fun _=>by rw [he]; exact h2 hi,h.fr⟩
theorem out_not (h:SwI acc A B cs i was last out) (hi:i < cs.length) {t:Rat} (ht:cs[i].1 < t):inB out t=false:=by
 refine Bool.eq_false_iff.2 fun he=>?_
 obtain ⟨s,hs,h'⟩:=List.any_eq_true.1 he
 obtain ⟨h1,h2⟩:=h.hi s hs
 have:=h2 hi
 rw [innB_iff] at h'
 obtain ⟨-,h3⟩:=h'
 rw [h1] at h3
 simp at h3
 grind
def swLast (was now:Bool) (last:Sp) (x:Rat):Sp:=if now && !was then ⟨x,0,false,false⟩ else if was && !now then ⟨last.lo,x,last.a,last.b⟩ else last
def swOut (was now:Bool) (last:Sp) (x:Rat) (out:List Sp):List Sp:=if was && !now then out++[⟨last.lo,x,last.a,last.b⟩] else out
/-- A change is done. -/
theorem sw_step (h:SwI acc A B cs i was last out) (hi:i < cs.length) (hn:∀h:i + 1 < cs.length,cs[i].1 < cs[i + 1].1) (hp:cs.Perm (chgL A B)) (hA:∀s ∈ A,s.good) (hB:∀s ∈ B,s.good) (hs:cs.Pairwise fun x y=>x.1<=y.1)
  {now:Bool} (hw:now=acc (decide ((0:Int) < op0 A + sumA 0 (cs.take (i + 1)))) (decide ((0:Int) < op0 B + sumA 1 (cs.take (i + 1))))) :
  SwI acc A B cs (i + 1) now (swLast was now last cs[i].1) (swOut was now last cs[i].1 out):=by
 have hE:∃s ∈ A++B,s.isEnd cs[i].1:=chg_mem (hp.mem_iff.1 (List.getElem_mem hi))
 have above:∀t,(∀s ∈ A++B,¬ s.isEnd t)->cs[i].1 < t->(∀h:i + 1 < cs.length,t < cs[i + 1].1)->accT acc A B t=now:=fun t ht h1 h2=>by
  rw [hw,sw_now (acc:=acc) hp hA hB hs ht (fun c hc=>?_) h2]
  obtain ⟨j,hj,rfl⟩:=List.getElem_of_mem hc
  rw [List.length_take] at hj
  rw [List.getElem_take]
  by_cases e:j=i
  ·subst e; exact h1
  ·have:=List.pairwise_iff_getElem.1 hs j i (by omega) hi (by omega)
   grind
 have apart:∀t,(∀s ∈ A++B,¬ s.isEnd t)->t < cs[i].1 \/ cs[i].1 < t:=fun t ht=>by
  obtain ⟨s,h1,h2⟩:=hE
  have:t≠cs[i].1:=fun e=>ht s h1 (e ▸ h2)
  grind
 have on:∀{t:Rat},cs[i].1 < t->inB out t=false:=fun {t}=>out_not (t:=t) h hi
 have hlo:∀s ∈ swR was last out,s.a=false->s.lo < cs[i].1:=fun s hs ha=>h.lo s hs hi ha
 have hhi:∀s ∈ out,s.hi < cs[i].1:=fun s hs=>(h.hi s hs).2 hi
 have hb:∀s ∈ out,s.b=false:=fun s hs=>(h.hi s hs).1
 have inn:∀t,(∀s ∈ A++B,¬ s.isEnd t)->t < cs[i].1->inB (swR was last out) t=accT acc A B t:=fun t ht h1=>h.inn t ht fun _=>h1
 have hrg:=h.rg
 have hfr:=h.fr
 generalize cs[i].1=x at *
 clear hE hw hp hs h
 unfold swLast swOut
 cases was <;> cases now <;> simp only [Bool.not_true,Bool.not_false,Bool.and_true,Bool.and_false,Bool.false_eq_true,if_true,if_false] <;> unfold swR at * <;> simp only [Bool.false_eq_true,if_true,if_false,List.append_nil] at *
 ·
  refine ⟨by simpa [swR] using hrg,fun s hs h1 ha=>?_,fun s hs=>⟨hb s hs,fun h1=>?_⟩,fun t ht h2=>?_,fun h=>nomatch h⟩
  ·have:=hlo s (by simpa [swR] using hs) ha; have:=hn h1; grind
  ·have:=hhi s hs; have:=hn h1; grind
  ·simp only [swR,Bool.false_eq_true,if_false,List.append_nil]
   rcases apart t ht with h3 | h3
   ·exact inn t ht h3
   ·rw [above t ht h3 h2,on h3]
 ·
  have e:inB (out++[endOf ⟨x,0,false,false⟩])=fun t=>inB out t || decide (x < t):=by
   funext t; rw [inB_app]; unfold inB endOf Sp.innB; simp
  refine ⟨?_,fun s hs h1 ha=>?_,fun s hs=>⟨hb s hs,fun h1=>?_⟩,fun t ht h2=>?_,fun _=>⟨rfl,rfl⟩⟩
  ·simp only [swR,if_true]
   exact reg_snoc hrg ⟨⟨(fun h=>nomatch h),fun _=>rfl⟩,rfl⟩ fun y hy=>⟨hb y hy,rfl,hhi y hy⟩
  ·simp only [swR,if_true] at hs
   rcases List.mem_append.1 hs with hs | hs
   ·have:=hlo s hs ha; have:=hn h1; grind
   ·obtain rfl:s=endOf ⟨x,0,false,false⟩:=by simpa using hs
    exact hn h1
  ·have:=hhi s hs; have:=hn h1; grind
  ·simp only [swR,if_true]
   rw [e]
   dsimp only
   rcases apart t ht with h3 | h3
   ·rw [inn t ht h3,decide_eq_false (by grind),Bool.or_false]
   ·rw [above t ht h3 h2,decide_eq_true h3,Bool.or_true]
 ·
  obtain ⟨f1,f2⟩:last.hi=0/\last.b=false:=by simpa using hfr
  obtain ⟨r1,r2,r3⟩:=reg_init hrg
  have l1:last.a=false->last.lo < x:=fun ha=>hlo (endOf last) (by simp) ha
  have e:inB (out++[(⟨last.lo,x,last.a,last.b⟩:Sp)])=fun t=>inB out t || ((last.a || decide (last.lo < t)) && decide (t < x)):=by
   funext t; rw [inB_app]; unfold inB Sp.innB; simp [f2]
  have e0:inB (out++[endOf last])=fun t=>inB out t || (last.a || decide (last.lo < t)):=by
   funext t; rw [inB_app]; unfold inB endOf Sp.innB; simp
  refine ⟨?_,fun s hs h1 ha=>?_,fun s hs=>?_,fun t ht h2=>?_,fun h=>nomatch h⟩
  ·simp only [swR,Bool.false_eq_true,if_false,List.append_nil]
   refine reg_snoc r1 ⟨⟨fun h=>r2.1.1 h,fun h=>by rw [f2] at h; cases h⟩,?_⟩ fun y hy=>⟨hb y hy,(r3 y hy).2.1,(r3 y hy).2.2⟩
   rw [Sp.emp_iff]
   cases ha:last.a
   ·exact .inr (.inr (l1 ha))
   ·exact .inl rfl
  ·simp only [swR,Bool.false_eq_true,if_false,List.append_nil] at hs
   have:=hn h1
   rcases List.mem_append.1 hs with hs | hs
   ·have:=hlo s (List.mem_append_left _ hs) ha; grind
   ·obtain rfl:s=⟨last.lo,x,last.a,last.b⟩:=by simpa using hs
    have:=l1 ha; dsimp only; grind
  ·rcases List.mem_append.1 hs with hs | hs
   ·exact ⟨hb s hs,fun h1=>by have:=hhi s hs; have:=hn h1; grind⟩
   ·obtain rfl:s=⟨last.lo,x,last.a,last.b⟩:=by simpa using hs
    exact ⟨f2,fun h1=>hn h1⟩
  ·simp only [swR,Bool.false_eq_true,if_false,List.append_nil]
   rw [e]
   dsimp only
   rcases apart t ht with h3 | h3
   ·rw [← inn t ht h3,e0,decide_eq_true h3,Bool.and_true]
   ·rw [above t ht h3 h2,on h3,decide_eq_false (show ¬ t < x by grind),Bool.and_false]; rfl
 ·
  have e0:inB (out++[endOf last])=fun t=>inB out t || (last.a || decide (last.lo < t)):=by
   funext t; rw [inB_app]; unfold inB endOf Sp.innB; simp
  have l1:last.a=false->last.lo < x:=fun ha=>hlo (endOf last) (by simp) ha
  refine ⟨by simpa [swR] using hrg,fun s hs h1 ha=>?_,fun s hs=>⟨hb s hs,fun h1=>?_⟩,fun t ht h2=>?_,fun _=>by simpa using hfr⟩
  ·have:=hlo s (by simpa [swR] using hs) ha; have:=hn h1; grind
  ·have:=hhi s hs; have:=hn h1; grind
  ·simp only [swR,if_true]
   rcases apart t ht with h3 | h3
   ·exact inn t ht h3
   ·rw [above t ht h3 h2,e0]
    dsimp only
    cases ha:last.a
    ·have:=l1 ha
     rw [decide_eq_true (show last.lo < t by grind)]; simp
    ·simp
end
end Go.Proofs.Tryz
