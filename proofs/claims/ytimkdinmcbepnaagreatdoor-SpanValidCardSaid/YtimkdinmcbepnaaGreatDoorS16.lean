/- A part of the proof (joined by program from: ChgA, ChgB, ChgC, ChgD, ChgE, ChgF, Law6P, VBsp, TreeA, TreeB, TreeC). -/
import Derived.Test.YtimkdinmcbepnaaGreatDoorS14
import Derived.Test.YtimkdinmcbepnaaGreatDoorS12
import Derived.Test.YtimkdinmcbepnaaGreatDoorS15
import Derived.Test.YtimkdinmcbepnaaGreatDoorS6
import Derived.Test.YtimkdinmcbepnaaGreatDoorS5
set_option linter.unusedVariables false
open Go.IntKind (i64 u64 u32)
/- Changes (package geo) in a row that is sorted in place: how they are read, compared, exchanged; insertion. -/
namespace Go.Proofs.Tryz
open Go.Eng Go.Big
def dC:Chg:=(0,0,0)
def cC (a b:Chg):Int:=cmpQ a.1 b.1
theorem ordC:Ord cC:=⟨fun a b h=>by unfold cC at *; rcases cmpQ_or a.1 b.1 with ⟨h1,e⟩ | ⟨h1,e⟩ | ⟨h1,e⟩ <;> rcases cmpQ_or b.1 a.1 with ⟨h2,e'⟩ | ⟨h2,e'⟩ | ⟨h2,e'⟩ <;> rw [e] at h <;> rw [e'] <;> grind,
 fun a b d h h'=>by unfold cC at *; rcases cmpQ_or a.1 b.1 with ⟨h1,e⟩ | ⟨h1,e⟩ | ⟨h1,e⟩ <;> rcases cmpQ_or b.1 d.1 with ⟨h2,e'⟩ | ⟨h2,e'⟩ | ⟨h2,e'⟩ <;> rcases cmpQ_or a.1 d.1 with ⟨h3,e3⟩ | ⟨h3,e3⟩ | ⟨h3,e3⟩ <;> rw [e] at h <;> rw [e'] at h' <;> rw [e3] <;> grind⟩
/-- A change; its number is small. -/
def RC (V:View) (v:Value) (c:Chg):Prop:=∃(x y:Int) (p:OA),v=.agg #[.int .i64 x,.int .i64 y,.pointer p,.int .i64 c.2.1,.int .i64 c.2.2]/\RR V (.agg #[.int .i64 x,.int .i64 y,.pointer p]) c.1/\Sz 10000 c.1
theorem RC.le {V V':View} {v:Value} {c:Chg} (h:RC V v c) (l:V.Le V'):RC V' v c:=by
 obtain ⟨x,y,p,e,h1,h2⟩:=h; exact ⟨x,y,p,e,h1.le l,h2⟩
theorem RC.shape {V:View} {v:Value} {c:Chg} (h:RC V v c):∃(x y:Int) (p:OA) (a b:Int),v=.agg #[.int .i64 x,.int .i64 y,.pointer p,.int .i64 a,.int .i64 b]:=by
 obtain ⟨x,y,p,e,-⟩:=h; exact ⟨x,y,p,_,_,e⟩
theorem c_chg_cmp {V:View} {v w:Value} {a b:Chg} (h:RC V v a) (h':RC V w b):Acts prog 176 #[v,w] V fun r V'=>r=.int .i64 (cC a b):=by
 obtain ⟨x,y,p,rfl,h1,h2⟩:=h
 obtain ⟨x',y',p',rfl,h1',h2'⟩:=h'
 refine vc_geo_sweep_1 _ _ _ _ _ _ _ _ _ _ V _ fun V1 l1=>(c_R_Cmp (h1.le l1) (h1'.le l1) h2 h2' (by omega)).mono ?_
 rintro r V2 l2 rfl
 exact ⟨_,rfl,fun V3 l3=>rfl⟩
/-- The row that is sorted. -/
structure SR (V:View) (n:Nat) (vs:List Value) (l:List Chg):Prop where
 row:Row 5 RC V vs l
 len:n=l.length
 few:l.length < 50
theorem SR.le {V V':View} {n:Nat} {vs:List Value} {l:List Chg} (h:SR V n vs l) (e:V.Le V'):SR V' n vs l:=⟨h.row.le fun _ _ g=>RC.le g e,h.len,h.few⟩
theorem SR.get {V:View} {n:Nat} {vs:List Value} {l:List Chg} (h:SR V n vs l) {k:Nat} (hk:k < l.length):∃(x y:Int) (p:OA) (a b:Int),
  ((0 + k * 5) + 5<=vs.length/\(vs.drop (0 + k * 5)).take 5=[.int .i64 x,.int .i64 y,.pointer p,.int .i64 a,.int .i64 b])/\RC V (.agg #[.int .i64 x,.int .i64 y,.pointer p,.int .i64 a,.int .i64 b]) (l.getD k dC):=by
 obtain ⟨xs,-,h2,h3,h4⟩:=h.row.get (d:=dC) hk (by decide)
 have h20:=h2
 obtain ⟨x,y,p,a,b,e⟩:=h2.shape
 have e:=congrArg Array.toList (Value.agg.inj e)
 dsimp only at e
 subst e
 rw [Nat.zero_add]
 exact ⟨x,y,p,a,b,⟨h3,h4⟩,h20⟩
theorem SR.swap {V:View} {n:Nat} {vs:List Value} {l:List Chg} (h:SR V n vs l) {i j:Nat} (hi:i < l.length) (hj:j < l.length) {x y:Int} {p:OA} {a b x' y':Int} {p':OA} {a' b':Int}
  (h1:RC V (.agg #[.int .i64 x,.int .i64 y,.pointer p,.int .i64 a,.int .i64 b]) (l.getD i dC)) (h2:RC V (.agg #[.int .i64 x',.int .i64 y',.pointer p',.int .i64 a',.int .i64 b']) (l.getD j dC)) :
  (0 + i * 5) + 5<=vs.length/\(0 + j * 5) + 5<=(setVals vs (0 + i * 5) [.int .i64 x',.int .i64 y',.pointer p',.int .i64 a',.int .i64 b']).length /\
  SR V n (setVals (setVals vs (0 + i * 5) [.int .i64 x',.int .i64 y',.pointer p',.int .i64 a',.int .i64 b']) (0 + j * 5) [.int .i64 x,.int .i64 y,.pointer p,.int .i64 a,.int .i64 b]) (swp dC l i j):=by
 obtain ⟨-,-,-,g1,-⟩:=h.row.get (d:=dC) hi (by decide)
 obtain ⟨-,-,-,g2,-⟩:=h.row.get (d:=dC) hj (by decide)
 rw [Nat.zero_add,Nat.zero_add]
 refine ⟨g1,by rw [setVals_len (by exact g1)]; exact g2,h.row.swap hi hj (by decide) rfl rfl h1 h2,by rw [swp_len]; exact h.len,by rw [swp_len]; exact h.few⟩
/-- What a function that sorts or shuffles leaves behind. -/
def SPost (lb n:Nat) (l:List Chg) (a b:Nat) (V':View) (Q:List Chg->Prop):Prop:=∃vs' l',V'.w.heap[lb]?=some (.cells vs'.toArray 261 (0,0))/\SR V' n vs' l'/\Seg dC l l' a b/\Q l'
theorem c_insertionSort {V:View} {lb n c:Nat} {vs:List Value} {l:List Chg} (hw:V.w.heap[lb]?=some (.cells vs.toArray 261 (0,0))) (hx:V.X lb) (h:SR V n vs l) {a b:Nat} (hab:a<=b) (hb:b<=l.length) :
  Acts prog 244 #[.slice (some ⟨lb,0,none⟩) n c,.int .i64 a,.int .i64 b,.func (.func 176) #[] #[]] V fun r V'=>r=.tuple #[]/\SPost lb n l a b V' fun l'=>Asc cC dC l' a b:=by
 have few:=h.few
 have len:=h.len
 have wa:i64.wrap ((a:Int) + 1)=((a + 1:Nat):Int):=by rw [i64w (by omega)]; omega
 refine vc_slices_insertionSortCmpFunc lb n c vs a b V _ hw hx ⟨fun z V'=>∃(i:Nat) (m:List Chg),z.1=(i:Int)/\a < i/\(i<=b \/ i=a + 1)/\SR V' n z.2 m/\Seg dC l m a b/\Asc cC dC m a i,fun z=>(b - z.1).toNat,
  ⟨(_,vs),by and_intros <;> rfl,a + 1,l,wa,by omega,.inr rfl,h,.refl _ _ _,.short (by omega)⟩,?_⟩
 rintro ⟨z,us⟩ V1 l1 ⟨i,m,e,hai,hib,hs,hseg,hasc⟩
 dsimp only at e hs
 subst e
 dsimp only
 have ml:m.length=l.length:=hseg.len
 refine ⟨rfl,fun hlt=>?_,fun hlt V6 l6 hw6=>⟨rfl,us,m,hw6,hs.le l6,hseg,?_⟩⟩
 ·have hlt:(i:Int) < b:=of_decide_eq_true hlt
  have w2:i64.wrap ((i:Int) + 1)=((i + 1:Nat):Int):=by rw [i64w (by omega)]; omega
  rw [w2]
  refine ⟨fun z V'=>∃(j:Nat) (k:List Chg),z.1=(j:Int)/\a<=j/\j<=i/\SR V' n z.2 k/\Seg dC l k a b/\Ins cC dC k a i j,fun z=>z.1.toNat,⟨((i:Int),us),by and_intros <;> rfl,i,m,rfl,by omega,Nat.le_refl _,hs,hseg,.start hasc⟩,?_⟩
  rintro ⟨z,ws⟩ V2 l2 ⟨j,k,e,haj,hji,hs,hseg,hins⟩
  dsimp only at e hs
  subst e
  dsimp only
  have kl:k.length=l.length:=hseg.len
  refine ⟨rfl,fun z V'=>V2.Le V'/\(z=true->a < j/\cC (k.getD j dC) (k.getD (j - 1) dC) < 0)/\(z=false->j<=a \/ ¬ cC (k.getD j dC) (k.getD (j - 1) dC) < 0),⟨fun hj=>?_,fun hj=>?_⟩,?_⟩
  ·have hj:(j:Int) > a:=of_decide_eq_true hj
   have w1:i64.wrap ((j:Int) - 1)=((j - 1:Nat):Int):=by rw [i64w (by omega)]; omega
   rw [w1,Int.toNat_natCast,Int.toNat_natCast]
   obtain ⟨x1,y1,p1,a1,b1,g1,r1⟩:=hs.get (k:=j) (by omega)
   obtain ⟨x2,y2,p2,a2,b2,g2,r2⟩:=hs.get (k:=j - 1) (by omega)
   refine ⟨⟨by omega,by omega⟩,x1,y1,p1,a1,b1,g1,⟨by omega,by omega⟩,x2,y2,p2,a2,b2,g2,fun V3 l3=>(c_chg_cmp (r1.le l3) (r2.le l3)).mono ?_⟩
   rintro r V4 l4 rfl
   exact ⟨_,rfl,_,by and_intros <;> rfl,l3.trans l4,fun h=>⟨by omega,of_decide_eq_true h⟩,fun h=>.inr (of_decide_eq_false h)⟩
  ·have hj:¬ (j:Int) > a:=of_decide_eq_false hj
   exact ⟨false,by and_intros <;> rfl,View.Le.refl _,(fun h=>nomatch h),fun _=>.inl (by omega)⟩
  ·rintro t V5 l5 ⟨lv,t1,t2⟩
   refine ⟨rfl,fun ht=>?_,fun ht=>⟨(((i + 1:Nat):Int),ws),by dsimp only; omega,by and_intros <;> rfl,i + 1,k,rfl,by omega,.inl (by omega),hs.le l5,hseg,hins.done ordC hji (t2 ht)⟩⟩
   obtain ⟨hj,hlt2⟩:=t1 ht
   have w1:i64.wrap ((j:Int) - 1)=((j - 1:Nat):Int):=by rw [i64w (by omega)]; omega
   rw [w1,Int.toNat_natCast,Int.toNat_natCast]
   obtain ⟨x1,y1,p1,a1,b1,g1,r1⟩:=(hs.le l5).get (k:=j) (by omega)
   obtain ⟨x2,y2,p2,a2,b2,g2,r2⟩:=(hs.le l5).get (k:=j - 1) (by omega)
   obtain ⟨s1,s2,s3⟩:=(hs.le l5).swap (i:=j) (j:=j - 1) (by omega) (by omega) r1 r2
   exact ⟨⟨by omega,by omega⟩,x2,y2,p2,a2,b2,g2,⟨by omega,by omega⟩,x1,y1,p1,a1,b1,g1,⟨by omega,by omega⟩,s1,⟨by omega,by omega⟩,s2,(((j - 1:Nat):Int),_),by dsimp only; omega,by and_intros <;> rfl,j - 1,_,rfl,by omega,by omega,s3,
    hseg.trans (Seg.swp (by omega) (by omega) (by omega) (by omega) (by omega)),hins.move ordC hj hji (by omega) hlt2⟩
 ·have hlt:¬ (i:Int) < b:=of_decide_eq_false hlt
  rcases hib with hib | hib
  ·rw [show b=i by omega]; exact hasc
  ·exact .short (by omega)
end Go.Proofs.Tryz
/- Sorting changes: reverse, heap sort, the choice of a pivot. -/
namespace Go.Proofs.Tryz
open Go.Eng Go.Big
theorem le_shut' (V:View):V.Le V.shut:=fun _ _ h=>h
theorem c_reverseRange {V:View} {lb n c:Nat} {vs:List Value} {l:List Chg} (hw:V.w.heap[lb]?=some (.cells vs.toArray 261 (0,0))) (hx:V.X lb) (h:SR V n vs l) {a b:Nat} (hab:a < b) (hb:b<=l.length) :
  Acts prog 248 #[.slice (some ⟨lb,0,none⟩) n c,.int .i64 a,.int .i64 b,.func (.func 176) #[] #[]] V fun r V'=>r=.tuple #[]/\SPost lb n l a b V' fun _=>True:=by
 have few:=h.few
 have len:=h.len
 have wb:i64.wrap ((b:Int) - 1)=((b - 1:Nat):Int):=by rw [i64w (by omega)]; omega
 refine vc_slices_reverseRangeCmpFunc lb n c vs a b V _ hw hx ⟨fun z V'=>∃(i j:Nat) (m:List Chg),z.1=(i:Int)/\z.2.1=(j:Int)/\a<=i/\j < b/\i<=b/\SR V' n z.2.2 m/\Seg dC l m a b,fun z=>(z.2.1 - z.1).toNat,
  ⟨((a:Int),((b - 1:Nat):Int),vs),by and_intros <;> first | rfl | exact wb,a,b - 1,l,rfl,rfl,by omega,by omega,by omega,h,.refl _ _ _⟩,?_⟩
 rintro ⟨z,z',us⟩ V1 l1 ⟨i,j,m,e,e',hi,hj,hib,hs,hseg⟩
 dsimp only at e e' hs
 subst e e'
 dsimp only
 have ml:m.length=l.length:=hseg.len
 refine ⟨rfl,fun hlt=>?_,fun hlt V2 l2 hw2=>⟨rfl,us,m,hw2,hs.le l2,hseg,trivial⟩⟩
 have hlt:(i:Int) < j:=of_decide_eq_true hlt
 have w1:i64.wrap ((i:Int) + 1)=((i + 1:Nat):Int):=by rw [i64w (by omega)]; omega
 have w2:i64.wrap ((j:Int) - 1)=((j - 1:Nat):Int):=by rw [i64w (by omega)]; omega
 rw [w1,w2,Int.toNat_natCast,Int.toNat_natCast]
 obtain ⟨x1,y1,p1,a1,b1,g1,r1⟩:=hs.get (k:=i) (by omega)
 obtain ⟨x2,y2,p2,a2,b2,g2,r2⟩:=hs.get (k:=j) (by omega)
 obtain ⟨s1,s2,s3⟩:=hs.swap (i:=i) (j:=j) (by omega) (by omega) r1 r2
 exact ⟨⟨by omega,by omega⟩,x2,y2,p2,a2,b2,g2,⟨by omega,by omega⟩,x1,y1,p1,a1,b1,g1,⟨by omega,by omega⟩,s1,⟨by omega,by omega⟩,s2,(((i + 1:Nat):Int),((j - 1:Nat):Int),_),by dsimp only; omega,by and_intros <;> rfl,i + 1,j - 1,_,rfl,rfl,by omega,by omega,by omega,s3,
  hseg.trans (Seg.swp (by omega) (by omega) (by omega) (by omega) (by omega))⟩
theorem c_siftDown {V:View} {lb n c:Nat} {vs:List Value} {l:List Chg} (hw:V.w.heap[lb]?=some (.cells vs.toArray 261 (0,0))) (hx:V.X lb) (h:SR V n vs l) {f lo hi:Nat} (hb:f + hi<=l.length) (hlo:lo < 50) (hp:Hp cC dC l f lo hi (some lo)) :
  Acts prog 259 #[.slice (some ⟨lb,0,none⟩) n c,.int .i64 lo,.int .i64 hi,.int .i64 f,.func (.func 176) #[] #[]] V fun r V'=>r=.tuple #[]/\SPost lb n l f (f + hi) V' fun l'=>Hp cC dC l' f lo hi none:=by
 have few:=h.few
 have len:=h.len
 refine vc_slices_siftDownCmpFunc lb n c vs lo hi f V _ hw hx ⟨fun z V'=>∃(r:Nat) (m:List Chg),z.1=(r:Int)/\lo<=r/\r < 50/\SR V' n z.2 m/\Seg dC l m f (f + hi)/\Hp cC dC m f lo hi (some r),fun z=>(hi - z.1).toNat,
  ⟨((lo:Int),vs),by and_intros <;> rfl,lo,l,rfl,Nat.le_refl _,hlo,h,.refl _ _ _,hp⟩,?_⟩
 rintro ⟨z,us⟩ V1 l1 ⟨r,m,e,hr,hr',hs,hseg,hm⟩
 dsimp only at e hs
 subst e
 dsimp only
 have ml:m.length=l.length:=hseg.len
 have w0:i64.wrap (i64.wrap ((2:Int) * (r:Int)) + 1)=((2 * r + 1:Nat):Int):=by rw [i64w (x:=(2:Int) * (r:Int)) (by omega),i64w (by omega)]; omega
 have w1:i64.wrap (((2 * r + 1:Nat):Int) + 1)=((2 * r + 2:Nat):Int):=by rw [i64w (by omega)]; omega
 have w2:i64.wrap ((f:Int) + ((2 * r + 1:Nat):Int))=((f + (2 * r + 1):Nat):Int):=by rw [i64w (by omega)]; omega
 have w3:i64.wrap (((f + (2 * r + 1):Nat):Int) + 1)=((f + (2 * r + 2):Nat):Int):=by rw [i64w (by omega)]; omega
 have w4:i64.wrap ((f:Int) + (r:Int))=((f + r:Nat):Int):=by rw [i64w (by omega)]; omega
 rw [w0,w1,w2,w3,w4,Int.toNat_natCast,Int.toNat_natCast,Int.toNat_natCast]
 refine ⟨rfl,fun hlt V2 l2 hw2=>⟨rfl,us,m,hw2,hs.le l2,hseg,hm.leaf (by have:=of_decide_eq_true hlt; omega)⟩,fun hlt=>?_⟩
 have hlt:¬ ((2 * r + 1:Nat):Int) ≥ hi:=of_decide_eq_false hlt
 refine ⟨fun z V'=>V1.Le V'/\(z=true->2 * r + 2 < hi/\cC (m.getD (f + (2 * r + 1)) dC) (m.getD (f + (2 * r + 2)) dC) < 0)/\(z=false->2 * r + 2 < hi->¬ cC (m.getD (f + (2 * r + 1)) dC) (m.getD (f + (2 * r + 2)) dC) < 0),⟨fun hj=>?_,fun hj=>?_⟩,?_⟩
 ·have hj:((2 * r + 2:Nat):Int) < hi:=of_decide_eq_true hj
  obtain ⟨x1,y1,p1,a1,b1,g1,r1⟩:=hs.get (k:=f + (2 * r + 1)) (by omega)
  obtain ⟨x2,y2,p2,a2,b2,g2,r2⟩:=hs.get (k:=f + (2 * r + 2)) (by omega)
  refine ⟨⟨by omega,by omega⟩,x1,y1,p1,a1,b1,g1,⟨by omega,by omega⟩,x2,y2,p2,a2,b2,g2,fun V3 l3=>(c_chg_cmp (r1.le l3) (r2.le l3)).mono ?_⟩
  rintro q V4 l4 rfl
  exact ⟨_,rfl,_,by and_intros <;> rfl,l3.trans l4,fun h=>⟨by omega,of_decide_eq_true h⟩,fun h _=>of_decide_eq_false h⟩
 ·have hj:¬ ((2 * r + 2:Nat):Int) < hi:=of_decide_eq_false hj
  exact ⟨false,by and_intros <;> rfl,View.Le.refl _,(fun h=>nomatch h),fun _ h=>absurd h (by omega)⟩
 rintro t V5 l5 ⟨-,t1,t2⟩
 refine ⟨rfl,fun z V'=>V5.Le V'/\∃k:Nat,z=(k:Int)/\(k=2 * r + 1 \/ k=2 * r + 2)/\k < hi/\∀k',(k'=2 * r + 1 \/ k'=2 * r + 2)->k' < hi->¬ cC (m.getD (f + k) dC) (m.getD (f + k') dC) < 0,⟨fun ht=>?_,fun ht=>?_⟩,?_⟩
 ·obtain ⟨h1,h2⟩:=t1 ht
  refine ⟨_,by and_intros <;> rfl,View.Le.refl _,2 * r + 2,rfl,.inr rfl,h1,fun k' hk _=>?_⟩
  rcases hk with rfl | rfl
  ·exact ordC.asy _ _ h2
  ·exact ordC.refl _
 ·refine ⟨_,by and_intros <;> rfl,View.Le.refl _,2 * r + 1,rfl,.inl rfl,by omega,fun k' hk hk'=>?_⟩
  rcases hk with rfl | rfl
  ·exact ordC.refl _
  ·exact t2 ht hk'
 rintro z V6 l6 ⟨-,k,rfl,hk,hkh,hmax⟩
 have w5:i64.wrap ((f:Int) + (k:Int))=((f + k:Nat):Int):=by rw [i64w (by omega)]; omega
 rw [w5,Int.toNat_natCast]
 have hs6:=hs.le (l5.trans l6)
 obtain ⟨x1,y1,p1,a1,b1,g1,r1⟩:=hs6.get (k:=f + r) (by omega)
 obtain ⟨x2,y2,p2,a2,b2,g2,r2⟩:=hs6.get (k:=f + k) (by omega)
 refine ⟨rfl,⟨by omega,by omega⟩,x1,y1,p1,a1,b1,g1,⟨by omega,by omega⟩,x2,y2,p2,a2,b2,g2,fun V7 l7=>(c_chg_cmp (r1.le l7) (r2.le l7)).mono ?_⟩
 rintro q V8 l8 rfl
 refine ⟨_,rfl,fun hc V9 l9 hw9=>⟨rfl,us,m,hw9,hs6.le (l7.trans (l8.trans l9)),hseg,?_⟩,fun hc=>?_⟩
 ·rw [Bool.not_eq_true'] at hc
  exact hm.stop ordC hk hmax (of_decide_eq_false hc)
 ·rw [Bool.not_eq_false'] at hc
  have hc:=of_decide_eq_true hc
  obtain ⟨s1,s2,s3⟩:=(hs6.le (l7.trans l8)).swap (i:=f + r) (j:=f + k) (by omega) (by omega) (r1.le (l7.trans l8)) (r2.le (l7.trans l8))
  exact ⟨⟨by omega,by omega⟩,x2,y2,p2,a2,b2,g2,⟨by omega,by omega⟩,x1,y1,p1,a1,b1,g1,⟨by omega,by omega⟩,s1,⟨by omega,by omega⟩,s2,((k:Int),_),by dsimp only; omega,by and_intros <;> rfl,k,_,rfl,by omega,by omega,s3,
   hseg.trans (Seg.swp (by omega) (by omega) (by omega) (by omega) (by omega)),hm.down ordC hr (by omega) hk hkh hmax hc⟩
end Go.Proofs.Tryz
/- Sorting changes: bits.Len, heap sort, the choice of a pivot, broken patterns. -/
namespace Go.Proofs.Tryz
open Go.Eng Go.Big
set_option maxRecDepth 10000 in
theorem c_Len64 {V:View} (x:Nat) (hx:x < 256):Acts prog 241 #[.int .u64 (x:Int)] V fun r V'=>r=.int .i64 (blen x:Int):=by
 refine vc_math_bits_Len64 _ V _ ⟨fun z _=>z=((x:Int),0),⟨fun h0=>absurd (of_decide_eq_true h0) (by omega),fun _=>⟨_,⟨rfl,rfl⟩,rfl⟩⟩,?_⟩
 rintro _ V1 l1 rfl
 refine ⟨rfl,fun z _=>z=((x:Int),0),⟨fun h0=>absurd (of_decide_eq_true h0) (by dsimp only; omega),fun _=>⟨_,⟨rfl,rfl⟩,rfl⟩⟩,?_⟩
 rintro _ V2 l2 rfl
 refine ⟨rfl,fun z _=>z=((x:Int),0),⟨fun h0=>absurd (of_decide_eq_true h0) (by dsimp only; omega),fun _=>⟨_,⟨rfl,rfl⟩,rfl⟩⟩,?_⟩
 rintro _ V3 l3 rfl
 have hw:IntKind.u8.wrap (x:Int)=x:=IntWalk.u8_in _ (by omega)
 have hsz:(len8.size:Int)=256:=rfl
 dsimp only
 rw [hw]
 refine ⟨rfl,⟨by omega,by show (x:Int) < (len8.size:Int); rw [hsz]; omega⟩,fun V4 l4=>?_⟩
 show Value.int .i64 (i64.wrap (0 + i64.wrap ((len8.data.toList.getD (x:Int).toNat 0).toNat:Int)))=_
 congr 1
 have key:∀y:Nat,y < 256->(len8.data.toList.getD y 0).toNat=blen y:=by decide +kernel
 have hbl:blen x<=8:=blen_le.2 (by omega)
 have:=key x hx
 rw [Int.toNat_natCast,this]
 simp (disch:=omega) only [i64w]
 omega
theorem c_bits_Len {V:View} (x:Nat) (hx:x < 256):Acts prog 213 #[.int .u64 (x:Int)] V fun r V'=>r=.int .i64 (blen x:Int):=by
 refine vc_math_bits_Len _ V _ fun V1 l1=>(c_Len64 x hx).mono ?_
 rintro r V2 l2 rfl
 exact ⟨_,rfl,fun V3 l3=>rfl⟩
theorem c_nextPowerOfTwo {V:View} (x:Nat) (h0:1<=x) (hx:x < 50):Acts prog 255 #[.int .i64 (x:Int)] V fun r V'=>∃m:Nat,r=.int .u64 m/\1<=m/\m<=2 * x:=by
 have w:u64.wrap (x:Int)=x:=u64w (by omega)
 refine vc_slices_nextPowerOfTwo _ V _ fun V1 l1=>?_
 rw [w]
 refine (c_bits_Len x (by omega)).mono ?_
 rintro r V2 l2 rfl
 have key:∀y:Nat,y < 50->1<=y->2 ^ blen y<=2 * y/\blen y<=6:=by decide +kernel
 obtain ⟨k1,k2⟩:=key x hx h0
 have e:min ((blen x:Nat):Int).toNat IntKind.u64.bits=blen x:=by
  show min ((blen x:Nat):Int).toNat 64=_
  rw [Int.toNat_natCast]; omega
 have e2:((1:Int) * 2 ^ blen x)=((2 ^ blen x:Nat):Int):=by rw [Int.one_mul]; simp
 refine ⟨_,rfl,by omega,fun V3 l3=>⟨2 ^ blen x,?_,Nat.one_le_two_pow,k1⟩⟩
 rw [e,e2]
 generalize 2 ^ blen x=P at *
 rw [u64w (by omega)]
theorem and_le {x m:Int} (h0:0<=m) (h1:m < 1000):0<=bitI .and .u64 x m/\bitI .and .u64 x m<=m:=by
 have hb:(BitVec.ofInt 64 m).toNat=m.toNat:=by rw [BitVec.toNat_ofInt]; omega
 have h:((BitVec.ofInt 64 x &&& BitVec.ofInt 64 m).toNat)<=m.toNat:=by rw [BitVec.toNat_and,hb]; exact Nat.and_le_right
 show 0<=u64.wrap ((BitVec.ofInt 64 x &&& BitVec.ofInt 64 m).toNat:Int)/\u64.wrap ((BitVec.ofInt 64 x &&& BitVec.ofInt 64 m).toNat:Int)<=m
 rw [u64w (by omega)]
 omega
theorem c_xorshift {V:View} {rb:Nat} {x:Int} (hw:V.w.heap[rb]?=some (.cells #[.int .u64 x] 325 (0,0))) (hx:V.X rb) :
  Acts prog 256 #[.pointer (some ⟨rb,0,none⟩)] V fun r V'=>∃y:Int,r=.int .u64 y/\V'.w.heap[rb]?=some (.cells #[.int .u64 y] 325 (0,0)):=
 vc_slices_xorshift_Next rb x V _ hw hx ⟨by decide,by decide,by decide,fun V1 l1 h=>⟨_,rfl,h⟩⟩
theorem c_breakPatterns {V:View} {lb n c:Nat} {vs:List Value} {l:List Chg} (hw:V.w.heap[lb]?=some (.cells vs.toArray 261 (0,0))) (hx:V.X lb) (h:SR V n vs l) {a b:Nat} (hab:a + 8<=b) (hb:b<=l.length) :
  Acts prog 246 #[.slice (some ⟨lb,0,none⟩) n c,.int .i64 a,.int .i64 b,.func (.func 176) #[] #[]] V fun r V'=>r=.tuple #[]/\SPost lb n l a b V' fun _=>True:=by
 have few:=h.few
 have len:=h.len
 have w0:i64.wrap ((b:Int) - a)=((b - a:Nat):Int):=by rw [i64w (by omega)]; omega
 have wq:i64.wrap (((b - a:Nat):Int).tdiv 4)=(((b - a) / 4:Nat):Int):=by rw [show ((b - a:Nat):Int).tdiv 4=(((b - a) / 4:Nat):Int) from rfl,i64w (by omega)]
 have w2:i64.wrap ((((b - a) / 4:Nat):Int) * 2)=(((b - a) / 4 * 2:Nat):Int):=by rw [i64w (by omega)]; omega
 have w3:i64.wrap ((a:Int) + (((b - a) / 4 * 2:Nat):Int))=((a + (b - a) / 4 * 2:Nat):Int):=by rw [i64w (by omega)]; omega
 have w4:i64.wrap (((a + (b - a) / 4 * 2:Nat):Int) - 1)=((a + (b - a) / 4 * 2 - 1:Nat):Int):=by rw [i64w (by omega)]; omega
 have w5:i64.wrap (((a + (b - a) / 4 * 2:Nat):Int) + 1)=((a + (b - a) / 4 * 2 + 1:Nat):Int):=by rw [i64w (by omega)]; omega
 refine vc_slices_breakPatternsCmpFunc lb n c vs a b V _ hw hx ?_
 rw [w0,wq,w2,w3,w4,w5]
 generalize hq:(b - a) / 4 * 2=q
 have hq1:4<=q:=by omega
 have hq2:a + q + 1 < b:=by omega
 refine ⟨fun _ V1 l1=>(c_nextPowerOfTwo (b - a) (by omega) (by omega)).mono ?_,fun h8=>absurd (of_decide_eq_false h8) (by omega)⟩
 rintro r V2 l2 ⟨m,rfl,m1,m2⟩
 refine ⟨_,rfl,by decide,fun z V'=>∃(i:Nat) (k:List Chg),z.1=(i:Int)/\a + q - 1<=i/\SR V' n z.2.2 k/\Seg dC l k a b,fun z=>((a + q + 2:Nat) - z.1).toNat,⟨(((a + q - 1:Nat):Int),_,vs),by and_intros <;> rfl,a + q - 1,l,rfl,Nat.le_refl _,h.le (l1.trans l2),.refl _ _ _⟩,?_⟩
 rintro ⟨z,sd,us⟩ V3 l3 ⟨i,k,e,hi,hs,hseg⟩
 dsimp only at e hs
 subst e
 dsimp only
 have kl:k.length=l.length:=hseg.len
 refine ⟨rfl,by decide,fun hlt V4 l4 bk e4 h4=>(c_xorshift (V:=V4.lend [bk]) e4 ⟨by simp,h4⟩).mono ?_,fun hlt V6 l6 hw6=>⟨rfl,us,k,hw6,hs.le l6,hseg,trivial⟩⟩
 have hlt:(i:Int)<=((a + q + 1:Nat):Int):=of_decide_eq_true hlt
 rintro r V5 l5 ⟨y,rfl,e5⟩
 have wm:u64.wrap ((m:Int) - 1)=((m - 1:Nat):Int):=by rw [u64w (by omega)]; omega
 rw [wm]
 obtain ⟨g1,g2⟩:=and_le (x:=y) (m:=((m - 1:Nat):Int)) (by omega) (by omega)
 generalize hv:bitI .and .u64 y ((m - 1:Nat):Int)=v at *
 have wv:i64.wrap v=v:=i64w (by omega)
 have w6:i64.wrap ((i:Int) + 1)=((i + 1:Nat):Int):=by rw [i64w (by omega)]; omega
 have hs5:SR V5.shut n us k:=hs.le fun b o h=>l5 b o (l4 b o h)
 obtain ⟨o,ho,hob⟩:∃o:Nat,(o:Int)=(if v ≥ ((b - a:Nat):Int) then v - ((b - a:Nat):Int) else v)/\o < b - a:=by
  split
  ·exact ⟨(v - ((b - a:Nat):Int)).toNat,by omega,by omega⟩
  ·exact ⟨v.toNat,by omega,by omega⟩
 refine ⟨y,rfl,y,e5,?_⟩
 rw [hv,wv,w6]
 refine ⟨fun z V'=>z=(o:Int)/\V5.shut.Le V',⟨fun hg=>?_,fun hg=>?_⟩,?_⟩
 ·have hg:=of_decide_eq_true hg
  rw [if_pos hg] at ho
  exact ⟨_,by and_intros <;> first | rfl | exact (i64w (by omega)),ho.symm,View.Le.refl _⟩
 ·have hg:=of_decide_eq_false hg
  rw [if_neg hg] at ho
  exact ⟨_,by and_intros <;> rfl,ho.symm,View.Le.refl _⟩
 rintro z V7 l7 ⟨rfl,-⟩
 have wo:i64.wrap ((a:Int) + (o:Int))=((a + o:Nat):Int):=by rw [i64w (by omega)]; omega
 rw [wo,Int.toNat_natCast,Int.toNat_natCast]
 have hs7:=hs5.le l7
 obtain ⟨x1,y1,p1,a1,b1,g1,r1⟩:=hs7.get (k:=i) (by omega)
 obtain ⟨x2,y2,p2,a2,b2,g2,r2⟩:=hs7.get (k:=a + o) (by omega)
 obtain ⟨s1,s2,s3⟩:=hs7.swap (i:=i) (j:=a + o) (by omega) (by omega) r1 r2
 exact ⟨rfl,⟨by omega,by omega⟩,x2,y2,p2,a2,b2,g2,⟨by omega,by omega⟩,x1,y1,p1,a1,b1,g1,⟨by omega,by omega⟩,s1,⟨by omega,by omega⟩,s2,(((i + 1:Nat):Int),y,_),by dsimp only; omega,by and_intros <;> rfl,i + 1,_,rfl,by omega,s3,
  hseg.trans (Seg.swp (by omega) (by omega) (by omega) (by omega) (by omega))⟩
end Go.Proofs.Tryz
/- Sorting changes: heap sort, the choice of a pivot. -/
namespace Go.Proofs.Tryz
open Go.Eng Go.Big
theorem c_heapSort {V:View} {lb n c:Nat} {vs:List Value} {l:List Chg} (hw:V.w.heap[lb]?=some (.cells vs.toArray 261 (0,0))) (hx:V.X lb) (h:SR V n vs l) {a b:Nat} (hab:a < b) (hb:b<=l.length) :
  Acts prog 245 #[.slice (some ⟨lb,0,none⟩) n c,.int .i64 a,.int .i64 b,.func (.func 176) #[] #[]] V fun r V'=>r=.tuple #[]/\SPost lb n l a b V' fun l'=>Asc cC dC l' a b:=by
 have few:=h.few
 have len:=h.len
 obtain ⟨N,hN⟩:∃N,N=b - a:=⟨_,rfl⟩
 have w0:i64.wrap ((b:Int) - a)=(N:Int):=by rw [i64w (by omega)]; omega
 have w1:i64.wrap ((N:Int) - 1)=((N - 1:Nat):Int):=by rw [i64w (by omega)]; omega
 have w2:i64.wrap (((N - 1:Nat):Int).tdiv 2)=(((N - 1) / 2:Nat):Int):=by rw [show ((N - 1:Nat):Int).tdiv 2=(((N - 1) / 2:Nat):Int) from rfl,i64w (by omega)]
 have eb:a + N=b:=by omega
 refine vc_slices_heapSortCmpFunc lb n c vs a b V _ hw hx ?_
 rw [w0,w1,w2]
 refine ⟨by decide,fun z V'=>∃(i:Nat) (m:List Chg),z.1=(i:Int) - 1/\i<=N/\SR V' n z.2 m/\Seg dC l m a b/\Hp cC dC m a i N none,fun z=>(z.1 + 1).toNat,⟨((((N - 1) / 2:Nat):Int),vs),by and_intros <;> rfl,(N - 1) / 2 + 1,l,by dsimp only; omega,by omega,h,.refl _ _ _,⟨fun i k h1 h2 h3 _=>by omega,fun i j k e=>by cases e⟩⟩,?_⟩
 rintro ⟨z,us⟩ V1 l1 ⟨i,m,e,hi,hs,hseg,hp⟩
 dsimp only at e hs
 subst e
 dsimp only
 have ml:m.length=l.length:=hseg.len
 refine ⟨rfl,fun h0 V2 l2 bk e2 h2=>?_,fun h0=>?_⟩
 ·have h0:(i:Int) - 1 ≥ 0:=of_decide_eq_true h0
  obtain ⟨j,rfl⟩:∃j,i=j + 1:=⟨i - 1,by omega⟩
  have ej:((j + 1:Nat):Int) - 1=(j:Int):=by omega
  have w3:i64.wrap ((j:Int) - 1)=(j:Int) - 1:=i64w (by omega)
  rw [ej]
  refine (c_siftDown (V:=V2.lend [bk]) e2 ⟨by simp,h2⟩ (hs.le l2) (f:=a) (lo:=j) (hi:=N) (by omega) (by omega) hp.more).mono ?_
  rintro r V3 l3 ⟨rfl,ws,m',e3,hs3,hseg3,hp3⟩
  exact ⟨rfl,ws,e3,((j:Int) - 1,ws),by dsimp only; omega,by and_intros <;> first | rfl | exact w3,j,m',rfl,by omega,hs3.le (le_shut' _),hseg.trans (hseg3.wide (Nat.le_refl _) (by omega)),hp3⟩
 ·have h0:¬ (i:Int) - 1 ≥ 0:=of_decide_eq_false h0
  obtain rfl:i=0:=by omega
  refine ⟨fun z V'=>∃(i:Nat) (m:List Chg),z.1=(i:Int) - 1/\i<=N/\SR V' n z.2 m/\Seg dC l m a b/\HQ cC dC m a i N,fun z=>(z.1 + 1).toNat,⟨(((N - 1:Nat):Int),us),by and_intros <;> rfl,N,m,by dsimp only; omega,Nat.le_refl _,hs,hseg,.start hp⟩,?_⟩
  rintro ⟨z,us⟩ V4 l4 ⟨i,m,e,hi,hs,hseg,hq⟩
  dsimp only at e hs
  subst e
  dsimp only
  have ml:m.length=l.length:=hseg.len
  refine ⟨rfl,fun h0=>?_,fun h0 V7 l7 hw7=>⟨rfl,us,m,hw7,hs.le l7,hseg,?_⟩⟩
  ·have h0:(i:Int) - 1 ≥ 0:=of_decide_eq_true h0
   obtain ⟨j,rfl⟩:∃j,i=j + 1:=⟨i - 1,by omega⟩
   have ej:((j + 1:Nat):Int) - 1=(j:Int):=by omega
   have w3:i64.wrap ((j:Int) - 1)=(j:Int) - 1:=i64w (by omega)
   have w4:i64.wrap ((a:Int) + (j:Int))=((a + j:Nat):Int):=by rw [i64w (by omega)]; omega
   rw [ej,w4,Int.toNat_natCast,Int.toNat_natCast]
   obtain ⟨x1,y1,p1,a1,b1,g1,r1⟩:=hs.get (k:=a) (by omega)
   obtain ⟨x2,y2,p2,a2,b2,g2,r2⟩:=hs.get (k:=a + j) (by omega)
   obtain ⟨s1,s2,s3⟩:=hs.swap (i:=a) (j:=a + j) (by omega) (by omega) r1 r2
   refine ⟨⟨by omega,by omega⟩,x2,y2,p2,a2,b2,g2,⟨by omega,by omega⟩,x1,y1,p1,a1,b1,g1,⟨by omega,by omega⟩,s1,⟨by omega,by omega⟩,s2,fun V5 l5 bk e5 h5=>?_⟩
   have sl:(swp dC m a (a + j)).length=l.length:=by rw [swp_len]; exact ml
   refine (c_siftDown (V:=V5.lend [bk]) e5 ⟨by simp,h5⟩ (s3.le l5) (f:=a) (lo:=0) (hi:=j) (by omega) (by omega) (hq.hp.pop (by omega))).mono ?_
   rintro r V6 l6 ⟨rfl,ws,m',e6,hs6,hseg6,hp6⟩
   exact ⟨rfl,ws,e6,((j:Int) - 1,ws),by dsimp only; omega,by and_intros <;> first | rfl | exact w3,j,m',rfl,by omega,hs6.le (le_shut' _),hseg.trans ((Seg.swp (by omega) (by omega) (by omega) (by omega) (by omega)).trans (hseg6.wide (Nat.le_refl _) (by omega))),hq.step ordC (by omega) (by omega) hseg6 hp6⟩
  ·have h0:¬ (i:Int) - 1 ≥ 0:=of_decide_eq_false h0
   obtain rfl:i=0:=by omega
   have:=hq.fin
   rwa [eb] at this
theorem c_order2 {V:View} {lb n c:Nat} {vs:List Value} {l:List Chg} (hw:V.w.heap[lb]?=some (.cells vs.toArray 261 (0,0))) (hx:V.X lb) (h:SR V n vs l) {wb:Nat} {k:Int} (hw':V.w.heap[wb]?=some (.cells #[.int .i64 k] 3 (0,0))) (hx':V.X wb) (hne:lb≠wb) {a b:Nat} (ha:a < l.length) (hb:b < l.length) :
  Acts prog 263 #[.slice (some ⟨lb,0,none⟩) n c,.int .i64 a,.int .i64 b,.pointer (some ⟨wb,0,none⟩),.func (.func 176) #[] #[]] V fun r V'=>∃(x y:Nat) (k':Int),r=.tuple #[.int .i64 x,.int .i64 y]/\((x=a/\y=b) \/ (x=b/\y=a)) /\
   V'.w.heap[lb]?=some (.cells vs.toArray 261 (0,0))/\V'.w.heap[wb]?=some (.cells #[.int .i64 k'] 3 (0,0)):=by
 have len:=h.len
 obtain ⟨x1,y1,p1,a1,b1,g1,r1⟩:=h.get (k:=a) ha
 obtain ⟨x2,y2,p2,a2,b2,g2,r2⟩:=h.get (k:=b) hb
 refine vc_slices_order2CmpFunc lb n c vs a b wb k V _ hw hx hw' hx' hne ⟨⟨by omega,by omega⟩,x2,y2,p2,a2,b2,by rw [Int.toNat_natCast]; exact g2,⟨by omega,by omega⟩,x1,y1,p1,a1,b1,by rw [Int.toNat_natCast]; exact g1,fun V1 l1=>(c_chg_cmp (r2.le l1) (r1.le l1)).mono ?_⟩
 rintro r V2 l2 rfl
 exact ⟨_,rfl,fun _ V3 l3 e1 e2=>⟨b,a,_,rfl,.inr ⟨rfl,rfl⟩,e1,e2⟩,fun _ V4 l4 e1 e2=>⟨a,b,_,rfl,.inl ⟨rfl,rfl⟩,e1,e2⟩⟩
theorem c_median {V:View} {lb n c:Nat} {vs:List Value} {l:List Chg} (hw:V.w.heap[lb]?=some (.cells vs.toArray 261 (0,0))) (hx:V.X lb) (h:SR V n vs l) {wb:Nat} {k:Int} (hw':V.w.heap[wb]?=some (.cells #[.int .i64 k] 3 (0,0))) (hx':V.X wb) (hne:lb≠wb) {a b d:Nat} (ha:a < l.length) (hb:b < l.length) (hd:d < l.length) :
  Acts prog 261 #[.slice (some ⟨lb,0,none⟩) n c,.int .i64 a,.int .i64 b,.int .i64 d,.pointer (some ⟨wb,0,none⟩),.func (.func 176) #[] #[]] V fun r V'=>∃(x:Nat) (k':Int),r=.int .i64 x/\(x=a \/ x=b \/ x=d) /\
   V'.w.heap[lb]?=some (.cells vs.toArray 261 (0,0))/\V'.w.heap[wb]?=some (.cells #[.int .i64 k'] 3 (0,0)):=by
 have lX:∀(U:View) (u v:Nat),U.H u->U.H v->(U.lend [u,v]).X u/\(U.lend [u,v]).X v:=fun U u v hu hv=>⟨⟨by simp,hu⟩,⟨by simp,hv⟩⟩
 refine vc_slices_medianCmpFunc lb n c vs a b d wb k V _ hw hx hw' hx' hne fun V1 l1 u1 v1 e1 f1 e1' f1' n1=>(c_order2 (V:=V1.lend [u1,v1]) e1 (lX _ _ _ f1 f1').1 (h.le l1) e1' (lX _ _ _ f1 f1').2 n1 ha hb).mono ?_
 rintro r V2 l2 ⟨x2,y2,k2,rfl,o2,e2,e2'⟩
 have L2:V.Le V2:=fun b o h=>l2 b o (l1 b o h)
 refine ⟨_,_,rfl,vs,e2,_,e2',fun V3 l3 u3 v3 e3 f3 e3' f3' n3=>(c_order2 (V:=V3.lend [u3,v3]) e3 (lX _ _ _ f3 f3').1 (h.le fun b o h=>l3 b o (L2 b o h)) e3' (lX _ _ _ f3 f3').2 n3 (a:=y2) (by omega) hd).mono ?_⟩
 rintro r V4 l4 ⟨x4,y4,k4,rfl,o4,e4,e4'⟩
 refine ⟨_,_,rfl,vs,e4,_,e4',fun V5 l5 u5 v5 e5 f5 e5' f5' n5=>(c_order2 (V:=V5.lend [u5,v5]) e5 (lX _ _ _ f5 f5').1 (h.le fun b o h=>l5 b o (l4 b o (l3 b o (L2 b o h)))) e5' (lX _ _ _ f5 f5').2 n5 (a:=x2) (b:=x4) (by omega) (by omega)).mono ?_⟩
 rintro r V6 l6 ⟨x6,y6,k6,rfl,o6,e6,e6'⟩
 exact ⟨_,_,rfl,vs,e6,_,e6',fun V7 l7 e7 e7'=>⟨y6,k6,rfl,by omega,e7,e7'⟩⟩
theorem c_choosePivot {V:View} {lb n c:Nat} {vs:List Value} {l:List Chg} (hw:V.w.heap[lb]?=some (.cells vs.toArray 261 (0,0))) (hx:V.X lb) (h:SR V n vs l) {a b:Nat} (hab:a + 8<=b) (hb:b<=l.length) :
  Acts prog 247 #[.slice (some ⟨lb,0,none⟩) n c,.int .i64 a,.int .i64 b,.func (.func 176) #[] #[]] V fun r V'=>∃(x:Nat) (t:Int),r=.tuple #[.int .i64 x,.int .i64 t]/\a<=x/\x < b /\
   V'.w.heap[lb]?=some (.cells vs.toArray 261 (0,0)):=by
 have few:=h.few
 have lX:∀(U:View) (u v:Nat),U.H u->U.H v->(U.lend [u,v]).X u/\(U.lend [u,v]).X v:=fun U u v hu hv=>⟨⟨by simp,hu⟩,⟨by simp,hv⟩⟩
 obtain ⟨q,hq⟩:∃q,q=(b - a) / 4:=⟨_,rfl⟩
 have w0:i64.wrap ((b:Int) - a)=((b - a:Nat):Int):=by rw [i64w (by omega)]; omega
 have wq:i64.wrap (((b - a:Nat):Int).tdiv 4)=(q:Int):=by rw [show ((b - a:Nat):Int).tdiv 4=(((b - a) / 4:Nat):Int) from rfl,i64w (by omega)]; omega
 have v1:i64.wrap ((q:Int) * 1)=(q:Int):=by rw [i64w (by omega)]; omega
 have v2:i64.wrap ((q:Int) * 2)=((2 * q:Nat):Int):=by rw [i64w (by omega)]; omega
 have v3:i64.wrap ((q:Int) * 3)=((3 * q:Nat):Int):=by rw [i64w (by omega)]; omega
 have w1:i64.wrap ((a:Int) + (q:Int))=((a + q:Nat):Int):=by rw [i64w (by omega)]; omega
 have w2:i64.wrap ((a:Int) + ((2 * q:Nat):Int))=((a + 2 * q:Nat):Int):=by rw [i64w (by omega)]; omega
 have w3:i64.wrap ((a:Int) + ((3 * q:Nat):Int))=((a + 3 * q:Nat):Int):=by rw [i64w (by omega)]; omega
 refine vc_slices_choosePivotCmpFunc lb n c vs a b V _ hw hx ?_
 rw [w0,wq,v1,v2,v3,w1,w2,w3]
 refine ⟨by decide,by decide,by decide,fun _=>⟨fun h50=>absurd (of_decide_eq_true h50) (by omega),fun _ V1 l1 u v e1 f1 e1' f1' n1=>(c_median (V:=V1.lend [u,v]) e1 (lX _ _ _ f1 f1').1 (h.le l1) e1' (lX _ _ _ f1 f1').2 n1 (a:=a + q) (b:=a + 2 * q) (d:=a + 3 * q) (by omega) (by omega) (by omega)).mono ?_⟩,fun h8=>absurd (of_decide_eq_false h8) (by omega)⟩
 rintro r V2 l2 ⟨x,k,rfl,ho,e2,e2'⟩
 exact ⟨_,rfl,vs,e2,_,e2',fun _ V3 l3 e3=>⟨x,_,rfl,by omega,by omega,e3⟩,fun _=>⟨fun _ V4 l4 e4=>⟨x,_,rfl,by omega,by omega,e4⟩,fun _ V5 l5 e5=>⟨x,_,rfl,by omega,by omega,e5⟩⟩⟩
end Go.Proofs.Tryz
/- Sorting changes: partitions (printed by mkpart.py). -/
namespace Go.Proofs.Tryz
open Go.Eng Go.Big
theorem c_partialInsertion {V:View} {lb n c:Nat} {vs:List Value} {l:List Chg} (hw:V.w.heap[lb]?=some (.cells vs.toArray 261 (0,0))) (hx:V.X lb) (h:SR V n vs l) {a b:Nat} (hab:a < b) (hb:b<=l.length) :
  Acts prog 249 #[.slice (some ⟨lb,0,none⟩) n c,.int .i64 a,.int .i64 b,.func (.func 176) #[] #[]] V fun r V'=>∃t:Bool,r=.bool t/\SR V' n vs l/\V'.w.heap[lb]?=some (.cells vs.toArray 261 (0,0))/\(t=true->Asc cC dC l a b):=by
 have few:=h.few
 have len:=h.len
 have wa:i64.wrap ((a:Int) + 1)=((a + 1:Nat):Int):=by rw [i64w (by omega)]; omega
 have wn:i64.wrap ((b:Int) - a)=((b - a:Nat):Int):=by rw [i64w (by omega)]; omega
 refine vc_slices_partialInsertionSortCmpFunc lb n c vs a b V _ hw hx ?_
 rw [wa,wn]
 refine ⟨fun z V'=>z=(((a + 1:Nat):Int),0,vs)/\V.Le V',fun z=>0,⟨(((a + 1:Nat):Int),0,vs),by and_intros <;> rfl,rfl,View.Le.refl _⟩,?_⟩
 rintro z V1 l1 ⟨rfl,-⟩
 dsimp only
 refine ⟨rfl,fun _=>⟨fun z V'=>∃i:Nat,z=(i:Int)/\a + 1<=i/\i<=b/\V1.Le V'/\Asc cC dC l a i,fun z=>(b - z).toNat,⟨((a + 1:Nat):Int),by and_intros <;> rfl,a + 1,rfl,Nat.le_refl _,by omega,View.Le.refl _,.short (by omega)⟩,?_⟩,fun h0=>absurd (of_decide_eq_false h0) (by decide)⟩
 rintro z V2 l2 ⟨i,rfl,hi,hib,-,hasc⟩
 have w1:i64.wrap ((i:Int) - 1)=((i - 1:Nat):Int):=by rw [i64w (by omega)]; omega
 have w2:i64.wrap ((i:Int) + 1)=((i + 1:Nat):Int):=by rw [i64w (by omega)]; omega
 rw [w1,w2,Int.toNat_natCast,Int.toNat_natCast]
 have hs:=h.le (l1.trans l2)
 refine ⟨rfl,fun z V'=>V2.Le V'/\(z=true->i < b/\¬ cC (l.getD i dC) (l.getD (i - 1) dC) < 0)/\(z=false->True),⟨fun hj=>?_,fun hj=>⟨false,by and_intros <;> rfl,View.Le.refl _,(fun h=>nomatch h),fun _=>trivial⟩⟩,?_⟩
 ·have hj:(i:Int) < b:=of_decide_eq_true hj
  obtain ⟨x1,y1,p1,a1,b1,g1,r1⟩:=hs.get (k:=i) (by omega)
  obtain ⟨x2,y2,p2,a2,b2,g2,r2⟩:=hs.get (k:=i - 1) (by omega)
  refine ⟨⟨by omega,by omega⟩,x1,y1,p1,a1,b1,g1,⟨by omega,by omega⟩,x2,y2,p2,a2,b2,g2,fun V3 l3=>(c_chg_cmp (r1.le l3) (r2.le l3)).mono ?_⟩
  rintro r V4 l4 rfl
  exact ⟨_,rfl,_,by and_intros <;> rfl,l3.trans l4,fun h=>⟨by omega,by simpa using h⟩,fun _=>trivial⟩
 ·rintro t V5 l5 ⟨-,t1,-⟩
  refine ⟨rfl,fun ht=>?_,fun ht=>⟨fun he V6 l6 hw6=>⟨true,rfl,hs.le (l5.trans l6),hw6,fun _=>?_⟩,fun _=>⟨fun _ V7 l7 hw7=>⟨false,rfl,hs.le (l5.trans l7),hw7,(fun h=>nomatch h)⟩,fun h50=>absurd (of_decide_eq_false h50) (by omega)⟩⟩⟩
  ·obtain ⟨h1,h2⟩:=t1 ht
   exact ⟨((i + 1:Nat):Int),by dsimp only; omega,by and_intros <;> rfl,i + 1,rfl,by omega,by omega,l2.trans l5,hasc.step ordC (by omega) h2⟩
  ·have he:(i:Int)=b:=by simpa using he
   rw [show b=i by omega]; exact hasc
theorem swp_a {l:List Chg} {a piv:Nat} (ha:a < l.length) (hp:piv < l.length):(swp dC l a piv).getD a dC=l.getD piv dC:=by
 rw [swp_at ha hp]
 by_cases e:a=piv
 ·rw [if_pos e,e]
 ·rw [if_neg e,if_pos rfl]
theorem c_partitionEqual {V:View} {lb n c:Nat} {vs:List Value} {l:List Chg} (hw:V.w.heap[lb]?=some (.cells vs.toArray 261 (0,0))) (hx:V.X lb) (h:SR V n vs l) {a b piv:Nat} (hab:a + 1 < b) (hb:b<=l.length) (hp:a<=piv) (hp':piv < b) :
  Acts prog 250 #[.slice (some ⟨lb,0,none⟩) n c,.int .i64 a,.int .i64 b,.int .i64 piv,.func (.func 176) #[] #[]] V fun r V'=>∃mid:Nat,r=.int .i64 mid/\a < mid/\mid<=b/\SPost lb n l a b V' fun l'=>(∀k,a<=k->k < mid->¬ cC (l.getD piv dC) (l'.getD k dC) < 0)/\(∀k,mid<=k->k < b->cC (l.getD piv dC) (l'.getD k dC) < 0):=by
 have few:=h.few
 have len:=h.len
 have wa:i64.wrap ((a:Int) + 1)=((a + 1:Nat):Int):=by rw [i64w (by omega)]; omega
 have wb:i64.wrap ((b:Int) - 1)=((b - 1:Nat):Int):=by rw [i64w (by omega)]; omega
 refine vc_slices_partitionEqualCmpFunc lb n c vs a b piv V _ hw hx ?_
 rw [wa,wb,Int.toNat_natCast,Int.toNat_natCast]
 obtain ⟨x1,y1,p1,a1,b1,g1,r1⟩:=h.get (k:=a) (by omega)
 obtain ⟨x2,y2,p2,a2,b2,g2,r2⟩:=h.get (k:=piv) (by omega)
 obtain ⟨s1,s2,s3⟩:=h.swap (i:=a) (j:=piv) (by omega) (by omega) r1 r2
 refine ⟨⟨by omega,by omega⟩,x2,y2,p2,a2,b2,g2,⟨by omega,by omega⟩,x1,y1,p1,a1,b1,g1,⟨by omega,by omega⟩,s1,⟨by omega,by omega⟩,s2,?_⟩
 generalize setVals (setVals vs (0 + a * 5) [.int .i64 x2,.int .i64 y2,.pointer p2,.int .i64 a2,.int .i64 b2]) (0 + piv * 5) [.int .i64 x1,.int .i64 y1,.pointer p1,.int .i64 a1,.int .i64 b1]=ws at *
 have m0:=swp_a (l:=l) (a:=a) (piv:=piv) (by omega) (by omega)
 have g0:Seg dC l (swp dC l a piv) a b:=Seg.swp (Nat.le_refl _) (by omega) hp hp' hb
 generalize swp dC l a piv=l0 at *
 generalize hpv:l.getD piv dC=p at *
 have tr0:l0.length=l.length:=g0.len
 clear g1 g2 r1 r2 s1 s2
 refine ⟨fun z V'=>∃(i j:Nat) (m:List Chg),z.1=(i:Int)/\z.2.1=(j:Int)/\SR V' n z.2.2 m/\Seg dC l m a b/\m.getD a dC=p/\PT (fun x=>¬ cC p x < 0) dC m a b i j,fun z=>(b - z.1).toNat,⟨(((a + 1:Nat):Int),((b - 1:Nat):Int),ws),by and_intros <;> rfl,a + 1,b - 1,l0,rfl,rfl,s3,g0,m0,PT.start hab⟩,?_⟩
 rintro ⟨z,z',us⟩ V1 l1 ⟨i0,j,m,e,e',hs1,hseg,ma,pt0⟩
 dsimp only at e e' hs1
 subst e e'
 have ml:m.length=l.length:=hseg.len
 refine ⟨rfl,fun z V'=>∃i:Nat,z=((i:Int),(j:Int),us)/\i0<=i/\V1.Le V'/\PT (fun x=>¬ cC p x < 0) dC m a b i j,fun z=>(b - z.1).toNat,⟨((i0:Int),(j:Int),us),by and_intros <;> rfl,i0,rfl,Nat.le_refl _,View.Le.refl _,pt0⟩,?_⟩
 rintro _ V2 l2 ⟨i,rfl,hi0,-,pt⟩
 dsimp only
 have hs:=hs1.le l2
 have q1:=pt.hi
 have q2:=pt.hij
 have q3:=pt.hj
 have w1:i64.wrap ((i:Int) + 1)=((i + 1:Nat):Int):=by rw [i64w (by omega)]; omega
 rw [w1,Int.toNat_natCast]
 refine ⟨rfl,fun z V'=>V2.Le V'/\(z=true->i<=j/\¬ cC p (m.getD i dC) < 0)/\(z=false->i<=j->¬ ¬ cC p (m.getD i dC) < 0),⟨fun hj=>?_,fun hj=>⟨false,by and_intros <;> rfl,View.Le.refl _,(fun h=>nomatch h),fun _ h=>absurd h (by have:=of_decide_eq_false hj; omega)⟩⟩,?_⟩
 ·have hj:(i:Int)<=j:=of_decide_eq_true hj
  obtain ⟨x1,y1,p1,a1,b1,g1,r1⟩:=hs.get (k:=a) (by omega)
  obtain ⟨x2,y2,p2,a2,b2,g2,r2⟩:=hs.get (k:=i) (by omega)
  refine ⟨⟨by omega,by omega⟩,x1,y1,p1,a1,b1,g1,⟨by omega,by omega⟩,x2,y2,p2,a2,b2,g2,fun W1 k1=>(c_chg_cmp (r1.le k1) (r2.le k1)).mono ?_⟩
  rintro r W2 k2 rfl
  rw [ma]
  exact ⟨_,rfl,_,by and_intros <;> rfl,k1.trans k2,fun h=>⟨by omega,by simpa using h⟩,fun h _=>by simpa using h⟩
 rintro t V5 l5 ⟨-,t1,t2⟩
 refine ⟨rfl,fun ht=>⟨(((i + 1:Nat):Int),(j:Int),us),by have:=(t1 ht).1; dsimp only; omega,by and_intros <;> rfl,i + 1,rfl,by omega,l2.trans l5,pt.incr (t1 ht).1 (t1 ht).2⟩,fun ht=>?_⟩
 have hI:i<=j->¬ ((fun x=>¬ cC p x < 0)) (m.getD i dC):=t2 ht
 refine ⟨fun z V'=>∃j':Nat,z=(j':Int)/\j'<=j/\V5.Le V'/\PT (fun x=>¬ cC p x < 0) dC m a b i j',fun z=>z.toNat,⟨(j:Int),by and_intros <;> rfl,j,rfl,Nat.le_refl _,View.Le.refl _,pt⟩,?_⟩
 rintro _ V6 l6 ⟨j',rfl,hjj,-,pt'⟩
 clear t1 t2 q2 q3 pt
 have hI:i<=j'->¬ ((fun x=>¬ cC p x < 0)) (m.getD i dC):=fun h=>hI (by omega)
 replace hs:=hs.le (l5.trans l6)
 have q2:=pt'.hij
 have q3:=pt'.hj
 have w2:1<=j'->i64.wrap ((j':Int) - 1)=((j' - 1:Nat):Int):=fun h1=>by rw [i64w (by omega)]; omega
 rw [Int.toNat_natCast]
 refine ⟨rfl,fun z V'=>V6.Le V'/\(z=true->i<=j'/\¬ ¬ cC p (m.getD j' dC) < 0)/\(z=false->i<=j'->¬ cC p (m.getD j' dC) < 0),⟨fun hj=>?_,fun hj=>⟨false,by and_intros <;> rfl,View.Le.refl _,(fun h=>nomatch h),fun _ h=>absurd h (by have:=of_decide_eq_false hj; omega)⟩⟩,?_⟩
 ·have hj:(i:Int)<=j':=of_decide_eq_true hj
  obtain ⟨x1,y1,p1,a1,b1,g1,r1⟩:=hs.get (k:=a) (by omega)
  obtain ⟨x2,y2,p2,a2,b2,g2,r2⟩:=hs.get (k:=j') (by omega)
  refine ⟨⟨by omega,by omega⟩,x1,y1,p1,a1,b1,g1,⟨by omega,by omega⟩,x2,y2,p2,a2,b2,g2,fun W1 k1=>(c_chg_cmp (r1.le k1) (r2.le k1)).mono ?_⟩
  rintro r W2 k2 rfl
  rw [ma]
  exact ⟨_,rfl,_,by and_intros <;> rfl,k1.trans k2,fun h=>⟨by omega,by simpa using h⟩,fun h _=>by simpa using h⟩
 rintro t V9 l9 ⟨-,t1,t2⟩
 refine ⟨rfl,fun ht=>⟨((j' - 1:Nat):Int),by have:=(t1 ht).1; dsimp only; omega,by have:=(t1 ht).1; and_intros <;> first | rfl | exact w2 (by omega),j' - 1,rfl,by omega,l6.trans l9,pt'.decr (t1 ht).1 (t1 ht).2⟩,fun ht=>⟨fun hgt=>?_,fun hgt=>?_⟩⟩
 ·have hgt:(i:Int) > j':=of_decide_eq_true hgt
  refine fun V10 l10 hw10=>⟨i,rfl,q1,by omega,us,m,hw10,hs.le (l9.trans l10),hseg,fun k k1 k2=>?_,fun k k1 k2=>?_⟩
  ·by_cases e:k=a
   ·rw [e,ma]; exact ordC.refl _
   ·exact pt'.lo k (by omega) k2
  ·exact Classical.not_not.1 (pt'.up k (by omega) k2)
 ·have hgt:¬ (i:Int) > j':=of_decide_eq_false hgt
  have hPj:((fun x=>¬ cC p x < 0)) (m.getD j' dC):=t2 ht (by omega)
  obtain ⟨pt2,ma2,sg2⟩:=pt'.swap (by omega) (by omega) (hI (by omega)) hPj
  obtain ⟨x1,y1,p1,a1,b1,g1,r1⟩:=(hs.le l9).get (k:=i) (by omega)
  obtain ⟨x2,y2,p2,a2,b2,g2,r2⟩:=(hs.le l9).get (k:=j') (by omega)
  obtain ⟨s1,s2,s3⟩:=(hs.le l9).swap (i:=i) (j:=j') (by omega) (by omega) r1 r2
  exact ⟨⟨by omega,by omega⟩,x2,y2,p2,a2,b2,g2,⟨by omega,by omega⟩,x1,y1,p1,a1,b1,g1,⟨by omega,by omega⟩,s1,⟨by omega,by omega⟩,s2,(((i + 1:Nat):Int),((j' - 1:Nat):Int),_),by dsimp only; omega,by and_intros <;> first | rfl | exact w2 (by omega),i + 1,j' - 1,_,rfl,rfl,s3,hseg.trans sg2,ma2.trans ma,pt2⟩
theorem c_partition {V:View} {lb n c:Nat} {vs:List Value} {l:List Chg} (hw:V.w.heap[lb]?=some (.cells vs.toArray 261 (0,0))) (hx:V.X lb) (h:SR V n vs l) {a b piv:Nat} (hab:a + 1 < b) (hb:b<=l.length) (hp:a<=piv) (hp':piv < b) :
  Acts prog 251 #[.slice (some ⟨lb,0,none⟩) n c,.int .i64 a,.int .i64 b,.int .i64 piv,.func (.func 176) #[] #[]] V fun r V'=>∃(mid:Nat) (t:Bool),r=.tuple #[.int .i64 mid,.bool t]/\a<=mid/\mid < b/\SPost lb n l a b V' fun l'=>(∀k,a<=k->k < mid->cC (l'.getD k dC) (l'.getD mid dC) < 0)/\(∀k,mid < k->k < b->¬ cC (l'.getD k dC) (l'.getD mid dC) < 0):=by
 have few:=h.few
 have len:=h.len
 have wa:i64.wrap ((a:Int) + 1)=((a + 1:Nat):Int):=by rw [i64w (by omega)]; omega
 have wb:i64.wrap ((b:Int) - 1)=((b - 1:Nat):Int):=by rw [i64w (by omega)]; omega
 refine vc_slices_partitionCmpFunc lb n c vs a b piv V _ hw hx ?_
 rw [wa,wb,Int.toNat_natCast,Int.toNat_natCast]
 obtain ⟨x1,y1,p1,a1,b1,g1,r1⟩:=h.get (k:=a) (by omega)
 obtain ⟨x2,y2,p2,a2,b2,g2,r2⟩:=h.get (k:=piv) (by omega)
 obtain ⟨s1,s2,s3⟩:=h.swap (i:=a) (j:=piv) (by omega) (by omega) r1 r2
 refine ⟨⟨by omega,by omega⟩,x2,y2,p2,a2,b2,g2,⟨by omega,by omega⟩,x1,y1,p1,a1,b1,g1,⟨by omega,by omega⟩,s1,⟨by omega,by omega⟩,s2,?_⟩
 generalize setVals (setVals vs (0 + a * 5) [.int .i64 x2,.int .i64 y2,.pointer p2,.int .i64 a2,.int .i64 b2]) (0 + piv * 5) [.int .i64 x1,.int .i64 y1,.pointer p1,.int .i64 a1,.int .i64 b1]=ws at *
 have m0:=swp_a (l:=l) (a:=a) (piv:=piv) (by omega) (by omega)
 have g0:Seg dC l (swp dC l a piv) a b:=Seg.swp (Nat.le_refl _) (by omega) hp hp' hb
 generalize swp dC l a piv=l0 at *
 generalize hpv:l.getD piv dC=p at *
 have tr0:l0.length=l.length:=g0.len
 clear g1 g2 r1 r2 s1 s2
 have wI:∀i:Nat,i < 100->i64.wrap ((i:Int) + 1)=((i + 1:Nat):Int):=fun i hi=>by rw [i64w (by omega)]; omega
 have hseg:=g0
 have ma:=m0
 have s3:=s3
 generalize l0=m at *
 generalize ws=us at *
 have ml:m.length=l.length:=hseg.len
 refine ⟨fun z V'=>∃i:Nat,z=(i:Int)/\V.Le V'/\PT (fun x=>cC x p < 0) dC m a b i (b - 1),fun z=>(b - z).toNat,⟨((a + 1:Nat):Int),by and_intros <;> rfl,a + 1,rfl,View.Le.refl _,PT.start hab⟩,?_⟩
 rintro _ V2 l2 ⟨i,rfl,-,pt⟩
 have hs:=s3.le l2
 have q1:=pt.hi
 have q2:=pt.hij
 have q3:=pt.hj
 have w1:=wI i (by omega)
 obtain ⟨j,hj1⟩:∃j,j=b - 1:=⟨_,rfl⟩
 rw [← hj1] at pt q2 q3 ⊢
 rw [w1,Int.toNat_natCast]
 refine ⟨rfl,fun z V'=>V2.Le V'/\(z=true->i<=j/\cC (m.getD i dC) p < 0)/\(z=false->i<=j->¬ cC (m.getD i dC) p < 0),⟨fun hj=>?_,fun hj=>⟨false,by and_intros <;> rfl,View.Le.refl _,(fun h=>nomatch h),fun _ h=>absurd h (by have:=of_decide_eq_false hj; omega)⟩⟩,?_⟩
 ·have hj:(i:Int)<=j:=of_decide_eq_true hj
  obtain ⟨x1,y1,p1,a1,b1,g1,r1⟩:=hs.get (k:=i) (by omega)
  obtain ⟨x2,y2,p2,a2,b2,g2,r2⟩:=hs.get (k:=a) (by omega)
  refine ⟨⟨by omega,by omega⟩,x1,y1,p1,a1,b1,g1,⟨by omega,by omega⟩,x2,y2,p2,a2,b2,g2,fun W1 k1=>(c_chg_cmp (r1.le k1) (r2.le k1)).mono ?_⟩
  rintro r W2 k2 rfl
  rw [ma]
  exact ⟨_,rfl,_,by and_intros <;> rfl,k1.trans k2,fun h=>⟨by omega,of_decide_eq_true h⟩,fun h _=>of_decide_eq_false h⟩
 rintro t V5 l5 ⟨-,t1,t2⟩
 refine ⟨rfl,fun ht=>⟨((i + 1:Nat):Int),by have:=(t1 ht).1; dsimp only; omega,by and_intros <;> rfl,i + 1,rfl,l2.trans l5,pt.incr (t1 ht).1 (t1 ht).2⟩,fun ht=>?_⟩
 have hI:i<=j->¬ ((fun x=>cC x p < 0)) (m.getD i dC):=t2 ht
 refine ⟨fun z V'=>∃j':Nat,z=(j':Int)/\j'<=j/\V5.Le V'/\PT (fun x=>cC x p < 0) dC m a b i j',fun z=>z.toNat,⟨(j:Int),by and_intros <;> rfl,j,rfl,Nat.le_refl _,View.Le.refl _,pt⟩,?_⟩
 rintro _ V6 l6 ⟨j',rfl,hjj,-,pt'⟩
 clear t1 t2 q2 q3 pt
 have hI:i<=j'->¬ ((fun x=>cC x p < 0)) (m.getD i dC):=fun h=>hI (by omega)
 replace hs:=hs.le (l5.trans l6)
 have q2:=pt'.hij
 have q3:=pt'.hj
 have w2:1<=j'->i64.wrap ((j':Int) - 1)=((j' - 1:Nat):Int):=fun h1=>by rw [i64w (by omega)]; omega
 rw [Int.toNat_natCast]
 refine ⟨rfl,fun z V'=>V6.Le V'/\(z=true->i<=j'/\¬ cC (m.getD j' dC) p < 0)/\(z=false->i<=j'->¬ ¬ cC (m.getD j' dC) p < 0),⟨fun hj=>?_,fun hj=>⟨false,by and_intros <;> rfl,View.Le.refl _,(fun h=>nomatch h),fun _ h=>absurd h (by have:=of_decide_eq_false hj; omega)⟩⟩,?_⟩
 ·have hj:(i:Int)<=j':=of_decide_eq_true hj
  obtain ⟨x1,y1,p1,a1,b1,g1,r1⟩:=hs.get (k:=j') (by omega)
  obtain ⟨x2,y2,p2,a2,b2,g2,r2⟩:=hs.get (k:=a) (by omega)
  refine ⟨⟨by omega,by omega⟩,x1,y1,p1,a1,b1,g1,⟨by omega,by omega⟩,x2,y2,p2,a2,b2,g2,fun W1 k1=>(c_chg_cmp (r1.le k1) (r2.le k1)).mono ?_⟩
  rintro r W2 k2 rfl
  rw [ma]
  exact ⟨_,rfl,_,by and_intros <;> rfl,k1.trans k2,fun h=>⟨by omega,by simpa using h⟩,fun h _=>by simpa using h⟩
 rintro t V9 l9 ⟨-,t1,t2⟩
 refine ⟨rfl,fun ht=>⟨((j' - 1:Nat):Int),by have:=(t1 ht).1; dsimp only; omega,by have:=(t1 ht).1; and_intros <;> first | rfl | exact w2 (by omega),j' - 1,rfl,by omega,l6.trans l9,pt'.decr (t1 ht).1 (t1 ht).2⟩,fun ht=>⟨fun hgt=>?_,fun hgt=>?_⟩⟩
 ·have hgt:(i:Int) > j':=of_decide_eq_true hgt
  have ptf:PT (fun x=>cC x (m.getD a dC) < 0) dC m a b i j':=by rw [ma]; exact pt'
  obtain ⟨f1,f2,f3,f4,f5⟩:=ptf.fin ordC (by omega) (by omega)
  obtain ⟨x1,y1,p1,a1,b1,g1,r1⟩:=(hs.le l9).get (k:=j') (by omega)
  obtain ⟨x2,y2,p2,a2,b2,g2,r2⟩:=(hs.le l9).get (k:=a) (by omega)
  obtain ⟨s1,s2,s3⟩:=(hs.le l9).swap (i:=j') (j:=a) (by omega) (by omega) r1 r2
  exact ⟨⟨by omega,by omega⟩,x2,y2,p2,a2,b2,g2,⟨by omega,by omega⟩,x1,y1,p1,a1,b1,g1,⟨by omega,by omega⟩,s1,⟨by omega,by omega⟩,s2,fun V10 l10 hw10=>⟨j',_,rfl,f2,f3,_,_,hw10,s3.le l10,hseg.trans f1,f4,f5⟩⟩
 have hgt:¬ (i:Int) > j':=of_decide_eq_false hgt
 have hPj:((fun x=>cC x p < 0)) (m.getD j' dC):=Classical.not_not.1 (t2 ht (by omega))
 obtain ⟨pt2,ma2,sg2⟩:=pt'.swap (by omega) (by omega) (hI (by omega)) hPj
 obtain ⟨x1,y1,p1,a1,b1,g1,r1⟩:=(hs.le l9).get (k:=i) (by omega)
 obtain ⟨x2,y2,p2,a2,b2,g2,r2⟩:=(hs.le l9).get (k:=j') (by omega)
 obtain ⟨s1,s2,s4⟩:=(hs.le l9).swap (i:=i) (j:=j') (by omega) (by omega) r1 r2
 rw [w2 (by omega)]
 refine ⟨⟨by omega,by omega⟩,x2,y2,p2,a2,b2,g2,⟨by omega,by omega⟩,x1,y1,p1,a1,b1,g1,⟨by omega,by omega⟩,s1,⟨by omega,by omega⟩,s2,?_⟩
 generalize setVals (setVals us (0 + i * 5) [.int .i64 x2,.int .i64 y2,.pointer p2,.int .i64 a2,.int .i64 b2]) (0 + j' * 5) [.int .i64 x1,.int .i64 y1,.pointer p1,.int .i64 a1,.int .i64 b1]=ws at *
 have g5:Seg dC l (swp dC m i j') a b:=hseg.trans sg2
 have m5:=ma2.trans ma
 generalize swp dC m i j'=l5' at *
 clear g1 g2 r1 r2 s1 s2 hs t1 t2 hI sg2 ma2 ml s3 hseg ma
 obtain ⟨i',hi'⟩:∃i',i'=i:=⟨_,rfl⟩
 obtain ⟨j'',hj''⟩:∃j'',j''=j':=⟨_,rfl⟩
 rw [← hi',← hj''] at pt2 ⊢
 clear pt' hPj hj1 hi' hj'' hgt q1 q2 q3 w1 w2 hjj
 refine ⟨fun z V'=>∃(i j:Nat) (m:List Chg),z.1=(i:Int)/\z.2.1=(j:Int)/\SR V' n z.2.2 m/\Seg dC l m a b/\m.getD a dC=p/\PT (fun x=>cC x p < 0) dC m a b i j,fun z=>(b - z.1).toNat,⟨(((i' + 1:Nat):Int),((j'' - 1:Nat):Int),ws),by and_intros <;> rfl,i' + 1,j'' - 1,l5',rfl,rfl,s4,g5,m5,pt2⟩,?_⟩
 rintro ⟨z,z',us⟩ V1 l1 ⟨i0,j,m,e,e',hs1,hseg,ma,pt0⟩
 dsimp only at e e' hs1
 subst e e'
 have ml:m.length=l.length:=hseg.len
 refine ⟨rfl,fun z V'=>∃i:Nat,z=((i:Int),(j:Int),us)/\i0<=i/\V1.Le V'/\PT (fun x=>cC x p < 0) dC m a b i j,fun z=>(b - z.1).toNat,⟨((i0:Int),(j:Int),us),by and_intros <;> rfl,i0,rfl,Nat.le_refl _,View.Le.refl _,pt0⟩,?_⟩
 rintro _ V2 l2 ⟨i,rfl,hi0,-,pt⟩
 dsimp only
 have hs:=hs1.le l2
 have q1:=pt.hi
 have q2:=pt.hij
 have q3:=pt.hj
 have w1:i64.wrap ((i:Int) + 1)=((i + 1:Nat):Int):=by rw [i64w (by omega)]; omega
 rw [w1,Int.toNat_natCast]
 refine ⟨rfl,fun z V'=>V2.Le V'/\(z=true->i<=j/\cC (m.getD i dC) p < 0)/\(z=false->i<=j->¬ cC (m.getD i dC) p < 0),⟨fun hj=>?_,fun hj=>⟨false,by and_intros <;> rfl,View.Le.refl _,(fun h=>nomatch h),fun _ h=>absurd h (by have:=of_decide_eq_false hj; omega)⟩⟩,?_⟩
 ·have hj:(i:Int)<=j:=of_decide_eq_true hj
  obtain ⟨x1,y1,p1,a1,b1,g1,r1⟩:=hs.get (k:=i) (by omega)
  obtain ⟨x2,y2,p2,a2,b2,g2,r2⟩:=hs.get (k:=a) (by omega)
  refine ⟨⟨by omega,by omega⟩,x1,y1,p1,a1,b1,g1,⟨by omega,by omega⟩,x2,y2,p2,a2,b2,g2,fun W1 k1=>(c_chg_cmp (r1.le k1) (r2.le k1)).mono ?_⟩
  rintro r W2 k2 rfl
  rw [ma]
  exact ⟨_,rfl,_,by and_intros <;> rfl,k1.trans k2,fun h=>⟨by omega,of_decide_eq_true h⟩,fun h _=>of_decide_eq_false h⟩
 rintro t V5 l5 ⟨-,t1,t2⟩
 refine ⟨rfl,fun ht=>⟨(((i + 1:Nat):Int),(j:Int),us),by have:=(t1 ht).1; dsimp only; omega,by and_intros <;> rfl,i + 1,rfl,by omega,l2.trans l5,pt.incr (t1 ht).1 (t1 ht).2⟩,fun ht=>?_⟩
 have hI:i<=j->¬ ((fun x=>cC x p < 0)) (m.getD i dC):=t2 ht
 refine ⟨fun z V'=>∃j':Nat,z=(j':Int)/\j'<=j/\V5.Le V'/\PT (fun x=>cC x p < 0) dC m a b i j',fun z=>z.toNat,⟨(j:Int),by and_intros <;> rfl,j,rfl,Nat.le_refl _,View.Le.refl _,pt⟩,?_⟩
 rintro _ V6 l6 ⟨j',rfl,hjj,-,pt'⟩
 clear t1 t2 q2 q3 pt
 have hI:i<=j'->¬ ((fun x=>cC x p < 0)) (m.getD i dC):=fun h=>hI (by omega)
 replace hs:=hs.le (l5.trans l6)
 have q2:=pt'.hij
 have q3:=pt'.hj
 have w2:1<=j'->i64.wrap ((j':Int) - 1)=((j' - 1:Nat):Int):=fun h1=>by rw [i64w (by omega)]; omega
 rw [Int.toNat_natCast]
 refine ⟨rfl,fun z V'=>V6.Le V'/\(z=true->i<=j'/\¬ cC (m.getD j' dC) p < 0)/\(z=false->i<=j'->¬ ¬ cC (m.getD j' dC) p < 0),⟨fun hj=>?_,fun hj=>⟨false,by and_intros <;> rfl,View.Le.refl _,(fun h=>nomatch h),fun _ h=>absurd h (by have:=of_decide_eq_false hj; omega)⟩⟩,?_⟩
 ·have hj:(i:Int)<=j':=of_decide_eq_true hj
  obtain ⟨x1,y1,p1,a1,b1,g1,r1⟩:=hs.get (k:=j') (by omega)
  obtain ⟨x2,y2,p2,a2,b2,g2,r2⟩:=hs.get (k:=a) (by omega)
  refine ⟨⟨by omega,by omega⟩,x1,y1,p1,a1,b1,g1,⟨by omega,by omega⟩,x2,y2,p2,a2,b2,g2,fun W1 k1=>(c_chg_cmp (r1.le k1) (r2.le k1)).mono ?_⟩
  rintro r W2 k2 rfl
  rw [ma]
  exact ⟨_,rfl,_,by and_intros <;> rfl,k1.trans k2,fun h=>⟨by omega,by simpa using h⟩,fun h _=>by simpa using h⟩
 rintro t V9 l9 ⟨-,t1,t2⟩
 refine ⟨rfl,fun ht=>⟨((j' - 1:Nat):Int),by have:=(t1 ht).1; dsimp only; omega,by have:=(t1 ht).1; and_intros <;> first | rfl | exact w2 (by omega),j' - 1,rfl,by omega,l6.trans l9,pt'.decr (t1 ht).1 (t1 ht).2⟩,fun ht=>⟨fun hgt=>?_,fun hgt=>?_⟩⟩
 ·have hgt:(i:Int) > j':=of_decide_eq_true hgt
  have ptf:PT (fun x=>cC x (m.getD a dC) < 0) dC m a b i j':=by rw [ma]; exact pt'
  obtain ⟨f1,f2,f3,f4,f5⟩:=ptf.fin ordC (by omega) (by omega)
  obtain ⟨x1,y1,p1,a1,b1,g1,r1⟩:=(hs.le l9).get (k:=j') (by omega)
  obtain ⟨x2,y2,p2,a2,b2,g2,r2⟩:=(hs.le l9).get (k:=a) (by omega)
  obtain ⟨s1,s2,s3⟩:=(hs.le l9).swap (i:=j') (j:=a) (by omega) (by omega) r1 r2
  exact ⟨⟨by omega,by omega⟩,x2,y2,p2,a2,b2,g2,⟨by omega,by omega⟩,x1,y1,p1,a1,b1,g1,⟨by omega,by omega⟩,s1,⟨by omega,by omega⟩,s2,fun V10 l10 hw10=>⟨j',_,rfl,f2,f3,_,_,hw10,s3.le l10,hseg.trans f1,f4,f5⟩⟩
 ·have hgt:¬ (i:Int) > j':=of_decide_eq_false hgt
  have hPj:((fun x=>cC x p < 0)) (m.getD j' dC):=Classical.not_not.1 (t2 ht (by omega))
  obtain ⟨pt2,ma2,sg2⟩:=pt'.swap (by omega) (by omega) (hI (by omega)) hPj
  obtain ⟨x1,y1,p1,a1,b1,g1,r1⟩:=(hs.le l9).get (k:=i) (by omega)
  obtain ⟨x2,y2,p2,a2,b2,g2,r2⟩:=(hs.le l9).get (k:=j') (by omega)
  obtain ⟨s1,s2,s3⟩:=(hs.le l9).swap (i:=i) (j:=j') (by omega) (by omega) r1 r2
  exact ⟨⟨by omega,by omega⟩,x2,y2,p2,a2,b2,g2,⟨by omega,by omega⟩,x1,y1,p1,a1,b1,g1,⟨by omega,by omega⟩,s1,⟨by omega,by omega⟩,s2,(((i + 1:Nat):Int),((j' - 1:Nat):Int),_),by dsimp only; omega,by and_intros <;> first | rfl | exact w2 (by omega),i + 1,j' - 1,_,rfl,rfl,s3,hseg.trans sg2,ma2.trans ma,pt2⟩
end Go.Proofs.Tryz
/- Sorting changes: quicksort, SortFunc. -/
namespace Go.Proofs.Tryz
open Go.Eng Go.Big
theorem c_pdqsort:∀(N:Nat) {V:View} {lb n c:Nat} {vs:List Value} {l:List Chg} (_:V.w.heap[lb]?=some (.cells vs.toArray 261 (0,0))) (_:V.X lb) (_:SR V n vs l) {a b:Nat} {lim:Int} (_:a<=b) (_:b<=l.length) (_:b - a<=N) (_:0<=lim) (_:lim<=100)
  (_:0 < a->∀k,a<=k->k < b->¬ cC (l.getD k dC) (l.getD (a - 1) dC) < 0),
  Acts prog 222 #[.slice (some ⟨lb,0,none⟩) n c,.int .i64 a,.int .i64 b,.int .i64 lim,.func (.func 176) #[] #[]] V fun r V'=>r=.tuple #[]/\SPost lb n l a b V' fun l'=>Asc cC dC l' a b:=by
 intro N
 induction N using Nat.strongRecOn with
 | ind N ih=>
 intro V lb n c vs l hw hx h a b lim hab hb hN lm0 lm1 hpre
 have few:=h.few
 have len:=h.len
 refine vc_slices_pdqsortCmpFunc lb n c vs a b lim V _ hw hx ⟨fun z V'=>∃(a' b':Nat) (m:List Chg),z.1=(a':Int)/\z.2.1=(b':Int)/\0<=z.2.2.1/\z.2.2.1<=100/\SR V' n z.2.2.2.2.2 m/\PQ cC dC l m a b a' b',fun z=>(z.2.1 - z.1).toNat,
  ⟨((a:Int),(b:Int),lim,true,true,vs),by and_intros <;> rfl,a,b,l,rfl,rfl,lm0,lm1,h,PQ.start hab hpre⟩,?_⟩
 rintro ⟨z1,z2,lim,wb,wp,us⟩ V1 l1 ⟨a',b',m,e1,e2,lm0,lm1,hs,pq⟩
 dsimp only at e1 e2 lm0 lm1 hs
 subst e1 e2
 dsimp only
 have q1:=pq.ha
 have q2:=pq.hab
 have q3:=pq.hb
 have ml:m.length=l.length:=pq.seg.len
 have w0:i64.wrap ((b':Int) - a')=((b' - a':Nat):Int):=by rw [i64w (by omega)]; omega
 rw [w0]
 refine ⟨rfl,fun _ V2 l2 bk e2 h2=>(c_insertionSort (V:=V2.lend [bk]) e2 ⟨by simp,h2⟩ (hs.le l2) q2 (by omega)).mono ?_,fun h12=>⟨fun _ V5 l5 bk e5 h5=>(c_heapSort (V:=V5.lend [bk]) e5 ⟨by simp,h5⟩ (hs.le l5) (a:=a') (b:=b') (by have:=of_decide_eq_false h12; omega) (by omega)).mono ?_,fun hl0=>?_⟩⟩
 ·rintro r V3 l3 ⟨rfl,ws,m',e3,hs3,sg3,as3⟩
  obtain ⟨f1,f2⟩:=pq.fin sg3 as3
  exact ⟨rfl,ws,e3,fun V4 l4 hw4=>⟨rfl,ws,m',hw4,hs3.le fun b o h=>l4 b o h,f1,f2⟩⟩
 ·rintro r V6 l6 ⟨rfl,ws,m',e6,hs6,sg6,as6⟩
  obtain ⟨f1,f2⟩:=pq.fin sg6 as6
  exact ⟨rfl,ws,e6,fun V7 l7 hw7=>⟨rfl,ws,m',hw7,hs6.le fun b o h=>l7 b o h,f1,f2⟩⟩
 have h12:12 < b' - a':=by have:=of_decide_eq_false h12; omega
 have hl0:¬ lim=0:=by simpa using hl0
 refine ⟨fun z V'=>∃m2:List Chg,0<=z.1/\z.1<=100/\SR V' n z.2 m2/\PQ cC dC l m2 a b a' b',⟨fun _ V8 l8 bk e8 h8=>(c_breakPatterns (V:=V8.lend [bk]) e8 ⟨by simp,h8⟩ (hs.le l8) (a:=a') (b:=b') (by omega) (by omega)).mono ?_,fun _=>⟨(lim,us),by and_intros <;> rfl,m,lm0,lm1,hs,pq⟩⟩,?_⟩
 ·rintro r V9 l9 ⟨rfl,ws,m',e9,hs9,sg9,-⟩
  exact ⟨rfl,ws,e9,(lim - 1,ws),by and_intros <;> first | rfl | exact i64w (by omega),m',by dsimp only; omega,by dsimp only; omega,hs9.le (le_shut' _),pq.change sg9⟩
 clear hs pq ml l1
 rintro ⟨lim2,us⟩ V10 l10 ⟨m,lm0',lm1',hs,pq⟩
 dsimp only at lm0' lm1' hs
 dsimp only
 have ml:m.length=l.length:=pq.seg.len
 refine ⟨rfl,fun V11 l11 bk e11 h11=>(c_choosePivot (V:=V11.lend [bk]) e11 ⟨by simp,h11⟩ (hs.le l11) (a:=a') (b:=b') (by omega) (by omega)).mono ?_⟩
 rintro r V12 l12 ⟨x,t,rfl,x0,x1,e12⟩
 have hs12:SR V12.shut n us m:=hs.le fun b o h=>l12 b o (l11 b o h)
 refine ⟨_,_,rfl,us,e12,fun z V'=>∃(p:Nat) (m2:List Chg),z.1=(p:Int)/\a'<=p/\p < b'/\SR V' n z.2.2 m2/\PQ cC dC l m2 a b a' b',⟨fun _ V13 l13 bk e13 h13=>(c_reverseRange (V:=V13.lend [bk]) e13 ⟨by simp,h13⟩ (hs12.le l13) (a:=a') (b:=b') (by omega) (by omega)).mono ?_,fun _=>⟨((x:Int),t,us),by and_intros <;> rfl,x,m,rfl,x0,x1,hs12,pq⟩⟩,?_⟩
 ·rintro r V14 l14 ⟨rfl,ws,m',e14,hs14,sg14,-⟩
  have v1:i64.wrap ((b':Int) - 1)=((b' - 1:Nat):Int):=by rw [i64w (by omega)]; omega
  have v2:i64.wrap ((x:Int) - a')=((x - a':Nat):Int):=by rw [i64w (by omega)]; omega
  have v3:i64.wrap (((b' - 1:Nat):Int) - ((x - a':Nat):Int))=((b' - 1 - (x - a'):Nat):Int):=by rw [i64w (by omega)]; omega
  rw [v1,v2,v3]
  exact ⟨rfl,ws,e14,(((b' - 1 - (x - a'):Nat):Int),1,ws),by and_intros <;> rfl,b' - 1 - (x - a'),m',rfl,by omega,by omega,hs14.le (le_shut' _),pq.change sg14⟩
 clear hs pq ml hs12 e12 l12 l11 l10
 rintro ⟨pz,t,us⟩ V15 l15 ⟨p,m,e,p0,p1,hs,pq⟩
 dsimp only at e hs
 subst e
 dsimp only
 have ml:m.length=l.length:=pq.seg.len
 refine ⟨rfl,fun _ V'=>V15.Le V',⟨fun _=>⟨fun _=>⟨_,by and_intros <;> rfl,View.Le.refl _⟩,fun _=>⟨_,by and_intros <;> rfl,View.Le.refl _⟩⟩,fun _=>⟨_,by and_intros <;> rfl,View.Le.refl _⟩⟩,?_⟩
 rintro t2 V16 l16 -
 refine ⟨rfl,fun z V'=>z=us/\SR V' n us m,⟨fun _ V17 l17 bk e17 h17=>(c_partialInsertion (V:=V17.lend [bk]) e17 ⟨by simp,h17⟩ (hs.le (l16.trans l17)) (a:=a') (b:=b') (by omega) (by omega)).mono ?_,fun _=>⟨us,by and_intros <;> rfl,rfl,hs.le l16⟩⟩,?_⟩
 ·rintro r V18 l18 ⟨t3,rfl,hs18,e18,as18⟩
  refine ⟨_,rfl,us,e18,fun ht V19 l19 hw19=>?_,fun _=>⟨us,by and_intros <;> rfl,rfl,hs18.le (le_shut' _)⟩⟩
  obtain ⟨f1,f2⟩:=pq.fin (.refl _ _ _) (as18 ht)
  exact ⟨rfl,us,m,hw19,hs18.le fun b o h=>l19 b o h,f1,f2⟩
 rintro z V20 l20 ⟨rfl,hs20⟩
 refine ⟨rfl,fun z V'=>V20.Le V'/\(z=true->0 < a'/\¬ cC (m.getD (a' - 1) dC) (m.getD p dC) < 0),⟨fun h0=>?_,fun _=>⟨false,by and_intros <;> rfl,View.Le.refl _,(fun h=>nomatch h)⟩⟩,?_⟩
 ·have h0:(a':Int) > 0:=of_decide_eq_true h0
  have v1:i64.wrap ((a':Int) - 1)=((a' - 1:Nat):Int):=by rw [i64w (by omega)]; omega
  rw [v1,Int.toNat_natCast,Int.toNat_natCast]
  obtain ⟨x1,y1,p1,a1,b1,g1,r1⟩:=hs20.get (k:=a' - 1) (by omega)
  obtain ⟨x2,y2,p2,a2,b2,g2,r2⟩:=hs20.get (k:=p) (by omega)
  refine ⟨⟨by omega,by omega⟩,x1,y1,p1,a1,b1,g1,⟨by omega,by omega⟩,x2,y2,p2,a2,b2,g2,fun V21 l21=>(c_chg_cmp (r1.le l21) (r2.le l21)).mono ?_⟩
  rintro r V22 l22 rfl
  exact ⟨_,rfl,_,by and_intros <;> rfl,l21.trans l22,fun h=>⟨by omega,by simpa using h⟩⟩
 rintro t4 V23 l23 ⟨-,ht4⟩
 refine ⟨rfl,fun ht V24 l24 bk e24 h24=>(c_partitionEqual (V:=V24.lend [bk]) e24 ⟨by simp,h24⟩ (hs20.le fun b o h=>l24 b o (l23 b o h)) (a:=a') (b:=b') (piv:=p) (by omega) (by omega) p0 p1).mono ?_,fun ht V26 l26 bk e26 h26=>(c_partition (V:=V26.lend [bk]) e26 ⟨by simp,h26⟩ (hs20.le fun b o h=>l26 b o (l23 b o h)) (a:=a') (b:=b') (piv:=p) (by omega) (by omega) p0 p1).mono ?_⟩
 ·rintro r V25 l25 ⟨mid,rfl,m0,m1,ws,m',e25,hs25,sg25,f1,f2⟩
  obtain ⟨g0,g1⟩:=ht4 ht
  exact ⟨_,rfl,ws,e25,((mid:Int),(b':Int),lim2,wb,wp,ws),by dsimp only; omega,by and_intros <;> rfl,mid,b',m',rfl,rfl,lm0',lm1',hs25.le (le_shut' _),pq.equ ordC g0 m0 m1 g1 sg25 f1 f2⟩
 ·rintro r V27 l27 ⟨mid,t5,rfl,m0,m1,ws,m',e27,hs27,sg27,f1,f2⟩
  have pq':=pq.change sg27
  have ml':m'.length=l.length:=pq'.seg.len
  have v1:i64.wrap ((mid:Int) - a')=((mid - a':Nat):Int):=by rw [i64w (by omega)]; omega
  have v2:i64.wrap ((b':Int) - mid)=((b' - mid:Nat):Int):=by rw [i64w (by omega)]; omega
  have v3:i64.wrap ((mid:Int) + 1)=((mid + 1:Nat):Int):=by rw [i64w (by omega)]; omega
  refine ⟨_,_,rfl,ws,e27,by decide,?_⟩
  rw [v1,v2,v3]
  refine ⟨fun _ V28 l28 bk e28 h28=>(ih (mid - a') (by omega) (V:=V28.lend [bk]) e28 ⟨by simp,h28⟩ (hs27.le fun b o h=>l28 b o h) (a:=a') (b:=mid) m0 (by omega) (Nat.le_refl _) lm0' lm1' (fun h0 k k1 k2=>pq'.pre h0 k k1 (by omega))).mono ?_,fun _ V30 l30 bk e30 h30=>(ih (b' - (mid + 1)) (by omega) (V:=V30.lend [bk]) e30 ⟨by simp,h30⟩ (hs27.le fun b o h=>l30 b o h) (a:=mid + 1) (b:=b') (by omega) (by omega) (Nat.le_refl _) lm0' lm1' (fun _ k k1 k2=>f2 k (by omega) k2)).mono ?_⟩
  ·rintro r V29 l29 ⟨rfl,us',m2,e29,hs29,sg29,as29⟩
   exact ⟨rfl,us',e29,(((mid + 1:Nat):Int),(b':Int),lim2,_,t5,us'),by dsimp only; omega,by and_intros <;> rfl,mid + 1,b',m2,rfl,rfl,lm0',lm1',hs29.le (le_shut' _),pq'.left ordC m0 m1 f1 f2 sg29 as29⟩
  ·rintro r V31 l31 ⟨rfl,us',m2,e31,hs31,sg31,as31⟩
   exact ⟨rfl,us',e31,((a':Int),(mid:Int),lim2,_,t5,us'),by dsimp only; omega,by and_intros <;> rfl,a',mid,m2,rfl,rfl,lm0',lm1',hs31.le (le_shut' _),pq'.right ordC m0 m1 f1 f2 sg31 as31⟩
theorem c_SortFunc {V:View} {lb n c:Nat} {vs:List Value} {l:List Chg} (hw:V.w.heap[lb]?=some (.cells vs.toArray 261 (0,0))) (hx:V.X lb) (h:SR V n vs l) :
  Acts prog 175 #[.slice (some ⟨lb,0,none⟩) n c,.func (.func 176) #[] #[]] V fun r V'=>r=.tuple #[]/\∃vs' l',V'.w.heap[lb]?=some (.cells vs'.toArray 261 (0,0))/\SR V' n vs' l'/\l'.Perm l/\l'.Pairwise fun x y=>x.1<=y.1:=by
 have few:=h.few
 have len:=h.len
 have w:u64.wrap (n:Int)=n:=u64w (by omega)
 refine vc_slices_SortFunc lb n c vs V _ hw hx ?_
 rw [w]
 refine fun V1 l1=>(c_bits_Len n (by omega)).mono ?_
 rintro r V2 l2 rfl
 have hbl:blen n<=8:=blen_le.2 (by omega)
 refine ⟨_,rfl,fun V3 l3 bk e3 h3=>(c_pdqsort n (V:=V3.lend [bk]) e3 ⟨by simp,h3⟩ (h.le fun b o h=>l3 b o (l2 b o (l1 b o h))) (a:=0) (b:=n) (lim:=(blen n:Int)) (by omega) (by omega) (by omega) (by omega) (by omega) (fun h=>absurd h (by omega))).mono ?_⟩
 rintro r V4 l4 ⟨rfl,vs',l',e4,hs4,sg,asc⟩
 refine ⟨rfl,vs',e4,fun V5 l5 hw5=>⟨rfl,vs',l',hw5,hs4.le fun b o h=>l5 b o h,sg.perm,?_⟩⟩
 have sl:=sg.len
 refine List.pairwise_iff_getElem.2 fun i j hi hj hij=>?_
 have:=asc i j (by omega) hij (by omega)
 rw [List.getD_eq_getElem?_getD,List.getD_eq_getElem?_getD,List.getElem?_eq_getElem hi,List.getElem?_eq_getElem hj] at this
 simp only [Option.getD_some] at this
 unfold cC at this
 rcases cmpQ_or l'[j].1 l'[i].1 with ⟨h1,e⟩ | ⟨h1,e⟩ | ⟨h1,e⟩ <;> rw [e] at this <;> grind
/-- Nothing to sort. -/
theorem c_SortFunc_nil {V:View}:Acts prog 175 #[.slice none 0 0,.func (.func 176) #[] #[]] V fun r V'=>r=.tuple #[]:=by
 have ins:∀{W:View},Acts prog 244 #[.slice none 0 0,.int .i64 0,.int .i64 0,.func (.func 176) #[] #[]] W fun r V'=>r=.tuple #[]:=by
  intro W
  refine vc_slices_insertionSortCmpFunc_nil 0 0 W _ ⟨fun z _=>z=1,fun _=>0,⟨1,by and_intros <;> first | rfl | exact i64w (by omega),rfl⟩,?_⟩
  rintro z V1 l1 rfl
  exact ⟨rfl,fun h=>absurd (of_decide_eq_true h) (by omega),fun _ V2 l2=>rfl⟩
 refine vc_slices_SortFunc_nil V _ fun V1 l1=>(c_bits_Len 0 (by omega)).mono ?_
 rintro r V2 l2 rfl
 refine ⟨_,rfl,fun V3 l3=>?_⟩
 have pdq:Acts prog 222 #[.slice none 0 0,.int .i64 0,.int .i64 0,.int .i64 (blen 0:Int),.func (.func 176) #[] #[]] V3 fun r V'=>r=.tuple #[]:=by
  refine vc_slices_pdqsortCmpFunc_nil 0 0 _ V3 _ ⟨fun z _=>z.1=0/\z.2.1=0,fun _=>0,⟨(0,0,_,true,true),by and_intros <;> rfl,rfl,rfl⟩,?_⟩
  rintro ⟨z1,z2,z3,z4,z5⟩ V4 l4 ⟨e1,e2⟩
  dsimp only at e1 e2
  subst e1 e2
  dsimp only
  refine ⟨rfl,fun _ V5 l5=>ins.mono ?_,fun h=>absurd (of_decide_eq_false h) (by decide)⟩
  rintro r V6 l6 rfl
  exact ⟨rfl,fun V7 l7=>rfl⟩
 refine pdq.mono ?_
 rintro r V6 l6 rfl
 exact ⟨rfl,fun V7 l7=>rfl⟩
end Go.Proofs.Tryz
/- Plain: the algebra of regular sets of spans; how many ends they have. -/
namespace Go.Proofs.Tryz
open Go.Eng Go.Big
/-- The ends that exist. -/
def endsN (l:List Sp):List Rat:=l.flatMap fun s=>s.los++s.his
def fe (l:List Sp):Nat:=(endsN l).length
theorem fe_cons {s:Sp} {r:List Sp}:fe (s :: r)=(s.los++s.his).length + fe r:=by unfold fe endsN; rw [List.flatMap_cons,List.length_append]
theorem fe_app {a b:List Sp}:fe (a++b)=fe a + fe b:=by unfold fe endsN; rw [List.flatMap_append,List.length_append]
theorem chg_len {A B:List Sp}:(chgL A B).length=fe A + fe B:=by
 have one:∀(k:Int) (l:List Sp),(l.flatMap (chg1 k)).length=fe l:=fun k l=>by
  induction l with
  | nil=>rfl
  | cons s r ih=>
   rw [List.flatMap_cons,List.length_append,fe_cons,ih]
   unfold chg1 Sp.los Sp.his
   cases s.a <;> cases s.b <;> simp
 unfold chgL
 rw [List.length_append,one,one]
theorem fe_le:∀(l:List Sp),fe l<=2 * l.length
 | []=>by simp [fe,endsN]
 | s :: r=>by
  have:=fe_le r
  have h:(s.los++s.his).length<=2:=by unfold Sp.los Sp.his; cases s.a <;> cases s.b <;> simp
  rw [fe_cons,List.length_cons]; omega
theorem ends_fold_len:∀(ss:List Sp) (o:List Rat),(ss.foldl (fun o s=>stepE s o 2) o).length<=o.length + fe ss
 | [],o=>by simp [fe,endsN]
 | s :: r,o=>by
  have ih:=ends_fold_len r (stepE s o 2)
  have:(stepE s o 2).length<=o.length + (s.los++s.his).length:=by
   have h1:=@insQ_len s.lo o
   have h2:=@insQ_len s.hi o
   have h3:=@insQ_len s.hi (insQ s.lo o)
   show (if s.b=true then (if s.a=true then o else insQ s.lo o) else insQ s.hi (if s.a=true then o else insQ s.lo o)).length<=_
   unfold Sp.los Sp.his
   cases s.a <;> cases s.b <;> simp <;> omega
  rw [List.foldl_cons,fe_cons]; omega
theorem ends_len (ss:List Sp):(endsL ss).length<=fe ss:=by have:=ends_fold_len ss []; simpa [endsL] using this
/-- The ends of a regular set ascend. -/
theorem reg_asc:∀{l:List Sp},reg l->asc (endsN l)
 | [],_=>List.Pairwise.nil
 | s :: r,h=>by
  unfold asc endsN
  rw [List.flatMap_cons]
  refine List.pairwise_append.2 ⟨?_,reg_asc h.tail,fun x hx y hy=>?_⟩
  ·refine List.pairwise_append.2 ⟨by unfold Sp.los; cases s.a <;> simp,by unfold Sp.his; cases s.b <;> simp,fun x hx y hy=>?_⟩
   obtain ⟨ha,rfl⟩:=los_mem hx
   obtain ⟨hb,rfl⟩:=his_mem hy
   exact lo_hi (h.1 s (by simp)).2 ha hb
  ·obtain ⟨z,hz,hy⟩:=List.mem_flatMap.1 hy
   obtain ⟨b1,b2,b3⟩:=h.bef hz
   have h1:x<=s.hi:=by
    rcases List.mem_append.1 hx with hx | hx
    ·obtain ⟨ha,rfl⟩:=los_mem hx
     have:=lo_hi (h.1 s (by simp)).2 ha b1
     grind
    ·obtain ⟨hb,rfl⟩:=his_mem hx; grind
   have h2:z.lo<=y:=by
    rcases List.mem_append.1 hy with hy | hy
    ·obtain ⟨ha,rfl⟩:=los_mem hy; grind
    ·obtain ⟨hb,rfl⟩:=his_mem hy
     have:=lo_hi (h.1 z (by simp [hz])).2 b2 hb
     grind
   grind
theorem asc_len:∀{ys xs:List Rat},asc xs->asc ys->(∀x ∈ xs,x ∈ ys)->xs.length<=ys.length
 | [],xs,_,_,h=>by
  cases xs with
  | nil=>simp
  | cons x r=>exact absurd (h x (by simp)) (by simp)
 | y :: r,[],_,_,_=>by simp
 | y :: r,x :: s,hx,hy,h=>by
  obtain ⟨x1,x2⟩:=List.pairwise_cons.1 hx
  obtain ⟨y1,y2⟩:=List.pairwise_cons.1 hy
  by_cases e:x=y
  ·have:=asc_len (xs:=s) x2 y2 fun z hz=>by
    rcases List.mem_cons.1 (h z (by simp [hz])) with h' | h'
    ·have:=x1 z hz; grind
    ·exact h'
   simp only [List.length_cons]; omega
  ·have hxr:x ∈ r:=by
    rcases List.mem_cons.1 (h x (by simp)) with h' | h'
    ·exact absurd h' e
    ·exact h'
   have:=asc_len (xs:=x :: s) hx y2 fun z hz=>by
    rcases List.mem_cons.1 (h z hz) with h' | h'
    ·have g1:=y1 x hxr
     rcases List.mem_cons.1 hz with rfl | hz
     ·exact hxr
     ·have:=x1 z hz; grind
    ·exact h'
   simp only [List.length_cons] at this ⊢; omega
theorem gap_ends {c:List Rat} {i:Nat} (hi:i<=c.length):((gapS c i).a=false->(gapS c i).lo ∈ c)/\((gapS c i).b=false->(gapS c i).hi ∈ c):=by
 unfold gapS
 refine ⟨fun h=>?_,fun h=>?_⟩
 ·have h:¬ i=0:=of_decide_eq_false h
  dsimp only
  rw [if_pos (by omega),getD_at (by omega)]
  exact List.getElem_mem _
 ·have h:¬ i=c.length:=of_decide_eq_false h
  dsimp only
  rw [if_pos (by omega),getD_at (by omega)]
  exact List.getElem_mem _
theorem from_ends {c:List Rat} {ms:List Bool}:∀(i:Nat),i<=c.length + 1->∀s ∈ fromI c ms i,(s.a=false->s.lo ∈ c)/\(s.b=false->s.hi ∈ c)
 | 0,_,s,h=>by cases h
 | i + 1,hi,s,h=>by
  have ih:=from_ends (c:=c) (ms:=ms) i (by omega)
  have g:=gap_ends (c:=c) (i:=i) (by omega)
  unfold fromI at h
  split at h
  ·split at h
   ·rename_i h2
    unfold lastHi at h
    rcases List.mem_append.1 h with h | h
    ·exact ih s (List.dropLast_subset _ h)
    ·obtain rfl:=List.mem_singleton.1 h
     refine ⟨fun ha=>?_,fun hb=>g.2 hb⟩
     have hne:fromI c ms i≠[]:=fun e=>by rw [e] at h2; simp at h2
     have hl:(fromI c ms i).getLastD Sp.zero=(fromI c ms i).getLast hne:=by rw [List.getLastD_eq_getLast?,List.getLast?_eq_some_getLast hne]; rfl
     dsimp only at ha ⊢
     rw [hl] at ha ⊢
     exact (ih _ (List.getLast_mem hne)).1 ha
   ·rcases List.mem_append.1 h with h | h
    ·exact ih s h
    ·obtain rfl:=List.mem_singleton.1 h
     exact g
  ·exact ih s h
theorem comb_ends {op:Int} {a b:List Sp}:∀s ∈ combL op a b,(s.a=false->s.lo ∈ endsL (a++b))/\(s.b=false->s.hi ∈ endsL (a++b)):=by
 intro s hs
 unfold combL fromL at hs
 exact from_ends _ (by rw [marks_len]; omega) s hs
theorem comb_fe (op:Int) (a b:List Sp):fe (combL op a b)<=fe a + fe b:=by
 have h:=asc_len (reg_asc (comb_reg op a b)) (ends_asc (a++b)) fun x hx=>by
  obtain ⟨s,hs,hx⟩:=List.mem_flatMap.1 hx
  rcases List.mem_append.1 hx with hx | hx
  ·obtain ⟨ha,rfl⟩:=los_mem hx; exact (comb_ends s hs).1 ha
  ·obtain ⟨hb,rfl⟩:=his_mem hx; exact (comb_ends s hs).2 hb
 have:=ends_len (a++b)
 rw [fe_app] at this
 unfold fe at *
 omega
theorem szz (k:Nat) (hk:0 < k):Sz k (0:Rat):=⟨by show (0:Int).natAbs < _; exact Nat.lt_of_lt_of_le (by decide) (Nat.one_le_two_pow),Nat.one_lt_two_pow (by omega)⟩
theorem comb_sz {op:Int} {a b:List Sp} {k:Nat} (hk:1<=k) (ha:∀s ∈ a,s.sz k) (hb:∀s ∈ b,s.sz k):∀s ∈ combL op a b,s.sz k:=by
 intro s hs
 have hg:=(comb_reg op a b).1 s hs
 have he:∀q ∈ endsL (a++b),Sz k q:=fun q hq=>by
  obtain ⟨x,hx,h⟩:=endsL_mem hq
  have:x.sz k:=by
   rcases List.mem_append.1 hx with hx | hx
   ·exact ha x hx
   ·exact hb x hx
  rcases h with rfl | rfl
  ·exact this.1
  ·exact this.2
 obtain ⟨h1,h2⟩:=comb_ends s hs
 constructor
 ·cases e:s.a
  ·exact he _ (h1 e)
  ·rw [hg.1.1 e]; exact szz k hk
 ·cases e:s.b
  ·exact he _ (h2 e)
  ·rw [hg.1.2 e]; exact szz k hk
theorem comb_len (op:Int) (a b:List Sp):(combL op a b).length<=fe a + fe b + 1:=by
 have h:=fromI_len (endsL (a++b)) (marksL op a b (endsL (a++b))) (marksL op a b (endsL (a++b))).length
 have h1:=ends_len (a++b)
 rw [fe_app] at h1
 rw [marks_len] at h
 unfold combL fromL
 rw [marks_len]
 omega
/-! the laws -/
def int (a b:List Sp):List Sp:=combL 2 a b
end Go.Proofs.Tryz
/- By program: the conditions of the functions, from their loaded code. -/
namespace Go.Proofs.Tryz
open Go.Eng
set_option maxRecDepth 100000
end Go.Proofs.Tryz
/- Trees of package bsp in memory; contracts: Leaf, IsLeaf, New, reader.part, Of. -/
namespace Go.Proofs.Tryz
open Go.Eng Go.Big
/-- A tree of package bsp. -/
def RT (V:View):OA->Tr->Prop
 | p,.leaf i=>∃(b:Nat) (c0 c1 c2 c3 c4 c5 c6 c7 c8:Value) (r:OA),p=some ⟨b,0,none⟩/\V.blk b (.cells #[c0,c1,c2,c3,c4,c5,c6,c7,c8,.pointer none,.pointer r,.bool i] 184 (0,0))
 | p,.node l x y=>∃(b:Nat) (x1 x2:Int) (x3:OA) (y1 y2:Int) (y3:OA) (z1 z2:Int) (z3:OA) (pl pr:OA) (i:Bool),p=some ⟨b,0,none⟩ /\
   V.blk b (.cells #[.int .i64 x1,.int .i64 x2,.pointer x3,.int .i64 y1,.int .i64 y2,.pointer y3,.int .i64 z1,.int .i64 z2,.pointer z3,.pointer pl,.pointer pr,.bool i] 184 (0,0)) /\
   RLn V (.agg #[.int .i64 x1,.int .i64 x2,.pointer x3,.int .i64 y1,.int .i64 y2,.pointer y3,.int .i64 z1,.int .i64 z2,.pointer z3]) l.1 l.2.1 l.2.2/\RT V pl x/\RT V pr y
theorem RT.le {V V':View} (h:V.Le V'):∀{t:Tr} {p:OA},RT V p t->RT V' p t
 | .leaf i,p,⟨b,c0,c1,c2,c3,c4,c5,c6,c7,c8,r,e,hb⟩=>⟨b,c0,c1,c2,c3,c4,c5,c6,c7,c8,r,e,h _ _ hb⟩
 | .node l x y,p,⟨b,x1,x2,x3,y1,y2,y3,z1,z2,z3,pl,pr,i,e,hb,hl,hx,hy⟩=>⟨b,x1,x2,x3,y1,y2,y3,z1,z2,z3,pl,pr,i,e,h _ _ hb,hl.le h,RT.le h hx,RT.le h hy⟩
/-! nodes -/
/-- Rows of eight cells that hold nodes. -/
def NR (V:View) (vs:List Value) (l:List Nd):Prop:=∀(i:Nat) (d:Nd),l[i]?=some d->∃(b1:Bool) (p1:OA) (n1 c1:Nat) (b2:Bool) (p2:OA) (n2 c2:Nat) (b3:Bool) (p3:OA) (n3 c3:Nat),
 (∀j v,([.bool b1,.slice p1 n1 c1,.bool b2,.slice p2 n2 c2,.bool b3,.slice p3 n3 c3,.int .i64 d.left,.int .i64 d.right]:List Value)[j]?=some v->vs[i * 8 + j]?=some v) /\
 RL V (.agg #[.bool b1,.slice p1 n1 c1,.bool b2,.slice p2 n2 c2,.bool b3,.slice p3 n3 c3]) d.ln.1 d.ln.2.1 d.ln.2.2
theorem NR.le {V V':View} {vs:List Value} {l:List Nd} (h:NR V vs l) (hl:V.Le V'):NR V' vs l:=fun i d hd=>by
 obtain ⟨b1,p1,n1,c1,b2,p2,n2,c2,b3,p3,n3,c3,h1,h2⟩:=h i d hd
 exact ⟨b1,p1,n1,c1,b2,p2,n2,c2,b3,p3,n3,c3,h1,h2.le hl⟩
/-- A slice of nodes that is seen. -/
structure NS (V:View) (p:OA) (n c:Nat) (l:List Nd):Prop where
 len:n=l.length
 cap:n<=c
 row:∃vs,V.sl p vs/\NR V vs l
 nilc:p.isNone=true->c=0
theorem NS.le {V V':View} {p:OA} {n c:Nat} {l:List Nd} (h:NS V p n c l) (hl:V.Le V'):NS V' p n c l:=by
 obtain ⟨h1,h2,⟨vs,h3,h4⟩,h5⟩:=h
 exact ⟨h1,h2,⟨vs,hl.sl h3,h4.le hl⟩,h5⟩
theorem NS.nil {V:View}:NS V none 0 0 []:=⟨rfl,Nat.le_refl _,⟨[],fun i v h=>by simp at h,fun i d h=>by simp at h⟩,fun _=>rfl⟩
end Go.Proofs.Tryz
/- Contracts: reader.part, bsp.Of. -/
namespace Go.Proofs.Tryz
open Go.Eng Go.Big
/-- A node is read. -/
theorem NS.rd {V:View} {p:OA} {n c:Nat} {l:List Nd} (h:NS V p n c l) {k:Nat} {d:Nd} (hd:l[k]?=some d) :
  ∃(b1:Bool) (p1:OA) (n1 c1:Nat) (b2:Bool) (p2:OA) (n2 c2:Nat) (b3:Bool) (p3:OA) (n3 c3:Nat) (a:Addr),addrAdd p (k * 8)=some a /\
   V.at (a.add 0) (.bool b1)/\V.at (a.add 1) (.slice p1 n1 c1)/\V.at (a.add 2) (.bool b2)/\V.at (a.add 3) (.slice p2 n2 c2)/\V.at (a.add 4) (.bool b3)/\V.at (a.add 5) (.slice p3 n3 c3)/\V.at (a.add 6) (.int .i64 d.left)/\V.at (a.add 7) (.int .i64 d.right) /\
   RL V (.agg #[.bool b1,.slice p1 n1 c1,.bool b2,.slice p2 n2 c2,.bool b3,.slice p3 n3 c3]) d.ln.1 d.ln.2.1 d.ln.2.2:=by
 obtain ⟨vs,hs,hr⟩:=h.row
 obtain ⟨b1,p1,n1,c1,b2,p2,n2,c2,b3,p3,n3,c3,h1,h2⟩:=hr k d hd
 obtain ⟨ad,rfl,-⟩:=hs _ _ (h1 0 _ rfl)
 have key:∀j v,([.bool b1,.slice p1 n1 c1,.bool b2,.slice p2 n2 c2,.bool b3,.slice p3 n3 c3,.int .i64 d.left,.int .i64 d.right]:List Value)[j]?=some v->V.at ((ad.add (k * 8)).add j) v:=by
  intro j v hv
  obtain ⟨ad',e,ha⟩:=hs _ _ (h1 j v hv)
  cases e
  rw [addadd]
  exact ha
 exact ⟨b1,p1,n1,c1,b2,p2,n2,c2,b3,p3,n3,c3,_,rfl,key 0 _ rfl,key 1 _ rfl,key 2 _ rfl,key 3 _ rfl,key 4 _ rfl,key 5 _ rfl,key 6 _ rfl,key 7 _ rfl,h2⟩
end Go.Proofs.Tryz
/- Contracts: how package bsp writes a tree. -/
namespace Go.Proofs.Tryz
open Go.Eng Go.Big
theorem vb_ne {vs:List Value} {n b:Nat} (h:vs≠[]):vb vs n b=b:=by cases vs with | nil=>exact absurd rfl h | cons v r=>rfl
theorem NR.push {V:View} {vs sp:List Value} {l:List Nd} (h:NR V vs l) (hl:l.length * 8<=vs.length) {ln:L3} {x y:Int} {b1:Bool} {p1:OA} {n1 c1:Nat} {b2:Bool} {p2:OA} {n2 c2:Nat} {b3:Bool} {p3:OA} {n3 c3:Nat}
  (hL:RL V (.agg #[.bool b1,.slice p1 n1 c1,.bool b2,.slice p2 n2 c2,.bool b3,.slice p3 n3 c3]) ln.1 ln.2.1 ln.2.2) :
  NR V (vs.take (l.length * 8)++[.bool b1,.slice p1 n1 c1,.bool b2,.slice p2 n2 c2,.bool b3,.slice p3 n3 c3,.int .i64 x,.int .i64 y]++sp) (l++[⟨ln,x,y⟩]):=by
 intro i d hd
 rcases Nat.lt_or_ge i l.length with hi | hi
 ·rw [List.getElem?_append_left hi] at hd
  obtain ⟨b1',p1',n1',c1',b2',p2',n2',c2',b3',p3',n3',c3',h1,h2⟩:=h i d hd
  refine ⟨b1',p1',n1',c1',b2',p2',n2',c2',b3',p3',n3',c3',fun j v hv=>?_,h2⟩
  have hj:j < 8:=by
   rcases Nat.lt_or_ge j 8 with hj | hj
   ·exact hj
   ·rw [List.getElem?_eq_none (by simpa using hj)] at hv; cases hv
  have:=h1 j v hv
  rw [List.append_assoc,List.getElem?_append_left (by rw [List.length_take]; omega),List.getElem?_take,if_pos (by omega)]
  exact this
 ·rw [List.getElem?_append_right hi] at hd
  have hi':i=l.length:=by
   rcases Nat.lt_or_ge (i - l.length) 1 with h' | h'
   ·omega
   ·rw [List.getElem?_eq_none (by simpa using h')] at hd; cases hd
  subst hi'
  simp only [Nat.sub_self,List.getElem?_cons_zero,Option.some.injEq] at hd
  subst hd
  refine ⟨b1,p1,n1,c1,b2,p2,n2,c2,b3,p3,n3,c3,fun j v hv=>?_,hL⟩
  have hj:j < 8:=by
   rcases Nat.lt_or_ge j 8 with hj | hj
   ·exact hj
   ·rw [List.getElem?_eq_none (by simpa using hj)] at hv; cases hv
  rw [List.append_assoc,List.getElem?_append_right (by rw [List.length_take]; omega),List.length_take,Nat.min_eq_left hl,Nat.add_sub_cancel_left,List.getElem?_append_left (by simpa using hj)]
  exact hv
theorem NR.take {V:View} {vs:List Value} {l:List Nd} (h:NR V vs l):NR V (vs.take (l.length * 8)) l:=by
 intro i d hd
 obtain ⟨b1,p1,n1,c1,b2,p2,n2,c2,b3,p3,n3,c3,h1,h2⟩:=h i d hd
 refine ⟨b1,p1,n1,c1,b2,p2,n2,c2,b3,p3,n3,c3,fun j v hv=>?_,h2⟩
 have hj:j < 8:=by
  rcases Nat.lt_or_ge j 8 with hj | hj
  ·exact hj
  ·rw [List.getElem?_eq_none (by simpa using hj)] at hv; cases hv
 have hi:i < l.length:=by
  rcases Nat.lt_or_ge i l.length with h | h
  ·exact h
  ·rw [List.getElem?_eq_none h] at hd; cases hd
 rw [List.getElem?_take,if_pos (by omega)]
 exact h1 j v hv
end Go.Proofs.Tryz
