/- A part of the proof (joined by program from: SrtL, VCmptL, CmptL). -/
import Derived.Test.YtimkdinmcbepnaaGreatDoorT15
import Derived.Test.YtimkdinmcbepnaaGreatDoorT16
import Derived.Test.YtimkdinmcbepnaaGreatDoorT5
import Derived.Test.YtimkdinmcbepnaaGreatDoorT14
set_option linter.unusedVariables false
open Go.IntKind (i64 u64 u32)
/- Sorting (slices.SortFunc) of bspregion/geo.Ln (turned by mksort.py from the texts on changes). -/
namespace Go.Proofs.Tryz
open Go.Eng Go.Big
/-- The row that is sorted. -/
structure SRL (V:View) (n:Nat) (vs:List Value) (l:List L3):Prop where
 row:Row 9 RCL V vs l
 len:n=l.length
 few:l.length < 50
theorem SRL.le {V V':View} {n:Nat} {vs:List Value} {l:List L3} (h:SRL V n vs l) (e:V.Le V'):SRL V' n vs l:=⟨h.row.le fun _ _ g=>RCL.le g e,h.len,h.few⟩
theorem SRL.get {V:View} {n:Nat} {vs:List Value} {l:List L3} (h:SRL V n vs l) {k:Nat} (hk:k < l.length):∃(x y:Int) (p:OA) (xb yb:Int) (pb:OA) (xc yc:Int) (pc:OA),
  ((0 + k * 9) + 9<=vs.length/\(vs.drop (0 + k * 9)).take 9=[.int .i64 x,.int .i64 y,.pointer p,.int .i64 xb,.int .i64 yb,.pointer pb,.int .i64 xc,.int .i64 yc,.pointer pc])/\RCL V (.agg #[.int .i64 x,.int .i64 y,.pointer p,.int .i64 xb,.int .i64 yb,.pointer pb,.int .i64 xc,.int .i64 yc,.pointer pc]) (l.getD k dCL):=by
 obtain ⟨xs,-,h2,h3,h4⟩:=h.row.get (d:=dCL) hk (by decide)
 have h20:=h2
 obtain ⟨x,y,p,xb,yb,pb,xc,yc,pc,e⟩:=h2.shape
 have e:=congrArg Array.toList (Value.agg.inj e)
 dsimp only at e
 subst e
 rw [Nat.zero_add]
 exact ⟨x,y,p,xb,yb,pb,xc,yc,pc,⟨h3,h4⟩,h20⟩
theorem SRL.swap {V:View} {n:Nat} {vs:List Value} {l:List L3} (h:SRL V n vs l) {i j:Nat} (hi:i < l.length) (hj:j < l.length) {x y:Int} {p:OA} {xb yb:Int} {pb:OA} {xc yc:Int} {pc:OA} {x' y':Int} {p':OA} {xb' yb':Int} {pb':OA} {xc' yc':Int} {pc':OA}
  (h1:RCL V (.agg #[.int .i64 x,.int .i64 y,.pointer p,.int .i64 xb,.int .i64 yb,.pointer pb,.int .i64 xc,.int .i64 yc,.pointer pc]) (l.getD i dCL)) (h2:RCL V (.agg #[.int .i64 x',.int .i64 y',.pointer p',.int .i64 xb',.int .i64 yb',.pointer pb',.int .i64 xc',.int .i64 yc',.pointer pc']) (l.getD j dCL)) :
  (0 + i * 9) + 9<=vs.length/\(0 + j * 9) + 9<=(setVals vs (0 + i * 9) [.int .i64 x',.int .i64 y',.pointer p',.int .i64 xb',.int .i64 yb',.pointer pb',.int .i64 xc',.int .i64 yc',.pointer pc']).length /\
  SRL V n (setVals (setVals vs (0 + i * 9) [.int .i64 x',.int .i64 y',.pointer p',.int .i64 xb',.int .i64 yb',.pointer pb',.int .i64 xc',.int .i64 yc',.pointer pc']) (0 + j * 9) [.int .i64 x,.int .i64 y,.pointer p,.int .i64 xb,.int .i64 yb,.pointer pb,.int .i64 xc,.int .i64 yc,.pointer pc]) (swp dCL l i j):=by
 obtain ⟨-,-,-,g1,-⟩:=h.row.get (d:=dCL) hi (by decide)
 obtain ⟨-,-,-,g2,-⟩:=h.row.get (d:=dCL) hj (by decide)
 rw [Nat.zero_add,Nat.zero_add]
 refine ⟨g1,by rw [setVals_len (by exact g1)]; exact g2,h.row.swap hi hj (by decide) rfl rfl h1 h2,by rw [swp_len]; exact h.len,by rw [swp_len]; exact h.few⟩
/-- What a function that sorts or shuffles leaves behind. -/
def SPostL (lb n:Nat) (l:List L3) (a b:Nat) (V':View) (Q:List L3->Prop):Prop:=∃vs' l',V'.w.heap[lb]?=some (.cells vs'.toArray 182 (0,0))/\SRL V' n vs' l'/\Seg dCL l l' a b/\Q l'
theorem c_insertionSortL {V:View} {lb n c:Nat} {vs:List Value} {l:List L3} (hw:V.w.heap[lb]?=some (.cells vs.toArray 182 (0,0))) (hx:V.X lb) (h:SRL V n vs l) {a b:Nat} (hab:a<=b) (hb:b<=l.length) :
  Acts prog 232 #[.slice (some ⟨lb,0,none⟩) n c,.int .i64 a,.int .i64 b,.func (.func 164) #[] #[]] V fun r V'=>r=.tuple #[]/\SPostL lb n l a b V' fun l'=>Asc cCL dCL l' a b:=by
 have few:=h.few
 have len:=h.len
 have wa:i64.wrap ((a:Int) + 1)=((a + 1:Nat):Int):=by rw [i64w (by omega)]; omega
 refine vc_slices_insertionSortCmpFunc_L lb n c vs a b V _ hw hx ⟨fun z V'=>∃(i:Nat) (m:List L3),z.1=(i:Int)/\a < i/\(i<=b \/ i=a + 1)/\SRL V' n z.2 m/\Seg dCL l m a b/\Asc cCL dCL m a i,fun z=>(b - z.1).toNat,
  ⟨(_,vs),by and_intros <;> rfl,a + 1,l,wa,by omega,.inr rfl,h,.refl _ _ _,.short (by omega)⟩,?_⟩
 rintro ⟨z,us⟩ V1 l1 ⟨i,m,e,hai,hib,hs,hseg,hasc⟩
 dsimp only at e hs
 subst e
 dsimp only
 have ml:m.length=l.length:=hseg.len
 refine ⟨rfl,fun hlt=>?_,fun hlt V6 l6 hw6=>⟨rfl,us,m,hw6,hs.le l6,hseg,?_⟩⟩
 ·have hlt:(i:Int) < b:=of_decide_eq_true hlt
  have w2:i64.wrap ((i:Int) + 1)=((i + 1:Nat):Int):=by rw [i64w (by omega)]; omega
  rw [w2]
  refine ⟨fun z V'=>∃(j:Nat) (k:List L3),z.1=(j:Int)/\a<=j/\j<=i/\SRL V' n z.2 k/\Seg dCL l k a b/\Ins cCL dCL k a i j,fun z=>z.1.toNat,⟨((i:Int),us),by and_intros <;> rfl,i,m,rfl,by omega,Nat.le_refl _,hs,hseg,.start hasc⟩,?_⟩
  rintro ⟨z,ws⟩ V2 l2 ⟨j,k,e,haj,hji,hs,hseg,hins⟩
  dsimp only at e hs
  subst e
  dsimp only
  have kl:k.length=l.length:=hseg.len
  refine ⟨rfl,fun z V'=>V2.Le V'/\(z=true->a < j/\cCL (k.getD j dCL) (k.getD (j - 1) dCL) < 0)/\(z=false->j<=a \/ ¬ cCL (k.getD j dCL) (k.getD (j - 1) dCL) < 0),⟨fun hj=>?_,fun hj=>?_⟩,?_⟩
  ·have hj:(j:Int) > a:=of_decide_eq_true hj
   have w1:i64.wrap ((j:Int) - 1)=((j - 1:Nat):Int):=by rw [i64w (by omega)]; omega
   rw [w1,Int.toNat_natCast,Int.toNat_natCast]
   obtain ⟨x1,y1,p1,xb1,yb1,pb1,xc1,yc1,pc1,g1,r1⟩:=hs.get (k:=j) (by omega)
   obtain ⟨x2,y2,p2,xb2,yb2,pb2,xc2,yc2,pc2,g2,r2⟩:=hs.get (k:=j - 1) (by omega)
   refine ⟨⟨by omega,by omega⟩,x1,y1,p1,xb1,yb1,pb1,xc1,yc1,pc1,g1,⟨by omega,by omega⟩,x2,y2,p2,xb2,yb2,pb2,xc2,yc2,pc2,g2,fun V3 l3=>(c_chg_cmpL (r1.le l3) (r2.le l3)).mono ?_⟩
   rintro r V4 l4 rfl
   exact ⟨_,rfl,_,by and_intros <;> rfl,l3.trans l4,fun h=>⟨by omega,of_decide_eq_true h⟩,fun h=>.inr (of_decide_eq_false h)⟩
  ·have hj:¬ (j:Int) > a:=of_decide_eq_false hj
   exact ⟨false,by and_intros <;> rfl,View.Le.refl _,(fun h=>nomatch h),fun _=>.inl (by omega)⟩
  ·rintro t V5 l5 ⟨lv,t1,t2⟩
   refine ⟨rfl,fun ht=>?_,fun ht=>⟨(((i + 1:Nat):Int),ws),by dsimp only; omega,by and_intros <;> rfl,i + 1,k,rfl,by omega,.inl (by omega),hs.le l5,hseg,hins.done ordCL hji (t2 ht)⟩⟩
   obtain ⟨hj,hlt2⟩:=t1 ht
   have w1:i64.wrap ((j:Int) - 1)=((j - 1:Nat):Int):=by rw [i64w (by omega)]; omega
   rw [w1,Int.toNat_natCast,Int.toNat_natCast]
   obtain ⟨x1,y1,p1,xb1,yb1,pb1,xc1,yc1,pc1,g1,r1⟩:=(hs.le l5).get (k:=j) (by omega)
   obtain ⟨x2,y2,p2,xb2,yb2,pb2,xc2,yc2,pc2,g2,r2⟩:=(hs.le l5).get (k:=j - 1) (by omega)
   obtain ⟨s1,s2,s3⟩:=(hs.le l5).swap (i:=j) (j:=j - 1) (by omega) (by omega) r1 r2
   exact ⟨⟨by omega,by omega⟩,x2,y2,p2,xb2,yb2,pb2,xc2,yc2,pc2,g2,⟨by omega,by omega⟩,x1,y1,p1,xb1,yb1,pb1,xc1,yc1,pc1,g1,⟨by omega,by omega⟩,s1,⟨by omega,by omega⟩,s2,(((j - 1:Nat):Int),_),by dsimp only; omega,by and_intros <;> rfl,j - 1,_,rfl,by omega,by omega,s3,
    hseg.trans (Seg.swp (by omega) (by omega) (by omega) (by omega) (by omega)),hins.move ordCL hj hji (by omega) hlt2⟩
 ·have hlt:¬ (i:Int) < b:=of_decide_eq_false hlt
  rcases hib with hib | hib
  ·rw [show b=i by omega]; exact hasc
  ·exact .short (by omega)
theorem c_reverseRangeL {V:View} {lb n c:Nat} {vs:List Value} {l:List L3} (hw:V.w.heap[lb]?=some (.cells vs.toArray 182 (0,0))) (hx:V.X lb) (h:SRL V n vs l) {a b:Nat} (hab:a < b) (hb:b<=l.length) :
  Acts prog 236 #[.slice (some ⟨lb,0,none⟩) n c,.int .i64 a,.int .i64 b,.func (.func 164) #[] #[]] V fun r V'=>r=.tuple #[]/\SPostL lb n l a b V' fun _=>True:=by
 have few:=h.few
 have len:=h.len
 have wb:i64.wrap ((b:Int) - 1)=((b - 1:Nat):Int):=by rw [i64w (by omega)]; omega
 refine vc_slices_reverseRangeCmpFunc_L lb n c vs a b V _ hw hx ⟨fun z V'=>∃(i j:Nat) (m:List L3),z.1=(i:Int)/\z.2.1=(j:Int)/\a<=i/\j < b/\i<=b/\SRL V' n z.2.2 m/\Seg dCL l m a b,fun z=>(z.2.1 - z.1).toNat,
  ⟨((a:Int),((b - 1:Nat):Int),vs),by and_intros <;> first | rfl | exact wb,a,b - 1,l,rfl,rfl,by omega,by omega,by omega,h,.refl _ _ _⟩,?_⟩
 rintro ⟨z,z',us⟩ V1 l1 ⟨i,j,m,e,e',hi,hj,hib,hs,hseg⟩
 dsimp only at e e' hs
 subst e e'
 dsimp only
 have ml:m.length=l.length:=hseg.len
 refine ⟨rfl,fun hlt=>?_,fun hlt V2 l2 hw2=>⟨rfl,us,m,hw2,hs.le l2,hseg,trivial⟩⟩
 have hlt:(i:Int) < j:=of_decide_eq_true hlt
 have w1:i64.wrap ((i:Int) + 1)=((i + 1:Nat):Int):=by rw [i64w (by omega)]; omega
 have w2:i64.wrap ((j:Int) - 1)=((j - 1:Nat):Int):=by rw [i64w (by omega)]; omega
 rw [w1,w2,Int.toNat_natCast,Int.toNat_natCast]
 obtain ⟨x1,y1,p1,xb1,yb1,pb1,xc1,yc1,pc1,g1,r1⟩:=hs.get (k:=i) (by omega)
 obtain ⟨x2,y2,p2,xb2,yb2,pb2,xc2,yc2,pc2,g2,r2⟩:=hs.get (k:=j) (by omega)
 obtain ⟨s1,s2,s3⟩:=hs.swap (i:=i) (j:=j) (by omega) (by omega) r1 r2
 exact ⟨⟨by omega,by omega⟩,x2,y2,p2,xb2,yb2,pb2,xc2,yc2,pc2,g2,⟨by omega,by omega⟩,x1,y1,p1,xb1,yb1,pb1,xc1,yc1,pc1,g1,⟨by omega,by omega⟩,s1,⟨by omega,by omega⟩,s2,(((i + 1:Nat):Int),((j - 1:Nat):Int),_),by dsimp only; omega,by and_intros <;> rfl,i + 1,j - 1,_,rfl,rfl,by omega,by omega,by omega,s3,
  hseg.trans (Seg.swp (by omega) (by omega) (by omega) (by omega) (by omega))⟩
theorem c_siftDownL {V:View} {lb n c:Nat} {vs:List Value} {l:List L3} (hw:V.w.heap[lb]?=some (.cells vs.toArray 182 (0,0))) (hx:V.X lb) (h:SRL V n vs l) {f lo hi:Nat} (hb:f + hi<=l.length) (hlo:lo < 50) (hp:Hp cCL dCL l f lo hi (some lo)) :
  Acts prog 254 #[.slice (some ⟨lb,0,none⟩) n c,.int .i64 lo,.int .i64 hi,.int .i64 f,.func (.func 164) #[] #[]] V fun r V'=>r=.tuple #[]/\SPostL lb n l f (f + hi) V' fun l'=>Hp cCL dCL l' f lo hi none:=by
 have few:=h.few
 have len:=h.len
 refine vc_slices_siftDownCmpFunc_L lb n c vs lo hi f V _ hw hx ⟨fun z V'=>∃(r:Nat) (m:List L3),z.1=(r:Int)/\lo<=r/\r < 50/\SRL V' n z.2 m/\Seg dCL l m f (f + hi)/\Hp cCL dCL m f lo hi (some r),fun z=>(hi - z.1).toNat,
  ⟨((lo:Int),vs),by and_intros <;> rfl,lo,l,rfl,Nat.le_refl _,hlo,h,.refl _ _ _,hp⟩,?_⟩
 rintro ⟨z,us⟩ V1 l1 ⟨r,m,e,hr,hr',hs,hseg,hm⟩
 dsimp only at e hs
 subst e
 dsimp only
 have ml:m.length=l.length:=hseg.len
 have w0:i64.wrap (i64.wrap ((2:Int) * (r:Int)) + 1)=((2 * r + 1:Nat):Int):=by rw [i64w (x:=(2:Int) * (r:Int)) (by omega),i64w (by omega)]; omega
 have w1:i64.wrap (((2 * r + 1:Nat):Int) + 1)=((2 * r + 2:Nat):Int):=by rw [i64w (by omega)]; omega
 have w2:i64.wrap ((f:Int) + ((2 * r + 1:Nat):Int))=((f + (2 * r + 1):Nat):Int):=by rw [i64w (by omega)]; omega
 have w3:i64.wrap (((f + (2 * r + 1):Nat):Int) + 1)=((f + (2 * r + 2):Nat):Int):=by rw [i64w (by omega)]; omega
 have w4:i64.wrap ((f:Int) + (r:Int))=((f + r:Nat):Int):=by rw [i64w (by omega)]; omega
 rw [w0,w1,w2,w3,w4,Int.toNat_natCast,Int.toNat_natCast,Int.toNat_natCast]
 refine ⟨rfl,fun hlt V2 l2 hw2=>⟨rfl,us,m,hw2,hs.le l2,hseg,hm.leaf (by have:=of_decide_eq_true hlt; omega)⟩,fun hlt=>?_⟩
 have hlt:¬ ((2 * r + 1:Nat):Int) ≥ hi:=of_decide_eq_false hlt
 refine ⟨fun z V'=>V1.Le V'/\(z=true->2 * r + 2 < hi/\cCL (m.getD (f + (2 * r + 1)) dCL) (m.getD (f + (2 * r + 2)) dCL) < 0)/\(z=false->2 * r + 2 < hi->¬ cCL (m.getD (f + (2 * r + 1)) dCL) (m.getD (f + (2 * r + 2)) dCL) < 0),⟨fun hj=>?_,fun hj=>?_⟩,?_⟩
 ·have hj:((2 * r + 2:Nat):Int) < hi:=of_decide_eq_true hj
  obtain ⟨x1,y1,p1,xb1,yb1,pb1,xc1,yc1,pc1,g1,r1⟩:=hs.get (k:=f + (2 * r + 1)) (by omega)
  obtain ⟨x2,y2,p2,xb2,yb2,pb2,xc2,yc2,pc2,g2,r2⟩:=hs.get (k:=f + (2 * r + 2)) (by omega)
  refine ⟨⟨by omega,by omega⟩,x1,y1,p1,xb1,yb1,pb1,xc1,yc1,pc1,g1,⟨by omega,by omega⟩,x2,y2,p2,xb2,yb2,pb2,xc2,yc2,pc2,g2,fun V3 l3=>(c_chg_cmpL (r1.le l3) (r2.le l3)).mono ?_⟩
  rintro q V4 l4 rfl
  exact ⟨_,rfl,_,by and_intros <;> rfl,l3.trans l4,fun h=>⟨by omega,of_decide_eq_true h⟩,fun h _=>of_decide_eq_false h⟩
 ·have hj:¬ ((2 * r + 2:Nat):Int) < hi:=of_decide_eq_false hj
  exact ⟨false,by and_intros <;> rfl,View.Le.refl _,(fun h=>nomatch h),fun _ h=>absurd h (by omega)⟩
 rintro t V5 l5 ⟨-,t1,t2⟩
 refine ⟨rfl,fun z V'=>V5.Le V'/\∃k:Nat,z=(k:Int)/\(k=2 * r + 1 \/ k=2 * r + 2)/\k < hi/\∀k',(k'=2 * r + 1 \/ k'=2 * r + 2)->k' < hi->¬ cCL (m.getD (f + k) dCL) (m.getD (f + k') dCL) < 0,⟨fun ht=>?_,fun ht=>?_⟩,?_⟩
 ·obtain ⟨h1,h2⟩:=t1 ht
  refine ⟨_,by and_intros <;> rfl,View.Le.refl _,2 * r + 2,rfl,.inr rfl,h1,fun k' hk _=>?_⟩
  rcases hk with rfl | rfl
  ·exact ordCL.asy _ _ h2
  ·exact ordCL.refl _
 ·refine ⟨_,by and_intros <;> rfl,View.Le.refl _,2 * r + 1,rfl,.inl rfl,by omega,fun k' hk hk'=>?_⟩
  rcases hk with rfl | rfl
  ·exact ordCL.refl _
  ·exact t2 ht hk'
 rintro z V6 l6 ⟨-,k,rfl,hk,hkh,hmax⟩
 have w5:i64.wrap ((f:Int) + (k:Int))=((f + k:Nat):Int):=by rw [i64w (by omega)]; omega
 rw [w5,Int.toNat_natCast]
 have hs6:=hs.le (l5.trans l6)
 obtain ⟨x1,y1,p1,xb1,yb1,pb1,xc1,yc1,pc1,g1,r1⟩:=hs6.get (k:=f + r) (by omega)
 obtain ⟨x2,y2,p2,xb2,yb2,pb2,xc2,yc2,pc2,g2,r2⟩:=hs6.get (k:=f + k) (by omega)
 refine ⟨rfl,⟨by omega,by omega⟩,x1,y1,p1,xb1,yb1,pb1,xc1,yc1,pc1,g1,⟨by omega,by omega⟩,x2,y2,p2,xb2,yb2,pb2,xc2,yc2,pc2,g2,fun V7 l7=>(c_chg_cmpL (r1.le l7) (r2.le l7)).mono ?_⟩
 rintro q V8 l8 rfl
 refine ⟨_,rfl,fun hc V9 l9 hw9=>⟨rfl,us,m,hw9,hs6.le (l7.trans (l8.trans l9)),hseg,?_⟩,fun hc=>?_⟩
 ·rw [Bool.not_eq_true'] at hc
  exact hm.stop ordCL hk hmax (of_decide_eq_false hc)
 ·rw [Bool.not_eq_false'] at hc
  have hc:=of_decide_eq_true hc
  obtain ⟨s1,s2,s3⟩:=(hs6.le (l7.trans l8)).swap (i:=f + r) (j:=f + k) (by omega) (by omega) (r1.le (l7.trans l8)) (r2.le (l7.trans l8))
  exact ⟨⟨by omega,by omega⟩,x2,y2,p2,xb2,yb2,pb2,xc2,yc2,pc2,g2,⟨by omega,by omega⟩,x1,y1,p1,xb1,yb1,pb1,xc1,yc1,pc1,g1,⟨by omega,by omega⟩,s1,⟨by omega,by omega⟩,s2,((k:Int),_),by dsimp only; omega,by and_intros <;> rfl,k,_,rfl,by omega,by omega,s3,
   hseg.trans (Seg.swp (by omega) (by omega) (by omega) (by omega) (by omega)),hm.down ordCL hr (by omega) hk hkh hmax hc⟩
theorem c_breakPatternsL {V:View} {lb n c:Nat} {vs:List Value} {l:List L3} (hw:V.w.heap[lb]?=some (.cells vs.toArray 182 (0,0))) (hx:V.X lb) (h:SRL V n vs l) {a b:Nat} (hab:a + 8<=b) (hb:b<=l.length) :
  Acts prog 234 #[.slice (some ⟨lb,0,none⟩) n c,.int .i64 a,.int .i64 b,.func (.func 164) #[] #[]] V fun r V'=>r=.tuple #[]/\SPostL lb n l a b V' fun _=>True:=by
 have few:=h.few
 have len:=h.len
 have w0:i64.wrap ((b:Int) - a)=((b - a:Nat):Int):=by rw [i64w (by omega)]; omega
 have wq:i64.wrap (((b - a:Nat):Int).tdiv 4)=(((b - a) / 4:Nat):Int):=by rw [show ((b - a:Nat):Int).tdiv 4=(((b - a) / 4:Nat):Int) from rfl,i64w (by omega)]
 have w2:i64.wrap ((((b - a) / 4:Nat):Int) * 2)=(((b - a) / 4 * 2:Nat):Int):=by rw [i64w (by omega)]; omega
 have w3:i64.wrap ((a:Int) + (((b - a) / 4 * 2:Nat):Int))=((a + (b - a) / 4 * 2:Nat):Int):=by rw [i64w (by omega)]; omega
 have w4:i64.wrap (((a + (b - a) / 4 * 2:Nat):Int) - 1)=((a + (b - a) / 4 * 2 - 1:Nat):Int):=by rw [i64w (by omega)]; omega
 have w5:i64.wrap (((a + (b - a) / 4 * 2:Nat):Int) + 1)=((a + (b - a) / 4 * 2 + 1:Nat):Int):=by rw [i64w (by omega)]; omega
 refine vc_slices_breakPatternsCmpFunc_L lb n c vs a b V _ hw hx ?_
 rw [w0,wq,w2,w3,w4,w5]
 generalize hq:(b - a) / 4 * 2=q
 have hq1:4<=q:=by omega
 have hq2:a + q + 1 < b:=by omega
 refine ⟨fun _ V1 l1=>(c_nextPowerOfTwo (b - a) (by omega) (by omega)).mono ?_,fun h8=>absurd (of_decide_eq_false h8) (by omega)⟩
 rintro r V2 l2 ⟨m,rfl,m1,m2⟩
 refine ⟨_,rfl,by decide,fun z V'=>∃(i:Nat) (k:List L3),z.1=(i:Int)/\a + q - 1<=i/\SRL V' n z.2.2 k/\Seg dCL l k a b,fun z=>((a + q + 2:Nat) - z.1).toNat,⟨(((a + q - 1:Nat):Int),_,vs),by and_intros <;> rfl,a + q - 1,l,rfl,Nat.le_refl _,h.le (l1.trans l2),.refl _ _ _⟩,?_⟩
 rintro ⟨z,sd,us⟩ V3 l3 ⟨i,k,e,hi,hs,hseg⟩
 dsimp only at e hs
 subst e
 dsimp only
 have kl:k.length=l.length:=hseg.len
 refine ⟨rfl,by decide,fun hlt V4 l4 bk e4 h4=>(c_xorshift (V:=V4.lend [bk]) e4 ⟨by simp,h4⟩).mono ?_,fun hlt V6 l6 hw6=>⟨rfl,us,k,hw6,hs.le l6,hseg,trivial⟩⟩
 have hlt:(i:Int)<=((a + q + 1:Nat):Int):=of_decide_eq_true hlt
 rintro r V5 l5 ⟨y,rfl,e5⟩
 have wm:u64.wrap ((m:Int) - 1)=((m - 1:Nat):Int):=by rw [u64w (by omega)]; omega
 rw [wm]
 obtain ⟨g1,g2⟩:=and_le (x:=y) (m:=((m - 1:Nat):Int)) (by omega) (by omega)
 generalize hv:bitI .and .u64 y ((m - 1:Nat):Int)=v at *
 have wv:i64.wrap v=v:=i64w (by omega)
 have w6:i64.wrap ((i:Int) + 1)=((i + 1:Nat):Int):=by rw [i64w (by omega)]; omega
 have hs5:SRL V5.shut n us k:=hs.le fun b o h=>l5 b o (l4 b o h)
 obtain ⟨o,ho,hob⟩:∃o:Nat,(o:Int)=(if v ≥ ((b - a:Nat):Int) then v - ((b - a:Nat):Int) else v)/\o < b - a:=by
  split
  ·exact ⟨(v - ((b - a:Nat):Int)).toNat,by omega,by omega⟩
  ·exact ⟨v.toNat,by omega,by omega⟩
 refine ⟨y,rfl,y,e5,?_⟩
 rw [hv,wv,w6]
 refine ⟨fun z V'=>z=(o:Int)/\V5.shut.Le V',⟨fun hg=>?_,fun hg=>?_⟩,?_⟩
 ·have hg:=of_decide_eq_true hg
  rw [if_pos hg] at ho
  exact ⟨_,by and_intros <;> first | rfl | exact (i64w (by omega)),ho.symm,View.Le.refl _⟩
 ·have hg:=of_decide_eq_false hg
  rw [if_neg hg] at ho
  exact ⟨_,by and_intros <;> rfl,ho.symm,View.Le.refl _⟩
 rintro z V7 l7 ⟨rfl,-⟩
 have wo:i64.wrap ((a:Int) + (o:Int))=((a + o:Nat):Int):=by rw [i64w (by omega)]; omega
 rw [wo,Int.toNat_natCast,Int.toNat_natCast]
 have hs7:=hs5.le l7
 obtain ⟨x1,y1,p1,xb1,yb1,pb1,xc1,yc1,pc1,g1,r1⟩:=hs7.get (k:=i) (by omega)
 obtain ⟨x2,y2,p2,xb2,yb2,pb2,xc2,yc2,pc2,g2,r2⟩:=hs7.get (k:=a + o) (by omega)
 obtain ⟨s1,s2,s3⟩:=hs7.swap (i:=i) (j:=a + o) (by omega) (by omega) r1 r2
 exact ⟨rfl,⟨by omega,by omega⟩,x2,y2,p2,xb2,yb2,pb2,xc2,yc2,pc2,g2,⟨by omega,by omega⟩,x1,y1,p1,xb1,yb1,pb1,xc1,yc1,pc1,g1,⟨by omega,by omega⟩,s1,⟨by omega,by omega⟩,s2,(((i + 1:Nat):Int),y,_),by dsimp only; omega,by and_intros <;> rfl,i + 1,_,rfl,by omega,s3,
  hseg.trans (Seg.swp (by omega) (by omega) (by omega) (by omega) (by omega))⟩
theorem c_heapSortL {V:View} {lb n c:Nat} {vs:List Value} {l:List L3} (hw:V.w.heap[lb]?=some (.cells vs.toArray 182 (0,0))) (hx:V.X lb) (h:SRL V n vs l) {a b:Nat} (hab:a < b) (hb:b<=l.length) :
  Acts prog 233 #[.slice (some ⟨lb,0,none⟩) n c,.int .i64 a,.int .i64 b,.func (.func 164) #[] #[]] V fun r V'=>r=.tuple #[]/\SPostL lb n l a b V' fun l'=>Asc cCL dCL l' a b:=by
 have few:=h.few
 have len:=h.len
 obtain ⟨N,hN⟩:∃N,N=b - a:=⟨_,rfl⟩
 have w0:i64.wrap ((b:Int) - a)=(N:Int):=by rw [i64w (by omega)]; omega
 have w1:i64.wrap ((N:Int) - 1)=((N - 1:Nat):Int):=by rw [i64w (by omega)]; omega
 have w2:i64.wrap (((N - 1:Nat):Int).tdiv 2)=(((N - 1) / 2:Nat):Int):=by rw [show ((N - 1:Nat):Int).tdiv 2=(((N - 1) / 2:Nat):Int) from rfl,i64w (by omega)]
 have eb:a + N=b:=by omega
 refine vc_slices_heapSortCmpFunc_L lb n c vs a b V _ hw hx ?_
 rw [w0,w1,w2]
 refine ⟨by decide,fun z V'=>∃(i:Nat) (m:List L3),z.1=(i:Int) - 1/\i<=N/\SRL V' n z.2 m/\Seg dCL l m a b/\Hp cCL dCL m a i N none,fun z=>(z.1 + 1).toNat,⟨((((N - 1) / 2:Nat):Int),vs),by and_intros <;> rfl,(N - 1) / 2 + 1,l,by dsimp only; omega,by omega,h,.refl _ _ _,⟨fun i k h1 h2 h3 _=>by omega,fun i j k e=>by cases e⟩⟩,?_⟩
 rintro ⟨z,us⟩ V1 l1 ⟨i,m,e,hi,hs,hseg,hp⟩
 dsimp only at e hs
 subst e
 dsimp only
 have ml:m.length=l.length:=hseg.len
 refine ⟨rfl,fun h0 V2 l2 bk e2 h2=>?_,fun h0=>?_⟩
 ·have h0:(i:Int) - 1 ≥ 0:=of_decide_eq_true h0
  obtain ⟨j,rfl⟩:∃j,i=j + 1:=⟨i - 1,by omega⟩
  have ej:((j + 1:Nat):Int) - 1=(j:Int):=by omega
  have w3:i64.wrap ((j:Int) - 1)=(j:Int) - 1:=i64w (by omega)
  rw [ej]
  refine (c_siftDownL (V:=V2.lend [bk]) e2 ⟨by simp,h2⟩ (hs.le l2) (f:=a) (lo:=j) (hi:=N) (by omega) (by omega) hp.more).mono ?_
  rintro r V3 l3 ⟨rfl,ws,m',e3,hs3,hseg3,hp3⟩
  exact ⟨rfl,ws,e3,((j:Int) - 1,ws),by dsimp only; omega,by and_intros <;> first | rfl | exact w3,j,m',rfl,by omega,hs3.le (le_shut' _),hseg.trans (hseg3.wide (Nat.le_refl _) (by omega)),hp3⟩
 ·have h0:¬ (i:Int) - 1 ≥ 0:=of_decide_eq_false h0
  obtain rfl:i=0:=by omega
  refine ⟨fun z V'=>∃(i:Nat) (m:List L3),z.1=(i:Int) - 1/\i<=N/\SRL V' n z.2 m/\Seg dCL l m a b/\HQ cCL dCL m a i N,fun z=>(z.1 + 1).toNat,⟨(((N - 1:Nat):Int),us),by and_intros <;> rfl,N,m,by dsimp only; omega,Nat.le_refl _,hs,hseg,.start hp⟩,?_⟩
  rintro ⟨z,us⟩ V4 l4 ⟨i,m,e,hi,hs,hseg,hq⟩
  dsimp only at e hs
  subst e
  dsimp only
  have ml:m.length=l.length:=hseg.len
  refine ⟨rfl,fun h0=>?_,fun h0 V7 l7 hw7=>⟨rfl,us,m,hw7,hs.le l7,hseg,?_⟩⟩
  ·have h0:(i:Int) - 1 ≥ 0:=of_decide_eq_true h0
   obtain ⟨j,rfl⟩:∃j,i=j + 1:=⟨i - 1,by omega⟩
   have ej:((j + 1:Nat):Int) - 1=(j:Int):=by omega
   have w3:i64.wrap ((j:Int) - 1)=(j:Int) - 1:=i64w (by omega)
   have w4:i64.wrap ((a:Int) + (j:Int))=((a + j:Nat):Int):=by rw [i64w (by omega)]; omega
   rw [ej,w4,Int.toNat_natCast,Int.toNat_natCast]
   obtain ⟨x1,y1,p1,xb1,yb1,pb1,xc1,yc1,pc1,g1,r1⟩:=hs.get (k:=a) (by omega)
   obtain ⟨x2,y2,p2,xb2,yb2,pb2,xc2,yc2,pc2,g2,r2⟩:=hs.get (k:=a + j) (by omega)
   obtain ⟨s1,s2,s3⟩:=hs.swap (i:=a) (j:=a + j) (by omega) (by omega) r1 r2
   refine ⟨⟨by omega,by omega⟩,x2,y2,p2,xb2,yb2,pb2,xc2,yc2,pc2,g2,⟨by omega,by omega⟩,x1,y1,p1,xb1,yb1,pb1,xc1,yc1,pc1,g1,⟨by omega,by omega⟩,s1,⟨by omega,by omega⟩,s2,fun V5 l5 bk e5 h5=>?_⟩
   have sl:(swp dCL m a (a + j)).length=l.length:=by rw [swp_len]; exact ml
   refine (c_siftDownL (V:=V5.lend [bk]) e5 ⟨by simp,h5⟩ (s3.le l5) (f:=a) (lo:=0) (hi:=j) (by omega) (by omega) (hq.hp.pop (by omega))).mono ?_
   rintro r V6 l6 ⟨rfl,ws,m',e6,hs6,hseg6,hp6⟩
   exact ⟨rfl,ws,e6,((j:Int) - 1,ws),by dsimp only; omega,by and_intros <;> first | rfl | exact w3,j,m',rfl,by omega,hs6.le (le_shut' _),hseg.trans ((Seg.swp (by omega) (by omega) (by omega) (by omega) (by omega)).trans (hseg6.wide (Nat.le_refl _) (by omega))),hq.step ordCL (by omega) (by omega) hseg6 hp6⟩
  ·have h0:¬ (i:Int) - 1 ≥ 0:=of_decide_eq_false h0
   obtain rfl:i=0:=by omega
   have:=hq.fin
   rwa [eb] at this
theorem c_order2L {V:View} {lb n c:Nat} {vs:List Value} {l:List L3} (hw:V.w.heap[lb]?=some (.cells vs.toArray 182 (0,0))) (hx:V.X lb) (h:SRL V n vs l) {wb:Nat} {k:Int} (hw':V.w.heap[wb]?=some (.cells #[.int .i64 k] 3 (0,0))) (hx':V.X wb) (hne:lb≠wb) {a b:Nat} (ha:a < l.length) (hb:b < l.length) :
  Acts prog 262 #[.slice (some ⟨lb,0,none⟩) n c,.int .i64 a,.int .i64 b,.pointer (some ⟨wb,0,none⟩),.func (.func 164) #[] #[]] V fun r V'=>∃(x y:Nat) (k':Int),r=.tuple #[.int .i64 x,.int .i64 y]/\((x=a/\y=b) \/ (x=b/\y=a)) /\
   V'.w.heap[lb]?=some (.cells vs.toArray 182 (0,0))/\V'.w.heap[wb]?=some (.cells #[.int .i64 k'] 3 (0,0)):=by
 have len:=h.len
 obtain ⟨x1,y1,p1,xb1,yb1,pb1,xc1,yc1,pc1,g1,r1⟩:=h.get (k:=a) ha
 obtain ⟨x2,y2,p2,xb2,yb2,pb2,xc2,yc2,pc2,g2,r2⟩:=h.get (k:=b) hb
 refine vc_slices_order2CmpFunc_L lb n c vs a b wb k V _ hw hx hw' hx' hne ⟨⟨by omega,by omega⟩,x2,y2,p2,xb2,yb2,pb2,xc2,yc2,pc2,by rw [Int.toNat_natCast]; exact g2,⟨by omega,by omega⟩,x1,y1,p1,xb1,yb1,pb1,xc1,yc1,pc1,by rw [Int.toNat_natCast]; exact g1,fun V1 l1=>(c_chg_cmpL (r2.le l1) (r1.le l1)).mono ?_⟩
 rintro r V2 l2 rfl
 exact ⟨_,rfl,fun _ V3 l3 e1 e2=>⟨b,a,_,rfl,.inr ⟨rfl,rfl⟩,e1,e2⟩,fun _ V4 l4 e1 e2=>⟨a,b,_,rfl,.inl ⟨rfl,rfl⟩,e1,e2⟩⟩
theorem c_medianL {V:View} {lb n c:Nat} {vs:List Value} {l:List L3} (hw:V.w.heap[lb]?=some (.cells vs.toArray 182 (0,0))) (hx:V.X lb) (h:SRL V n vs l) {wb:Nat} {k:Int} (hw':V.w.heap[wb]?=some (.cells #[.int .i64 k] 3 (0,0))) (hx':V.X wb) (hne:lb≠wb) {a b d:Nat} (ha:a < l.length) (hb:b < l.length) (hd:d < l.length) :
  Acts prog 258 #[.slice (some ⟨lb,0,none⟩) n c,.int .i64 a,.int .i64 b,.int .i64 d,.pointer (some ⟨wb,0,none⟩),.func (.func 164) #[] #[]] V fun r V'=>∃(x:Nat) (k':Int),r=.int .i64 x/\(x=a \/ x=b \/ x=d) /\
   V'.w.heap[lb]?=some (.cells vs.toArray 182 (0,0))/\V'.w.heap[wb]?=some (.cells #[.int .i64 k'] 3 (0,0)):=by
 have lX:∀(U:View) (u v:Nat),U.H u->U.H v->(U.lend [u,v]).X u/\(U.lend [u,v]).X v:=fun U u v hu hv=>⟨⟨by simp,hu⟩,⟨by simp,hv⟩⟩
 refine vc_slices_medianCmpFunc_L lb n c vs a b d wb k V _ hw hx hw' hx' hne fun V1 l1 u1 v1 e1 f1 e1' f1' n1=>(c_order2L (V:=V1.lend [u1,v1]) e1 (lX _ _ _ f1 f1').1 (h.le l1) e1' (lX _ _ _ f1 f1').2 n1 ha hb).mono ?_
 rintro r V2 l2 ⟨x2,y2,k2,rfl,o2,e2,e2'⟩
 have L2:V.Le V2:=fun b o h=>l2 b o (l1 b o h)
 refine ⟨_,_,rfl,vs,e2,_,e2',fun V3 l3 u3 v3 e3 f3 e3' f3' n3=>(c_order2L (V:=V3.lend [u3,v3]) e3 (lX _ _ _ f3 f3').1 (h.le fun b o h=>l3 b o (L2 b o h)) e3' (lX _ _ _ f3 f3').2 n3 (a:=y2) (by omega) hd).mono ?_⟩
 rintro r V4 l4 ⟨x4,y4,k4,rfl,o4,e4,e4'⟩
 refine ⟨_,_,rfl,vs,e4,_,e4',fun V5 l5 u5 v5 e5 f5 e5' f5' n5=>(c_order2L (V:=V5.lend [u5,v5]) e5 (lX _ _ _ f5 f5').1 (h.le fun b o h=>l5 b o (l4 b o (l3 b o (L2 b o h)))) e5' (lX _ _ _ f5 f5').2 n5 (a:=x2) (b:=x4) (by omega) (by omega)).mono ?_⟩
 rintro r V6 l6 ⟨x6,y6,k6,rfl,o6,e6,e6'⟩
 exact ⟨_,_,rfl,vs,e6,_,e6',fun V7 l7 e7 e7'=>⟨y6,k6,rfl,by omega,e7,e7'⟩⟩
theorem c_choosePivotL {V:View} {lb n c:Nat} {vs:List Value} {l:List L3} (hw:V.w.heap[lb]?=some (.cells vs.toArray 182 (0,0))) (hx:V.X lb) (h:SRL V n vs l) {a b:Nat} (hab:a + 8<=b) (hb:b<=l.length) :
  Acts prog 235 #[.slice (some ⟨lb,0,none⟩) n c,.int .i64 a,.int .i64 b,.func (.func 164) #[] #[]] V fun r V'=>∃(x:Nat) (t:Int),r=.tuple #[.int .i64 x,.int .i64 t]/\a<=x/\x < b /\
   V'.w.heap[lb]?=some (.cells vs.toArray 182 (0,0)):=by
 have few:=h.few
 have lX:∀(U:View) (u v:Nat),U.H u->U.H v->(U.lend [u,v]).X u/\(U.lend [u,v]).X v:=fun U u v hu hv=>⟨⟨by simp,hu⟩,⟨by simp,hv⟩⟩
 obtain ⟨q,hq⟩:∃q,q=(b - a) / 4:=⟨_,rfl⟩
 have w0:i64.wrap ((b:Int) - a)=((b - a:Nat):Int):=by rw [i64w (by omega)]; omega
 have wq:i64.wrap (((b - a:Nat):Int).tdiv 4)=(q:Int):=by rw [show ((b - a:Nat):Int).tdiv 4=(((b - a) / 4:Nat):Int) from rfl,i64w (by omega)]; omega
 have v1:i64.wrap ((q:Int) * 1)=(q:Int):=by rw [i64w (by omega)]; omega
 have v2:i64.wrap ((q:Int) * 2)=((2 * q:Nat):Int):=by rw [i64w (by omega)]; omega
 have v3:i64.wrap ((q:Int) * 3)=((3 * q:Nat):Int):=by rw [i64w (by omega)]; omega
 have w1:i64.wrap ((a:Int) + (q:Int))=((a + q:Nat):Int):=by rw [i64w (by omega)]; omega
 have w2:i64.wrap ((a:Int) + ((2 * q:Nat):Int))=((a + 2 * q:Nat):Int):=by rw [i64w (by omega)]; omega
 have w3:i64.wrap ((a:Int) + ((3 * q:Nat):Int))=((a + 3 * q:Nat):Int):=by rw [i64w (by omega)]; omega
 refine vc_slices_choosePivotCmpFunc_L lb n c vs a b V _ hw hx ?_
 rw [w0,wq,v1,v2,v3,w1,w2,w3]
 refine ⟨by decide,by decide,by decide,fun _=>⟨fun h50=>absurd (of_decide_eq_true h50) (by omega),fun _ V1 l1 u v e1 f1 e1' f1' n1=>(c_medianL (V:=V1.lend [u,v]) e1 (lX _ _ _ f1 f1').1 (h.le l1) e1' (lX _ _ _ f1 f1').2 n1 (a:=a + q) (b:=a + 2 * q) (d:=a + 3 * q) (by omega) (by omega) (by omega)).mono ?_⟩,fun h8=>absurd (of_decide_eq_false h8) (by omega)⟩
 rintro r V2 l2 ⟨x,k,rfl,ho,e2,e2'⟩
 exact ⟨_,rfl,vs,e2,_,e2',fun _ V3 l3 e3=>⟨x,_,rfl,by omega,by omega,e3⟩,fun _=>⟨fun _ V4 l4 e4=>⟨x,_,rfl,by omega,by omega,e4⟩,fun _ V5 l5 e5=>⟨x,_,rfl,by omega,by omega,e5⟩⟩⟩
theorem c_partialInsertionL {V:View} {lb n c:Nat} {vs:List Value} {l:List L3} (hw:V.w.heap[lb]?=some (.cells vs.toArray 182 (0,0))) (hx:V.X lb) (h:SRL V n vs l) {a b:Nat} (hab:a < b) (hb:b<=l.length) :
  Acts prog 237 #[.slice (some ⟨lb,0,none⟩) n c,.int .i64 a,.int .i64 b,.func (.func 164) #[] #[]] V fun r V'=>∃t:Bool,r=.bool t/\SRL V' n vs l/\V'.w.heap[lb]?=some (.cells vs.toArray 182 (0,0))/\(t=true->Asc cCL dCL l a b):=by
 have few:=h.few
 have len:=h.len
 have wa:i64.wrap ((a:Int) + 1)=((a + 1:Nat):Int):=by rw [i64w (by omega)]; omega
 have wn:i64.wrap ((b:Int) - a)=((b - a:Nat):Int):=by rw [i64w (by omega)]; omega
 refine vc_slices_partialInsertionSortCmpFunc_L lb n c vs a b V _ hw hx ?_
 rw [wa,wn]
 refine ⟨fun z V'=>z=(((a + 1:Nat):Int),0,vs)/\V.Le V',fun z=>0,⟨(((a + 1:Nat):Int),0,vs),by and_intros <;> rfl,rfl,View.Le.refl _⟩,?_⟩
 rintro z V1 l1 ⟨rfl,-⟩
 dsimp only
 refine ⟨rfl,fun _=>⟨fun z V'=>∃i:Nat,z=(i:Int)/\a + 1<=i/\i<=b/\V1.Le V'/\Asc cCL dCL l a i,fun z=>(b - z).toNat,⟨((a + 1:Nat):Int),by and_intros <;> rfl,a + 1,rfl,Nat.le_refl _,by omega,View.Le.refl _,.short (by omega)⟩,?_⟩,fun h0=>absurd (of_decide_eq_false h0) (by decide)⟩
 rintro z V2 l2 ⟨i,rfl,hi,hib,-,hasc⟩
 have w1:i64.wrap ((i:Int) - 1)=((i - 1:Nat):Int):=by rw [i64w (by omega)]; omega
 have w2:i64.wrap ((i:Int) + 1)=((i + 1:Nat):Int):=by rw [i64w (by omega)]; omega
 rw [w1,w2,Int.toNat_natCast,Int.toNat_natCast]
 have hs:=h.le (l1.trans l2)
 refine ⟨rfl,fun z V'=>V2.Le V'/\(z=true->i < b/\¬ cCL (l.getD i dCL) (l.getD (i - 1) dCL) < 0)/\(z=false->True),⟨fun hj=>?_,fun hj=>⟨false,by and_intros <;> rfl,View.Le.refl _,(fun h=>nomatch h),fun _=>trivial⟩⟩,?_⟩
 ·have hj:(i:Int) < b:=of_decide_eq_true hj
  obtain ⟨x1,y1,p1,xb1,yb1,pb1,xc1,yc1,pc1,g1,r1⟩:=hs.get (k:=i) (by omega)
  obtain ⟨x2,y2,p2,xb2,yb2,pb2,xc2,yc2,pc2,g2,r2⟩:=hs.get (k:=i - 1) (by omega)
  refine ⟨⟨by omega,by omega⟩,x1,y1,p1,xb1,yb1,pb1,xc1,yc1,pc1,g1,⟨by omega,by omega⟩,x2,y2,p2,xb2,yb2,pb2,xc2,yc2,pc2,g2,fun V3 l3=>(c_chg_cmpL (r1.le l3) (r2.le l3)).mono ?_⟩
  rintro r V4 l4 rfl
  exact ⟨_,rfl,_,by and_intros <;> rfl,l3.trans l4,fun h=>⟨by omega,by simpa using h⟩,fun _=>trivial⟩
 ·rintro t V5 l5 ⟨-,t1,-⟩
  refine ⟨rfl,fun ht=>?_,fun ht=>⟨fun he V6 l6 hw6=>⟨true,rfl,hs.le (l5.trans l6),hw6,fun _=>?_⟩,fun _=>⟨fun _ V7 l7 hw7=>⟨false,rfl,hs.le (l5.trans l7),hw7,(fun h=>nomatch h)⟩,fun h50=>absurd (of_decide_eq_false h50) (by omega)⟩⟩⟩
  ·obtain ⟨h1,h2⟩:=t1 ht
   exact ⟨((i + 1:Nat):Int),by dsimp only; omega,by and_intros <;> rfl,i + 1,rfl,by omega,by omega,l2.trans l5,hasc.step ordCL (by omega) h2⟩
  ·have he:(i:Int)=b:=by simpa using he
   rw [show b=i by omega]; exact hasc
theorem swp_aL {l:List L3} {a piv:Nat} (ha:a < l.length) (hp:piv < l.length):(swp dCL l a piv).getD a dCL=l.getD piv dCL:=by
 rw [swp_at ha hp]
 by_cases e:a=piv
 ·rw [if_pos e,e]
 ·rw [if_neg e,if_pos rfl]
theorem c_partitionEqualL {V:View} {lb n c:Nat} {vs:List Value} {l:List L3} (hw:V.w.heap[lb]?=some (.cells vs.toArray 182 (0,0))) (hx:V.X lb) (h:SRL V n vs l) {a b piv:Nat} (hab:a + 1 < b) (hb:b<=l.length) (hp:a<=piv) (hp':piv < b) :
  Acts prog 238 #[.slice (some ⟨lb,0,none⟩) n c,.int .i64 a,.int .i64 b,.int .i64 piv,.func (.func 164) #[] #[]] V fun r V'=>∃mid:Nat,r=.int .i64 mid/\a < mid/\mid<=b/\SPostL lb n l a b V' fun l'=>(∀k,a<=k->k < mid->¬ cCL (l.getD piv dCL) (l'.getD k dCL) < 0)/\(∀k,mid<=k->k < b->cCL (l.getD piv dCL) (l'.getD k dCL) < 0):=by
 have few:=h.few
 have len:=h.len
 have wa:i64.wrap ((a:Int) + 1)=((a + 1:Nat):Int):=by rw [i64w (by omega)]; omega
 have wb:i64.wrap ((b:Int) - 1)=((b - 1:Nat):Int):=by rw [i64w (by omega)]; omega
 refine vc_slices_partitionEqualCmpFunc_L lb n c vs a b piv V _ hw hx ?_
 rw [wa,wb,Int.toNat_natCast,Int.toNat_natCast]
 obtain ⟨x1,y1,p1,xb1,yb1,pb1,xc1,yc1,pc1,g1,r1⟩:=h.get (k:=a) (by omega)
 obtain ⟨x2,y2,p2,xb2,yb2,pb2,xc2,yc2,pc2,g2,r2⟩:=h.get (k:=piv) (by omega)
 obtain ⟨s1,s2,s3⟩:=h.swap (i:=a) (j:=piv) (by omega) (by omega) r1 r2
 refine ⟨⟨by omega,by omega⟩,x2,y2,p2,xb2,yb2,pb2,xc2,yc2,pc2,g2,⟨by omega,by omega⟩,x1,y1,p1,xb1,yb1,pb1,xc1,yc1,pc1,g1,⟨by omega,by omega⟩,s1,⟨by omega,by omega⟩,s2,?_⟩
 generalize setVals (setVals vs (0 + a * 9) [.int .i64 x2,.int .i64 y2,.pointer p2,.int .i64 xb2,.int .i64 yb2,.pointer pb2,.int .i64 xc2,.int .i64 yc2,.pointer pc2]) (0 + piv * 9) [.int .i64 x1,.int .i64 y1,.pointer p1,.int .i64 xb1,.int .i64 yb1,.pointer pb1,.int .i64 xc1,.int .i64 yc1,.pointer pc1]=ws at *
 have m0:=swp_aL (l:=l) (a:=a) (piv:=piv) (by omega) (by omega)
 have g0:Seg dCL l (swp dCL l a piv) a b:=Seg.swp (Nat.le_refl _) (by omega) hp hp' hb
 generalize swp dCL l a piv=l0 at *
 generalize hpv:l.getD piv dCL=p at *
 have tr0:l0.length=l.length:=g0.len
 clear g1 g2 r1 r2 s1 s2
 refine ⟨fun z V'=>∃(i j:Nat) (m:List L3),z.1=(i:Int)/\z.2.1=(j:Int)/\SRL V' n z.2.2 m/\Seg dCL l m a b/\m.getD a dCL=p/\PT (fun x=>¬ cCL p x < 0) dCL m a b i j,fun z=>(b - z.1).toNat,⟨(((a + 1:Nat):Int),((b - 1:Nat):Int),ws),by and_intros <;> rfl,a + 1,b - 1,l0,rfl,rfl,s3,g0,m0,PT.start hab⟩,?_⟩
 rintro ⟨z,z',us⟩ V1 l1 ⟨i0,j,m,e,e',hs1,hseg,ma,pt0⟩
 dsimp only at e e' hs1
 subst e e'
 have ml:m.length=l.length:=hseg.len
 refine ⟨rfl,fun z V'=>∃i:Nat,z=((i:Int),(j:Int),us)/\i0<=i/\V1.Le V'/\PT (fun x=>¬ cCL p x < 0) dCL m a b i j,fun z=>(b - z.1).toNat,⟨((i0:Int),(j:Int),us),by and_intros <;> rfl,i0,rfl,Nat.le_refl _,View.Le.refl _,pt0⟩,?_⟩
 rintro _ V2 l2 ⟨i,rfl,hi0,-,pt⟩
 dsimp only
 have hs:=hs1.le l2
 have q1:=pt.hi
 have q2:=pt.hij
 have q3:=pt.hj
 have w1:i64.wrap ((i:Int) + 1)=((i + 1:Nat):Int):=by rw [i64w (by omega)]; omega
 rw [w1,Int.toNat_natCast]
 refine ⟨rfl,fun z V'=>V2.Le V'/\(z=true->i<=j/\¬ cCL p (m.getD i dCL) < 0)/\(z=false->i<=j->¬ ¬ cCL p (m.getD i dCL) < 0),⟨fun hj=>?_,fun hj=>⟨false,by and_intros <;> rfl,View.Le.refl _,(fun h=>nomatch h),fun _ h=>absurd h (by have:=of_decide_eq_false hj; omega)⟩⟩,?_⟩
 ·have hj:(i:Int)<=j:=of_decide_eq_true hj
  obtain ⟨x1,y1,p1,xb1,yb1,pb1,xc1,yc1,pc1,g1,r1⟩:=hs.get (k:=a) (by omega)
  obtain ⟨x2,y2,p2,xb2,yb2,pb2,xc2,yc2,pc2,g2,r2⟩:=hs.get (k:=i) (by omega)
  refine ⟨⟨by omega,by omega⟩,x1,y1,p1,xb1,yb1,pb1,xc1,yc1,pc1,g1,⟨by omega,by omega⟩,x2,y2,p2,xb2,yb2,pb2,xc2,yc2,pc2,g2,fun W1 k1=>(c_chg_cmpL (r1.le k1) (r2.le k1)).mono ?_⟩
  rintro r W2 k2 rfl
  rw [ma]
  exact ⟨_,rfl,_,by and_intros <;> rfl,k1.trans k2,fun h=>⟨by omega,by simpa using h⟩,fun h _=>by simpa using h⟩
 rintro t V5 l5 ⟨-,t1,t2⟩
 refine ⟨rfl,fun ht=>⟨(((i + 1:Nat):Int),(j:Int),us),by have:=(t1 ht).1; dsimp only; omega,by and_intros <;> rfl,i + 1,rfl,by omega,l2.trans l5,pt.incr (t1 ht).1 (t1 ht).2⟩,fun ht=>?_⟩
 have hI:i<=j->¬ ((fun x=>¬ cCL p x < 0)) (m.getD i dCL):=t2 ht
 refine ⟨fun z V'=>∃j':Nat,z=(j':Int)/\j'<=j/\V5.Le V'/\PT (fun x=>¬ cCL p x < 0) dCL m a b i j',fun z=>z.toNat,⟨(j:Int),by and_intros <;> rfl,j,rfl,Nat.le_refl _,View.Le.refl _,pt⟩,?_⟩
 rintro _ V6 l6 ⟨j',rfl,hjj,-,pt'⟩
 clear t1 t2 q2 q3 pt
 have hI:i<=j'->¬ ((fun x=>¬ cCL p x < 0)) (m.getD i dCL):=fun h=>hI (by omega)
 replace hs:=hs.le (l5.trans l6)
 have q2:=pt'.hij
 have q3:=pt'.hj
 have w2:1<=j'->i64.wrap ((j':Int) - 1)=((j' - 1:Nat):Int):=fun h1=>by rw [i64w (by omega)]; omega
 rw [Int.toNat_natCast]
 refine ⟨rfl,fun z V'=>V6.Le V'/\(z=true->i<=j'/\¬ ¬ cCL p (m.getD j' dCL) < 0)/\(z=false->i<=j'->¬ cCL p (m.getD j' dCL) < 0),⟨fun hj=>?_,fun hj=>⟨false,by and_intros <;> rfl,View.Le.refl _,(fun h=>nomatch h),fun _ h=>absurd h (by have:=of_decide_eq_false hj; omega)⟩⟩,?_⟩
 ·have hj:(i:Int)<=j':=of_decide_eq_true hj
  obtain ⟨x1,y1,p1,xb1,yb1,pb1,xc1,yc1,pc1,g1,r1⟩:=hs.get (k:=a) (by omega)
  obtain ⟨x2,y2,p2,xb2,yb2,pb2,xc2,yc2,pc2,g2,r2⟩:=hs.get (k:=j') (by omega)
  refine ⟨⟨by omega,by omega⟩,x1,y1,p1,xb1,yb1,pb1,xc1,yc1,pc1,g1,⟨by omega,by omega⟩,x2,y2,p2,xb2,yb2,pb2,xc2,yc2,pc2,g2,fun W1 k1=>(c_chg_cmpL (r1.le k1) (r2.le k1)).mono ?_⟩
  rintro r W2 k2 rfl
  rw [ma]
  exact ⟨_,rfl,_,by and_intros <;> rfl,k1.trans k2,fun h=>⟨by omega,by simpa using h⟩,fun h _=>by simpa using h⟩
 rintro t V9 l9 ⟨-,t1,t2⟩
 refine ⟨rfl,fun ht=>⟨((j' - 1:Nat):Int),by have:=(t1 ht).1; dsimp only; omega,by have:=(t1 ht).1; and_intros <;> first | rfl | exact w2 (by omega),j' - 1,rfl,by omega,l6.trans l9,pt'.decr (t1 ht).1 (t1 ht).2⟩,fun ht=>⟨fun hgt=>?_,fun hgt=>?_⟩⟩
 ·have hgt:(i:Int) > j':=of_decide_eq_true hgt
  refine fun V10 l10 hw10=>⟨i,rfl,q1,by omega,us,m,hw10,hs.le (l9.trans l10),hseg,fun k k1 k2=>?_,fun k k1 k2=>?_⟩
  ·by_cases e:k=a
   ·rw [e,ma]; exact ordCL.refl _
   ·exact pt'.lo k (by omega) k2
  ·exact Classical.not_not.1 (pt'.up k (by omega) k2)
 ·have hgt:¬ (i:Int) > j':=of_decide_eq_false hgt
  have hPj:((fun x=>¬ cCL p x < 0)) (m.getD j' dCL):=t2 ht (by omega)
  obtain ⟨pt2,ma2,sg2⟩:=pt'.swap (by omega) (by omega) (hI (by omega)) hPj
  obtain ⟨x1,y1,p1,xb1,yb1,pb1,xc1,yc1,pc1,g1,r1⟩:=(hs.le l9).get (k:=i) (by omega)
  obtain ⟨x2,y2,p2,xb2,yb2,pb2,xc2,yc2,pc2,g2,r2⟩:=(hs.le l9).get (k:=j') (by omega)
  obtain ⟨s1,s2,s3⟩:=(hs.le l9).swap (i:=i) (j:=j') (by omega) (by omega) r1 r2
  exact ⟨⟨by omega,by omega⟩,x2,y2,p2,xb2,yb2,pb2,xc2,yc2,pc2,g2,⟨by omega,by omega⟩,x1,y1,p1,xb1,yb1,pb1,xc1,yc1,pc1,g1,⟨by omega,by omega⟩,s1,⟨by omega,by omega⟩,s2,(((i + 1:Nat):Int),((j' - 1:Nat):Int),_),by dsimp only; omega,by and_intros <;> first | rfl | exact w2 (by omega),i + 1,j' - 1,_,rfl,rfl,s3,hseg.trans sg2,ma2.trans ma,pt2⟩
theorem c_partitionL {V:View} {lb n c:Nat} {vs:List Value} {l:List L3} (hw:V.w.heap[lb]?=some (.cells vs.toArray 182 (0,0))) (hx:V.X lb) (h:SRL V n vs l) {a b piv:Nat} (hab:a + 1 < b) (hb:b<=l.length) (hp:a<=piv) (hp':piv < b) :
  Acts prog 239 #[.slice (some ⟨lb,0,none⟩) n c,.int .i64 a,.int .i64 b,.int .i64 piv,.func (.func 164) #[] #[]] V fun r V'=>∃(mid:Nat) (t:Bool),r=.tuple #[.int .i64 mid,.bool t]/\a<=mid/\mid < b/\SPostL lb n l a b V' fun l'=>(∀k,a<=k->k < mid->cCL (l'.getD k dCL) (l'.getD mid dCL) < 0)/\(∀k,mid < k->k < b->¬ cCL (l'.getD k dCL) (l'.getD mid dCL) < 0):=by
 have few:=h.few
 have len:=h.len
 have wa:i64.wrap ((a:Int) + 1)=((a + 1:Nat):Int):=by rw [i64w (by omega)]; omega
 have wb:i64.wrap ((b:Int) - 1)=((b - 1:Nat):Int):=by rw [i64w (by omega)]; omega
 refine vc_slices_partitionCmpFunc_L lb n c vs a b piv V _ hw hx ?_
 rw [wa,wb,Int.toNat_natCast,Int.toNat_natCast]
 obtain ⟨x1,y1,p1,xb1,yb1,pb1,xc1,yc1,pc1,g1,r1⟩:=h.get (k:=a) (by omega)
 obtain ⟨x2,y2,p2,xb2,yb2,pb2,xc2,yc2,pc2,g2,r2⟩:=h.get (k:=piv) (by omega)
 obtain ⟨s1,s2,s3⟩:=h.swap (i:=a) (j:=piv) (by omega) (by omega) r1 r2
 refine ⟨⟨by omega,by omega⟩,x2,y2,p2,xb2,yb2,pb2,xc2,yc2,pc2,g2,⟨by omega,by omega⟩,x1,y1,p1,xb1,yb1,pb1,xc1,yc1,pc1,g1,⟨by omega,by omega⟩,s1,⟨by omega,by omega⟩,s2,?_⟩
 generalize setVals (setVals vs (0 + a * 9) [.int .i64 x2,.int .i64 y2,.pointer p2,.int .i64 xb2,.int .i64 yb2,.pointer pb2,.int .i64 xc2,.int .i64 yc2,.pointer pc2]) (0 + piv * 9) [.int .i64 x1,.int .i64 y1,.pointer p1,.int .i64 xb1,.int .i64 yb1,.pointer pb1,.int .i64 xc1,.int .i64 yc1,.pointer pc1]=ws at *
 have m0:=swp_aL (l:=l) (a:=a) (piv:=piv) (by omega) (by omega)
 have g0:Seg dCL l (swp dCL l a piv) a b:=Seg.swp (Nat.le_refl _) (by omega) hp hp' hb
 generalize swp dCL l a piv=l0 at *
 generalize hpv:l.getD piv dCL=p at *
 have tr0:l0.length=l.length:=g0.len
 clear g1 g2 r1 r2 s1 s2
 have wI:∀i:Nat,i < 100->i64.wrap ((i:Int) + 1)=((i + 1:Nat):Int):=fun i hi=>by rw [i64w (by omega)]; omega
 have hseg:=g0
 have ma:=m0
 have s3:=s3
 generalize l0=m at *
 generalize ws=us at *
 have ml:m.length=l.length:=hseg.len
 refine ⟨fun z V'=>∃i:Nat,z=(i:Int)/\V.Le V'/\PT (fun x=>cCL x p < 0) dCL m a b i (b - 1),fun z=>(b - z).toNat,⟨((a + 1:Nat):Int),by and_intros <;> rfl,a + 1,rfl,View.Le.refl _,PT.start hab⟩,?_⟩
 rintro _ V2 l2 ⟨i,rfl,-,pt⟩
 have hs:=s3.le l2
 have q1:=pt.hi
 have q2:=pt.hij
 have q3:=pt.hj
 have w1:=wI i (by omega)
 obtain ⟨j,hj1⟩:∃j,j=b - 1:=⟨_,rfl⟩
 rw [← hj1] at pt q2 q3 ⊢
 rw [w1,Int.toNat_natCast]
 refine ⟨rfl,fun z V'=>V2.Le V'/\(z=true->i<=j/\cCL (m.getD i dCL) p < 0)/\(z=false->i<=j->¬ cCL (m.getD i dCL) p < 0),⟨fun hj=>?_,fun hj=>⟨false,by and_intros <;> rfl,View.Le.refl _,(fun h=>nomatch h),fun _ h=>absurd h (by have:=of_decide_eq_false hj; omega)⟩⟩,?_⟩
 ·have hj:(i:Int)<=j:=of_decide_eq_true hj
  obtain ⟨x1,y1,p1,xb1,yb1,pb1,xc1,yc1,pc1,g1,r1⟩:=hs.get (k:=i) (by omega)
  obtain ⟨x2,y2,p2,xb2,yb2,pb2,xc2,yc2,pc2,g2,r2⟩:=hs.get (k:=a) (by omega)
  refine ⟨⟨by omega,by omega⟩,x1,y1,p1,xb1,yb1,pb1,xc1,yc1,pc1,g1,⟨by omega,by omega⟩,x2,y2,p2,xb2,yb2,pb2,xc2,yc2,pc2,g2,fun W1 k1=>(c_chg_cmpL (r1.le k1) (r2.le k1)).mono ?_⟩
  rintro r W2 k2 rfl
  rw [ma]
  exact ⟨_,rfl,_,by and_intros <;> rfl,k1.trans k2,fun h=>⟨by omega,of_decide_eq_true h⟩,fun h _=>of_decide_eq_false h⟩
 rintro t V5 l5 ⟨-,t1,t2⟩
 refine ⟨rfl,fun ht=>⟨((i + 1:Nat):Int),by have:=(t1 ht).1; dsimp only; omega,by and_intros <;> rfl,i + 1,rfl,l2.trans l5,pt.incr (t1 ht).1 (t1 ht).2⟩,fun ht=>?_⟩
 have hI:i<=j->¬ ((fun x=>cCL x p < 0)) (m.getD i dCL):=t2 ht
 refine ⟨fun z V'=>∃j':Nat,z=(j':Int)/\j'<=j/\V5.Le V'/\PT (fun x=>cCL x p < 0) dCL m a b i j',fun z=>z.toNat,⟨(j:Int),by and_intros <;> rfl,j,rfl,Nat.le_refl _,View.Le.refl _,pt⟩,?_⟩
 rintro _ V6 l6 ⟨j',rfl,hjj,-,pt'⟩
 clear t1 t2 q2 q3 pt
 have hI:i<=j'->¬ ((fun x=>cCL x p < 0)) (m.getD i dCL):=fun h=>hI (by omega)
 replace hs:=hs.le (l5.trans l6)
 have q2:=pt'.hij
 have q3:=pt'.hj
 have w2:1<=j'->i64.wrap ((j':Int) - 1)=((j' - 1:Nat):Int):=fun h1=>by rw [i64w (by omega)]; omega
 rw [Int.toNat_natCast]
 refine ⟨rfl,fun z V'=>V6.Le V'/\(z=true->i<=j'/\¬ cCL (m.getD j' dCL) p < 0)/\(z=false->i<=j'->¬ ¬ cCL (m.getD j' dCL) p < 0),⟨fun hj=>?_,fun hj=>⟨false,by and_intros <;> rfl,View.Le.refl _,(fun h=>nomatch h),fun _ h=>absurd h (by have:=of_decide_eq_false hj; omega)⟩⟩,?_⟩
 ·have hj:(i:Int)<=j':=of_decide_eq_true hj
  obtain ⟨x1,y1,p1,xb1,yb1,pb1,xc1,yc1,pc1,g1,r1⟩:=hs.get (k:=j') (by omega)
  obtain ⟨x2,y2,p2,xb2,yb2,pb2,xc2,yc2,pc2,g2,r2⟩:=hs.get (k:=a) (by omega)
  refine ⟨⟨by omega,by omega⟩,x1,y1,p1,xb1,yb1,pb1,xc1,yc1,pc1,g1,⟨by omega,by omega⟩,x2,y2,p2,xb2,yb2,pb2,xc2,yc2,pc2,g2,fun W1 k1=>(c_chg_cmpL (r1.le k1) (r2.le k1)).mono ?_⟩
  rintro r W2 k2 rfl
  rw [ma]
  exact ⟨_,rfl,_,by and_intros <;> rfl,k1.trans k2,fun h=>⟨by omega,by simpa using h⟩,fun h _=>by simpa using h⟩
 rintro t V9 l9 ⟨-,t1,t2⟩
 refine ⟨rfl,fun ht=>⟨((j' - 1:Nat):Int),by have:=(t1 ht).1; dsimp only; omega,by have:=(t1 ht).1; and_intros <;> first | rfl | exact w2 (by omega),j' - 1,rfl,by omega,l6.trans l9,pt'.decr (t1 ht).1 (t1 ht).2⟩,fun ht=>⟨fun hgt=>?_,fun hgt=>?_⟩⟩
 ·have hgt:(i:Int) > j':=of_decide_eq_true hgt
  have ptf:PT (fun x=>cCL x (m.getD a dCL) < 0) dCL m a b i j':=by rw [ma]; exact pt'
  obtain ⟨f1,f2,f3,f4,f5⟩:=ptf.fin ordCL (by omega) (by omega)
  obtain ⟨x1,y1,p1,xb1,yb1,pb1,xc1,yc1,pc1,g1,r1⟩:=(hs.le l9).get (k:=j') (by omega)
  obtain ⟨x2,y2,p2,xb2,yb2,pb2,xc2,yc2,pc2,g2,r2⟩:=(hs.le l9).get (k:=a) (by omega)
  obtain ⟨s1,s2,s3⟩:=(hs.le l9).swap (i:=j') (j:=a) (by omega) (by omega) r1 r2
  exact ⟨⟨by omega,by omega⟩,x2,y2,p2,xb2,yb2,pb2,xc2,yc2,pc2,g2,⟨by omega,by omega⟩,x1,y1,p1,xb1,yb1,pb1,xc1,yc1,pc1,g1,⟨by omega,by omega⟩,s1,⟨by omega,by omega⟩,s2,fun V10 l10 hw10=>⟨j',_,rfl,f2,f3,_,_,hw10,s3.le l10,hseg.trans f1,f4,f5⟩⟩
 have hgt:¬ (i:Int) > j':=of_decide_eq_false hgt
 have hPj:((fun x=>cCL x p < 0)) (m.getD j' dCL):=Classical.not_not.1 (t2 ht (by omega))
 obtain ⟨pt2,ma2,sg2⟩:=pt'.swap (by omega) (by omega) (hI (by omega)) hPj
 obtain ⟨x1,y1,p1,xb1,yb1,pb1,xc1,yc1,pc1,g1,r1⟩:=(hs.le l9).get (k:=i) (by omega)
 obtain ⟨x2,y2,p2,xb2,yb2,pb2,xc2,yc2,pc2,g2,r2⟩:=(hs.le l9).get (k:=j') (by omega)
 obtain ⟨s1,s2,s4⟩:=(hs.le l9).swap (i:=i) (j:=j') (by omega) (by omega) r1 r2
 rw [w2 (by omega)]
 refine ⟨⟨by omega,by omega⟩,x2,y2,p2,xb2,yb2,pb2,xc2,yc2,pc2,g2,⟨by omega,by omega⟩,x1,y1,p1,xb1,yb1,pb1,xc1,yc1,pc1,g1,⟨by omega,by omega⟩,s1,⟨by omega,by omega⟩,s2,?_⟩
 generalize setVals (setVals us (0 + i * 9) [.int .i64 x2,.int .i64 y2,.pointer p2,.int .i64 xb2,.int .i64 yb2,.pointer pb2,.int .i64 xc2,.int .i64 yc2,.pointer pc2]) (0 + j' * 9) [.int .i64 x1,.int .i64 y1,.pointer p1,.int .i64 xb1,.int .i64 yb1,.pointer pb1,.int .i64 xc1,.int .i64 yc1,.pointer pc1]=ws at *
 have g5:Seg dCL l (swp dCL m i j') a b:=hseg.trans sg2
 have m5:=ma2.trans ma
 generalize swp dCL m i j'=l5' at *
 clear g1 g2 r1 r2 s1 s2 hs t1 t2 hI sg2 ma2 ml s3 hseg ma
 obtain ⟨i',hi'⟩:∃i',i'=i:=⟨_,rfl⟩
 obtain ⟨j'',hj''⟩:∃j'',j''=j':=⟨_,rfl⟩
 rw [← hi',← hj''] at pt2 ⊢
 clear pt' hPj hj1 hi' hj'' hgt q1 q2 q3 w1 w2 hjj
 refine ⟨fun z V'=>∃(i j:Nat) (m:List L3),z.1=(i:Int)/\z.2.1=(j:Int)/\SRL V' n z.2.2 m/\Seg dCL l m a b/\m.getD a dCL=p/\PT (fun x=>cCL x p < 0) dCL m a b i j,fun z=>(b - z.1).toNat,⟨(((i' + 1:Nat):Int),((j'' - 1:Nat):Int),ws),by and_intros <;> rfl,i' + 1,j'' - 1,l5',rfl,rfl,s4,g5,m5,pt2⟩,?_⟩
 rintro ⟨z,z',us⟩ V1 l1 ⟨i0,j,m,e,e',hs1,hseg,ma,pt0⟩
 dsimp only at e e' hs1
 subst e e'
 have ml:m.length=l.length:=hseg.len
 refine ⟨rfl,fun z V'=>∃i:Nat,z=((i:Int),(j:Int),us)/\i0<=i/\V1.Le V'/\PT (fun x=>cCL x p < 0) dCL m a b i j,fun z=>(b - z.1).toNat,⟨((i0:Int),(j:Int),us),by and_intros <;> rfl,i0,rfl,Nat.le_refl _,View.Le.refl _,pt0⟩,?_⟩
 rintro _ V2 l2 ⟨i,rfl,hi0,-,pt⟩
 dsimp only
 have hs:=hs1.le l2
 have q1:=pt.hi
 have q2:=pt.hij
 have q3:=pt.hj
 have w1:i64.wrap ((i:Int) + 1)=((i + 1:Nat):Int):=by rw [i64w (by omega)]; omega
 rw [w1,Int.toNat_natCast]
 refine ⟨rfl,fun z V'=>V2.Le V'/\(z=true->i<=j/\cCL (m.getD i dCL) p < 0)/\(z=false->i<=j->¬ cCL (m.getD i dCL) p < 0),⟨fun hj=>?_,fun hj=>⟨false,by and_intros <;> rfl,View.Le.refl _,(fun h=>nomatch h),fun _ h=>absurd h (by have:=of_decide_eq_false hj; omega)⟩⟩,?_⟩
 ·have hj:(i:Int)<=j:=of_decide_eq_true hj
  obtain ⟨x1,y1,p1,xb1,yb1,pb1,xc1,yc1,pc1,g1,r1⟩:=hs.get (k:=i) (by omega)
  obtain ⟨x2,y2,p2,xb2,yb2,pb2,xc2,yc2,pc2,g2,r2⟩:=hs.get (k:=a) (by omega)
  refine ⟨⟨by omega,by omega⟩,x1,y1,p1,xb1,yb1,pb1,xc1,yc1,pc1,g1,⟨by omega,by omega⟩,x2,y2,p2,xb2,yb2,pb2,xc2,yc2,pc2,g2,fun W1 k1=>(c_chg_cmpL (r1.le k1) (r2.le k1)).mono ?_⟩
  rintro r W2 k2 rfl
  rw [ma]
  exact ⟨_,rfl,_,by and_intros <;> rfl,k1.trans k2,fun h=>⟨by omega,of_decide_eq_true h⟩,fun h _=>of_decide_eq_false h⟩
 rintro t V5 l5 ⟨-,t1,t2⟩
 refine ⟨rfl,fun ht=>⟨(((i + 1:Nat):Int),(j:Int),us),by have:=(t1 ht).1; dsimp only; omega,by and_intros <;> rfl,i + 1,rfl,by omega,l2.trans l5,pt.incr (t1 ht).1 (t1 ht).2⟩,fun ht=>?_⟩
 have hI:i<=j->¬ ((fun x=>cCL x p < 0)) (m.getD i dCL):=t2 ht
 refine ⟨fun z V'=>∃j':Nat,z=(j':Int)/\j'<=j/\V5.Le V'/\PT (fun x=>cCL x p < 0) dCL m a b i j',fun z=>z.toNat,⟨(j:Int),by and_intros <;> rfl,j,rfl,Nat.le_refl _,View.Le.refl _,pt⟩,?_⟩
 rintro _ V6 l6 ⟨j',rfl,hjj,-,pt'⟩
 clear t1 t2 q2 q3 pt
 have hI:i<=j'->¬ ((fun x=>cCL x p < 0)) (m.getD i dCL):=fun h=>hI (by omega)
 replace hs:=hs.le (l5.trans l6)
 have q2:=pt'.hij
 have q3:=pt'.hj
 have w2:1<=j'->i64.wrap ((j':Int) - 1)=((j' - 1:Nat):Int):=fun h1=>by rw [i64w (by omega)]; omega
 rw [Int.toNat_natCast]
 refine ⟨rfl,fun z V'=>V6.Le V'/\(z=true->i<=j'/\¬ cCL (m.getD j' dCL) p < 0)/\(z=false->i<=j'->¬ ¬ cCL (m.getD j' dCL) p < 0),⟨fun hj=>?_,fun hj=>⟨false,by and_intros <;> rfl,View.Le.refl _,(fun h=>nomatch h),fun _ h=>absurd h (by have:=of_decide_eq_false hj; omega)⟩⟩,?_⟩
 ·have hj:(i:Int)<=j':=of_decide_eq_true hj
  obtain ⟨x1,y1,p1,xb1,yb1,pb1,xc1,yc1,pc1,g1,r1⟩:=hs.get (k:=j') (by omega)
  obtain ⟨x2,y2,p2,xb2,yb2,pb2,xc2,yc2,pc2,g2,r2⟩:=hs.get (k:=a) (by omega)
  refine ⟨⟨by omega,by omega⟩,x1,y1,p1,xb1,yb1,pb1,xc1,yc1,pc1,g1,⟨by omega,by omega⟩,x2,y2,p2,xb2,yb2,pb2,xc2,yc2,pc2,g2,fun W1 k1=>(c_chg_cmpL (r1.le k1) (r2.le k1)).mono ?_⟩
  rintro r W2 k2 rfl
  rw [ma]
  exact ⟨_,rfl,_,by and_intros <;> rfl,k1.trans k2,fun h=>⟨by omega,by simpa using h⟩,fun h _=>by simpa using h⟩
 rintro t V9 l9 ⟨-,t1,t2⟩
 refine ⟨rfl,fun ht=>⟨((j' - 1:Nat):Int),by have:=(t1 ht).1; dsimp only; omega,by have:=(t1 ht).1; and_intros <;> first | rfl | exact w2 (by omega),j' - 1,rfl,by omega,l6.trans l9,pt'.decr (t1 ht).1 (t1 ht).2⟩,fun ht=>⟨fun hgt=>?_,fun hgt=>?_⟩⟩
 ·have hgt:(i:Int) > j':=of_decide_eq_true hgt
  have ptf:PT (fun x=>cCL x (m.getD a dCL) < 0) dCL m a b i j':=by rw [ma]; exact pt'
  obtain ⟨f1,f2,f3,f4,f5⟩:=ptf.fin ordCL (by omega) (by omega)
  obtain ⟨x1,y1,p1,xb1,yb1,pb1,xc1,yc1,pc1,g1,r1⟩:=(hs.le l9).get (k:=j') (by omega)
  obtain ⟨x2,y2,p2,xb2,yb2,pb2,xc2,yc2,pc2,g2,r2⟩:=(hs.le l9).get (k:=a) (by omega)
  obtain ⟨s1,s2,s3⟩:=(hs.le l9).swap (i:=j') (j:=a) (by omega) (by omega) r1 r2
  exact ⟨⟨by omega,by omega⟩,x2,y2,p2,xb2,yb2,pb2,xc2,yc2,pc2,g2,⟨by omega,by omega⟩,x1,y1,p1,xb1,yb1,pb1,xc1,yc1,pc1,g1,⟨by omega,by omega⟩,s1,⟨by omega,by omega⟩,s2,fun V10 l10 hw10=>⟨j',_,rfl,f2,f3,_,_,hw10,s3.le l10,hseg.trans f1,f4,f5⟩⟩
 ·have hgt:¬ (i:Int) > j':=of_decide_eq_false hgt
  have hPj:((fun x=>cCL x p < 0)) (m.getD j' dCL):=Classical.not_not.1 (t2 ht (by omega))
  obtain ⟨pt2,ma2,sg2⟩:=pt'.swap (by omega) (by omega) (hI (by omega)) hPj
  obtain ⟨x1,y1,p1,xb1,yb1,pb1,xc1,yc1,pc1,g1,r1⟩:=(hs.le l9).get (k:=i) (by omega)
  obtain ⟨x2,y2,p2,xb2,yb2,pb2,xc2,yc2,pc2,g2,r2⟩:=(hs.le l9).get (k:=j') (by omega)
  obtain ⟨s1,s2,s3⟩:=(hs.le l9).swap (i:=i) (j:=j') (by omega) (by omega) r1 r2
  exact ⟨⟨by omega,by omega⟩,x2,y2,p2,xb2,yb2,pb2,xc2,yc2,pc2,g2,⟨by omega,by omega⟩,x1,y1,p1,xb1,yb1,pb1,xc1,yc1,pc1,g1,⟨by omega,by omega⟩,s1,⟨by omega,by omega⟩,s2,(((i + 1:Nat):Int),((j' - 1:Nat):Int),_),by dsimp only; omega,by and_intros <;> first | rfl | exact w2 (by omega),i + 1,j' - 1,_,rfl,rfl,s3,hseg.trans sg2,ma2.trans ma,pt2⟩
theorem c_pdqsortL:∀(N:Nat) {V:View} {lb n c:Nat} {vs:List Value} {l:List L3} (_:V.w.heap[lb]?=some (.cells vs.toArray 182 (0,0))) (_:V.X lb) (_:SRL V n vs l) {a b:Nat} {lim:Int} (_:a<=b) (_:b<=l.length) (_:b - a<=N) (_:0<=lim) (_:lim<=100)
  (_:0 < a->∀k,a<=k->k < b->¬ cCL (l.getD k dCL) (l.getD (a - 1) dCL) < 0),
  Acts prog 212 #[.slice (some ⟨lb,0,none⟩) n c,.int .i64 a,.int .i64 b,.int .i64 lim,.func (.func 164) #[] #[]] V fun r V'=>r=.tuple #[]/\SPostL lb n l a b V' fun l'=>Asc cCL dCL l' a b:=by
 intro N
 induction N using Nat.strongRecOn with
 | ind N ih=>
 intro V lb n c vs l hw hx h a b lim hab hb hN lm0 lm1 hpre
 have few:=h.few
 have len:=h.len
 refine vc_slices_pdqsortCmpFunc_L lb n c vs a b lim V _ hw hx ⟨fun z V'=>∃(a' b':Nat) (m:List L3),z.1=(a':Int)/\z.2.1=(b':Int)/\0<=z.2.2.1/\z.2.2.1<=100/\SRL V' n z.2.2.2.2.2 m/\PQ cCL dCL l m a b a' b',fun z=>(z.2.1 - z.1).toNat,
  ⟨((a:Int),(b:Int),lim,true,true,vs),by and_intros <;> rfl,a,b,l,rfl,rfl,lm0,lm1,h,PQ.start hab hpre⟩,?_⟩
 rintro ⟨z1,z2,lim,wb,wp,us⟩ V1 l1 ⟨a',b',m,e1,e2,lm0,lm1,hs,pq⟩
 dsimp only at e1 e2 lm0 lm1 hs
 subst e1 e2
 dsimp only
 have q1:=pq.ha
 have q2:=pq.hab
 have q3:=pq.hb
 have ml:m.length=l.length:=pq.seg.len
 have w0:i64.wrap ((b':Int) - a')=((b' - a':Nat):Int):=by rw [i64w (by omega)]; omega
 rw [w0]
 refine ⟨rfl,fun _ V2 l2 bk e2 h2=>(c_insertionSortL (V:=V2.lend [bk]) e2 ⟨by simp,h2⟩ (hs.le l2) q2 (by omega)).mono ?_,fun h12=>⟨fun _ V5 l5 bk e5 h5=>(c_heapSortL (V:=V5.lend [bk]) e5 ⟨by simp,h5⟩ (hs.le l5) (a:=a') (b:=b') (by have:=of_decide_eq_false h12; omega) (by omega)).mono ?_,fun hl0=>?_⟩⟩
 ·rintro r V3 l3 ⟨rfl,ws,m',e3,hs3,sg3,as3⟩
  obtain ⟨f1,f2⟩:=pq.fin sg3 as3
  exact ⟨rfl,ws,e3,fun V4 l4 hw4=>⟨rfl,ws,m',hw4,hs3.le fun b o h=>l4 b o h,f1,f2⟩⟩
 ·rintro r V6 l6 ⟨rfl,ws,m',e6,hs6,sg6,as6⟩
  obtain ⟨f1,f2⟩:=pq.fin sg6 as6
  exact ⟨rfl,ws,e6,fun V7 l7 hw7=>⟨rfl,ws,m',hw7,hs6.le fun b o h=>l7 b o h,f1,f2⟩⟩
 have h12:12 < b' - a':=by have:=of_decide_eq_false h12; omega
 have hl0:¬ lim=0:=by simpa using hl0
 refine ⟨fun z V'=>∃m2:List L3,0<=z.1/\z.1<=100/\SRL V' n z.2 m2/\PQ cCL dCL l m2 a b a' b',⟨fun _ V8 l8 bk e8 h8=>(c_breakPatternsL (V:=V8.lend [bk]) e8 ⟨by simp,h8⟩ (hs.le l8) (a:=a') (b:=b') (by omega) (by omega)).mono ?_,fun _=>⟨(lim,us),by and_intros <;> rfl,m,lm0,lm1,hs,pq⟩⟩,?_⟩
 ·rintro r V9 l9 ⟨rfl,ws,m',e9,hs9,sg9,-⟩
  exact ⟨rfl,ws,e9,(lim - 1,ws),by and_intros <;> first | rfl | exact i64w (by omega),m',by dsimp only; omega,by dsimp only; omega,hs9.le (le_shut' _),pq.change sg9⟩
 clear hs pq ml l1
 rintro ⟨lim2,us⟩ V10 l10 ⟨m,lm0',lm1',hs,pq⟩
 dsimp only at lm0' lm1' hs
 dsimp only
 have ml:m.length=l.length:=pq.seg.len
 refine ⟨rfl,fun V11 l11 bk e11 h11=>(c_choosePivotL (V:=V11.lend [bk]) e11 ⟨by simp,h11⟩ (hs.le l11) (a:=a') (b:=b') (by omega) (by omega)).mono ?_⟩
 rintro r V12 l12 ⟨x,t,rfl,x0,x1,e12⟩
 have hs12:SRL V12.shut n us m:=hs.le fun b o h=>l12 b o (l11 b o h)
 refine ⟨_,_,rfl,us,e12,fun z V'=>∃(p:Nat) (m2:List L3),z.1=(p:Int)/\a'<=p/\p < b'/\SRL V' n z.2.2 m2/\PQ cCL dCL l m2 a b a' b',⟨fun _ V13 l13 bk e13 h13=>(c_reverseRangeL (V:=V13.lend [bk]) e13 ⟨by simp,h13⟩ (hs12.le l13) (a:=a') (b:=b') (by omega) (by omega)).mono ?_,fun _=>⟨((x:Int),t,us),by and_intros <;> rfl,x,m,rfl,x0,x1,hs12,pq⟩⟩,?_⟩
 ·rintro r V14 l14 ⟨rfl,ws,m',e14,hs14,sg14,-⟩
  have v1:i64.wrap ((b':Int) - 1)=((b' - 1:Nat):Int):=by rw [i64w (by omega)]; omega
  have v2:i64.wrap ((x:Int) - a')=((x - a':Nat):Int):=by rw [i64w (by omega)]; omega
  have v3:i64.wrap (((b' - 1:Nat):Int) - ((x - a':Nat):Int))=((b' - 1 - (x - a'):Nat):Int):=by rw [i64w (by omega)]; omega
  rw [v1,v2,v3]
  exact ⟨rfl,ws,e14,(((b' - 1 - (x - a'):Nat):Int),1,ws),by and_intros <;> rfl,b' - 1 - (x - a'),m',rfl,by omega,by omega,hs14.le (le_shut' _),pq.change sg14⟩
 clear hs pq ml hs12 e12 l12 l11 l10
 rintro ⟨pz,t,us⟩ V15 l15 ⟨p,m,e,p0,p1,hs,pq⟩
 dsimp only at e hs
 subst e
 dsimp only
 have ml:m.length=l.length:=pq.seg.len
 refine ⟨rfl,fun _ V'=>V15.Le V',⟨fun _=>⟨fun _=>⟨_,by and_intros <;> rfl,View.Le.refl _⟩,fun _=>⟨_,by and_intros <;> rfl,View.Le.refl _⟩⟩,fun _=>⟨_,by and_intros <;> rfl,View.Le.refl _⟩⟩,?_⟩
 rintro t2 V16 l16 -
 refine ⟨rfl,fun z V'=>z=us/\SRL V' n us m,⟨fun _ V17 l17 bk e17 h17=>(c_partialInsertionL (V:=V17.lend [bk]) e17 ⟨by simp,h17⟩ (hs.le (l16.trans l17)) (a:=a') (b:=b') (by omega) (by omega)).mono ?_,fun _=>⟨us,by and_intros <;> rfl,rfl,hs.le l16⟩⟩,?_⟩
 ·rintro r V18 l18 ⟨t3,rfl,hs18,e18,as18⟩
  refine ⟨_,rfl,us,e18,fun ht V19 l19 hw19=>?_,fun _=>⟨us,by and_intros <;> rfl,rfl,hs18.le (le_shut' _)⟩⟩
  obtain ⟨f1,f2⟩:=pq.fin (.refl _ _ _) (as18 ht)
  exact ⟨rfl,us,m,hw19,hs18.le fun b o h=>l19 b o h,f1,f2⟩
 rintro z V20 l20 ⟨rfl,hs20⟩
 refine ⟨rfl,fun z V'=>V20.Le V'/\(z=true->0 < a'/\¬ cCL (m.getD (a' - 1) dCL) (m.getD p dCL) < 0),⟨fun h0=>?_,fun _=>⟨false,by and_intros <;> rfl,View.Le.refl _,(fun h=>nomatch h)⟩⟩,?_⟩
 ·have h0:(a':Int) > 0:=of_decide_eq_true h0
  have v1:i64.wrap ((a':Int) - 1)=((a' - 1:Nat):Int):=by rw [i64w (by omega)]; omega
  rw [v1,Int.toNat_natCast,Int.toNat_natCast]
  obtain ⟨x1,y1,p1,xb1,yb1,pb1,xc1,yc1,pc1,g1,r1⟩:=hs20.get (k:=a' - 1) (by omega)
  obtain ⟨x2,y2,p2,xb2,yb2,pb2,xc2,yc2,pc2,g2,r2⟩:=hs20.get (k:=p) (by omega)
  refine ⟨⟨by omega,by omega⟩,x1,y1,p1,xb1,yb1,pb1,xc1,yc1,pc1,g1,⟨by omega,by omega⟩,x2,y2,p2,xb2,yb2,pb2,xc2,yc2,pc2,g2,fun V21 l21=>(c_chg_cmpL (r1.le l21) (r2.le l21)).mono ?_⟩
  rintro r V22 l22 rfl
  exact ⟨_,rfl,_,by and_intros <;> rfl,l21.trans l22,fun h=>⟨by omega,by simpa using h⟩⟩
 rintro t4 V23 l23 ⟨-,ht4⟩
 refine ⟨rfl,fun ht V24 l24 bk e24 h24=>(c_partitionEqualL (V:=V24.lend [bk]) e24 ⟨by simp,h24⟩ (hs20.le fun b o h=>l24 b o (l23 b o h)) (a:=a') (b:=b') (piv:=p) (by omega) (by omega) p0 p1).mono ?_,fun ht V26 l26 bk e26 h26=>(c_partitionL (V:=V26.lend [bk]) e26 ⟨by simp,h26⟩ (hs20.le fun b o h=>l26 b o (l23 b o h)) (a:=a') (b:=b') (piv:=p) (by omega) (by omega) p0 p1).mono ?_⟩
 ·rintro r V25 l25 ⟨mid,rfl,m0,m1,ws,m',e25,hs25,sg25,f1,f2⟩
  obtain ⟨g0,g1⟩:=ht4 ht
  exact ⟨_,rfl,ws,e25,((mid:Int),(b':Int),lim2,wb,wp,ws),by dsimp only; omega,by and_intros <;> rfl,mid,b',m',rfl,rfl,lm0',lm1',hs25.le (le_shut' _),pq.equ ordCL g0 m0 m1 g1 sg25 f1 f2⟩
 ·rintro r V27 l27 ⟨mid,t5,rfl,m0,m1,ws,m',e27,hs27,sg27,f1,f2⟩
  have pq':=pq.change sg27
  have ml':m'.length=l.length:=pq'.seg.len
  have v1:i64.wrap ((mid:Int) - a')=((mid - a':Nat):Int):=by rw [i64w (by omega)]; omega
  have v2:i64.wrap ((b':Int) - mid)=((b' - mid:Nat):Int):=by rw [i64w (by omega)]; omega
  have v3:i64.wrap ((mid:Int) + 1)=((mid + 1:Nat):Int):=by rw [i64w (by omega)]; omega
  refine ⟨_,_,rfl,ws,e27,by decide,?_⟩
  rw [v1,v2,v3]
  refine ⟨fun _ V28 l28 bk e28 h28=>(ih (mid - a') (by omega) (V:=V28.lend [bk]) e28 ⟨by simp,h28⟩ (hs27.le fun b o h=>l28 b o h) (a:=a') (b:=mid) m0 (by omega) (Nat.le_refl _) lm0' lm1' (fun h0 k k1 k2=>pq'.pre h0 k k1 (by omega))).mono ?_,fun _ V30 l30 bk e30 h30=>(ih (b' - (mid + 1)) (by omega) (V:=V30.lend [bk]) e30 ⟨by simp,h30⟩ (hs27.le fun b o h=>l30 b o h) (a:=mid + 1) (b:=b') (by omega) (by omega) (Nat.le_refl _) lm0' lm1' (fun _ k k1 k2=>f2 k (by omega) k2)).mono ?_⟩
  ·rintro r V29 l29 ⟨rfl,us',m2,e29,hs29,sg29,as29⟩
   exact ⟨rfl,us',e29,(((mid + 1:Nat):Int),(b':Int),lim2,_,t5,us'),by dsimp only; omega,by and_intros <;> rfl,mid + 1,b',m2,rfl,rfl,lm0',lm1',hs29.le (le_shut' _),pq'.left ordCL m0 m1 f1 f2 sg29 as29⟩
  ·rintro r V31 l31 ⟨rfl,us',m2,e31,hs31,sg31,as31⟩
   exact ⟨rfl,us',e31,((a':Int),(mid:Int),lim2,_,t5,us'),by dsimp only; omega,by and_intros <;> rfl,a',mid,m2,rfl,rfl,lm0',lm1',hs31.le (le_shut' _),pq'.right ordCL m0 m1 f1 f2 sg31 as31⟩
theorem c_SortFuncL {V:View} {lb n c:Nat} {vs:List Value} {l:List L3} (hw:V.w.heap[lb]?=some (.cells vs.toArray 182 (0,0))) (hx:V.X lb) (h:SRL V n vs l) :
  Acts prog 163 #[.slice (some ⟨lb,0,none⟩) n c,.func (.func 164) #[] #[]] V fun r V'=>r=.tuple #[]/\∃vs' l',V'.w.heap[lb]?=some (.cells vs'.toArray 182 (0,0))/\SRL V' n vs' l'/\l'.Perm l/\l'.Pairwise fun x y=>¬ cCL y x < 0:=by
 have few:=h.few
 have len:=h.len
 have w:u64.wrap (n:Int)=n:=u64w (by omega)
 refine vc_slices_SortFunc_L lb n c vs V _ hw hx ?_
 rw [w]
 refine fun V1 l1=>(c_bits_Len n (by omega)).mono ?_
 rintro r V2 l2 rfl
 have hbl:blen n<=8:=blen_le.2 (by omega)
 refine ⟨_,rfl,fun V3 l3 bk e3 h3=>(c_pdqsortL n (V:=V3.lend [bk]) e3 ⟨by simp,h3⟩ (h.le fun b o h=>l3 b o (l2 b o (l1 b o h))) (a:=0) (b:=n) (lim:=(blen n:Int)) (by omega) (by omega) (by omega) (by omega) (by omega) (fun h=>absurd h (by omega))).mono ?_⟩
 rintro r V4 l4 ⟨rfl,vs',l',e4,hs4,sg,asc⟩
 refine ⟨rfl,vs',e4,fun V5 l5 hw5=>⟨rfl,vs',l',hw5,hs4.le fun b o h=>l5 b o h,sg.perm,?_⟩⟩
 have sl:=sg.len
 refine List.pairwise_iff_getElem.2 fun i j hi hj hij=>?_
 have:=asc i j (by omega) hij (by omega)
 rw [List.getD_eq_getElem?_getD,List.getD_eq_getElem?_getD,List.getElem?_eq_getElem hi,List.getElem?_eq_getElem hj] at this
 simp only [Option.getD_some] at this
 exact this
/-- Nothing to sort. -/
theorem c_SortFunc_nilL {V:View}:Acts prog 163 #[.slice none 0 0,.func (.func 164) #[] #[]] V fun r V'=>r=.tuple #[]:=by
 have ins:∀{W:View},Acts prog 232 #[.slice none 0 0,.int .i64 0,.int .i64 0,.func (.func 164) #[] #[]] W fun r V'=>r=.tuple #[]:=by
  intro W
  refine vc_slices_insertionSortCmpFunc_nil_L 0 0 W _ ⟨fun z _=>z=1,fun _=>0,⟨1,by and_intros <;> first | rfl | exact i64w (by omega),rfl⟩,?_⟩
  rintro z V1 l1 rfl
  exact ⟨rfl,fun h=>absurd (of_decide_eq_true h) (by omega),fun _ V2 l2=>rfl⟩
 refine vc_slices_SortFunc_nil_L V _ fun V1 l1=>(c_bits_Len 0 (by omega)).mono ?_
 rintro r V2 l2 rfl
 refine ⟨_,rfl,fun V3 l3=>?_⟩
 have pdq:Acts prog 212 #[.slice none 0 0,.int .i64 0,.int .i64 0,.int .i64 (blen 0:Int),.func (.func 164) #[] #[]] V3 fun r V'=>r=.tuple #[]:=by
  refine vc_slices_pdqsortCmpFunc_nil_L 0 0 _ V3 _ ⟨fun z _=>z.1=0/\z.2.1=0,fun _=>0,⟨(0,0,_,true,true),by and_intros <;> rfl,rfl,rfl⟩,?_⟩
  rintro ⟨z1,z2,z3,z4,z5⟩ V4 l4 ⟨e1,e2⟩
  dsimp only at e1 e2
  subst e1 e2
  dsimp only
  refine ⟨rfl,fun _ V5 l5=>ins.mono ?_,fun h=>absurd (of_decide_eq_false h) (by decide)⟩
  rintro r V6 l6 rfl
  exact ⟨rfl,fun V7 l7=>rfl⟩
 refine pdq.mono ?_
 rintro r V6 l6 rfl
 exact ⟨rfl,fun V7 l7=>rfl⟩
end Go.Proofs.Tryz
/- By program: the conditions of the functions, from their loaded code. -/
namespace Go.Proofs.Tryz
open Go.Eng
open Go.Value renaming int→I,pointer→P,slice→S,agg→A,bool→B,tuple→T
open Go.IntKind renaming i64→J,u64→U,u32→W
set_option maxRecDepth 100000
theorem vc_slices_CompactFunc_L (g d e:Nat) (f:List Value) (V:View) (R:VR) (hw100000:V.w.heap[g]?=some (.cells f.toArray 182 (0,0))) (hx100000:V.X g) (h:(((decide ((d:Int) < (2:Int)))=true->(∀r,V.Le r->r.w.heap[g]?=some (.cells f.toArray 182 (0,0))->R (S (some ⟨g,0,none⟩) d e) r))/\((decide ((d:Int) < (2:Int)))=false->(∃(s:Int->VP) (a1:Int->Nat),(∃a2:Int,(s3 0 d e (((166:FuncId)=166)/\((1:Int)=a2)/\(f=f)))/\s a2 V)/\∀(b:Int) (m:View),V.Le m->s b m->(true=true/\(((decide (b < (d:Int)))=true->(0<=b/\b < (d:Int))/\(∃a3,∃a4,∃a5,∃a6,∃a7,∃a8,∃a9,∃b0,∃b1,((0 + (b.toNat * 9)) + 9<=f.length/\(f.drop (0 + (b.toNat * 9))).take 9=[I J a3,I J a4,P a5,I J a6,I J a7,P a8,I J a9,I J b0,P b1])/\(0<=(J.wrap (b - (1:Int)))/\(J.wrap (b - (1:Int))) < (d:Int))/\(∃b2,∃b3,∃b4,∃b5,∃b6,∃b7,∃b8,∃b9,∃c0,((0 + (((J.wrap (b - (1:Int))).toNat) * 9)) + 9<=f.length/\(f.drop (0 + (((J.wrap (b - (1:Int))).toNat) * 9))).take 9=[I J b2,I J b3,P b4,I J b5,I J b6,P b7,I J b8,I J b9,P c0])/\(Ca m 166 #[A #[I J a3,I J a4,P a5,I J a6,I J a7,P a8,I J a9,I J b0,P b1],A #[I J b2,I J b3,P b4,I J b5,I J b6,P b7,I J b8,I J b9,P c0]] fun e9 t=>∃u,e9=B u/\((u=true->(0<=b/\b<=(d:Int))/\(∃(n:(Int × Int × (List Value))->VP) (o:(Int × Int × (List Value))->Nat),(∃p,(s3 0 d e (((166:FuncId)=166)/\((slO 0 e b.toNat 9:Nat)=slO 0 e b.toNat 9)/\((d - b.toNat:Nat)=d - b.toNat)/\((e - b.toNat:Nat)=e - b.toNat)/\(b=p.1)/\((1:Int)=p.2.1)/\(f=p.2.2)))/\n p t)/\∀(a:Int × Int × (List Value)) (q:View),t.Le q->n a q->(true=true/\(((decide (a.2.1 < ((d - b.toNat:Nat):Int)))=true->(0<=a.2.1/\a.2.1 < ((d - b.toNat:Nat):Int))/\(∃c1,∃c2,∃c3,∃c4,∃c5,∃c6,∃c7,∃c8,∃c9,(((slO 0 e b.toNat 9) + (a.2.1.toNat * 9)) + 9<=a.2.2.length/\(a.2.2.drop ((slO 0 e b.toNat 9) + (a.2.1.toNat * 9))).take 9=[I J c1,I J c2,P c3,I J c4,I J c5,P c6,I J c7,I J c8,P c9])/\(0<=(J.wrap (a.2.1 - (1:Int)))/\(J.wrap (a.2.1 - (1:Int))) < ((d - b.toNat:Nat):Int))/\(∃d0,∃d1,∃d2,∃d3,∃d4,∃d5,∃d6,∃d7,∃d8,(((slO 0 e b.toNat 9) + (((J.wrap (a.2.1 - (1:Int))).toNat) * 9)) + 9<=a.2.2.length/\(a.2.2.drop ((slO 0 e b.toNat 9) + (((J.wrap (a.2.1 - (1:Int))).toNat) * 9))).take 9=[I J d0,I J d1,P d2,I J d3,I J d4,P d5,I J d6,I J d7,P d8])/\(Ca q 166 #[A #[I J c1,I J c2,P c3,I J c4,I J c5,P c6,I J c7,I J c8,P c9],A #[I J d0,I J d1,P d2,I J d3,I J d4,P d5,I J d6,I J d7,P d8]] fun f0 d9=>∃x,f0=B x/\(((!x)=true->(0<=a.2.1/\a.2.1 < ((d - b.toNat:Nat):Int))/\(∃e0,∃e1,∃e2,∃e3,∃e4,∃e5,∃e6,∃e7,∃e8,(((slO 0 e b.toNat 9) + (a.2.1.toNat * 9)) + 9<=a.2.2.length/\(a.2.2.drop ((slO 0 e b.toNat 9) + (a.2.1.toNat * 9))).take 9=[I J e0,I J e1,P e2,I J e3,I J e4,P e5,I J e6,I J e7,P e8])/\(0<=a.1/\a.1 < (d:Int))/\((0 + (a.1.toNat * 9)) + 9<=a.2.2.length)/\(∃k:Int × Int × (List Value),o k < o a/\(s3 0 d e (((166:FuncId)=166)/\((slO 0 e b.toNat 9:Nat)=slO 0 e b.toNat 9)/\((d - b.toNat:Nat)=d - b.toNat)/\((e - b.toNat:Nat)=e - b.toNat)/\((J.wrap (a.1 + (1:Int)))=k.1)/\((J.wrap (a.2.1 + (1:Int)))=k.2.1)/\((setVals a.2.2 (0 + (a.1.toNat * 9)) [I J e0,I J e1,P e2,I J e3,I J e4,P e5,I J e6,I J e7,P e8])=k.2.2)))/\n k d9)))/\((!x)=false->(∃l:Int × Int × (List Value),o l < o a/\(s3 0 d e (((166:FuncId)=166)/\((slO 0 e b.toNat 9:Nat)=slO 0 e b.toNat 9)/\((d - b.toNat:Nat)=d - b.toNat)/\((e - b.toNat:Nat)=e - b.toNat)/\(a.1=l.1)/\((J.wrap (a.2.1 + (1:Int)))=l.2.1)/\(a.2.2=l.2.2)))/\n l d9)))))))/\((decide (a.2.1 < ((d - b.toNat:Nat):Int)))=false->(0<=a.1/\a.1<=(d:Int))/\((slO 0 e a.1.toNat 9) + ((d - a.1.toNat) * 9)<=a.2.2.length)/\(0<=a.1/\a.1<=(e:Int))/\(∀y,q.Le y->y.w.heap[g]?=some (.cells (a.2.2.take (slO 0 e a.1.toNat 9)++zrow (d - a.1.toNat) [I J 0,I J 0,P none,I J 0,I J 0,P none,I J 0,I J 0,P none]++a.2.2.drop ((slO 0 e a.1.toNat 9) + ((d - a.1.toNat) * 9))).toArray 182 (0,0))->R (S (some ⟨g,0,none⟩) a.1.toNat e) y))))))/\(u=false->(∃z:Int,a1 z < a1 b/\(s3 0 d e (((166:FuncId)=166)/\((J.wrap (b + (1:Int)))=z)/\(f=f)))/\s z t)))))))/\((decide (b < (d:Int)))=false->(∀a0,m.Le a0->a0.w.heap[g]?=some (.cells f.toArray 182 (0,0))->R (S (some ⟨g,0,none⟩) d e) a0)))))))):
 Acts prog 165 #[S (some ⟨g,0,none⟩) d e,.func (.func 166) #[] #[]] V R:=
 fn_does (LF:=LF0) (RF:=[1000010]) (β0:=(upd1 (fun _=>0) 100000 g)) tab_ok mixed [(4,⟨Int,false,[0,1],[100000],fun i=>[(5,.c (.v (I J i)))],fun i=>[]⟩),(9,⟨Int × Int × (List Value),false,[0,1,6],[],fun i=>[(5,.c (.v (I J i.1))),(7,.c (.v (I J i.2.1)))],fun i=>[(100000,⟨.row i.2.2,182⟩)]⟩)] [] func165 (by kernel_rfl) [(0,.c (.slc 100000 0 d e)),(1,.c (.clo 166 []))] [(100000,⟨.row f,182⟩)] (by kernel_rfl) ⟨⟨hw100000,hx100000⟩,trivial,trivial⟩ h (by kernel_rfl)
theorem vc_slices_CompactFunc_nil_L (V:View) (R:VR) (h:(((decide ((0:Int) < (2:Int)))=true->(Rt V R (S none 0 0)))/\((decide ((0:Int) < (2:Int)))=false->(∃(p:Int->VP) (y:Int->Nat),(∃z:Int,(s3 (none:OA) 0 0 (((166:FuncId)=166)/\((1:Int)=z)))/\p z V)/\∀(a:Int) (b:View),V.Le b->p a b->(true=true/\(((decide (a < (0:Int)))=true->((none:OA).isSome=true)/\(0<=a/\a < (0:Int))/\(∃a0,∃a1,∃a2,∃a3,∃a4,∃a5,∃a6,∃a7,∃a8,∃f,addrAdd none (a.toNat * 9)=some f/\b.at (f.add 0) (I J a0)/\b.at (f.add 1) (I J a1)/\b.at (f.add 2) (P a2)/\b.at (f.add 3) (I J a3)/\b.at (f.add 4) (I J a4)/\b.at (f.add 5) (P a5)/\b.at (f.add 6) (I J a6)/\b.at (f.add 7) (I J a7)/\b.at (f.add 8) (P a8)/\((none:OA).isSome=true)/\(0<=(J.wrap (a - (1:Int)))/\(J.wrap (a - (1:Int))) < (0:Int))/\(∃a9,∃b0,∃b1,∃b2,∃b3,∃b4,∃b5,∃b6,∃b7,∃g,addrAdd none (((J.wrap (a - (1:Int))).toNat) * 9)=some g/\b.at (g.add 0) (I J a9)/\b.at (g.add 1) (I J b0)/\b.at (g.add 2) (P b1)/\b.at (g.add 3) (I J b2)/\b.at (g.add 4) (I J b3)/\b.at (g.add 5) (P b4)/\b.at (g.add 6) (I J b5)/\b.at (g.add 7) (I J b6)/\b.at (g.add 8) (P b7)/\(Ca b 166 #[A #[I J a0,I J a1,P a2,I J a3,I J a4,P a5,I J a6,I J a7,P a8],A #[I J a9,I J b0,P b1,I J b2,I J b3,P b4,I J b5,I J b6,P b7]] fun d8 q=>∃r,d8=B r/\((r=true->(0<=a/\a<=(0:Int))/\(∃(s:(Int × Int)->VP) (b8:(Int × Int)->Nat),(∃t,(s3 (none:OA) 0 0 (((166:FuncId)=166)/\((slA none 0 a.toNat 9:OA)=(slA none 0 a.toNat 9))/\((0 - a.toNat:Nat)=(0 - a.toNat))/\((0 - a.toNat:Nat)=(0 - a.toNat))/\(a=t.1)/\((1:Int)=t.2)))/\s t q)/\∀(e:Int × Int) (d:View),q.Le d->s e d->(true=true/\(((decide (e.2 < ((0 - a.toNat:Nat):Int)))=true->((slA none 0 a.toNat 9).isSome=true)/\(0<=e.2/\e.2 < ((0 - a.toNat:Nat):Int))/\(∃b9,∃c0,∃c1,∃c2,∃c3,∃c4,∃c5,∃c6,∃c7,∃i,addrAdd (slA none 0 a.toNat 9) (e.2.toNat * 9)=some i/\d.at (i.add 0) (I J b9)/\d.at (i.add 1) (I J c0)/\d.at (i.add 2) (P c1)/\d.at (i.add 3) (I J c2)/\d.at (i.add 4) (I J c3)/\d.at (i.add 5) (P c4)/\d.at (i.add 6) (I J c5)/\d.at (i.add 7) (I J c6)/\d.at (i.add 8) (P c7)/\((slA none 0 a.toNat 9).isSome=true)/\(0<=(J.wrap (e.2 - (1:Int)))/\(J.wrap (e.2 - (1:Int))) < ((0 - a.toNat:Nat):Int))/\(∃c8,∃c9,∃d0,∃d1,∃d2,∃d3,∃d4,∃d5,∃d6,∃k,addrAdd (slA none 0 a.toNat 9) (((J.wrap (e.2 - (1:Int))).toNat) * 9)=some k/\d.at (k.add 0) (I J c8)/\d.at (k.add 1) (I J c9)/\d.at (k.add 2) (P d0)/\d.at (k.add 3) (I J d1)/\d.at (k.add 4) (I J d2)/\d.at (k.add 5) (P d3)/\d.at (k.add 6) (I J d4)/\d.at (k.add 7) (I J d5)/\d.at (k.add 8) (P d6)/\(Ca d 166 #[A #[I J b9,I J c0,P c1,I J c2,I J c3,P c4,I J c5,I J c6,P c7],A #[I J c8,I J c9,P d0,I J d1,I J d2,P d3,I J d4,I J d5,P d6]] fun d9 l=>∃u,d9=B u/\(((!u)=true->((slA none 0 a.toNat 9).isSome=true)/\(0<=e.2/\e.2 < ((0 - a.toNat:Nat):Int))/\(∃e0,∃e1,∃e2,∃e3,∃e4,∃e5,∃e6,∃e7,∃e8,∃m,addrAdd (slA none 0 a.toNat 9) (e.2.toNat * 9)=some m/\l.at (m.add 0) (I J e0)/\l.at (m.add 1) (I J e1)/\l.at (m.add 2) (P e2)/\l.at (m.add 3) (I J e3)/\l.at (m.add 4) (I J e4)/\l.at (m.add 5) (P e5)/\l.at (m.add 6) (I J e6)/\l.at (m.add 7) (I J e7)/\l.at (m.add 8) (P e8)/\((none:OA).isSome=true)/\(0<=e.1/\e.1 < (0:Int))/\False))/\((!u)=false->(∃o:Int × Int,b8 o < b8 e/\(s3 (none:OA) 0 0 (((166:FuncId)=166)/\((slA none 0 a.toNat 9:OA)=(slA none 0 a.toNat 9))/\((0 - a.toNat:Nat)=(0 - a.toNat))/\((0 - a.toNat:Nat)=(0 - a.toNat))/\(e.1=o.1)/\((J.wrap (e.2 + (1:Int)))=o.2)))/\s o l)))))))/\((decide (e.2 < ((0 - a.toNat:Nat):Int)))=false->(0<=e.1/\e.1<=(0:Int))/\False)))))/\(r=false->(∃w:Int,y w < y a/\(s3 (none:OA) 0 0 (((166:FuncId)=166)/\((J.wrap (a + (1:Int)))=w)))/\p w q)))))))/\((decide (a < (0:Int)))=false->(Rt b R (S none 0 0))))))))):
 Acts prog 165 #[S none 0 0,.func (.func 166) #[] #[]] V R:=
 fn_does (LF:=LF0) (RF:=[1000010]) (β0:=(fun _=>0)) tab_ok mixed [(4,⟨Int,false,[0,1],[],fun n=>[(5,.c (.v (I J n)))],fun n=>[]⟩),(9,⟨Int × Int,false,[0,1,6],[],fun n=>[(5,.c (.v (I J n.1))),(7,.c (.v (I J n.2)))],fun n=>[]⟩)] [] func165 (by kernel_rfl) [(0,.c (.v (S none 0 0))),(1,.c (.clo 166 []))] [] (by kernel_rfl) trivial h (by kernel_rfl)
end Go.Proofs.Tryz
/- slices.CompactFunc of bspregion/geo.Ln (by mksort.py). -/
namespace Go.Proofs.Tryz
open Go.Eng Go.Big
set_option maxHeartbeats 1000000 in
theorem c_CompactFuncL {V:View} {lb n c:Nat} {vs:List Value} {l:List L3} (hw:V.w.heap[lb]?=some (.cells vs.toArray 182 (0,0))) (hx:V.X lb) (h:SRL V n vs l) (hc:n<=c) :
  Acts prog 165 #[.slice (some ⟨lb,0,none⟩) n c,.func (.func 166) #[] #[]] V fun r V'=>∃vs',r=.slice (some ⟨lb,0,none⟩) (cmpt eL l).length c/\V'.w.heap[lb]?=some (.cells vs'.toArray 182 (0,0))/\Row 9 RCL V' vs' (cmpt eL l)/\vs'.length=vs.length:=by
 have few:=h.few
 have len:=h.len
 have hvl:=h.row.len_le (by decide)
 refine vc_slices_CompactFunc_L lb n c vs V _ hw hx ⟨fun h2 V1 l1 hw1=>?_,fun h2=>⟨fun z V'=>∃k:Nat,z=((k + 1:Nat):Int)/\k + 1<=n/\cmpt eL (l.take (k + 1))=l.take (k + 1),fun z=>n - z.toNat,⟨1,by and_intros <;> rfl,0,rfl,by have:=of_decide_eq_false h2; omega,cmpt_one (by rw [List.length_take]; omega)⟩,?_⟩⟩
 ·have h2:(n:Int) < 2:=of_decide_eq_true h2
  have e:=cmpt_one (e:=eL) (l:=l) (by omega)
  rw [e,← len]
  exact ⟨vs,rfl,hw1,h.row.le fun _ _ g=>RCL.le g l1,rfl⟩
 have h2:¬ (n:Int) < 2:=of_decide_eq_false h2
 rintro z V2 l2 ⟨k,rfl,hk,hcm⟩
 have hs2:=h.le l2
 refine ⟨rfl,fun hlt=>?_,fun hlt V9 l9 hw9=>?_⟩
 rotate_left
 ·have hlt:¬ ((k + 1:Nat):Int) < n:=of_decide_eq_false hlt
  have e:l.take (k + 1)=l:=List.take_of_length_le (by omega)
  rw [e] at hcm
  rw [hcm,← len]
  exact ⟨vs,rfl,hw9,h.row.le fun _ _ g=>RCL.le g (l2.trans l9),rfl⟩
 have hlt:((k + 1:Nat):Int) < n:=of_decide_eq_true hlt
 have w1:i64.wrap (((k + 1:Nat):Int) - 1)=(k:Int):=by rw [i64w (by omega)]; omega
 have w2:i64.wrap (((k + 1:Nat):Int) + 1)=((k + 1 + 1:Nat):Int):=by rw [i64w (by omega)]; rfl
 rw [w1,w2,Int.toNat_natCast,Int.toNat_natCast]
 obtain ⟨x1,y1,p1,xb1,yb1,pb1,xc1,yc1,pc1,g1,r1⟩:=hs2.get (k:=k + 1) (by omega)
 obtain ⟨x2,y2,p2,xb2,yb2,pb2,xc2,yc2,pc2,g2,r2⟩:=hs2.get (k:=k) (by omega)
 refine ⟨⟨by omega,hlt⟩,x1,y1,p1,xb1,yb1,pb1,xc1,yc1,pc1,g1,⟨by omega,by omega⟩,x2,y2,p2,xb2,yb2,pb2,xc2,yc2,pc2,g2,fun V3 l3=>(c_eqvL (r1.le l3) (r2.le l3)).mono ?_⟩
 rintro r V4 l4 rfl
 have step:=cmpt_take (e:=eL) (d:=dCL) (l:=l) (k:=k) (by omega)
 refine ⟨_,rfl,fun he=>⟨⟨by omega,by omega⟩,?_⟩,fun he=>⟨((k + 1 + 1:Nat):Int),by dsimp only; omega,by and_intros <;> rfl,k + 1,rfl,by omega,?_⟩⟩
 rotate_left
 ·have he':eL (l.getD (k + 1) dCL) (l.getD k dCL)=false:=he
  rw [step,hcm,he']
  show l.take (k + 1)++[_]=_
  have hi:k + 1 < l.length:=by omega
  rw [show l.getD (k + 1) dCL=l[k + 1] by rw [List.getD_eq_getElem?_getD,List.getElem?_eq_getElem hi]; rfl,List.take_append_getElem hi]
 have he':eL (l.getD (k + 1) dCL) (l.getD k dCL)=true:=he
 have l24:=l3.trans l4
 have so:∀{m:Nat},m < c->slO 0 c m 9=m * 9:=fun hm=>by unfold slO; rw [if_neg (by omega),Nat.zero_add]
 refine ⟨fun z V'=>∃(q t:Nat) (m:List L3),z.1=(q:Int)/\z.2.1=((t + 1:Nat):Int)/\q<=k + 1 + t/\k + 1 + t + 1<=n/\SRL V' n z.2.2 m/\z.2.2.length=vs.length/\(∀i,k + 1 + t<=i->m.getD i dCL=l.getD i dCL)/\m.take q=cmpt eL (l.take (k + 1 + t + 1)),fun z=>n - z.2.1.toNat,
  ⟨(((k + 1:Nat):Int),1,vs),by and_intros <;> rfl,k + 1,0,l,rfl,rfl,by omega,by omega,h.le (l2.trans l24),rfl,fun i _=>rfl,?_⟩,?_⟩
 ·rw [Nat.add_zero,step,he',if_pos rfl,List.append_nil,hcm]
 rintro ⟨zq,zt,us⟩ V5 l5 ⟨q,t,m,e1,e2,hq,ht,hs,hul,hm,hmq⟩
 dsimp only at e1 e2 hs hul
 subst e1 e2
 dsimp only
 have ml:=hs.len
 have mvl:=hs.row.len_le (by decide)
 refine ⟨rfl,fun hlt2=>?_,fun hlt2=>?_⟩
 ·have hlt2:((t + 1:Nat):Int) < ((n - (k + 1):Nat):Int):=of_decide_eq_true hlt2
  have w3:i64.wrap (((t + 1:Nat):Int) - 1)=(t:Int):=by rw [i64w (by omega)]; omega
  have w4:i64.wrap (((t + 1:Nat):Int) + 1)=((t + 1 + 1:Nat):Int):=by rw [i64w (by omega)]; rfl
  have w5:i64.wrap ((q:Int) + 1)=((q + 1:Nat):Int):=by rw [i64w (by omega)]; rfl
  rw [w3,w4,w5,Int.toNat_natCast,Int.toNat_natCast,Int.toNat_natCast,so (by omega)]
  obtain ⟨x1,y1,p1,xb1,yb1,pb1,xc1,yc1,pc1,g1,r1⟩:=hs.get (k:=k + 1 + (t + 1)) (by omega)
  obtain ⟨x2,y2,p2,xb2,yb2,pb2,xc2,yc2,pc2,g2,r2⟩:=hs.get (k:=k + 1 + t) (by omega)
  have a1:(k + 1) * 9 + (t + 1) * 9=0 + (k + 1 + (t + 1)) * 9:=by omega
  have a2:(k + 1) * 9 + t * 9=0 + (k + 1 + t) * 9:=by omega
  rw [a1,a2]
  rw [hm _ (by omega)] at r1
  rw [hm _ (by omega)] at r2
  refine ⟨⟨by omega,hlt2⟩,x1,y1,p1,xb1,yb1,pb1,xc1,yc1,pc1,g1,⟨by omega,by omega⟩,x2,y2,p2,xb2,yb2,pb2,xc2,yc2,pc2,g2,fun V6 l6=>(c_eqvL (r1.le l6) (r2.le l6)).mono ?_⟩
  rintro r V7 l7 rfl
  have l57:=l6.trans l7
  have step2:=cmpt_take (e:=eL) (d:=dCL) (l:=l) (k:=k + 1 + t) (by omega)
  refine ⟨_,rfl,fun hn=>⟨⟨by omega,hlt2⟩,x1,y1,p1,xb1,yb1,pb1,xc1,yc1,pc1,g1,⟨by omega,by omega⟩,by omega,(((q + 1:Nat):Int),((t + 1 + 1:Nat):Int),_),by dsimp only; omega,by and_intros <;> rfl,q + 1,t + 1,m.set q (l.getD (k + 1 + (t + 1)) dCL),rfl,rfl,by omega,by omega,?_,?_,fun i hi=>?_,?_⟩,fun hn=>⟨(((q:Nat):Int),((t + 1 + 1:Nat):Int),us),by dsimp only; omega,by and_intros <;> rfl,q,t + 1,m,rfl,rfl,by omega,by omega,hs.le l57,hul,fun i hi=>hm i (by omega),?_⟩⟩
  ·refine ⟨?_,by rw [List.length_set]; exact ml,by rw [List.length_set]; exact hs.few⟩
   have:=(hs.le l57).row.put (i:=q) (by omega) (by decide) (xs:=[.int .i64 x1,.int .i64 y1,.pointer p1,.int .i64 xb1,.int .i64 yb1,.pointer pb1,.int .i64 xc1,.int .i64 yc1,.pointer pc1]) rfl (r1.le l57)
   dsimp only
   rw [Nat.zero_add]
   exact this
  ·exact (setVals_len (vs:=us) (xs:=[.int .i64 x1,.int .i64 y1,.pointer p1,.int .i64 xb1,.int .i64 yb1,.pointer pb1,.int .i64 xc1,.int .i64 yc1,.pointer pc1]) (o:=0 + q * 9) (by show 0 + q * 9 + 9<=_; omega)).trans hul
  ·rw [List.getD_eq_getElem?_getD,List.getElem?_set_ne (by omega),← List.getD_eq_getElem?_getD]
   exact hm i (by omega)
  ·have hn1:eL (l.getD (k + 1 + (t + 1)) dCL) (l.getD (k + 1 + t) dCL)=false:=by simpa using hn
   have hn':eL (l.getD (k + 1 + t + 1) dCL) (l.getD (k + 1 + t) dCL)=false:=hn1
   have hi:q < m.length:=by omega
   rw [show k + 1 + (t + 1) + 1=k + 1 + t + 2 from rfl,step2,hn',← hmq,if_neg (by decide)]
   rw [List.take_set,List.take_add_one,List.getElem?_eq_getElem hi,show (some m[q]).toList=[m[q]] from rfl]
   rw [List.set_append_right _ _ (by rw [List.length_take]; omega),List.length_take,Nat.min_eq_left (by omega),Nat.sub_self]
   rfl
  ·have hn1:eL (l.getD (k + 1 + (t + 1)) dCL) (l.getD (k + 1 + t) dCL)=true:=by simpa using hn
   have hn':eL (l.getD (k + 1 + t + 1) dCL) (l.getD (k + 1 + t) dCL)=true:=hn1
   rw [show k + 1 + (t + 1) + 1=k + 1 + t + 2 from rfl,step2,hn',if_pos rfl,List.append_nil,hmq]
 ·have hlt2:¬ ((t + 1:Nat):Int) < ((n - (k + 1):Nat):Int):=of_decide_eq_false hlt2
  have hl:l.take (k + 1 + t + 1)=l:=List.take_of_length_le (by omega)
  rw [hl] at hmq
  have hql:q < n:=by
   have:=cptF_lt (e:=eL) (d:=dCL) (l:=l) (k:=k) (by omega) he'
   rw [← hmq,List.length_take] at this
   omega
  rw [Int.toNat_natCast,so (by omega)]
  have hz:q * 9 + (n - q) * 9=n * 9:=by rw [← Nat.add_mul]; congr 1; omega
  rw [hz]
  refine ⟨⟨by omega,by omega⟩,by omega,⟨by omega,by omega⟩,fun V8 l8 hw8=>⟨_,?_,hw8,?_,?_⟩⟩
  ·rw [← hmq,List.length_take,Nat.min_eq_left (by omega)]
  ·rw [← hmq,List.append_assoc]
   exact (hs.row.le fun _ _ g=>RCL.le g l8).cleared (by omega) (by decide)
  ·simp only [List.length_append,List.length_take,List.length_drop,zrow_eq,List.length_flatten,List.map_replicate,List.sum_replicate_nat,List.length_cons,List.length_nil]
   omega
theorem c_CompactFunc_nilL {V:View}:Acts prog 165 #[.slice none 0 0,.func (.func 166) #[] #[]] V fun r V'=>r=.slice none 0 0:=
 vc_slices_CompactFunc_nil_L V _ ⟨fun _ V1 l1=>rfl,fun h=>absurd (of_decide_eq_false h) (by decide)⟩
end Go.Proofs.Tryz
