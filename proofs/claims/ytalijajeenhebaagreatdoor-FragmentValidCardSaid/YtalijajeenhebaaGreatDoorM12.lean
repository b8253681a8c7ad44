/- A part of the proof (joined by program from: NumH, NumI, NumJ, VRef, RefA, RefB, RefC, VGeo, GeoA, GeoB, GeoC, VLine). -/
import Derived.Test.YtalijajeenhebaaGreatDoorM11
import Derived.Test.YtalijajeenhebaaGreatDoorM9
import Derived.Test.YtalijajeenhebaaGreatDoorM10
import Derived.Test.YtalijajeenhebaaGreatDoorM5
set_option linter.unusedVariables false
open Go.IntKind (i64 u64 u32)
/- Contracts of the reference's integers: Make, Int, Sign, Minus, Add, Mul. -/
namespace Go.Proofs.Tryz
open Go.Eng Go.Big
theorem c_num_Make {V:View} (b:Bool) {p:OA} {n c x:Nat} (h:RN V p n c x) :
  Acts prog 109 #[.bool b,.slice p n c] V fun r V'=>RI V' r (if b then -(x:Int) else x):=by
 have hp:=len_pos_digs h.len
 refine vc_num_Make b p n c V _ ⟨fun h0 V1 l1=>?_,fun h0 V1 l1=>?_⟩
 ·rw [if_pos h0]
  refine RI.mk ?_ ?_
  ·rw [Bool.eq_iff_iff,decide_eq_true_eq,decide_eq_true_eq]
   omega
  ·rw [Int.natAbs_neg,Int.natAbs_natCast]; exact h.le l1
 ·rw [h0,if_neg (by decide)]
  refine RI.mk ?_ ?_
  ·symm; rw [decide_eq_false_iff_not]; omega
  ·rw [Int.natAbs_natCast]; exact h.le l1
theorem make_fin {V:View} {b:Bool} {p:OA} {n c x:Nat} {z:Int} (h:RN V p n c x) (hz:(if b then -(x:Int) else x)=z) :
  Acts prog 109 #[.bool b,.slice p n c] V fun r V'=>∃(b1_:Bool) (p2_:OA) (n2_ c2_:Nat),r=.agg #[.bool b1_,.slice p2_ n2_ c2_]/\∀V3:View,V'.Le V3->RI V3 (.agg #[.bool b1_,.slice p2_ n2_ c2_]) z:=by
 refine (c_num_Make b h).mono ?_
 rintro r V2 l2 ⟨p1,n1,c1,rfl,g⟩
 rw [hz] at g ⊢
 exact ⟨_,_,_,_,rfl,fun V3 l3=>⟨_,_,_,rfl,g.le l3⟩⟩
theorem c_num_Sign {V:View} (z:Int) {p:OA} {n c:Nat} (h:RN V p n c z.natAbs) :
  Acts prog 97 #[.agg #[.bool (decide (z < 0)),.slice p n c]] V fun r V'=>r=.int .i64 z.sign:=by
 have hp:=len_pos_digs h.len
 refine vc_num_Sign _ p n c V _ ⟨fun h0 V1 l1=>?_,fun h0=>⟨fun h1 V1 l1=>?_,fun h1 V1 l1=>?_⟩⟩
 ·have:z=0:=by simp at h0; omega
  rw [this]; rfl
 ·rw [decide_eq_true_eq] at h1
  rw [Int.sign_eq_neg_one_of_neg h1]
 ·rw [decide_eq_false_iff_not] at h1
  have:0 < z:=by simp at h0; omega
  rw [Int.sign_eq_one_of_pos this]
theorem c_num_Minus {V:View} (z:Int) {p:OA} {n c:Nat} (h:RN V p n c z.natAbs) :
  Acts prog 130 #[.agg #[.bool (decide (z < 0)),.slice p n c]] V fun r V'=>RI V' r (-z):=by
 refine vc_num_Minus _ p n c V _ fun V1 l1=>make_fin (h.le l1) ?_
 by_cases hz:z < 0 <;> simp [hz] <;> omega
theorem c_num_Mul {V:View} (z w:Int) {p q:OA} {n c m e:Nat} (ha:RN V p n c z.natAbs) (hb:RN V q m e w.natAbs) (hm:(digs z.natAbs).length + (digs w.natAbs).length<=1099511627776) :
  Acts prog 140 #[.agg #[.bool (decide (z < 0)),.slice p n c],.agg #[.bool (decide (w < 0)),.slice q m e]] V fun r V'=>RI V' r (z * w):=by
 refine vc_num_Mul _ p n c _ q m e V _ fun V1 l1=>(c_num_Product (ha.le l1) (hb.le l1) hm).mono ?_
 rintro r V2 l2 ⟨p1,n1,c1,rfl,g1⟩
 rw [val_digs,val_digs] at g1
 refine ⟨_,_,_,rfl,fun V3 l3=>make_fin (g1.le l3) ?_⟩
 have e1:z=ival (decide (z < 0)) (digs z.natAbs):=(ival_digs z).symm
 have e2:w=ival (decide (w < 0)) (digs w.natAbs):=(ival_digs w).symm
 conv=>rhs; rw [e1,e2]
 unfold ival
 rw [val_digs,val_digs]
 cases decide (z < 0) <;> cases decide (w < 0) <;> simp [Int.neg_mul,Int.mul_neg]
theorem c_num_Add {V:View} (z w:Int) {p q:OA} {n c m e:Nat} (ha:RN V p n c z.natAbs) (hb:RN V q m e w.natAbs) (hm:(digs z.natAbs).length<=1099511627776) (hn:(digs w.natAbs).length<=1099511627776) :
  Acts prog 139 #[.agg #[.bool (decide (z < 0)),.slice p n c],.agg #[.bool (decide (w < 0)),.slice q m e]] V fun r V'=>RI V' r (z + w):=by
 refine vc_num_Add _ p n c _ q m e V _ ⟨fun h0 V1 l1=>(c_num_Sum (ha.le l1) (hb.le l1) hm hn).mono ?_,fun h0 V1 l1=>(c_num_Cmp (ha.le l1) (hb.le l1) hm hn).mono ?_⟩
 ·rintro r V2 l2 ⟨p1,n1,c1,rfl,g1⟩
  rw [val_digs,val_digs] at g1
  refine ⟨_,_,_,rfl,fun V3 l3=>make_fin (g1.le l3) ?_⟩
  by_cases hz:z < 0 <;> by_cases hw:w < 0 <;> simp [hz,hw] at h0 ⊢ <;> omega
 ·rintro r V2 l2 rfl
  refine ⟨_,rfl,fun h2 V3 l3=>?_,fun h2 V3 l3=>?_⟩
  ·have h2:z.natAbs < w.natAbs:=by simpa [cmpN_neg] using h2
   refine (c_num_Less (hb.le (l1.trans (l2.trans l3))) (ha.le (l1.trans (l2.trans l3))) hn (digs_len_mono (Nat.le_of_lt h2)) (by rw [val_digs,val_digs]; omega)).mono ?_
   rintro r V4 l4 ⟨p1,n1,c1,rfl,g1⟩
   rw [val_digs,val_digs] at g1
   refine ⟨_,_,_,rfl,fun V5 l5=>make_fin (g1.le l5) ?_⟩
   by_cases hz:z < 0 <;> by_cases hw:w < 0 <;> simp [hz,hw] at h0 ⊢ <;> omega
  ·have h2:w.natAbs<=z.natAbs:=by simpa [← Int.not_lt,cmpN_neg] using h2
   refine (c_num_Less (ha.le (l1.trans (l2.trans l3))) (hb.le (l1.trans (l2.trans l3))) hm (digs_len_mono h2) (by rw [val_digs,val_digs]; omega)).mono ?_
   rintro r V4 l4 ⟨p1,n1,c1,rfl,g1⟩
   rw [val_digs,val_digs] at g1
   refine ⟨_,_,_,rfl,fun V5 l5=>make_fin (g1.le l5) ?_⟩
   by_cases hz:z < 0 <;> by_cases hw:w < 0 <;> simp [hz,hw] at h0 ⊢ <;> omega
end Go.Proofs.Tryz
/- Contracts of the reference's rational numbers: Den, Frac, Of, S, Opp. -/
namespace Go.Eng
open Go.Big
/-- The digits of a denominator; none stands for 1. -/
def dend (d:Nat):List Nat:=if d=1 then [] else digs d
/-- A rational number of the reference. -/
def RQ (V:View) (v:Value) (q:Rat):Prop:=∃p n c p' n' c',v=.agg #[.bool (decide (q.num < 0)),.slice p n c,.slice p' n' c'] /\
 RD V p n c (digs q.num.natAbs)/\RD V p' n' c' (dend q.den)
theorem RQ.le {V V':View} {v:Value} {q:Rat} (h:RQ V v q) (l:V.Le V'):RQ V' v q:=by
 obtain ⟨p,n,c,p',n',c',e,h1,h2⟩:=h
 exact ⟨p,n,c,p',n',c',e,h1.le l,h2.le l⟩
theorem dend_nil {q:Rat}:dend q.den=[]↔q.den=1:=by
 unfold dend
 split
 ·rename_i h; simp [h]
 ·rename_i h
  rw [digs_eq_nil]
  have:=q.den_nz
  omega
end Go.Eng
namespace Go.Proofs.Tryz
open Go.Eng Go.Big
theorem dend_len {V:View} {q:Rat} {p:OA} {n c:Nat} (h:RD V p n c (dend q.den)):n=0↔q.den=1:=by
 rw [← dend_nil,h.len,List.length_eq_zero_iff]
theorem c_num_Den {V:View} (q:Rat) {p p':OA} {n c n' c':Nat} (b:Bool) (h2:RD V p' n' c' (dend q.den)) :
  Acts prog 106 #[.agg #[.bool b,.slice p n c,.slice p' n' c']] V fun r V'=>∃p1 n1 c1,r=.slice p1 n1 c1/\RN V' p1 n1 c1 q.den:=by
 have hl:=dend_len h2
 refine vc_num_Den b p n c p' n' c' V _ ⟨fun h0 V1 l1=>c_num_One.mono ?_,fun h0 V1 l1=>⟨_,_,_,rfl,?_⟩⟩
 ·rintro r V2 l2 ⟨p1,n1,c1,rfl,g⟩
  have:q.den=1:=hl.1 (by simp at h0; omega)
  rw [this]
  exact ⟨_,_,_,rfl,fun V3 l3=>⟨_,_,_,rfl,g.le l3⟩⟩
 ·have:q.den≠1:=fun e=>by have:=hl.2 e; simp at h0; omega
  unfold dend at h2
  rw [if_neg this] at h2
  exact h2.le l1
theorem rq_of {V:View} {q:Rat} {z:Int} {d:Nat} {p p':OA} {n c n' c':Nat} (hn:q.num=z) (hd:q.den=d) (h1:RD V p n c (digs z.natAbs)) (h2:RD V p' n' c' (dend d)) {b:Bool} (hb:b=decide (z < 0)) :
  RQ V (.agg #[.bool b,.slice p n c,.slice p' n' c']) q:=by
 subst hn hd hb
 exact ⟨_,_,_,_,_,_,rfl,h1,h2⟩
theorem c_num_Frac {V:View} (z:Int) {d:Nat} {p q:OA} {n c m e:Nat} (hx:RN V p n c z.natAbs) (hy:RN V q m e d) (hm:(digs z.natAbs).length<=274877906944) (hn:(digs d).length<=274877906944) (hd:d≠0) :
  Acts prog 120 #[.agg #[.bool (decide (z < 0)),.slice p n c],.slice q m e] V fun r V'=>RQ V' r (mkRat z d):=by
 refine vc_num_Frac _ p n c q m e V _ fun V1 l1=>(c_num_Common (hx.le l1) (hy.le l1) hm hn).mono ?_
 rintro r V2 l2 ⟨p1,n1,c1,rfl,hg⟩
 have hgd:=Nat.gcd_dvd_right z.natAbs d
 have hgx:=Nat.gcd_dvd_left z.natAbs d
 have hgp:0 < Nat.gcd z.natAbs d:=Nat.gcd_pos_of_pos_right _ (by omega)
 have hgl:(digs (Nat.gcd z.natAbs d)).length<=274877906944:=Nat.le_trans (digs_len_mono (Nat.le_of_dvd (by omega) hgd)) hn
 have hnum:(mkRat z d).num=z / (Nat.gcd d z.natAbs:Nat):=by rw [Rat.num_mkRat,if_neg hd]
 have hden:(mkRat z d).den=d / Nat.gcd d z.natAbs:=by rw [Rat.den_mkRat,if_neg hd]
 rw [Nat.gcd_comm d] at hnum hden
 generalize hG:Nat.gcd z.natAbs d=g at *
 generalize mkRat z d=w at *
 refine ⟨_,_,_,rfl,fun V3 l3=>c_num_One.mono ?_⟩
 rintro r V4 l4 ⟨p2,n2,c2,rfl,h1⟩
 refine ⟨_,_,_,rfl,fun V5 l5=>(c_num_Cmp (hg.le (l3.trans (l4.trans l5))) (h1.le l5) (by omega) (by decide)).mono ?_⟩
 rintro r V6 l6 rfl
 replace hx:=hx.le (l1.trans (l2.trans (l3.trans (l4.trans (l5.trans l6)))))
 replace hy:=hy.le (l1.trans (l2.trans (l3.trans (l4.trans (l5.trans l6)))))
 replace hg:=hg.le (l3.trans (l4.trans (l5.trans l6)))
 refine ⟨_,rfl,fun h0 V7 l7=>(c_num_Divide (hx.le l7) (hg.le l7) hm hgl hgp).mono ?_,fun h0 V19 l19=>c_num_One.mono ?_⟩
 ·rintro r V8 l8 ⟨p4,n4,c4,p5,n5,c5,rfl,g1,-⟩
  have hnd:(mkRat z d).num.natAbs=(mkRat z d).num.natAbs:=rfl
  obtain ⟨k,hk⟩:=hgx
  have hk1:z.natAbs / g=k:=by rw [hk,Nat.mul_div_cancel_left _ hgp]
  rw [hk1] at g1
  have hz:z=(g:Int) * (if z < 0 then -(k:Int) else k):=by
   split
   ·rw [Int.mul_neg,← Int.natCast_mul,← hk]; omega
   ·rw [← Int.natCast_mul,← hk]; omega
  have hwn:w.num=(if z < 0 then -(k:Int) else k):=by
   rw [hnum]
   generalize (if z < 0 then -(k:Int) else k)=t at *
   rw [hz,Int.mul_ediv_cancel_left _ (by omega)]
  refine ⟨_,_,_,_,_,_,rfl,fun V9 l9=>(c_num_Make _ (g1.le l9)).mono ?_⟩
  have hite:(if decide (z < 0)=true then -(k:Int) else k)=w.num:=by
   rw [hwn]; simp
  rw [hite]
  rintro r V10 l10 ⟨p7,n7,c7,rfl,g2⟩
  refine ⟨_,_,_,_,rfl,fun V11 l11=>(c_num_Divide (hy.le (l7.trans (l8.trans (l9.trans (l10.trans l11))))) (hg.le (l7.trans (l8.trans (l9.trans (l10.trans l11))))) hn hgl hgp).mono ?_⟩
  rintro r V12 l12 ⟨p8,n8,c8,p9,n9,c9,rfl,g3,-⟩
  rw [← hden] at g3
  refine ⟨_,_,_,_,_,_,rfl,fun V13 l13=>c_num_One.mono ?_⟩
  rintro r V14 l14 ⟨p10,n10,c10,rfl,g4⟩
  have hdl:(digs w.den).length<=274877906944:=by rw [hden]; exact Nat.le_trans (digs_len_mono (Nat.div_le_self _ _)) hn
  refine ⟨_,_,_,rfl,fun V15 l15=>(c_num_Cmp (g3.le (l13.trans (l14.trans l15))) (g4.le l15) (by omega) (by decide)).mono ?_⟩
  rintro r V16 l16 rfl
  refine ⟨_,rfl,fun h9 V17 l17=>rq_of rfl rfl (g2.le (l11.trans (l12.trans (l13.trans (l14.trans (l15.trans (l16.trans l17))))))) ?_ rfl,fun h9 V18 l18=>rq_of rfl rfl (g2.le (l11.trans (l12.trans (l13.trans (l14.trans (l15.trans (l16.trans l18))))))) ?_ rfl⟩
  ·have:w.den=1:=cmpN_zero.1 (by simpa using h9)
   rw [dend_nil.2 this]; exact RD.nil
  ·have:w.den≠1:=fun e=>by rw [cmpN_zero.2 e] at h9; simp at h9
   unfold dend
   rw [if_neg this]
   exact g3.le (l13.trans (l14.trans (l15.trans (l16.trans l18))))
 ·have hg1:g=1:=cmpN_zero.1 (by simpa using h0)
  have hwn:w.num=z:=by rw [hnum,hg1]; simp
  have hwd:w.den=d:=by rw [hden,hg1]; simp
  rintro r V20 l20 ⟨p12,n12,c12,rfl,g4⟩
  refine ⟨_,_,_,rfl,fun V21 l21=>(c_num_Cmp (hy.le (l19.trans (l20.trans l21))) (g4.le l21) (by omega) (by decide)).mono ?_⟩
  rintro r V22 l22 rfl
  refine ⟨_,rfl,fun h9 V17 l17=>rq_of hwn hwd (hx.le (l19.trans (l20.trans (l21.trans (l22.trans l17))))) ?_ rfl,fun h9 V18 l18=>rq_of hwn hwd (hx.le (l19.trans (l20.trans (l21.trans (l22.trans l18))))) ?_ rfl⟩
  ·have:d=1:=cmpN_zero.1 (by simpa using h9)
   unfold dend
   rw [if_pos this]; exact RD.nil
  ·have:d≠1:=fun e=>by rw [cmpN_zero.2 e] at h9; simp at h9
   unfold dend
   rw [if_neg this]
   exact hy.le (l19.trans (l20.trans (l21.trans (l22.trans l18))))
theorem c_num_S {V:View} (q:Rat) {p p':OA} {n c n' c':Nat} (h1:RD V p n c (digs q.num.natAbs)) :
  Acts prog 44 #[.agg #[.bool (decide (q.num < 0)),.slice p n c,.slice p' n' c']] V fun r V'=>r=.int .i64 q.num.sign:=by
 refine vc_num_S _ p n c p' n' c' V _ fun V1 l1=>(c_num_Sign q.num (h1.le l1)).mono ?_
 rintro r V2 l2 rfl
 exact ⟨_,rfl,fun V3 l3=>rfl⟩
theorem c_num_Opp {V:View} (q:Rat) {p p':OA} {n c n' c':Nat} (h1:RD V p n c (digs q.num.natAbs)) (h2:RD V p' n' c' (dend q.den)) :
  Acts prog 72 #[.agg #[.bool (decide (q.num < 0)),.slice p n c,.slice p' n' c']] V fun r V'=>RQ V' r (-q):=by
 refine vc_num_Opp _ p n c p' n' c' V _ fun V1 l1=>(c_num_Minus q.num (h1.le l1)).mono ?_
 rintro r V2 l2 ⟨p1,n1,c1,rfl,g⟩
 exact ⟨_,_,_,_,rfl,fun V3 l3=>rq_of (q:=-q) (z:=-q.num) (d:=q.den) (by rfl) (by rfl) (g.le l3) ((h2.le l1).le (l2.trans l3)) rfl⟩
end Go.Proofs.Tryz
/- Contracts of the reference's rational numbers: Plus, Sub, Times, C. -/
namespace Go.Proofs.Tryz
open Go.Eng Go.Big
theorem c_num_pos {V:View} {p:OA} {n c x:Nat} (h:RN V p n c x) :
  Acts prog 109 #[.bool false,.slice p n c] V fun r V'=>RI V' r (x:Int):=by
 have:=c_num_Make false h
 rwa [if_neg (by decide)] at this
theorem den_one_len {x:Rat} {k:Nat} (h:Sz k x):(digs x.num.natAbs).length<=k/\(digs x.den).length<=k/\(digs (x.den:Int).natAbs).length<=k:=⟨digs_len_bits h.1,digs_len_bits h.2,digs_len_bits h.2⟩
theorem c_num_Plus {V:View} {v w:Value} {x y:Rat} (hx:RQ V v x) (hy:RQ V w y) {k m:Nat} (hk:Sz k x) (hm:Sz m y) (hkm:k + m < 274877906944) :
  Acts prog 80 #[v,w] V fun r V'=>RQ V' r (x + y):=by
 obtain ⟨p,n,c,p',n',c',rfl,hx1,hx2⟩:=hx
 obtain ⟨q,i,e,q',i',e',rfl,hy1,hy2⟩:=hy
 have hlx:=dend_len hx2
 have hly:=dend_len hy2
 obtain ⟨b1,b2,b3,b4⟩:=add_bits hk hm
 obtain ⟨d1,d2,d3⟩:=den_one_len hk
 obtain ⟨d4,d5,d6⟩:=den_one_len hm
 have hxy:x + y=mkRat (x.num * y.den + y.num * x.den) (x.den * y.den):=Rat.add_def' x y
 refine (fun tail=>vc_num_Plus _ p n c p' n' c' _ q i e q' i' e' V _ ⟨fun h0=>⟨fun h1 V1 l1=>?_,fun _=>tail⟩,fun _=>tail⟩) ?_
 ·clear tail
  have h0:x.den=1:=hlx.1 (by simp at h0; omega)
  have h1:y.den=1:=hly.1 (by simp at h1; omega)
  refine (c_num_Add x.num y.num (hx1.le l1) (hy1.le l1) (by omega) (by omega)).mono ?_
  rintro r V2 l2 ⟨p2,n2,c2,rfl,g⟩
  have e1:x + y=((x.num + y.num:Int):Rat):=by
   rw [hxy,h0,h1]; simp [Rat.mkRat_one]
  rw [e1]
  exact ⟨_,_,_,_,rfl,fun V3 l3=>rq_of (z:=x.num + y.num) (d:=1) rfl rfl (g.le l3) RD.nil rfl⟩
 ·intro V1 l1
  refine (c_num_Den y _ (hy2.le l1)).mono ?_
  rintro r V2 l2 ⟨p1,n1,c1,rfl,g1⟩
  refine ⟨_,_,_,rfl,fun V3 l3=>(c_num_pos (g1.le l3)).mono ?_⟩
  rintro r V4 l4 ⟨p3,n3,c3,rfl,g3⟩
  have l04:=l1.trans (l2.trans (l3.trans l4))
  refine ⟨_,_,_,_,rfl,fun V5 l5=>(c_num_Mul x.num y.den (hx1.le (l04.trans l5)) (g3.le l5) (by omega)).mono ?_⟩
  rintro r V6 l6 ⟨p5,n5,c5,rfl,g5⟩
  have l06:=l04.trans (l5.trans l6)
  refine ⟨_,_,_,_,rfl,fun V7 l7=>(c_num_Den x _ (hx2.le (l06.trans l7))).mono ?_⟩
  rintro r V8 l8 ⟨p7,n7,c7,rfl,g7⟩
  have l08:=l06.trans (l7.trans l8)
  refine ⟨_,_,_,rfl,fun V9 l9=>(c_num_pos (g7.le l9)).mono ?_⟩
  rintro r V10 l10 ⟨p9,n9,c9,rfl,g9⟩
  have l10':=l08.trans (l9.trans l10)
  refine ⟨_,_,_,_,rfl,fun V11 l11=>(c_num_Mul y.num x.den (hy1.le (l10'.trans l11)) (g9.le l11) (by omega)).mono ?_⟩
  rintro r V12 l12 ⟨p11,n11,c11,rfl,g11⟩
  have l012:=l10'.trans (l11.trans l12)
  refine ⟨_,_,_,_,rfl,fun V13 l13=>(c_num_Add _ _ (g5.le (l7.trans (l8.trans (l9.trans (l10.trans (l11.trans (l12.trans l13))))))) (g11.le l13) (Nat.le_trans (digs_len_bits b1) (by omega)) (Nat.le_trans (digs_len_bits b2) (by omega))).mono ?_⟩
  rintro r V14 l14 ⟨p13,n13,c13,rfl,g13⟩
  have l014:=l012.trans (l13.trans l14)
  refine ⟨_,_,_,_,rfl,fun V15 l15=>(c_num_Den x _ (hx2.le (l014.trans l15))).mono ?_⟩
  rintro r V16 l16 ⟨p15,n15,c15,rfl,g15⟩
  have l016:=l014.trans (l15.trans l16)
  refine ⟨_,_,_,rfl,fun V17 l17=>(c_num_Den y _ (hy2.le (l016.trans l17))).mono ?_⟩
  rintro r V18 l18 ⟨p17,n17,c17,rfl,g17⟩
  refine ⟨_,_,_,rfl,fun V19 l19=>(c_num_Product (g15.le (l17.trans (l18.trans l19))) (g17.le l19) (by omega)).mono ?_⟩
  rintro r V20 l20 ⟨p19,n19,c19,rfl,g19⟩
  rw [val_digs,val_digs] at g19
  refine ⟨_,_,_,rfl,fun V21 l21=>(c_num_Frac _ (g13.le (l15.trans (l16.trans (l17.trans (l18.trans (l19.trans (l20.trans l21))))))) (g19.le l21) (Nat.le_trans (digs_len_bits b3) (by omega)) (Nat.le_trans (digs_len_bits b4) (by omega)) (Nat.mul_ne_zero x.den_nz y.den_nz)).mono ?_⟩
  rw [hxy]
  rintro r V22 l22 ⟨p21,n21,c21,p22,n22,c22,rfl,g21,g22⟩
  exact ⟨_,_,_,_,_,_,_,rfl,fun V23 l23=>⟨_,_,_,_,_,_,rfl,g21.le l23,g22.le l23⟩⟩
theorem c_num_Sub {V:View} {v w:Value} {x y:Rat} (hx:RQ V v x) (hy:RQ V w y) {k m:Nat} (hk:Sz k x) (hm:Sz m y) (hkm:k + m < 274877906944) :
  Acts prog 95 #[v,w] V fun r V'=>RQ V' r (x - y):=by
 have hx0:=hx
 obtain ⟨p,n,c,p',n',c',rfl,hx1,hx2⟩:=hx
 obtain ⟨q,i,e,q',i',e',rfl,hy1,hy2⟩:=hy
 refine vc_num_Sub _ p n c p' n' c' _ q i e q' i' e' V _ fun V1 l1=>(c_num_Opp y (hy1.le l1) (hy2.le l1)).mono ?_
 rintro r V2 l2 h2
 obtain ⟨p1,n1,c1,p2,n2,c2,rfl,g1,g2⟩:=id h2
 refine ⟨_,_,_,_,_,_,_,rfl,fun V3 l3=>(c_num_Plus (hx0.le (l1.trans (l2.trans l3))) (h2.le l3) hk hm.neg hkm).mono ?_⟩
 rw [← Rat.sub_eq_add_neg]
 rintro r V4 l4 ⟨p3,n3,c3,p4,n4,c4,rfl,g3,g4⟩
 exact ⟨_,_,_,_,_,_,_,rfl,fun V5 l5=>⟨_,_,_,_,_,_,rfl,g3.le l5,g4.le l5⟩⟩
theorem c_num_C {V:View} {v w:Value} {x y:Rat} (hx:RQ V v x) (hy:RQ V w y) {k m:Nat} (hk:Sz k x) (hm:Sz m y) (hkm:k + m < 274877906944) :
  Acts prog 129 #[v,w] V fun r V'=>r=.int .i64 (cmpQ x y):=by
 have hx0:=hx
 have hy0:=hy
 obtain ⟨p,n,c,p',n',c',rfl,hx1,hx2⟩:=hx
 obtain ⟨q,i,e,q',i',e',rfl,hy1,hy2⟩:=hy
 refine vc_num_C _ p n c p' n' c' _ q i e q' i' e' V _ fun V1 l1=>(c_num_Sub (hx0.le l1) (hy0.le l1) hk hm hkm).mono ?_
 rintro r V2 l2 ⟨p1,n1,c1,p2,n2,c2,rfl,g1,g2⟩
 refine ⟨_,_,_,_,_,_,_,rfl,fun V3 l3=>(c_num_S (x - y) (g1.le l3)).mono ?_⟩
 rintro r V4 l4 rfl
 exact ⟨_,rfl,fun V5 l5=>rfl⟩
theorem c_num_Times {V:View} {v w:Value} {x y:Rat} (hx:RQ V v x) (hy:RQ V w y) {k m:Nat} (hk:Sz k x) (hm:Sz m y) (hkm:k + m < 274877906944) :
  Acts prog 98 #[v,w] V fun r V'=>RQ V' r (x * y):=by
 obtain ⟨p,n,c,p',n',c',rfl,hx1,hx2⟩:=hx
 obtain ⟨q,i,e,q',i',e',rfl,hy1,hy2⟩:=hy
 have hlx:=dend_len hx2
 have hly:=dend_len hy2
 obtain ⟨d1,d2,d3⟩:=den_one_len hk
 obtain ⟨d4,d5,d6⟩:=den_one_len hm
 have hxy:x * y=mkRat (x.num * y.num) (x.den * y.den):=Rat.mul_def' x y
 have b1:(x.num * y.num).natAbs < 2 ^ (k + m):=by rw [Int.natAbs_mul]; exact pow_mul_lt hk.1 hm.1
 have b2:x.den * y.den < 2 ^ (k + m):=pow_mul_lt hk.2 hm.2
 refine (fun tail=>vc_num_Times _ p n c p' n' c' _ q i e q' i' e' V _ ⟨fun h0=>⟨fun h1 V1 l1=>?_,fun _=>tail⟩,fun _=>tail⟩) ?_
 ·clear tail
  have h0:x.den=1:=hlx.1 (by simp at h0; omega)
  have h1:y.den=1:=hly.1 (by simp at h1; omega)
  refine (c_num_Mul x.num y.num (hx1.le l1) (hy1.le l1) (by omega)).mono ?_
  rintro r V2 l2 ⟨p2,n2,c2,rfl,g⟩
  have e1:x * y=((x.num * y.num:Int):Rat):=by
   rw [hxy,h0,h1]; simp [Rat.mkRat_one]
  rw [e1]
  exact ⟨_,_,_,_,rfl,fun V3 l3=>rq_of (z:=x.num * y.num) (d:=1) rfl rfl (g.le l3) RD.nil rfl⟩
 ·intro V1 l1
  refine (c_num_Mul x.num y.num (hx1.le l1) (hy1.le l1) (by omega)).mono ?_
  rintro r V2 l2 ⟨p2,n2,c2,rfl,g2⟩
  refine ⟨_,_,_,_,rfl,fun V3 l3=>(c_num_Den x _ (hx2.le (l1.trans (l2.trans l3)))).mono ?_⟩
  rintro r V4 l4 ⟨p4,n4,c4,rfl,g4⟩
  refine ⟨_,_,_,rfl,fun V5 l5=>(c_num_Den y _ (hy2.le (l1.trans (l2.trans (l3.trans (l4.trans l5)))))).mono ?_⟩
  rintro r V6 l6 ⟨p6,n6,c6,rfl,g6⟩
  refine ⟨_,_,_,rfl,fun V7 l7=>(c_num_Product (g4.le (l5.trans (l6.trans l7))) (g6.le l7) (by omega)).mono ?_⟩
  rintro r V8 l8 ⟨p8,n8,c8,rfl,g8⟩
  rw [val_digs,val_digs] at g8
  refine ⟨_,_,_,rfl,fun V9 l9=>(c_num_Frac _ (g2.le (l3.trans (l4.trans (l5.trans (l6.trans (l7.trans (l8.trans l9))))))) (g8.le l9) (Nat.le_trans (digs_len_bits b1) (by omega)) (Nat.le_trans (digs_len_bits b2) (by omega)) (Nat.mul_ne_zero x.den_nz y.den_nz)).mono ?_⟩
  rw [hxy]
  rintro r V22 l22 ⟨p21,n21,c21,p22,n22,c22,rfl,g21,g22⟩
  exact ⟨_,_,_,_,_,_,_,rfl,fun V23 l23=>⟨_,_,_,_,_,_,rfl,g21.le l23,g22.le l23⟩⟩
end Go.Proofs.Tryz
/- By program: the conditions of the functions, from their loaded code. -/
namespace Go.Proofs.Tryz
open Go.Eng
set_option maxRecDepth 100000
theorem vc_ref01_ToN (ap:OA) (an ac:Nat) (V:View) (R:Value->View->Prop)
  (h:(∃xs1_:List Value,V.sl ap xs1_/\xs1_.length=an * 1/\((0 + an) * 4<=140737488355328/\0<=0/\0 * 1<=([]:List Value).length/\xs1_.length=an * 1/\(∀v ∈ xs1_,v.oneCell'=true)/\∀(bk4_:Nat) (J5_:C->Value) (sp2_:List Value) (c3_:Nat),0 + an<=c3_->c3_ * 1<=(0 + an) * 1 + sp2_.length->(∀V1:View,V.Le V1->∀bk6_:Nat,(V1.blk bk6_ (.cells (([]:List Value).take (0 * 1)++xs1_++sp2_).toArray 244 (0,0)))->R (.slice (some ⟨bk6_,0,none⟩) (0 + an) c3_) V1)))) :
  Acts prog 105 #[.slice ap an ac] V R:=
 fn_does (LF:=LF0) (RF:=[1000007]) (β0:=(fun _=>0)) tab_ok mixed [] [] func105 (by kernel_rfl)
  [(0,.c (.v (.slice ap an ac)))]
  [] (by kernel_rfl) trivial h (by kernel_rfl)
theorem vc_ref01_ToI (a0:Bool) (a1p:OA) (a1n a1c:Nat) (V:View) (R:Value->View->Prop)
  (h:(∀V1:View,V.Le V1->Acts prog 105 #[.slice a1p a1n a1c] V1 fun r1_ V2=>∃(p1_:OA) (n1_ c1_:Nat),r1_=.slice p1_ n1_ c1_/\(∀V3:View,V2.Le V3->R (.agg #[.bool a0,.slice p1_ n1_ c1_]) V3))) :
  Acts prog 93 #[.agg #[.bool a0,.slice a1p a1n a1c]] V R:=
 fn_does (LF:=LF0) (RF:=[1000007]) (β0:=(fun _=>0)) tab_ok mixed [] [] func93 (by kernel_rfl)
  [(0,.agg [.v (.bool a0),.v (.slice a1p a1n a1c)])]
  [] (by kernel_rfl) trivial h (by kernel_rfl)
theorem vc_ref01_SameN (ap:OA) (an ac:Nat) (bp:OA) (bn bc:Nat) (V:View) (R:Value->View->Prop)
  (h:(((((an:Nat):Int) != ((bn:Nat):Int))=true->(∀V1:View,V.Le V1->R (.bool false) V1))/\((((an:Nat):Int) != ((bn:Nat):Int))=false->(∃(I1_:Int->View->Prop) (m2_:Int->Nat),(∃z3_:Int,(sm ap/\sm an/\sm ac/\sm bp/\sm bn/\sm bc/\sm ((an:Nat):Int)/\((0:Int)=z3_))/\I1_ z3_ V)/\∀(z4_:Int) (V2:View),V.Le V2->I1_ z4_ V2->(true=true/\(((decide (z4_ < ((an:Nat):Int)))=true->(ap.isSome=true)/\(0<=z4_/\z4_ < ((an:Nat):Int))/\(∃x5_:Int,(∃a6_,addrAdd ap (z4_.toNat * 1)=some a6_/\V2.at a6_ (.int .u32 x5_))/\(bp.isSome=true)/\(0<=z4_/\z4_ < ((bn:Nat):Int))/\(∃x7_:Int,(∃a8_,addrAdd bp (z4_.toNat * 1)=some a8_/\V2.at a8_ (.int .u32 x7_))/\(((x5_ != x7_)=true->(∀V3:View,V2.Le V3->R (.bool false) V3))/\((x5_ != x7_)=false->(∃z9_:Int,m2_ z9_ < m2_ z4_/\(sm ap/\sm an/\sm ac/\sm bp/\sm bn/\sm bc/\sm ((an:Nat):Int)/\((i64.wrap (z4_ + (1:Int)))=z9_))/\I1_ z9_ V2))))))/\((decide (z4_ < ((an:Nat):Int)))=false->(∀V4:View,V2.Le V4->R (.bool true) V4)))))))) :
  Acts prog 119 #[.slice ap an ac,.slice bp bn bc] V R:=
 fn_does (LF:=LF0) (RF:=[1000007]) (β0:=(fun _=>0)) tab_ok mixed [(4,{ τ:=Int,keep:=[0,1,12],keepB:=[],slots:=fun z=>[(13,.c (.v (.int .i64 z)))],boxes:=fun z=>[] })] [] func119 (by kernel_rfl)
  [(0,.c (.v (.slice ap an ac))),(1,.c (.v (.slice bp bn bc)))]
  [] (by kernel_rfl) trivial h (by kernel_rfl)
theorem vc_ref01_SameI (a0:Bool) (a1p:OA) (a1n a1c:Nat) (b0:Bool) (b1p:OA) (b1n b1c:Nat) (V:View) (R:Value->View->Prop)
  (h:(((a0 == b0)=true->(∀V1:View,V.Le V1->Acts prog 119 #[.slice a1p a1n a1c,.slice b1p b1n b1c] V1 fun r1_ V2=>∃b1_:Bool,r1_=.bool b1_/\(∀V3:View,V2.Le V3->R (.bool b1_) V3)))/\((a0 == b0)=false->(∀V4:View,V.Le V4->R (.bool false) V4)))) :
  Acts prog 114 #[.agg #[.bool a0,.slice a1p a1n a1c],.agg #[.bool b0,.slice b1p b1n b1c]] V R:=
 fn_does (LF:=LF0) (RF:=[1000007]) (β0:=(fun _=>0)) tab_ok mixed [] [] func114 (by kernel_rfl)
  [(0,.agg [.v (.bool a0),.v (.slice a1p a1n a1c)]),(1,.agg [.v (.bool b0),.v (.slice b1p b1n b1c)])]
  [] (by kernel_rfl) trivial h (by kernel_rfl)
theorem vc_ref04_ToL (l0:Bool) (l1p:OA) (l1n l1c:Nat) (l2:Bool) (l3p:OA) (l3n l3c:Nat) (l4:Bool) (l5p:OA) (l5n l5c:Nat) (V:View) (R:Value->View->Prop)
  (h:(∀V1:View,V.Le V1->Acts prog 93 #[.agg #[.bool l0,.slice l1p l1n l1c]] V1 fun r1_ V2=>∃b1_:Bool,∃(p2_:OA) (n2_ c2_:Nat),r1_=.agg #[.bool b1_,.slice p2_ n2_ c2_]/\(∀V3:View,V2.Le V3->Acts prog 93 #[.agg #[.bool l2,.slice l3p l3n l3c]] V3 fun r3_ V4=>∃b3_:Bool,∃(p4_:OA) (n4_ c4_:Nat),r3_=.agg #[.bool b3_,.slice p4_ n4_ c4_]/\(∀V5:View,V4.Le V5->Acts prog 93 #[.agg #[.bool l4,.slice l5p l5n l5c]] V5 fun r5_ V6=>∃b5_:Bool,∃(p6_:OA) (n6_ c6_:Nat),r5_=.agg #[.bool b5_,.slice p6_ n6_ c6_]/\(∀V7:View,V6.Le V7->R (.agg #[.bool b1_,.slice p2_ n2_ c2_,.bool b3_,.slice p4_ n4_ c4_,.bool b5_,.slice p6_ n6_ c6_]) V7))))) :
  Acts prog 41 #[.agg #[.bool l0,.slice l1p l1n l1c,.bool l2,.slice l3p l3n l3c,.bool l4,.slice l5p l5n l5c]] V R:=
 fn_does (LF:=LF0) (RF:=[1000007]) (β0:=(fun _=>0)) tab_ok mixed [] [] func41 (by kernel_rfl)
  [(0,.agg [.v (.bool l0),.v (.slice l1p l1n l1c),.v (.bool l2),.v (.slice l3p l3n l3c),.v (.bool l4),.v (.slice l5p l5n l5c)])]
  [] (by kernel_rfl) trivial h (by kernel_rfl)
theorem vc_ref04_SameL (a0:Bool) (a1p:OA) (a1n a1c:Nat) (a2:Bool) (a3p:OA) (a3n a3c:Nat) (a4:Bool) (a5p:OA) (a5n a5c:Nat) (b0:Bool) (b1p:OA) (b1n b1c:Nat) (b2:Bool) (b3p:OA) (b3n b3c:Nat) (b4:Bool) (b5p:OA) (b5n b5c:Nat) (V:View) (R:Value->View->Prop)
  (h:(∀V1:View,V.Le V1->Acts prog 114 #[.agg #[.bool a0,.slice a1p a1n a1c],.agg #[.bool b0,.slice b1p b1n b1c]] V1 fun r1_ V2=>∃b1_:Bool,r1_=.bool b1_/\((b1_=true->(∀V3:View,V2.Le V3->Acts prog 114 #[.agg #[.bool a2,.slice a3p a3n a3c],.agg #[.bool b2,.slice b3p b3n b3c]] V3 fun r3_ V4=>∃b2_:Bool,r3_=.bool b2_/\((b2_=true->(∀V5:View,V4.Le V5->Acts prog 114 #[.agg #[.bool a4,.slice a5p a5n a5c],.agg #[.bool b4,.slice b5p b5n b5c]] V5 fun r5_ V6=>∃b3_:Bool,r5_=.bool b3_/\(∀V7:View,V6.Le V7->R (.bool b3_) V7)))/\(b2_=false->(∀V8:View,V4.Le V8->R (.bool false) V8)))))/\(b1_=false->(∀V9:View,V2.Le V9->R (.bool false) V9))))) :
  Acts prog 54 #[.agg #[.bool a0,.slice a1p a1n a1c,.bool a2,.slice a3p a3n a3c,.bool a4,.slice a5p a5n a5c],.agg #[.bool b0,.slice b1p b1n b1c,.bool b2,.slice b3p b3n b3c,.bool b4,.slice b5p b5n b5c]] V R:=
 fn_does (LF:=LF0) (RF:=[1000007]) (β0:=(fun _=>0)) tab_ok mixed [] [] func54 (by kernel_rfl)
  [(0,.agg [.v (.bool a0),.v (.slice a1p a1n a1c),.v (.bool a2),.v (.slice a3p a3n a3c),.v (.bool a4),.v (.slice a5p a5n a5c)]),(1,.agg [.v (.bool b0),.v (.slice b1p b1n b1c),.v (.bool b2),.v (.slice b3p b3n b3c),.v (.bool b4),.v (.slice b5p b5n b5c)])]
  [] (by kernel_rfl) trivial h (by kernel_rfl)
end Go.Proofs.Tryz
/- Contracts of the references 01 and 04: ToN, ToI, SameN, SameI, points. -/
namespace Go.Eng
open Go.Big
/-- A point of the reference. -/
def RP (V:View) (v:Value) (x y:Rat):Prop:=∃p n c p' n' c' q m e q' m' e',v=.agg #[.bool (decide (x.num < 0)),.slice p n c,.slice p' n' c',.bool (decide (y.num < 0)),.slice q m e,.slice q' m' e'] /\
 RQ V (.agg #[.bool (decide (x.num < 0)),.slice p n c,.slice p' n' c']) x/\RQ V (.agg #[.bool (decide (y.num < 0)),.slice q m e,.slice q' m' e']) y
theorem RP.le {V V':View} {v:Value} {x y:Rat} (h:RP V v x y) (l:V.Le V'):RP V' v x y:=by
 obtain ⟨p,n,c,p',n',c',q,m,e,q',m',e',rfl,h1,h2⟩:=h
 exact ⟨p,n,c,p',n',c',q,m,e,q',m',e',rfl,h1.le l,h2.le l⟩
theorem RQ.shape {V:View} {v:Value} {q:Rat} (h:RQ V v q):∃p n c p' n' c',v=.agg #[.bool (decide (q.num < 0)),.slice p n c,.slice p' n' c']:=by
 obtain ⟨p,n,c,p',n',c',e,-⟩:=h; exact ⟨_,_,_,_,_,_,e⟩
end Go.Eng
namespace Go.Proofs.Tryz
open Go.Eng Go.Big
theorem c_ref01_ToN {V:View} {p:OA} {n c:Nat} {ds:List Nat} (h:RD V p n c ds) (hm:ds.length<=1099511627776) :
  Acts prog 105 #[.slice p n c] V fun r V'=>∃p1 n1 c1,r=.slice p1 n1 c1/\RD V' p1 n1 c1 ds:=by
 have hl:=h.len
 refine vc_ref01_ToN p n c V _ ⟨u32s ds,h.sl,by simp [hl],by omega,by omega,by simp,by simp [hl],?_,?_⟩
 ·intro v hv
  simp only [u32s,List.mem_map] at hv
  obtain ⟨d,-,rfl⟩:=hv
  rfl
 ·intro bk J sp c' h1 h2 V1 l1 b hb
  refine ⟨_,_,_,rfl,?_⟩
  simp only [Nat.zero_add,Nat.zero_mul,List.take_zero,List.nil_append] at hb h1 ⊢
  exact copied h.dig hl h1 hb
theorem c_ref01_ToI {V:View} {v:Value} {z:Int} (h:RI V v z) (hm:(digs z.natAbs).length<=1099511627776) :
  Acts prog 93 #[v] V fun r V'=>RI V' r z:=by
 obtain ⟨p,n,c,rfl,h⟩:=h
 refine vc_ref01_ToI _ p n c V _ fun V1 l1=>(c_ref01_ToN (h.le l1) hm).mono ?_
 rintro r V2 l2 ⟨p1,n1,c1,rfl,g⟩
 exact ⟨_,_,_,rfl,fun V3 l3=>⟨_,_,_,rfl,g.le l3⟩⟩
end Go.Proofs.Tryz
/- Contracts of the references 01 and 04: SameN, SameI, lines. -/
namespace Go.Eng
open Go.Big
/-- A line with integer coefficients, of the reference or of package api. -/
def RL (V:View) (v:Value) (a b c:Int):Prop:=∃p n s p' n' s' q m e,v=.agg #[.bool (decide (a < 0)),.slice p n s,.bool (decide (b < 0)),.slice p' n' s',.bool (decide (c < 0)),.slice q m e] /\
 RD V p n s (digs a.natAbs)/\RD V p' n' s' (digs b.natAbs)/\RD V q m e (digs c.natAbs)
theorem RL.le {V V':View} {v:Value} {a b c:Int} (h:RL V v a b c) (l:V.Le V'):RL V' v a b c:=by
 obtain ⟨p,n,s,p',n',s',q,m,e,rfl,h1,h2,h3⟩:=h
 exact ⟨p,n,s,p',n',s',q,m,e,rfl,h1.le l,h2.le l,h3.le l⟩
end Go.Eng
namespace Go.Proofs.Tryz
open Go.Eng Go.Big
theorem c_ref01_SameN {V:View} {p q:OA} {n c m e:Nat} {xs ys:List Nat} (hx:RD V p n c xs) (hy:RD V q m e ys) (hm:xs.length<=1099511627776) :
  Acts prog 119 #[.slice p n c,.slice q m e] V fun r V'=>r=.bool (decide (xs=ys)):=by
 have hlx:=hx.len
 have hly:=hy.len
 refine vc_ref01_SameN p n c q m e V _ ⟨fun h0 V1 l1=>?_,fun h0=>?_⟩
 ·have h0:n≠m:=by simp at h0; omega
  rw [decide_eq_false fun h=>h0 (by rw [hlx,hly,h])]
 ·have h0:n=m:=by simp at h0; omega
  refine ⟨fun z V'=>0<=z/\z<=n/\xs.take z.toNat=ys.take z.toNat,fun z=>n - z.toNat,⟨0,by (try dsimp only); and_intros <;> first | exact True.intro | rfl,by (try dsimp only); omega,by (try dsimp only); omega,rfl⟩,?_⟩
  rintro i V2 l2 ⟨hi0,hi1,ht⟩
  dsimp only at hi1 ht ⊢
  obtain ⟨i,rfl⟩:=Int.eq_ofNat_of_zero_le hi0
  simp only [Int.toNat_natCast] at ht
  refine ⟨by trivial,fun h3=>?_,fun h3 V4 l4=>?_⟩
  ·have h3:i < n:=by simpa using h3
   refine (hx.le l2).rd i rfl (by omega) ((hy.le l2).rd i rfl (by omega) ⟨fun h4 V8 l8=>?_,fun h4=>?_⟩)
   ·have h4:xs[i]≠ys[i]:=by simp at h4; omega
    rw [decide_eq_false fun h=>h4 (by subst h; rfl)]
   ·have h4:xs[i]=ys[i]:=by simp at h4; omega
    have w:i64.wrap ((i:Int) + 1)=((i + 1:Nat):Int):=by rw [i64w (by omega)]; omega
    simp only [w]
    refine ⟨((i + 1:Nat):Int),?_,by (try dsimp only); and_intros <;> first | exact True.intro | rfl,by (try dsimp only); omega,by (try dsimp only); omega,?_⟩
    ·(try dsimp only); omega
    ·(try dsimp only)
     simp only [Int.toNat_natCast]
     rw [List.take_succ_eq_append_getElem (by omega),List.take_succ_eq_append_getElem (l:=ys) (by omega),ht,h4]
  ·have h3:i=n:=by simp at h3; omega
   rw [List.take_of_length_le (by omega),List.take_of_length_le (by omega)] at ht
   rw [decide_eq_true ht]
theorem same_int {z w:Int}:(decide (z < 0) == decide (w < 0))=true->(decide (digs z.natAbs=digs w.natAbs)=decide (z=w)):=by
 intro h
 have h1:(z < 0↔w < 0):=by simpa using h
 rw [Bool.eq_iff_iff,decide_eq_true_eq,decide_eq_true_eq]
 constructor
 ·intro h2
  have:=digs_inj h2
  omega
 ·intro h2; rw [h2]
theorem c_ref01_SameI {V:View} {z w:Int} {p q:OA} {n c m e:Nat} (hx:RD V p n c (digs z.natAbs)) (hy:RD V q m e (digs w.natAbs)) (hm:(digs z.natAbs).length<=1099511627776) :
  Acts prog 114 #[.agg #[.bool (decide (z < 0)),.slice p n c],.agg #[.bool (decide (w < 0)),.slice q m e]] V fun r V'=>r=.bool (decide (z=w)):=by
 refine vc_ref01_SameI _ p n c _ q m e V _ ⟨fun h0 V1 l1=>(c_ref01_SameN (hx.le l1) (hy.le l1) hm).mono ?_,fun h0 V1 l1=>?_⟩
 ·rintro r V2 l2 rfl
  refine ⟨_,rfl,fun V3 l3=>?_⟩
  rw [same_int h0]
 ·rw [decide_eq_false fun h=>by subst h; simp at h0]
theorem c_ref04_SameL {V:View} {v w:Value} {a b c a' b' c':Int} (hx:RL V v a b c) (hy:RL V w a' b' c') (h1:(digs a.natAbs).length<=1099511627776) (h2:(digs b.natAbs).length<=1099511627776) (h3:(digs c.natAbs).length<=1099511627776) :
  Acts prog 54 #[v,w] V fun r V'=>r=.bool (decide (a=a'/\b=b'/\c=c')):=by
 obtain ⟨p,n,s,p',n',s',q,m,e,rfl,x1,x2,x3⟩:=hx
 obtain ⟨i,j,k,i',j',k',i2,j2,k2,rfl,y1,y2,y3⟩:=hy
 refine vc_ref04_SameL _ p n s _ p' n' s' _ q m e _ i j k _ i' j' k' _ i2 j2 k2 V _ fun V1 l1=>(c_ref01_SameI (x1.le l1) (y1.le l1) h1).mono ?_
 rintro r V2 l2 rfl
 refine ⟨_,rfl,fun g1 V3 l3=>(c_ref01_SameI (x2.le (l1.trans (l2.trans l3))) (y2.le (l1.trans (l2.trans l3))) h2).mono ?_,fun g1 V9 l9=>?_⟩
 ·rintro r V4 l4 rfl
  rw [decide_eq_true_eq] at g1
  refine ⟨_,rfl,fun g2 V5 l5=>(c_ref01_SameI (x3.le (l1.trans (l2.trans (l3.trans (l4.trans l5))))) (y3.le (l1.trans (l2.trans (l3.trans (l4.trans l5))))) h3).mono ?_,fun g2 V8 l8=>?_⟩
  ·rintro r V6 l6 rfl
   rw [decide_eq_true_eq] at g2
   refine ⟨_,rfl,fun V7 l7=>?_⟩
   congr 1
   rw [Bool.eq_iff_iff,decide_eq_true_eq,decide_eq_true_eq]
   exact ⟨fun h=>⟨g1,g2,h⟩,fun h=>h.2.2⟩
  ·rw [decide_eq_false_iff_not] at g2
   rw [decide_eq_false fun h=>g2 h.2.1]
 ·rw [decide_eq_false_iff_not] at g1
  rw [decide_eq_false fun h=>g1 h.1]
theorem c_ref04_ToL {V:View} {v:Value} {a b c:Int} (hx:RL V v a b c) (h1:(digs a.natAbs).length<=1099511627776) (h2:(digs b.natAbs).length<=1099511627776) (h3:(digs c.natAbs).length<=1099511627776) :
  Acts prog 41 #[v] V fun r V'=>RL V' r a b c:=by
 obtain ⟨p,n,s,p',n',s',q,m,e,rfl,x1,x2,x3⟩:=hx
 refine vc_ref04_ToL _ p n s _ p' n' s' _ q m e V _ fun V1 l1=>(c_ref01_ToI ⟨_,_,_,rfl,x1.le l1⟩ h1).mono ?_
 rintro r V2 l2 ⟨p1,n1,c1,rfl,g1⟩
 refine ⟨_,_,_,_,rfl,fun V3 l3=>(c_ref01_ToI ⟨_,_,_,rfl,x2.le (l1.trans (l2.trans l3))⟩ h2).mono ?_⟩
 rintro r V4 l4 ⟨p2,n2,c2,rfl,g2⟩
 refine ⟨_,_,_,_,rfl,fun V5 l5=>(c_ref01_ToI ⟨_,_,_,rfl,x3.le (l1.trans (l2.trans (l3.trans (l4.trans l5))))⟩ h3).mono ?_⟩
 rintro r V6 l6 ⟨p3,n3,c3,rfl,g3⟩
 exact ⟨_,_,_,_,rfl,fun V7 l7=>⟨_,_,_,_,_,_,_,_,_,rfl,g1.le (l3.trans (l4.trans (l5.trans (l6.trans l7)))),g2.le (l5.trans (l6.trans l7)),g3.le l7⟩⟩
end Go.Proofs.Tryz
/- Contracts of the reference 04: MakeL. -/
namespace Go.Proofs.Tryz
open Go.Eng Go.Big
/-- The greatest common divisor of three coefficients. -/
def gcd3 (a b c:Int):Nat:=Nat.gcd (Nat.gcd a.natAbs b.natAbs) c.natAbs
end Go.Proofs.Tryz
/- By program: the conditions of the functions, from their loaded code. -/
namespace Go.Proofs.Tryz
open Go.Eng
set_option maxRecDepth 100000
theorem vc_geo_LnOf (l0:Bool) (l1p:OA) (l1n l1c:Nat) (l2:Bool) (l3p:OA) (l3n l3c:Nat) (l4:Bool) (l5p:OA) (l5n l5c:Nat) (V:View) (R:Value->View->Prop)
  (h:(∀V1:View,V.Le V1->Acts prog 151 #[.agg #[.bool l0,.slice l1p l1n l1c]] V1 fun r1_ V2=>∃b1_:Bool,r1_=.bool b1_/\(((!b1_)=true->(∀V3:View,V2.Le V3->R (.tuple #[.agg #[.int .i64 0,.int .i64 0,.pointer none,.int .i64 0,.int .i64 0,.pointer none,.int .i64 0,.int .i64 0,.pointer none],.bool false]) V3))/\((!b1_)=false->(∀V4:View,V2.Le V4->Acts prog 151 #[.agg #[.bool l2,.slice l3p l3n l3c]] V4 fun r4_ V5=>∃b2_:Bool,r4_=.bool b2_/\(((!b2_)=true->(∀V6:View,V5.Le V6->R (.tuple #[.agg #[.int .i64 0,.int .i64 0,.pointer none,.int .i64 0,.int .i64 0,.pointer none,.int .i64 0,.int .i64 0,.pointer none],.bool false]) V6))/\((!b2_)=false->(∀V7:View,V5.Le V7->Acts prog 151 #[.agg #[.bool l4,.slice l5p l5n l5c]] V7 fun r7_ V8=>∃b3_:Bool,r7_=.bool b3_/\(((!b3_)=true->(∀V9:View,V8.Le V9->R (.tuple #[.agg #[.int .i64 0,.int .i64 0,.pointer none,.int .i64 0,.int .i64 0,.pointer none,.int .i64 0,.int .i64 0,.pointer none],.bool false]) V9))/\((!b3_)=false->(∀V10:View,V8.Le V10->Acts prog 152 #[.agg #[.bool l0,.slice l1p l1n l1c]] V10 fun r10_ V11=>∃x4_:Int,∃x5_:Int,∃p6_:OA,r10_=.agg #[.int .i64 x4_,.int .i64 x5_,.pointer p6_]/\(∀V12:View,V11.Le V12->Acts prog 152 #[.agg #[.bool l2,.slice l3p l3n l3c]] V12 fun r12_ V13=>∃x7_:Int,∃x8_:Int,∃p9_:OA,r12_=.agg #[.int .i64 x7_,.int .i64 x8_,.pointer p9_]/\(∀V14:View,V13.Le V14->Acts prog 152 #[.agg #[.bool l4,.slice l5p l5n l5c]] V14 fun r14_ V15=>∃x10_:Int,∃x11_:Int,∃p12_:OA,r14_=.agg #[.int .i64 x10_,.int .i64 x11_,.pointer p12_]/\(∀V16:View,V15.Le V16->Acts prog 153 #[.agg #[.int .i64 x4_,.int .i64 x5_,.pointer p6_]] V16 fun r16_ V17=>∃b13_:Bool,r16_=.bool b13_/\((b13_=true->(∀V18:View,V17.Le V18->Acts prog 153 #[.agg #[.int .i64 x7_,.int .i64 x8_,.pointer p9_]] V18 fun r18_ V19=>∃b14_:Bool,r18_=.bool b14_/\((b14_=true->(∀V20:View,V19.Le V20->R (.tuple #[.agg #[.int .i64 0,.int .i64 0,.pointer none,.int .i64 0,.int .i64 0,.pointer none,.int .i64 0,.int .i64 0,.pointer none],.bool false]) V20))/\(b14_=false->(∀V21:View,V19.Le V21->Acts prog 154 #[.agg #[.int .i64 x4_,.int .i64 x5_,.pointer p6_],.agg #[.int .i64 x7_,.int .i64 x8_,.pointer p9_]] V21 fun r21_ V22=>∃x15_:Int,∃x16_:Int,∃p17_:OA,r21_=.agg #[.int .i64 x15_,.int .i64 x16_,.pointer p17_]/\(∀V23:View,V22.Le V23->Acts prog 154 #[.agg #[.int .i64 x15_,.int .i64 x16_,.pointer p17_],.agg #[.int .i64 x10_,.int .i64 x11_,.pointer p12_]] V23 fun r23_ V24=>∃x18_:Int,∃x19_:Int,∃p20_:OA,r23_=.agg #[.int .i64 x18_,.int .i64 x19_,.pointer p20_]/\(∀V25:View,V24.Le V25->Acts prog 127 #[.int .i64 1] V25 fun r25_ V26=>∃x21_:Int,∃x22_:Int,∃p23_:OA,r25_=.agg #[.int .i64 x21_,.int .i64 x22_,.pointer p23_]/\(∀V27:View,V26.Le V27->Acts prog 143 #[.agg #[.int .i64 x18_,.int .i64 x19_,.pointer p20_],.agg #[.int .i64 x21_,.int .i64 x22_,.pointer p23_]] V27 fun r27_ V28=>∃b24_:Bool,r27_=.bool b24_/\(((!b24_)=true->(∀V29:View,V28.Le V29->R (.tuple #[.agg #[.int .i64 0,.int .i64 0,.pointer none,.int .i64 0,.int .i64 0,.pointer none,.int .i64 0,.int .i64 0,.pointer none],.bool false]) V29))/\((!b24_)=false->(∀V30:View,V28.Le V30->R (.tuple #[.agg #[.int .i64 x4_,.int .i64 x5_,.pointer p6_,.int .i64 x7_,.int .i64 x8_,.pointer p9_,.int .i64 x10_,.int .i64 x11_,.pointer p12_],.bool true]) V30)))))))))))/\(b13_=false->(∀V31:View,V17.Le V31->Acts prog 154 #[.agg #[.int .i64 x4_,.int .i64 x5_,.pointer p6_],.agg #[.int .i64 x7_,.int .i64 x8_,.pointer p9_]] V31 fun r31_ V32=>∃x25_:Int,∃x26_:Int,∃p27_:OA,r31_=.agg #[.int .i64 x25_,.int .i64 x26_,.pointer p27_]/\(∀V33:View,V32.Le V33->Acts prog 154 #[.agg #[.int .i64 x25_,.int .i64 x26_,.pointer p27_],.agg #[.int .i64 x10_,.int .i64 x11_,.pointer p12_]] V33 fun r33_ V34=>∃x28_:Int,∃x29_:Int,∃p30_:OA,r33_=.agg #[.int .i64 x28_,.int .i64 x29_,.pointer p30_]/\(∀V35:View,V34.Le V35->Acts prog 127 #[.int .i64 1] V35 fun r35_ V36=>∃x31_:Int,∃x32_:Int,∃p33_:OA,r35_=.agg #[.int .i64 x31_,.int .i64 x32_,.pointer p33_]/\(∀V37:View,V36.Le V37->Acts prog 143 #[.agg #[.int .i64 x28_,.int .i64 x29_,.pointer p30_],.agg #[.int .i64 x31_,.int .i64 x32_,.pointer p33_]] V37 fun r37_ V38=>∃b34_:Bool,r37_=.bool b34_/\(((!b34_)=true->(∀V39:View,V38.Le V39->R (.tuple #[.agg #[.int .i64 0,.int .i64 0,.pointer none,.int .i64 0,.int .i64 0,.pointer none,.int .i64 0,.int .i64 0,.pointer none],.bool false]) V39))/\((!b34_)=false->(∀V40:View,V38.Le V40->R (.tuple #[.agg #[.int .i64 x4_,.int .i64 x5_,.pointer p6_,.int .i64 x7_,.int .i64 x8_,.pointer p9_,.int .i64 x10_,.int .i64 x11_,.pointer p12_],.bool true]) V40))))))))))))))))))))))) :
  Acts prog 90 #[.agg #[.bool l0,.slice l1p l1n l1c,.bool l2,.slice l3p l3n l3c,.bool l4,.slice l5p l5n l5c]] V R:=
 fn_does (LF:=LF0) (RF:=[1000007]) (β0:=(fun _=>0)) tab_ok mixed [] [] func90 (by kernel_rfl)
  [(0,.agg [.v (.bool l0),.v (.slice l1p l1n l1c),.v (.bool l2),.v (.slice l3p l3n l3c),.v (.bool l4),.v (.slice l5p l5n l5c)])]
  [] (by kernel_rfl) trivial h (by kernel_rfl)
theorem vc_geo_Ln_API (l0:Int) (l1:Int) (l2:OA) (l3:Int) (l4:Int) (l5:OA) (l6:Int) (l7:Int) (l8:OA) (V:View) (R:Value->View->Prop)
  (h:(∀V1:View,V.Le V1->Acts prog 165 #[.agg #[.int .i64 l0,.int .i64 l1,.pointer l2]] V1 fun r1_ V2=>∃b1_:Bool,∃(p2_:OA) (n2_ c2_:Nat),r1_=.agg #[.bool b1_,.slice p2_ n2_ c2_]/\(∀V3:View,V2.Le V3->Acts prog 165 #[.agg #[.int .i64 l3,.int .i64 l4,.pointer l5]] V3 fun r3_ V4=>∃b3_:Bool,∃(p4_:OA) (n4_ c4_:Nat),r3_=.agg #[.bool b3_,.slice p4_ n4_ c4_]/\(∀V5:View,V4.Le V5->Acts prog 165 #[.agg #[.int .i64 l6,.int .i64 l7,.pointer l8]] V5 fun r5_ V6=>∃b5_:Bool,∃(p6_:OA) (n6_ c6_:Nat),r5_=.agg #[.bool b5_,.slice p6_ n6_ c6_]/\(∀V7:View,V6.Le V7->R (.agg #[.bool b1_,.slice p2_ n2_ c2_,.bool b3_,.slice p4_ n4_ c4_,.bool b5_,.slice p6_ n6_ c6_]) V7))))) :
  Acts prog 103 #[.agg #[.int .i64 l0,.int .i64 l1,.pointer l2,.int .i64 l3,.int .i64 l4,.pointer l5,.int .i64 l6,.int .i64 l7,.pointer l8]] V R:=
 fn_does (LF:=LF0) (RF:=[1000007]) (β0:=(fun _=>0)) tab_ok mixed [] [] func103 (by kernel_rfl)
  [(0,.agg [.v (.int .i64 l0),.v (.int .i64 l1),.v (.pointer l2),.v (.int .i64 l3),.v (.int .i64 l4),.v (.pointer l5),.v (.int .i64 l6),.v (.int .i64 l7),.v (.pointer l8)])]
  [] (by kernel_rfl) trivial h (by kernel_rfl)
end Go.Proofs.Tryz
/- Contracts of package geo: lines. -/
namespace Go.Eng
open Go.Big
/-- A line of package geo. -/
def RLn (V:View) (v:Value) (a b c:Rat):Prop:=∃(x1 x2:Int) (p:OA) (y1 y2:Int) (q:OA) (z1 z2:Int) (r:OA),v=.agg #[.int .i64 x1,.int .i64 x2,.pointer p,.int .i64 y1,.int .i64 y2,.pointer q,.int .i64 z1,.int .i64 z2,.pointer r] /\
 RR V (.agg #[.int .i64 x1,.int .i64 x2,.pointer p]) a/\RR V (.agg #[.int .i64 y1,.int .i64 y2,.pointer q]) b/\RR V (.agg #[.int .i64 z1,.int .i64 z2,.pointer r]) c
/-- The shape of a line of package geo. -/
def LnSh (v:Value):Prop:=∃(x1 x2:Int) (x3:OA) (y1 y2:Int) (y3:OA) (z1 z2:Int) (z3:OA),v=.agg #[.int .i64 x1,.int .i64 x2,.pointer x3,.int .i64 y1,.int .i64 y2,.pointer y3,.int .i64 z1,.int .i64 z2,.pointer z3]
theorem RLn.le {V V':View} {v:Value} {a b c:Rat} (h:RLn V v a b c) (l:V.Le V'):RLn V' v a b c:=by
 obtain ⟨x1,x2,p,y1,y2,q,z1,z2,r,rfl,h1,h2,h3⟩:=h
 exact ⟨x1,x2,p,y1,y2,q,z1,z2,r,rfl,h1.le l,h2.le l,h3.le l⟩
end Go.Eng
namespace Go.Proofs.Tryz
open Go.Eng Go.Big
theorem c_geo_API {V:View} {v:Value} {a b c:Rat} (h:RLn V v a b c) {k:Nat} (s1:Sz k a) (s2:Sz k b) (s3:Sz k c) (hk:k<=1099511627776) :
  Acts prog 103 #[v] V fun r V'=>RL V' r a.num b.num c.num:=by
 obtain ⟨x1,x2,p,y1,y2,q,z1,z2,r,rfl,h1,h2,h3⟩:=h
 refine vc_geo_Ln_API _ _ _ _ _ _ _ _ _ V _ fun V1 l1=>(c_R_Num (h1.le l1) s1 hk).mono ?_
 rintro r V2 l2 ⟨p1,n1,c1,rfl,g1⟩
 refine ⟨_,_,_,_,rfl,fun V3 l3=>(c_R_Num (h2.le (l1.trans (l2.trans l3))) s2 hk).mono ?_⟩
 rintro r V4 l4 ⟨p2,n2,c2,rfl,g2⟩
 refine ⟨_,_,_,_,rfl,fun V5 l5=>(c_R_Num (h3.le (l1.trans (l2.trans (l3.trans (l4.trans l5))))) s3 hk).mono ?_⟩
 rintro r V6 l6 ⟨p3,n3,c3,rfl,g3⟩
 exact ⟨_,_,_,_,rfl,fun V7 l7=>⟨_,_,_,_,_,_,_,_,_,rfl,g1.le (l3.trans (l4.trans (l5.trans (l6.trans l7)))),g2.le (l5.trans (l6.trans l7)),g3.le l7⟩⟩
end Go.Proofs.Tryz
/- Contracts of package geo: LnOf. -/
namespace Go.Proofs.Tryz
open Go.Eng Go.Big
/-- What LnOf decides. -/
def okLn (b1:Bool) (xs:List Nat) (b2:Bool) (ys:List Nat) (b3:Bool) (zs:List Nat):Bool:=
 NrmI b1 xs && NrmI b2 ys && NrmI b3 zs && !(decide ((ival b1 xs:Rat)=0) && decide ((ival b2 ys:Rat)=0)) && decide (gcdQ (gcdQ (ival b1 xs) (ival b2 ys)) (ival b3 zs)=((1:Int):Rat))
theorem ln_bad {V:View} {ok:Bool} {A B C:Rat} (h:ok=false):∃v,Value.tuple #[.agg #[.int .i64 0,.int .i64 0,.pointer none,.int .i64 0,.int .i64 0,.pointer none,.int .i64 0,.int .i64 0,.pointer none],.bool false]=.tuple #[v,.bool ok]/\LnSh v/\(ok=true->RLn V v A B C):=by
 subst h; exact ⟨_,rfl,⟨_,_,_,_,_,_,_,_,_,rfl⟩,fun h=>nomatch h⟩
theorem sz_one:Sz 1 ((1:Int):Rat):=by unfold Sz; decide
theorem c_geo_LnOf {V:View} (b1 b2 b3:Bool) {p q s:OA} {n c m e i j:Nat} {xs ys zs:List Nat} (hx:RD V p n c xs) (hy:RD V q m e ys) (hz:RD V s i j zs)
  (h1:xs.length<=1099511627776) (h2:ys.length<=1099511627776) (h3:zs.length<=1099511627776) {k:Nat} (s1:Sz k (ival b1 xs:Rat)) (s2:Sz k (ival b2 ys:Rat)) (s3:Sz k (ival b3 zs:Rat)) (hk:4 * k + 4 < 1099511627776) :
  Acts prog 90 #[.agg #[.bool b1,.slice p n c,.bool b2,.slice q m e,.bool b3,.slice s i j]] V fun r V'=>∃v,r=.tuple #[v,.bool (okLn b1 xs b2 ys b3 zs)]/\LnSh v/\(okLn b1 xs b2 ys b3 zs=true->RLn V' v (ival b1 xs) (ival b2 ys) (ival b3 zs)):=by
 refine vc_geo_LnOf _ p n c _ q m e _ s i j V _ fun V1 l1=>(c_integer_Normal b1 (hx.le l1) h1).mono ?_
 rintro r V2 l2 rfl
 refine ⟨_,rfl,fun h0 V3 l3=>ln_bad ?_,fun h0 V4 l4=>(c_integer_Normal b2 (hy.le (l1.trans (l2.trans l4))) h2).mono ?_⟩
 ·have h0:NrmI b1 xs=false:=by simpa using h0
  simp [okLn,h0]
 have h0:NrmI b1 xs=true:=by simpa using h0
 rintro r V5 l5 rfl
 refine ⟨_,rfl,fun g0 V6 l6=>ln_bad ?_,fun g0 V7 l7=>(c_integer_Normal b3 (hz.le (l1.trans (l2.trans (l4.trans (l5.trans l7))))) h3).mono ?_⟩
 ·have g0:NrmI b2 ys=false:=by simpa using g0
  simp [okLn,g0]
 have g0:NrmI b2 ys=true:=by simpa using g0
 rintro r V8 l8 rfl
 have l08:=l1.trans (l2.trans (l4.trans (l5.trans (l7.trans l8))))
 refine ⟨_,rfl,fun f0 V9 l9=>ln_bad ?_,fun f0 V10 l10=>(c_frac_Whole b1 (hx.le (l08.trans l10)) h1).mono ?_⟩
 ·have f0:NrmI b3 zs=false:=by simpa using f0
  simp [okLn,f0]
 have f0:NrmI b3 zs=true:=by simpa using f0
 rintro r V11 l11 ra
 obtain ⟨x1,x2,x3,rfl⟩:=ra.shape
 have l011:=l08.trans (l10.trans l11)
 refine ⟨_,_,_,rfl,fun V12 l12=>(c_frac_Whole b2 (hy.le (l011.trans l12)) h2).mono ?_⟩
 rintro r V13 l13 rb
 obtain ⟨y1,y2,y3,rfl⟩:=rb.shape
 have l013:=l011.trans (l12.trans l13)
 refine ⟨_,_,_,rfl,fun V14 l14=>(c_frac_Whole b3 (hz.le (l013.trans l14)) h3).mono ?_⟩
 rintro r V15 l15 rc
 obtain ⟨z1,z2,z3,rfl⟩:=rc.shape
 replace ra:=ra.le (l12.trans (l13.trans (l14.trans l15)))
 replace rb:=rb.le (l14.trans l15)
 have hok:okLn b1 xs b2 ys b3 zs=(!(decide ((ival b1 xs:Rat)=0) && decide ((ival b2 ys:Rat)=0)) && decide (gcdQ (gcdQ (ival b1 xs) (ival b2 ys)) (ival b3 zs)=((1:Int):Rat))):=by
  simp only [okLn,h0,g0,f0,Bool.true_and]
 rw [hok]
 clear hok h0 g0 f0 hx hy hz
 generalize (ival b1 xs:Rat)=A at *
 generalize (ival b2 ys:Rat)=B at *
 generalize (ival b3 zs:Rat)=C at *
 refine ⟨_,_,_,rfl,fun V16 l16=>(c_R_Zero (ra.le l16)).mono ?_⟩
 rintro r V17 l17 rfl
 refine ⟨_,rfl,fun t0 V18 l18=>(c_R_Zero (rb.le (l16.trans (l17.trans l18)))).mono ?_,fun t0 V21 l21=>?_⟩
 ·rintro r V19 l19 rfl
  refine ⟨_,rfl,fun u0 V20 l20=>ln_bad (by rw [t0,u0]; rfl),fun u0 V21 l21=>?_⟩
  have lb:V15.Le V21:=l16.trans (l17.trans (l18.trans (l19.trans l21)))
  have hn:(decide (A=0) && decide (B=0))=false:=by rw [u0,Bool.and_false]
  rw [hn]
  refine (c_frac_Gcd (ra.le lb) (rb.le lb) s1 s2 (by omega)).mono ?_
  rintro r V22 l22 rg
  obtain ⟨g1,g2,g3,rfl⟩:=rg.shape
  refine ⟨_,_,_,rfl,fun V23 l23=>(c_frac_Gcd (rg.le l23) (rc.le (lb.trans (l22.trans l23))) (Sz_gcdQ s1 s2) s3 (by omega)).mono ?_⟩
  rintro r V24 l24 rh
  obtain ⟨h1,h2,h3,rfl⟩:=rh.shape
  refine ⟨_,_,_,rfl,fun V25 l25=>(c_frac_Int 1 (by omega) (by omega)).mono ?_⟩
  rintro r V26 l26 ri
  obtain ⟨i1,i2,i3,rfl⟩:=ri.shape
  refine ⟨_,_,_,rfl,fun V27 l27=>(c_R_Equal (rh.le (l25.trans (l26.trans l27))) (ri.le l27) (Sz_gcdQ (Sz_gcdQ s1 s2) s3) sz_one (by omega)).mono ?_⟩
  rintro r V28 l28 rfl
  have lz:V15.Le V28:=lb.trans (l22.trans (l23.trans (l24.trans (l25.trans (l26.trans (l27.trans l28))))))
  refine ⟨_,rfl,fun w0 V29 l29=>ln_bad ?_,fun w0 V30 l30=>?_⟩
  ·rw [Bool.not_eq_true'] at w0
   rw [w0]; rfl
  ·have w0:decide (gcdQ (gcdQ A B) C=((1:Int):Rat))=true:=by
    cases h:decide (gcdQ (gcdQ A B) C=((1:Int):Rat))
    ·rw [h] at w0; cases w0
    ·rfl
   rw [w0]
   exact ⟨_,rfl,⟨_,_,_,_,_,_,_,_,_,rfl⟩,fun _=>⟨_,_,_,_,_,_,_,_,_,rfl,ra.le (lz.trans l30),rb.le (lz.trans l30),rc.le (lz.trans l30)⟩⟩
 ·have lb:V15.Le V21:=l16.trans (l17.trans l21)
  have hn:(decide (A=0) && decide (B=0))=false:=by rw [t0,Bool.false_and]
  rw [hn]
  refine (c_frac_Gcd (ra.le lb) (rb.le lb) s1 s2 (by omega)).mono ?_
  rintro r V22 l22 rg
  obtain ⟨g1,g2,g3,rfl⟩:=rg.shape
  refine ⟨_,_,_,rfl,fun V23 l23=>(c_frac_Gcd (rg.le l23) (rc.le (lb.trans (l22.trans l23))) (Sz_gcdQ s1 s2) s3 (by omega)).mono ?_⟩
  rintro r V24 l24 rh
  obtain ⟨h1,h2,h3,rfl⟩:=rh.shape
  refine ⟨_,_,_,rfl,fun V25 l25=>(c_frac_Int 1 (by omega) (by omega)).mono ?_⟩
  rintro r V26 l26 ri
  obtain ⟨i1,i2,i3,rfl⟩:=ri.shape
  refine ⟨_,_,_,rfl,fun V27 l27=>(c_R_Equal (rh.le (l25.trans (l26.trans l27))) (ri.le l27) (Sz_gcdQ (Sz_gcdQ s1 s2) s3) sz_one (by omega)).mono ?_⟩
  rintro r V28 l28 rfl
  have lz:V15.Le V28:=lb.trans (l22.trans (l23.trans (l24.trans (l25.trans (l26.trans (l27.trans l28))))))
  refine ⟨_,rfl,fun w0 V29 l29=>ln_bad ?_,fun w0 V30 l30=>?_⟩
  ·rw [Bool.not_eq_true'] at w0
   rw [w0]; rfl
  ·have w0:decide (gcdQ (gcdQ A B) C=((1:Int):Rat))=true:=by
    cases h:decide (gcdQ (gcdQ A B) C=((1:Int):Rat))
    ·rw [h] at w0; cases w0
    ·rfl
   rw [w0]
   exact ⟨_,rfl,⟨_,_,_,_,_,_,_,_,_,rfl⟩,fun _=>⟨_,_,_,_,_,_,_,_,_,rfl,ra.le (lz.trans l30),rb.le (lz.trans l30),rc.le (lz.trans l30)⟩⟩
end Go.Proofs.Tryz
/- Contracts: cmp.Or; geo Cmp, Equal. -/
namespace Go.Proofs.Tryz
open Go.Eng Go.Big
end Go.Proofs.Tryz
/- By program: the conditions of the functions, from their loaded code. -/
namespace Go.Proofs.Tryz
open Go.Eng
set_option maxRecDepth 100000
theorem vc_geo_PtOf (p0:Bool) (p1p:OA) (p1n p1c:Nat) (p2p:OA) (p2n p2c:Nat) (p3:Bool) (p4p:OA) (p4n p4c:Nat) (p5p:OA) (p5n p5c:Nat) (V:View) (R:Value->View->Prop)
  (h:(∀V1:View,V.Le V1->Acts prog 102 #[.agg #[.bool p0,.slice p1p p1n p1c,.slice p2p p2n p2c]] V1 fun r1_ V2=>∃x1_:Int,∃x2_:Int,∃p3_:OA,r1_=.agg #[.int .i64 x1_,.int .i64 x2_,.pointer p3_]/\(∀V3:View,V2.Le V3->Acts prog 102 #[.agg #[.bool p3,.slice p4p p4n p4c,.slice p5p p5n p5c]] V3 fun r3_ V4=>∃x4_:Int,∃x5_:Int,∃p6_:OA,r3_=.agg #[.int .i64 x4_,.int .i64 x5_,.pointer p6_]/\(∀V5:View,V4.Le V5->R (.agg #[.int .i64 x1_,.int .i64 x2_,.pointer p3_,.int .i64 x4_,.int .i64 x5_,.pointer p6_]) V5)))) :
  Acts prog 48 #[.agg #[.bool p0,.slice p1p p1n p1c,.slice p2p p2n p2c,.bool p3,.slice p4p p4n p4c,.slice p5p p5n p5c]] V R:=
 fn_does (LF:=LF0) (RF:=[1000007]) (β0:=(fun _=>0)) tab_ok mixed [] [] func48 (by kernel_rfl)
  [(0,.agg [.v (.bool p0),.v (.slice p1p p1n p1c),.v (.slice p2p p2n p2c),.v (.bool p3),.v (.slice p4p p4n p4c),.v (.slice p5p p5n p5c)])]
  [] (by kernel_rfl) trivial h (by kernel_rfl)
theorem vc_geo_Pt_API (p0:Int) (p1:Int) (p2:OA) (p3:Int) (p4:Int) (p5:OA) (V:View) (R:Value->View->Prop)
  (h:(∀V1:View,V.Le V1->Acts prog 144 #[.agg #[.int .i64 p0,.int .i64 p1,.pointer p2]] V1 fun r1_ V2=>∃b1_:Bool,∃(p2_:OA) (n2_ c2_:Nat),∃(p3_:OA) (n3_ c3_:Nat),r1_=.agg #[.bool b1_,.slice p2_ n2_ c2_,.slice p3_ n3_ c3_]/\(∀V3:View,V2.Le V3->Acts prog 144 #[.agg #[.int .i64 p3,.int .i64 p4,.pointer p5]] V3 fun r3_ V4=>∃b4_:Bool,∃(p5_:OA) (n5_ c5_:Nat),∃(p6_:OA) (n6_ c6_:Nat),r3_=.agg #[.bool b4_,.slice p5_ n5_ c5_,.slice p6_ n6_ c6_]/\(∀V5:View,V4.Le V5->R (.agg #[.bool b1_,.slice p2_ n2_ c2_,.slice p3_ n3_ c3_,.bool b4_,.slice p5_ n5_ c5_,.slice p6_ n6_ c6_]) V5)))) :
  Acts prog 83 #[.agg #[.int .i64 p0,.int .i64 p1,.pointer p2,.int .i64 p3,.int .i64 p4,.pointer p5]] V R:=
 fn_does (LF:=LF0) (RF:=[1000007]) (β0:=(fun _=>0)) tab_ok mixed [] [] func83 (by kernel_rfl)
  [(0,.agg [.v (.int .i64 p0),.v (.int .i64 p1),.v (.pointer p2),.v (.int .i64 p3),.v (.int .i64 p4),.v (.pointer p5)])]
  [] (by kernel_rfl) trivial h (by kernel_rfl)
theorem vc_geo_Pt_Add (p0:Int) (p1:Int) (p2:OA) (p3:Int) (p4:Int) (p5:OA) (q0:Int) (q1:Int) (q2:OA) (q3:Int) (q4:Int) (q5:OA) (V:View) (R:Value->View->Prop)
  (h:(∀V1:View,V.Le V1->Acts prog 198 #[.agg #[.int .i64 p0,.int .i64 p1,.pointer p2],.agg #[.int .i64 q0,.int .i64 q1,.pointer q2]] V1 fun r1_ V2=>∃x1_:Int,∃x2_:Int,∃p3_:OA,r1_=.agg #[.int .i64 x1_,.int .i64 x2_,.pointer p3_]/\(∀V3:View,V2.Le V3->Acts prog 198 #[.agg #[.int .i64 p3,.int .i64 p4,.pointer p5],.agg #[.int .i64 q3,.int .i64 q4,.pointer q5]] V3 fun r3_ V4=>∃x4_:Int,∃x5_:Int,∃p6_:OA,r3_=.agg #[.int .i64 x4_,.int .i64 x5_,.pointer p6_]/\(∀V5:View,V4.Le V5->R (.agg #[.int .i64 x1_,.int .i64 x2_,.pointer p3_,.int .i64 x4_,.int .i64 x5_,.pointer p6_]) V5)))) :
  Acts prog 169 #[.agg #[.int .i64 p0,.int .i64 p1,.pointer p2,.int .i64 p3,.int .i64 p4,.pointer p5],.agg #[.int .i64 q0,.int .i64 q1,.pointer q2,.int .i64 q3,.int .i64 q4,.pointer q5]] V R:=
 fn_does (LF:=LF0) (RF:=[1000007]) (β0:=(fun _=>0)) tab_ok mixed [] [] func169 (by kernel_rfl)
  [(0,.agg [.v (.int .i64 p0),.v (.int .i64 p1),.v (.pointer p2),.v (.int .i64 p3),.v (.int .i64 p4),.v (.pointer p5)]),(1,.agg [.v (.int .i64 q0),.v (.int .i64 q1),.v (.pointer q2),.v (.int .i64 q3),.v (.int .i64 q4),.v (.pointer q5)])]
  [] (by kernel_rfl) trivial h (by kernel_rfl)
theorem vc_geo_Pt_Sub (p0:Int) (p1:Int) (p2:OA) (p3:Int) (p4:Int) (p5:OA) (q0:Int) (q1:Int) (q2:OA) (q3:Int) (q4:Int) (q5:OA) (V:View) (R:Value->View->Prop)
  (h:(∀V1:View,V.Le V1->Acts prog 186 #[.agg #[.int .i64 p0,.int .i64 p1,.pointer p2],.agg #[.int .i64 q0,.int .i64 q1,.pointer q2]] V1 fun r1_ V2=>∃x1_:Int,∃x2_:Int,∃p3_:OA,r1_=.agg #[.int .i64 x1_,.int .i64 x2_,.pointer p3_]/\(∀V3:View,V2.Le V3->Acts prog 186 #[.agg #[.int .i64 p3,.int .i64 p4,.pointer p5],.agg #[.int .i64 q3,.int .i64 q4,.pointer q5]] V3 fun r3_ V4=>∃x4_:Int,∃x5_:Int,∃p6_:OA,r3_=.agg #[.int .i64 x4_,.int .i64 x5_,.pointer p6_]/\(∀V5:View,V4.Le V5->R (.agg #[.int .i64 x1_,.int .i64 x2_,.pointer p3_,.int .i64 x4_,.int .i64 x5_,.pointer p6_]) V5)))) :
  Acts prog 157 #[.agg #[.int .i64 p0,.int .i64 p1,.pointer p2,.int .i64 p3,.int .i64 p4,.pointer p5],.agg #[.int .i64 q0,.int .i64 q1,.pointer q2,.int .i64 q3,.int .i64 q4,.pointer q5]] V R:=
 fn_does (LF:=LF0) (RF:=[1000007]) (β0:=(fun _=>0)) tab_ok mixed [] [] func157 (by kernel_rfl)
  [(0,.agg [.v (.int .i64 p0),.v (.int .i64 p1),.v (.pointer p2),.v (.int .i64 p3),.v (.int .i64 p4),.v (.pointer p5)]),(1,.agg [.v (.int .i64 q0),.v (.int .i64 q1),.v (.pointer q2),.v (.int .i64 q3),.v (.int .i64 q4),.v (.pointer q5)])]
  [] (by kernel_rfl) trivial h (by kernel_rfl)
theorem vc_geo_Pt_Scale (p0:Int) (p1:Int) (p2:OA) (p3:Int) (p4:Int) (p5:OA) (c0:Int) (c1:Int) (c2:OA) (V:View) (R:Value->View->Prop)
  (h:(∀V1:View,V.Le V1->Acts prog 185 #[.agg #[.int .i64 p0,.int .i64 p1,.pointer p2],.agg #[.int .i64 c0,.int .i64 c1,.pointer c2]] V1 fun r1_ V2=>∃x1_:Int,∃x2_:Int,∃p3_:OA,r1_=.agg #[.int .i64 x1_,.int .i64 x2_,.pointer p3_]/\(∀V3:View,V2.Le V3->Acts prog 185 #[.agg #[.int .i64 p3,.int .i64 p4,.pointer p5],.agg #[.int .i64 c0,.int .i64 c1,.pointer c2]] V3 fun r3_ V4=>∃x4_:Int,∃x5_:Int,∃p6_:OA,r3_=.agg #[.int .i64 x4_,.int .i64 x5_,.pointer p6_]/\(∀V5:View,V4.Le V5->R (.agg #[.int .i64 x1_,.int .i64 x2_,.pointer p3_,.int .i64 x4_,.int .i64 x5_,.pointer p6_]) V5)))) :
  Acts prog 170 #[.agg #[.int .i64 p0,.int .i64 p1,.pointer p2,.int .i64 p3,.int .i64 p4,.pointer p5],.agg #[.int .i64 c0,.int .i64 c1,.pointer c2]] V R:=
 fn_does (LF:=LF0) (RF:=[1000007]) (β0:=(fun _=>0)) tab_ok mixed [] [] func170 (by kernel_rfl)
  [(0,.agg [.v (.int .i64 p0),.v (.int .i64 p1),.v (.pointer p2),.v (.int .i64 p3),.v (.int .i64 p4),.v (.pointer p5)]),(1,.agg [.v (.int .i64 c0),.v (.int .i64 c1),.v (.pointer c2)])]
  [] (by kernel_rfl) trivial h (by kernel_rfl)
theorem vc_geo_Pt_Turn (p0:Int) (p1:Int) (p2:OA) (p3:Int) (p4:Int) (p5:OA) (V:View) (R:Value->View->Prop)
  (h:(∀V1:View,V.Le V1->Acts prog 161 #[.agg #[.int .i64 p3,.int .i64 p4,.pointer p5]] V1 fun r1_ V2=>∃x1_:Int,∃x2_:Int,∃p3_:OA,r1_=.agg #[.int .i64 x1_,.int .i64 x2_,.pointer p3_]/\(∀V3:View,V2.Le V3->R (.agg #[.int .i64 x1_,.int .i64 x2_,.pointer p3_,.int .i64 p0,.int .i64 p1,.pointer p2]) V3))) :
  Acts prog 158 #[.agg #[.int .i64 p0,.int .i64 p1,.pointer p2,.int .i64 p3,.int .i64 p4,.pointer p5]] V R:=
 fn_does (LF:=LF0) (RF:=[1000007]) (β0:=(fun _=>0)) tab_ok mixed [] [] func158 (by kernel_rfl)
  [(0,.agg [.v (.int .i64 p0),.v (.int .i64 p1),.v (.pointer p2),.v (.int .i64 p3),.v (.int .i64 p4),.v (.pointer p5)])]
  [] (by kernel_rfl) trivial h (by kernel_rfl)
theorem vc_geo_Pt_Dot (p0:Int) (p1:Int) (p2:OA) (p3:Int) (p4:Int) (p5:OA) (q0:Int) (q1:Int) (q2:OA) (q3:Int) (q4:Int) (q5:OA) (V:View) (R:Value->View->Prop)
  (h:(∀V1:View,V.Le V1->Acts prog 185 #[.agg #[.int .i64 p0,.int .i64 p1,.pointer p2],.agg #[.int .i64 q0,.int .i64 q1,.pointer q2]] V1 fun r1_ V2=>∃x1_:Int,∃x2_:Int,∃p3_:OA,r1_=.agg #[.int .i64 x1_,.int .i64 x2_,.pointer p3_]/\(∀V3:View,V2.Le V3->Acts prog 185 #[.agg #[.int .i64 p3,.int .i64 p4,.pointer p5],.agg #[.int .i64 q3,.int .i64 q4,.pointer q5]] V3 fun r3_ V4=>∃x4_:Int,∃x5_:Int,∃p6_:OA,r3_=.agg #[.int .i64 x4_,.int .i64 x5_,.pointer p6_]/\(∀V5:View,V4.Le V5->Acts prog 198 #[.agg #[.int .i64 x1_,.int .i64 x2_,.pointer p3_],.agg #[.int .i64 x4_,.int .i64 x5_,.pointer p6_]] V5 fun r5_ V6=>∃x7_:Int,∃x8_:Int,∃p9_:OA,r5_=.agg #[.int .i64 x7_,.int .i64 x8_,.pointer p9_]/\(∀V7:View,V6.Le V7->R (.agg #[.int .i64 x7_,.int .i64 x8_,.pointer p9_]) V7))))) :
  Acts prog 160 #[.agg #[.int .i64 p0,.int .i64 p1,.pointer p2,.int .i64 p3,.int .i64 p4,.pointer p5],.agg #[.int .i64 q0,.int .i64 q1,.pointer q2,.int .i64 q3,.int .i64 q4,.pointer q5]] V R:=
 fn_does (LF:=LF0) (RF:=[1000007]) (β0:=(fun _=>0)) tab_ok mixed [] [] func160 (by kernel_rfl)
  [(0,.agg [.v (.int .i64 p0),.v (.int .i64 p1),.v (.pointer p2),.v (.int .i64 p3),.v (.int .i64 p4),.v (.pointer p5)]),(1,.agg [.v (.int .i64 q0),.v (.int .i64 q1),.v (.pointer q2),.v (.int .i64 q3),.v (.int .i64 q4),.v (.pointer q5)])]
  [] (by kernel_rfl) trivial h (by kernel_rfl)
theorem vc_geo_Pt_Equal (p0:Int) (p1:Int) (p2:OA) (p3:Int) (p4:Int) (p5:OA) (q0:Int) (q1:Int) (q2:OA) (q3:Int) (q4:Int) (q5:OA) (V:View) (R:Value->View->Prop)
  (h:(∀V1:View,V.Le V1->Acts prog 143 #[.agg #[.int .i64 p0,.int .i64 p1,.pointer p2],.agg #[.int .i64 q0,.int .i64 q1,.pointer q2]] V1 fun r1_ V2=>∃b1_:Bool,r1_=.bool b1_/\((b1_=true->(∀V3:View,V2.Le V3->Acts prog 143 #[.agg #[.int .i64 p3,.int .i64 p4,.pointer p5],.agg #[.int .i64 q3,.int .i64 q4,.pointer q5]] V3 fun r3_ V4=>∃b2_:Bool,r3_=.bool b2_/\(∀V5:View,V4.Le V5->R (.bool b2_) V5)))/\(b1_=false->(∀V6:View,V2.Le V6->R (.bool false) V6))))) :
  Acts prog 128 #[.agg #[.int .i64 p0,.int .i64 p1,.pointer p2,.int .i64 p3,.int .i64 p4,.pointer p5],.agg #[.int .i64 q0,.int .i64 q1,.pointer q2,.int .i64 q3,.int .i64 q4,.pointer q5]] V R:=
 fn_does (LF:=LF0) (RF:=[1000007]) (β0:=(fun _=>0)) tab_ok mixed [] [] func128 (by kernel_rfl)
  [(0,.agg [.v (.int .i64 p0),.v (.int .i64 p1),.v (.pointer p2),.v (.int .i64 p3),.v (.int .i64 p4),.v (.pointer p5)]),(1,.agg [.v (.int .i64 q0),.v (.int .i64 q1),.v (.pointer q2),.v (.int .i64 q3),.v (.int .i64 q4),.v (.pointer q5)])]
  [] (by kernel_rfl) trivial h (by kernel_rfl)
theorem vc_geo_scaled (f0:Int) (f1:Int) (f2:OA) (lb:Nat) (n c:Nat) (vs:List Value) (V:View) (R:Value->View->Prop) (hw100000:vs≠[]->V.w.heap[lb]?=some (.cells vs.toArray 108 (0,0))) (hx100000:vs≠[]->V.X lb)
  (h:(∃(I1_:(Int × (List Value))->View->Prop) (m2_:(Int × (List Value))->Nat),(∃z3_:Int × (List Value),(sm n/\sm c/\sm 0/\sm ((n:Nat):Int)/\((0:Int)=z3_.1)/\(f0=f0)/\(f1=f1)/\sm f2/\(vs=z3_.2))/\I1_ z3_ V)/\∀(z4_:Int × (List Value)) (V1:View),V.Le V1->I1_ z4_ V1->(true=true/\(((decide (z4_.1 < ((n:Nat):Int)))=true->(0<=z4_.1/\z4_.1 < ((n:Nat):Int))/\(n<=c)/\(∃x5_:Int,∃x6_:Int,∃p7_:OA,((z4_.1.toNat * 3) + 3<=z4_.2.length/\(z4_.2.drop (z4_.1.toNat * 3)).take 3=[.int .i64 x5_,.int .i64 x6_,.pointer p7_])/\(∀V2:View,V1.Le V2->Acts prog 185 #[.agg #[.int .i64 x5_,.int .i64 x6_,.pointer p7_],.agg #[.int .i64 f0,.int .i64 f1,.pointer f2]] V2 fun r2_ V3=>∃x8_:Int,∃x9_:Int,∃p10_:OA,r2_=.agg #[.int .i64 x8_,.int .i64 x9_,.pointer p10_]/\(0<=z4_.1/\z4_.1 < ((n:Nat):Int))/\(n<=c)/\((z4_.1.toNat * 3) + 3<=z4_.2.length)/\(∃z11_:Int × (List Value),m2_ z11_ < m2_ z4_/\(sm n/\sm c/\sm 0/\sm ((n:Nat):Int)/\((i64.wrap (z4_.1 + (1:Int)))=z11_.1)/\(f0=f0)/\(f1=f1)/\sm f2/\((setVals z4_.2 (z4_.1.toNat * 3) [.int .i64 x8_,.int .i64 x9_,.pointer p10_])=z11_.2))/\I1_ z11_ V3))))/\((decide (z4_.1 < ((n:Nat):Int)))=false->(∀V4:View,∀bk12_:Nat,V1.Le (V4.hideG (z4_.2≠[]) bk12_)->(z4_.2≠[]->V4.w.heap[bk12_]?=some (.cells z4_.2.toArray 108 (0,0)))->(z4_.2≠[]->V.w.heap.size<=bk12_ \/ (vs≠[]/\bk12_=lb) \/ False)->R (.slice (mA bk12_ c) n c) V4)))))) :
  Acts prog 196 #[.agg #[.int .i64 f0,.int .i64 f1,.pointer f2],.slice (mA lb c) n c] V R:=
 fn_does (LF:=LF0) (RF:=[1000007]) (β0:=(upd1 (fun _=>0) 100000 lb)) tab_ok mixed [(2,{ τ:=Int × (List Value),keep:=[1,2,7],keepB:=[2],slots:=fun z=>[(8,.c (.v (.int .i64 z.1)))],boxes:=fun z=>[(100000,⟨.mrow z.2,108⟩)] })] [] func196 (by kernel_rfl)
  [(0,.agg [.v (.int .i64 f0),.v (.int .i64 f1),.v (.pointer f2)]),(1,.c (.msl 100000 n c))]
  [(100000,⟨.mrow vs,108⟩)] (by kernel_rfl) ⟨⟨hw100000,hx100000⟩,trivial,trivial⟩ h (by kernel_rfl)
theorem vc_geo_Make (a0:Int) (a1:Int) (a2:OA) (b0:Int) (b1:Int) (b2:OA) (c0:Int) (c1:Int) (c2:OA) (V:View) (R:Value->View->Prop)
  (h:(∀V1:View,V.Le V1->Acts prog 153 #[.agg #[.int .i64 a0,.int .i64 a1,.pointer a2]] V1 fun r1_ V2=>∃b1_:Bool,r1_=.bool b1_/\((b1_=true->(∀V3:View,V2.Le V3->Acts prog 153 #[.agg #[.int .i64 b0,.int .i64 b1,.pointer b2]] V3 fun r3_ V4=>∃b2_:Bool,r3_=.bool b2_/\((b2_=true->(∀V5:View,V4.Le V5->R (.tuple #[.agg #[.int .i64 0,.int .i64 0,.pointer none,.int .i64 0,.int .i64 0,.pointer none,.int .i64 0,.int .i64 0,.pointer none],.bool false]) V5))/\(b2_=false->(∀V6:View,V4.Le V6->Acts prog 154 #[.agg #[.int .i64 a0,.int .i64 a1,.pointer a2],.agg #[.int .i64 b0,.int .i64 b1,.pointer b2]] V6 fun r6_ V7=>∃x3_:Int,∃x4_:Int,∃p5_:OA,r6_=.agg #[.int .i64 x3_,.int .i64 x4_,.pointer p5_]/\(∀V8:View,V7.Le V8->Acts prog 154 #[.agg #[.int .i64 x3_,.int .i64 x4_,.pointer p5_],.agg #[.int .i64 c0,.int .i64 c1,.pointer c2]] V8 fun r8_ V9=>∃x6_:Int,∃x7_:Int,∃p8_:OA,r8_=.agg #[.int .i64 x6_,.int .i64 x7_,.pointer p8_]/\(∀V10:View,V9.Le V10->Acts prog 197 #[.agg #[.int .i64 x6_,.int .i64 x7_,.pointer p8_]] V10 fun r10_ V11=>∃x9_:Int,∃x10_:Int,∃p11_:OA,r10_=.agg #[.int .i64 x9_,.int .i64 x10_,.pointer p11_]/\(∀V12:View,V11.Le V12->∀bk12_:Nat,(V12.w.heap[bk12_]?=some (.cells #[.int .i64 a0,.int .i64 a1,.pointer a2,.int .i64 b0,.int .i64 b1,.pointer b2,.int .i64 c0,.int .i64 c1,.pointer c2] 108 (0,0)))->(V12.H bk12_)->Acts prog 196 #[.agg #[.int .i64 x9_,.int .i64 x10_,.pointer p11_],.slice (some ⟨bk12_,0,none⟩) 3 3] (V12.lend [bk12_]) fun r12_ V13=>∃(bm14_:Nat) (vm15_:List Value),(vm15_≠[]->V13.w.heap[bm14_]?=some (.cells vm15_.toArray 108 (0,0)))/\(vm15_≠[]->V12.w.heap.size<=bm14_ \/ bm14_=bk12_)/\∃(p13_:OA) (n13_ c13_:Nat),r12_=.slice (mA bm14_ c13_) n13_ c13_/\(0<=(0:Int)/\(0:Int) < ((n13_:Nat):Int))/\(n13_<=c13_)/\(∃x16_:Int,∃x17_:Int,∃p18_:OA,(3<=vm15_.length/\(vm15_.drop 0).take 3=[.int .i64 x16_,.int .i64 x17_,.pointer p18_])/\(0<=(1:Int)/\(1:Int) < ((n13_:Nat):Int))/\(n13_<=c13_)/\(∃x19_:Int,∃x20_:Int,∃p21_:OA,(6<=vm15_.length/\(vm15_.drop 3).take 3=[.int .i64 x19_,.int .i64 x20_,.pointer p21_])/\(0<=(2:Int)/\(2:Int) < ((n13_:Nat):Int))/\(n13_<=c13_)/\(∃x22_:Int,∃x23_:Int,∃p24_:OA,(9<=vm15_.length/\(vm15_.drop 6).take 3=[.int .i64 x22_,.int .i64 x23_,.pointer p24_])/\(∀V14:View,(V13.shut.hideG (vm15_≠[]) bm14_).Le V14->R (.tuple #[.agg #[.int .i64 x16_,.int .i64 x17_,.pointer p18_,.int .i64 x19_,.int .i64 x20_,.pointer p21_,.int .i64 x22_,.int .i64 x23_,.pointer p24_],.bool true]) V14))))))))))))/\(b1_=false->(∀V15:View,V2.Le V15->Acts prog 154 #[.agg #[.int .i64 a0,.int .i64 a1,.pointer a2],.agg #[.int .i64 b0,.int .i64 b1,.pointer b2]] V15 fun r15_ V16=>∃x25_:Int,∃x26_:Int,∃p27_:OA,r15_=.agg #[.int .i64 x25_,.int .i64 x26_,.pointer p27_]/\(∀V17:View,V16.Le V17->Acts prog 154 #[.agg #[.int .i64 x25_,.int .i64 x26_,.pointer p27_],.agg #[.int .i64 c0,.int .i64 c1,.pointer c2]] V17 fun r17_ V18=>∃x28_:Int,∃x29_:Int,∃p30_:OA,r17_=.agg #[.int .i64 x28_,.int .i64 x29_,.pointer p30_]/\(∀V19:View,V18.Le V19->Acts prog 197 #[.agg #[.int .i64 x28_,.int .i64 x29_,.pointer p30_]] V19 fun r19_ V20=>∃x31_:Int,∃x32_:Int,∃p33_:OA,r19_=.agg #[.int .i64 x31_,.int .i64 x32_,.pointer p33_]/\(∀V21:View,V20.Le V21->∀bk34_:Nat,(V21.w.heap[bk34_]?=some (.cells #[.int .i64 a0,.int .i64 a1,.pointer a2,.int .i64 b0,.int .i64 b1,.pointer b2,.int .i64 c0,.int .i64 c1,.pointer c2] 108 (0,0)))->(V21.H bk34_)->Acts prog 196 #[.agg #[.int .i64 x31_,.int .i64 x32_,.pointer p33_],.slice (some ⟨bk34_,0,none⟩) 3 3] (V21.lend [bk34_]) fun r21_ V22=>∃(bm36_:Nat) (vm37_:List Value),(vm37_≠[]->V22.w.heap[bm36_]?=some (.cells vm37_.toArray 108 (0,0)))/\(vm37_≠[]->V21.w.heap.size<=bm36_ \/ bm36_=bk34_)/\∃(p35_:OA) (n35_ c35_:Nat),r21_=.slice (mA bm36_ c35_) n35_ c35_/\(0<=(0:Int)/\(0:Int) < ((n35_:Nat):Int))/\(n35_<=c35_)/\(∃x38_:Int,∃x39_:Int,∃p40_:OA,(3<=vm37_.length/\(vm37_.drop 0).take 3=[.int .i64 x38_,.int .i64 x39_,.pointer p40_])/\(0<=(1:Int)/\(1:Int) < ((n35_:Nat):Int))/\(n35_<=c35_)/\(∃x41_:Int,∃x42_:Int,∃p43_:OA,(6<=vm37_.length/\(vm37_.drop 3).take 3=[.int .i64 x41_,.int .i64 x42_,.pointer p43_])/\(0<=(2:Int)/\(2:Int) < ((n35_:Nat):Int))/\(n35_<=c35_)/\(∃x44_:Int,∃x45_:Int,∃p46_:OA,(9<=vm37_.length/\(vm37_.drop 6).take 3=[.int .i64 x44_,.int .i64 x45_,.pointer p46_])/\(∀V23:View,(V22.shut.hideG (vm37_≠[]) bm36_).Le V23->R (.tuple #[.agg #[.int .i64 x38_,.int .i64 x39_,.pointer p40_,.int .i64 x41_,.int .i64 x42_,.pointer p43_,.int .i64 x44_,.int .i64 x45_,.pointer p46_],.bool true]) V23)))))))))))) :
  Acts prog 159 #[.agg #[.int .i64 a0,.int .i64 a1,.pointer a2],.agg #[.int .i64 b0,.int .i64 b1,.pointer b2],.agg #[.int .i64 c0,.int .i64 c1,.pointer c2]] V R:=
 fn_does (LF:=LF0) (RF:=[1000007]) (β0:=(fun _=>0)) tab_ok mixed [] [] func159 (by kernel_rfl)
  [(0,.agg [.v (.int .i64 a0),.v (.int .i64 a1),.v (.pointer a2)]),(1,.agg [.v (.int .i64 b0),.v (.int .i64 b1),.v (.pointer b2)]),(2,.agg [.v (.int .i64 c0),.v (.int .i64 c1),.v (.pointer c2)])]
  [] (by kernel_rfl) trivial h (by kernel_rfl)
theorem vc_geo_Through (p0:Int) (p1:Int) (p2:OA) (p3:Int) (p4:Int) (p5:OA) (q0:Int) (q1:Int) (q2:OA) (q3:Int) (q4:Int) (q5:OA) (V:View) (R:Value->View->Prop)
  (h:(∀V1:View,V.Le V1->Acts prog 157 #[.agg #[.int .i64 q0,.int .i64 q1,.pointer q2,.int .i64 q3,.int .i64 q4,.pointer q5],.agg #[.int .i64 p0,.int .i64 p1,.pointer p2,.int .i64 p3,.int .i64 p4,.pointer p5]] V1 fun r1_ V2=>∃x1_:Int,∃x2_:Int,∃p3_:OA,∃x4_:Int,∃x5_:Int,∃p6_:OA,r1_=.agg #[.int .i64 x1_,.int .i64 x2_,.pointer p3_,.int .i64 x4_,.int .i64 x5_,.pointer p6_]/\(∀V3:View,V2.Le V3->Acts prog 158 #[.agg #[.int .i64 x1_,.int .i64 x2_,.pointer p3_,.int .i64 x4_,.int .i64 x5_,.pointer p6_]] V3 fun r3_ V4=>∃x7_:Int,∃x8_:Int,∃p9_:OA,∃x10_:Int,∃x11_:Int,∃p12_:OA,r3_=.agg #[.int .i64 x7_,.int .i64 x8_,.pointer p9_,.int .i64 x10_,.int .i64 x11_,.pointer p12_]/\(∀V5:View,V4.Le V5->Acts prog 160 #[.agg #[.int .i64 x7_,.int .i64 x8_,.pointer p9_,.int .i64 x10_,.int .i64 x11_,.pointer p12_],.agg #[.int .i64 p0,.int .i64 p1,.pointer p2,.int .i64 p3,.int .i64 p4,.pointer p5]] V5 fun r5_ V6=>∃x13_:Int,∃x14_:Int,∃p15_:OA,r5_=.agg #[.int .i64 x13_,.int .i64 x14_,.pointer p15_]/\(∀V7:View,V6.Le V7->Acts prog 161 #[.agg #[.int .i64 x13_,.int .i64 x14_,.pointer p15_]] V7 fun r7_ V8=>∃x16_:Int,∃x17_:Int,∃p18_:OA,r7_=.agg #[.int .i64 x16_,.int .i64 x17_,.pointer p18_]/\(∀V9:View,V8.Le V9->Acts prog 159 #[.agg #[.int .i64 x7_,.int .i64 x8_,.pointer p9_],.agg #[.int .i64 x10_,.int .i64 x11_,.pointer p12_],.agg #[.int .i64 x16_,.int .i64 x17_,.pointer p18_]] V9 fun r9_ V10=>∃x19_:Int,∃x20_:Int,∃p21_:OA,∃x22_:Int,∃x23_:Int,∃p24_:OA,∃x25_:Int,∃x26_:Int,∃p27_:OA,∃b28_:Bool,r9_=.tuple #[.agg #[.int .i64 x19_,.int .i64 x20_,.pointer p21_,.int .i64 x22_,.int .i64 x23_,.pointer p24_,.int .i64 x25_,.int .i64 x26_,.pointer p27_],.bool b28_]/\(∀V11:View,V10.Le V11->R (.tuple #[.agg #[.int .i64 x19_,.int .i64 x20_,.pointer p21_,.int .i64 x22_,.int .i64 x23_,.pointer p24_,.int .i64 x25_,.int .i64 x26_,.pointer p27_],.bool b28_]) V11))))))) :
  Acts prog 100 #[.agg #[.int .i64 p0,.int .i64 p1,.pointer p2,.int .i64 p3,.int .i64 p4,.pointer p5],.agg #[.int .i64 q0,.int .i64 q1,.pointer q2,.int .i64 q3,.int .i64 q4,.pointer q5]] V R:=
 fn_does (LF:=LF0) (RF:=[1000007]) (β0:=(fun _=>0)) tab_ok mixed [] [] func100 (by kernel_rfl)
  [(0,.agg [.v (.int .i64 p0),.v (.int .i64 p1),.v (.pointer p2),.v (.int .i64 p3),.v (.int .i64 p4),.v (.pointer p5)]),(1,.agg [.v (.int .i64 q0),.v (.int .i64 q1),.v (.pointer q2),.v (.int .i64 q3),.v (.int .i64 q4),.v (.pointer q5)])]
  [] (by kernel_rfl) trivial h (by kernel_rfl)
theorem vc_geo_Ln_Reverse (l0:Int) (l1:Int) (l2:OA) (l3:Int) (l4:Int) (l5:OA) (l6:Int) (l7:Int) (l8:OA) (V:View) (R:Value->View->Prop)
  (h:(∀V1:View,V.Le V1->Acts prog 161 #[.agg #[.int .i64 l0,.int .i64 l1,.pointer l2]] V1 fun r1_ V2=>∃x1_:Int,∃x2_:Int,∃p3_:OA,r1_=.agg #[.int .i64 x1_,.int .i64 x2_,.pointer p3_]/\(∀V3:View,V2.Le V3->Acts prog 161 #[.agg #[.int .i64 l3,.int .i64 l4,.pointer l5]] V3 fun r3_ V4=>∃x4_:Int,∃x5_:Int,∃p6_:OA,r3_=.agg #[.int .i64 x4_,.int .i64 x5_,.pointer p6_]/\(∀V5:View,V4.Le V5->Acts prog 161 #[.agg #[.int .i64 l6,.int .i64 l7,.pointer l8]] V5 fun r5_ V6=>∃x7_:Int,∃x8_:Int,∃p9_:OA,r5_=.agg #[.int .i64 x7_,.int .i64 x8_,.pointer p9_]/\(∀V7:View,V6.Le V7->R (.agg #[.int .i64 x1_,.int .i64 x2_,.pointer p3_,.int .i64 x4_,.int .i64 x5_,.pointer p6_,.int .i64 x7_,.int .i64 x8_,.pointer p9_]) V7))))) :
  Acts prog 125 #[.agg #[.int .i64 l0,.int .i64 l1,.pointer l2,.int .i64 l3,.int .i64 l4,.pointer l5,.int .i64 l6,.int .i64 l7,.pointer l8]] V R:=
 fn_does (LF:=LF0) (RF:=[1000007]) (β0:=(fun _=>0)) tab_ok mixed [] [] func125 (by kernel_rfl)
  [(0,.agg [.v (.int .i64 l0),.v (.int .i64 l1),.v (.pointer l2),.v (.int .i64 l3),.v (.int .i64 l4),.v (.pointer l5),.v (.int .i64 l6),.v (.int .i64 l7),.v (.pointer l8)])]
  [] (by kernel_rfl) trivial h (by kernel_rfl)
theorem vc_geo_Ln_Normal (l0:Int) (l1:Int) (l2:OA) (l3:Int) (l4:Int) (l5:OA) (l6:Int) (l7:Int) (l8:OA) (V:View) (R:Value->View->Prop)
  (h:(∀V1:View,V.Le V1->R (.agg #[.int .i64 l0,.int .i64 l1,.pointer l2,.int .i64 l3,.int .i64 l4,.pointer l5]) V1)) :
  Acts prog 183 #[.agg #[.int .i64 l0,.int .i64 l1,.pointer l2,.int .i64 l3,.int .i64 l4,.pointer l5,.int .i64 l6,.int .i64 l7,.pointer l8]] V R:=
 fn_does (LF:=LF0) (RF:=[1000007]) (β0:=(fun _=>0)) tab_ok mixed [] [] func183 (by kernel_rfl)
  [(0,.agg [.v (.int .i64 l0),.v (.int .i64 l1),.v (.pointer l2),.v (.int .i64 l3),.v (.int .i64 l4),.v (.pointer l5),.v (.int .i64 l6),.v (.int .i64 l7),.v (.pointer l8)])]
  [] (by kernel_rfl) trivial h (by kernel_rfl)
theorem vc_geo_Ln_Dir (l0:Int) (l1:Int) (l2:OA) (l3:Int) (l4:Int) (l5:OA) (l6:Int) (l7:Int) (l8:OA) (V:View) (R:Value->View->Prop)
  (h:(∀V1:View,V.Le V1->Acts prog 161 #[.agg #[.int .i64 l0,.int .i64 l1,.pointer l2]] V1 fun r1_ V2=>∃x1_:Int,∃x2_:Int,∃p3_:OA,r1_=.agg #[.int .i64 x1_,.int .i64 x2_,.pointer p3_]/\(∀V3:View,V2.Le V3->R (.agg #[.int .i64 l3,.int .i64 l4,.pointer l5,.int .i64 x1_,.int .i64 x2_,.pointer p3_]) V3))) :
  Acts prog 162 #[.agg #[.int .i64 l0,.int .i64 l1,.pointer l2,.int .i64 l3,.int .i64 l4,.pointer l5,.int .i64 l6,.int .i64 l7,.pointer l8]] V R:=
 fn_does (LF:=LF0) (RF:=[1000007]) (β0:=(fun _=>0)) tab_ok mixed [] [] func162 (by kernel_rfl)
  [(0,.agg [.v (.int .i64 l0),.v (.int .i64 l1),.v (.pointer l2),.v (.int .i64 l3),.v (.int .i64 l4),.v (.pointer l5),.v (.int .i64 l6),.v (.int .i64 l7),.v (.pointer l8)])]
  [] (by kernel_rfl) trivial h (by kernel_rfl)
theorem vc_geo_Ln_Value (l0:Int) (l1:Int) (l2:OA) (l3:Int) (l4:Int) (l5:OA) (l6:Int) (l7:Int) (l8:OA) (p0:Int) (p1:Int) (p2:OA) (p3:Int) (p4:Int) (p5:OA) (V:View) (R:Value->View->Prop)
  (h:(∀V1:View,V.Le V1->Acts prog 183 #[.agg #[.int .i64 l0,.int .i64 l1,.pointer l2,.int .i64 l3,.int .i64 l4,.pointer l5,.int .i64 l6,.int .i64 l7,.pointer l8]] V1 fun r1_ V2=>∃x1_:Int,∃x2_:Int,∃p3_:OA,∃x4_:Int,∃x5_:Int,∃p6_:OA,r1_=.agg #[.int .i64 x1_,.int .i64 x2_,.pointer p3_,.int .i64 x4_,.int .i64 x5_,.pointer p6_]/\(∀V3:View,V2.Le V3->Acts prog 160 #[.agg #[.int .i64 x1_,.int .i64 x2_,.pointer p3_,.int .i64 x4_,.int .i64 x5_,.pointer p6_],.agg #[.int .i64 p0,.int .i64 p1,.pointer p2,.int .i64 p3,.int .i64 p4,.pointer p5]] V3 fun r3_ V4=>∃x7_:Int,∃x8_:Int,∃p9_:OA,r3_=.agg #[.int .i64 x7_,.int .i64 x8_,.pointer p9_]/\(∀V5:View,V4.Le V5->Acts prog 198 #[.agg #[.int .i64 x7_,.int .i64 x8_,.pointer p9_],.agg #[.int .i64 l6,.int .i64 l7,.pointer l8]] V5 fun r5_ V6=>∃x10_:Int,∃x11_:Int,∃p12_:OA,r5_=.agg #[.int .i64 x10_,.int .i64 x11_,.pointer p12_]/\(∀V7:View,V6.Le V7->R (.agg #[.int .i64 x10_,.int .i64 x11_,.pointer p12_]) V7))))) :
  Acts prog 173 #[.agg #[.int .i64 l0,.int .i64 l1,.pointer l2,.int .i64 l3,.int .i64 l4,.pointer l5,.int .i64 l6,.int .i64 l7,.pointer l8],.agg #[.int .i64 p0,.int .i64 p1,.pointer p2,.int .i64 p3,.int .i64 p4,.pointer p5]] V R:=
 fn_does (LF:=LF0) (RF:=[1000007]) (β0:=(fun _=>0)) tab_ok mixed [] [] func173 (by kernel_rfl)
  [(0,.agg [.v (.int .i64 l0),.v (.int .i64 l1),.v (.pointer l2),.v (.int .i64 l3),.v (.int .i64 l4),.v (.pointer l5),.v (.int .i64 l6),.v (.int .i64 l7),.v (.pointer l8)]),(1,.agg [.v (.int .i64 p0),.v (.int .i64 p1),.v (.pointer p2),.v (.int .i64 p3),.v (.int .i64 p4),.v (.pointer p5)])]
  [] (by kernel_rfl) trivial h (by kernel_rfl)
theorem vc_geo_Ln_Side (l0:Int) (l1:Int) (l2:OA) (l3:Int) (l4:Int) (l5:OA) (l6:Int) (l7:Int) (l8:OA) (p0:Int) (p1:Int) (p2:OA) (p3:Int) (p4:Int) (p5:OA) (V:View) (R:Value->View->Prop)
  (h:(∀V1:View,V.Le V1->Acts prog 173 #[.agg #[.int .i64 l0,.int .i64 l1,.pointer l2,.int .i64 l3,.int .i64 l4,.pointer l5,.int .i64 l6,.int .i64 l7,.pointer l8],.agg #[.int .i64 p0,.int .i64 p1,.pointer p2,.int .i64 p3,.int .i64 p4,.pointer p5]] V1 fun r1_ V2=>∃x1_:Int,∃x2_:Int,∃p3_:OA,r1_=.agg #[.int .i64 x1_,.int .i64 x2_,.pointer p3_]/\(∀V3:View,V2.Le V3->Acts prog 174 #[.agg #[.int .i64 x1_,.int .i64 x2_,.pointer p3_]] V3 fun r3_ V4=>∃x4_:Int,r3_=.int .i64 x4_/\(∀V5:View,V4.Le V5->R (.int .i64 x4_) V5)))) :
  Acts prog 123 #[.agg #[.int .i64 l0,.int .i64 l1,.pointer l2,.int .i64 l3,.int .i64 l4,.pointer l5,.int .i64 l6,.int .i64 l7,.pointer l8],.agg #[.int .i64 p0,.int .i64 p1,.pointer p2,.int .i64 p3,.int .i64 p4,.pointer p5]] V R:=
 fn_does (LF:=LF0) (RF:=[1000007]) (β0:=(fun _=>0)) tab_ok mixed [] [] func123 (by kernel_rfl)
  [(0,.agg [.v (.int .i64 l0),.v (.int .i64 l1),.v (.pointer l2),.v (.int .i64 l3),.v (.int .i64 l4),.v (.pointer l5),.v (.int .i64 l6),.v (.int .i64 l7),.v (.pointer l8)]),(1,.agg [.v (.int .i64 p0),.v (.int .i64 p1),.v (.pointer p2),.v (.int .i64 p3),.v (.int .i64 p4),.v (.pointer p5)])]
  [] (by kernel_rfl) trivial h (by kernel_rfl)
theorem vc_geo_Ln_Base (l0:Int) (l1:Int) (l2:OA) (l3:Int) (l4:Int) (l5:OA) (l6:Int) (l7:Int) (l8:OA) (V:View) (R:Value->View->Prop)
  (h:(∀V1:View,V.Le V1->Acts prog 183 #[.agg #[.int .i64 l0,.int .i64 l1,.pointer l2,.int .i64 l3,.int .i64 l4,.pointer l5,.int .i64 l6,.int .i64 l7,.pointer l8]] V1 fun r1_ V2=>∃x1_:Int,∃x2_:Int,∃p3_:OA,∃x4_:Int,∃x5_:Int,∃p6_:OA,r1_=.agg #[.int .i64 x1_,.int .i64 x2_,.pointer p3_,.int .i64 x4_,.int .i64 x5_,.pointer p6_]/\(∀V3:View,V2.Le V3->Acts prog 161 #[.agg #[.int .i64 l6,.int .i64 l7,.pointer l8]] V3 fun r3_ V4=>∃x7_:Int,∃x8_:Int,∃p9_:OA,r3_=.agg #[.int .i64 x7_,.int .i64 x8_,.pointer p9_]/\(∀V5:View,V4.Le V5->Acts prog 160 #[.agg #[.int .i64 x1_,.int .i64 x2_,.pointer p3_,.int .i64 x4_,.int .i64 x5_,.pointer p6_],.agg #[.int .i64 x1_,.int .i64 x2_,.pointer p3_,.int .i64 x4_,.int .i64 x5_,.pointer p6_]] V5 fun r5_ V6=>∃x10_:Int,∃x11_:Int,∃p12_:OA,r5_=.agg #[.int .i64 x10_,.int .i64 x11_,.pointer p12_]/\(∀V7:View,V6.Le V7->Acts prog 163 #[.agg #[.int .i64 x7_,.int .i64 x8_,.pointer p9_],.agg #[.int .i64 x10_,.int .i64 x11_,.pointer p12_]] V7 fun r7_ V8=>∃x13_:Int,∃x14_:Int,∃p15_:OA,r7_=.agg #[.int .i64 x13_,.int .i64 x14_,.pointer p15_]/\(∀V9:View,V8.Le V9->Acts prog 170 #[.agg #[.int .i64 x1_,.int .i64 x2_,.pointer p3_,.int .i64 x4_,.int .i64 x5_,.pointer p6_],.agg #[.int .i64 x13_,.int .i64 x14_,.pointer p15_]] V9 fun r9_ V10=>∃x16_:Int,∃x17_:Int,∃p18_:OA,∃x19_:Int,∃x20_:Int,∃p21_:OA,r9_=.agg #[.int .i64 x16_,.int .i64 x17_,.pointer p18_,.int .i64 x19_,.int .i64 x20_,.pointer p21_]/\(∀V11:View,V10.Le V11->R (.agg #[.int .i64 x16_,.int .i64 x17_,.pointer p18_,.int .i64 x19_,.int .i64 x20_,.pointer p21_]) V11))))))) :
  Acts prog 168 #[.agg #[.int .i64 l0,.int .i64 l1,.pointer l2,.int .i64 l3,.int .i64 l4,.pointer l5,.int .i64 l6,.int .i64 l7,.pointer l8]] V R:=
 fn_does (LF:=LF0) (RF:=[1000007]) (β0:=(fun _=>0)) tab_ok mixed [] [] func168 (by kernel_rfl)
  [(0,.agg [.v (.int .i64 l0),.v (.int .i64 l1),.v (.pointer l2),.v (.int .i64 l3),.v (.int .i64 l4),.v (.pointer l5),.v (.int .i64 l6),.v (.int .i64 l7),.v (.pointer l8)])]
  [] (by kernel_rfl) trivial h (by kernel_rfl)
theorem vc_geo_Ln_At (l0:Int) (l1:Int) (l2:OA) (l3:Int) (l4:Int) (l5:OA) (l6:Int) (l7:Int) (l8:OA) (t0:Int) (t1:Int) (t2:OA) (V:View) (R:Value->View->Prop)
  (h:(∀V1:View,V.Le V1->Acts prog 168 #[.agg #[.int .i64 l0,.int .i64 l1,.pointer l2,.int .i64 l3,.int .i64 l4,.pointer l5,.int .i64 l6,.int .i64 l7,.pointer l8]] V1 fun r1_ V2=>∃x1_:Int,∃x2_:Int,∃p3_:OA,∃x4_:Int,∃x5_:Int,∃p6_:OA,r1_=.agg #[.int .i64 x1_,.int .i64 x2_,.pointer p3_,.int .i64 x4_,.int .i64 x5_,.pointer p6_]/\(∀V3:View,V2.Le V3->Acts prog 162 #[.agg #[.int .i64 l0,.int .i64 l1,.pointer l2,.int .i64 l3,.int .i64 l4,.pointer l5,.int .i64 l6,.int .i64 l7,.pointer l8]] V3 fun r3_ V4=>∃x7_:Int,∃x8_:Int,∃p9_:OA,∃x10_:Int,∃x11_:Int,∃p12_:OA,r3_=.agg #[.int .i64 x7_,.int .i64 x8_,.pointer p9_,.int .i64 x10_,.int .i64 x11_,.pointer p12_]/\(∀V5:View,V4.Le V5->Acts prog 170 #[.agg #[.int .i64 x7_,.int .i64 x8_,.pointer p9_,.int .i64 x10_,.int .i64 x11_,.pointer p12_],.agg #[.int .i64 t0,.int .i64 t1,.pointer t2]] V5 fun r5_ V6=>∃x13_:Int,∃x14_:Int,∃p15_:OA,∃x16_:Int,∃x17_:Int,∃p18_:OA,r5_=.agg #[.int .i64 x13_,.int .i64 x14_,.pointer p15_,.int .i64 x16_,.int .i64 x17_,.pointer p18_]/\(∀V7:View,V6.Le V7->Acts prog 169 #[.agg #[.int .i64 x1_,.int .i64 x2_,.pointer p3_,.int .i64 x4_,.int .i64 x5_,.pointer p6_],.agg #[.int .i64 x13_,.int .i64 x14_,.pointer p15_,.int .i64 x16_,.int .i64 x17_,.pointer p18_]] V7 fun r7_ V8=>∃x19_:Int,∃x20_:Int,∃p21_:OA,∃x22_:Int,∃x23_:Int,∃p24_:OA,r7_=.agg #[.int .i64 x19_,.int .i64 x20_,.pointer p21_,.int .i64 x22_,.int .i64 x23_,.pointer p24_]/\(∀V9:View,V8.Le V9->R (.agg #[.int .i64 x19_,.int .i64 x20_,.pointer p21_,.int .i64 x22_,.int .i64 x23_,.pointer p24_]) V9)))))) :
  Acts prog 118 #[.agg #[.int .i64 l0,.int .i64 l1,.pointer l2,.int .i64 l3,.int .i64 l4,.pointer l5,.int .i64 l6,.int .i64 l7,.pointer l8],.agg #[.int .i64 t0,.int .i64 t1,.pointer t2]] V R:=
 fn_does (LF:=LF0) (RF:=[1000007]) (β0:=(fun _=>0)) tab_ok mixed [] [] func118 (by kernel_rfl)
  [(0,.agg [.v (.int .i64 l0),.v (.int .i64 l1),.v (.pointer l2),.v (.int .i64 l3),.v (.int .i64 l4),.v (.pointer l5),.v (.int .i64 l6),.v (.int .i64 l7),.v (.pointer l8)]),(1,.agg [.v (.int .i64 t0),.v (.int .i64 t1),.v (.pointer t2)])]
  [] (by kernel_rfl) trivial h (by kernel_rfl)
theorem vc_geo_Ln_Param (l0:Int) (l1:Int) (l2:OA) (l3:Int) (l4:Int) (l5:OA) (l6:Int) (l7:Int) (l8:OA) (p0:Int) (p1:Int) (p2:OA) (p3:Int) (p4:Int) (p5:OA) (V:View) (R:Value->View->Prop)
  (h:(∀V1:View,V.Le V1->Acts prog 162 #[.agg #[.int .i64 l0,.int .i64 l1,.pointer l2,.int .i64 l3,.int .i64 l4,.pointer l5,.int .i64 l6,.int .i64 l7,.pointer l8]] V1 fun r1_ V2=>∃x1_:Int,∃x2_:Int,∃p3_:OA,∃x4_:Int,∃x5_:Int,∃p6_:OA,r1_=.agg #[.int .i64 x1_,.int .i64 x2_,.pointer p3_,.int .i64 x4_,.int .i64 x5_,.pointer p6_]/\(∀V3:View,V2.Le V3->Acts prog 160 #[.agg #[.int .i64 x1_,.int .i64 x2_,.pointer p3_,.int .i64 x4_,.int .i64 x5_,.pointer p6_],.agg #[.int .i64 p0,.int .i64 p1,.pointer p2,.int .i64 p3,.int .i64 p4,.pointer p5]] V3 fun r3_ V4=>∃x7_:Int,∃x8_:Int,∃p9_:OA,r3_=.agg #[.int .i64 x7_,.int .i64 x8_,.pointer p9_]/\(∀V5:View,V4.Le V5->Acts prog 160 #[.agg #[.int .i64 x1_,.int .i64 x2_,.pointer p3_,.int .i64 x4_,.int .i64 x5_,.pointer p6_],.agg #[.int .i64 x1_,.int .i64 x2_,.pointer p3_,.int .i64 x4_,.int .i64 x5_,.pointer p6_]] V5 fun r5_ V6=>∃x10_:Int,∃x11_:Int,∃p12_:OA,r5_=.agg #[.int .i64 x10_,.int .i64 x11_,.pointer p12_]/\(∀V7:View,V6.Le V7->Acts prog 163 #[.agg #[.int .i64 x7_,.int .i64 x8_,.pointer p9_],.agg #[.int .i64 x10_,.int .i64 x11_,.pointer p12_]] V7 fun r7_ V8=>∃x13_:Int,∃x14_:Int,∃p15_:OA,r7_=.agg #[.int .i64 x13_,.int .i64 x14_,.pointer p15_]/\(∀V9:View,V8.Le V9->R (.agg #[.int .i64 x13_,.int .i64 x14_,.pointer p15_]) V9)))))) :
  Acts prog 101 #[.agg #[.int .i64 l0,.int .i64 l1,.pointer l2,.int .i64 l3,.int .i64 l4,.pointer l5,.int .i64 l6,.int .i64 l7,.pointer l8],.agg #[.int .i64 p0,.int .i64 p1,.pointer p2,.int .i64 p3,.int .i64 p4,.pointer p5]] V R:=
 fn_does (LF:=LF0) (RF:=[1000007]) (β0:=(fun _=>0)) tab_ok mixed [] [] func101 (by kernel_rfl)
  [(0,.agg [.v (.int .i64 l0),.v (.int .i64 l1),.v (.pointer l2),.v (.int .i64 l3),.v (.int .i64 l4),.v (.pointer l5),.v (.int .i64 l6),.v (.int .i64 l7),.v (.pointer l8)]),(1,.agg [.v (.int .i64 p0),.v (.int .i64 p1),.v (.pointer p2),.v (.int .i64 p3),.v (.int .i64 p4),.v (.pointer p5)])]
  [] (by kernel_rfl) trivial h (by kernel_rfl)
end Go.Proofs.Tryz
