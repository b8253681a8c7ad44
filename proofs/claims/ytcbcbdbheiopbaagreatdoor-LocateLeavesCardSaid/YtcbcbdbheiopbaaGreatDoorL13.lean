/- A part of the proof (joined by program from: FracC, FracD, NumJ, VRef, RefA, RefB, RefC, TreeP, VGeo, GeoA, GeoB, GeoC, LineA). -/
import Derived.Test.YtcbcbdbheiopbaaGreatDoorL12
import Derived.Test.YtcbcbdbheiopbaaGreatDoorL5
set_option linter.unusedVariables false
open Go.IntKind (i64 u64 u32)
/- Contracts of package frac: Int, Whole, Neg, Sign, Add, Cmp, Gcd. -/
namespace Go.Proofs.Tryz
open Go.Eng Go.Big
theorem mkRat_one (z:Int):mkRat z 1=(z:Rat):=by
 apply Rat.ext
 ·rw [Rat.num_mkRat]; simp
 ·rw [Rat.den_mkRat]; simp
theorem RD.one {V:View} {bk:Nat} {ty:TypeId} {m:Nat × Nat} (h:V.blk bk (.cells #[.int .u32 1] ty m)):RD V (some ⟨bk,0,none⟩) 1 1 [1]:=
 RD.blk (ds:=[1]) h (by simp [Dig]) rfl (Nat.le_refl _)
theorem c_frac_Whole {V:View} (b:Bool) {p:OA} {n c:Nat} {ds:List Nat} (h:RD V p n c ds) (hm:ds.length<=1099511627776) :
  Acts prog 196 #[.agg #[.bool b,.slice p n c]] V fun r V'=>RR V' r (ival b ds:Rat):=by
 refine vc_frac_Whole b p n c V _ fun V1 l1 bk hb=>(c_frac_reduce b (h.le l1) (RD.one hb) hm (by simp)).mono ?_
 rintro r V2 l2 hr
 have e:mkRat (ival b ds) (val [1])=(ival b ds:Rat):=mkRat_one _
 rw [e] at hr
 obtain ⟨n,d,p,rfl⟩:=hr.shape
 exact ⟨_,_,_,rfl,fun _ V3 l3=>hr.le l3⟩
theorem intCast_wd {z:Int} (h:z.natAbs < 4611686018427387904):Wd (z:Rat):=⟨h,by show (1:Nat) < _; decide⟩
theorem c_frac_Int {V:View} (n:Int) (h0:-9223372036854775808<=n) (h1:n<=9223372036854775807) :
  Acts prog 200 #[.int .i64 n] V fun r V'=>RR V' r (n:Rat):=by
 have big:∀V1:View,V.Le V1->Acts prog 256 #[.int .i64 n] V1 fun r1_ V2=>∃b1_:Bool,∃(p2_:OA) (n2_ c2_:Nat),r1_=.agg #[.bool b1_,.slice p2_ n2_ c2_]/\(∀V3:View,V2.Le V3->∀bk3_:Nat,V3.blk bk3_ (.cells #[.int .u32 1] 264 (0,0))->Acts prog 240 #[.agg #[.bool b1_,.slice p2_ n2_ c2_],.slice (some ⟨bk3_,0,none⟩) 1 1] V3 fun r3_ V4=>∃x4_:Int,∃x5_:Int,∃p6_:OA,r3_=.agg #[.int .i64 x4_,.int .i64 x5_,.pointer p6_]/\∀J7_:C->Value,(∀V5:View,V4.Le V5->RR V5 (.agg #[.int .i64 x4_,.int .i64 x5_,.pointer p6_]) (n:Rat))):=by
  intro V1 l1
  refine (c_integer_FromInt n h0 h1).mono ?_
  rintro r V2 l2 ⟨p,m,c,rfl,g⟩
  refine ⟨_,_,_,_,rfl,fun V3 l3 bk hb=>(c_frac_reduce _ (g.le l3) (RD.one hb) (Nat.le_trans (digs_len_bits (k:=64) (by omega)) (by omega)) (by simp)).mono ?_⟩
  rintro r V4 l4 hr
  have e:mkRat (ival (decide (n < 0)) (digs n.natAbs)) (val [1])=(n:Rat):=by rw [ival_digs]; exact mkRat_one _
  rw [e] at hr
  obtain ⟨n,d,p,rfl⟩:=hr.shape
  exact ⟨_,_,_,rfl,fun _ V3 l3=>hr.le l3⟩
 refine vc_frac_Int n V _ ⟨fun _=>big,fun h2=>⟨fun _=>big,fun h3 V1 l1=>.inl ⟨rfl,intCast_wd ?_⟩⟩⟩
 rw [decide_eq_false_iff_not] at h2 h3
 omega
theorem c_R_Sign {V:View} {v:Value} {q:Rat} (h:RR V v q) {k:Nat} (hs:Sz k q) (hk:k<=1099511627776) :
  Acts prog 165 #[v] V fun r V'=>r=.int .i64 q.num.sign:=by
 rcases h with ⟨rfl,hw⟩ | ⟨a,b,p,n,c,p',n',c',rfl,h1,h2,h3,h4,h5,hw⟩
 ·refine vc_frac_R_Sign _ _ _ V _ ⟨(fun h0=>nomatch h0),fun _=>⟨fun h V1 l1=>?_,fun h=>⟨fun h' V1 l1=>?_,fun h' V1 l1=>?_⟩⟩⟩
  ·rw [Int.sign_eq_neg_one_of_neg (by simpa using h)]
  ·rw [Int.sign_eq_one_of_pos (by simpa using h')]
  ·have:q.num=0:=by rw [decide_eq_false_iff_not] at h h'; omega
   rw [this]; rfl
 ·obtain ⟨rfl,hn⟩:=h4.inv
  refine vc_frac_R_Sign _ _ _ V _ ⟨fun _=>⟨rfl,rfl,decide (q.num < 0),p,n,c,a.add 0,rfl,?_,?_,fun V1 l1=>(c_integer_Sign _ (hn.le l1) (Nat.le_trans (digs_len_bits hs.1) hk)).mono ?_⟩,(fun h0=>nomatch h0)⟩
  ·exact h1
  ·simpa [Addr.add] using h2
  ·rintro r V2 l2 rfl
   rw [ival_digs]
   exact ⟨_,rfl,fun V3 l3=>rfl⟩
theorem c_R_Zero {V:View} {v:Value} {q:Rat} (h:RR V v q):Acts prog 197 #[v] V fun r V'=>r=.bool (decide (q=0)):=by
 rcases h with ⟨rfl,hw⟩ | ⟨a,b,p,n,c,p',n',c',rfl,h1,h2,h3,h4,h5,hw⟩
 ·refine vc_frac_R_Zero _ _ _ V _ ⟨fun _ V1 l1=>?_,(fun h0=>nomatch h0)⟩
  congr 1
  rw [Bool.eq_iff_iff,beq_iff_eq,decide_eq_true_eq]
  exact Rat.num_eq_zero
 ·refine vc_frac_R_Zero _ _ _ V _ ⟨(fun h0=>nomatch h0),fun _ V1 l1=>?_⟩
  congr 1
  symm; rw [decide_eq_false_iff_not]
  intro e; subst e; exact hw ⟨by decide,by decide⟩
theorem c_R_Neg {V:View} {v:Value} {q:Rat} (h:RR V v q) {k:Nat} (hs:Sz k q) (hk:k<=1099511627776) :
  Acts prog 269 #[v] V fun r V'=>RR V' r (-q):=by
 rcases h with ⟨rfl,hw⟩ | ⟨a,b,p,n,c,p',n',c',rfl,h1,h2,h3,h4,h5,hw⟩
 ·have:=hw.1
  refine vc_frac_R_Neg _ _ _ V _ ⟨(fun h0=>nomatch h0),fun _ V1 l1=>.inl ⟨?_,by unfold Wd; rw [Rat.neg_num,Rat.neg_den,Int.natAbs_neg]; exact hw⟩⟩
  rw [i64w (by omega),Rat.neg_num,Rat.neg_den,Int.zero_sub]
 ·obtain ⟨rfl,hn⟩:=h4.inv
  refine vc_frac_R_Neg _ _ _ V _ ⟨fun _=>⟨rfl,rfl,decide (q.num < 0),p,n,c,a.add 0,rfl,?_,?_,rfl,rfl,p',n',c',⟨_,rfl,h3⟩,fun V1 l1=>(c_integer_Neg _ (hn.le l1) (Nat.le_trans (digs_len_bits hs.1) hk)).mono ?_⟩,(fun h0=>nomatch h0)⟩
  ·exact h1
  ·simpa [Addr.add] using h2
  ·rintro r V2 l2 hri
   rw [ival_digs] at hri
   obtain ⟨p2,n2,c2,rfl,g⟩:=hri
   refine ⟨_,_,_,_,rfl,fun V3 l3 bk hb=>.inr ⟨⟨bk,0,none⟩,decide (-q.num < 0),p2,n2,c2,p',n',c',rfl,?_,?_,?_,?_,?_,?_⟩⟩
   ·rw [add_zero']; exact blk_at (xs:=[_,_,_]) hb rfl
   ·rw [add_zero']; exact blk_at (xs:=[_,_,_]) hb rfl
   ·rw [add_zero']; exact blk_at (xs:=[_,_,_]) hb rfl
   ·exact ⟨_,_,_,rfl,g.le l3⟩
   ·exact h5.le (l1.trans (l2.trans l3))
   ·unfold Wd; rw [Rat.neg_num,Rat.neg_den,Int.natAbs_neg]; exact hw
theorem _root_.Go.Eng.Sz.neg {k:Nat} {q:Rat} (h:Sz k q):Sz k (-q):=by unfold Sz; rw [Rat.neg_num,Rat.neg_den,Int.natAbs_neg]; exact h
theorem natAbs_ediv_le (z:Int) (g:Nat) (h:(g:Int) ∣ z):(z / g).natAbs<=z.natAbs:=by
 rw [Int.natAbs_ediv_of_dvd h,Int.natAbs_natCast]; exact Nat.div_le_self _ _
theorem _root_.Go.Eng.Sz.mkRat {k:Nat} {z:Int} {d:Nat} (h1:z.natAbs < 2 ^ k) (h2:d < 2 ^ k) (hk:0 < k):Sz k (mkRat z d):=by
 have h3:1 < 2 ^ k:=Nat.one_lt_two_pow (by omega)
 unfold Sz
 rw [Rat.num_mkRat,Rat.den_mkRat]
 split
 ·exact ⟨Nat.two_pow_pos k,h3⟩
 ·refine ⟨Nat.lt_of_le_of_lt (natAbs_ediv_le _ _ (Int.ofNat_dvd_left.2 (Nat.gcd_dvd_right _ _))) h1,Nat.lt_of_le_of_lt (Nat.div_le_self _ _) h2⟩
theorem pow_mul_lt {a b k m:Nat} (h1:a < 2 ^ k) (h2:b < 2 ^ m):a * b < 2 ^ (k + m):=by rw [Nat.pow_add]; exact Nat.mul_lt_mul'' h1 h2
theorem add_bits {x y:Rat} {k m:Nat} (hx:Sz k x) (hy:Sz m y):(x.num * y.den).natAbs < 2 ^ (k + m)/\(y.num * x.den).natAbs < 2 ^ (k + m)/\(x.num * y.den + y.num * x.den).natAbs < 2 ^ (k + m + 1)/\x.den * y.den < 2 ^ (k + m):=by
 have h1:(x.num * y.den).natAbs < 2 ^ (k + m):=by rw [Int.natAbs_mul,Int.natAbs_natCast]; exact pow_mul_lt hx.1 hy.2
 have h2:(y.num * x.den).natAbs < 2 ^ (k + m):=by rw [Int.natAbs_mul,Int.natAbs_natCast,Nat.add_comm]; exact pow_mul_lt hy.1 hx.2
 refine ⟨h1,h2,?_,pow_mul_lt hx.2 hy.2⟩
 rw [Nat.pow_succ]; omega
theorem _root_.Go.Eng.Sz.add {x y:Rat} {k m:Nat} (hx:Sz k x) (hy:Sz m y):Sz (k + m + 1) (x + y):=by
 obtain ⟨-,-,h3,h4⟩:=add_bits hx hy
 rw [Rat.add_def']
 exact Go.Eng.Sz.mkRat h3 (Nat.lt_of_lt_of_le h4 (Nat.pow_le_pow_right (by omega) (by omega))) (by omega)
theorem _root_.Go.Eng.Sz.sub {x y:Rat} {k m:Nat} (hx:Sz k x) (hy:Sz m y):Sz (k + m + 1) (x - y):=by
 rw [Rat.sub_eq_add_neg]; exact hx.add hy.neg
theorem _root_.Go.Eng.Sz.mul {x y:Rat} {k m:Nat} (hx:Sz k x) (hy:Sz m y):Sz (k + m + 1) (x * y):=by
 rw [Rat.mul_def']
 refine (Go.Eng.Sz.mkRat (k:=k + m + 1) ?_ ?_ (by omega))
 ·rw [Int.natAbs_mul]; exact Nat.lt_of_lt_of_le (pow_mul_lt hx.1 hy.1) (Nat.pow_le_pow_right (by omega) (by omega))
 ·exact Nat.lt_of_lt_of_le (pow_mul_lt hx.2 hy.2) (Nat.pow_le_pow_right (by omega) (by omega))
theorem c_R_Add {V:View} {v w:Value} {x y:Rat} (hx:RR V v x) (hy:RR V w y) {k m:Nat} (hk:Sz k x) (hm:Sz m y) (hkm:k + m < 1099511627776) :
  Acts prog 243 #[v,w] V fun r V'=>RR V' r (x + y):=by
 obtain ⟨r0,r1,r2,rfl⟩:=hx.shape
 obtain ⟨s0,s1,s2,rfl⟩:=hy.shape
 have hxy:x + y=mkRat (x.num * y.den + y.num * x.den) (x.den * y.den):=Rat.add_def' x y
 obtain ⟨b1,b2,b3,b4⟩:=add_bits hk hm
 have gen:(∀V46:View,V.Le V46->Acts prog 191 #[.agg #[.int .i64 r0,.int .i64 r1,.pointer r2]] V46 fun r46_ V47=>∃b53_:Bool,∃(p54_:OA) (n54_ c54_:Nat),r46_=.agg #[.bool b53_,.slice p54_ n54_ c54_]/\(∀V48:View,V47.Le V48->Acts prog 264 #[.agg #[.int .i64 s0,.int .i64 s1,.pointer s2]] V48 fun r48_ V49=>∃(p55_:OA) (n55_ c55_:Nat),r48_=.slice p55_ n55_ c55_/\(∀V50:View,V49.Le V50->Acts prog 293 #[.agg #[.bool b53_,.slice p54_ n54_ c54_],.agg #[.bool false,.slice p55_ n55_ c55_]] V50 fun r50_ V51=>∃b56_:Bool,∃(p57_:OA) (n57_ c57_:Nat),r50_=.agg #[.bool b56_,.slice p57_ n57_ c57_]/\(∀V52:View,V51.Le V52->Acts prog 191 #[.agg #[.int .i64 s0,.int .i64 s1,.pointer s2]] V52 fun r52_ V53=>∃b58_:Bool,∃(p59_:OA) (n59_ c59_:Nat),r52_=.agg #[.bool b58_,.slice p59_ n59_ c59_]/\(∀V54:View,V53.Le V54->Acts prog 264 #[.agg #[.int .i64 r0,.int .i64 r1,.pointer r2]] V54 fun r54_ V55=>∃(p60_:OA) (n60_ c60_:Nat),r54_=.slice p60_ n60_ c60_/\(∀V56:View,V55.Le V56->Acts prog 293 #[.agg #[.bool b58_,.slice p59_ n59_ c59_],.agg #[.bool false,.slice p60_ n60_ c60_]] V56 fun r56_ V57=>∃b61_:Bool,∃(p62_:OA) (n62_ c62_:Nat),r56_=.agg #[.bool b61_,.slice p62_ n62_ c62_]/\(∀V58:View,V57.Le V58->Acts prog 294 #[.agg #[.bool b56_,.slice p57_ n57_ c57_],.agg #[.bool b61_,.slice p62_ n62_ c62_]] V58 fun r58_ V59=>∃b63_:Bool,∃(p64_:OA) (n64_ c64_:Nat),r58_=.agg #[.bool b63_,.slice p64_ n64_ c64_]/\(∀V60:View,V59.Le V60->Acts prog 264 #[.agg #[.int .i64 r0,.int .i64 r1,.pointer r2]] V60 fun r60_ V61=>∃(p65_:OA) (n65_ c65_:Nat),r60_=.slice p65_ n65_ c65_/\(∀V62:View,V61.Le V62->Acts prog 264 #[.agg #[.int .i64 s0,.int .i64 s1,.pointer s2]] V62 fun r62_ V63=>∃(p66_:OA) (n66_ c66_:Nat),r62_=.slice p66_ n66_ c66_/\(∀V64:View,V63.Le V64->Acts prog 263 #[.slice p65_ n65_ c65_,.slice p66_ n66_ c66_] V64 fun r64_ V65=>∃(p67_:OA) (n67_ c67_:Nat),r64_=.slice p67_ n67_ c67_/\(∀V66:View,V65.Le V66->Acts prog 240 #[.agg #[.bool b63_,.slice p64_ n64_ c64_],.slice p67_ n67_ c67_] V66 fun r66_ V67=>∃x68_:Int,∃x69_:Int,∃p70_:OA,r66_=.agg #[.int .i64 x68_,.int .i64 x69_,.pointer p70_]/\(∀V68:View,V67.Le V68->RR V68 (.agg #[.int .i64 x68_,.int .i64 x69_,.pointer p70_]) (x + y))))))))))))):=by
  intro V1 l1
  refine (c_R_Num (hx.le l1) hk (by omega)).mono ?_
  rintro r V2 l2 ⟨p1,n1,c1,rfl,g1⟩
  refine ⟨_,_,_,_,rfl,fun V3 l3=>(c_R_Den (hy.le (l1.trans (l2.trans l3))) hm (by omega)).mono ?_⟩
  rintro r V4 l4 ⟨p2,n2,c2,rfl,g2⟩
  have q1:=digs_len_bits hk.1
  have q2:=digs_len_bits hk.2
  have q3:=digs_len_bits hm.1
  have q4:=digs_len_bits hm.2
  refine ⟨_,_,_,rfl,fun V5 l5=>(c_integer_Mul _ false (g1.le (l3.trans (l4.trans l5))) (g2.le l5) (by omega)).mono ?_⟩
  rintro r V6 l6 h6
  rw [ival_digs,ival_false,val_digs] at h6
  obtain ⟨p3,n3,c3,rfl,g3⟩:=h6
  refine ⟨_,_,_,_,rfl,fun V7 l7=>(c_R_Num (hy.le (l1.trans (l2.trans (l3.trans (l4.trans (l5.trans (l6.trans l7))))))) hm (by omega)).mono ?_⟩
  rintro r V8 l8 ⟨p4,n4,c4,rfl,g4⟩
  refine ⟨_,_,_,_,rfl,fun V9 l9=>(c_R_Den (hx.le (l1.trans (l2.trans (l3.trans (l4.trans (l5.trans (l6.trans (l7.trans (l8.trans l9))))))))) hk (by omega)).mono ?_⟩
  rintro r V10 l10 ⟨p5,n5,c5,rfl,g5⟩
  refine ⟨_,_,_,rfl,fun V11 l11=>(c_integer_Mul _ false (g4.le (l9.trans (l10.trans l11))) (g5.le l11) (by omega)).mono ?_⟩
  rintro r V12 l12 h12
  rw [ival_digs,ival_false,val_digs] at h12
  obtain ⟨p6,n6,c6,rfl,g6⟩:=h12
  have q5:=digs_len_bits b1
  have q6:=digs_len_bits b2
  refine ⟨_,_,_,_,rfl,fun V13 l13=>(c_integer_Add _ _ (g3.le (l7.trans (l8.trans (l9.trans (l10.trans (l11.trans (l12.trans l13))))))) (g6.le l13) (by omega) (by omega)).mono ?_⟩
  rintro r V14 l14 h14
  rw [ival_digs,ival_digs] at h14
  obtain ⟨p7,n7,c7,rfl,g7⟩:=h14
  have L14:=l1.trans (l2.trans (l3.trans (l4.trans (l5.trans (l6.trans (l7.trans (l8.trans (l9.trans (l10.trans (l11.trans (l12.trans (l13.trans l14))))))))))))
  refine ⟨_,_,_,_,rfl,fun V15 l15=>(c_R_Den (hx.le (L14.trans l15)) hk (by omega)).mono ?_⟩
  rintro r V16 l16 ⟨p8,n8,c8,rfl,g8⟩
  refine ⟨_,_,_,rfl,fun V17 l17=>(c_R_Den (hy.le (L14.trans (l15.trans (l16.trans l17)))) hm (by omega)).mono ?_⟩
  rintro r V18 l18 ⟨p9,n9,c9,rfl,g9⟩
  refine ⟨_,_,_,rfl,fun V19 l19=>(c_nat_Mul (g8.le (l17.trans (l18.trans l19))) (g9.le l19) (by omega)).mono ?_⟩
  rintro r V20 l20 ⟨p10,n10,c10,rfl,g10⟩
  rw [val_digs,val_digs] at g10
  have q7:=digs_len_bits b3
  have q8:=digs_len_bits b4
  refine ⟨_,_,_,rfl,fun V21 l21=>(c_frac_reduce _ (g7.le (l15.trans (l16.trans (l17.trans (l18.trans (l19.trans (l20.trans l21))))))) (g10.le l21) (by omega) (by omega)).mono ?_⟩
  rintro r V22 l22 h22
  rw [ival_digs,val_digs,← hxy] at h22
  obtain ⟨n,d,p,rfl⟩:=h22.shape
  exact ⟨_,_,_,rfl,fun V23 l23=>h22.le l23⟩
 have lift:∀V1:View,V.Le V1->∀V2:View,V1.Le V2->V.Le V2:=fun _ h _ h'=>h.trans h'
 rcases hx with ⟨ex,wx⟩ | ⟨a,b,p,n,c,p',n',c',ex,-,-,-,-,-,wx⟩
 ·rcases hy with ⟨ey,wy⟩ | ⟨a,b,p,n,c,p',n',c',ey,-,-,-,-,-,wy⟩
  ·simp only [Value.agg.injEq,Array.mk.injEq,List.cons.injEq,Value.int.injEq,Value.pointer.injEq,true_and,and_true] at ex ey
   obtain ⟨rfl,rfl,rfl⟩:=ex
   obtain ⟨rfl,rfl,rfl⟩:=ey
   obtain ⟨wx1,wx2⟩:=wx
   obtain ⟨wy1,wy2⟩:=wy
   have dx:=x.den_nz
   have dy:=y.den_nz
   have e1:i64.wrap ((x.den:Int) - 1 + 1)=x.den:=by rw [i64w (by omega)]; omega
   have e2:i64.wrap ((y.den:Int) - 1 + 1)=y.den:=by rw [i64w (by omega)]; omega
   refine vc_frac_R_Add _ _ _ _ _ _ V _ ⟨fun _=>⟨fun _ _=>True,⟨fun _=>⟨fun h1=>⟨fun h2 V1 l1=>?_,fun h2=>?_⟩,fun h1=>?_⟩,(fun h=>nomatch h)⟩,fun _ V1 l1 _=>⟨by trivial,fun V2 l2=>gen V2 (l1.trans l2)⟩⟩,(fun h=>nomatch h)⟩
   ·have h1:x.den=1:=by rw [beq_iff_eq] at h1; omega
    have h2:y.den=1:=by rw [beq_iff_eq] at h2; omega
    rw [i64w (by omega)]
    refine (c_frac_Int _ (by omega) (by omega)).mono ?_
    rintro r V2 l2 hr
    have e:((x.num + y.num:Int):Rat)=x + y:=by
     rw [hxy,h1,h2]
     simp only [Nat.mul_one,Int.natCast_one,Int.mul_one]
     exact (mkRat_one _).symm
    rw [e] at hr
    obtain ⟨n,d,p,rfl⟩:=hr.shape
    exact ⟨_,_,_,rfl,fun V3 l3=>hr.le l3⟩
   all_goals
    rw [e1,e2]
    refine fun V4 l4=>(c_frac_times _ _ wx1 (by omega)).mono ?_
    rintro r V5 l5 ⟨z1,rfl,hz1⟩
    refine ⟨_,_,rfl,fun V6 l6=>(c_frac_times _ _ wy1 (by omega)).mono ?_⟩
    rintro r V7 l7 ⟨z2,rfl,hz2⟩
    refine ⟨_,_,rfl,fun V8 l8=>(c_frac_times _ _ (by omega) (by omega)).mono ?_⟩
    rintro r V9 l9 ⟨z3,rfl,hz3⟩
    refine ⟨_,_,rfl,fun g1=>⟨fun g2=>⟨fun g3=>⟨fun g4=>⟨fun g5 V10 l10=>?_,fun _=>⟨(),by and_intros <;> rfl,trivial⟩⟩,fun _=>⟨(),by and_intros <;> rfl,trivial⟩⟩,fun _=>⟨(),by and_intros <;> rfl,trivial⟩⟩,fun _=>⟨(),by and_intros <;> rfl,trivial⟩⟩,fun _=>⟨(),by and_intros <;> rfl,trivial⟩⟩
    rw [decide_eq_true_eq] at g1 g2 g3 g4 g5
    have k1:=hz1 g1
    have k2:=hz2 g2
    have k3:=hz3 g3
    rw [← k1] at g1
    rw [← k2] at g2
    rw [← Int.natCast_mul,Int.natAbs_natCast] at g3
    rw [← Int.natCast_mul] at k3
    rw [i64w (by omega)] at g4 g5 ⊢
    rw [k3]
    refine (c_frac_lowest _ _ (by omega) g3 (Nat.mul_ne_zero dx dy)).mono ?_
    rintro r V11 l11 hr
    rw [k1,k2,← hxy] at hr
    obtain ⟨n,d,p,rfl⟩:=hr.shape
    exact ⟨_,_,_,rfl,fun V3 l3=>hr.le l3⟩
  ·simp only [Value.agg.injEq,Array.mk.injEq,List.cons.injEq,Value.int.injEq,Value.pointer.injEq,true_and,and_true] at ex ey
   obtain ⟨rfl,rfl,rfl⟩:=ex
   obtain ⟨rfl,rfl,rfl⟩:=ey
   exact vc_frac_R_Add _ _ _ _ _ _ V _ ⟨fun _=>⟨fun _ _=>True,⟨(fun h=>nomatch h),fun _=>⟨(),by and_intros <;> rfl,trivial⟩⟩,fun _ V1 l1 _=>⟨by trivial,fun V2 l2=>gen V2 (l1.trans l2)⟩⟩,(fun h=>nomatch h)⟩
 ·simp only [Value.agg.injEq,Array.mk.injEq,List.cons.injEq,Value.int.injEq,Value.pointer.injEq,true_and,and_true] at ex
  obtain ⟨rfl,rfl,rfl⟩:=ex
  exact vc_frac_R_Add _ _ _ _ _ _ V _ ⟨(fun h=>nomatch h),fun _=>gen⟩
end Go.Proofs.Tryz
/- Contracts of package frac: Sub, Cmp, Equal, Gcd. -/
namespace Go.Big
/-- The order of two numbers. -/
def cmpQ (x y:Rat):Int:=(x - y).num.sign
/-- The greatest number of which both are integer multiples. -/
def gcdQ (x y:Rat):Rat:=mkRat (Nat.gcd (x.num.natAbs * y.den) (y.num.natAbs * x.den):Nat) (x.den * y.den)
theorem num_neg' {q:Rat}:q.num < 0↔q < 0:=by
 have:=@Rat.num_nonneg q
 rw [← Rat.not_le,← this]; omega
theorem num_pos' {q:Rat}:0 < q.num↔0 < q:=by
 have h1:=@Rat.num_nonneg q
 have h2:=@Rat.num_eq_zero q
 rw [Rat.lt_iff_le_and_ne,← h1]
 constructor
 ·intro h; exact ⟨by omega,fun e=>by rw [← e] at h; simp at h⟩
 ·rintro ⟨h,hne⟩
  have:q.num≠0:=fun e=>hne (h2.1 e).symm
  omega
theorem cmpQ_lt {x y:Rat}:x < y↔cmpQ x y=-1:=by
 unfold cmpQ
 rw [Int.sign_eq_neg_one_iff_neg,num_neg',Rat.lt_iff_sub_pos x y,← Rat.neg_sub y x]
 constructor
 ·intro h; have:=Rat.neg_lt_neg h; simpa using this
 ·intro h; have:=Rat.neg_lt_neg h; rw [Rat.neg_neg] at this; simpa using this
theorem cmpQ_gt {x y:Rat}:y < x↔cmpQ x y=1:=by
 unfold cmpQ
 rw [Int.sign_eq_one_iff_pos,num_pos',Rat.lt_iff_sub_pos y x]
theorem cmpQ_eq {x y:Rat}:x=y↔cmpQ x y=0:=by
 unfold cmpQ
 rw [Int.sign_eq_zero_iff_zero,Rat.num_eq_zero]
 constructor
 ·intro h; subst h; exact Rat.sub_self
 ·intro h
  have:=congrArg (· + y) h
  simpa [Rat.sub_add_cancel,Rat.zero_add] using this
end Go.Big
namespace Go.Proofs.Tryz
open Go.Eng Go.Big
theorem c_R_Sub {V:View} {v w:Value} {x y:Rat} (hx:RR V v x) (hy:RR V w y) {k m:Nat} (hk:Sz k x) (hm:Sz m y) (hkm:k + m < 1099511627776) :
  Acts prog 273 #[v,w] V fun r V'=>RR V' r (x - y):=by
 obtain ⟨r0,r1,r2,rfl⟩:=hx.shape
 obtain ⟨s0,s1,s2,rfl⟩:=hy.shape
 refine vc_frac_R_Sub _ _ _ _ _ _ V _ fun V1 l1=>(c_R_Neg (hy.le l1) hm (by omega)).mono ?_
 rintro r V2 l2 h2
 obtain ⟨n,d,p,rfl⟩:=h2.shape
 refine ⟨_,_,_,rfl,fun V3 l3=>(c_R_Add (hx.le (l1.trans (l2.trans l3))) (h2.le l3) hk hm.neg hkm).mono ?_⟩
 rintro r V4 l4 h4
 rw [← Rat.sub_eq_add_neg] at h4
 obtain ⟨n,d,p,rfl⟩:=h4.shape
 exact ⟨_,_,_,rfl,fun V5 l5=>h4.le l5⟩
theorem c_R_Cmp {V:View} {v w:Value} {x y:Rat} (hx:RR V v x) (hy:RR V w y) {k m:Nat} (hk:Sz k x) (hm:Sz m y) (hkm:k + m < 1099511627776) :
  Acts prog 211 #[v,w] V fun r V'=>r=.int .i64 (cmpQ x y):=by
 obtain ⟨r0,r1,r2,rfl⟩:=hx.shape
 obtain ⟨s0,s1,s2,rfl⟩:=hy.shape
 have gen:∀V14:View,V.Le V14->Acts prog 273 #[.agg #[.int .i64 r0,.int .i64 r1,.pointer r2],.agg #[.int .i64 s0,.int .i64 s1,.pointer s2]] V14 fun r14_ V15=>∃x9_:Int,∃x10_:Int,∃p11_:OA,r14_=.agg #[.int .i64 x9_,.int .i64 x10_,.pointer p11_]/\(∀V16:View,V15.Le V16->Acts prog 165 #[.agg #[.int .i64 x9_,.int .i64 x10_,.pointer p11_]] V16 fun r16_ V17=>∃x12_:Int,r16_=.int .i64 x12_/\(∀V18:View,V17.Le V18->Value.int .i64 x12_=.int .i64 (cmpQ x y))):=by
  intro V1 l1
  refine (c_R_Sub (hx.le l1) (hy.le l1) hk hm hkm).mono ?_
  rintro r V2 l2 h2
  obtain ⟨n,d,p,rfl⟩:=h2.shape
  refine ⟨_,_,_,rfl,fun V3 l3=>(c_R_Sign (h2.le l3) (hk.sub hm) (by omega)).mono ?_⟩
  rintro r V4 l4 rfl
  exact ⟨_,rfl,fun _ _=>rfl⟩
 rcases hx with ⟨ex,wx⟩ | ⟨a,b,p,n,c,p',n',c',ex,-,-,-,-,-,wx⟩
 ·rcases hy with ⟨ey,wy⟩ | ⟨a,b,p,n,c,p',n',c',ey,-,-,-,-,-,wy⟩
  ·simp only [Value.agg.injEq,Array.mk.injEq,List.cons.injEq,Value.int.injEq,Value.pointer.injEq,true_and,and_true] at ex ey
   obtain ⟨rfl,rfl,rfl⟩:=ex
   obtain ⟨rfl,rfl,rfl⟩:=ey
   have hlt:x.den=y.den->((x < y↔x.num < y.num)/\(y < x↔y.num < x.num)/\(x=y↔x.num=y.num)):=by
    intro e
    have hd:(0:Int) < y.den:=by have:=y.den_nz; omega
    refine ⟨?_,?_,fun h=>by rw [h],fun h=>Rat.ext h e⟩
    ·rw [Rat.lt_iff,e]; exact ⟨fun h=>Int.lt_of_mul_lt_mul_right h (by omega),fun h=>Int.mul_lt_mul_of_pos_right h hd⟩
    ·rw [Rat.lt_iff,e]; exact ⟨fun h=>Int.lt_of_mul_lt_mul_right h (by omega),fun h=>Int.mul_lt_mul_of_pos_right h hd⟩
   refine vc_frac_R_Cmp _ _ _ _ _ _ V _ ⟨fun _=>⟨fun _=>⟨fun h1=>?_,fun _=>gen⟩,(fun h=>nomatch h)⟩,(fun h=>nomatch h)⟩
   have h1:x.den=y.den:=by rw [beq_iff_eq] at h1; omega
   obtain ⟨g1,g2,g3⟩:=hlt h1
   refine ⟨fun h V1 l1=>?_,fun h=>⟨fun h' V1 l1=>?_,fun h' V1 l1=>?_⟩⟩
   ·rw [cmpQ_lt.1 (g1.2 (by simpa using h))]
   ·rw [cmpQ_gt.1 (g2.2 (by simpa using h'))]
   ·rw [cmpQ_eq.1 (g3.2 (by rw [decide_eq_false_iff_not] at h h'; omega))]
  ·simp only [Value.agg.injEq,Array.mk.injEq,List.cons.injEq,Value.int.injEq,Value.pointer.injEq,true_and,and_true] at ex ey
   obtain ⟨rfl,rfl,rfl⟩:=ex
   obtain ⟨rfl,rfl,rfl⟩:=ey
   exact vc_frac_R_Cmp _ _ _ _ _ _ V _ ⟨fun _=>⟨(fun h=>nomatch h),fun _=>gen⟩,(fun h=>nomatch h)⟩
 ·simp only [Value.agg.injEq,Array.mk.injEq,List.cons.injEq,Value.int.injEq,Value.pointer.injEq,true_and,and_true] at ex
  obtain ⟨rfl,rfl,rfl⟩:=ex
  exact vc_frac_R_Cmp _ _ _ _ _ _ V _ ⟨(fun h=>nomatch h),fun _=>gen⟩
theorem c_R_Equal {V:View} {v w:Value} {x y:Rat} (hx:RR V v x) (hy:RR V w y) {k m:Nat} (hk:Sz k x) (hm:Sz m y) (hkm:k + m < 1099511627776) :
  Acts prog 199 #[v,w] V fun r V'=>r=.bool (decide (x=y)):=by
 obtain ⟨r0,r1,r2,rfl⟩:=hx.shape
 obtain ⟨s0,s1,s2,rfl⟩:=hy.shape
 refine vc_frac_R_Equal _ _ _ _ _ _ V _ fun V1 l1=>(c_R_Cmp (hx.le l1) (hy.le l1) hk hm hkm).mono ?_
 rintro r V2 l2 rfl
 refine ⟨_,rfl,fun V3 l3=>?_⟩
 congr 1
 rw [Bool.eq_iff_iff,beq_iff_eq,decide_eq_true_eq,cmpQ_eq]
theorem gcd_bits {x y:Rat} {k m:Nat} (hx:Sz k x) (hy:Sz m y):x.num.natAbs * y.den < 2 ^ (k + m)/\y.num.natAbs * x.den < 2 ^ (k + m)/\Nat.gcd (x.num.natAbs * y.den) (y.num.natAbs * x.den) < 2 ^ (k + m)/\x.den * y.den < 2 ^ (k + m):=by
 have h1:x.num.natAbs * y.den < 2 ^ (k + m):=pow_mul_lt hx.1 hy.2
 have h2:y.num.natAbs * x.den < 2 ^ (k + m):=by rw [Nat.add_comm]; exact pow_mul_lt hy.1 hx.2
 refine ⟨h1,h2,?_,pow_mul_lt hx.2 hy.2⟩
 rcases Nat.eq_zero_or_pos (x.num.natAbs * y.den) with e | e
 ·rw [e,Nat.gcd_zero_left]; exact h2
 ·exact Nat.lt_of_le_of_lt (Nat.le_of_dvd e (Nat.gcd_dvd_left _ _)) h1
theorem Sz_gcdQ {x y:Rat} {k m:Nat} (hx:Sz k x) (hy:Sz m y):Sz (k + m + 1) (gcdQ x y):=by
 obtain ⟨-,-,h3,h4⟩:=gcd_bits hx hy
 have h5:2 ^ (k + m)<=2 ^ (k + m + 1):=Nat.pow_le_pow_right (by omega) (by omega)
 exact Go.Eng.Sz.mkRat (by rw [Int.natAbs_natCast]; omega) (by omega) (by omega)
theorem c_frac_Gcd {V:View} {v w:Value} {x y:Rat} (hx:RR V v x) (hy:RR V w y) {k m:Nat} (hk:Sz k x) (hm:Sz m y) (hkm:k + m < 1099511627776) :
  Acts prog 198 #[v,w] V fun r V'=>RR V' r (gcdQ x y):=by
 obtain ⟨r0,r1,r2,rfl⟩:=hx.shape
 obtain ⟨s0,s1,s2,rfl⟩:=hy.shape
 obtain ⟨b1,b2,b3,b4⟩:=gcd_bits hk hm
 have q1:=digs_len_bits hk.1
 have q2:=digs_len_bits hk.2
 have q3:=digs_len_bits hm.1
 have q4:=digs_len_bits hm.2
 have q5:=digs_len_bits b1
 have q6:=digs_len_bits b2
 have q7:=digs_len_bits b3
 have q8:=digs_len_bits b4
 have gen:(∀V78:View,V.Le V78->Acts prog 264 #[.agg #[.int .i64 r0,.int .i64 r1,.pointer r2]] V78 fun r78_ V79=>∃(p52_:OA) (n52_ c52_:Nat),r78_=.slice p52_ n52_ c52_/\(∀V80:View,V79.Le V80->Acts prog 264 #[.agg #[.int .i64 s0,.int .i64 s1,.pointer s2]] V80 fun r80_ V81=>∃(p53_:OA) (n53_ c53_:Nat),r80_=.slice p53_ n53_ c53_/\(∀V82:View,V81.Le V82->Acts prog 263 #[.slice p52_ n52_ c52_,.slice p53_ n53_ c53_] V82 fun r82_ V83=>∃(p54_:OA) (n54_ c54_:Nat),r82_=.slice p54_ n54_ c54_/\(∀V84:View,V83.Le V84->Acts prog 191 #[.agg #[.int .i64 r0,.int .i64 r1,.pointer r2]] V84 fun r84_ V85=>∃b55_:Bool,∃(p56_:OA) (n56_ c56_:Nat),r84_=.agg #[.bool b55_,.slice p56_ n56_ c56_]/\(∀V86:View,V85.Le V86->Acts prog 264 #[.agg #[.int .i64 s0,.int .i64 s1,.pointer s2]] V86 fun r86_ V87=>∃(p57_:OA) (n57_ c57_:Nat),r86_=.slice p57_ n57_ c57_/\(∀V88:View,V87.Le V88->Acts prog 263 #[.slice p56_ n56_ c56_,.slice p57_ n57_ c57_] V88 fun r88_ V89=>∃(p58_:OA) (n58_ c58_:Nat),r88_=.slice p58_ n58_ c58_/\(∀V90:View,V89.Le V90->Acts prog 191 #[.agg #[.int .i64 s0,.int .i64 s1,.pointer s2]] V90 fun r90_ V91=>∃b59_:Bool,∃(p60_:OA) (n60_ c60_:Nat),r90_=.agg #[.bool b59_,.slice p60_ n60_ c60_]/\(∀V92:View,V91.Le V92->Acts prog 264 #[.agg #[.int .i64 r0,.int .i64 r1,.pointer r2]] V92 fun r92_ V93=>∃(p61_:OA) (n61_ c61_:Nat),r92_=.slice p61_ n61_ c61_/\(∀V94:View,V93.Le V94->Acts prog 263 #[.slice p60_ n60_ c60_,.slice p61_ n61_ c61_] V94 fun r94_ V95=>∃(p62_:OA) (n62_ c62_:Nat),r94_=.slice p62_ n62_ c62_/\(∀V96:View,V95.Le V96->Acts prog 265 #[.slice p58_ n58_ c58_,.slice p62_ n62_ c62_] V96 fun r96_ V97=>∃(p63_:OA) (n63_ c63_:Nat),r96_=.slice p63_ n63_ c63_/\(∀V98:View,V97.Le V98->Acts prog 240 #[.agg #[.bool false,.slice p63_ n63_ c63_],.slice p54_ n54_ c54_] V98 fun r98_ V99=>∃x64_:Int,∃x65_:Int,∃p66_:OA,r98_=.agg #[.int .i64 x64_,.int .i64 x65_,.pointer p66_]/\(∀V100:View,V99.Le V100->RR V100 (.agg #[.int .i64 x64_,.int .i64 x65_,.pointer p66_]) (gcdQ x y))))))))))))):=by
  intro V1 l1
  refine (c_R_Den (hx.le l1) hk (by omega)).mono ?_
  rintro r V2 l2 ⟨p1,n1,c1,rfl,g1⟩
  refine ⟨_,_,_,rfl,fun V3 l3=>(c_R_Den (hy.le (l1.trans (l2.trans l3))) hm (by omega)).mono ?_⟩
  rintro r V4 l4 ⟨p2,n2,c2,rfl,g2⟩
  refine ⟨_,_,_,rfl,fun V5 l5=>(c_nat_Mul (g1.le (l3.trans (l4.trans l5))) (g2.le l5) (by omega)).mono ?_⟩
  rintro r V6 l6 ⟨p3,n3,c3,rfl,g3⟩
  rw [val_digs,val_digs] at g3
  have L6:=l1.trans (l2.trans (l3.trans (l4.trans (l5.trans l6))))
  refine ⟨_,_,_,rfl,fun V7 l7=>(c_R_Num (hx.le (L6.trans l7)) hk (by omega)).mono ?_⟩
  rintro r V8 l8 ⟨p4,n4,c4,rfl,g4⟩
  refine ⟨_,_,_,_,rfl,fun V9 l9=>(c_R_Den (hy.le (L6.trans (l7.trans (l8.trans l9)))) hm (by omega)).mono ?_⟩
  rintro r V10 l10 ⟨p5,n5,c5,rfl,g5⟩
  refine ⟨_,_,_,rfl,fun V11 l11=>(c_nat_Mul (g4.le (l9.trans (l10.trans l11))) (g5.le l11) (by omega)).mono ?_⟩
  rintro r V12 l12 ⟨p6,n6,c6,rfl,g6⟩
  rw [val_digs,val_digs] at g6
  have L12:=L6.trans (l7.trans (l8.trans (l9.trans (l10.trans (l11.trans l12)))))
  refine ⟨_,_,_,rfl,fun V13 l13=>(c_R_Num (hy.le (L12.trans l13)) hm (by omega)).mono ?_⟩
  rintro r V14 l14 ⟨p7,n7,c7,rfl,g7⟩
  refine ⟨_,_,_,_,rfl,fun V15 l15=>(c_R_Den (hx.le (L12.trans (l13.trans (l14.trans l15)))) hk (by omega)).mono ?_⟩
  rintro r V16 l16 ⟨p8,n8,c8,rfl,g8⟩
  refine ⟨_,_,_,rfl,fun V17 l17=>(c_nat_Mul (g7.le (l15.trans (l16.trans l17))) (g8.le l17) (by omega)).mono ?_⟩
  rintro r V18 l18 ⟨p9,n9,c9,rfl,g9⟩
  rw [val_digs,val_digs] at g9
  have L18:=l13.trans (l14.trans (l15.trans (l16.trans (l17.trans l18))))
  refine ⟨_,_,_,rfl,fun V19 l19=>(c_nat_Gcd (g6.le (L18.trans l19)) (g9.le l19) (by omega) (by omega)).mono ?_⟩
  rintro r V20 l20 ⟨p10,n10,c10,rfl,g10⟩
  rw [val_digs,val_digs] at g10
  refine ⟨_,_,_,rfl,fun V21 l21=>(c_frac_reduce false (g10.le l21) (g3.le (l7.trans (l8.trans (l9.trans (l10.trans (l11.trans (l12.trans (L18.trans (l19.trans (l20.trans l21)))))))))) (by omega) (by omega)).mono ?_⟩
  rintro r V22 l22 h22
  rw [ival_false,val_digs,val_digs] at h22
  obtain ⟨n,d,p,rfl⟩:=h22.shape
  exact ⟨_,_,_,rfl,fun V23 l23=>h22.le l23⟩
 rcases hx with ⟨ex,wx⟩ | ⟨a,b,p,n,c,p',n',c',ex,-,-,-,-,-,wx⟩
 ·rcases hy with ⟨ey,wy⟩ | ⟨a,b,p,n,c,p',n',c',ey,-,-,-,-,-,wy⟩
  ·simp only [Value.agg.injEq,Array.mk.injEq,List.cons.injEq,Value.int.injEq,Value.pointer.injEq,true_and,and_true] at ex ey
   obtain ⟨rfl,rfl,rfl⟩:=ex
   obtain ⟨rfl,rfl,rfl⟩:=ey
   obtain ⟨wx1,wx2⟩:=wx
   obtain ⟨wy1,wy2⟩:=wy
   refine vc_frac_Gcd _ _ _ _ _ _ V _ ⟨fun _=>⟨fun _=>⟨fun h1=>⟨fun _ _=>True,⟨fun h2 V1 l1=>?_,fun _=>⟨(),by and_intros <;> rfl,trivial⟩⟩,fun _ V1 l1 _=>⟨by trivial,fun V2 l2=>gen V2 (l1.trans l2)⟩⟩,fun _=>gen⟩,(fun h=>nomatch h)⟩,(fun h=>nomatch h)⟩
   have h1:x.den=1:=by rw [beq_iff_eq] at h1; omega
   have h2:y.den=1:=by rw [beq_iff_eq] at h2; omega
   refine (c_frac_abs _ (by omega) (by omega)).mono ?_
   rintro r V2 l2 rfl
   refine ⟨_,rfl,fun V3 l3=>(c_frac_abs _ (by omega) (by omega)).mono ?_⟩
   rintro r V4 l4 rfl
   refine ⟨_,rfl,fun V5 l5=>(c_frac_gcd _ _ (by omega) (by omega)).mono ?_⟩
   rintro r V6 l6 rfl
   refine ⟨_,rfl,fun V7 l7=>.inl ?_⟩
   have e:gcdQ x y=((Nat.gcd x.num.natAbs y.num.natAbs:Nat):Int):=by
    unfold gcdQ
    rw [h1,h2,Nat.mul_one,Nat.mul_one,Nat.mul_one]
    exact mkRat_one _
   have hl:Nat.gcd x.num.natAbs y.num.natAbs < 4611686018427387904:=by
    rcases Nat.eq_zero_or_pos x.num.natAbs with e | e
    ·rw [e,Nat.gcd_zero_left]; exact wy1
    ·exact Nat.lt_of_le_of_lt (Nat.le_of_dvd e (Nat.gcd_dvd_left _ _)) wx1
   rw [e,i64w (by omega)]
   exact ⟨rfl,intCast_wd (by rw [Int.natAbs_natCast]; exact hl)⟩
  ·simp only [Value.agg.injEq,Array.mk.injEq,List.cons.injEq,Value.int.injEq,Value.pointer.injEq,true_and,and_true] at ex ey
   obtain ⟨rfl,rfl,rfl⟩:=ex
   obtain ⟨rfl,rfl,rfl⟩:=ey
   exact vc_frac_Gcd _ _ _ _ _ _ V _ ⟨fun _=>⟨(fun h=>nomatch h),fun _=>gen⟩,(fun h=>nomatch h)⟩
 ·simp only [Value.agg.injEq,Array.mk.injEq,List.cons.injEq,Value.int.injEq,Value.pointer.injEq,true_and,and_true] at ex
  obtain ⟨rfl,rfl,rfl⟩:=ex
  exact vc_frac_Gcd _ _ _ _ _ _ V _ ⟨(fun h=>nomatch h),fun _=>gen⟩
end Go.Proofs.Tryz
/- Contracts of the reference's rational numbers: Plus, Sub, Times, C. -/
namespace Go.Proofs.Tryz
open Go.Eng Go.Big
theorem c_num_pos {V:View} {p:OA} {n c x:Nat} (h:RN V p n c x) :
  Acts prog 103 #[.bool false,.slice p n c] V fun r V'=>RI V' r (x:Int):=by
 have:=c_num_Make false h
 rwa [if_neg (by decide)] at this
theorem den_one_len {x:Rat} {k:Nat} (h:Sz k x):(digs x.num.natAbs).length<=k/\(digs x.den).length<=k/\(digs (x.den:Int).natAbs).length<=k:=⟨digs_len_bits h.1,digs_len_bits h.2,digs_len_bits h.2⟩
theorem c_num_Plus {V:View} {v w:Value} {x y:Rat} (hx:RQ V v x) (hy:RQ V w y) {k m:Nat} (hk:Sz k x) (hm:Sz m y) (hkm:k + m < 274877906944) :
  Acts prog 36 #[v,w] V fun r V'=>RQ V' r (x + y):=by
 obtain ⟨p,n,c,p',n',c',rfl,hx1,hx2⟩:=hx
 obtain ⟨q,i,e,q',i',e',rfl,hy1,hy2⟩:=hy
 have hlx:=dend_len hx2
 have hly:=dend_len hy2
 obtain ⟨b1,b2,b3,b4⟩:=add_bits hk hm
 obtain ⟨d1,d2,d3⟩:=den_one_len hk
 obtain ⟨d4,d5,d6⟩:=den_one_len hm
 have hxy:x + y=mkRat (x.num * y.den + y.num * x.den) (x.den * y.den):=Rat.add_def' x y
 refine (fun tail=>vc_num_Plus _ p n c p' n' c' _ q i e q' i' e' V _ ⟨fun h0=>⟨fun h1 V1 l1=>?_,fun _=>tail⟩,fun _=>tail⟩) ?_
 ·clear tail
  have h0:x.den=1:=hlx.1 (by simp at h0; omega)
  have h1:y.den=1:=hly.1 (by simp at h1; omega)
  refine (c_num_Add x.num y.num (hx1.le l1) (hy1.le l1) (by omega) (by omega)).mono ?_
  rintro r V2 l2 ⟨p2,n2,c2,rfl,g⟩
  have e1:x + y=((x.num + y.num:Int):Rat):=by
   rw [hxy,h0,h1]; simp [Rat.mkRat_one]
  rw [e1]
  exact ⟨_,_,_,_,rfl,fun V3 l3=>rq_of (z:=x.num + y.num) (d:=1) rfl rfl (g.le l3) RD.nil rfl⟩
 ·intro V1 l1
  refine (c_num_Den y _ (hy2.le l1)).mono ?_
  rintro r V2 l2 ⟨p1,n1,c1,rfl,g1⟩
  refine ⟨_,_,_,rfl,fun V3 l3=>(c_num_pos (g1.le l3)).mono ?_⟩
  rintro r V4 l4 ⟨p3,n3,c3,rfl,g3⟩
  have l04:=l1.trans (l2.trans (l3.trans l4))
  refine ⟨_,_,_,_,rfl,fun V5 l5=>(c_num_Mul x.num y.den (hx1.le (l04.trans l5)) (g3.le l5) (by omega)).mono ?_⟩
  rintro r V6 l6 ⟨p5,n5,c5,rfl,g5⟩
  have l06:=l04.trans (l5.trans l6)
  refine ⟨_,_,_,_,rfl,fun V7 l7=>(c_num_Den x _ (hx2.le (l06.trans l7))).mono ?_⟩
  rintro r V8 l8 ⟨p7,n7,c7,rfl,g7⟩
  have l08:=l06.trans (l7.trans l8)
  refine ⟨_,_,_,rfl,fun V9 l9=>(c_num_pos (g7.le l9)).mono ?_⟩
  rintro r V10 l10 ⟨p9,n9,c9,rfl,g9⟩
  have l10':=l08.trans (l9.trans l10)
  refine ⟨_,_,_,_,rfl,fun V11 l11=>(c_num_Mul y.num x.den (hy1.le (l10'.trans l11)) (g9.le l11) (by omega)).mono ?_⟩
  rintro r V12 l12 ⟨p11,n11,c11,rfl,g11⟩
  have l012:=l10'.trans (l11.trans l12)
  refine ⟨_,_,_,_,rfl,fun V13 l13=>(c_num_Add _ _ (g5.le (l7.trans (l8.trans (l9.trans (l10.trans (l11.trans (l12.trans l13))))))) (g11.le l13) (Nat.le_trans (digs_len_bits b1) (by omega)) (Nat.le_trans (digs_len_bits b2) (by omega))).mono ?_⟩
  rintro r V14 l14 ⟨p13,n13,c13,rfl,g13⟩
  have l014:=l012.trans (l13.trans l14)
  refine ⟨_,_,_,_,rfl,fun V15 l15=>(c_num_Den x _ (hx2.le (l014.trans l15))).mono ?_⟩
  rintro r V16 l16 ⟨p15,n15,c15,rfl,g15⟩
  have l016:=l014.trans (l15.trans l16)
  refine ⟨_,_,_,rfl,fun V17 l17=>(c_num_Den y _ (hy2.le (l016.trans l17))).mono ?_⟩
  rintro r V18 l18 ⟨p17,n17,c17,rfl,g17⟩
  refine ⟨_,_,_,rfl,fun V19 l19=>(c_num_Product (g15.le (l17.trans (l18.trans l19))) (g17.le l19) (by omega)).mono ?_⟩
  rintro r V20 l20 ⟨p19,n19,c19,rfl,g19⟩
  rw [val_digs,val_digs] at g19
  refine ⟨_,_,_,rfl,fun V21 l21=>(c_num_Frac _ (g13.le (l15.trans (l16.trans (l17.trans (l18.trans (l19.trans (l20.trans l21))))))) (g19.le l21) (Nat.le_trans (digs_len_bits b3) (by omega)) (Nat.le_trans (digs_len_bits b4) (by omega)) (Nat.mul_ne_zero x.den_nz y.den_nz)).mono ?_⟩
  rw [hxy]
  rintro r V22 l22 ⟨p21,n21,c21,p22,n22,c22,rfl,g21,g22⟩
  exact ⟨_,_,_,_,_,_,_,rfl,fun V23 l23=>⟨_,_,_,_,_,_,rfl,g21.le l23,g22.le l23⟩⟩
theorem c_num_Sub {V:View} {v w:Value} {x y:Rat} (hx:RQ V v x) (hy:RQ V w y) {k m:Nat} (hk:Sz k x) (hm:Sz m y) (hkm:k + m < 274877906944) :
  Acts prog 93 #[v,w] V fun r V'=>RQ V' r (x - y):=by
 have hx0:=hx
 obtain ⟨p,n,c,p',n',c',rfl,hx1,hx2⟩:=hx
 obtain ⟨q,i,e,q',i',e',rfl,hy1,hy2⟩:=hy
 refine vc_num_Sub _ p n c p' n' c' _ q i e q' i' e' V _ fun V1 l1=>(c_num_Opp y (hy1.le l1) (hy2.le l1)).mono ?_
 rintro r V2 l2 h2
 obtain ⟨p1,n1,c1,p2,n2,c2,rfl,g1,g2⟩:=id h2
 refine ⟨_,_,_,_,_,_,_,rfl,fun V3 l3=>(c_num_Plus (hx0.le (l1.trans (l2.trans l3))) (h2.le l3) hk hm.neg hkm).mono ?_⟩
 rw [← Rat.sub_eq_add_neg]
 rintro r V4 l4 ⟨p3,n3,c3,p4,n4,c4,rfl,g3,g4⟩
 exact ⟨_,_,_,_,_,_,_,rfl,fun V5 l5=>⟨_,_,_,_,_,_,rfl,g3.le l5,g4.le l5⟩⟩
theorem c_num_C {V:View} {v w:Value} {x y:Rat} (hx:RQ V v x) (hy:RQ V w y) {k m:Nat} (hk:Sz k x) (hm:Sz m y) (hkm:k + m < 274877906944) :
  Acts prog 96 #[v,w] V fun r V'=>r=.int .i64 (cmpQ x y):=by
 have hx0:=hx
 have hy0:=hy
 obtain ⟨p,n,c,p',n',c',rfl,hx1,hx2⟩:=hx
 obtain ⟨q,i,e,q',i',e',rfl,hy1,hy2⟩:=hy
 refine vc_num_C _ p n c p' n' c' _ q i e q' i' e' V _ fun V1 l1=>(c_num_Sub (hx0.le l1) (hy0.le l1) hk hm hkm).mono ?_
 rintro r V2 l2 ⟨p1,n1,c1,p2,n2,c2,rfl,g1,g2⟩
 refine ⟨_,_,_,_,_,_,_,rfl,fun V3 l3=>(c_num_S (x - y) (g1.le l3)).mono ?_⟩
 rintro r V4 l4 rfl
 exact ⟨_,rfl,fun V5 l5=>rfl⟩
theorem c_num_Times {V:View} {v w:Value} {x y:Rat} (hx:RQ V v x) (hy:RQ V w y) {k m:Nat} (hk:Sz k x) (hm:Sz m y) (hkm:k + m < 274877906944) :
  Acts prog 150 #[v,w] V fun r V'=>RQ V' r (x * y):=by
 obtain ⟨p,n,c,p',n',c',rfl,hx1,hx2⟩:=hx
 obtain ⟨q,i,e,q',i',e',rfl,hy1,hy2⟩:=hy
 have hlx:=dend_len hx2
 have hly:=dend_len hy2
 obtain ⟨d1,d2,d3⟩:=den_one_len hk
 obtain ⟨d4,d5,d6⟩:=den_one_len hm
 have hxy:x * y=mkRat (x.num * y.num) (x.den * y.den):=Rat.mul_def' x y
 have b1:(x.num * y.num).natAbs < 2 ^ (k + m):=by rw [Int.natAbs_mul]; exact pow_mul_lt hk.1 hm.1
 have b2:x.den * y.den < 2 ^ (k + m):=pow_mul_lt hk.2 hm.2
 refine (fun tail=>vc_num_Times _ p n c p' n' c' _ q i e q' i' e' V _ ⟨fun h0=>⟨fun h1 V1 l1=>?_,fun _=>tail⟩,fun _=>tail⟩) ?_
 ·clear tail
  have h0:x.den=1:=hlx.1 (by simp at h0; omega)
  have h1:y.den=1:=hly.1 (by simp at h1; omega)
  refine (c_num_Mul x.num y.num (hx1.le l1) (hy1.le l1) (by omega)).mono ?_
  rintro r V2 l2 ⟨p2,n2,c2,rfl,g⟩
  have e1:x * y=((x.num * y.num:Int):Rat):=by
   rw [hxy,h0,h1]; simp [Rat.mkRat_one]
  rw [e1]
  exact ⟨_,_,_,_,rfl,fun V3 l3=>rq_of (z:=x.num * y.num) (d:=1) rfl rfl (g.le l3) RD.nil rfl⟩
 ·intro V1 l1
  refine (c_num_Mul x.num y.num (hx1.le l1) (hy1.le l1) (by omega)).mono ?_
  rintro r V2 l2 ⟨p2,n2,c2,rfl,g2⟩
  refine ⟨_,_,_,_,rfl,fun V3 l3=>(c_num_Den x _ (hx2.le (l1.trans (l2.trans l3)))).mono ?_⟩
  rintro r V4 l4 ⟨p4,n4,c4,rfl,g4⟩
  refine ⟨_,_,_,rfl,fun V5 l5=>(c_num_Den y _ (hy2.le (l1.trans (l2.trans (l3.trans (l4.trans l5)))))).mono ?_⟩
  rintro r V6 l6 ⟨p6,n6,c6,rfl,g6⟩
  refine ⟨_,_,_,rfl,fun V7 l7=>(c_num_Product (g4.le (l5.trans (l6.trans l7))) (g6.le l7) (by omega)).mono ?_⟩
  rintro r V8 l8 ⟨p8,n8,c8,rfl,g8⟩
  rw [val_digs,val_digs] at g8
  refine ⟨_,_,_,rfl,fun V9 l9=>(c_num_Frac _ (g2.le (l3.trans (l4.trans (l5.trans (l6.trans (l7.trans (l8.trans l9))))))) (g8.le l9) (Nat.le_trans (digs_len_bits b1) (by omega)) (Nat.le_trans (digs_len_bits b2) (by omega)) (Nat.mul_ne_zero x.den_nz y.den_nz)).mono ?_⟩
  rw [hxy]
  rintro r V22 l22 ⟨p21,n21,c21,p22,n22,c22,rfl,g21,g22⟩
  exact ⟨_,_,_,_,_,_,_,rfl,fun V23 l23=>⟨_,_,_,_,_,_,rfl,g21.le l23,g22.le l23⟩⟩
end Go.Proofs.Tryz
/- By program: the conditions of the functions, from their loaded code. -/
namespace Go.Proofs.Tryz
open Go.Eng
open Go.Value renaming int→I,pointer→P,slice→S,agg→A,bool→B,tuple→T
open Go.IntKind renaming i64→J,u64→U,u32→W
set_option maxRecDepth 100000
theorem vc_ref01_ToN (e:OA) (a i:Nat) (V:View) (R:VR) (h:(∃b:List Value,V.sl e b/\b.length=a * 1/\((0 + a) * 4<=140737488355328/\0<=0/\0 * 1<=([]:List Value).length/\b.length=a * 1/\(∀k ∈ b,k.oneCell'=true)/\∀(l:Nat) (m:C->Value) (f:List Value) (c:Nat),0 + a<=c->c * 1<=(0 + a) * 1 + f.length->(∀d,V.Le d->∀g:Nat,(d.blk g (.cells (([]:List Value).take (0 * 1)++b++f).toArray 264 (0,0)))->R (S (some ⟨g,0,none⟩) (0 + a) c) d)))):
 Acts prog 157 #[S e a i] V R:=
 fd (LF:=LF0) (RF:=[1000015]) [] [] func157 h
theorem vc_ref01_ToI (a:Bool) (b:OA) (c d:Nat) (V:View) (R:VR) (h:(Ca V 157 #[S b c d] fun k l=>∃e f g,k=S e f g/\(Rt l R (A #[B a,S e f g])))):
 Acts prog 129 #[A #[B a,S b c d]] V R:=
 fd (LF:=LF0) (RF:=[1000015]) [] [] func129 h
theorem vc_ref04_Xy (a b:Int) (V:View) (R:VR) (h:(Ca V 92 #[I J a] fun t u=>∃c,∃d e f,∃g i k,t=A #[B c,S d e f,S g i k]/\(Ca u 92 #[I J b] fun w x=>∃l,∃m n o,∃p q r,w=A #[B l,S m n o,S p q r]/\(Rt x R (A #[B c,S d e f,S g i k,B l,S m n o,S p q r]))))):
 Acts prog 79 #[I J a,I J b] V R:=
 fd (LF:=LF0) (RF:=[1000015]) [] [] func79 h
theorem vc_ref04_Add (i:Bool) (k:OA) (l m:Nat) (n:OA) (o p:Nat) (q:Bool) (r:OA) (s t:Nat) (u:OA) (w x:Nat) (a:Bool) (b:OA) (c d:Nat) (e:OA) (f g:Nat) (y:Bool) (z:OA) (a0 a1:Nat) (a2:OA) (a3 a4:Nat) (a5:Bool) (a6:OA) (a7 a8:Nat) (a9:OA) (b0 b1:Nat) (V:View) (R:VR) (h:(Ca V 150 #[A #[B a,S b c d,S e f g],A #[B y,S z a0 a1,S a2 a3 a4]] fun e1 e2=>∃b2,∃b3 b4 b5,∃b6 b7 b8,e1=A #[B b2,S b3 b4 b5,S b6 b7 b8]/\(Ca e2 36 #[A #[B i,S k l m,S n o p],A #[B b2,S b3 b4 b5,S b6 b7 b8]] fun e3 e4=>∃b9,∃c0 c1 c2,∃c3 c4 c5,e3=A #[B b9,S c0 c1 c2,S c3 c4 c5]/\(Ca e4 150 #[A #[B a,S b c d,S e f g],A #[B a5,S a6 a7 a8,S a9 b0 b1]] fun e5 e6=>∃c6,∃c7 c8 c9,∃d0 d1 d2,e5=A #[B c6,S c7 c8 c9,S d0 d1 d2]/\(Ca e6 36 #[A #[B q,S r s t,S u w x],A #[B c6,S c7 c8 c9,S d0 d1 d2]] fun e7 e8=>∃d3,∃d4 d5 d6,∃d7 d8 d9,e7=A #[B d3,S d4 d5 d6,S d7 d8 d9]/\(Rt e8 R (A #[B b9,S c0 c1 c2,S c3 c4 c5,B d3,S d4 d5 d6,S d7 d8 d9]))))))):
 Acts prog 90 #[A #[B i,S k l m,S n o p,B q,S r s t,S u w x],A #[B a,S b c d,S e f g],A #[B y,S z a0 a1,S a2 a3 a4,B a5,S a6 a7 a8,S a9 b0 b1]] V R:=
 fd (LF:=LF0) (RF:=[1000015]) [] [] func90 h
theorem vc_ref04_Sub (a:Bool) (b:OA) (c d:Nat) (e:OA) (f g:Nat) (i:Bool) (k:OA) (l m:Nat) (n:OA) (o p:Nat) (q:Bool) (r:OA) (s t:Nat) (u:OA) (w x:Nat) (y:Bool) (z:OA) (a0 a1:Nat) (a2:OA) (a3 a4:Nat) (V:View) (R:VR) (h:(Ca V 92 #[I J (-1)] fun c7 c8=>∃a5,∃a6 a7 a8,∃a9 b0 b1,c7=A #[B a5,S a6 a7 a8,S a9 b0 b1]/\(Ca c8 90 #[A #[B a,S b c d,S e f g,B i,S k l m,S n o p],A #[B a5,S a6 a7 a8,S a9 b0 b1],A #[B q,S r s t,S u w x,B y,S z a0 a1,S a2 a3 a4]] fun c9 d0=>∃b2,∃b3 b4 b5,∃b6 b7 b8,∃b9,∃c0 c1 c2,∃c3 c4 c5,c9=A #[B b2,S b3 b4 b5,S b6 b7 b8,B b9,S c0 c1 c2,S c3 c4 c5]/\(Rt d0 R (A #[B b2,S b3 b4 b5,S b6 b7 b8,B b9,S c0 c1 c2,S c3 c4 c5]))))):
 Acts prog 158 #[A #[B a,S b c d,S e f g,B i,S k l m,S n o p],A #[B q,S r s t,S u w x,B y,S z a0 a1,S a2 a3 a4]] V R:=
 fd (LF:=LF0) (RF:=[1000015]) [] [] func158 h
theorem vc_ref04_Same (b:Bool) (c:OA) (d e:Nat) (f:OA) (g i:Nat) (k:Bool) (l:OA) (m n:Nat) (o:OA) (p q:Nat) (r:Bool) (s:OA) (t u:Nat) (w:OA) (x y:Nat) (z:Bool) (a0:OA) (a1 a2:Nat) (a3:OA) (a4 a5:Nat) (V:View) (R:VR) (h:(Ca V 96 #[A #[B b,S c d e,S f g i],A #[B r,S s t u,S w x y]] fun b0 a6=>∃a,b0=I J a/\(((a == (0:Int))=true->(Ca a6 96 #[A #[B k,S l m n,S o p q],A #[B z,S a0 a1 a2,S a3 a4 a5]] fun b1 b2=>∃a7,b1=I J a7/\(Rt b2 R (B (a7 == (0:Int))))))/\((a == (0:Int))=false->(Rt a6 R (B false)))))):
 Acts prog 171 #[A #[B b,S c d e,S f g i,B k,S l m n,S o p q],A #[B r,S s t u,S w x y,B z,S a0 a1 a2,S a3 a4 a5]] V R:=
 fd (LF:=LF0) (RF:=[1000015]) [] [] func171 h
theorem vc_ref04_MakeL (p:Bool) (e:OA) (f g:Nat) (q:Bool) (i:OA) (k l:Nat) (r:Bool) (m:OA) (n o:Nat) (V:View) (R:VR) (h:(Ca V 168 #[S e f g,S i k l] fun b9 s=>∃t a u,b9=S t a u/\((((a:Int) == (0:Int))=true->(Rt s R (T #[A #[B false,S none 0 0,B false,S none 0 0,B false,S none 0 0],B false])))/\(((a:Int) == (0:Int))=false->(Ca s 168 #[S t a u,S m n o] fun c0 c1=>∃b c d,c0=S b c d/\(Ca c1 169 #[S e f g,S b c d] fun c2 c3=>∃x y z,∃c4 c5 c6,c2=T #[S x y z,S c4 c5 c6]/\(Ca c3 169 #[S i k l,S b c d] fun c7 c8=>∃a0 a1 a2,∃c9 d0 d1,c7=T #[S a0 a1 a2,S c9 d0 d1]/\(Ca c8 169 #[S m n o,S b c d] fun d2 d3=>∃a3 a4 a5,∃d4 d5 d6,d2=T #[S a3 a4 a5,S d4 d5 d6]/\(Ca d3 103 #[B p,S x y z] fun d7 d8=>∃a6,∃a7 a8 a9,d7=A #[B a6,S a7 a8 a9]/\(Ca d8 103 #[B q,S a0 a1 a2] fun d9 e0=>∃b0,∃b1 b2 b3,d9=A #[B b0,S b1 b2 b3]/\(Ca e0 103 #[B r,S a3 a4 a5] fun e1 e2=>∃b4,∃b5 b6 b7,e1=A #[B b4,S b5 b6 b7]/\(Rt e2 R (T #[A #[B a6,S a7 a8 a9,B b0,S b1 b2 b3,B b4,S b5 b6 b7],B true]))))))))))))):
 Acts prog 159 #[A #[B p,S e f g],A #[B q,S i k l],A #[B r,S m n o]] V R:=
 fd (LF:=LF0) (RF:=[1000015]) [] [] func159 h
theorem vc_ref04_Through (u:Bool) (w:OA) (x y:Nat) (z:OA) (a0 a1:Nat) (a2:Bool) (a3:OA) (a4 a5:Nat) (a6:OA) (a7 a8:Nat) (b6:Bool) (b7:OA) (b8 b9:Nat) (c0:OA) (c1 c2:Nat) (c3:Bool) (c4:OA) (c5 c6:Nat) (c7:OA) (c8 c9:Nat) (V:View) (R:VR) (h:(Ca V 158 #[A #[B b6,S b7 b8 b9,S c0 c1 c2,B c3,S c4 c5 c6,S c7 c8 c9],A #[B u,S w x y,S z a0 a1,B a2,S a3 a4 a5,S a6 a7 a8]] fun l9 m0=>∃a,∃b c d,∃e f g,∃d0,∃d1 d2 d3,∃d4 d5 d6,l9=A #[B a,S b c d,S e f g,B d0,S d1 d2 d3,S d4 d5 d6]/\(Ca m0 83 #[A #[B d0,S d1 d2 d3,S d4 d5 d6]] fun m1 m2=>∃i,∃k l m,∃n o p,m1=A #[B i,S k l m,S n o p]/\(Ca m2 150 #[A #[B i,S k l m,S n o p],A #[B u,S w x y,S z a0 a1]] fun m3 m4=>∃d7,∃d8 d9 e0,∃e1 e2 e3,m3=A #[B d7,S d8 d9 e0,S e1 e2 e3]/\(Ca m4 150 #[A #[B a,S b c d,S e f g],A #[B a2,S a3 a4 a5,S a6 a7 a8]] fun m5 m6=>∃e4,∃e5 e6 e7,∃e8 e9 f0,m5=A #[B e4,S e5 e6 e7,S e8 e9 f0]/\(Ca m6 36 #[A #[B d7,S d8 d9 e0,S e1 e2 e3],A #[B e4,S e5 e6 e7,S e8 e9 f0]] fun m7 m8=>∃f1,∃f2 f3 f4,∃f5 f6 f7,m7=A #[B f1,S f2 f3 f4,S f5 f6 f7]/\(Ca m8 83 #[A #[B f1,S f2 f3 f4,S f5 f6 f7]] fun m9 n0=>∃a9,∃b0 b1 b2,∃b3 b4 b5,m9=A #[B a9,S b0 b1 b2,S b3 b4 b5]/\(Ca n0 104 #[A #[B i,S k l m,S n o p]] fun n1 n2=>∃f8 f9 g0,n1=S f8 f9 g0/\(Ca n2 104 #[A #[B a,S b c d,S e f g]] fun n3 n4=>∃g1 g2 g3,n3=S g1 g2 g3/\(Ca n4 105 #[S f8 f9 g0,S g1 g2 g3] fun n5 n6=>∃g4 g5 g6,n5=S g4 g5 g6/\(Ca n6 104 #[A #[B a9,S b0 b1 b2,S b3 b4 b5]] fun n7 n8=>∃g7 g8 g9,n7=S g7 g8 g9/\(Ca n8 105 #[S g4 g5 g6,S g7 g8 g9] fun n9 o0=>∃i0 i1 i2,n9=S i0 i1 i2/\(Ca o0 103 #[B false,S i0 i1 i2] fun o1 o2=>∃q,∃r s t,o1=A #[B q,S r s t]/\(Ca o2 150 #[A #[B i,S k l m,S n o p],A #[B q,S r s t,S none 0 0]] fun o3 o4=>∃i3,∃i4 i5 i6,∃o5 o6 o7,o3=A #[B i3,S i4 i5 i6,S o5 o6 o7]/\(Ca o4 150 #[A #[B a,S b c d,S e f g],A #[B q,S r s t,S none 0 0]] fun o8 o9=>∃i7,∃i8 i9 k0,∃p0 p1 p2,o8=A #[B i7,S i8 i9 k0,S p0 p1 p2]/\(Ca o9 150 #[A #[B a9,S b0 b1 b2,S b3 b4 b5],A #[B q,S r s t,S none 0 0]] fun p3 p4=>∃k1,∃k2 k3 k4,∃p5 p6 p7,p3=A #[B k1,S k2 k3 k4,S p5 p6 p7]/\(Ca p4 159 #[A #[B i3,S i4 i5 i6],A #[B i7,S i8 i9 k0],A #[B k1,S k2 k3 k4]] fun p8 p9=>∃k5,∃k6 k7 k8,∃k9,∃l0 l1 l2,∃l3,∃l4 l5 l6,∃l7,p8=T #[A #[B k5,S k6 k7 k8,B k9,S l0 l1 l2,B l3,S l4 l5 l6],B l7]/\(Rt p9 R (T #[A #[B k5,S k6 k7 k8,B k9,S l0 l1 l2,B l3,S l4 l5 l6],B l7]))))))))))))))))))):
 Acts prog 78 #[A #[B u,S w x y,S z a0 a1,B a2,S a3 a4 a5,S a6 a7 a8],A #[B b6,S b7 b8 b9,S c0 c1 c2,B c3,S c4 c5 c6,S c7 c8 c9]] V R:=
 fd (LF:=LF0) (RF:=[1000015]) [] [] func78 h
theorem vc_ref04_ToL (a:Bool) (b:OA) (c d:Nat) (e:Bool) (f:OA) (g i:Nat) (k:Bool) (l:OA) (m n:Nat) (V:View) (R:VR) (h:(Ca V 129 #[A #[B a,S b c d]] fun a2 a3=>∃o,∃p q r,a2=A #[B o,S p q r]/\(Ca a3 129 #[A #[B e,S f g i]] fun a4 a5=>∃s,∃t u w,a4=A #[B s,S t u w]/\(Ca a5 129 #[A #[B k,S l m n]] fun a6 a7=>∃x,∃y z a0,a6=A #[B x,S y z a0]/\(Rt a7 R (A #[B o,S p q r,B s,S t u w,B x,S y z a0])))))):
 Acts prog 56 #[A #[B a,S b c d,B e,S f g i,B k,S l m n]] V R:=
 fd (LF:=LF0) (RF:=[1000015]) [] [] func56 h
end Go.Proofs.Tryz
/- Contracts of the references 01 and 04: ToN, ToI, SameN, SameI, points. -/
namespace Go.Eng
open Go.Big
/-- A point of the reference. -/
def RP (V:View) (v:Value) (x y:Rat):Prop:=∃p n c p' n' c' q m e q' m' e',v=.agg #[.bool (decide (x.num < 0)),.slice p n c,.slice p' n' c',.bool (decide (y.num < 0)),.slice q m e,.slice q' m' e'] /\
 RQ V (.agg #[.bool (decide (x.num < 0)),.slice p n c,.slice p' n' c']) x/\RQ V (.agg #[.bool (decide (y.num < 0)),.slice q m e,.slice q' m' e']) y
theorem RP.le {V V':View} {v:Value} {x y:Rat} (h:RP V v x y) (l:V.Le V'):RP V' v x y:=by
 obtain ⟨p,n,c,p',n',c',q,m,e,q',m',e',rfl,h1,h2⟩:=h
 exact ⟨p,n,c,p',n',c',q,m,e,q',m',e',rfl,h1.le l,h2.le l⟩
theorem RQ.shape {V:View} {v:Value} {q:Rat} (h:RQ V v q):∃p n c p' n' c',v=.agg #[.bool (decide (q.num < 0)),.slice p n c,.slice p' n' c']:=by
 obtain ⟨p,n,c,p',n',c',e,-⟩:=h; exact ⟨_,_,_,_,_,_,e⟩
end Go.Eng
namespace Go.Proofs.Tryz
open Go.Eng Go.Big
theorem c_ref01_ToN {V:View} {p:OA} {n c:Nat} {ds:List Nat} (h:RD V p n c ds) (hm:ds.length<=1099511627776) :
  Acts prog 157 #[.slice p n c] V fun r V'=>∃p1 n1 c1,r=.slice p1 n1 c1/\RD V' p1 n1 c1 ds:=by
 have hl:=h.len
 refine vc_ref01_ToN p n c V _ ⟨u32s ds,h.sl,by simp [hl],by omega,by omega,by simp,by simp [hl],?_,?_⟩
 ·intro v hv
  simp only [u32s,List.mem_map] at hv
  obtain ⟨d,-,rfl⟩:=hv
  rfl
 ·intro bk J sp c' h1 h2 V1 l1 b hb
  refine ⟨_,_,_,rfl,?_⟩
  simp only [Nat.zero_add,Nat.zero_mul,List.take_zero,List.nil_append] at hb h1 ⊢
  exact copied h.dig hl h1 hb
theorem c_ref01_ToI {V:View} {v:Value} {z:Int} (h:RI V v z) (hm:(digs z.natAbs).length<=1099511627776) :
  Acts prog 129 #[v] V fun r V'=>RI V' r z:=by
 obtain ⟨p,n,c,rfl,h⟩:=h
 refine vc_ref01_ToI _ p n c V _ fun V1 l1=>(c_ref01_ToN (h.le l1) hm).mono ?_
 rintro r V2 l2 ⟨p1,n1,c1,rfl,g⟩
 exact ⟨_,_,_,rfl,fun V3 l3=>⟨_,_,_,rfl,g.le l3⟩⟩
theorem c_ref04_Xy {V:View} (x y:Int) (h0:-9223372036854775808<=x) (h1:x<=9223372036854775807) (h2:-9223372036854775808<=y) (h3:y<=9223372036854775807) :
  Acts prog 79 #[.int .i64 x,.int .i64 y] V fun r V'=>RP V' r (x:Rat) (y:Rat):=by
 refine vc_ref04_Xy x y V _ fun V1 l1=>(c_num_Of x h0 h1).mono ?_
 rintro r V2 l2 hx
 obtain ⟨p,n,c,p',n',c',rfl⟩:=hx.shape
 refine ⟨_,_,_,_,_,_,_,rfl,fun V3 l3=>(c_num_Of y h2 h3).mono ?_⟩
 rintro r V4 l4 hy
 obtain ⟨q,m,e,q',m',e',rfl⟩:=hy.shape
 exact ⟨_,_,_,_,_,_,_,rfl,fun V5 l5=>⟨_,_,_,_,_,_,_,_,_,_,_,_,rfl,hx.le (l3.trans (l4.trans l5)),hy.le l5⟩⟩
theorem c_ref04_Add {V:View} {u v w:Value} {px py c qx qy:Rat} (hp:RP V u px py) (hc:RQ V v c) (hq:RP V w qx qy) {k m:Nat} (s1:Sz k px) (s2:Sz k py) (s3:Sz m c) (s4:Sz m qx) (s5:Sz m qy) (hkm:k + (m + m + 1) < 274877906944) :
  Acts prog 90 #[u,v,w] V fun r V'=>RP V' r (px + c * qx) (py + c * qy):=by
 obtain ⟨p1,n1,c1,p2,n2,c2,p3,n3,c3,p4,n4,c4,rfl,hp1,hp2⟩:=hp
 obtain ⟨p5,n5,c5,p6,n6,c6,rfl⟩:=hc.shape
 obtain ⟨q1,m1,e1,q2,m2,e2,q3,m3,e3,q4,m4,e4,rfl,hq1,hq2⟩:=hq
 refine vc_ref04_Add _ p1 n1 c1 p2 n2 c2 _ p3 n3 c3 p4 n4 c4 _ p5 n5 c5 p6 n6 c6 _ q1 m1 e1 q2 m2 e2 _ q3 m3 e3 q4 m4 e4 V _ fun V1 l1=>(c_num_Times (hc.le l1) (hq1.le l1) s3 s4 (by omega)).mono ?_
 rintro r V2 l2 g1
 obtain ⟨a1,a2,a3,a4,a5,a6,rfl⟩:=g1.shape
 refine ⟨_,_,_,_,_,_,_,rfl,fun V3 l3=>(c_num_Plus (hp1.le (l1.trans (l2.trans l3))) (g1.le l3) s1 (s3.mul s4) (by omega)).mono ?_⟩
 rintro r V4 l4 g2
 obtain ⟨b1,b2,b3,b4,b5,b6,rfl⟩:=g2.shape
 have l04:=l1.trans (l2.trans (l3.trans l4))
 refine ⟨_,_,_,_,_,_,_,rfl,fun V5 l5=>(c_num_Times (hc.le (l04.trans l5)) (hq2.le (l04.trans l5)) s3 s5 (by omega)).mono ?_⟩
 rintro r V6 l6 g3
 obtain ⟨d1,d2,d3,d4,d5,d6,rfl⟩:=g3.shape
 refine ⟨_,_,_,_,_,_,_,rfl,fun V7 l7=>(c_num_Plus (hp2.le (l04.trans (l5.trans (l6.trans l7)))) (g3.le l7) s2 (s3.mul s5) (by omega)).mono ?_⟩
 rintro r V8 l8 g4
 obtain ⟨f1,f2,f3,f4,f5,f6,rfl⟩:=g4.shape
 exact ⟨_,_,_,_,_,_,_,rfl,fun V9 l9=>⟨_,_,_,_,_,_,_,_,_,_,_,_,rfl,g2.le (l5.trans (l6.trans (l7.trans (l8.trans l9)))),g4.le l9⟩⟩
theorem sz_neg1:Sz 1 ((-1:Int):Rat):=by unfold Sz; decide
theorem c_ref04_Sub {V:View} {u w:Value} {px py qx qy:Rat} (hp:RP V u px py) (hq:RP V w qx qy) {k m:Nat} (s1:Sz k px) (s2:Sz k py) (s4:Sz m qx) (s5:Sz m qy) (hm:1<=m) (hkm:k + (m + m + 1) < 274877906944) :
  Acts prog 158 #[u,w] V fun r V'=>RP V' r (px - qx) (py - qy):=by
 have hp0:=hp
 have hq0:=hq
 obtain ⟨p1,n1,c1,p2,n2,c2,p3,n3,c3,p4,n4,c4,rfl,-,-⟩:=hp
 obtain ⟨q1,m1,e1,q2,m2,e2,q3,m3,e3,q4,m4,e4,rfl,-,-⟩:=hq
 refine vc_ref04_Sub _ p1 n1 c1 p2 n2 c2 _ p3 n3 c3 p4 n4 c4 _ q1 m1 e1 q2 m2 e2 _ q3 m3 e3 q4 m4 e4 V _ fun V1 l1=>(c_num_Of (-1) (by omega) (by omega)).mono ?_
 rintro r V2 l2 g1
 obtain ⟨a1,a2,a3,a4,a5,a6,rfl⟩:=g1.shape
 have l02:=l1.trans l2
 refine ⟨_,_,_,_,_,_,_,rfl,fun V3 l3=>(c_ref04_Add (hp0.le (l02.trans l3)) (g1.le l3) (hq0.le (l02.trans l3)) s1 s2 (sz_neg1.mono hm) s4 s5 hkm).mono ?_⟩
 have e1:∀a b:Rat,a + ((-1:Int):Rat) * b=a - b:=by
  intro a b
  have:((-1:Int):Rat)=-1:=rfl
  rw [this,Rat.neg_mul,Rat.one_mul,Rat.sub_eq_add_neg]
 rw [e1,e1]
 rintro r V4 l4 ⟨b1,b2,b3,b4,b5,b6,b7,b8,b9,b10,b11,b12,rfl,g2,g3⟩
 exact ⟨_,_,_,_,_,_,_,_,_,_,_,_,_,_,rfl,fun V5 l5=>⟨_,_,_,_,_,_,_,_,_,_,_,_,rfl,g2.le l5,g3.le l5⟩⟩
theorem c_ref04_Same {V:View} {u w:Value} {px py qx qy:Rat} (hp:RP V u px py) (hq:RP V w qx qy) {k m:Nat} (s1:Sz k px) (s2:Sz k py) (s4:Sz m qx) (s5:Sz m qy) (hkm:k + m < 274877906944) :
  Acts prog 171 #[u,w] V fun r V'=>r=.bool (decide (px=qx/\py=qy)):=by
 obtain ⟨p1,n1,c1,p2,n2,c2,p3,n3,c3,p4,n4,c4,rfl,hp1,hp2⟩:=hp
 obtain ⟨q1,m1,e1,q2,m2,e2,q3,m3,e3,q4,m4,e4,rfl,hq1,hq2⟩:=hq
 refine vc_ref04_Same _ p1 n1 c1 p2 n2 c2 _ p3 n3 c3 p4 n4 c4 _ q1 m1 e1 q2 m2 e2 _ q3 m3 e3 q4 m4 e4 V _ fun V1 l1=>(c_num_C (hp1.le l1) (hq1.le l1) s1 s4 hkm).mono ?_
 rintro r V2 l2 rfl
 refine ⟨_,rfl,fun h0 V3 l3=>(c_num_C (hp2.le (l1.trans (l2.trans l3))) (hq2.le (l1.trans (l2.trans l3))) s2 s5 hkm).mono ?_,fun h0 V3 l3=>?_⟩
 ·have h0:px=qx:=cmpQ_eq.2 (by simpa using h0)
  rintro r V4 l4 rfl
  refine ⟨_,rfl,fun V5 l5=>?_⟩
  congr 1
  rw [Bool.eq_iff_iff,decide_eq_true_eq,beq_iff_eq,← cmpQ_eq]
  exact ⟨fun h=>⟨h0,h⟩,fun h=>h.2⟩
 ·have h0:¬ px=qx:=fun e=>by rw [cmpQ_eq.1 e] at h0; simp at h0
  rw [decide_eq_false fun h=>h0 h.1]
end Go.Proofs.Tryz
/- Contracts of the references 01 and 04: SameN, SameI, lines. -/
namespace Go.Eng
open Go.Big
/-- A line with integer coefficients, of the reference or of package api. -/
def RL (V:View) (v:Value) (a b c:Int):Prop:=∃p n s p' n' s' q m e,v=.agg #[.bool (decide (a < 0)),.slice p n s,.bool (decide (b < 0)),.slice p' n' s',.bool (decide (c < 0)),.slice q m e] /\
 RD V p n s (digs a.natAbs)/\RD V p' n' s' (digs b.natAbs)/\RD V q m e (digs c.natAbs)
theorem RL.le {V V':View} {v:Value} {a b c:Int} (h:RL V v a b c) (l:V.Le V'):RL V' v a b c:=by
 obtain ⟨p,n,s,p',n',s',q,m,e,rfl,h1,h2,h3⟩:=h
 exact ⟨p,n,s,p',n',s',q,m,e,rfl,h1.le l,h2.le l,h3.le l⟩
end Go.Eng
namespace Go.Proofs.Tryz
open Go.Eng Go.Big
theorem c_ref04_ToL {V:View} {v:Value} {a b c:Int} (hx:RL V v a b c) (h1:(digs a.natAbs).length<=1099511627776) (h2:(digs b.natAbs).length<=1099511627776) (h3:(digs c.natAbs).length<=1099511627776) :
  Acts prog 56 #[v] V fun r V'=>RL V' r a b c:=by
 obtain ⟨p,n,s,p',n',s',q,m,e,rfl,x1,x2,x3⟩:=hx
 refine vc_ref04_ToL _ p n s _ p' n' s' _ q m e V _ fun V1 l1=>(c_ref01_ToI ⟨_,_,_,rfl,x1.le l1⟩ h1).mono ?_
 rintro r V2 l2 ⟨p1,n1,c1,rfl,g1⟩
 refine ⟨_,_,_,_,rfl,fun V3 l3=>(c_ref01_ToI ⟨_,_,_,rfl,x2.le (l1.trans (l2.trans l3))⟩ h2).mono ?_⟩
 rintro r V4 l4 ⟨p2,n2,c2,rfl,g2⟩
 refine ⟨_,_,_,_,rfl,fun V5 l5=>(c_ref01_ToI ⟨_,_,_,rfl,x3.le (l1.trans (l2.trans (l3.trans (l4.trans l5))))⟩ h3).mono ?_⟩
 rintro r V6 l6 ⟨p3,n3,c3,rfl,g3⟩
 exact ⟨_,_,_,_,rfl,fun V7 l7=>⟨_,_,_,_,_,_,_,_,_,rfl,g1.le (l3.trans (l4.trans (l5.trans (l6.trans l7)))),g2.le (l5.trans (l6.trans l7)),g3.le l7⟩⟩
end Go.Proofs.Tryz
/- Contracts of the reference 04: MakeL. -/
namespace Go.Proofs.Tryz
open Go.Eng Go.Big
theorem div_sign {z:Int} {g:Nat} (hg:0 < g) (hd:g ∣ z.natAbs):(if decide (z < 0)=true then -((z.natAbs / g:Nat):Int) else ((z.natAbs / g:Nat):Int))=z / (g:Int):=by
 obtain ⟨k,hk⟩:=hd
 have hk1:z.natAbs / g=k:=by rw [hk,Nat.mul_div_cancel_left _ hg]
 rw [hk1]
 have hz:z=(g:Int) * (if decide (z < 0)=true then -(k:Int) else k):=by
  split
  ·rename_i h
   rw [decide_eq_true_eq] at h
   rw [Int.mul_neg,← Int.natCast_mul,← hk]; omega
  ·rename_i h
   rw [decide_eq_true_eq] at h
   rw [← Int.natCast_mul,← hk]; omega
 generalize (if decide (z < 0)=true then -(k:Int) else k)=t at *
 rw [hz,Int.mul_ediv_cancel_left _ (by omega)]
/-- The greatest common divisor of three coefficients. -/
def gcd3 (a b c:Int):Nat:=Nat.gcd (Nat.gcd a.natAbs b.natAbs) c.natAbs
theorem c_ref04_MakeL {V:View} {u v w:Value} {a b c:Int} (ha:RI V u a) (hb:RI V v b) (hc:RI V w c) (h1:(digs a.natAbs).length<=274877906944) (h2:(digs b.natAbs).length<=274877906944) (h3:(digs c.natAbs).length<=274877906944) :
  Acts prog 159 #[u,v,w] V fun r V'=>(a=0/\b=0->∃l,r=.tuple #[l,.bool false]/\RL V' l 0 0 0) /\
   (¬ (a=0/\b=0)->∃l,r=.tuple #[l,.bool true]/\RL V' l (a / (gcd3 a b c:Int)) (b / (gcd3 a b c:Int)) (c / (gcd3 a b c:Int))):=by
 obtain ⟨p,n,s,rfl,ha⟩:=ha
 obtain ⟨p',n',s',rfl,hb⟩:=hb
 obtain ⟨q,m,e,rfl,hc⟩:=hc
 refine vc_ref04_MakeL _ p n s _ p' n' s' _ q m e V _ fun V1 l1=>(c_num_Common (ha.le l1) (hb.le l1) h1 h2).mono ?_
 rintro r V2 l2 ⟨p1,n1,c1,rfl,g1⟩
 have hp:=len_pos_digs g1.len
 have hab:Nat.gcd a.natAbs b.natAbs=0↔a=0/\b=0:=by rw [Nat.gcd_eq_zero_iff]; omega
 refine ⟨_,_,_,rfl,fun h0 V3 l3=>⟨fun _=>⟨_,rfl,_,_,_,_,_,_,_,_,_,rfl,RD.nil,RD.nil,RD.nil⟩,fun h=>?_⟩,fun h0 V4 l4=>?_⟩
 ·exact absurd (hab.1 (by simp at h0; omega)) h
 have hne:¬ (a=0/\b=0):=fun h=>by have:=hab.2 h; simp at h0; omega
 have hg0:0 < Nat.gcd a.natAbs b.natAbs:=by have:=hab; omega
 have hgl:(digs (Nat.gcd a.natAbs b.natAbs)).length<=274877906944:=by
  rcases Nat.eq_zero_or_pos a.natAbs with h | h
  ·rw [h,Nat.gcd_zero_left]; exact h2
  ·exact Nat.le_trans (digs_len_mono (Nat.gcd_le_left _ h)) h1
 refine (c_num_Common (g1.le l4) (hc.le (l1.trans (l2.trans l4))) hgl h3).mono ?_
 rintro r V5 l5 ⟨p2,n2,c2,rfl,g2⟩
 have l05:=l1.trans (l2.trans (l4.trans l5))
 have e3:Nat.gcd (Nat.gcd a.natAbs b.natAbs) c.natAbs=gcd3 a b c:=rfl
 have hG0:0 < gcd3 a b c:=Nat.gcd_pos_of_pos_left _ hg0
 have hGl:(digs (gcd3 a b c)).length<=274877906944:=Nat.le_trans (digs_len_mono (Nat.gcd_le_left _ hg0)) hgl
 have da:gcd3 a b c ∣ a.natAbs:=Nat.dvd_trans (Nat.gcd_dvd_left _ _) (Nat.gcd_dvd_left _ _)
 have db:gcd3 a b c ∣ b.natAbs:=Nat.dvd_trans (Nat.gcd_dvd_left _ _) (Nat.gcd_dvd_right _ _)
 have dc:gcd3 a b c ∣ c.natAbs:=Nat.gcd_dvd_right _ _
 have sa:=div_sign hG0 da
 have sb:=div_sign hG0 db
 have sc:=div_sign hG0 dc
 rw [e3] at g2
 generalize gcd3 a b c=G at *
 refine ⟨_,_,_,rfl,fun V6 l6=>(c_num_Divide (ha.le (l05.trans l6)) (g2.le l6) h1 hGl hG0).mono ?_⟩
 rintro r V7 l7 ⟨p3,n3,c3,p4,n4,c4,rfl,g3,-⟩
 have l07:=l6.trans l7
 refine ⟨_,_,_,_,_,_,rfl,fun V8 l8=>(c_num_Divide (hb.le (l05.trans (l07.trans l8))) (g2.le (l07.trans l8)) h2 hGl hG0).mono ?_⟩
 rintro r V9 l9 ⟨p5,n5,c5,p6,n6,c6,rfl,g5,-⟩
 have l09:=l07.trans (l8.trans l9)
 refine ⟨_,_,_,_,_,_,rfl,fun V10 l10=>(c_num_Divide (hc.le (l05.trans (l09.trans l10))) (g2.le (l09.trans l10)) h3 hGl hG0).mono ?_⟩
 rintro r V11 l11 ⟨p7,n7,c7,p8,n8,c8,rfl,g7,-⟩
 refine ⟨_,_,_,_,_,_,rfl,fun V12 l12=>(c_num_Make _ (g3.le (l8.trans (l9.trans (l10.trans (l11.trans l12)))))).mono ?_⟩
 rw [sa]
 rintro r V13 l13 ⟨p9,n9,c9,rfl,g9⟩
 refine ⟨_,_,_,_,rfl,fun V14 l14=>(c_num_Make _ (g5.le (l10.trans (l11.trans (l12.trans (l13.trans l14)))))).mono ?_⟩
 rw [sb]
 rintro r V15 l15 ⟨p10,n10,c10,rfl,g10⟩
 refine ⟨_,_,_,_,rfl,fun V16 l16=>(c_num_Make _ (g7.le (l12.trans (l13.trans (l14.trans (l15.trans l16)))))).mono ?_⟩
 rw [sc]
 rintro r V17 l17 ⟨p11,n11,c11,rfl,g11⟩
 refine ⟨_,_,_,_,rfl,fun V18 l18=>⟨fun h=>absurd h hne,fun _=>⟨_,rfl,_,_,_,_,_,_,_,_,_,rfl,?_,?_,?_⟩⟩⟩
 ·exact g9.le (l14.trans (l15.trans (l16.trans (l17.trans l18))))
 ·exact g10.le (l16.trans (l17.trans l18))
 ·exact g11.le l18
end Go.Proofs.Tryz
/- Trees and their lists of nodes: plain laws, no program in sight. -/
namespace Go.Proofs.Tryz
open Go.Eng Go.Big
/-- A line: its integer coefficients. -/
abbrev L3:=Int × Int × Int
def okL (x:L3):Bool:=decide (¬ (x.1=0/\x.2.1=0)) && decide (gcd3 x.1 x.2.1 x.2.2=1)
def Bd (x:L3):Prop:=x.1.natAbs < 2 ^ 1000/\x.2.1.natAbs < 2 ^ 1000/\x.2.2.natAbs < 2 ^ 1000
inductive Tr where
 | leaf (i:Bool) | node (l:L3) (a b:Tr)
 deriving DecidableEq
structure Nd where
 ln:L3
 left:Int
 right:Int
 deriving DecidableEq
def Tr.size:Tr->Nat
 | .leaf _=>0
 | .node _ a b=>a.size + b.size + 1
def Tr.isLeaf:Tr->Bool
 | .leaf _=>true
 | .node ..=>false
def Tr.All (p:L3->Prop):Tr->Prop
 | .leaf _=>True
 | .node l a b=>p l/\a.All p/\b.All p
theorem Tr.All.imp {p q:L3->Prop} (h:∀x,p x->q x):∀{t:Tr},t.All p->t.All q
 | .leaf _,_=>trivial
 | .node _ _ _,⟨h1,h2,h3⟩=>⟨h _ h1,Tr.All.imp h h2,Tr.All.imp h h3⟩
/-- The number of the root, when the nodes are written from place k on. -/
def rt (k:Nat):Tr->Int
 | .leaf i=>if i then -2 else -1
 | .node ..=>(k:Int)
/-- The nodes in order, from place k on. -/
def wr:Nat->Tr->List Nd
 | _,.leaf _=>[]
 | k,.node l a b=>⟨l,rt (k + 1) a,rt (k + 1 + a.size) b⟩ :: (wr (k + 1) a++wr (k + 1 + a.size) b)
theorem wr_length:∀(t:Tr) (k:Nat),(wr k t).length=t.size
 | .leaf _,_=>rfl
 | .node _ a b,k=>by simp only [wr,List.length_cons,List.length_append,wr_length a,wr_length b,Tr.size]
/-- Node n of the list stands for the tree; its nodes' numbers. -/
def Rep (l:List Nd):Int->Tr->List Nat->Prop
 | n,.leaf i,I=>n=(if i then -2 else -1)/\I=[]
 | n,.node ln a b,I=>∃(k:Nat) (x:Nd) (A B:List Nat),n=(k:Int)/\l[k]?=some x/\x.ln=ln/\Rep l x.left a A/\Rep l x.right b B/\I=k :: (A++B)
theorem rep_wr:∀(t:Tr) (l pre post:List Nd) (k:Nat),l=pre++(wr k t++post)->pre.length=k->Rep l (rt k t) t (List.range' k t.size)
 | .leaf i,l,pre,post,k,_,_=>⟨rfl,rfl⟩
 | .node ln a b,l,pre,post,k,hl,hp=>by
  refine ⟨k,⟨ln,rt (k + 1) a,rt (k + 1 + a.size) b⟩,List.range' (k + 1) a.size,List.range' (k + 1 + a.size) b.size,rfl,?_,rfl,?_,?_,?_⟩
  ·subst hl
   rw [List.getElem?_append_right (by omega)]
   simp [hp,wr]
  ·refine rep_wr a l (pre++[⟨ln,rt (k + 1) a,rt (k + 1 + a.size) b⟩]) (wr (k + 1 + a.size) b++post) (k + 1) ?_ (by simp [hp])
   rw [hl]; simp [wr]
  ·refine rep_wr b l (pre++(⟨ln,rt (k + 1) a,rt (k + 1 + a.size) b⟩ :: wr (k + 1) a)) post (k + 1 + a.size) ?_ (by simp [hp,wr_length]; omega)
   rw [hl]; simp [wr]
  ·simp only [Tr.size]
   rw [List.range'_succ,← List.range'_append_1]
/-! reading a list of nodes -/
structure RS where
 seen:List Bool
 cnt:Nat
 bad:Bool
def prt (l:List Nd):Nat->Int->RS->Tr × RS
 | 0,_,s=>(.leaf false,s)
 | f + 1,n,s=>
  if n=-2 then (.leaf true,s) else if n=-1 then (.leaf false,s) else if n < 0 then (.leaf false,{ s with bad:=true })
  else match l[n.toNat]?,s.seen[n.toNat]? with
   | some x,some false=>
    if okL x.ln then
     let r1:=prt l f x.left ⟨s.seen.set n.toNat true,s.cnt + 1,s.bad⟩
     let r2:=prt l f x.right r1.2
     (.node x.ln r1.1 r2.1,r2.2)
    else (.leaf false,⟨s.seen.set n.toNat true,s.cnt + 1,true⟩)
   | _,_=>(.leaf false,{ s with bad:=true })
theorem count_set {l:List Bool} {k:Nat} (h:l[k]?=some false):(l.set k true).count false + 1=l.count false:=by
 induction l generalizing k with
 | nil=>simp at h
 | cons x r ih=>
  cases k with
  | zero=>simp at h; subst h; simp
  | succ k=>
   simp at h
   have:=ih h
   simp only [List.set_cons_succ,List.count_cons]
   omega
theorem prt_mono (l:List Nd):∀(f:Nat) (n:Int) (s:RS),(prt l f n s).2.seen.count false<=s.seen.count false/\(prt l f n s).2.seen.length=s.seen.length
 | 0,_,_=>⟨Nat.le_refl _,rfl⟩
 | f + 1,n,s=>by
  simp only [prt]
  split
  ·exact ⟨Nat.le_refl _,rfl⟩
  ·split
   ·exact ⟨Nat.le_refl _,rfl⟩
   ·split
    ·exact ⟨Nat.le_refl _,rfl⟩
    ·split
     ·rename_i x hx hs
      have hc:=count_set hs
      split
      ·obtain ⟨h1,h2⟩:=prt_mono l f x.left ⟨s.seen.set n.toNat true,s.cnt + 1,s.bad⟩
       obtain ⟨h3,h4⟩:=prt_mono l f x.right (prt l f x.left ⟨s.seen.set n.toNat true,s.cnt + 1,s.bad⟩).2
       dsimp only at h1 h2 h3 h4 ⊢
       exact ⟨by omega,by rw [h4,h2,List.length_set]⟩
      ·dsimp only; exact ⟨by omega,by simp⟩
     ·exact ⟨Nat.le_refl _,rfl⟩
theorem prt_cnt (l:List Nd):∀(f:Nat) (n:Int) (s:RS),(prt l f n s).2.cnt + (prt l f n s).2.seen.count false=s.cnt + s.seen.count false
 | 0,_,_=>rfl
 | f + 1,n,s=>by
  simp only [prt]
  split
  ·rfl
  ·split
   ·rfl
   ·split
    ·rfl
    ·split
     ·rename_i x hx hs
      have hc:=count_set hs
      split
      ·have h1:=prt_cnt l f x.left ⟨s.seen.set n.toNat true,s.cnt + 1,s.bad⟩
       have h3:=prt_cnt l f x.right (prt l f x.left ⟨s.seen.set n.toNat true,s.cnt + 1,s.bad⟩).2
       dsimp only at h1 h3 ⊢
       omega
      ·dsimp only; omega
     ·rfl
theorem prt_all {p:L3->Prop} {l:List Nd} (hl:∀x ∈ l,p x.ln):∀(f:Nat) (n:Int) (s:RS),(prt l f n s).1.All p
 | 0,_,_=>trivial
 | f + 1,n,s=>by
  simp only [prt]
  split
  ·trivial
  ·split
   ·trivial
   ·split
    ·trivial
    ·split
     ·rename_i x hx hs
      split
      ·exact ⟨hl x (List.mem_of_getElem? hx),prt_all hl f _ _,prt_all hl f _ _⟩
      ·trivial
     ·trivial
def setAll (s:List Bool) (I:List Nat):List Bool:=I.foldl (fun s k=>s.set k true) s
theorem setAll_get:∀(I:List Nat) (s:List Bool) (k:Nat),k ∉ I->(setAll s I)[k]?=s[k]?
 | [],_,_,_=>rfl
 | i :: r,s,k,h=>by
  have:=setAll_get r (s.set i true) k (fun h'=>h (List.mem_cons_of_mem _ h'))
  unfold setAll at this ⊢
  rw [List.foldl_cons,this,List.getElem?_set_ne (fun e=>h (by simp [e]))]
/-- A tree is read as what it stands for. -/
theorem prt_rep (l:List Nd):∀(t:Tr) (f:Nat) (n:Int) (s:RS) (I:List Nat),Rep l n t I->I.Nodup->(∀k ∈ I,s.seen[k]?=some false)->t.All (fun x=>okL x=true)->t.size < f->prt l f n s=(t,⟨setAll s.seen I,s.cnt + t.size,s.bad⟩)
 | .leaf i,f,n,s,I,⟨h1,h2⟩,_,_,_,hf=>by
  subst h2
  obtain ⟨f,rfl⟩:∃g,f=g + 1:=⟨f - 1,by simp [Tr.size] at hf; omega⟩
  cases i with
  | true=>simp only [if_true] at h1; subst h1; simp [prt,setAll,Tr.size]
  | false=>
   have h1:n=-1:=by simpa using h1
   subst h1; simp [prt,setAll,Tr.size]
 | .node ln a b,f,n,s,I,⟨k,x,A,B,h1,h2,h3,h4,h5,h6⟩,hnd,hun,hok,hf=>by
  subst h1 h3 h6
  obtain ⟨f,rfl⟩:∃g,f=g + 1:=⟨f - 1,by simp [Tr.size] at hf; omega⟩
  rw [List.nodup_cons,List.nodup_append] at hnd
  obtain ⟨hk,hA,hB,hAB⟩:=hnd
  have hks:=hun k (by simp)
  simp only [Tr.size] at hf
  have e1:=prt_rep l a f x.left ⟨s.seen.set k true,s.cnt + 1,s.bad⟩ A h4 hA (fun j hj=>by
   have:k≠j:=fun e=>hk (by rw [e]; simp [hj])
   dsimp only
   rw [List.getElem?_set_ne this]
   exact hun j (by simp [hj])) hok.2.1 (by omega)
  have e2:=prt_rep l b f x.right ⟨setAll (s.seen.set k true) A,s.cnt + 1 + a.size,s.bad⟩ B h5 hB (fun j hj=>by
   have:k≠j:=fun e=>hk (by rw [e]; simp [hj])
   dsimp only
   rw [setAll_get A _ j (fun h=>hAB j h j hj rfl),List.getElem?_set_ne this]
   exact hun j (by simp [hj])) hok.2.2 (by omega)
  have hn1:¬ ((k:Int)=-2):=by omega
  have hn2:¬ ((k:Int)=-1):=by omega
  have hn3:¬ ((k:Int) < 0):=by omega
  have e0:prt l (f + 1) (k:Int) s=(.node x.ln (prt l f x.left ⟨s.seen.set k true,s.cnt + 1,s.bad⟩).1 (prt l f x.right (prt l f x.left ⟨s.seen.set k true,s.cnt + 1,s.bad⟩).2).1,(prt l f x.right (prt l f x.left ⟨s.seen.set k true,s.cnt + 1,s.bad⟩).2).2):=by
   rw [prt]
   rw [if_neg hn1,if_neg hn2,if_neg hn3]
   simp only [Int.toNat_natCast,h2,hks,hok.1,if_true]
  rw [e0,e1]
  dsimp only
  rw [e2]
  simp only [setAll,List.foldl_cons,List.foldl_append,Tr.size,Prod.mk.injEq,RS.mk.injEq,true_and]
  first | omega | exact ⟨by omega,trivial⟩
/-- What 'bsp.Of' gives. -/
def ofT (l:List Nd) (root:Int):Option Tr:=
 if 65536 < l.length then none else
 let r:=prt l (l.length + 1) root ⟨List.replicate l.length false,0,false⟩
 if r.2.bad=true \/ r.2.cnt≠l.length then none else some r.1
theorem ofT_rep {l:List Nd} {n:Int} {t:Tr} {I:List Nat} (h:Rep l n t I) (hn:I.Nodup) (hI:∀k ∈ I,k < l.length) (hs:t.size=l.length) (hok:t.All fun x=>okL x=true) (hl:l.length<=65536):ofT l n=some t:=by
 unfold ofT
 rw [if_neg (by omega)]
 rw [prt_rep l t (l.length + 1) n _ I h hn (fun k hk=>by simp [hI k hk]) hok (by omega)]
 simp [hs]
theorem ofT_wr {t:Tr} (hok:t.All fun x=>okL x=true) (hl:t.size<=65536):ofT (wr 0 t) (rt 0 t)=some t:=by
 have h:=rep_wr t (wr 0 t) [] [] 0 (by simp) rfl
 refine ofT_rep h List.nodup_range' (fun k hk=>?_) (wr_length t 0).symm hok (by rw [wr_length]; exact hl)
 rw [wr_length]
 have:=List.mem_range'_1.1 hk
 omega
theorem ofT_all {p:L3->Prop} {l:List Nd} {n:Int} {t:Tr} (hl:∀x ∈ l,p x.ln) (h:ofT l n=some t):t.All p:=by
 unfold ofT at h
 split at h
 ·cases h
 ·dsimp only at h
  split at h
  ·cases h
  ·cases h; exact prt_all hl _ _ _
/-! the nodes in another order -/
def mvN (n by_ i:Nat):Nat:=n - 1 - (i + by_) % n
def mv (n by_:Nat) (i:Int):Int:=if i < 0 then i else (mvN n by_ i.toNat:Int)
end Go.Proofs.Tryz
/- By program: the conditions of the functions, from their loaded code. -/
namespace Go.Proofs.Tryz
open Go.Eng
open Go.Value renaming int→I,pointer→P,slice→S,agg→A,bool→B,tuple→T
open Go.IntKind renaming i64→J,u64→U,u32→W
set_option maxRecDepth 100000
theorem vc_geo_LnOf (l:Bool) (m:OA) (n o:Nat) (p:Bool) (q:OA) (r s:Nat) (t:Bool) (u:OA) (w x:Nat) (V:View) (R:VR) (h:(Ca V 195 #[A #[B l,S m n o]] fun d8 a5=>∃y,d8=B y/\(((!y)=true->(Rt a5 R (T #[A #[I J 0,I J 0,P none,I J 0,I J 0,P none,I J 0,I J 0,P none],B false])))/\((!y)=false->(Ca a5 195 #[A #[B p,S q r s]] fun d9 a7=>∃z,d9=B z/\(((!z)=true->(Rt a7 R (T #[A #[I J 0,I J 0,P none,I J 0,I J 0,P none,I J 0,I J 0,P none],B false])))/\((!z)=false->(Ca a7 195 #[A #[B t,S u w x]] fun e0 a9=>∃a0,e0=B a0/\(((!a0)=true->(Rt a9 R (T #[A #[I J 0,I J 0,P none,I J 0,I J 0,P none,I J 0,I J 0,P none],B false])))/\((!a0)=false->(Ca a9 196 #[A #[B l,S m n o]] fun e1 e2=>∃a,∃b,∃c,e1=A #[I J a,I J b,P c]/\(Ca e2 196 #[A #[B p,S q r s]] fun e3 e4=>∃d,∃e,∃f,e3=A #[I J d,I J e,P f]/\(Ca e4 196 #[A #[B t,S u w x]] fun e5 e6=>∃g,∃i,∃k,e5=A #[I J g,I J i,P k]/\(Ca e6 197 #[A #[I J a,I J b,P c]] fun e7 b1=>∃a1,e7=B a1/\((a1=true->(Ca b1 197 #[A #[I J d,I J e,P f]] fun e8 b2=>∃a2,e8=B a2/\((a2=true->(Rt b2 R (T #[A #[I J 0,I J 0,P none,I J 0,I J 0,P none,I J 0,I J 0,P none],B false])))/\(a2=false->(Ca b2 198 #[A #[I J a,I J b,P c],A #[I J d,I J e,P f]] fun e9 f0=>∃b4,∃b5,∃b6,e9=A #[I J b4,I J b5,P b6]/\(Ca f0 198 #[A #[I J b4,I J b5,P b6],A #[I J g,I J i,P k]] fun f1 f2=>∃b7,∃b8,∃b9,f1=A #[I J b7,I J b8,P b9]/\(Ca f2 200 #[I J 1] fun f3 f4=>∃c0,∃c1,∃c2,f3=A #[I J c0,I J c1,P c2]/\(Ca f4 199 #[A #[I J b7,I J b8,P b9],A #[I J c0,I J c1,P c2]] fun f5 c3=>∃a3,f5=B a3/\(((!a3)=true->(Rt c3 R (T #[A #[I J 0,I J 0,P none,I J 0,I J 0,P none,I J 0,I J 0,P none],B false])))/\((!a3)=false->(Rt c3 R (T #[A #[I J a,I J b,P c,I J d,I J e,P f,I J g,I J i,P k],B true]))))))))))))/\(a1=false->(Ca b1 198 #[A #[I J a,I J b,P c],A #[I J d,I J e,P f]] fun f6 f7=>∃c6,∃c7,∃c8,f6=A #[I J c6,I J c7,P c8]/\(Ca f7 198 #[A #[I J c6,I J c7,P c8],A #[I J g,I J i,P k]] fun f8 f9=>∃c9,∃d0,∃d1,f8=A #[I J c9,I J d0,P d1]/\(Ca f9 200 #[I J 1] fun g0 g1=>∃d2,∃d3,∃d4,g0=A #[I J d2,I J d3,P d4]/\(Ca g1 199 #[A #[I J c9,I J d0,P d1],A #[I J d2,I J d3,P d4]] fun g2 d5=>∃a4,g2=B a4/\(((!a4)=true->(Rt d5 R (T #[A #[I J 0,I J 0,P none,I J 0,I J 0,P none,I J 0,I J 0,P none],B false])))/\((!a4)=false->(Rt d5 R (T #[A #[I J a,I J b,P c,I J d,I J e,P f,I J g,I J i,P k],B true])))))))))))))))))))))))):
 Acts prog 125 #[A #[B l,S m n o,B p,S q r s,B t,S u w x]] V R:=
 fd (LF:=LF0) (RF:=[1000015]) [] [] func125 h
end Go.Proofs.Tryz
/- Contracts of package geo: lines. -/
namespace Go.Eng
open Go.Big
/-- A line of package geo. -/
def RLn (V:View) (v:Value) (a b c:Rat):Prop:=∃(x1 x2:Int) (p:OA) (y1 y2:Int) (q:OA) (z1 z2:Int) (r:OA),v=.agg #[.int .i64 x1,.int .i64 x2,.pointer p,.int .i64 y1,.int .i64 y2,.pointer q,.int .i64 z1,.int .i64 z2,.pointer r] /\
 RR V (.agg #[.int .i64 x1,.int .i64 x2,.pointer p]) a/\RR V (.agg #[.int .i64 y1,.int .i64 y2,.pointer q]) b/\RR V (.agg #[.int .i64 z1,.int .i64 z2,.pointer r]) c
/-- The shape of a line of package geo. -/
def LnSh (v:Value):Prop:=∃(x1 x2:Int) (x3:OA) (y1 y2:Int) (y3:OA) (z1 z2:Int) (z3:OA),v=.agg #[.int .i64 x1,.int .i64 x2,.pointer x3,.int .i64 y1,.int .i64 y2,.pointer y3,.int .i64 z1,.int .i64 z2,.pointer z3]
theorem RLn.le {V V':View} {v:Value} {a b c:Rat} (h:RLn V v a b c) (l:V.Le V'):RLn V' v a b c:=by
 obtain ⟨x1,x2,p,y1,y2,q,z1,z2,r,rfl,h1,h2,h3⟩:=h
 exact ⟨x1,x2,p,y1,y2,q,z1,z2,r,rfl,h1.le l,h2.le l,h3.le l⟩
end Go.Eng
namespace Go.Proofs.Tryz
open Go.Eng Go.Big
end Go.Proofs.Tryz
/- Contracts of package geo: LnOf. -/
namespace Go.Proofs.Tryz
open Go.Eng Go.Big
/-- What LnOf decides. -/
def okLn (b1:Bool) (xs:List Nat) (b2:Bool) (ys:List Nat) (b3:Bool) (zs:List Nat):Bool:=
 NrmI b1 xs && NrmI b2 ys && NrmI b3 zs && !(decide ((ival b1 xs:Rat)=0) && decide ((ival b2 ys:Rat)=0)) && decide (gcdQ (gcdQ (ival b1 xs) (ival b2 ys)) (ival b3 zs)=((1:Int):Rat))
theorem ln_bad {V:View} {ok:Bool} {A B C:Rat} (h:ok=false):∃v,Value.tuple #[.agg #[.int .i64 0,.int .i64 0,.pointer none,.int .i64 0,.int .i64 0,.pointer none,.int .i64 0,.int .i64 0,.pointer none],.bool false]=.tuple #[v,.bool ok]/\LnSh v/\(ok=true->RLn V v A B C):=by
 subst h; exact ⟨_,rfl,⟨_,_,_,_,_,_,_,_,_,rfl⟩,fun h=>nomatch h⟩
theorem sz_one:Sz 1 ((1:Int):Rat):=by unfold Sz; decide
theorem c_geo_LnOf {V:View} (b1 b2 b3:Bool) {p q s:OA} {n c m e i j:Nat} {xs ys zs:List Nat} (hx:RD V p n c xs) (hy:RD V q m e ys) (hz:RD V s i j zs)
  (h1:xs.length<=1099511627776) (h2:ys.length<=1099511627776) (h3:zs.length<=1099511627776) {k:Nat} (s1:Sz k (ival b1 xs:Rat)) (s2:Sz k (ival b2 ys:Rat)) (s3:Sz k (ival b3 zs:Rat)) (hk:4 * k + 4 < 1099511627776) :
  Acts prog 125 #[.agg #[.bool b1,.slice p n c,.bool b2,.slice q m e,.bool b3,.slice s i j]] V fun r V'=>∃v,r=.tuple #[v,.bool (okLn b1 xs b2 ys b3 zs)]/\LnSh v/\(okLn b1 xs b2 ys b3 zs=true->RLn V' v (ival b1 xs) (ival b2 ys) (ival b3 zs)):=by
 refine vc_geo_LnOf _ p n c _ q m e _ s i j V _ fun V1 l1=>(c_integer_Normal b1 (hx.le l1) h1).mono ?_
 rintro r V2 l2 rfl
 refine ⟨_,rfl,fun h0 V3 l3=>ln_bad ?_,fun h0 V4 l4=>(c_integer_Normal b2 (hy.le (l1.trans (l2.trans l4))) h2).mono ?_⟩
 ·have h0:NrmI b1 xs=false:=by simpa using h0
  simp [okLn,h0]
 have h0:NrmI b1 xs=true:=by simpa using h0
 rintro r V5 l5 rfl
 refine ⟨_,rfl,fun g0 V6 l6=>ln_bad ?_,fun g0 V7 l7=>(c_integer_Normal b3 (hz.le (l1.trans (l2.trans (l4.trans (l5.trans l7))))) h3).mono ?_⟩
 ·have g0:NrmI b2 ys=false:=by simpa using g0
  simp [okLn,g0]
 have g0:NrmI b2 ys=true:=by simpa using g0
 rintro r V8 l8 rfl
 have l08:=l1.trans (l2.trans (l4.trans (l5.trans (l7.trans l8))))
 refine ⟨_,rfl,fun f0 V9 l9=>ln_bad ?_,fun f0 V10 l10=>(c_frac_Whole b1 (hx.le (l08.trans l10)) h1).mono ?_⟩
 ·have f0:NrmI b3 zs=false:=by simpa using f0
  simp [okLn,f0]
 have f0:NrmI b3 zs=true:=by simpa using f0
 rintro r V11 l11 ra
 obtain ⟨x1,x2,x3,rfl⟩:=ra.shape
 have l011:=l08.trans (l10.trans l11)
 refine ⟨_,_,_,rfl,fun V12 l12=>(c_frac_Whole b2 (hy.le (l011.trans l12)) h2).mono ?_⟩
 rintro r V13 l13 rb
 obtain ⟨y1,y2,y3,rfl⟩:=rb.shape
 have l013:=l011.trans (l12.trans l13)
 refine ⟨_,_,_,rfl,fun V14 l14=>(c_frac_Whole b3 (hz.le (l013.trans l14)) h3).mono ?_⟩
 rintro r V15 l15 rc
 obtain ⟨z1,z2,z3,rfl⟩:=rc.shape
 replace ra:=ra.le (l12.trans (l13.trans (l14.trans l15)))
 replace rb:=rb.le (l14.trans l15)
 have hok:okLn b1 xs b2 ys b3 zs=(!(decide ((ival b1 xs:Rat)=0) && decide ((ival b2 ys:Rat)=0)) && decide (gcdQ (gcdQ (ival b1 xs) (ival b2 ys)) (ival b3 zs)=((1:Int):Rat))):=by
  simp only [okLn,h0,g0,f0,Bool.true_and]
 rw [hok]
 clear hok h0 g0 f0 hx hy hz
 generalize (ival b1 xs:Rat)=A at *
 generalize (ival b2 ys:Rat)=B at *
 generalize (ival b3 zs:Rat)=C at *
 refine ⟨_,_,_,rfl,fun V16 l16=>(c_R_Zero (ra.le l16)).mono ?_⟩
 rintro r V17 l17 rfl
 refine ⟨_,rfl,fun t0 V18 l18=>(c_R_Zero (rb.le (l16.trans (l17.trans l18)))).mono ?_,fun t0 V21 l21=>?_⟩
 ·rintro r V19 l19 rfl
  refine ⟨_,rfl,fun u0 V20 l20=>ln_bad (by rw [t0,u0]; rfl),fun u0 V21 l21=>?_⟩
  have lb:V15.Le V21:=l16.trans (l17.trans (l18.trans (l19.trans l21)))
  have hn:(decide (A=0) && decide (B=0))=false:=by rw [u0,Bool.and_false]
  rw [hn]
  refine (c_frac_Gcd (ra.le lb) (rb.le lb) s1 s2 (by omega)).mono ?_
  rintro r V22 l22 rg
  obtain ⟨g1,g2,g3,rfl⟩:=rg.shape
  refine ⟨_,_,_,rfl,fun V23 l23=>(c_frac_Gcd (rg.le l23) (rc.le (lb.trans (l22.trans l23))) (Sz_gcdQ s1 s2) s3 (by omega)).mono ?_⟩
  rintro r V24 l24 rh
  obtain ⟨h1,h2,h3,rfl⟩:=rh.shape
  refine ⟨_,_,_,rfl,fun V25 l25=>(c_frac_Int 1 (by omega) (by omega)).mono ?_⟩
  rintro r V26 l26 ri
  obtain ⟨i1,i2,i3,rfl⟩:=ri.shape
  refine ⟨_,_,_,rfl,fun V27 l27=>(c_R_Equal (rh.le (l25.trans (l26.trans l27))) (ri.le l27) (Sz_gcdQ (Sz_gcdQ s1 s2) s3) sz_one (by omega)).mono ?_⟩
  rintro r V28 l28 rfl
  have lz:V15.Le V28:=lb.trans (l22.trans (l23.trans (l24.trans (l25.trans (l26.trans (l27.trans l28))))))
  refine ⟨_,rfl,fun w0 V29 l29=>ln_bad ?_,fun w0 V30 l30=>?_⟩
  ·rw [Bool.not_eq_true'] at w0
   rw [w0]; rfl
  ·have w0:decide (gcdQ (gcdQ A B) C=((1:Int):Rat))=true:=by
    cases h:decide (gcdQ (gcdQ A B) C=((1:Int):Rat))
    ·rw [h] at w0; cases w0
    ·rfl
   rw [w0]
   exact ⟨_,rfl,⟨_,_,_,_,_,_,_,_,_,rfl⟩,fun _=>⟨_,_,_,_,_,_,_,_,_,rfl,ra.le (lz.trans l30),rb.le (lz.trans l30),rc.le (lz.trans l30)⟩⟩
 ·have lb:V15.Le V21:=l16.trans (l17.trans l21)
  have hn:(decide (A=0) && decide (B=0))=false:=by rw [t0,Bool.false_and]
  rw [hn]
  refine (c_frac_Gcd (ra.le lb) (rb.le lb) s1 s2 (by omega)).mono ?_
  rintro r V22 l22 rg
  obtain ⟨g1,g2,g3,rfl⟩:=rg.shape
  refine ⟨_,_,_,rfl,fun V23 l23=>(c_frac_Gcd (rg.le l23) (rc.le (lb.trans (l22.trans l23))) (Sz_gcdQ s1 s2) s3 (by omega)).mono ?_⟩
  rintro r V24 l24 rh
  obtain ⟨h1,h2,h3,rfl⟩:=rh.shape
  refine ⟨_,_,_,rfl,fun V25 l25=>(c_frac_Int 1 (by omega) (by omega)).mono ?_⟩
  rintro r V26 l26 ri
  obtain ⟨i1,i2,i3,rfl⟩:=ri.shape
  refine ⟨_,_,_,rfl,fun V27 l27=>(c_R_Equal (rh.le (l25.trans (l26.trans l27))) (ri.le l27) (Sz_gcdQ (Sz_gcdQ s1 s2) s3) sz_one (by omega)).mono ?_⟩
  rintro r V28 l28 rfl
  have lz:V15.Le V28:=lb.trans (l22.trans (l23.trans (l24.trans (l25.trans (l26.trans (l27.trans l28))))))
  refine ⟨_,rfl,fun w0 V29 l29=>ln_bad ?_,fun w0 V30 l30=>?_⟩
  ·rw [Bool.not_eq_true'] at w0
   rw [w0]; rfl
  ·have w0:decide (gcdQ (gcdQ A B) C=((1:Int):Rat))=true:=by
    cases h:decide (gcdQ (gcdQ A B) C=((1:Int):Rat))
    ·rw [h] at w0; cases w0
    ·rfl
   rw [w0]
   exact ⟨_,rfl,⟨_,_,_,_,_,_,_,_,_,rfl⟩,fun _=>⟨_,_,_,_,_,_,_,_,_,rfl,ra.le (lz.trans l30),rb.le (lz.trans l30),rc.le (lz.trans l30)⟩⟩
end Go.Proofs.Tryz
/- Contracts: cmp.Or; geo Cmp, Equal. -/
namespace Go.Proofs.Tryz
open Go.Eng Go.Big
end Go.Proofs.Tryz
/- Lines in normal form, in memory. -/
namespace Go.Proofs.Tryz
open Go.Eng Go.Big
theorem addadd (a:Addr) (i j:Nat):(a.add i).add j=a.add (i + j):=by
 unfold Addr.add
 by_cases h1:i=0
 ·subst h1; simp
 ·by_cases h2:j=0
  ·subst h2; simp [h1]
  ·simp [h1,h2,Nat.add_assoc]
theorem rdc {V:View} {b:Nat} {xs:List Value} {ty:TypeId} {m:Nat × Nat} (h:V.blk b (.cells xs.toArray ty m)) (i:Nat) {v:Value} (hv:xs[i]?=some v):∃a,addrAdd (some ⟨b,0,none⟩) i=some a/\V.at a v:=
 ⟨⟨b,i,none⟩,by simp [addrAdd,add_zero'],blk_at h hv⟩
theorem okLn_okL {a b c:Int}:okLn (decide (a < 0)) (digs a.natAbs) (decide (b < 0)) (digs b.natAbs) (decide (c < 0)) (digs c.natAbs)=okL (a,b,c):=by
 have hn:∀z:Int,NrmI (decide (z < 0)) (digs z.natAbs)=true:=by
  intro z
  unfold NrmI
  rw [val_digs]
  simp only [decide_true,Bool.true_and]
  by_cases h:z < 0
  ·simp only [h,decide_true,Bool.not_true,Bool.false_or,decide_eq_true_eq]
   intro e
   have:=digs_eq_nil.1 e
   omega
  ·simp [h]
 have hg:gcdQ (gcdQ (a:Rat) (b:Rat)) (c:Rat)=((gcd3 a b c:Nat):Int):=by
  have g2:∀x y:Int,gcdQ (x:Rat) (y:Rat)=((Nat.gcd x.natAbs y.natAbs:Nat):Int):=by
   intro x y
   unfold gcdQ
   have e1:((x:Rat)).num=x:=rfl
   have e2:((y:Rat)).num=y:=rfl
   have e3:((x:Rat)).den=1:=rfl
   have e4:((y:Rat)).den=1:=rfl
   rw [e1,e2,e3,e4]
   simp only [Nat.mul_one]
   exact Rat.mkRat_one _
  rw [g2,g2]
  rfl
 unfold okLn okL
 rw [hn,hn,hn,ival_digs,ival_digs,ival_digs,hg]
 have h0:∀z:Int,((z:Rat)=0)↔z=0:=fun z=>by exact Rat.intCast_eq_zero_iff
 simp only [Bool.true_and,h0]
 rw [Bool.eq_iff_iff]
 simp only [Bool.and_eq_true,Bool.not_eq_true',Bool.and_eq_false_iff,decide_eq_false_iff_not,decide_eq_true_eq]
 have h1:(((gcd3 a b c:Nat):Int):Rat)=((1:Int):Rat)↔gcd3 a b c=1:=by
  rw [Rat.intCast_inj]; omega
 rw [h1]
 constructor
 ·rintro ⟨h,h'⟩; exact ⟨fun e=>by rcases h with h | h; exact h e.1; exact h e.2,h'⟩
 ·rintro ⟨h,h'⟩
  refine ⟨?_,h'⟩
  by_cases ha:a=0
  ·exact .inr fun hb=>h ⟨ha,hb⟩
  ·exact .inl ha
theorem sz_int {z:Int} {k:Nat} (h:z.natAbs < 2 ^ k) (hk:0 < k):Sz k (z:Rat):=⟨h,Nat.one_lt_two_pow (by omega)⟩
theorem Bd.digs {x:L3} (h:Bd x):(digs x.1.natAbs).length<=1000/\(digs x.2.1.natAbs).length<=1000/\(digs x.2.2.natAbs).length<=1000:=⟨digs_len_bits h.1,digs_len_bits h.2.1,digs_len_bits h.2.2⟩
theorem Bd.sz {x:L3} (h:Bd x):Sz 1000 (x.1:Rat)/\Sz 1000 (x.2.1:Rat)/\Sz 1000 (x.2.2:Rat):=⟨sz_int h.1 (by omega),sz_int h.2.1 (by omega),sz_int h.2.2 (by omega)⟩
/-- LnOf at a line in normal form. -/
theorem c_geo_LnOf' {V:View} {v:Value} {x:L3} (h:RL V v x.1 x.2.1 x.2.2) (hb:Bd x) :
  Acts prog 125 #[v] V fun r V'=>∃w,r=.tuple #[w,.bool (okL x)]/\LnSh w/\(okL x=true->RLn V' w x.1 x.2.1 x.2.2):=by
 obtain ⟨p,n,s,p',n',s',q,m,e,rfl,h1,h2,h3⟩:=h
 obtain ⟨d1,d2,d3⟩:=hb.digs
 obtain ⟨s1,s2,s3⟩:=hb.sz
 have hc:=c_geo_LnOf (V:=V) (decide (x.1 < 0)) (decide (x.2.1 < 0)) (decide (x.2.2 < 0)) h1 h2 h3 (by omega) (by omega) (by omega) (k:=1000) (by rw [ival_digs]; exact s1) (by rw [ival_digs]; exact s2) (by rw [ival_digs]; exact s3) (by omega)
 rw [okLn_okL,ival_digs,ival_digs,ival_digs] at hc
 exact hc
end Go.Proofs.Tryz
