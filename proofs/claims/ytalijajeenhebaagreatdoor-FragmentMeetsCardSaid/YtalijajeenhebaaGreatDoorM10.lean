/- A part of the proof (joined by program from: FracD, FracE, VNum). -/
import Derived.Test.YtalijajeenhebaaGreatDoorM9
import Derived.Test.YtalijajeenhebaaGreatDoorM5
set_option linter.unusedVariables false
open Go.IntKind (i64 u64 u32)
/- Contracts of package frac: Sub, Cmp, Equal, Gcd. -/
namespace Go.Big
/-- The order of two numbers. -/
def cmpQ (x y:Rat):Int:=(x - y).num.sign
/-- The greatest number of which both are integer multiples. -/
def gcdQ (x y:Rat):Rat:=mkRat (Nat.gcd (x.num.natAbs * y.den) (y.num.natAbs * x.den):Nat) (x.den * y.den)
theorem num_neg' {q:Rat}:q.num < 0↔q < 0:=by
 have:=@Rat.num_nonneg q
 rw [← Rat.not_le,← this]; omega
theorem num_pos' {q:Rat}:0 < q.num↔0 < q:=by
 have h1:=@Rat.num_nonneg q
 have h2:=@Rat.num_eq_zero q
 rw [Rat.lt_iff_le_and_ne,← h1]
 constructor
 ·intro h; exact ⟨by omega,fun e=>by rw [← e] at h; simp at h⟩
 ·rintro ⟨h,hne⟩
  have:q.num≠0:=fun e=>hne (h2.1 e).symm
  omega
theorem cmpQ_lt {x y:Rat}:x < y↔cmpQ x y=-1:=by
 unfold cmpQ
 rw [Int.sign_eq_neg_one_iff_neg,num_neg',Rat.lt_iff_sub_pos x y,← Rat.neg_sub y x]
 constructor
 ·intro h; have:=Rat.neg_lt_neg h; simpa using this
 ·intro h; have:=Rat.neg_lt_neg h; rw [Rat.neg_neg] at this; simpa using this
theorem cmpQ_gt {x y:Rat}:y < x↔cmpQ x y=1:=by
 unfold cmpQ
 rw [Int.sign_eq_one_iff_pos,num_pos',Rat.lt_iff_sub_pos y x]
theorem cmpQ_eq {x y:Rat}:x=y↔cmpQ x y=0:=by
 unfold cmpQ
 rw [Int.sign_eq_zero_iff_zero,Rat.num_eq_zero]
 constructor
 ·intro h; subst h; exact Rat.sub_self
 ·intro h
  have:=congrArg (· + y) h
  simpa [Rat.sub_add_cancel,Rat.zero_add] using this
end Go.Big
namespace Go.Proofs.Tryz
open Go.Eng Go.Big
theorem c_R_Sub {V:View} {v w:Value} {x y:Rat} (hx:RR V v x) (hy:RR V w y) {k m:Nat} (hk:Sz k x) (hm:Sz m y) (hkm:k + m < 1099511627776) :
  Acts prog 186 #[v,w] V fun r V'=>RR V' r (x - y):=by
 obtain ⟨r0,r1,r2,rfl⟩:=hx.shape
 obtain ⟨s0,s1,s2,rfl⟩:=hy.shape
 refine vc_frac_R_Sub _ _ _ _ _ _ V _ fun V1 l1=>(c_R_Neg (hy.le l1) hm (by omega)).mono ?_
 rintro r V2 l2 h2
 obtain ⟨n,d,p,rfl⟩:=h2.shape
 refine ⟨_,_,_,rfl,fun V3 l3=>(c_R_Add (hx.le (l1.trans (l2.trans l3))) (h2.le l3) hk hm.neg hkm).mono ?_⟩
 rintro r V4 l4 h4
 rw [← Rat.sub_eq_add_neg] at h4
 obtain ⟨n,d,p,rfl⟩:=h4.shape
 exact ⟨_,_,_,rfl,fun V5 l5=>h4.le l5⟩
theorem c_R_Cmp {V:View} {v w:Value} {x y:Rat} (hx:RR V v x) (hy:RR V w y) {k m:Nat} (hk:Sz k x) (hm:Sz m y) (hkm:k + m < 1099511627776) :
  Acts prog 175 #[v,w] V fun r V'=>r=.int .i64 (cmpQ x y):=by
 obtain ⟨r0,r1,r2,rfl⟩:=hx.shape
 obtain ⟨s0,s1,s2,rfl⟩:=hy.shape
 have gen:∀V14:View,V.Le V14->Acts prog 186 #[.agg #[.int .i64 r0,.int .i64 r1,.pointer r2],.agg #[.int .i64 s0,.int .i64 s1,.pointer s2]] V14 fun r14_ V15=>∃x9_:Int,∃x10_:Int,∃p11_:OA,r14_=.agg #[.int .i64 x9_,.int .i64 x10_,.pointer p11_]/\(∀V16:View,V15.Le V16->Acts prog 174 #[.agg #[.int .i64 x9_,.int .i64 x10_,.pointer p11_]] V16 fun r16_ V17=>∃x12_:Int,r16_=.int .i64 x12_/\(∀V18:View,V17.Le V18->Value.int .i64 x12_=.int .i64 (cmpQ x y))):=by
  intro V1 l1
  refine (c_R_Sub (hx.le l1) (hy.le l1) hk hm hkm).mono ?_
  rintro r V2 l2 h2
  obtain ⟨n,d,p,rfl⟩:=h2.shape
  refine ⟨_,_,_,rfl,fun V3 l3=>(c_R_Sign (h2.le l3) (hk.sub hm) (by omega)).mono ?_⟩
  rintro r V4 l4 rfl
  exact ⟨_,rfl,fun _ _=>rfl⟩
 rcases hx with ⟨ex,wx⟩ | ⟨a,b,p,n,c,p',n',c',ex,-,-,-,-,-,wx⟩
 ·rcases hy with ⟨ey,wy⟩ | ⟨a,b,p,n,c,p',n',c',ey,-,-,-,-,-,wy⟩
  ·simp only [Value.agg.injEq,Array.mk.injEq,List.cons.injEq,Value.int.injEq,Value.pointer.injEq,true_and,and_true] at ex ey
   obtain ⟨rfl,rfl,rfl⟩:=ex
   obtain ⟨rfl,rfl,rfl⟩:=ey
   have hlt:x.den=y.den->((x < y↔x.num < y.num)/\(y < x↔y.num < x.num)/\(x=y↔x.num=y.num)):=by
    intro e
    have hd:(0:Int) < y.den:=by have:=y.den_nz; omega
    refine ⟨?_,?_,fun h=>by rw [h],fun h=>Rat.ext h e⟩
    ·rw [Rat.lt_iff,e]; exact ⟨fun h=>Int.lt_of_mul_lt_mul_right h (by omega),fun h=>Int.mul_lt_mul_of_pos_right h hd⟩
    ·rw [Rat.lt_iff,e]; exact ⟨fun h=>Int.lt_of_mul_lt_mul_right h (by omega),fun h=>Int.mul_lt_mul_of_pos_right h hd⟩
   refine vc_frac_R_Cmp _ _ _ _ _ _ V _ ⟨fun _=>⟨fun _=>⟨fun h1=>?_,fun _=>gen⟩,(fun h=>nomatch h)⟩,(fun h=>nomatch h)⟩
   have h1:x.den=y.den:=by rw [beq_iff_eq] at h1; omega
   obtain ⟨g1,g2,g3⟩:=hlt h1
   refine ⟨fun h V1 l1=>?_,fun h=>⟨fun h' V1 l1=>?_,fun h' V1 l1=>?_⟩⟩
   ·rw [cmpQ_lt.1 (g1.2 (by simpa using h))]
   ·rw [cmpQ_gt.1 (g2.2 (by simpa using h'))]
   ·rw [cmpQ_eq.1 (g3.2 (by rw [decide_eq_false_iff_not] at h h'; omega))]
  ·simp only [Value.agg.injEq,Array.mk.injEq,List.cons.injEq,Value.int.injEq,Value.pointer.injEq,true_and,and_true] at ex ey
   obtain ⟨rfl,rfl,rfl⟩:=ex
   obtain ⟨rfl,rfl,rfl⟩:=ey
   exact vc_frac_R_Cmp _ _ _ _ _ _ V _ ⟨fun _=>⟨(fun h=>nomatch h),fun _=>gen⟩,(fun h=>nomatch h)⟩
 ·simp only [Value.agg.injEq,Array.mk.injEq,List.cons.injEq,Value.int.injEq,Value.pointer.injEq,true_and,and_true] at ex
  obtain ⟨rfl,rfl,rfl⟩:=ex
  exact vc_frac_R_Cmp _ _ _ _ _ _ V _ ⟨(fun h=>nomatch h),fun _=>gen⟩
theorem c_R_Equal {V:View} {v w:Value} {x y:Rat} (hx:RR V v x) (hy:RR V w y) {k m:Nat} (hk:Sz k x) (hm:Sz m y) (hkm:k + m < 1099511627776) :
  Acts prog 143 #[v,w] V fun r V'=>r=.bool (decide (x=y)):=by
 obtain ⟨r0,r1,r2,rfl⟩:=hx.shape
 obtain ⟨s0,s1,s2,rfl⟩:=hy.shape
 refine vc_frac_R_Equal _ _ _ _ _ _ V _ fun V1 l1=>(c_R_Cmp (hx.le l1) (hy.le l1) hk hm hkm).mono ?_
 rintro r V2 l2 rfl
 refine ⟨_,rfl,fun V3 l3=>?_⟩
 congr 1
 rw [Bool.eq_iff_iff,beq_iff_eq,decide_eq_true_eq,cmpQ_eq]
theorem gcd_bits {x y:Rat} {k m:Nat} (hx:Sz k x) (hy:Sz m y):x.num.natAbs * y.den < 2 ^ (k + m)/\y.num.natAbs * x.den < 2 ^ (k + m)/\Nat.gcd (x.num.natAbs * y.den) (y.num.natAbs * x.den) < 2 ^ (k + m)/\x.den * y.den < 2 ^ (k + m):=by
 have h1:x.num.natAbs * y.den < 2 ^ (k + m):=pow_mul_lt hx.1 hy.2
 have h2:y.num.natAbs * x.den < 2 ^ (k + m):=by rw [Nat.add_comm]; exact pow_mul_lt hy.1 hx.2
 refine ⟨h1,h2,?_,pow_mul_lt hx.2 hy.2⟩
 rcases Nat.eq_zero_or_pos (x.num.natAbs * y.den) with e | e
 ·rw [e,Nat.gcd_zero_left]; exact h2
 ·exact Nat.lt_of_le_of_lt (Nat.le_of_dvd e (Nat.gcd_dvd_left _ _)) h1
theorem Sz_gcdQ {x y:Rat} {k m:Nat} (hx:Sz k x) (hy:Sz m y):Sz (k + m + 1) (gcdQ x y):=by
 obtain ⟨-,-,h3,h4⟩:=gcd_bits hx hy
 have h5:2 ^ (k + m)<=2 ^ (k + m + 1):=Nat.pow_le_pow_right (by omega) (by omega)
 exact Go.Eng.Sz.mkRat (by rw [Int.natAbs_natCast]; omega) (by omega) (by omega)
theorem c_frac_Gcd {V:View} {v w:Value} {x y:Rat} (hx:RR V v x) (hy:RR V w y) {k m:Nat} (hk:Sz k x) (hm:Sz m y) (hkm:k + m < 1099511627776) :
  Acts prog 154 #[v,w] V fun r V'=>RR V' r (gcdQ x y):=by
 obtain ⟨r0,r1,r2,rfl⟩:=hx.shape
 obtain ⟨s0,s1,s2,rfl⟩:=hy.shape
 obtain ⟨b1,b2,b3,b4⟩:=gcd_bits hk hm
 have q1:=digs_len_bits hk.1
 have q2:=digs_len_bits hk.2
 have q3:=digs_len_bits hm.1
 have q4:=digs_len_bits hm.2
 have q5:=digs_len_bits b1
 have q6:=digs_len_bits b2
 have q7:=digs_len_bits b3
 have q8:=digs_len_bits b4
 have gen:(∀V78:View,V.Le V78->Acts prog 187 #[.agg #[.int .i64 r0,.int .i64 r1,.pointer r2]] V78 fun r78_ V79=>∃(p52_:OA) (n52_ c52_:Nat),r78_=.slice p52_ n52_ c52_/\(∀V80:View,V79.Le V80->Acts prog 187 #[.agg #[.int .i64 s0,.int .i64 s1,.pointer s2]] V80 fun r80_ V81=>∃(p53_:OA) (n53_ c53_:Nat),r80_=.slice p53_ n53_ c53_/\(∀V82:View,V81.Le V82->Acts prog 194 #[.slice p52_ n52_ c52_,.slice p53_ n53_ c53_] V82 fun r82_ V83=>∃(p54_:OA) (n54_ c54_:Nat),r82_=.slice p54_ n54_ c54_/\(∀V84:View,V83.Le V84->Acts prog 165 #[.agg #[.int .i64 r0,.int .i64 r1,.pointer r2]] V84 fun r84_ V85=>∃b55_:Bool,∃(p56_:OA) (n56_ c56_:Nat),r84_=.agg #[.bool b55_,.slice p56_ n56_ c56_]/\(∀V86:View,V85.Le V86->Acts prog 187 #[.agg #[.int .i64 s0,.int .i64 s1,.pointer s2]] V86 fun r86_ V87=>∃(p57_:OA) (n57_ c57_:Nat),r86_=.slice p57_ n57_ c57_/\(∀V88:View,V87.Le V88->Acts prog 194 #[.slice p56_ n56_ c56_,.slice p57_ n57_ c57_] V88 fun r88_ V89=>∃(p58_:OA) (n58_ c58_:Nat),r88_=.slice p58_ n58_ c58_/\(∀V90:View,V89.Le V90->Acts prog 165 #[.agg #[.int .i64 s0,.int .i64 s1,.pointer s2]] V90 fun r90_ V91=>∃b59_:Bool,∃(p60_:OA) (n60_ c60_:Nat),r90_=.agg #[.bool b59_,.slice p60_ n60_ c60_]/\(∀V92:View,V91.Le V92->Acts prog 187 #[.agg #[.int .i64 r0,.int .i64 r1,.pointer r2]] V92 fun r92_ V93=>∃(p61_:OA) (n61_ c61_:Nat),r92_=.slice p61_ n61_ c61_/\(∀V94:View,V93.Le V94->Acts prog 194 #[.slice p60_ n60_ c60_,.slice p61_ n61_ c61_] V94 fun r94_ V95=>∃(p62_:OA) (n62_ c62_:Nat),r94_=.slice p62_ n62_ c62_/\(∀V96:View,V95.Le V96->Acts prog 195 #[.slice p58_ n58_ c58_,.slice p62_ n62_ c62_] V96 fun r96_ V97=>∃(p63_:OA) (n63_ c63_:Nat),r96_=.slice p63_ n63_ c63_/\(∀V98:View,V97.Le V98->Acts prog 164 #[.agg #[.bool false,.slice p63_ n63_ c63_],.slice p54_ n54_ c54_] V98 fun r98_ V99=>∃x64_:Int,∃x65_:Int,∃p66_:OA,r98_=.agg #[.int .i64 x64_,.int .i64 x65_,.pointer p66_]/\(∀V100:View,V99.Le V100->RR V100 (.agg #[.int .i64 x64_,.int .i64 x65_,.pointer p66_]) (gcdQ x y))))))))))))):=by
  intro V1 l1
  refine (c_R_Den (hx.le l1) hk (by omega)).mono ?_
  rintro r V2 l2 ⟨p1,n1,c1,rfl,g1⟩
  refine ⟨_,_,_,rfl,fun V3 l3=>(c_R_Den (hy.le (l1.trans (l2.trans l3))) hm (by omega)).mono ?_⟩
  rintro r V4 l4 ⟨p2,n2,c2,rfl,g2⟩
  refine ⟨_,_,_,rfl,fun V5 l5=>(c_nat_Mul (g1.le (l3.trans (l4.trans l5))) (g2.le l5) (by omega)).mono ?_⟩
  rintro r V6 l6 ⟨p3,n3,c3,rfl,g3⟩
  rw [val_digs,val_digs] at g3
  have L6:=l1.trans (l2.trans (l3.trans (l4.trans (l5.trans l6))))
  refine ⟨_,_,_,rfl,fun V7 l7=>(c_R_Num (hx.le (L6.trans l7)) hk (by omega)).mono ?_⟩
  rintro r V8 l8 ⟨p4,n4,c4,rfl,g4⟩
  refine ⟨_,_,_,_,rfl,fun V9 l9=>(c_R_Den (hy.le (L6.trans (l7.trans (l8.trans l9)))) hm (by omega)).mono ?_⟩
  rintro r V10 l10 ⟨p5,n5,c5,rfl,g5⟩
  refine ⟨_,_,_,rfl,fun V11 l11=>(c_nat_Mul (g4.le (l9.trans (l10.trans l11))) (g5.le l11) (by omega)).mono ?_⟩
  rintro r V12 l12 ⟨p6,n6,c6,rfl,g6⟩
  rw [val_digs,val_digs] at g6
  have L12:=L6.trans (l7.trans (l8.trans (l9.trans (l10.trans (l11.trans l12)))))
  refine ⟨_,_,_,rfl,fun V13 l13=>(c_R_Num (hy.le (L12.trans l13)) hm (by omega)).mono ?_⟩
  rintro r V14 l14 ⟨p7,n7,c7,rfl,g7⟩
  refine ⟨_,_,_,_,rfl,fun V15 l15=>(c_R_Den (hx.le (L12.trans (l13.trans (l14.trans l15)))) hk (by omega)).mono ?_⟩
  rintro r V16 l16 ⟨p8,n8,c8,rfl,g8⟩
  refine ⟨_,_,_,rfl,fun V17 l17=>(c_nat_Mul (g7.le (l15.trans (l16.trans l17))) (g8.le l17) (by omega)).mono ?_⟩
  rintro r V18 l18 ⟨p9,n9,c9,rfl,g9⟩
  rw [val_digs,val_digs] at g9
  have L18:=l13.trans (l14.trans (l15.trans (l16.trans (l17.trans l18))))
  refine ⟨_,_,_,rfl,fun V19 l19=>(c_nat_Gcd (g6.le (L18.trans l19)) (g9.le l19) (by omega) (by omega)).mono ?_⟩
  rintro r V20 l20 ⟨p10,n10,c10,rfl,g10⟩
  rw [val_digs,val_digs] at g10
  refine ⟨_,_,_,rfl,fun V21 l21=>(c_frac_reduce false (g10.le l21) (g3.le (l7.trans (l8.trans (l9.trans (l10.trans (l11.trans (l12.trans (L18.trans (l19.trans (l20.trans l21)))))))))) (by omega) (by omega)).mono ?_⟩
  rintro r V22 l22 h22
  rw [ival_false,val_digs,val_digs] at h22
  obtain ⟨n,d,p,rfl⟩:=h22.shape
  exact ⟨_,_,_,rfl,fun V23 l23=>h22.le l23⟩
 rcases hx with ⟨ex,wx⟩ | ⟨a,b,p,n,c,p',n',c',ex,-,-,-,-,-,wx⟩
 ·rcases hy with ⟨ey,wy⟩ | ⟨a,b,p,n,c,p',n',c',ey,-,-,-,-,-,wy⟩
  ·simp only [Value.agg.injEq,Array.mk.injEq,List.cons.injEq,Value.int.injEq,Value.pointer.injEq,true_and,and_true] at ex ey
   obtain ⟨rfl,rfl,rfl⟩:=ex
   obtain ⟨rfl,rfl,rfl⟩:=ey
   obtain ⟨wx1,wx2⟩:=wx
   obtain ⟨wy1,wy2⟩:=wy
   refine vc_frac_Gcd _ _ _ _ _ _ V _ ⟨fun _=>⟨fun _=>⟨fun h1=>⟨fun _ _=>True,⟨fun h2 V1 l1=>?_,fun _=>⟨(),by and_intros <;> rfl,trivial⟩⟩,fun _ V1 l1 _=>⟨by trivial,fun V2 l2=>gen V2 (l1.trans l2)⟩⟩,fun _=>gen⟩,(fun h=>nomatch h)⟩,(fun h=>nomatch h)⟩
   have h1:x.den=1:=by rw [beq_iff_eq] at h1; omega
   have h2:y.den=1:=by rw [beq_iff_eq] at h2; omega
   refine (c_frac_abs _ (by omega) (by omega)).mono ?_
   rintro r V2 l2 rfl
   refine ⟨_,rfl,fun V3 l3=>(c_frac_abs _ (by omega) (by omega)).mono ?_⟩
   rintro r V4 l4 rfl
   refine ⟨_,rfl,fun V5 l5=>(c_frac_gcd _ _ (by omega) (by omega)).mono ?_⟩
   rintro r V6 l6 rfl
   refine ⟨_,rfl,fun V7 l7=>.inl ?_⟩
   have e:gcdQ x y=((Nat.gcd x.num.natAbs y.num.natAbs:Nat):Int):=by
    unfold gcdQ
    rw [h1,h2,Nat.mul_one,Nat.mul_one,Nat.mul_one]
    exact mkRat_one _
   have hl:Nat.gcd x.num.natAbs y.num.natAbs < 4611686018427387904:=by
    rcases Nat.eq_zero_or_pos x.num.natAbs with e | e
    ·rw [e,Nat.gcd_zero_left]; exact wy1
    ·exact Nat.lt_of_le_of_lt (Nat.le_of_dvd e (Nat.gcd_dvd_left _ _)) wx1
   rw [e,i64w (by omega)]
   exact ⟨rfl,intCast_wd (by rw [Int.natAbs_natCast]; exact hl)⟩
  ·simp only [Value.agg.injEq,Array.mk.injEq,List.cons.injEq,Value.int.injEq,Value.pointer.injEq,true_and,and_true] at ex ey
   obtain ⟨rfl,rfl,rfl⟩:=ex
   obtain ⟨rfl,rfl,rfl⟩:=ey
   exact vc_frac_Gcd _ _ _ _ _ _ V _ ⟨fun _=>⟨(fun h=>nomatch h),fun _=>gen⟩,(fun h=>nomatch h)⟩
 ·simp only [Value.agg.injEq,Array.mk.injEq,List.cons.injEq,Value.int.injEq,Value.pointer.injEq,true_and,and_true] at ex
  obtain ⟨rfl,rfl,rfl⟩:=ex
  exact vc_frac_Gcd _ _ _ _ _ _ V _ ⟨(fun h=>nomatch h),fun _=>gen⟩
end Go.Proofs.Tryz
/- Contracts of the rational numbers: Of, API, Mul, Inv, Quo. -/
namespace Go.Proofs.Tryz
open Go.Eng Go.Big
/-- A number of package api in normal form. -/
def RA (V:View) (v:Value) (q:Rat):Prop:=∃p n c p' n' c',v=.agg #[.bool (decide (q.num < 0)),.slice p n c,.slice p' n' c']/\RD V p n c (digs q.num.natAbs)/\RD V p' n' c' (digs q.den)
theorem RA.le {V V':View} {v:Value} {q:Rat} (h:RA V v q) (l:V.Le V'):RA V' v q:=by
 obtain ⟨p,n,c,p',n',c',e,h1,h2⟩:=h
 exact ⟨p,n,c,p',n',c',e,h1.le l,h2.le l⟩
theorem c_frac_Of' {V:View} (b:Bool) {p q:OA} {n c m e:Nat} {xs ys:List Nat} (hx:RD V p n c xs) (hy:RD V q m e ys) (hm:xs.length<=1099511627776) (hn:ys.length<=1099511627776) :
  Acts prog 102 #[.agg #[.bool b,.slice p n c,.slice q m e]] V fun r V'=>RR V' r (mkRat (ival b xs) (val ys)):=by
 refine vc_frac_Of b p n c q m e V _ fun V1 l1=>(c_frac_reduce b (hx.le l1) (hy.le l1) hm hn).mono ?_
 rintro r V2 l2 h
 obtain ⟨u,v,w,rfl⟩:=h.shape
 exact ⟨_,_,_,rfl,fun V3 l3=>h.le l3⟩
theorem c_frac_Of {V:View} {v:Value} {q:Rat} (h:RA V v q) {k:Nat} (hs:Sz k q) (hk:k<=1099511627776):Acts prog 102 #[v] V fun r V'=>RR V' r q:=by
 obtain ⟨p,n,c,p',n',c',rfl,h1,h2⟩:=h
 have q1:=digs_len_bits hs.1
 have q2:=digs_len_bits hs.2
 refine (c_frac_Of' _ h1 h2 (by omega) (by omega)).mono ?_
 rintro r V' _ h
 rw [ival_digs,val_digs,Rat.mkRat_self] at h
 exact h
theorem c_R_API {V:View} {v:Value} {q:Rat} (h:RR V v q) {k:Nat} (hs:Sz k q) (hk:k<=1099511627776):Acts prog 144 #[v] V fun r V'=>RA V' r q:=by
 have h0:=h
 obtain ⟨r0,r1,r2,rfl⟩:=h.shape
 refine vc_frac_R_API r0 r1 r2 V _ fun V1 l1=>(c_R_Num (h0.le l1) hs hk).mono ?_
 rintro r V2 l2 ⟨p1,n1,c1,rfl,g1⟩
 refine ⟨_,_,_,_,rfl,fun V3 l3=>(c_R_Den (h0.le (l1.trans (l2.trans l3))) hs hk).mono ?_⟩
 rintro r V4 l4 ⟨p2,n2,c2,rfl,g2⟩
 exact ⟨_,_,_,rfl,fun V5 l5=>⟨_,_,_,_,_,_,rfl,g1.le (l3.trans (l4.trans l5)),g2.le l5⟩⟩
theorem c_R_Mul {V:View} {v w:Value} {x y:Rat} (hx:RR V v x) (hy:RR V w y) {k m:Nat} (hk:Sz k x) (hm:Sz m y) (hkm:k + m < 1099511627776) :
  Acts prog 185 #[v,w] V fun r V'=>RR V' r (x * y):=by
 obtain ⟨r0,r1,r2,rfl⟩:=hx.shape
 obtain ⟨s0,s1,s2,rfl⟩:=hy.shape
 have hxy:x * y=mkRat (x.num * y.num) (x.den * y.den):=Rat.mul_def' x y
 have b1:(x.num * y.num).natAbs < 2 ^ (k + m):=by rw [Int.natAbs_mul,Nat.pow_add]; exact Nat.mul_lt_mul'' hk.1 hm.1
 have b2:x.den * y.den < 2 ^ (k + m):=by rw [Nat.pow_add]; exact Nat.mul_lt_mul'' hk.2 hm.2
 have q1:=digs_len_bits hk.1
 have q2:=digs_len_bits hk.2
 have q3:=digs_len_bits hm.1
 have q4:=digs_len_bits hm.2
 have q5:=digs_len_bits b1
 have q6:=digs_len_bits b2
 refine vc_frac_R_Mul r0 r1 r2 s0 s1 s2 V _ ⟨fun hr=>⟨fun _ _=>True,⟨fun hs=>?_,fun _=>⟨(),by (try dsimp only); and_intros <;> trivial,trivial⟩⟩,fun _ V8 l8 _=>⟨rfl,fun V9 l9'=>?_⟩⟩,fun _ V9 l9=>?_⟩
 ·rcases hx with ⟨ex,wx⟩ | ⟨a,b,p,n,c,p',n',c',ex,-,-,-,-,-,wx⟩
  ·rcases hy with ⟨ey,wy⟩ | ⟨a,b,p,n,c,p',n',c',ey,-,-,-,-,-,wy⟩
   ·simp only [Value.agg.injEq,Array.mk.injEq,List.cons.injEq,Value.int.injEq,Value.pointer.injEq,true_and,and_true] at ex ey
    obtain ⟨rfl,rfl,rfl⟩:=ex
    obtain ⟨rfl,rfl,rfl⟩:=ey
    obtain ⟨wx1,wx2⟩:=wx
    obtain ⟨wy1,wy2⟩:=wy
    have dx:=x.den_nz
    have dy:=y.den_nz
    have e1:i64.wrap ((x.den:Int) - 1 + 1)=x.den:=by rw [i64w (by omega)]; omega
    have e2:i64.wrap ((y.den:Int) - 1 + 1)=y.den:=by rw [i64w (by omega)]; omega
    rw [e1,e2]
    intro V1 l1
    refine (c_frac_times _ _ wx1 wy1).mono ?_
    rintro r V2 l2 ⟨z1,rfl,hz1⟩
    refine ⟨_,_,rfl,fun V3 l3=>(c_frac_times _ _ (by omega) (by omega)).mono ?_⟩
    rintro r V4 l4 ⟨z2,rfl,hz2⟩
    refine ⟨_,_,rfl,fun t1=>⟨fun t2 V5 l5=>?_,fun _=>⟨(),by (try dsimp only); and_intros <;> trivial,trivial⟩⟩,fun _=>⟨(),by (try dsimp only); and_intros <;> trivial,trivial⟩⟩
    have t1:=of_decide_eq_true t1
    have t2:=of_decide_eq_true t2
    rw [hz1 t1,hz2 t2]
    have hd:((x.den:Int) * (y.den:Int))=((x.den * y.den:Nat):Int):=(Int.natCast_mul ..).symm
    rw [hd] at t2 ⊢
    refine (c_frac_lowest _ _ t1 (by rwa [Int.natAbs_natCast] at t2) (Nat.mul_ne_zero dx dy)).mono ?_
    rintro r V6 l6 h6
    rw [← hxy] at h6
    obtain ⟨n,d,p,rfl⟩:=h6.shape
    exact ⟨_,_,_,rfl,fun V7 l7=>h6.le l7⟩
   ·simp only [Value.agg.injEq,Array.mk.injEq,List.cons.injEq,Value.int.injEq,Value.pointer.injEq,true_and,and_true] at ey
    obtain ⟨rfl,rfl,rfl⟩:=ey
    cases hs
  ·simp only [Value.agg.injEq,Array.mk.injEq,List.cons.injEq,Value.int.injEq,Value.pointer.injEq,true_and,and_true] at ex
   obtain ⟨rfl,rfl,rfl⟩:=ex
   cases hr
 ·have l9:=l8.trans l9'
  refine (c_R_Num (hx.le l9) hk (by omega)).mono ?_
  rintro r V10 l10 ⟨p1,n1,c1,rfl,g1⟩
  refine ⟨_,_,_,_,rfl,fun V11 l11=>(c_R_Num (hy.le (l9.trans (l10.trans l11))) hm (by omega)).mono ?_⟩
  rintro r V12 l12 ⟨p2,n2,c2,rfl,g2⟩
  refine ⟨_,_,_,_,rfl,fun V13 l13=>(c_integer_Mul _ _ (g1.le (l11.trans (l12.trans l13))) (g2.le l13) (by omega)).mono ?_⟩
  rintro r V14 l14 h14
  rw [ival_digs,ival_digs] at h14
  obtain ⟨p3,n3,c3,rfl,g3⟩:=h14
  have L14:=l9.trans (l10.trans (l11.trans (l12.trans (l13.trans l14))))
  refine ⟨_,_,_,_,rfl,fun V15 l15=>(c_R_Den (hx.le (L14.trans l15)) hk (by omega)).mono ?_⟩
  rintro r V16 l16 ⟨p4,n4,c4,rfl,g4⟩
  refine ⟨_,_,_,rfl,fun V17 l17=>(c_R_Den (hy.le (L14.trans (l15.trans (l16.trans l17)))) hm (by omega)).mono ?_⟩
  rintro r V18 l18 ⟨p5,n5,c5,rfl,g5⟩
  refine ⟨_,_,_,rfl,fun V19 l19=>(c_nat_Mul (g4.le (l17.trans (l18.trans l19))) (g5.le l19) (by omega)).mono ?_⟩
  rintro r V20 l20 ⟨p6,n6,c6,rfl,g6⟩
  rw [val_digs,val_digs] at g6
  refine ⟨_,_,_,rfl,fun V21 l21=>(c_frac_reduce _ (g3.le (l15.trans (l16.trans (l17.trans (l18.trans (l19.trans (l20.trans l21))))))) (g6.le l21) (by omega) (by omega)).mono ?_⟩
  rintro r V22 l22 h22
  rw [ival_digs,val_digs,← hxy] at h22
  obtain ⟨n,d,p,rfl⟩:=h22.shape
  exact ⟨_,_,_,rfl,fun V23 l23=>h22.le l23⟩
 ·skip
  refine (c_R_Num (hx.le l9) hk (by omega)).mono ?_
  rintro r V10 l10 ⟨p1,n1,c1,rfl,g1⟩
  refine ⟨_,_,_,_,rfl,fun V11 l11=>(c_R_Num (hy.le (l9.trans (l10.trans l11))) hm (by omega)).mono ?_⟩
  rintro r V12 l12 ⟨p2,n2,c2,rfl,g2⟩
  refine ⟨_,_,_,_,rfl,fun V13 l13=>(c_integer_Mul _ _ (g1.le (l11.trans (l12.trans l13))) (g2.le l13) (by omega)).mono ?_⟩
  rintro r V14 l14 h14
  rw [ival_digs,ival_digs] at h14
  obtain ⟨p3,n3,c3,rfl,g3⟩:=h14
  have L14:=l9.trans (l10.trans (l11.trans (l12.trans (l13.trans l14))))
  refine ⟨_,_,_,_,rfl,fun V15 l15=>(c_R_Den (hx.le (L14.trans l15)) hk (by omega)).mono ?_⟩
  rintro r V16 l16 ⟨p4,n4,c4,rfl,g4⟩
  refine ⟨_,_,_,rfl,fun V17 l17=>(c_R_Den (hy.le (L14.trans (l15.trans (l16.trans l17)))) hm (by omega)).mono ?_⟩
  rintro r V18 l18 ⟨p5,n5,c5,rfl,g5⟩
  refine ⟨_,_,_,rfl,fun V19 l19=>(c_nat_Mul (g4.le (l17.trans (l18.trans l19))) (g5.le l19) (by omega)).mono ?_⟩
  rintro r V20 l20 ⟨p6,n6,c6,rfl,g6⟩
  rw [val_digs,val_digs] at g6
  refine ⟨_,_,_,rfl,fun V21 l21=>(c_frac_reduce _ (g3.le (l15.trans (l16.trans (l17.trans (l18.trans (l19.trans (l20.trans l21))))))) (g6.le l21) (by omega) (by omega)).mono ?_⟩
  rintro r V22 l22 h22
  rw [ival_digs,val_digs,← hxy] at h22
  obtain ⟨n,d,p,rfl⟩:=h22.shape
  exact ⟨_,_,_,rfl,fun V23 l23=>h22.le l23⟩
theorem inv_neg {q:Rat} (h:q.num < 0):(q⁻¹).num=-(q.den:Int)/\(q⁻¹).den=q.num.natAbs:=by
 show (Rat.inv q).num=_/\(Rat.inv q).den=_
 unfold Rat.inv
 rw [dif_pos h]
 exact ⟨rfl,rfl⟩
theorem inv_pos {q:Rat} (h:0 < q.num):(q⁻¹).num=(q.den:Int)/\(q⁻¹).den=q.num.natAbs:=by
 show (Rat.inv q).num=_/\(Rat.inv q).den=_
 unfold Rat.inv
 rw [dif_neg (by omega),dif_pos h]
 exact ⟨rfl,rfl⟩
theorem inv_zero {q:Rat} (h:q.num=0):q⁻¹=0:=by
 have:q=0:=Rat.num_eq_zero.1 h
 subst this
 exact Rat.inv_zero
theorem sz_inv {k:Nat} {q:Rat} (h:Sz k q):Sz k q⁻¹:=by
 rcases Int.lt_trichotomy q.num 0 with h0 | h0 | h0
 ·obtain ⟨e1,e2⟩:=inv_neg h0
  refine ⟨?_,?_⟩
  ·rw [e1,Int.natAbs_neg]; exact h.2
  ·rw [e2]; exact h.1
 ·rw [inv_zero h0]
  exact ⟨Nat.two_pow_pos _,Nat.lt_of_le_of_lt (Nat.pos_of_ne_zero q.den_nz) h.2⟩
 ·obtain ⟨e1,e2⟩:=inv_pos h0
  exact ⟨by rw [e1]; exact h.2,by rw [e2]; exact h.1⟩
theorem c_R_Inv {V:View} {v:Value} {q:Rat} (h:RR V v q) {k:Nat} (hs:Sz k q) (hk:k<=1099511627776):Acts prog 197 #[v] V fun r V'=>RR V' r q⁻¹:=by
 rcases h with ⟨rfl,hw⟩ | ⟨a,b,p,n,c,p',n',c',rfl,h1,h2,h3,h4,h5,hw⟩
 ·obtain ⟨w1,w2⟩:=hw
  have hd:=q.den_nz
  refine vc_frac_R_Inv _ _ _ V _ ⟨(fun h0=>nomatch h0),fun _=>⟨fun g V4 l4=>?_,fun g=>⟨fun g2 V5 l5=>?_,fun g2 V6 l6=>?_⟩⟩⟩
  ·have g:=of_decide_eq_true g
   obtain ⟨e1,e2⟩:=inv_neg g
   refine .inl ⟨?_,?_⟩
   ·rw [e1,e2,i64w (x:=(q.den:Int) - 1 + 1) (by omega),i64w (x:=0 - q.num) (by omega),i64w (x:=0 - ((q.den:Int) - 1 + 1)) (by omega),i64w (by omega)]
    congr 4
    ·omega
    ·congr 1; omega
   ·unfold Wd; rw [e1,e2,Int.natAbs_neg]; exact ⟨w2,w1⟩
  ·have g2:q.num=0:=by simpa using g2
   rw [inv_zero g2]
   exact .inl ⟨rfl,by decide,by decide⟩
  ·have g:¬ q.num < 0:=of_decide_eq_false g
   have g2:q.num≠0:=by simpa using g2
   obtain ⟨e1,e2⟩:=inv_pos (q:=q) (by omega)
   refine .inl ⟨?_,?_⟩
   ·rw [e1,e2,i64w (x:=(q.den:Int) - 1 + 1) (by omega),i64w (by omega)]
    congr 4
    ·omega
    ·congr 1; omega
   ·unfold Wd; rw [e1,e2]; exact ⟨w2,w1⟩
 ·obtain ⟨rfl,hn⟩:=h4.inv
  have q1:=digs_len_bits hs.1
  have q2:=digs_len_bits hs.2
  refine vc_frac_R_Inv _ _ _ V _ ⟨fun _=>⟨rfl,rfl,rfl,decide (q.num < 0),⟨a.add 0,by simp [addrAdd,Addr.add],h1⟩,rfl,rfl,p',n',c',⟨a.add 2,rfl,h3⟩,rfl,rfl,rfl,p,n,c,⟨a.add 1,by simp [addrAdd,Addr.add],h2⟩,fun V1 l1=>(c_frac_reduce _ (h5.le l1) (hn.le l1) (by omega) (by omega)).mono ?_⟩,fun h0=>nomatch h0⟩
  rintro r V2 l2 h
  have e:mkRat (ival (decide (q.num < 0)) (digs q.den)) (val (digs q.num.natAbs))=q⁻¹:=by
   rw [val_digs]
   have hv:ival (decide (q.num < 0)) (digs q.den)=if q.num < 0 then -(q.den:Int) else (q.den:Int):=by
    unfold ival
    rw [val_digs]
    by_cases g:q.num < 0 <;> simp [g]
   rw [hv]
   rcases Int.lt_trichotomy q.num 0 with h0 | h0 | h0
   ·obtain ⟨e1,e2⟩:=inv_neg h0
    rw [if_pos h0,← e1,← e2,Rat.mkRat_self]
   ·rw [inv_zero h0,h0]; simp
   ·obtain ⟨e1,e2⟩:=inv_pos h0
    rw [if_neg (by omega),← e1,← e2,Rat.mkRat_self]
  rw [e] at h
  obtain ⟨u,v,w,rfl⟩:=h.shape
  exact ⟨_,_,_,rfl,fun V3 l3=>h.le l3⟩
theorem c_R_Quo {V:View} {v w:Value} {x y:Rat} (hx:RR V v x) (hy:RR V w y) {k m:Nat} (hk:Sz k x) (hm:Sz m y) (hkm:k + m < 1099511627776) :
  Acts prog 163 #[v,w] V fun r V'=>RR V' r (x * y⁻¹):=by
 have hx0:=hx
 have hy0:=hy
 obtain ⟨r0,r1,r2,rfl⟩:=hx.shape
 obtain ⟨s0,s1,s2,rfl⟩:=hy.shape
 refine vc_frac_R_Quo r0 r1 r2 s0 s1 s2 V _ fun V1 l1=>(c_R_Inv (hy0.le l1) hm (by omega)).mono ?_
 rintro r V2 l2 h2
 have h20:=h2
 obtain ⟨u,v,w,rfl⟩:=h2.shape
 refine ⟨_,_,_,rfl,fun V3 l3=>(c_R_Mul (hx0.le (l1.trans (l2.trans l3))) (h20.le l3) hk (sz_inv hm) hkm).mono ?_⟩
 rintro r V4 l4 h4
 have h40:=h4
 obtain ⟨u,v,w,rfl⟩:=h4.shape
 exact ⟨_,_,_,rfl,fun V5 l5=>h40.le l5⟩
end Go.Proofs.Tryz
/- By program: the conditions of the functions, from their loaded code. -/
namespace Go.Proofs.Tryz
open Go.Eng
open Go.Value renaming int→I,pointer→P,slice→S,agg→A,bool→B,tuple→T
open Go.IntKind renaming i64→J,u64→U,u32→W
set_option maxRecDepth 100000
theorem vc_num_Trim (b:OA) (f d:Nat) (V:View) (R:VR) (h:(∃(g:Int->VP) (l:Int->Nat),(∃m:Int,(s3 b f d (((f:Int)=m)))/\g m V)/\∀(a:Int) (e:View),V.Le e->g a e->(true=true/\(((decide (a > (0:Int)))=true->(b.isSome=true)/\(0<=(J.wrap (a - (1:Int)))/\(J.wrap (a - (1:Int))) < (f:Int))/\(∃i,(∃n,addrAdd b (((J.wrap (a - (1:Int))).toNat) * 1)=some n/\e.at n (I W i))/\(((i == (0:Int))=true->(∃k:Int,l k < l a/\(s3 b f d (((J.wrap (a - (1:Int)))=k)))/\g k e))/\((i == (0:Int))=false->(0<=a/\a<=(d:Int))/\(Rt e R (S b a.toNat d))))))/\((decide (a > (0:Int)))=false->(0<=a/\a<=(d:Int))/\(Rt e R (S b a.toNat d))))))):
 Acts prog 166 #[S b f d] V R:=
 fd (LF:=LF0) (RF:=[1000007]) [(2,⟨Int,false,[0],[],fun q=>[(3,.c (.v (I J q)))],fun q=>[]⟩)] [] func166 h
theorem vc_num_Word (a:Int) (V:View) (R:VR) (h:(0<=(32:Int))/\(∀b,V.Le b->∀c:Nat,(b.blk c (.cells #[I W (W.wrap a),I W (W.wrap (a.fdiv (2 ^ 32)))] 244 (0,0)))->Acts prog 166 #[S (some ⟨c,0,none⟩) 2 2] b fun i k=>∃d e f,i=S d e f/\∀l:C->Value,(Rt k R (S d e f)))):
 Acts prog 121 #[I U a] V R:=
 fd (LF:=LF0) (RF:=[1000007]) [] [] func121 h
theorem vc_num_One (V:View) (R:VR) (h:(∀a,V.Le a->∀b:Nat,(a.blk b (.cells #[I W 1] 244 (0,0)))->R (S (some ⟨b,0,none⟩) 1 1) a)):
 Acts prog 135 #[] V R:=
 fd (LF:=LF0) (RF:=[1000007]) [] [] func135 h
theorem vc_num_sign (a:Int) (V:View) (R:VR) (h:(((decide (a > (0:Int)))=true->(Rt V R (I J 1)))/\((decide (a > (0:Int)))=false->(((decide (a < (0:Int)))=true->(Rt V R (I J (-1))))/\((decide (a < (0:Int)))=false->(Rt V R (I J 0))))))):
 Acts prog 179 #[I J a] V R:=
 fd (LF:=LF0) (RF:=[1000007]) [] [] func179 h
theorem vc_num_Cmp (f:OA) (d i:Nat) (g:OA) (e k:Nat) (V:View) (R:VR) (h:((((d:Int) != (e:Int))=true->(Ca V 179 #[I J (J.wrap ((d:Int) - (e:Int)))] fun a4 a5=>∃r,a4=I J r/\(Rt a5 R (I J r))))/\(((d:Int) != (e:Int))=false->(∃(l:Int->VP) (t:Int->Nat),(∃u:Int,(s6 f d i g e k (((J.wrap ((d:Int)-1))=u)))/\l u V)/\∀(a:Int) (b:View),V.Le b->l a b->(true=true/\(((decide (a ≥ (0:Int)))=true->(f.isSome=true)/\(0<=a/\a < (d:Int))/\(∃m,(∃w,addrAdd f (a.toNat * 1)=some w/\b.at w (I W m))/\(g.isSome=true)/\(0<=a/\a < (e:Int))/\(∃n,(∃x,addrAdd g (a.toNat * 1)=some x/\b.at x (I W n))/\(((decide (m > n))=true->(Rt b R (I J 1)))/\((decide (m > n))=false->(f.isSome=true)/\(0<=a/\a < (d:Int))/\(∃o,(∃z,addrAdd f (a.toNat * 1)=some z/\b.at z (I W o))/\(g.isSome=true)/\(0<=a/\a < (e:Int))/\(∃p,(∃a0,addrAdd g (a.toNat * 1)=some a0/\b.at a0 (I W p))/\(((decide (o < p))=true->(Rt b R (I J (-1))))/\((decide (o < p))=false->(∃q:Int,t q < t a/\(s6 f d i g e k (((J.wrap (a - (1:Int)))=q)))/\l q b))))))))))/\((decide (a ≥ (0:Int)))=false->(Rt b R (I J 0))))))))):
 Acts prog 134 #[S f d i,S g e k] V R:=
 fd (LF:=LF0) (RF:=[1000007]) [(4,⟨Int,false,[0,1],[],fun a3=>[(5,.c (.v (I J a3)))],fun a3=>[]⟩)] [] func134 h
theorem vc_num_Sum (f:OA) (a i:Nat) (g:OA) (b k:Nat) (V:View) (R:VR) (h:(0<=J.wrap ((maxI (a:Int) (b:Int))+1))/\(J.wrap ((maxI (a:Int) (b:Int))+1)<=J.wrap ((maxI (a:Int) (b:Int))+1))/\((4:Int) * (J.wrap ((maxI (a:Int) (b:Int))+1))<=140737488355328)/\(∃(q:(Int × Int × (List Value))->VP) (w:(Int × Int × (List Value))->Nat),(∃o,(s6 f a i g b k (((maxI (a:Int) (b:Int))=(maxI (a:Int) (b:Int)))/\sm 0/\(((J.wrap ((maxI (a:Int) (b:Int))+1)).toNat:Nat)=(J.wrap ((maxI (a:Int) (b:Int))+1)).toNat)/\(((J.wrap ((maxI (a:Int) (b:Int))+1)).toNat:Nat)=(J.wrap ((maxI (a:Int) (b:Int))+1)).toNat)/\((0:Int)=o.1)/\((0:Int)=o.2.1)/\((List.replicate ((J.wrap ((maxI (a:Int) (b:Int))+1)).toNat) (I W 0))=o.2.2)))/\q o V)/\∀(d:Int × Int × (List Value)) (l:View),V.Le l->q d l->(true=true/\(((decide (d.2.1 < (maxI (a:Int) (b:Int))))=true->(∃r:Int->VP,(((decide (d.2.1 < (a:Int)))=true->(f.isSome=true)/\(0<=d.2.1/\d.2.1 < (a:Int))/\(∃x,(∃y,addrAdd f (d.2.1.toNat * 1)=some y/\l.at y (I W x))/\(∃z:Int,(s6 f a i g b k (((maxI (a:Int) (b:Int))=(maxI (a:Int) (b:Int)))/\sm 0/\(((J.wrap ((maxI (a:Int) (b:Int))+1)).toNat:Nat)=(J.wrap ((maxI (a:Int) (b:Int))+1)).toNat)/\(((J.wrap ((maxI (a:Int) (b:Int))+1)).toNat:Nat)=(J.wrap ((maxI (a:Int) (b:Int))+1)).toNat)/\s3 d.1 d.2.1 (0:Int) ((x=z)/\sm d.2.2)))/\r z l)))/\((decide (d.2.1 < (a:Int)))=false->(∃a0:Int,(s6 f a i g b k (((maxI (a:Int) (b:Int))=(maxI (a:Int) (b:Int)))/\sm 0/\(((J.wrap ((maxI (a:Int) (b:Int))+1)).toNat:Nat)=(J.wrap ((maxI (a:Int) (b:Int))+1)).toNat)/\(((J.wrap ((maxI (a:Int) (b:Int))+1)).toNat:Nat)=(J.wrap ((maxI (a:Int) (b:Int))+1)).toNat)/\s3 d.1 d.2.1 (0:Int) (((0:Int)=a0)/\sm d.2.2)))/\r a0 l)))/\∀(p:Int) (m:View),l.Le m->r p m->(true=true/\(∃s:Int->VP,(((decide (d.2.1 < (b:Int)))=true->(g.isSome=true)/\(0<=d.2.1/\d.2.1 < (b:Int))/\(∃a1,(∃a2,addrAdd g (d.2.1.toNat * 1)=some a2/\m.at a2 (I W a1))/\(∃a3:Int,(s6 f a i g b k (((maxI (a:Int) (b:Int))=(maxI (a:Int) (b:Int)))/\sm 0/\(((J.wrap ((maxI (a:Int) (b:Int))+1)).toNat:Nat)=(J.wrap ((maxI (a:Int) (b:Int))+1)).toNat)/\(((J.wrap ((maxI (a:Int) (b:Int))+1)).toNat:Nat)=(J.wrap ((maxI (a:Int) (b:Int))+1)).toNat)/\s3 d.1 d.2.1 p ((a1=a3)/\sm d.2.2)))/\s a3 m)))/\((decide (d.2.1 < (b:Int)))=false->(∃a4:Int,(s6 f a i g b k (((maxI (a:Int) (b:Int))=(maxI (a:Int) (b:Int)))/\sm 0/\(((J.wrap ((maxI (a:Int) (b:Int))+1)).toNat:Nat)=(J.wrap ((maxI (a:Int) (b:Int))+1)).toNat)/\(((J.wrap ((maxI (a:Int) (b:Int))+1)).toNat:Nat)=(J.wrap ((maxI (a:Int) (b:Int))+1)).toNat)/\s3 d.1 d.2.1 p (((0:Int)=a4)/\sm d.2.2)))/\s a4 m)))/\∀(a5:Int) (t:View),m.Le t->s a5 t->(true=true/\(Ca t 211 #[I W p,I W a5,I W d.1] fun b3 b4=>∃a6,∃a7,b3=T #[I W a6,I W a7]/\(0<=d.2.1/\d.2.1 < (((J.wrap ((maxI (a:Int) (b:Int))+1)).toNat:Nat):Int))/\((0 + (d.2.1.toNat * 1)) + 1<=d.2.2.length)/\(∃n:Int × Int × (List Value),w n < w d/\(s6 f a i g b k (((maxI (a:Int) (b:Int))=(maxI (a:Int) (b:Int)))/\sm 0/\(((J.wrap ((maxI (a:Int) (b:Int))+1)).toNat:Nat)=(J.wrap ((maxI (a:Int) (b:Int))+1)).toNat)/\(((J.wrap ((maxI (a:Int) (b:Int))+1)).toNat:Nat)=(J.wrap ((maxI (a:Int) (b:Int))+1)).toNat)/\(a7=n.1)/\((J.wrap (d.2.1 + (1:Int)))=n.2.1)/\((d.2.2.set (0 + (d.2.1.toNat * 1)) (I W a6))=n.2.2)))/\q n b4)))))))/\((decide (d.2.1 < (maxI (a:Int) (b:Int))))=false->(0<=(maxI (a:Int) (b:Int))/\(maxI (a:Int) (b:Int)) < (((J.wrap ((maxI (a:Int) (b:Int))+1)).toNat:Nat):Int))/\((0 + (((maxI (a:Int) (b:Int)).toNat) * 1)) + 1<=d.2.2.length)/\(∀u,l.Le u->∀a8:Nat,(u.blk a8 (.cells (d.2.2.set (0 + (((maxI (a:Int) (b:Int)).toNat) * 1)) (I W d.1)).toArray 244 (0,0)))->Acts prog 166 #[S (some ⟨a8,0,none⟩) ((J.wrap ((maxI (a:Int) (b:Int))+1)).toNat) ((J.wrap ((maxI (a:Int) (b:Int))+1)).toNat)] u fun b5 b6=>∃a9 b0 b1,b5=S a9 b0 b1/\∀b7:C->Value,(Rt b6 R (S a9 b0 b1)))))))):
 Acts prog 180 #[S f a i,S g b k] V R:=
 fd (LF:=LF0) (RF:=[1000007]) [(5,⟨Int × Int × (List Value),false,[0,1,5,6],[],fun e=>[(7,.c (.v (I W e.1))),(8,.c (.v (I J e.2.1)))],fun e=>[(18,⟨.row e.2.2,244⟩)]⟩)] [(9,⟨Int,false,[0,1,5,6,7,8,10],[18],fun e=>[(9,.c (.v (I W e)))],fun e=>[]⟩),(11,⟨Int,false,[0,1,5,6,7,8,9],[18],fun e=>[(10,.c (.v (I W e)))],fun e=>[]⟩)] func180 h
theorem vc_num_Less (e:OA) (a k:Nat) (f:OA) (d l:Nat) (V:View) (R:VR) (h:(0<=(a:Int))/\((a:Int)<=(a:Int))/\((4:Int) * (a:Int)<=140737488355328)/\(∃(p:(Int × Int × (List Value))->VP) (s:(Int × Int × (List Value))->Nat),(∃n,(s7 e a k f d l 0 ((((a:Int).toNat:Nat)=(a:Int).toNat)/\(((a:Int).toNat:Nat)=(a:Int).toNat)/\sm (a:Int)/\((0:Int)=n.1)/\((0:Int)=n.2.1)/\((List.replicate ((a:Int).toNat) (I W 0))=n.2.2)))/\p n V)/\∀(b:Int × Int × (List Value)) (g:View),V.Le g->p b g->(true=true/\(((decide (b.2.1 < (a:Int)))=true->(∃q:Int->VP,(((decide (b.2.1 < (d:Int)))=true->(f.isSome=true)/\(0<=b.2.1/\b.2.1 < (d:Int))/\(∃t,(∃u,addrAdd f (b.2.1.toNat * 1)=some u/\g.at u (I W t))/\(∃w:Int,(s7 e a k f d l 0 ((((a:Int).toNat:Nat)=(a:Int).toNat)/\(((a:Int).toNat:Nat)=(a:Int).toNat)/\s4 b.1 b.2.1 (a:Int) b.2.1 ((t=w)/\sm b.2.2)))/\q w g)))/\((decide (b.2.1 < (d:Int)))=false->(∃x:Int,(s7 e a k f d l 0 ((((a:Int).toNat:Nat)=(a:Int).toNat)/\(((a:Int).toNat:Nat)=(a:Int).toNat)/\s4 b.1 b.2.1 (a:Int) b.2.1 (((0:Int)=x)/\sm b.2.2)))/\q x g)))/\∀(y:Int) (o:View),g.Le o->q y o->(true=true/\(e.isSome=true)/\(0<=b.2.1/\b.2.1 < (a:Int))/\(∃z,(∃a0,addrAdd e (b.2.1.toNat * 1)=some a0/\o.at a0 (I W z))/\(Ca o 212 #[I W z,I W y,I W b.1] fun a8 a9=>∃a1,∃a2,a8=T #[I W a1,I W a2]/\(0<=b.2.1/\b.2.1 < (((a:Int).toNat:Nat):Int))/\((0 + (b.2.1.toNat * 1)) + 1<=b.2.2.length)/\(∃m:Int × Int × (List Value),s m < s b/\(s7 e a k f d l 0 ((((a:Int).toNat:Nat)=(a:Int).toNat)/\(((a:Int).toNat:Nat)=(a:Int).toNat)/\sm (a:Int)/\(a2=m.1)/\((J.wrap (b.2.1 + (1:Int)))=m.2.1)/\((b.2.2.set (0 + (b.2.1.toNat * 1)) (I W a1))=m.2.2)))/\p m a9))))))/\((decide (b.2.1 < (a:Int)))=false->(∀r,g.Le r->∀a3:Nat,(r.blk a3 (.cells b.2.2.toArray 244 (0,0)))->Acts prog 166 #[S (some ⟨a3,0,none⟩) ((a:Int).toNat) ((a:Int).toNat)] r fun b0 b1=>∃a4 a5 a6,b0=S a4 a5 a6/\∀b2:C->Value,(Rt b1 R (S a4 a5 a6)))))))):
 Acts prog 181 #[S e a k,S f d l] V R:=
 fd (LF:=LF0) (RF:=[1000007]) [(4,⟨Int × Int × (List Value),false,[0,1,5,13],[],fun i=>[(6,.c (.v (I W i.1))),(14,.c (.v (I J i.2.1)))],fun i=>[(11,⟨.row i.2.2,244⟩)]⟩)] [(8,⟨Int,false,[0,1,5,6,7,13,14],[11],fun i=>[(8,.c (.v (I W i)))],fun i=>[]⟩)] func181 h
theorem vc_num_Product (k:OA) (b m:Nat) (i:OA) (a l:Nat) (V:View) (R:VR) (h:((((b:Int) == (1:Int))=true->((((a:Int) == (1:Int))=true->(k.isSome=true)/\(0<=(0:Int)/\(0:Int) < (b:Int))/\(∃b3,(∃b4,addrAdd k 0=some b4/\V.at b4 (I W b3))/\(i.isSome=true)/\(0<=(0:Int)/\(0:Int) < (a:Int))/\(∃b5,(∃b6,addrAdd i 0=some b6/\V.at b6 (I W b5))/\(Ca V 121 #[I U (U.wrap ((U.wrap b3) * (U.wrap b5)))] fun d9 e0=>∃b7 b8 b9,d9=S b7 b8 b9/\(Rt e0 R (S b7 b8 b9))))))/\(((a:Int) == (1:Int))=false->(0<=J.wrap ((b:Int) + (a:Int)))/\(J.wrap ((b:Int) + (a:Int))<=J.wrap ((b:Int) + (a:Int)))/\((4:Int) * (J.wrap ((b:Int) + (a:Int)))<=140737488355328)/\(∃(a1:(Int × (List Value))->VP) (c1:(Int × (List Value))->Nat),(∃a2,(s4 i a l 0 ((((J.wrap ((b:Int) + (a:Int))).toNat:Nat)=(J.wrap ((b:Int) + (a:Int))).toNat)/\(((J.wrap ((b:Int) + (a:Int))).toNat:Nat)=(J.wrap ((b:Int) + (a:Int))).toNat)/\s4 k b m (b:Int) (((0:Int)=a2.1)/\((List.replicate ((J.wrap ((b:Int) + (a:Int))).toNat) (I W 0))=a2.2))))/\a1 a2 V)/\∀(d:Int × (List Value)) (o:View),V.Le o->a1 d o->(true=true/\(((decide (d.1 < (b:Int)))=true->(k.isSome=true)/\(0<=d.1/\d.1 < (b:Int))/\(∃q,(∃c2,addrAdd k (d.1.toNat * 1)=some c2/\o.at c2 (I W q))/\(∃(a3:(Int × Int × (List Value))->VP) (c3:(Int × Int × (List Value))->Nat),(∃x,(s4 i a l 0 ((((J.wrap ((b:Int) + (a:Int))).toNat:Nat)=(J.wrap ((b:Int) + (a:Int))).toNat)/\(((J.wrap ((b:Int) + (a:Int))).toNat:Nat)=(J.wrap ((b:Int) + (a:Int))).toNat)/\s11 d.1 q k b m (b:Int) d.1 i a l (a:Int) (((0:Int)=x.1)/\((0:Int)=x.2.1)/\(d.2=x.2.2))))/\a3 x o)/\∀(f:Int × Int × (List Value)) (r:View),o.Le r->a3 f r->(true=true/\(((decide (f.2.1 < (a:Int)))=true->(i.isSome=true)/\(0<=f.2.1/\f.2.1 < (a:Int))/\(∃a4,(∃c4,addrAdd i (f.2.1.toNat * 1)=some c4/\r.at c4 (I W a4))/\(0<=(J.wrap (d.1 + f.2.1))/\(J.wrap (d.1 + f.2.1)) < (((J.wrap ((b:Int) + (a:Int))).toNat:Nat):Int))/\(∃a5,f.2.2[0 + (((J.wrap (d.1 + f.2.1)).toNat) * 1)]?=some (I W a5)/\(0<=(J.wrap (d.1 + f.2.1))/\(J.wrap (d.1 + f.2.1)) < (((J.wrap ((b:Int) + (a:Int))).toNat:Nat):Int))/\((0 + (((J.wrap (d.1 + f.2.1)).toNat) * 1)) + 1<=f.2.2.length)/\(0<=(32:Int))/\(∃s:Int × Int × (List Value),c3 s < c3 f/\(s4 i a l 0 ((((J.wrap ((b:Int) + (a:Int))).toNat:Nat)=(J.wrap ((b:Int) + (a:Int))).toNat)/\(((J.wrap ((b:Int) + (a:Int))).toNat:Nat)=(J.wrap ((b:Int) + (a:Int))).toNat)/\s11 d.1 q k b m (b:Int) d.1 i a l (a:Int) ((((U.wrap ((U.wrap ((U.wrap ((U.wrap q) * (U.wrap a4))) + (U.wrap a5))) + f.1)).fdiv (2 ^ 32))=s.1)/\((J.wrap (f.2.1 + (1:Int)))=s.2.1)/\((f.2.2.set (0 + (((J.wrap (d.1 + f.2.1)).toNat) * 1)) (I W (W.wrap (U.wrap ((U.wrap ((U.wrap ((U.wrap q) * (U.wrap a4))) + (U.wrap a5))) + f.1)))))=s.2.2))))/\a3 s r))))/\((decide (f.2.1 < (a:Int)))=false->(0<=(J.wrap (d.1 + (a:Int)))/\(J.wrap (d.1 + (a:Int))) < (((J.wrap ((b:Int) + (a:Int))).toNat:Nat):Int))/\((0 + (((J.wrap (d.1 + (a:Int))).toNat) * 1)) + 1<=f.2.2.length)/\(∃y:Int × (List Value),c1 y < c1 d/\(s4 i a l 0 ((((J.wrap ((b:Int) + (a:Int))).toNat:Nat)=(J.wrap ((b:Int) + (a:Int))).toNat)/\(((J.wrap ((b:Int) + (a:Int))).toNat:Nat)=(J.wrap ((b:Int) + (a:Int))).toNat)/\s4 k b m (b:Int) (((J.wrap (d.1 + (1:Int)))=y.1)/\((f.2.2.set (0 + (((J.wrap (d.1 + (a:Int))).toNat) * 1)) (I W (W.wrap (f.1))))=y.2))))/\a1 y r)))))))/\((decide (d.1 < (b:Int)))=false->(∀a6,o.Le a6->∀c5:Nat,(a6.blk c5 (.cells d.2.toArray 244 (0,0)))->Acts prog 166 #[S (some ⟨c5,0,none⟩) ((J.wrap ((b:Int) + (a:Int))).toNat) ((J.wrap ((b:Int) + (a:Int))).toNat)] a6 fun e1 e2=>∃c6 c7 c8,e1=S c6 c7 c8/\∀e5:C->Value,(Rt e2 R (S c6 c7 c8))))))))))/\(((b:Int) == (1:Int))=false->(0<=J.wrap ((b:Int) + (a:Int)))/\(J.wrap ((b:Int) + (a:Int))<=J.wrap ((b:Int) + (a:Int)))/\((4:Int) * (J.wrap ((b:Int) + (a:Int)))<=140737488355328)/\(∃(a7:(Int × (List Value))->VP) (d0:(Int × (List Value))->Nat),(∃a8,(s4 i a l 0 ((((J.wrap ((b:Int) + (a:Int))).toNat:Nat)=(J.wrap ((b:Int) + (a:Int))).toNat)/\(((J.wrap ((b:Int) + (a:Int))).toNat:Nat)=(J.wrap ((b:Int) + (a:Int))).toNat)/\s4 k b m (b:Int) (((0:Int)=a8.1)/\((List.replicate ((J.wrap ((b:Int) + (a:Int))).toNat) (I W 0))=a8.2))))/\a7 a8 V)/\∀(e:Int × (List Value)) (p:View),V.Le p->a7 e p->(true=true/\(((decide (e.1 < (b:Int)))=true->(k.isSome=true)/\(0<=e.1/\e.1 < (b:Int))/\(∃t,(∃d1,addrAdd k (e.1.toNat * 1)=some d1/\p.at d1 (I W t))/\(∃(a9:(Int × Int × (List Value))->VP) (d2:(Int × Int × (List Value))->Nat),(∃z,(s4 i a l 0 ((((J.wrap ((b:Int) + (a:Int))).toNat:Nat)=(J.wrap ((b:Int) + (a:Int))).toNat)/\(((J.wrap ((b:Int) + (a:Int))).toNat:Nat)=(J.wrap ((b:Int) + (a:Int))).toNat)/\s11 e.1 t k b m (b:Int) e.1 i a l (a:Int) (((0:Int)=z.1)/\((0:Int)=z.2.1)/\(e.2=z.2.2))))/\a9 z p)/\∀(g:Int × Int × (List Value)) (u:View),p.Le u->a9 g u->(true=true/\(((decide (g.2.1 < (a:Int)))=true->(i.isSome=true)/\(0<=g.2.1/\g.2.1 < (a:Int))/\(∃b0,(∃d3,addrAdd i (g.2.1.toNat * 1)=some d3/\u.at d3 (I W b0))/\(0<=(J.wrap (e.1 + g.2.1))/\(J.wrap (e.1 + g.2.1)) < (((J.wrap ((b:Int) + (a:Int))).toNat:Nat):Int))/\(∃b1,g.2.2[0 + (((J.wrap (e.1 + g.2.1)).toNat) * 1)]?=some (I W b1)/\(0<=(J.wrap (e.1 + g.2.1))/\(J.wrap (e.1 + g.2.1)) < (((J.wrap ((b:Int) + (a:Int))).toNat:Nat):Int))/\((0 + (((J.wrap (e.1 + g.2.1)).toNat) * 1)) + 1<=g.2.2.length)/\(0<=(32:Int))/\(∃w:Int × Int × (List Value),d2 w < d2 g/\(s4 i a l 0 ((((J.wrap ((b:Int) + (a:Int))).toNat:Nat)=(J.wrap ((b:Int) + (a:Int))).toNat)/\(((J.wrap ((b:Int) + (a:Int))).toNat:Nat)=(J.wrap ((b:Int) + (a:Int))).toNat)/\s11 e.1 t k b m (b:Int) e.1 i a l (a:Int) ((((U.wrap ((U.wrap ((U.wrap ((U.wrap t) * (U.wrap b0))) + (U.wrap b1))) + g.1)).fdiv (2 ^ 32))=w.1)/\((J.wrap (g.2.1 + (1:Int)))=w.2.1)/\((g.2.2.set (0 + (((J.wrap (e.1 + g.2.1)).toNat) * 1)) (I W (W.wrap (U.wrap ((U.wrap ((U.wrap ((U.wrap t) * (U.wrap b0))) + (U.wrap b1))) + g.1)))))=w.2.2))))/\a9 w u))))/\((decide (g.2.1 < (a:Int)))=false->(0<=(J.wrap (e.1 + (a:Int)))/\(J.wrap (e.1 + (a:Int))) < (((J.wrap ((b:Int) + (a:Int))).toNat:Nat):Int))/\((0 + (((J.wrap (e.1 + (a:Int))).toNat) * 1)) + 1<=g.2.2.length)/\(∃a0:Int × (List Value),d0 a0 < d0 e/\(s4 i a l 0 ((((J.wrap ((b:Int) + (a:Int))).toNat:Nat)=(J.wrap ((b:Int) + (a:Int))).toNat)/\(((J.wrap ((b:Int) + (a:Int))).toNat:Nat)=(J.wrap ((b:Int) + (a:Int))).toNat)/\s4 k b m (b:Int) (((J.wrap (e.1 + (1:Int)))=a0.1)/\((g.2.2.set (0 + (((J.wrap (e.1 + (a:Int))).toNat) * 1)) (I W (W.wrap (g.1))))=a0.2))))/\a7 a0 u)))))))/\((decide (e.1 < (b:Int)))=false->(∀b2,p.Le b2->∀d4:Nat,(b2.blk d4 (.cells e.2.toArray 244 (0,0)))->Acts prog 166 #[S (some ⟨d4,0,none⟩) ((J.wrap ((b:Int) + (a:Int))).toNat) ((J.wrap ((b:Int) + (a:Int))).toNat)] b2 fun e3 e4=>∃d5 d6 d7,e3=S d5 d6 d7/\∀e6:C->Value,(Rt e4 R (S d5 d6 d7)))))))))):
 Acts prog 108 #[S k b m,S i a l] V R:=
 fd (LF:=LF0) (RF:=[1000007]) [(5,⟨Int × (List Value),false,[1,5,36,37],[],fun n=>[(38,.c (.v (I J n.1)))],fun n=>[(35,⟨.row n.2,244⟩)]⟩),(9,⟨Int × Int × (List Value),false,[1,5,6,7,36,37,38,43,44],[],fun n=>[(8,.c (.v (I U n.1))),(45,.c (.v (I J n.2.1)))],fun n=>[(35,⟨.row n.2.2,244⟩)]⟩)] [] func108 h
theorem vc_num_Left (e:OA) (d l:Nat) (a:Int) (V:View) (R:VR) (h:((32:Int)≠0)/\(0<=J.wrap ((J.wrap ((J.wrap (a.tdiv (32:Int))) + (d:Int)))+1))/\(J.wrap ((J.wrap ((J.wrap (a.tdiv (32:Int))) + (d:Int)))+1)<=J.wrap ((J.wrap ((J.wrap (a.tdiv (32:Int))) + (d:Int)))+1))/\((4:Int) * (J.wrap ((J.wrap ((J.wrap (a.tdiv (32:Int))) + (d:Int)))+1))<=140737488355328)/\((32:Int)≠0)/\(∃(m:(Int × (List Value))->VP) (q:(Int × (List Value))->Nat),(∃n,((a=a)/\sm 0/\(((J.wrap ((J.wrap ((J.wrap (a.tdiv (32:Int))) + (d:Int)))+1)).toNat:Nat)=(J.wrap ((J.wrap ((J.wrap (a.tdiv (32:Int))) + (d:Int)))+1)).toNat)/\(((J.wrap ((J.wrap ((J.wrap (a.tdiv (32:Int))) + (d:Int)))+1)).toNat:Nat)=(J.wrap ((J.wrap ((J.wrap (a.tdiv (32:Int))) + (d:Int)))+1)).toNat)/\((U.wrap (a.tmod (32:Int)))=(U.wrap (a.tmod (32:Int))))/\s4 e d l (d:Int) (((0:Int)=n.1)/\((List.replicate ((J.wrap ((J.wrap ((J.wrap (a.tdiv (32:Int))) + (d:Int)))+1)).toNat) (I W 0))=n.2)))/\m n V)/\∀(b:Int × (List Value)) (f:View),V.Le f->m b f->(true=true/\(((decide (b.1 < (d:Int)))=true->(e.isSome=true)/\(0<=b.1/\b.1 < (d:Int))/\(∃g,(∃r,addrAdd e (b.1.toNat * 1)=some r/\f.at r (I W g))/\(0<=(U.wrap (a.tmod (32:Int))))/\((32:Int)≠0)/\(0<=(J.wrap ((J.wrap (a.tdiv (32:Int))) + b.1))/\(J.wrap ((J.wrap (a.tdiv (32:Int))) + b.1)) < (((J.wrap ((J.wrap ((J.wrap (a.tdiv (32:Int))) + (d:Int)))+1)).toNat:Nat):Int))/\(∃i,b.2[0 + (((J.wrap ((J.wrap (a.tdiv (32:Int))) + b.1)).toNat) * 1)]?=some (I W i)/\(0<=(J.wrap ((J.wrap (a.tdiv (32:Int))) + b.1))/\(J.wrap ((J.wrap (a.tdiv (32:Int))) + b.1)) < (((J.wrap ((J.wrap ((J.wrap (a.tdiv (32:Int))) + (d:Int)))+1)).toNat:Nat):Int))/\((0 + (((J.wrap ((J.wrap (a.tdiv (32:Int))) + b.1)).toNat) * 1)) + 1<=b.2.length)/\((32:Int)≠0)/\(0<=(J.wrap ((J.wrap ((J.wrap (a.tdiv (32:Int))) + b.1))+1))/\(J.wrap ((J.wrap ((J.wrap (a.tdiv (32:Int))) + b.1))+1)) < (((J.wrap ((J.wrap ((J.wrap (a.tdiv (32:Int))) + (d:Int)))+1)).toNat:Nat):Int))/\(∃s,(b.2.set (0 + (((J.wrap ((J.wrap (a.tdiv (32:Int))) + b.1)).toNat) * 1)) (I W (bitI .or .u32 i (W.wrap (U.wrap ((U.wrap g) * 2 ^ (min (U.wrap (a.tmod (32:Int))).toNat IntKind.u64.bits)))))))[0 + (((J.wrap ((J.wrap ((J.wrap (a.tdiv (32:Int))) + b.1))+1)).toNat) * 1)]?=some (I W s)/\(0<=(32:Int))/\(0<=(J.wrap ((J.wrap ((J.wrap (a.tdiv (32:Int))) + b.1))+1))/\(J.wrap ((J.wrap ((J.wrap (a.tdiv (32:Int))) + b.1))+1)) < (((J.wrap ((J.wrap ((J.wrap (a.tdiv (32:Int))) + (d:Int)))+1)).toNat:Nat):Int))/\((0 + (((J.wrap ((J.wrap ((J.wrap (a.tdiv (32:Int))) + b.1))+1)).toNat) * 1)) + 1<=(b.2.set (0 + (((J.wrap ((J.wrap (a.tdiv (32:Int))) + b.1)).toNat) * 1)) (I W (bitI .or .u32 i (W.wrap (U.wrap ((U.wrap g) * 2 ^ (min (U.wrap (a.tmod (32:Int))).toNat IntKind.u64.bits))))))).length)/\(∃k:Int × (List Value),q k < q b/\((a=a)/\sm 0/\(((J.wrap ((J.wrap ((J.wrap (a.tdiv (32:Int))) + (d:Int)))+1)).toNat:Nat)=(J.wrap ((J.wrap ((J.wrap (a.tdiv (32:Int))) + (d:Int)))+1)).toNat)/\(((J.wrap ((J.wrap ((J.wrap (a.tdiv (32:Int))) + (d:Int)))+1)).toNat:Nat)=(J.wrap ((J.wrap ((J.wrap (a.tdiv (32:Int))) + (d:Int)))+1)).toNat)/\((U.wrap (a.tmod (32:Int)))=(U.wrap (a.tmod (32:Int))))/\s4 e d l (d:Int) (((J.wrap (b.1 + (1:Int)))=k.1)/\(((b.2.set (0 + (((J.wrap ((J.wrap (a.tdiv (32:Int))) + b.1)).toNat) * 1)) (I W (bitI .or .u32 i (W.wrap (U.wrap ((U.wrap g) * 2 ^ (min (U.wrap (a.tmod (32:Int))).toNat IntKind.u64.bits))))))).set (0 + (((J.wrap ((J.wrap ((J.wrap (a.tdiv (32:Int))) + b.1))+1)).toNat) * 1)) (I W (bitI .or .u32 s (W.wrap ((U.wrap ((U.wrap g) * 2 ^ (min (U.wrap (a.tmod (32:Int))).toNat IntKind.u64.bits))).fdiv (2 ^ 32))))))=k.2)))/\m k f)))))/\((decide (b.1 < (d:Int)))=false->(∀o,f.Le o->∀t:Nat,(o.blk t (.cells b.2.toArray 244 (0,0)))->Acts prog 166 #[S (some ⟨t,0,none⟩) ((J.wrap ((J.wrap ((J.wrap (a.tdiv (32:Int))) + (d:Int)))+1)).toNat) ((J.wrap ((J.wrap ((J.wrap (a.tdiv (32:Int))) + (d:Int)))+1)).toNat)] o fun z a0=>∃u w x,z=S u w x/\∀a1:C->Value,(Rt a0 R (S u w x)))))))):
 Acts prog 224 #[S e d l,I J a] V R:=
 fd (LF:=LF0) (RF:=[1000007]) [(4,⟨Int × (List Value),false,[1,5,6,20,21],[],fun p=>[(22,.c (.v (I J p.1)))],fun p=>[(16,⟨.row p.2,244⟩)]⟩)] [] func224 h
theorem vc_num_Right (f:OA) (b d:Nat) (a:Int) (V:View) (R:VR) (h:((32:Int)≠0)/\(((decide ((J.wrap (a.tdiv (32:Int))) ≥ (b:Int)))=true->(Rt V R (S none 0 0)))/\((decide ((J.wrap (a.tdiv (32:Int))) ≥ (b:Int)))=false->((32:Int)≠0)/\((32:Int)≠0)/\(0<=(J.wrap (a.tdiv (32:Int)))/\(J.wrap (a.tdiv (32:Int)))<=(b:Int))/\(0<=((b - ((J.wrap (a.tdiv (32:Int))).toNat):Nat):Int))/\(((b - ((J.wrap (a.tdiv (32:Int))).toNat):Nat):Int)<=((b - ((J.wrap (a.tdiv (32:Int))).toNat):Nat):Int))/\((4:Int) * ((b - ((J.wrap (a.tdiv (32:Int))).toNat):Nat):Int)<=140737488355328)/\(∃(l:(Int × (List Value))->VP) (s:(Int × (List Value))->Nat),(∃m,(((U.wrap (a.tmod (32:Int)))=(U.wrap (a.tmod (32:Int))))/\((slA f d ((J.wrap (a.tdiv (32:Int))).toNat) 1:OA)=(slA f d ((J.wrap (a.tdiv (32:Int))).toNat) 1))/\((b - ((J.wrap (a.tdiv (32:Int))).toNat):Nat)=(b - ((J.wrap (a.tdiv (32:Int))).toNat)))/\((d - ((J.wrap (a.tdiv (32:Int))).toNat):Nat)=(d - ((J.wrap (a.tdiv (32:Int))).toNat)))/\sm 0/\((((b - ((J.wrap (a.tdiv (32:Int))).toNat):Nat):Int).toNat:Nat)=((b - ((J.wrap (a.tdiv (32:Int))).toNat):Nat):Int).toNat)/\((((b - ((J.wrap (a.tdiv (32:Int))).toNat):Nat):Int).toNat:Nat)=((b - ((J.wrap (a.tdiv (32:Int))).toNat):Nat):Int).toNat)/\((slA f d ((J.wrap (a.tdiv (32:Int))).toNat) 1:OA)=(slA f d ((J.wrap (a.tdiv (32:Int))).toNat) 1))/\((b - ((J.wrap (a.tdiv (32:Int))).toNat):Nat)=(b - ((J.wrap (a.tdiv (32:Int))).toNat)))/\((d - ((J.wrap (a.tdiv (32:Int))).toNat):Nat)=(d - ((J.wrap (a.tdiv (32:Int))).toNat)))/\(((b - ((J.wrap (a.tdiv (32:Int))).toNat):Nat):Int)=((b - ((J.wrap (a.tdiv (32:Int))).toNat):Nat):Int))/\((0:Int)=m.1)/\((List.replicate (((b - ((J.wrap (a.tdiv (32:Int))).toNat):Nat):Int).toNat) (I W 0))=m.2))/\l m V)/\∀(e:Int × (List Value)) (g:View),V.Le g->l e g->(true=true/\(((decide (e.1 < ((b - ((J.wrap (a.tdiv (32:Int))).toNat):Nat):Int)))=true->((slA f d ((J.wrap (a.tdiv (32:Int))).toNat) 1).isSome=true)/\(0<=e.1/\e.1 < ((b - ((J.wrap (a.tdiv (32:Int))).toNat):Nat):Int))/\(∃n,(∃t,addrAdd (slA f d ((J.wrap (a.tdiv (32:Int))).toNat) 1) (e.1.toNat * 1)=some t/\g.at t (I W n))/\(∃o:Int->VP,(((decide ((J.wrap (e.1 + (1:Int))) < ((b - ((J.wrap (a.tdiv (32:Int))).toNat):Nat):Int)))=true->((slA f d ((J.wrap (a.tdiv (32:Int))).toNat) 1).isSome=true)/\(0<=(J.wrap (e.1 + (1:Int)))/\(J.wrap (e.1 + (1:Int))) < ((b - ((J.wrap (a.tdiv (32:Int))).toNat):Nat):Int))/\(∃u,(∃w,addrAdd (slA f d ((J.wrap (a.tdiv (32:Int))).toNat) 1) (((J.wrap (e.1 + (1:Int))).toNat) * 1)=some w/\g.at w (I W u))/\(0<=(32:Int))/\(∃x:Int,(((U.wrap (a.tmod (32:Int)))=(U.wrap (a.tmod (32:Int))))/\((slA f d ((J.wrap (a.tdiv (32:Int))).toNat) 1:OA)=(slA f d ((J.wrap (a.tdiv (32:Int))).toNat) 1))/\((b - ((J.wrap (a.tdiv (32:Int))).toNat):Nat)=(b - ((J.wrap (a.tdiv (32:Int))).toNat)))/\((d - ((J.wrap (a.tdiv (32:Int))).toNat):Nat)=(d - ((J.wrap (a.tdiv (32:Int))).toNat)))/\sm 0/\((((b - ((J.wrap (a.tdiv (32:Int))).toNat):Nat):Int).toNat:Nat)=((b - ((J.wrap (a.tdiv (32:Int))).toNat):Nat):Int).toNat)/\((((b - ((J.wrap (a.tdiv (32:Int))).toNat):Nat):Int).toNat:Nat)=((b - ((J.wrap (a.tdiv (32:Int))).toNat):Nat):Int).toNat)/\sm e.1/\((slA f d ((J.wrap (a.tdiv (32:Int))).toNat) 1:OA)=(slA f d ((J.wrap (a.tdiv (32:Int))).toNat) 1))/\((b - ((J.wrap (a.tdiv (32:Int))).toNat):Nat)=(b - ((J.wrap (a.tdiv (32:Int))).toNat)))/\((d - ((J.wrap (a.tdiv (32:Int))).toNat):Nat)=(d - ((J.wrap (a.tdiv (32:Int))).toNat)))/\(((b - ((J.wrap (a.tdiv (32:Int))).toNat):Nat):Int)=((b - ((J.wrap (a.tdiv (32:Int))).toNat):Nat):Int))/\sm e.1/\((bitI .or .u64 (U.wrap n) (U.wrap ((U.wrap u) * 2 ^ 32)))=x)/\sm e.2)/\o x g)))/\((decide ((J.wrap (e.1 + (1:Int))) < ((b - ((J.wrap (a.tdiv (32:Int))).toNat):Nat):Int)))=false->(∃y:Int,(((U.wrap (a.tmod (32:Int)))=(U.wrap (a.tmod (32:Int))))/\((slA f d ((J.wrap (a.tdiv (32:Int))).toNat) 1:OA)=(slA f d ((J.wrap (a.tdiv (32:Int))).toNat) 1))/\((b - ((J.wrap (a.tdiv (32:Int))).toNat):Nat)=(b - ((J.wrap (a.tdiv (32:Int))).toNat)))/\((d - ((J.wrap (a.tdiv (32:Int))).toNat):Nat)=(d - ((J.wrap (a.tdiv (32:Int))).toNat)))/\sm 0/\((((b - ((J.wrap (a.tdiv (32:Int))).toNat):Nat):Int).toNat:Nat)=((b - ((J.wrap (a.tdiv (32:Int))).toNat):Nat):Int).toNat)/\((((b - ((J.wrap (a.tdiv (32:Int))).toNat):Nat):Int).toNat:Nat)=((b - ((J.wrap (a.tdiv (32:Int))).toNat):Nat):Int).toNat)/\sm e.1/\((slA f d ((J.wrap (a.tdiv (32:Int))).toNat) 1:OA)=(slA f d ((J.wrap (a.tdiv (32:Int))).toNat) 1))/\((b - ((J.wrap (a.tdiv (32:Int))).toNat):Nat)=(b - ((J.wrap (a.tdiv (32:Int))).toNat)))/\((d - ((J.wrap (a.tdiv (32:Int))).toNat):Nat)=(d - ((J.wrap (a.tdiv (32:Int))).toNat)))/\(((b - ((J.wrap (a.tdiv (32:Int))).toNat):Nat):Int)=((b - ((J.wrap (a.tdiv (32:Int))).toNat):Nat):Int))/\sm e.1/\((U.wrap n)=y)/\sm e.2)/\o y g)))/\∀(z:Int) (p:View),g.Le p->o z p->(true=true/\(0<=(U.wrap (a.tmod (32:Int))))/\(0<=e.1/\e.1 < ((((b - ((J.wrap (a.tdiv (32:Int))).toNat):Nat):Int).toNat:Nat):Int))/\((0 + (e.1.toNat * 1)) + 1<=e.2.length)/\(∃k:Int × (List Value),s k < s e/\(((U.wrap (a.tmod (32:Int)))=(U.wrap (a.tmod (32:Int))))/\((slA f d ((J.wrap (a.tdiv (32:Int))).toNat) 1:OA)=(slA f d ((J.wrap (a.tdiv (32:Int))).toNat) 1))/\((b - ((J.wrap (a.tdiv (32:Int))).toNat):Nat)=(b - ((J.wrap (a.tdiv (32:Int))).toNat)))/\((d - ((J.wrap (a.tdiv (32:Int))).toNat):Nat)=(d - ((J.wrap (a.tdiv (32:Int))).toNat)))/\sm 0/\((((b - ((J.wrap (a.tdiv (32:Int))).toNat):Nat):Int).toNat:Nat)=((b - ((J.wrap (a.tdiv (32:Int))).toNat):Nat):Int).toNat)/\((((b - ((J.wrap (a.tdiv (32:Int))).toNat):Nat):Int).toNat:Nat)=((b - ((J.wrap (a.tdiv (32:Int))).toNat):Nat):Int).toNat)/\((slA f d ((J.wrap (a.tdiv (32:Int))).toNat) 1:OA)=(slA f d ((J.wrap (a.tdiv (32:Int))).toNat) 1))/\((b - ((J.wrap (a.tdiv (32:Int))).toNat):Nat)=(b - ((J.wrap (a.tdiv (32:Int))).toNat)))/\((d - ((J.wrap (a.tdiv (32:Int))).toNat):Nat)=(d - ((J.wrap (a.tdiv (32:Int))).toNat)))/\(((b - ((J.wrap (a.tdiv (32:Int))).toNat):Nat):Int)=((b - ((J.wrap (a.tdiv (32:Int))).toNat):Nat):Int))/\((J.wrap (e.1 + (1:Int)))=k.1)/\((e.2.set (0 + (e.1.toNat * 1)) (I W (W.wrap (z.fdiv (2 ^ (min (U.wrap (a.tmod (32:Int))).toNat IntKind.u64.bits))))))=k.2))/\l k p)))))/\((decide (e.1 < ((b - ((J.wrap (a.tdiv (32:Int))).toNat):Nat):Int)))=false->(∀q,g.Le q->∀a0:Nat,(q.blk a0 (.cells e.2.toArray 244 (0,0)))->Acts prog 166 #[S (some ⟨a0,0,none⟩) (((b - ((J.wrap (a.tdiv (32:Int))).toNat):Nat):Int).toNat) (((b - ((J.wrap (a.tdiv (32:Int))).toNat):Nat):Int).toNat)] q fun a5 a6=>∃a1 a2 a3,a5=S a1 a2 a3/\∀a7:C->Value,(Rt a6 R (S a1 a2 a3)))))))))):
 Acts prog 225 #[S f b d,I J a] V R:=
 fd (LF:=LF0) (RF:=[1000007]) [(7,⟨Int × (List Value),false,[5,6,7,26,27],[],fun i=>[(28,.c (.v (I J i.1)))],fun i=>[(25,⟨.row i.2,244⟩)]⟩)] [(11,⟨Int,false,[5,6,7,8,26,27,28],[25],fun i=>[(10,.c (.v (I U i)))],fun i=>[]⟩)] func225 h
theorem vc_num_word (b:OA) (a o:Nat) (V:View) (R:VR) (h:((((a:Int) == (0:Int))=true->(Rt V R (T #[I U 0,B true])))/\(((a:Int) == (0:Int))=false->((((a:Int) == (1:Int))=true->(b.isSome=true)/\(0<=(0:Int)/\(0:Int) < (a:Int))/\(∃d,(∃e,addrAdd b 0=some e/\V.at e (I W d))/\(Rt V R (T #[I U (U.wrap d),B true]))))/\(((a:Int) == (1:Int))=false->((((a:Int) == (2:Int))=true->(b.isSome=true)/\(0<=(1:Int)/\(1:Int) < (a:Int))/\(∃g,(∃i,addrAdd b 1=some i/\V.at i (I W g))/\(0<=(32:Int))/\(b.isSome=true)/\(0<=(0:Int)/\(0:Int) < (a:Int))/\(∃k,(∃l,addrAdd b 0=some l/\V.at l (I W k))/\(Rt V R (T #[I U (bitI .or .u64 (U.wrap ((U.wrap g) * 2 ^ 32)) (U.wrap k)),B true])))))/\(((a:Int) == (2:Int))=false->(Rt V R (T #[I U 0,B false]))))))))):
 Acts prog 178 #[S b a o] V R:=
 fd (LF:=LF0) (RF:=[1000007]) [] [] func178 h
theorem vc_num_Divide (d:OA) (a g:Nat) (f:OA) (e i:Nat) (V:View) (R:VR) (h:(Ca V 178 #[S d a g] fun d7 r=>∃s,∃t,d7=T #[I U s,B t]/\(∃u:Unit->VP,((t=true->(Ca r 178 #[S f e i] fun d8 a4=>∃m,∃w,d8=T #[I U m,B w]/\((w=true->(m≠0)/\(m≠0)/\(Ca a4 121 #[I U (U.wrap (s.tdiv m))] fun d9 e0=>∃a5 a6 a7,d9=S a5 a6 a7/\(Ca e0 121 #[I U (s.tmod m)] fun e1 e2=>∃a8 a9 b0,e1=S a8 a9 b0/\(Rt e2 R (T #[S a5 a6 a7,S a8 a9 b0])))))/\(w=false->(∃e3:Unit,(s5 d a g f e (sm i))/\u e3 a4)))))/\(t=false->(∃e4:Unit,(s5 d a g f e (sm i))/\u e4 r)))/\∀(e5:Unit) (x:View),r.Le x->u e5 x->(true=true/\(Ca x 134 #[S d a g,S f e i] fun e6 n=>∃y,e6=I J y/\(((decide (y < (0:Int)))=true->(∃o:List Value,n.sl d o/\o.length=a * 1/\((0 + a) * 4<=140737488355328/\0<=0/\0 * 1<=([]:List Value).length/\o.length=a * 1/\(∀e7 ∈ o,e7.oneCell'=true)/\∀(f6:Nat) (f7:C->Value) (b2:List Value) (z:Nat),0 + a<=z->z * 1<=(0 + a) * 1 + b2.length->(∀a0,n.Le a0->∀b3:Nat,(a0.blk b3 (.cells (([]:List Value).take (0 * 1)++o++b2).toArray 244 (0,0)))->R (T #[S none 0 0,S (some ⟨b3,0,none⟩) (0 + a) z]) a0))))/\((decide (y < (0:Int)))=false->((((e:Int) == (1:Int))=true->(0<=(a:Int))/\((a:Int)<=(a:Int))/\((4:Int) * (a:Int)<=140737488355328)/\(∃(a1:(Int × Int × (List Value))->VP) (b4:(Int × Int × (List Value))->Nat),(∃q,(s7 d a g f e i 0 ((((a:Int).toNat:Nat)=(a:Int).toNat)/\(((a:Int).toNat:Nat)=(a:Int).toNat)/\((0:Int)=q.1)/\((J.wrap ((a:Int)-1))=q.2.1)/\((List.replicate ((a:Int).toNat) (I W 0))=q.2.2)))/\a1 q n)/\∀(b:Int × Int × (List Value)) (k:View),n.Le k->a1 b k->(true=true/\(((decide (b.2.1 ≥ (0:Int)))=true->(d.isSome=true)/\(0<=b.2.1/\b.2.1 < (a:Int))/\(∃b5,(∃b6,addrAdd d (b.2.1.toNat * 1)=some b6/\k.at b6 (I W b5))/\(f.isSome=true)/\(0<=(0:Int)/\(0:Int) < (e:Int))/\(∃b7,(∃b8,addrAdd f 0=some b8/\k.at b8 (I W b7))/\(Ca k 207 #[I W b.1,I W b5,I W b7] fun e8 e9=>∃b9,∃c0,e8=T #[I W b9,I W c0]/\(0<=b.2.1/\b.2.1 < (((a:Int).toNat:Nat):Int))/\((0 + (b.2.1.toNat * 1)) + 1<=b.2.2.length)/\(∃p:Int × Int × (List Value),b4 p < b4 b/\(s7 d a g f e i 0 ((((a:Int).toNat:Nat)=(a:Int).toNat)/\(((a:Int).toNat:Nat)=(a:Int).toNat)/\(c0=p.1)/\((J.wrap (b.2.1 - (1:Int)))=p.2.1)/\((b.2.2.set (0 + (b.2.1.toNat * 1)) (I W b9))=p.2.2)))/\a1 p e9)))))/\((decide (b.2.1 ≥ (0:Int)))=false->(∀a2,k.Le a2->∀c1:Nat,(a2.blk c1 (.cells b.2.2.toArray 244 (0,0)))->Acts prog 166 #[S (some ⟨c1,0,none⟩) ((a:Int).toNat) ((a:Int).toNat)] a2 fun f0 f1=>∃c2 c3 c4,f0=S c2 c3 c4/\∀f8:C->Value,(∀a3,f1.Le a3->∀c5:Nat,(a3.blk c5 (.cells #[I W b.1] 244 (0,0)))->Acts prog 166 #[S (some ⟨c5,0,none⟩) 1 1] a3 fun f2 f3=>∃c6 c7 c8,f2=S c6 c7 c8/\∀f9:C->Value,(Rt f3 R (T #[S c2 c3 c4,S c6 c7 c8])))))))))/\(((e:Int) == (1:Int))=false->(Ca n 208 #[S d a g,S f e i] fun f4 f5=>∃d0 d1 d2,∃d3 d4 d5,f4=T #[S d0 d1 d2,S d3 d4 d5]/\(Rt f5 R (T #[S d0 d1 d2,S d3 d4 d5])))))))))))):
 Acts prog 167 #[S d a g,S f e i] V R:=
 fd (LF:=LF0) (RF:=[1000007]) [(12,⟨Int × Int × (List Value),false,[0,1,10],[],fun l=>[(11,.c (.v (I W l.1))),(12,.c (.v (I J l.2.1)))],fun l=>[(45,⟨.row l.2.2,244⟩)]⟩)] [(3,⟨Unit,false,[0,1],[],fun l=>[],fun l=>[]⟩)] func167 h
theorem vc_num_long (a5:OA) (d a6:Nat) (s:OA) (b a7:Nat) (V:View) (R:VR) (h:(s.isSome=true)/\(0<=(J.wrap ((b:Int)-1))/\(J.wrap ((b:Int)-1)) < (b:Int))/\(∃a8,(∃a9,addrAdd s (((J.wrap ((b:Int)-1)).toNat) * 1)=some a9/\V.at a9 (I W a8))/\(Ca V 219 #[I W a8] fun f8 f9=>∃k,f8=I J k/\(Ca f9 224 #[S s b a7,I J k] fun g0 g1=>∃i e l,g0=S i e l/\(Ca g1 224 #[S a5 d a6,I J k] fun g2 t=>∃b0 b1 b2,g2=S b0 b1 b2/\(i.isSome=true)/\(0<=(J.wrap ((e:Int)-1))/\(J.wrap ((e:Int)-1)) < (e:Int))/\(∃f,(∃b3,addrAdd i (((J.wrap ((e:Int)-1)).toNat) * 1)=some b3/\t.at b3 (I W f))/\(0<=J.wrap ((J.wrap ((d:Int) - (b:Int)))+1))/\(J.wrap ((J.wrap ((d:Int) - (b:Int)))+1)<=J.wrap ((J.wrap ((d:Int) - (b:Int)))+1))/\((4:Int) * (J.wrap ((J.wrap ((d:Int) - (b:Int)))+1))<=140737488355328)/\(∃(u:((OA) × Nat × Nat × Int × (List Value))->VP) (b4:((OA) × Nat × Nat × Int × (List Value))->Nat),(∃p:(OA) × Nat × Nat × Int × (List Value),(s4 k i e l (((U.wrap f)=(U.wrap f))/\sm 0/\(((J.wrap ((J.wrap ((d:Int) - (b:Int)))+1)).toNat:Nat)=(J.wrap ((J.wrap ((d:Int) - (b:Int)))+1)).toNat)/\(((J.wrap ((J.wrap ((d:Int) - (b:Int)))+1)).toNat:Nat)=(J.wrap ((J.wrap ((d:Int) - (b:Int)))+1)).toNat)/\((b0:OA)=p.1)/\((b1:Nat)=p.2.1)/\((b2:Nat)=p.2.2.1)/\((J.wrap ((((J.wrap ((J.wrap ((d:Int) - (b:Int)))+1)).toNat:Nat):Int)-1))=p.2.2.2.1)/\((List.replicate ((J.wrap ((J.wrap ((d:Int) - (b:Int)))+1)).toNat) (I W 0))=p.2.2.2.2)))/\u p t)/\∀(a:(OA) × Nat × Nat × Int × (List Value)) (m:View),t.Le m->u a m->(true=true/\(((decide (a.2.2.2.1 ≥ (0:Int)))=true->(∃w:Int->VP,(((decide ((J.wrap ((e:Int) + a.2.2.2.1)) < ((a.2.1:Nat):Int)))=true->(a.1.isSome=true)/\(0<=(J.wrap ((e:Int) + a.2.2.2.1))/\(J.wrap ((e:Int) + a.2.2.2.1)) < ((a.2.1:Nat):Int))/\(∃b5,(∃b6,addrAdd a.1 (((J.wrap ((e:Int) + a.2.2.2.1)).toNat) * 1)=some b6/\m.at b6 (I W b5))/\(0<=(32:Int))/\(a.1.isSome=true)/\(0<=(J.wrap ((J.wrap ((e:Int) + a.2.2.2.1))-1))/\(J.wrap ((J.wrap ((e:Int) + a.2.2.2.1))-1)) < ((a.2.1:Nat):Int))/\(∃b7,(∃b8,addrAdd a.1 (((J.wrap ((J.wrap ((e:Int) + a.2.2.2.1))-1)).toNat) * 1)=some b8/\m.at b8 (I W b7))/\(∃b9:Int,(s4 k i e l (((a.1:OA)=a.1)/\((a.2.1:Nat)=a.2.1)/\((a.2.2.1:Nat)=a.2.2.1)/\((U.wrap f)=(U.wrap f))/\sm 0/\(((J.wrap ((J.wrap ((d:Int) - (b:Int)))+1)).toNat:Nat)=(J.wrap ((J.wrap ((d:Int) - (b:Int)))+1)).toNat)/\(((J.wrap ((J.wrap ((d:Int) - (b:Int)))+1)).toNat:Nat)=(J.wrap ((J.wrap ((d:Int) - (b:Int)))+1)).toNat)/\sm a.2.2.2.1/\((bitI .or .u64 (U.wrap ((U.wrap b5) * 2 ^ 32)) (U.wrap b7))=b9)/\sm a.2.2.2.2))/\w b9 m))))/\((decide ((J.wrap ((e:Int) + a.2.2.2.1)) < ((a.2.1:Nat):Int)))=false->(∃x:Int->VP,(((decide ((J.wrap ((J.wrap ((e:Int) + a.2.2.2.1))-1)) < ((a.2.1:Nat):Int)))=true->(a.1.isSome=true)/\(0<=(J.wrap ((J.wrap ((e:Int) + a.2.2.2.1))-1))/\(J.wrap ((J.wrap ((e:Int) + a.2.2.2.1))-1)) < ((a.2.1:Nat):Int))/\(∃c0,(∃c1,addrAdd a.1 (((J.wrap ((J.wrap ((e:Int) + a.2.2.2.1))-1)).toNat) * 1)=some c1/\m.at c1 (I W c0))/\(∃c2:Int,(s4 k i e l (((a.1:OA)=a.1)/\((a.2.1:Nat)=a.2.1)/\((a.2.2.1:Nat)=a.2.2.1)/\((U.wrap f)=(U.wrap f))/\sm 0/\(((J.wrap ((J.wrap ((d:Int) - (b:Int)))+1)).toNat:Nat)=(J.wrap ((J.wrap ((d:Int) - (b:Int)))+1)).toNat)/\(((J.wrap ((J.wrap ((d:Int) - (b:Int)))+1)).toNat:Nat)=(J.wrap ((J.wrap ((d:Int) - (b:Int)))+1)).toNat)/\sm a.2.2.2.1/\((U.wrap c0)=c2)/\sm a.2.2.2.2))/\x c2 m)))/\((decide ((J.wrap ((J.wrap ((e:Int) + a.2.2.2.1))-1)) < ((a.2.1:Nat):Int)))=false->(∃c3:Int,(s4 k i e l (((a.1:OA)=a.1)/\((a.2.1:Nat)=a.2.1)/\((a.2.2.1:Nat)=a.2.2.1)/\((U.wrap f)=(U.wrap f))/\sm 0/\(((J.wrap ((J.wrap ((d:Int) - (b:Int)))+1)).toNat:Nat)=(J.wrap ((J.wrap ((d:Int) - (b:Int)))+1)).toNat)/\(((J.wrap ((J.wrap ((d:Int) - (b:Int)))+1)).toNat:Nat)=(J.wrap ((J.wrap ((d:Int) - (b:Int)))+1)).toNat)/\sm a.2.2.2.1/\((0:Int)=c3)/\sm a.2.2.2.2))/\x c3 m)))/\∀(c4:Int) (y:View),m.Le y->x c4 y->(true=true/\(∃c5:Int,(s4 k i e l (((a.1:OA)=a.1)/\((a.2.1:Nat)=a.2.1)/\((a.2.2.1:Nat)=a.2.2.1)/\((U.wrap f)=(U.wrap f))/\sm 0/\(((J.wrap ((J.wrap ((d:Int) - (b:Int)))+1)).toNat:Nat)=(J.wrap ((J.wrap ((d:Int) - (b:Int)))+1)).toNat)/\(((J.wrap ((J.wrap ((d:Int) - (b:Int)))+1)).toNat:Nat)=(J.wrap ((J.wrap ((d:Int) - (b:Int)))+1)).toNat)/\sm a.2.2.2.1/\(c4=c5)/\sm a.2.2.2.2))/\w c5 y)))))/\∀(z:Int) (a0:View),m.Le a0->w z a0->(true=true/\((U.wrap f)≠0)/\(Ca a0 121 #[I U (minI (U.wrap (z.tdiv (U.wrap f))) (4294967295))] fun g3 g4=>∃c6 c7 c8,g3=S c6 c7 c8/\(Ca g4 108 #[S i e l,S c6 c7 c8] fun g5 g6=>∃c9 d0 d1,g5=S c9 d0 d1/\(Ca g6 224 #[S c9 d0 d1,I J (J.wrap ((32:Int) * a.2.2.2.1))] fun g7 d2=>∃d3 d4 d5,g7=S d3 d4 d5/\(∃(a1:(Int × (OA) × Nat × Nat)->VP) (d6:(Int × (OA) × Nat × Nat)->Nat),(∃r,(s4 k i e l (((a.1:OA)=a.1)/\((a.2.1:Nat)=a.2.1)/\((a.2.2.1:Nat)=a.2.2.1)/\((U.wrap f)=(U.wrap f))/\sm 0/\(((J.wrap ((J.wrap ((d:Int) - (b:Int)))+1)).toNat:Nat)=(J.wrap ((J.wrap ((d:Int) - (b:Int)))+1)).toNat)/\(((J.wrap ((J.wrap ((d:Int) - (b:Int)))+1)).toNat:Nat)=(J.wrap ((J.wrap ((d:Int) - (b:Int)))+1)).toNat)/\sm a.2.2.2.1/\((minI (U.wrap (z.tdiv (U.wrap f))) (4294967295))=r.1)/\((d3:OA)=r.2.1)/\((d4:Nat)=r.2.2.1)/\((d5:Nat)=r.2.2.2)/\sm a.2.2.2.2))/\a1 r d2)/\∀(n:Int × (OA) × Nat × Nat) (a2:View),d2.Le a2->a1 n a2->(true=true/\(Ca a2 134 #[S n.2.1 n.2.2.1 n.2.2.2,S a.1 a.2.1 a.2.2.1] fun g8 d7=>∃a3,g8=I J a3/\(((decide (a3 > (0:Int)))=true->(Ca d7 121 #[I U (U.wrap (n.1 - (1:Int)))] fun g9 i0=>∃d8 d9 e0,g9=S d8 d9 e0/\(Ca i0 108 #[S i e l,S d8 d9 e0] fun i1 i2=>∃e1 e2 e3,i1=S e1 e2 e3/\(Ca i2 224 #[S e1 e2 e3,I J (J.wrap ((32:Int) * a.2.2.2.1))] fun i3 i4=>∃e4 e5 e6,i3=S e4 e5 e6/\(∃q:Int × (OA) × Nat × Nat,d6 q < d6 n/\(s4 k i e l (((a.1:OA)=a.1)/\((a.2.1:Nat)=a.2.1)/\((a.2.2.1:Nat)=a.2.2.1)/\((U.wrap f)=(U.wrap f))/\sm 0/\(((J.wrap ((J.wrap ((d:Int) - (b:Int)))+1)).toNat:Nat)=(J.wrap ((J.wrap ((d:Int) - (b:Int)))+1)).toNat)/\(((J.wrap ((J.wrap ((d:Int) - (b:Int)))+1)).toNat:Nat)=(J.wrap ((J.wrap ((d:Int) - (b:Int)))+1)).toNat)/\sm a.2.2.2.1/\((U.wrap (n.1 - (1:Int)))=q.1)/\((e4:OA)=q.2.1)/\((e5:Nat)=q.2.2.1)/\((e6:Nat)=q.2.2.2)/\sm a.2.2.2.2))/\a1 q i4)))))/\((decide (a3 > (0:Int)))=false->(0<=a.2.2.2.1/\a.2.2.2.1 < (((J.wrap ((J.wrap ((d:Int) - (b:Int)))+1)).toNat:Nat):Int))/\((0 + (a.2.2.2.1.toNat * 1)) + 1<=a.2.2.2.2.length)/\(Ca d7 181 #[S a.1 a.2.1 a.2.2.1,S n.2.1 n.2.2.1 n.2.2.2] fun i5 i6=>∃e7 e8 e9,i5=S e7 e8 e9/\(∃o:(OA) × Nat × Nat × Int × (List Value),b4 o < b4 a/\(s4 k i e l (((U.wrap f)=(U.wrap f))/\sm 0/\(((J.wrap ((J.wrap ((d:Int) - (b:Int)))+1)).toNat:Nat)=(J.wrap ((J.wrap ((d:Int) - (b:Int)))+1)).toNat)/\(((J.wrap ((J.wrap ((d:Int) - (b:Int)))+1)).toNat:Nat)=(J.wrap ((J.wrap ((d:Int) - (b:Int)))+1)).toNat)/\((e7:OA)=o.1)/\((e8:Nat)=o.2.1)/\((e9:Nat)=o.2.2.1)/\((J.wrap (a.2.2.2.1 - (1:Int)))=o.2.2.2.1)/\((a.2.2.2.2.set (0 + (a.2.2.2.1.toNat * 1)) (I W (W.wrap (n.1))))=o.2.2.2.2)))/\u o i6)))))))))))))/\((decide (a.2.2.2.1 ≥ (0:Int)))=false->(∀a4,m.Le a4->∀f0:Nat,(a4.blk f0 (.cells a.2.2.2.2.toArray 244 (0,0)))->Acts prog 166 #[S (some ⟨f0,0,none⟩) ((J.wrap ((J.wrap ((d:Int) - (b:Int)))+1)).toNat) ((J.wrap ((J.wrap ((d:Int) - (b:Int)))+1)).toNat)] a4 fun i7 i8=>∃f1 f2 f3,i7=S f1 f2 f3/\∀k1:C->Value,(Ca i8 225 #[S a.1 a.2.1 a.2.2.1,I J k] fun i9 k0=>∃f4 f5 f6,i9=S f4 f5 f6/\(Rt k0 R (T #[S f1 f2 f3,S f4 f5 f6])))))))))))))):
 Acts prog 208 #[S a5 d a6,S s b a7] V R:=
 fd (LF:=LF0) (RF:=[1000007]) [(6,⟨(OA) × Nat × Nat × Int × (List Value),false,[6,7,9,10],[],fun g=>[(8,.c (.v (S g.1 g.2.1 g.2.2.1))),(11,.c (.v (I J g.2.2.2.1)))],fun g=>[(42,⟨.row g.2.2.2.2,244⟩)]⟩),(16,⟨Int × (OA) × Nat × Nat,false,[6,7,8,9,10,11],[42],fun g=>[(14,.c (.v (I U g.1))),(15,.c (.v (S g.2.1 g.2.2.1 g.2.2.2)))],fun g=>[]⟩)] [(11,⟨Int,false,[6,7,8,9,10,11],[42],fun g=>[(12,.c (.v (I U g)))],fun g=>[]⟩),(13,⟨Int,false,[6,7,8,9,10,11],[42],fun g=>[(12,.c (.v (I U g)))],fun g=>[]⟩)] func208 h
theorem vc_num_Common (g:OA) (i k:Nat) (l:OA) (m n:Nat) (V:View) (R:VR) (h:(Ca V 178 #[S g i k] fun b8 t=>∃a4,∃u,b8=T #[I U a4,B u]/\(∃w:Unit->VP,((u=true->(Ca t 178 #[S l m n] fun b9 x=>∃a5,∃y,b9=T #[I U a5,B y]/\((y=true->(∃(z:(Int × Int)->VP) (a6:(Int × Int)->Nat),(∃a0,((a4=a0.1)/\(a5=a0.2))/\z a0 x)/\∀(d:Int × Int) (q:View),x.Le q->z d q->(true=true/\(((decide (d.2 > (0:Int)))=true->(d.2≠0)/\(∃r:Int × Int,a6 r < a6 d/\((d.2=r.1)/\((d.1.tmod d.2)=r.2))/\z r q))/\((decide (d.2 > (0:Int)))=false->(Ca q 121 #[I U d.1] fun c0 c1=>∃a7 a8 a9,c0=S a7 a8 a9/\(Rt c1 R (S a7 a8 a9))))))))/\(y=false->(∃c2:Unit,(s5 g i k l m (sm n))/\w c2 x)))))/\(u=false->(∃c3:Unit,(s5 g i k l m (sm n))/\w c3 t)))/\∀(c4:Unit) (s:View),t.Le s->w c4 s->(true=true/\(∃a1:((OA) × Nat × Nat × (OA) × Nat × Nat)->Nat->VP,(∃(e:(OA) × Nat × Nat × (OA) × Nat × Nat) (c5:Nat),(((g:OA)=e.1)/\((i:Nat)=e.2.1)/\((k:Nat)=e.2.2.1)/\((l:OA)=e.2.2.2.1)/\((m:Nat)=e.2.2.2.2.1)/\((n:Nat)=e.2.2.2.2.2))/\a1 e c5 s)/\∀(a:(OA) × Nat × Nat × (OA) × Nat × Nat) (b1:Nat) (o:View),s.Le o->a1 a b1 o->(true=true/\(((decide (((a.2.2.2.2.1:Nat):Int) > (0:Int)))=true->(Ca o 167 #[S a.1 a.2.1 a.2.2.1,S a.2.2.2.1 a.2.2.2.2.1 a.2.2.2.2.2] fun c6 c7=>∃c8 c9 d0,∃b2 b3 b4,c6=T #[S c8 c9 d0,S b2 b3 b4]/\(∃(f:(OA) × Nat × Nat × (OA) × Nat × Nat) (b5:Nat),b5 < b1/\(((a.2.2.2.1:OA)=f.1)/\((a.2.2.2.2.1:Nat)=f.2.1)/\((a.2.2.2.2.2:Nat)=f.2.2.1)/\((b2:OA)=f.2.2.2.1)/\((b3:Nat)=f.2.2.2.2.1)/\((b4:Nat)=f.2.2.2.2.2))/\a1 f b5 c7)))/\((decide (((a.2.2.2.2.1:Nat):Int) > (0:Int)))=false->(∃p:List Value,o.sl a.1 p/\p.length=a.2.1 * 1/\((0 + a.2.1) * 4<=140737488355328/\0<=0/\0 * 1<=([]:List Value).length/\p.length=a.2.1 * 1/\(∀d1 ∈ p,d1.oneCell'=true)/\∀(d2:Nat) (d3:C->Value) (b6:List Value) (a2:Nat),0 + a.2.1<=a2->a2 * 1<=(0 + a.2.1) * 1 + b6.length->(∀a3,o.Le a3->∀b7:Nat,(a3.blk b7 (.cells (([]:List Value).take (0 * 1)++p++b6).toArray 244 (0,0)))->R (S (some ⟨b7,0,none⟩) (0 + a.2.1) a2) a3))))))))))):
 Acts prog 133 #[S g i k,S l m n] V R:=
 fd (LF:=LF0) (RF:=[1000007]) [(5,⟨Int × Int,false,[],[],fun b=>[(5,.c (.v (I U b.1))),(7,.c (.v (I U b.2)))],fun b=>[]⟩),(8,⟨(OA) × Nat × Nat × (OA) × Nat × Nat,true,[],[],fun b=>[(0,.c (.v (S b.1 b.2.1 b.2.2.1))),(1,.c (.v (S b.2.2.2.1 b.2.2.2.2.1 b.2.2.2.2.2)))],fun b=>[]⟩)] [(3,⟨Unit,false,[0,1],[],fun b=>[],fun b=>[]⟩)] func133 h
end Go.Proofs.Tryz
