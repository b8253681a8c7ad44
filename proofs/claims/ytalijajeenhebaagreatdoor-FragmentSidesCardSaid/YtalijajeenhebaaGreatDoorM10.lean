/- A part of the proof (joined by program from: FracD, FracE, VNum). -/
import Derived.Test.YtalijajeenhebaaGreatDoorM9
import Derived.Test.YtalijajeenhebaaGreatDoorM5
set_option linter.unusedVariables false
open Go.IntKind (i64 u64 u32)
/- Contracts of package frac: Sub, Cmp, Equal, Gcd. -/
namespace Go.Big
/-- The order of two numbers. -/
def cmpQ (x y:Rat):Int:=(x - y).num.sign
/-- The greatest number of which both are integer multiples. -/
def gcdQ (x y:Rat):Rat:=mkRat (Nat.gcd (x.num.natAbs * y.den) (y.num.natAbs * x.den):Nat) (x.den * y.den)
theorem num_neg' {q:Rat}:q.num < 0↔q < 0:=by
 have:=@Rat.num_nonneg q
 rw [← Rat.not_le,← this]; omega
theorem num_pos' {q:Rat}:0 < q.num↔0 < q:=by
 have h1:=@Rat.num_nonneg q
 have h2:=@Rat.num_eq_zero q
 rw [Rat.lt_iff_le_and_ne,← h1]
 constructor
 ·intro h; exact ⟨by omega,fun e=>by rw [← e] at h; simp at h⟩
 ·rintro ⟨h,hne⟩
  have:q.num≠0:=fun e=>hne (h2.1 e).symm
  omega
theorem cmpQ_lt {x y:Rat}:x < y↔cmpQ x y=-1:=by
 unfold cmpQ
 rw [Int.sign_eq_neg_one_iff_neg,num_neg',Rat.lt_iff_sub_pos x y,← Rat.neg_sub y x]
 constructor
 ·intro h; have:=Rat.neg_lt_neg h; simpa using this
 ·intro h; have:=Rat.neg_lt_neg h; rw [Rat.neg_neg] at this; simpa using this
theorem cmpQ_gt {x y:Rat}:y < x↔cmpQ x y=1:=by
 unfold cmpQ
 rw [Int.sign_eq_one_iff_pos,num_pos',Rat.lt_iff_sub_pos y x]
theorem cmpQ_eq {x y:Rat}:x=y↔cmpQ x y=0:=by
 unfold cmpQ
 rw [Int.sign_eq_zero_iff_zero,Rat.num_eq_zero]
 constructor
 ·intro h; subst h; exact Rat.sub_self
 ·intro h
  have:=congrArg (· + y) h
  simpa [Rat.sub_add_cancel,Rat.zero_add] using this
end Go.Big
namespace Go.Proofs.Tryz
open Go.Eng Go.Big
theorem c_R_Sub {V:View} {v w:Value} {x y:Rat} (hx:RR V v x) (hy:RR V w y) {k m:Nat} (hk:Sz k x) (hm:Sz m y) (hkm:k + m < 1099511627776) :
  Acts prog 186 #[v,w] V fun r V'=>RR V' r (x - y):=by
 obtain ⟨r0,r1,r2,rfl⟩:=hx.shape
 obtain ⟨s0,s1,s2,rfl⟩:=hy.shape
 refine vc_frac_R_Sub _ _ _ _ _ _ V _ fun V1 l1=>(c_R_Neg (hy.le l1) hm (by omega)).mono ?_
 rintro r V2 l2 h2
 obtain ⟨n,d,p,rfl⟩:=h2.shape
 refine ⟨_,_,_,rfl,fun V3 l3=>(c_R_Add (hx.le (l1.trans (l2.trans l3))) (h2.le l3) hk hm.neg hkm).mono ?_⟩
 rintro r V4 l4 h4
 rw [← Rat.sub_eq_add_neg] at h4
 obtain ⟨n,d,p,rfl⟩:=h4.shape
 exact ⟨_,_,_,rfl,fun V5 l5=>h4.le l5⟩
theorem c_R_Cmp {V:View} {v w:Value} {x y:Rat} (hx:RR V v x) (hy:RR V w y) {k m:Nat} (hk:Sz k x) (hm:Sz m y) (hkm:k + m < 1099511627776) :
  Acts prog 175 #[v,w] V fun r V'=>r=.int .i64 (cmpQ x y):=by
 obtain ⟨r0,r1,r2,rfl⟩:=hx.shape
 obtain ⟨s0,s1,s2,rfl⟩:=hy.shape
 have gen:∀V14:View,V.Le V14->Acts prog 186 #[.agg #[.int .i64 r0,.int .i64 r1,.pointer r2],.agg #[.int .i64 s0,.int .i64 s1,.pointer s2]] V14 fun r14_ V15=>∃x9_:Int,∃x10_:Int,∃p11_:OA,r14_=.agg #[.int .i64 x9_,.int .i64 x10_,.pointer p11_]/\(∀V16:View,V15.Le V16->Acts prog 174 #[.agg #[.int .i64 x9_,.int .i64 x10_,.pointer p11_]] V16 fun r16_ V17=>∃x12_:Int,r16_=.int .i64 x12_/\(∀V18:View,V17.Le V18->Value.int .i64 x12_=.int .i64 (cmpQ x y))):=by
  intro V1 l1
  refine (c_R_Sub (hx.le l1) (hy.le l1) hk hm hkm).mono ?_
  rintro r V2 l2 h2
  obtain ⟨n,d,p,rfl⟩:=h2.shape
  refine ⟨_,_,_,rfl,fun V3 l3=>(c_R_Sign (h2.le l3) (hk.sub hm) (by omega)).mono ?_⟩
  rintro r V4 l4 rfl
  exact ⟨_,rfl,fun _ _=>rfl⟩
 rcases hx with ⟨ex,wx⟩ | ⟨a,b,p,n,c,p',n',c',ex,-,-,-,-,-,wx⟩
 ·rcases hy with ⟨ey,wy⟩ | ⟨a,b,p,n,c,p',n',c',ey,-,-,-,-,-,wy⟩
  ·simp only [Value.agg.injEq,Array.mk.injEq,List.cons.injEq,Value.int.injEq,Value.pointer.injEq,true_and,and_true] at ex ey
   obtain ⟨rfl,rfl,rfl⟩:=ex
   obtain ⟨rfl,rfl,rfl⟩:=ey
   have hlt:x.den=y.den->((x < y↔x.num < y.num)/\(y < x↔y.num < x.num)/\(x=y↔x.num=y.num)):=by
    intro e
    have hd:(0:Int) < y.den:=by have:=y.den_nz; omega
    refine ⟨?_,?_,fun h=>by rw [h],fun h=>Rat.ext h e⟩
    ·rw [Rat.lt_iff,e]; exact ⟨fun h=>Int.lt_of_mul_lt_mul_right h (by omega),fun h=>Int.mul_lt_mul_of_pos_right h hd⟩
    ·rw [Rat.lt_iff,e]; exact ⟨fun h=>Int.lt_of_mul_lt_mul_right h (by omega),fun h=>Int.mul_lt_mul_of_pos_right h hd⟩
   refine vc_frac_R_Cmp _ _ _ _ _ _ V _ ⟨fun _=>⟨fun _=>⟨fun h1=>?_,fun _=>gen⟩,(fun h=>nomatch h)⟩,(fun h=>nomatch h)⟩
   have h1:x.den=y.den:=by rw [beq_iff_eq] at h1; omega
   obtain ⟨g1,g2,g3⟩:=hlt h1
   refine ⟨fun h V1 l1=>?_,fun h=>⟨fun h' V1 l1=>?_,fun h' V1 l1=>?_⟩⟩
   ·rw [cmpQ_lt.1 (g1.2 (by simpa using h))]
   ·rw [cmpQ_gt.1 (g2.2 (by simpa using h'))]
   ·rw [cmpQ_eq.1 (g3.2 (by rw [decide_eq_false_iff_not] at h h'; omega))]
  ·simp only [Value.agg.injEq,Array.mk.injEq,List.cons.injEq,Value.int.injEq,Value.pointer.injEq,true_and,and_true] at ex ey
   obtain ⟨rfl,rfl,rfl⟩:=ex
   obtain ⟨rfl,rfl,rfl⟩:=ey
   exact vc_frac_R_Cmp _ _ _ _ _ _ V _ ⟨fun _=>⟨(fun h=>nomatch h),fun _=>gen⟩,(fun h=>nomatch h)⟩
 ·simp only [Value.agg.injEq,Array.mk.injEq,List.cons.injEq,Value.int.injEq,Value.pointer.injEq,true_and,and_true] at ex
  obtain ⟨rfl,rfl,rfl⟩:=ex
  exact vc_frac_R_Cmp _ _ _ _ _ _ V _ ⟨(fun h=>nomatch h),fun _=>gen⟩
theorem c_R_Equal {V:View} {v w:Value} {x y:Rat} (hx:RR V v x) (hy:RR V w y) {k m:Nat} (hk:Sz k x) (hm:Sz m y) (hkm:k + m < 1099511627776) :
  Acts prog 143 #[v,w] V fun r V'=>r=.bool (decide (x=y)):=by
 obtain ⟨r0,r1,r2,rfl⟩:=hx.shape
 obtain ⟨s0,s1,s2,rfl⟩:=hy.shape
 refine vc_frac_R_Equal _ _ _ _ _ _ V _ fun V1 l1=>(c_R_Cmp (hx.le l1) (hy.le l1) hk hm hkm).mono ?_
 rintro r V2 l2 rfl
 refine ⟨_,rfl,fun V3 l3=>?_⟩
 congr 1
 rw [Bool.eq_iff_iff,beq_iff_eq,decide_eq_true_eq,cmpQ_eq]
theorem gcd_bits {x y:Rat} {k m:Nat} (hx:Sz k x) (hy:Sz m y):x.num.natAbs * y.den < 2 ^ (k + m)/\y.num.natAbs * x.den < 2 ^ (k + m)/\Nat.gcd (x.num.natAbs * y.den) (y.num.natAbs * x.den) < 2 ^ (k + m)/\x.den * y.den < 2 ^ (k + m):=by
 have h1:x.num.natAbs * y.den < 2 ^ (k + m):=pow_mul_lt hx.1 hy.2
 have h2:y.num.natAbs * x.den < 2 ^ (k + m):=by rw [Nat.add_comm]; exact pow_mul_lt hy.1 hx.2
 refine ⟨h1,h2,?_,pow_mul_lt hx.2 hy.2⟩
 rcases Nat.eq_zero_or_pos (x.num.natAbs * y.den) with e | e
 ·rw [e,Nat.gcd_zero_left]; exact h2
 ·exact Nat.lt_of_le_of_lt (Nat.le_of_dvd e (Nat.gcd_dvd_left _ _)) h1
theorem Sz_gcdQ {x y:Rat} {k m:Nat} (hx:Sz k x) (hy:Sz m y):Sz (k + m + 1) (gcdQ x y):=by
 obtain ⟨-,-,h3,h4⟩:=gcd_bits hx hy
 have h5:2 ^ (k + m)<=2 ^ (k + m + 1):=Nat.pow_le_pow_right (by omega) (by omega)
 exact Go.Eng.Sz.mkRat (by rw [Int.natAbs_natCast]; omega) (by omega) (by omega)
theorem c_frac_Gcd {V:View} {v w:Value} {x y:Rat} (hx:RR V v x) (hy:RR V w y) {k m:Nat} (hk:Sz k x) (hm:Sz m y) (hkm:k + m < 1099511627776) :
  Acts prog 154 #[v,w] V fun r V'=>RR V' r (gcdQ x y):=by
 obtain ⟨r0,r1,r2,rfl⟩:=hx.shape
 obtain ⟨s0,s1,s2,rfl⟩:=hy.shape
 obtain ⟨b1,b2,b3,b4⟩:=gcd_bits hk hm
 have q1:=digs_len_bits hk.1
 have q2:=digs_len_bits hk.2
 have q3:=digs_len_bits hm.1
 have q4:=digs_len_bits hm.2
 have q5:=digs_len_bits b1
 have q6:=digs_len_bits b2
 have q7:=digs_len_bits b3
 have q8:=digs_len_bits b4
 have gen:(∀V78:View,V.Le V78->Acts prog 187 #[.agg #[.int .i64 r0,.int .i64 r1,.pointer r2]] V78 fun r78_ V79=>∃(p52_:OA) (n52_ c52_:Nat),r78_=.slice p52_ n52_ c52_/\(∀V80:View,V79.Le V80->Acts prog 187 #[.agg #[.int .i64 s0,.int .i64 s1,.pointer s2]] V80 fun r80_ V81=>∃(p53_:OA) (n53_ c53_:Nat),r80_=.slice p53_ n53_ c53_/\(∀V82:View,V81.Le V82->Acts prog 194 #[.slice p52_ n52_ c52_,.slice p53_ n53_ c53_] V82 fun r82_ V83=>∃(p54_:OA) (n54_ c54_:Nat),r82_=.slice p54_ n54_ c54_/\(∀V84:View,V83.Le V84->Acts prog 165 #[.agg #[.int .i64 r0,.int .i64 r1,.pointer r2]] V84 fun r84_ V85=>∃b55_:Bool,∃(p56_:OA) (n56_ c56_:Nat),r84_=.agg #[.bool b55_,.slice p56_ n56_ c56_]/\(∀V86:View,V85.Le V86->Acts prog 187 #[.agg #[.int .i64 s0,.int .i64 s1,.pointer s2]] V86 fun r86_ V87=>∃(p57_:OA) (n57_ c57_:Nat),r86_=.slice p57_ n57_ c57_/\(∀V88:View,V87.Le V88->Acts prog 194 #[.slice p56_ n56_ c56_,.slice p57_ n57_ c57_] V88 fun r88_ V89=>∃(p58_:OA) (n58_ c58_:Nat),r88_=.slice p58_ n58_ c58_/\(∀V90:View,V89.Le V90->Acts prog 165 #[.agg #[.int .i64 s0,.int .i64 s1,.pointer s2]] V90 fun r90_ V91=>∃b59_:Bool,∃(p60_:OA) (n60_ c60_:Nat),r90_=.agg #[.bool b59_,.slice p60_ n60_ c60_]/\(∀V92:View,V91.Le V92->Acts prog 187 #[.agg #[.int .i64 r0,.int .i64 r1,.pointer r2]] V92 fun r92_ V93=>∃(p61_:OA) (n61_ c61_:Nat),r92_=.slice p61_ n61_ c61_/\(∀V94:View,V93.Le V94->Acts prog 194 #[.slice p60_ n60_ c60_,.slice p61_ n61_ c61_] V94 fun r94_ V95=>∃(p62_:OA) (n62_ c62_:Nat),r94_=.slice p62_ n62_ c62_/\(∀V96:View,V95.Le V96->Acts prog 195 #[.slice p58_ n58_ c58_,.slice p62_ n62_ c62_] V96 fun r96_ V97=>∃(p63_:OA) (n63_ c63_:Nat),r96_=.slice p63_ n63_ c63_/\(∀V98:View,V97.Le V98->Acts prog 164 #[.agg #[.bool false,.slice p63_ n63_ c63_],.slice p54_ n54_ c54_] V98 fun r98_ V99=>∃x64_:Int,∃x65_:Int,∃p66_:OA,r98_=.agg #[.int .i64 x64_,.int .i64 x65_,.pointer p66_]/\(∀V100:View,V99.Le V100->RR V100 (.agg #[.int .i64 x64_,.int .i64 x65_,.pointer p66_]) (gcdQ x y))))))))))))):=by
  intro V1 l1
  refine (c_R_Den (hx.le l1) hk (by omega)).mono ?_
  rintro r V2 l2 ⟨p1,n1,c1,rfl,g1⟩
  refine ⟨_,_,_,rfl,fun V3 l3=>(c_R_Den (hy.le (l1.trans (l2.trans l3))) hm (by omega)).mono ?_⟩
  rintro r V4 l4 ⟨p2,n2,c2,rfl,g2⟩
  refine ⟨_,_,_,rfl,fun V5 l5=>(c_nat_Mul (g1.le (l3.trans (l4.trans l5))) (g2.le l5) (by omega)).mono ?_⟩
  rintro r V6 l6 ⟨p3,n3,c3,rfl,g3⟩
  rw [val_digs,val_digs] at g3
  have L6:=l1.trans (l2.trans (l3.trans (l4.trans (l5.trans l6))))
  refine ⟨_,_,_,rfl,fun V7 l7=>(c_R_Num (hx.le (L6.trans l7)) hk (by omega)).mono ?_⟩
  rintro r V8 l8 ⟨p4,n4,c4,rfl,g4⟩
  refine ⟨_,_,_,_,rfl,fun V9 l9=>(c_R_Den (hy.le (L6.trans (l7.trans (l8.trans l9)))) hm (by omega)).mono ?_⟩
  rintro r V10 l10 ⟨p5,n5,c5,rfl,g5⟩
  refine ⟨_,_,_,rfl,fun V11 l11=>(c_nat_Mul (g4.le (l9.trans (l10.trans l11))) (g5.le l11) (by omega)).mono ?_⟩
  rintro r V12 l12 ⟨p6,n6,c6,rfl,g6⟩
  rw [val_digs,val_digs] at g6
  have L12:=L6.trans (l7.trans (l8.trans (l9.trans (l10.trans (l11.trans l12)))))
  refine ⟨_,_,_,rfl,fun V13 l13=>(c_R_Num (hy.le (L12.trans l13)) hm (by omega)).mono ?_⟩
  rintro r V14 l14 ⟨p7,n7,c7,rfl,g7⟩
  refine ⟨_,_,_,_,rfl,fun V15 l15=>(c_R_Den (hx.le (L12.trans (l13.trans (l14.trans l15)))) hk (by omega)).mono ?_⟩
  rintro r V16 l16 ⟨p8,n8,c8,rfl,g8⟩
  refine ⟨_,_,_,rfl,fun V17 l17=>(c_nat_Mul (g7.le (l15.trans (l16.trans l17))) (g8.le l17) (by omega)).mono ?_⟩
  rintro r V18 l18 ⟨p9,n9,c9,rfl,g9⟩
  rw [val_digs,val_digs] at g9
  have L18:=l13.trans (l14.trans (l15.trans (l16.trans (l17.trans l18))))
  refine ⟨_,_,_,rfl,fun V19 l19=>(c_nat_Gcd (g6.le (L18.trans l19)) (g9.le l19) (by omega) (by omega)).mono ?_⟩
  rintro r V20 l20 ⟨p10,n10,c10,rfl,g10⟩
  rw [val_digs,val_digs] at g10
  refine ⟨_,_,_,rfl,fun V21 l21=>(c_frac_reduce false (g10.le l21) (g3.le (l7.trans (l8.trans (l9.trans (l10.trans (l11.trans (l12.trans (L18.trans (l19.trans (l20.trans l21)))))))))) (by omega) (by omega)).mono ?_⟩
  rintro r V22 l22 h22
  rw [ival_false,val_digs,val_digs] at h22
  obtain ⟨n,d,p,rfl⟩:=h22.shape
  exact ⟨_,_,_,rfl,fun V23 l23=>h22.le l23⟩
 rcases hx with ⟨ex,wx⟩ | ⟨a,b,p,n,c,p',n',c',ex,-,-,-,-,-,wx⟩
 ·rcases hy with ⟨ey,wy⟩ | ⟨a,b,p,n,c,p',n',c',ey,-,-,-,-,-,wy⟩
  ·simp only [Value.agg.injEq,Array.mk.injEq,List.cons.injEq,Value.int.injEq,Value.pointer.injEq,true_and,and_true] at ex ey
   obtain ⟨rfl,rfl,rfl⟩:=ex
   obtain ⟨rfl,rfl,rfl⟩:=ey
   obtain ⟨wx1,wx2⟩:=wx
   obtain ⟨wy1,wy2⟩:=wy
   refine vc_frac_Gcd _ _ _ _ _ _ V _ ⟨fun _=>⟨fun _=>⟨fun h1=>⟨fun _ _=>True,⟨fun h2 V1 l1=>?_,fun _=>⟨(),by and_intros <;> rfl,trivial⟩⟩,fun _ V1 l1 _=>⟨by trivial,fun V2 l2=>gen V2 (l1.trans l2)⟩⟩,fun _=>gen⟩,(fun h=>nomatch h)⟩,(fun h=>nomatch h)⟩
   have h1:x.den=1:=by rw [beq_iff_eq] at h1; omega
   have h2:y.den=1:=by rw [beq_iff_eq] at h2; omega
   refine (c_frac_abs _ (by omega) (by omega)).mono ?_
   rintro r V2 l2 rfl
   refine ⟨_,rfl,fun V3 l3=>(c_frac_abs _ (by omega) (by omega)).mono ?_⟩
   rintro r V4 l4 rfl
   refine ⟨_,rfl,fun V5 l5=>(c_frac_gcd _ _ (by omega) (by omega)).mono ?_⟩
   rintro r V6 l6 rfl
   refine ⟨_,rfl,fun V7 l7=>.inl ?_⟩
   have e:gcdQ x y=((Nat.gcd x.num.natAbs y.num.natAbs:Nat):Int):=by
    unfold gcdQ
    rw [h1,h2,Nat.mul_one,Nat.mul_one,Nat.mul_one]
    exact mkRat_one _
   have hl:Nat.gcd x.num.natAbs y.num.natAbs < 4611686018427387904:=by
    rcases Nat.eq_zero_or_pos x.num.natAbs with e | e
    ·rw [e,Nat.gcd_zero_left]; exact wy1
    ·exact Nat.lt_of_le_of_lt (Nat.le_of_dvd e (Nat.gcd_dvd_left _ _)) wx1
   rw [e,i64w (by omega)]
   exact ⟨rfl,intCast_wd (by rw [Int.natAbs_natCast]; exact hl)⟩
  ·simp only [Value.agg.injEq,Array.mk.injEq,List.cons.injEq,Value.int.injEq,Value.pointer.injEq,true_and,and_true] at ex ey
   obtain ⟨rfl,rfl,rfl⟩:=ex
   obtain ⟨rfl,rfl,rfl⟩:=ey
   exact vc_frac_Gcd _ _ _ _ _ _ V _ ⟨fun _=>⟨(fun h=>nomatch h),fun _=>gen⟩,(fun h=>nomatch h)⟩
 ·simp only [Value.agg.injEq,Array.mk.injEq,List.cons.injEq,Value.int.injEq,Value.pointer.injEq,true_and,and_true] at ex
  obtain ⟨rfl,rfl,rfl⟩:=ex
  exact vc_frac_Gcd _ _ _ _ _ _ V _ ⟨(fun h=>nomatch h),fun _=>gen⟩
end Go.Proofs.Tryz
/- Contracts of the rational numbers: Of, API, Mul, Inv, Quo. -/
namespace Go.Proofs.Tryz
open Go.Eng Go.Big
/-- A number of package api in normal form. -/
def RA (V:View) (v:Value) (q:Rat):Prop:=∃p n c p' n' c',v=.agg #[.bool (decide (q.num < 0)),.slice p n c,.slice p' n' c']/\RD V p n c (digs q.num.natAbs)/\RD V p' n' c' (digs q.den)
theorem RA.le {V V':View} {v:Value} {q:Rat} (h:RA V v q) (l:V.Le V'):RA V' v q:=by
 obtain ⟨p,n,c,p',n',c',e,h1,h2⟩:=h
 exact ⟨p,n,c,p',n',c',e,h1.le l,h2.le l⟩
theorem c_frac_Of' {V:View} (b:Bool) {p q:OA} {n c m e:Nat} {xs ys:List Nat} (hx:RD V p n c xs) (hy:RD V q m e ys) (hm:xs.length<=1099511627776) (hn:ys.length<=1099511627776) :
  Acts prog 102 #[.agg #[.bool b,.slice p n c,.slice q m e]] V fun r V'=>RR V' r (mkRat (ival b xs) (val ys)):=by
 refine vc_frac_Of b p n c q m e V _ fun V1 l1=>(c_frac_reduce b (hx.le l1) (hy.le l1) hm hn).mono ?_
 rintro r V2 l2 h
 obtain ⟨u,v,w,rfl⟩:=h.shape
 exact ⟨_,_,_,rfl,fun V3 l3=>h.le l3⟩
theorem c_frac_Of {V:View} {v:Value} {q:Rat} (h:RA V v q) {k:Nat} (hs:Sz k q) (hk:k<=1099511627776):Acts prog 102 #[v] V fun r V'=>RR V' r q:=by
 obtain ⟨p,n,c,p',n',c',rfl,h1,h2⟩:=h
 have q1:=digs_len_bits hs.1
 have q2:=digs_len_bits hs.2
 refine (c_frac_Of' _ h1 h2 (by omega) (by omega)).mono ?_
 rintro r V' _ h
 rw [ival_digs,val_digs,Rat.mkRat_self] at h
 exact h
theorem c_R_API {V:View} {v:Value} {q:Rat} (h:RR V v q) {k:Nat} (hs:Sz k q) (hk:k<=1099511627776):Acts prog 144 #[v] V fun r V'=>RA V' r q:=by
 have h0:=h
 obtain ⟨r0,r1,r2,rfl⟩:=h.shape
 refine vc_frac_R_API r0 r1 r2 V _ fun V1 l1=>(c_R_Num (h0.le l1) hs hk).mono ?_
 rintro r V2 l2 ⟨p1,n1,c1,rfl,g1⟩
 refine ⟨_,_,_,_,rfl,fun V3 l3=>(c_R_Den (h0.le (l1.trans (l2.trans l3))) hs hk).mono ?_⟩
 rintro r V4 l4 ⟨p2,n2,c2,rfl,g2⟩
 exact ⟨_,_,_,rfl,fun V5 l5=>⟨_,_,_,_,_,_,rfl,g1.le (l3.trans (l4.trans l5)),g2.le l5⟩⟩
theorem c_R_Mul {V:View} {v w:Value} {x y:Rat} (hx:RR V v x) (hy:RR V w y) {k m:Nat} (hk:Sz k x) (hm:Sz m y) (hkm:k + m < 1099511627776) :
  Acts prog 185 #[v,w] V fun r V'=>RR V' r (x * y):=by
 obtain ⟨r0,r1,r2,rfl⟩:=hx.shape
 obtain ⟨s0,s1,s2,rfl⟩:=hy.shape
 have hxy:x * y=mkRat (x.num * y.num) (x.den * y.den):=Rat.mul_def' x y
 have b1:(x.num * y.num).natAbs < 2 ^ (k + m):=by rw [Int.natAbs_mul,Nat.pow_add]; exact Nat.mul_lt_mul'' hk.1 hm.1
 have b2:x.den * y.den < 2 ^ (k + m):=by rw [Nat.pow_add]; exact Nat.mul_lt_mul'' hk.2 hm.2
 have q1:=digs_len_bits hk.1
 have q2:=digs_len_bits hk.2
 have q3:=digs_len_bits hm.1
 have q4:=digs_len_bits hm.2
 have q5:=digs_len_bits b1
 have q6:=digs_len_bits b2
 refine vc_frac_R_Mul r0 r1 r2 s0 s1 s2 V _ ⟨fun hr=>⟨fun _ _=>True,⟨fun hs=>?_,fun _=>⟨(),by (try dsimp only); and_intros <;> trivial,trivial⟩⟩,fun _ V8 l8 _=>⟨rfl,fun V9 l9'=>?_⟩⟩,fun _ V9 l9=>?_⟩
 ·rcases hx with ⟨ex,wx⟩ | ⟨a,b,p,n,c,p',n',c',ex,-,-,-,-,-,wx⟩
  ·rcases hy with ⟨ey,wy⟩ | ⟨a,b,p,n,c,p',n',c',ey,-,-,-,-,-,wy⟩
   ·simp only [Value.agg.injEq,Array.mk.injEq,List.cons.injEq,Value.int.injEq,Value.pointer.injEq,true_and,and_true] at ex ey
    obtain ⟨rfl,rfl,rfl⟩:=ex
    obtain ⟨rfl,rfl,rfl⟩:=ey
    obtain ⟨wx1,wx2⟩:=wx
    obtain ⟨wy1,wy2⟩:=wy
    have dx:=x.den_nz
    have dy:=y.den_nz
    have e1:i64.wrap ((x.den:Int) - 1 + 1)=x.den:=by rw [i64w (by omega)]; omega
    have e2:i64.wrap ((y.den:Int) - 1 + 1)=y.den:=by rw [i64w (by omega)]; omega
    rw [e1,e2]
    intro V1 l1
    refine (c_frac_times _ _ wx1 wy1).mono ?_
    rintro r V2 l2 ⟨z1,rfl,hz1⟩
    refine ⟨_,_,rfl,fun V3 l3=>(c_frac_times _ _ (by omega) (by omega)).mono ?_⟩
    rintro r V4 l4 ⟨z2,rfl,hz2⟩
    refine ⟨_,_,rfl,fun t1=>⟨fun t2 V5 l5=>?_,fun _=>⟨(),by (try dsimp only); and_intros <;> trivial,trivial⟩⟩,fun _=>⟨(),by (try dsimp only); and_intros <;> trivial,trivial⟩⟩
    have t1:=of_decide_eq_true t1
    have t2:=of_decide_eq_true t2
    rw [hz1 t1,hz2 t2]
    have hd:((x.den:Int) * (y.den:Int))=((x.den * y.den:Nat):Int):=(Int.natCast_mul ..).symm
    rw [hd] at t2 ⊢
    refine (c_frac_lowest _ _ t1 (by rwa [Int.natAbs_natCast] at t2) (Nat.mul_ne_zero dx dy)).mono ?_
    rintro r V6 l6 h6
    rw [← hxy] at h6
    obtain ⟨n,d,p,rfl⟩:=h6.shape
    exact ⟨_,_,_,rfl,fun V7 l7=>h6.le l7⟩
   ·simp only [Value.agg.injEq,Array.mk.injEq,List.cons.injEq,Value.int.injEq,Value.pointer.injEq,true_and,and_true] at ey
    obtain ⟨rfl,rfl,rfl⟩:=ey
    cases hs
  ·simp only [Value.agg.injEq,Array.mk.injEq,List.cons.injEq,Value.int.injEq,Value.pointer.injEq,true_and,and_true] at ex
   obtain ⟨rfl,rfl,rfl⟩:=ex
   cases hr
 ·have l9:=l8.trans l9'
  refine (c_R_Num (hx.le l9) hk (by omega)).mono ?_
  rintro r V10 l10 ⟨p1,n1,c1,rfl,g1⟩
  refine ⟨_,_,_,_,rfl,fun V11 l11=>(c_R_Num (hy.le (l9.trans (l10.trans l11))) hm (by omega)).mono ?_⟩
  rintro r V12 l12 ⟨p2,n2,c2,rfl,g2⟩
  refine ⟨_,_,_,_,rfl,fun V13 l13=>(c_integer_Mul _ _ (g1.le (l11.trans (l12.trans l13))) (g2.le l13) (by omega)).mono ?_⟩
  rintro r V14 l14 h14
  rw [ival_digs,ival_digs] at h14
  obtain ⟨p3,n3,c3,rfl,g3⟩:=h14
  have L14:=l9.trans (l10.trans (l11.trans (l12.trans (l13.trans l14))))
  refine ⟨_,_,_,_,rfl,fun V15 l15=>(c_R_Den (hx.le (L14.trans l15)) hk (by omega)).mono ?_⟩
  rintro r V16 l16 ⟨p4,n4,c4,rfl,g4⟩
  refine ⟨_,_,_,rfl,fun V17 l17=>(c_R_Den (hy.le (L14.trans (l15.trans (l16.trans l17)))) hm (by omega)).mono ?_⟩
  rintro r V18 l18 ⟨p5,n5,c5,rfl,g5⟩
  refine ⟨_,_,_,rfl,fun V19 l19=>(c_nat_Mul (g4.le (l17.trans (l18.trans l19))) (g5.le l19) (by omega)).mono ?_⟩
  rintro r V20 l20 ⟨p6,n6,c6,rfl,g6⟩
  rw [val_digs,val_digs] at g6
  refine ⟨_,_,_,rfl,fun V21 l21=>(c_frac_reduce _ (g3.le (l15.trans (l16.trans (l17.trans (l18.trans (l19.trans (l20.trans l21))))))) (g6.le l21) (by omega) (by omega)).mono ?_⟩
  rintro r V22 l22 h22
  rw [ival_digs,val_digs,← hxy] at h22
  obtain ⟨n,d,p,rfl⟩:=h22.shape
  exact ⟨_,_,_,rfl,fun V23 l23=>h22.le l23⟩
 ·skip
  refine (c_R_Num (hx.le l9) hk (by omega)).mono ?_
  rintro r V10 l10 ⟨p1,n1,c1,rfl,g1⟩
  refine ⟨_,_,_,_,rfl,fun V11 l11=>(c_R_Num (hy.le (l9.trans (l10.trans l11))) hm (by omega)).mono ?_⟩
  rintro r V12 l12 ⟨p2,n2,c2,rfl,g2⟩
  refine ⟨_,_,_,_,rfl,fun V13 l13=>(c_integer_Mul _ _ (g1.le (l11.trans (l12.trans l13))) (g2.le l13) (by omega)).mono ?_⟩
  rintro r V14 l14 h14
  rw [ival_digs,ival_digs] at h14
  obtain ⟨p3,n3,c3,rfl,g3⟩:=h14
  have L14:=l9.trans (l10.trans (l11.trans (l12.trans (l13.trans l14))))
  refine ⟨_,_,_,_,rfl,fun V15 l15=>(c_R_Den (hx.le (L14.trans l15)) hk (by omega)).mono ?_⟩
  rintro r V16 l16 ⟨p4,n4,c4,rfl,g4⟩
  refine ⟨_,_,_,rfl,fun V17 l17=>(c_R_Den (hy.le (L14.trans (l15.trans (l16.trans l17)))) hm (by omega)).mono ?_⟩
  rintro r V18 l18 ⟨p5,n5,c5,rfl,g5⟩
  refine ⟨_,_,_,rfl,fun V19 l19=>(c_nat_Mul (g4.le (l17.trans (l18.trans l19))) (g5.le l19) (by omega)).mono ?_⟩
  rintro r V20 l20 ⟨p6,n6,c6,rfl,g6⟩
  rw [val_digs,val_digs] at g6
  refine ⟨_,_,_,rfl,fun V21 l21=>(c_frac_reduce _ (g3.le (l15.trans (l16.trans (l17.trans (l18.trans (l19.trans (l20.trans l21))))))) (g6.le l21) (by omega) (by omega)).mono ?_⟩
  rintro r V22 l22 h22
  rw [ival_digs,val_digs,← hxy] at h22
  obtain ⟨n,d,p,rfl⟩:=h22.shape
  exact ⟨_,_,_,rfl,fun V23 l23=>h22.le l23⟩
theorem inv_neg {q:Rat} (h:q.num < 0):(q⁻¹).num=-(q.den:Int)/\(q⁻¹).den=q.num.natAbs:=by
 show (Rat.inv q).num=_/\(Rat.inv q).den=_
 unfold Rat.inv
 rw [dif_pos h]
 exact ⟨rfl,rfl⟩
theorem inv_pos {q:Rat} (h:0 < q.num):(q⁻¹).num=(q.den:Int)/\(q⁻¹).den=q.num.natAbs:=by
 show (Rat.inv q).num=_/\(Rat.inv q).den=_
 unfold Rat.inv
 rw [dif_neg (by omega),dif_pos h]
 exact ⟨rfl,rfl⟩
theorem inv_zero {q:Rat} (h:q.num=0):q⁻¹=0:=by
 have:q=0:=Rat.num_eq_zero.1 h
 subst this
 exact Rat.inv_zero
theorem sz_inv {k:Nat} {q:Rat} (h:Sz k q):Sz k q⁻¹:=by
 rcases Int.lt_trichotomy q.num 0 with h0 | h0 | h0
 ·obtain ⟨e1,e2⟩:=inv_neg h0
  refine ⟨?_,?_⟩
  ·rw [e1,Int.natAbs_neg]; exact h.2
  ·rw [e2]; exact h.1
 ·rw [inv_zero h0]
  exact ⟨Nat.two_pow_pos _,Nat.lt_of_le_of_lt (Nat.pos_of_ne_zero q.den_nz) h.2⟩
 ·obtain ⟨e1,e2⟩:=inv_pos h0
  exact ⟨by rw [e1]; exact h.2,by rw [e2]; exact h.1⟩
theorem c_R_Inv {V:View} {v:Value} {q:Rat} (h:RR V v q) {k:Nat} (hs:Sz k q) (hk:k<=1099511627776):Acts prog 197 #[v] V fun r V'=>RR V' r q⁻¹:=by
 rcases h with ⟨rfl,hw⟩ | ⟨a,b,p,n,c,p',n',c',rfl,h1,h2,h3,h4,h5,hw⟩
 ·obtain ⟨w1,w2⟩:=hw
  have hd:=q.den_nz
  refine vc_frac_R_Inv _ _ _ V _ ⟨(fun h0=>nomatch h0),fun _=>⟨fun g V4 l4=>?_,fun g=>⟨fun g2 V5 l5=>?_,fun g2 V6 l6=>?_⟩⟩⟩
  ·have g:=of_decide_eq_true g
   obtain ⟨e1,e2⟩:=inv_neg g
   refine .inl ⟨?_,?_⟩
   ·rw [e1,e2,i64w (x:=(q.den:Int) - 1 + 1) (by omega),i64w (x:=0 - q.num) (by omega),i64w (x:=0 - ((q.den:Int) - 1 + 1)) (by omega),i64w (by omega)]
    congr 4
    ·omega
    ·congr 1; omega
   ·unfold Wd; rw [e1,e2,Int.natAbs_neg]; exact ⟨w2,w1⟩
  ·have g2:q.num=0:=by simpa using g2
   rw [inv_zero g2]
   exact .inl ⟨rfl,by decide,by decide⟩
  ·have g:¬ q.num < 0:=of_decide_eq_false g
   have g2:q.num≠0:=by simpa using g2
   obtain ⟨e1,e2⟩:=inv_pos (q:=q) (by omega)
   refine .inl ⟨?_,?_⟩
   ·rw [e1,e2,i64w (x:=(q.den:Int) - 1 + 1) (by omega),i64w (by omega)]
    congr 4
    ·omega
    ·congr 1; omega
   ·unfold Wd; rw [e1,e2]; exact ⟨w2,w1⟩
 ·obtain ⟨rfl,hn⟩:=h4.inv
  have q1:=digs_len_bits hs.1
  have q2:=digs_len_bits hs.2
  refine vc_frac_R_Inv _ _ _ V _ ⟨fun _=>⟨rfl,rfl,rfl,decide (q.num < 0),⟨a.add 0,by simp [addrAdd,Addr.add],h1⟩,rfl,rfl,p',n',c',⟨a.add 2,rfl,h3⟩,rfl,rfl,rfl,p,n,c,⟨a.add 1,by simp [addrAdd,Addr.add],h2⟩,fun V1 l1=>(c_frac_reduce _ (h5.le l1) (hn.le l1) (by omega) (by omega)).mono ?_⟩,fun h0=>nomatch h0⟩
  rintro r V2 l2 h
  have e:mkRat (ival (decide (q.num < 0)) (digs q.den)) (val (digs q.num.natAbs))=q⁻¹:=by
   rw [val_digs]
   have hv:ival (decide (q.num < 0)) (digs q.den)=if q.num < 0 then -(q.den:Int) else (q.den:Int):=by
    unfold ival
    rw [val_digs]
    by_cases g:q.num < 0 <;> simp [g]
   rw [hv]
   rcases Int.lt_trichotomy q.num 0 with h0 | h0 | h0
   ·obtain ⟨e1,e2⟩:=inv_neg h0
    rw [if_pos h0,← e1,← e2,Rat.mkRat_self]
   ·rw [inv_zero h0,h0]; simp
   ·obtain ⟨e1,e2⟩:=inv_pos h0
    rw [if_neg (by omega),← e1,← e2,Rat.mkRat_self]
  rw [e] at h
  obtain ⟨u,v,w,rfl⟩:=h.shape
  exact ⟨_,_,_,rfl,fun V3 l3=>h.le l3⟩
theorem c_R_Quo {V:View} {v w:Value} {x y:Rat} (hx:RR V v x) (hy:RR V w y) {k m:Nat} (hk:Sz k x) (hm:Sz m y) (hkm:k + m < 1099511627776) :
  Acts prog 163 #[v,w] V fun r V'=>RR V' r (x * y⁻¹):=by
 have hx0:=hx
 have hy0:=hy
 obtain ⟨r0,r1,r2,rfl⟩:=hx.shape
 obtain ⟨s0,s1,s2,rfl⟩:=hy.shape
 refine vc_frac_R_Quo r0 r1 r2 s0 s1 s2 V _ fun V1 l1=>(c_R_Inv (hy0.le l1) hm (by omega)).mono ?_
 rintro r V2 l2 h2
 have h20:=h2
 obtain ⟨u,v,w,rfl⟩:=h2.shape
 refine ⟨_,_,_,rfl,fun V3 l3=>(c_R_Mul (hx0.le (l1.trans (l2.trans l3))) (h20.le l3) hk (sz_inv hm) hkm).mono ?_⟩
 rintro r V4 l4 h4
 have h40:=h4
 obtain ⟨u,v,w,rfl⟩:=h4.shape
 exact ⟨_,_,_,rfl,fun V5 l5=>h40.le l5⟩
end Go.Proofs.Tryz
/- By program: the conditions of the functions, from their loaded code. -/
namespace Go.Proofs.Tryz
open Go.Eng
set_option maxRecDepth 100000
theorem vc_num_Trim (ap:OA) (an ac:Nat) (V:View) (R:Value->View->Prop)
  (h:(∃(I1_:Int->View->Prop) (m2_:Int->Nat),(∃z3_:Int,(sm ap/\sm an/\sm ac/\(((an:Nat):Int)=z3_))/\I1_ z3_ V)/\∀(z4_:Int) (V1:View),V.Le V1->I1_ z4_ V1->(true=true/\(((decide (z4_ > (0:Int)))=true->(ap.isSome=true)/\(0<=(i64.wrap (z4_ - (1:Int)))/\(i64.wrap (z4_ - (1:Int))) < ((an:Nat):Int))/\(∃x5_,(∃a6_,addrAdd ap (((i64.wrap (z4_ - (1:Int))).toNat) * 1)=some a6_/\V1.at a6_ (.int .u32 x5_))/\(((x5_ == (0:Int))=true->(∃z7_:Int,m2_ z7_ < m2_ z4_/\(sm ap/\sm an/\sm ac/\((i64.wrap (z4_ - (1:Int)))=z7_))/\I1_ z7_ V1))/\((x5_ == (0:Int))=false->(0<=z4_/\z4_<=((ac:Nat):Int))/\(∀V2,V1.Le V2->R (.slice ap z4_.toNat ac) V2)))))/\((decide (z4_ > (0:Int)))=false->(0<=z4_/\z4_<=((ac:Nat):Int))/\(∀V3,V1.Le V3->R (.slice ap z4_.toNat ac) V3)))))) :
  Acts prog 166 #[.slice ap an ac] V R:=
 fn_does (LF:=LF0) (RF:=[1000007]) (β0:=(fun _=>0)) tab_ok mixed [(2,{ τ:=Int,keep:=[0],keepB:=[],slots:=fun z=>[(3,.c (.v (.int .i64 z)))],boxes:=fun z=>[] })] [] func166 (by kernel_rfl)
  [(0,.c (.v (.slice ap an ac)))]
  [] (by kernel_rfl) trivial h (by kernel_rfl)
theorem vc_num_Word (u:Int) (V:View) (R:Value->View->Prop)
  (h:(0<=(32:Int))/\(∀V1,V.Le V1->∀bk1_:Nat,(V1.blk bk1_ (.cells #[.int .u32 (u32.wrap u),.int .u32 (u32.wrap (u.fdiv (2 ^ 32)))] 244 (0,0)))->Acts prog 166 #[.slice (some ⟨bk1_,0,none⟩) 2 2] V1 fun r1_ V2=>∃p2_ n2_ c2_,r1_=.slice p2_ n2_ c2_/\∀J3_:C->Value,(∀V3,V2.Le V3->R (.slice p2_ n2_ c2_) V3))) :
  Acts prog 121 #[.int .u64 u] V R:=
 fn_does (LF:=LF0) (RF:=[1000007]) (β0:=(fun _=>0)) tab_ok mixed [] [] func121 (by kernel_rfl)
  [(0,.c (.v (.int .u64 u)))]
  [] (by kernel_rfl) trivial h (by kernel_rfl)
theorem vc_num_One  (V:View) (R:Value->View->Prop)
  (h:(∀V1,V.Le V1->∀bk1_:Nat,(V1.blk bk1_ (.cells #[.int .u32 1] 244 (0,0)))->R (.slice (some ⟨bk1_,0,none⟩) 1 1) V1)) :
  Acts prog 135 #[] V R:=
 fn_does (LF:=LF0) (RF:=[1000007]) (β0:=(fun _=>0)) tab_ok mixed [] [] func135 (by kernel_rfl)
  []
  [] (by kernel_rfl) trivial h (by kernel_rfl)
theorem vc_num_sign (n:Int) (V:View) (R:Value->View->Prop)
  (h:(((decide (n > (0:Int)))=true->(∀V1,V.Le V1->R (.int .i64 1) V1))/\((decide (n > (0:Int)))=false->(((decide (n < (0:Int)))=true->(∀V2,V.Le V2->R (.int .i64 (-1)) V2))/\((decide (n < (0:Int)))=false->(∀V3,V.Le V3->R (.int .i64 0) V3)))))) :
  Acts prog 179 #[.int .i64 n] V R:=
 fn_does (LF:=LF0) (RF:=[1000007]) (β0:=(fun _=>0)) tab_ok mixed [] [] func179 (by kernel_rfl)
  [(0,.c (.v (.int .i64 n)))]
  [] (by kernel_rfl) trivial h (by kernel_rfl)
theorem vc_num_Cmp (ap:OA) (an ac:Nat) (bp:OA) (bn bc:Nat) (V:View) (R:Value->View->Prop)
  (h:(((((an:Nat):Int) != ((bn:Nat):Int))=true->(∀V1,V.Le V1->Acts prog 179 #[.int .i64 (i64.wrap (((an:Nat):Int) - ((bn:Nat):Int)))] V1 fun r1_ V2=>∃x1_,r1_=.int .i64 x1_/\(∀V3,V2.Le V3->R (.int .i64 x1_) V3)))/\((((an:Nat):Int) != ((bn:Nat):Int))=false->(∃(I2_:Int->View->Prop) (m3_:Int->Nat),(∃z4_:Int,(sm ap/\sm an/\sm ac/\sm bp/\sm bn/\sm bc/\((i64.wrap (((an:Nat):Int) - (1:Int)))=z4_))/\I2_ z4_ V)/\∀(z5_:Int) (V4:View),V.Le V4->I2_ z5_ V4->(true=true/\(((decide (z5_ ≥ (0:Int)))=true->(ap.isSome=true)/\(0<=z5_/\z5_ < ((an:Nat):Int))/\(∃x6_,(∃a7_,addrAdd ap (z5_.toNat * 1)=some a7_/\V4.at a7_ (.int .u32 x6_))/\(bp.isSome=true)/\(0<=z5_/\z5_ < ((bn:Nat):Int))/\(∃x8_,(∃a9_,addrAdd bp (z5_.toNat * 1)=some a9_/\V4.at a9_ (.int .u32 x8_))/\(((decide (x6_ > x8_))=true->(∀V5,V4.Le V5->R (.int .i64 1) V5))/\((decide (x6_ > x8_))=false->(ap.isSome=true)/\(0<=z5_/\z5_ < ((an:Nat):Int))/\(∃x10_,(∃a11_,addrAdd ap (z5_.toNat * 1)=some a11_/\V4.at a11_ (.int .u32 x10_))/\(bp.isSome=true)/\(0<=z5_/\z5_ < ((bn:Nat):Int))/\(∃x12_,(∃a13_,addrAdd bp (z5_.toNat * 1)=some a13_/\V4.at a13_ (.int .u32 x12_))/\(((decide (x10_ < x12_))=true->(∀V6,V4.Le V6->R (.int .i64 (-1)) V6))/\((decide (x10_ < x12_))=false->(∃z14_:Int,m3_ z14_ < m3_ z5_/\(sm ap/\sm an/\sm ac/\sm bp/\sm bn/\sm bc/\((i64.wrap (z5_ - (1:Int)))=z14_))/\I2_ z14_ V4))))))))))/\((decide (z5_ ≥ (0:Int)))=false->(∀V7,V4.Le V7->R (.int .i64 0) V7)))))))) :
  Acts prog 134 #[.slice ap an ac,.slice bp bn bc] V R:=
 fn_does (LF:=LF0) (RF:=[1000007]) (β0:=(fun _=>0)) tab_ok mixed [(4,{ τ:=Int,keep:=[0,1],keepB:=[],slots:=fun z=>[(5,.c (.v (.int .i64 z)))],boxes:=fun z=>[] })] [] func134 (by kernel_rfl)
  [(0,.c (.v (.slice ap an ac))),(1,.c (.v (.slice bp bn bc)))]
  [] (by kernel_rfl) trivial h (by kernel_rfl)
theorem vc_num_Sum (ap:OA) (an ac:Nat) (bp:OA) (bn bc:Nat) (V:View) (R:Value->View->Prop)
  (h:(0<=i64.wrap ((maxI ((an:Nat):Int) ((bn:Nat):Int)) + (1:Int)))/\(i64.wrap ((maxI ((an:Nat):Int) ((bn:Nat):Int)) + (1:Int))<=i64.wrap ((maxI ((an:Nat):Int) ((bn:Nat):Int)) + (1:Int)))/\(((4:Nat):Int) * (i64.wrap ((maxI ((an:Nat):Int) ((bn:Nat):Int)) + (1:Int)))<=140737488355328)/\(∃(I1_:(Int × Int × (List Value))->View->Prop) (m2_:(Int × Int × (List Value))->Nat),(∃z3_:Int × Int × (List Value),(sm ap/\sm an/\sm ac/\sm bp/\sm bn/\sm bc/\((maxI ((an:Nat):Int) ((bn:Nat):Int))=(maxI ((an:Nat):Int) ((bn:Nat):Int)))/\sm 0/\(((i64.wrap ((maxI ((an:Nat):Int) ((bn:Nat):Int)) + (1:Int))).toNat:Nat)=(i64.wrap ((maxI ((an:Nat):Int) ((bn:Nat):Int)) + (1:Int))).toNat)/\(((i64.wrap ((maxI ((an:Nat):Int) ((bn:Nat):Int)) + (1:Int))).toNat:Nat)=(i64.wrap ((maxI ((an:Nat):Int) ((bn:Nat):Int)) + (1:Int))).toNat)/\((0:Int)=z3_.1)/\((0:Int)=z3_.2.1)/\((List.replicate ((i64.wrap ((maxI ((an:Nat):Int) ((bn:Nat):Int)) + (1:Int))).toNat) (.int .u32 0))=z3_.2.2))/\I1_ z3_ V)/\∀(z4_:Int × Int × (List Value)) (V1:View),V.Le V1->I1_ z4_ V1->(true=true/\(((decide (z4_.2.1 < (maxI ((an:Nat):Int) ((bn:Nat):Int))))=true->(∃I5_:Int->View->Prop,(((decide (z4_.2.1 < ((an:Nat):Int)))=true->(ap.isSome=true)/\(0<=z4_.2.1/\z4_.2.1 < ((an:Nat):Int))/\(∃x6_,(∃a7_,addrAdd ap (z4_.2.1.toNat * 1)=some a7_/\V1.at a7_ (.int .u32 x6_))/\(∃z8_:Int,(sm ap/\sm an/\sm ac/\sm bp/\sm bn/\sm bc/\((maxI ((an:Nat):Int) ((bn:Nat):Int))=(maxI ((an:Nat):Int) ((bn:Nat):Int)))/\sm 0/\(((i64.wrap ((maxI ((an:Nat):Int) ((bn:Nat):Int)) + (1:Int))).toNat:Nat)=(i64.wrap ((maxI ((an:Nat):Int) ((bn:Nat):Int)) + (1:Int))).toNat)/\(((i64.wrap ((maxI ((an:Nat):Int) ((bn:Nat):Int)) + (1:Int))).toNat:Nat)=(i64.wrap ((maxI ((an:Nat):Int) ((bn:Nat):Int)) + (1:Int))).toNat)/\sm z4_.1/\sm z4_.2.1/\((0:Int)=(0:Int))/\(x6_=z8_)/\sm z4_.2.2)/\I5_ z8_ V1)))/\((decide (z4_.2.1 < ((an:Nat):Int)))=false->(∃z9_:Int,(sm ap/\sm an/\sm ac/\sm bp/\sm bn/\sm bc/\((maxI ((an:Nat):Int) ((bn:Nat):Int))=(maxI ((an:Nat):Int) ((bn:Nat):Int)))/\sm 0/\(((i64.wrap ((maxI ((an:Nat):Int) ((bn:Nat):Int)) + (1:Int))).toNat:Nat)=(i64.wrap ((maxI ((an:Nat):Int) ((bn:Nat):Int)) + (1:Int))).toNat)/\(((i64.wrap ((maxI ((an:Nat):Int) ((bn:Nat):Int)) + (1:Int))).toNat:Nat)=(i64.wrap ((maxI ((an:Nat):Int) ((bn:Nat):Int)) + (1:Int))).toNat)/\sm z4_.1/\sm z4_.2.1/\((0:Int)=(0:Int))/\((0:Int)=z9_)/\sm z4_.2.2)/\I5_ z9_ V1)))/\∀(z10_:Int) (V2:View),V1.Le V2->I5_ z10_ V2->(true=true/\(∃I11_:Int->View->Prop,(((decide (z4_.2.1 < ((bn:Nat):Int)))=true->(bp.isSome=true)/\(0<=z4_.2.1/\z4_.2.1 < ((bn:Nat):Int))/\(∃x12_,(∃a13_,addrAdd bp (z4_.2.1.toNat * 1)=some a13_/\V2.at a13_ (.int .u32 x12_))/\(∃z14_:Int,(sm ap/\sm an/\sm ac/\sm bp/\sm bn/\sm bc/\((maxI ((an:Nat):Int) ((bn:Nat):Int))=(maxI ((an:Nat):Int) ((bn:Nat):Int)))/\sm 0/\(((i64.wrap ((maxI ((an:Nat):Int) ((bn:Nat):Int)) + (1:Int))).toNat:Nat)=(i64.wrap ((maxI ((an:Nat):Int) ((bn:Nat):Int)) + (1:Int))).toNat)/\(((i64.wrap ((maxI ((an:Nat):Int) ((bn:Nat):Int)) + (1:Int))).toNat:Nat)=(i64.wrap ((maxI ((an:Nat):Int) ((bn:Nat):Int)) + (1:Int))).toNat)/\sm z4_.1/\sm z4_.2.1/\sm z10_/\(x12_=z14_)/\sm z4_.2.2)/\I11_ z14_ V2)))/\((decide (z4_.2.1 < ((bn:Nat):Int)))=false->(∃z15_:Int,(sm ap/\sm an/\sm ac/\sm bp/\sm bn/\sm bc/\((maxI ((an:Nat):Int) ((bn:Nat):Int))=(maxI ((an:Nat):Int) ((bn:Nat):Int)))/\sm 0/\(((i64.wrap ((maxI ((an:Nat):Int) ((bn:Nat):Int)) + (1:Int))).toNat:Nat)=(i64.wrap ((maxI ((an:Nat):Int) ((bn:Nat):Int)) + (1:Int))).toNat)/\(((i64.wrap ((maxI ((an:Nat):Int) ((bn:Nat):Int)) + (1:Int))).toNat:Nat)=(i64.wrap ((maxI ((an:Nat):Int) ((bn:Nat):Int)) + (1:Int))).toNat)/\sm z4_.1/\sm z4_.2.1/\sm z10_/\((0:Int)=z15_)/\sm z4_.2.2)/\I11_ z15_ V2)))/\∀(z16_:Int) (V3:View),V2.Le V3->I11_ z16_ V3->(true=true/\(∀V4,V3.Le V4->Acts prog 211 #[.int .u32 z10_,.int .u32 z16_,.int .u32 z4_.1] V4 fun r4_ V5=>∃x17_,∃x18_,r4_=.tuple #[.int .u32 x17_,.int .u32 x18_]/\(0<=z4_.2.1/\z4_.2.1 < (((i64.wrap ((maxI ((an:Nat):Int) ((bn:Nat):Int)) + (1:Int))).toNat:Nat):Int))/\((0 + (z4_.2.1.toNat * 1)) + 1<=z4_.2.2.length)/\(∃z19_:Int × Int × (List Value),m2_ z19_ < m2_ z4_/\(sm ap/\sm an/\sm ac/\sm bp/\sm bn/\sm bc/\((maxI ((an:Nat):Int) ((bn:Nat):Int))=(maxI ((an:Nat):Int) ((bn:Nat):Int)))/\sm 0/\(((i64.wrap ((maxI ((an:Nat):Int) ((bn:Nat):Int)) + (1:Int))).toNat:Nat)=(i64.wrap ((maxI ((an:Nat):Int) ((bn:Nat):Int)) + (1:Int))).toNat)/\(((i64.wrap ((maxI ((an:Nat):Int) ((bn:Nat):Int)) + (1:Int))).toNat:Nat)=(i64.wrap ((maxI ((an:Nat):Int) ((bn:Nat):Int)) + (1:Int))).toNat)/\(x18_=z19_.1)/\((i64.wrap (z4_.2.1 + (1:Int)))=z19_.2.1)/\((z4_.2.2.set (0 + (z4_.2.1.toNat * 1)) (.int .u32 x17_))=z19_.2.2))/\I1_ z19_ V5)))))))/\((decide (z4_.2.1 < (maxI ((an:Nat):Int) ((bn:Nat):Int))))=false->(0<=(maxI ((an:Nat):Int) ((bn:Nat):Int))/\(maxI ((an:Nat):Int) ((bn:Nat):Int)) < (((i64.wrap ((maxI ((an:Nat):Int) ((bn:Nat):Int)) + (1:Int))).toNat:Nat):Int))/\((0 + (((maxI ((an:Nat):Int) ((bn:Nat):Int)).toNat) * 1)) + 1<=z4_.2.2.length)/\(∀V6,V1.Le V6->∀bk20_:Nat,(V6.blk bk20_ (.cells (z4_.2.2.set (0 + (((maxI ((an:Nat):Int) ((bn:Nat):Int)).toNat) * 1)) (.int .u32 z4_.1)).toArray 244 (0,0)))->Acts prog 166 #[.slice (some ⟨bk20_,0,none⟩) ((i64.wrap ((maxI ((an:Nat):Int) ((bn:Nat):Int)) + (1:Int))).toNat) ((i64.wrap ((maxI ((an:Nat):Int) ((bn:Nat):Int)) + (1:Int))).toNat)] V6 fun r6_ V7=>∃p21_ n21_ c21_,r6_=.slice p21_ n21_ c21_/\∀J22_:C->Value,(∀V8,V7.Le V8->R (.slice p21_ n21_ c21_) V8))))))) :
  Acts prog 180 #[.slice ap an ac,.slice bp bn bc] V R:=
 fn_does (LF:=LF0) (RF:=[1000007]) (β0:=(fun _=>0)) tab_ok mixed [(5,{ τ:=Int × Int × (List Value),keep:=[0,1,5,6],keepB:=[],slots:=fun z=>[(7,.c (.v (.int .u32 z.1))),(8,.c (.v (.int .i64 z.2.1)))],boxes:=fun z=>[(18,⟨.row z.2.2,244⟩)] })] [(9,{ τ:=Int,keep:=[0,1,5,6,7,8,10],keepB:=[18],slots:=fun z=>[(9,.c (.v (.int .u32 z)))],boxes:=fun z=>[] }),(11,{ τ:=Int,keep:=[0,1,5,6,7,8,9],keepB:=[18],slots:=fun z=>[(10,.c (.v (.int .u32 z)))],boxes:=fun z=>[] })] func180 (by kernel_rfl)
  [(0,.c (.v (.slice ap an ac))),(1,.c (.v (.slice bp bn bc)))]
  [] (by kernel_rfl) trivial h (by kernel_rfl)
theorem vc_num_Less (ap:OA) (an ac:Nat) (bp:OA) (bn bc:Nat) (V:View) (R:Value->View->Prop)
  (h:(0<=((an:Nat):Int))/\(((an:Nat):Int)<=((an:Nat):Int))/\(((4:Nat):Int) * ((an:Nat):Int)<=140737488355328)/\(∃(I1_:(Int × Int × (List Value))->View->Prop) (m2_:(Int × Int × (List Value))->Nat),(∃z3_:Int × Int × (List Value),(sm ap/\sm an/\sm ac/\sm bp/\sm bn/\sm bc/\sm 0/\((((an:Nat):Int).toNat:Nat)=((an:Nat):Int).toNat)/\((((an:Nat):Int).toNat:Nat)=((an:Nat):Int).toNat)/\sm ((an:Nat):Int)/\((0:Int)=z3_.1)/\((0:Int)=z3_.2.1)/\((List.replicate (((an:Nat):Int).toNat) (.int .u32 0))=z3_.2.2))/\I1_ z3_ V)/\∀(z4_:Int × Int × (List Value)) (V1:View),V.Le V1->I1_ z4_ V1->(true=true/\(((decide (z4_.2.1 < ((an:Nat):Int)))=true->(∃I5_:Int->View->Prop,(((decide (z4_.2.1 < ((bn:Nat):Int)))=true->(bp.isSome=true)/\(0<=z4_.2.1/\z4_.2.1 < ((bn:Nat):Int))/\(∃x6_,(∃a7_,addrAdd bp (z4_.2.1.toNat * 1)=some a7_/\V1.at a7_ (.int .u32 x6_))/\(∃z8_:Int,(sm ap/\sm an/\sm ac/\sm bp/\sm bn/\sm bc/\sm 0/\((((an:Nat):Int).toNat:Nat)=((an:Nat):Int).toNat)/\((((an:Nat):Int).toNat:Nat)=((an:Nat):Int).toNat)/\sm z4_.1/\sm z4_.2.1/\sm ((an:Nat):Int)/\sm z4_.2.1/\(x6_=z8_)/\sm z4_.2.2)/\I5_ z8_ V1)))/\((decide (z4_.2.1 < ((bn:Nat):Int)))=false->(∃z9_:Int,(sm ap/\sm an/\sm ac/\sm bp/\sm bn/\sm bc/\sm 0/\((((an:Nat):Int).toNat:Nat)=((an:Nat):Int).toNat)/\((((an:Nat):Int).toNat:Nat)=((an:Nat):Int).toNat)/\sm z4_.1/\sm z4_.2.1/\sm ((an:Nat):Int)/\sm z4_.2.1/\((0:Int)=z9_)/\sm z4_.2.2)/\I5_ z9_ V1)))/\∀(z10_:Int) (V2:View),V1.Le V2->I5_ z10_ V2->(true=true/\(ap.isSome=true)/\(0<=z4_.2.1/\z4_.2.1 < ((an:Nat):Int))/\(∃x11_,(∃a12_,addrAdd ap (z4_.2.1.toNat * 1)=some a12_/\V2.at a12_ (.int .u32 x11_))/\(∀V3,V2.Le V3->Acts prog 212 #[.int .u32 x11_,.int .u32 z10_,.int .u32 z4_.1] V3 fun r3_ V4=>∃x13_,∃x14_,r3_=.tuple #[.int .u32 x13_,.int .u32 x14_]/\(0<=z4_.2.1/\z4_.2.1 < ((((an:Nat):Int).toNat:Nat):Int))/\((0 + (z4_.2.1.toNat * 1)) + 1<=z4_.2.2.length)/\(∃z15_:Int × Int × (List Value),m2_ z15_ < m2_ z4_/\(sm ap/\sm an/\sm ac/\sm bp/\sm bn/\sm bc/\sm 0/\((((an:Nat):Int).toNat:Nat)=((an:Nat):Int).toNat)/\((((an:Nat):Int).toNat:Nat)=((an:Nat):Int).toNat)/\sm ((an:Nat):Int)/\(x14_=z15_.1)/\((i64.wrap (z4_.2.1 + (1:Int)))=z15_.2.1)/\((z4_.2.2.set (0 + (z4_.2.1.toNat * 1)) (.int .u32 x13_))=z15_.2.2))/\I1_ z15_ V4))))))/\((decide (z4_.2.1 < ((an:Nat):Int)))=false->(∀V5,V1.Le V5->∀bk16_:Nat,(V5.blk bk16_ (.cells z4_.2.2.toArray 244 (0,0)))->Acts prog 166 #[.slice (some ⟨bk16_,0,none⟩) (((an:Nat):Int).toNat) (((an:Nat):Int).toNat)] V5 fun r5_ V6=>∃p17_ n17_ c17_,r5_=.slice p17_ n17_ c17_/\∀J18_:C->Value,(∀V7,V6.Le V7->R (.slice p17_ n17_ c17_) V7))))))) :
  Acts prog 181 #[.slice ap an ac,.slice bp bn bc] V R:=
 fn_does (LF:=LF0) (RF:=[1000007]) (β0:=(fun _=>0)) tab_ok mixed [(4,{ τ:=Int × Int × (List Value),keep:=[0,1,5,13],keepB:=[],slots:=fun z=>[(6,.c (.v (.int .u32 z.1))),(14,.c (.v (.int .i64 z.2.1)))],boxes:=fun z=>[(11,⟨.row z.2.2,244⟩)] })] [(8,{ τ:=Int,keep:=[0,1,5,6,7,13,14],keepB:=[11],slots:=fun z=>[(8,.c (.v (.int .u32 z)))],boxes:=fun z=>[] })] func181 (by kernel_rfl)
  [(0,.c (.v (.slice ap an ac))),(1,.c (.v (.slice bp bn bc)))]
  [] (by kernel_rfl) trivial h (by kernel_rfl)
theorem vc_num_Product (ap:OA) (an ac:Nat) (bp:OA) (bn bc:Nat) (V:View) (R:Value->View->Prop)
  (h:(((((an:Nat):Int) == (1:Int))=true->(((((bn:Nat):Int) == (1:Int))=true->(ap.isSome=true)/\(0<=(0:Int)/\(0:Int) < ((an:Nat):Int))/\(∃x1_,(∃a2_,addrAdd ap 0=some a2_/\V.at a2_ (.int .u32 x1_))/\(bp.isSome=true)/\(0<=(0:Int)/\(0:Int) < ((bn:Nat):Int))/\(∃x3_,(∃a4_,addrAdd bp 0=some a4_/\V.at a4_ (.int .u32 x3_))/\(∀V1,V.Le V1->Acts prog 121 #[.int .u64 (u64.wrap ((u64.wrap x1_) * (u64.wrap x3_)))] V1 fun r1_ V2=>∃p5_ n5_ c5_,r1_=.slice p5_ n5_ c5_/\(∀V3,V2.Le V3->R (.slice p5_ n5_ c5_) V3)))))/\((((bn:Nat):Int) == (1:Int))=false->(0<=i64.wrap (((an:Nat):Int) + ((bn:Nat):Int)))/\(i64.wrap (((an:Nat):Int) + ((bn:Nat):Int))<=i64.wrap (((an:Nat):Int) + ((bn:Nat):Int)))/\(((4:Nat):Int) * (i64.wrap (((an:Nat):Int) + ((bn:Nat):Int)))<=140737488355328)/\(∃(I6_:(Int × (List Value))->View->Prop) (m7_:(Int × (List Value))->Nat),(∃z8_:Int × (List Value),(sm bp/\sm bn/\sm bc/\sm 0/\(((i64.wrap (((an:Nat):Int) + ((bn:Nat):Int))).toNat:Nat)=(i64.wrap (((an:Nat):Int) + ((bn:Nat):Int))).toNat)/\(((i64.wrap (((an:Nat):Int) + ((bn:Nat):Int))).toNat:Nat)=(i64.wrap (((an:Nat):Int) + ((bn:Nat):Int))).toNat)/\sm ap/\sm an/\sm ac/\sm ((an:Nat):Int)/\((0:Int)=z8_.1)/\((List.replicate ((i64.wrap (((an:Nat):Int) + ((bn:Nat):Int))).toNat) (.int .u32 0))=z8_.2))/\I6_ z8_ V)/\∀(z9_:Int × (List Value)) (V4:View),V.Le V4->I6_ z9_ V4->(true=true/\(((decide (z9_.1 < ((an:Nat):Int)))=true->(ap.isSome=true)/\(0<=z9_.1/\z9_.1 < ((an:Nat):Int))/\(∃x10_,(∃a11_,addrAdd ap (z9_.1.toNat * 1)=some a11_/\V4.at a11_ (.int .u32 x10_))/\(∃(I12_:(Int × Int × (List Value))->View->Prop) (m13_:(Int × Int × (List Value))->Nat),(∃z14_:Int × Int × (List Value),(sm bp/\sm bn/\sm bc/\sm 0/\(((i64.wrap (((an:Nat):Int) + ((bn:Nat):Int))).toNat:Nat)=(i64.wrap (((an:Nat):Int) + ((bn:Nat):Int))).toNat)/\(((i64.wrap (((an:Nat):Int) + ((bn:Nat):Int))).toNat:Nat)=(i64.wrap (((an:Nat):Int) + ((bn:Nat):Int))).toNat)/\sm z9_.1/\sm x10_/\sm ap/\sm an/\sm ac/\sm ((an:Nat):Int)/\sm z9_.1/\sm bp/\sm bn/\sm bc/\sm ((bn:Nat):Int)/\((0:Int)=z14_.1)/\((0:Int)=z14_.2.1)/\(z9_.2=z14_.2.2))/\I12_ z14_ V4)/\∀(z15_:Int × Int × (List Value)) (V5:View),V4.Le V5->I12_ z15_ V5->(true=true/\(((decide (z15_.2.1 < ((bn:Nat):Int)))=true->(bp.isSome=true)/\(0<=z15_.2.1/\z15_.2.1 < ((bn:Nat):Int))/\(∃x16_,(∃a17_,addrAdd bp (z15_.2.1.toNat * 1)=some a17_/\V5.at a17_ (.int .u32 x16_))/\(0<=(i64.wrap (z9_.1 + z15_.2.1))/\(i64.wrap (z9_.1 + z15_.2.1)) < (((i64.wrap (((an:Nat):Int) + ((bn:Nat):Int))).toNat:Nat):Int))/\(∃x18_,z15_.2.2[0 + (((i64.wrap (z9_.1 + z15_.2.1)).toNat) * 1)]?=some (.int .u32 x18_)/\(0<=(i64.wrap (z9_.1 + z15_.2.1))/\(i64.wrap (z9_.1 + z15_.2.1)) < (((i64.wrap (((an:Nat):Int) + ((bn:Nat):Int))).toNat:Nat):Int))/\((0 + (((i64.wrap (z9_.1 + z15_.2.1)).toNat) * 1)) + 1<=z15_.2.2.length)/\(0<=(32:Int))/\(∃z19_:Int × Int × (List Value),m13_ z19_ < m13_ z15_/\(sm bp/\sm bn/\sm bc/\sm 0/\(((i64.wrap (((an:Nat):Int) + ((bn:Nat):Int))).toNat:Nat)=(i64.wrap (((an:Nat):Int) + ((bn:Nat):Int))).toNat)/\(((i64.wrap (((an:Nat):Int) + ((bn:Nat):Int))).toNat:Nat)=(i64.wrap (((an:Nat):Int) + ((bn:Nat):Int))).toNat)/\sm z9_.1/\sm x10_/\sm ap/\sm an/\sm ac/\sm ((an:Nat):Int)/\sm z9_.1/\sm bp/\sm bn/\sm bc/\sm ((bn:Nat):Int)/\(((u64.wrap ((u64.wrap ((u64.wrap ((u64.wrap x10_) * (u64.wrap x16_))) + (u64.wrap x18_))) + z15_.1)).fdiv (2 ^ 32))=z19_.1)/\((i64.wrap (z15_.2.1 + (1:Int)))=z19_.2.1)/\((z15_.2.2.set (0 + (((i64.wrap (z9_.1 + z15_.2.1)).toNat) * 1)) (.int .u32 (u32.wrap (u64.wrap ((u64.wrap ((u64.wrap ((u64.wrap x10_) * (u64.wrap x16_))) + (u64.wrap x18_))) + z15_.1)))))=z19_.2.2))/\I12_ z19_ V5))))/\((decide (z15_.2.1 < ((bn:Nat):Int)))=false->(0<=(i64.wrap (z9_.1 + ((bn:Nat):Int)))/\(i64.wrap (z9_.1 + ((bn:Nat):Int))) < (((i64.wrap (((an:Nat):Int) + ((bn:Nat):Int))).toNat:Nat):Int))/\((0 + (((i64.wrap (z9_.1 + ((bn:Nat):Int))).toNat) * 1)) + 1<=z15_.2.2.length)/\(∃z20_:Int × (List Value),m7_ z20_ < m7_ z9_/\(sm bp/\sm bn/\sm bc/\sm 0/\(((i64.wrap (((an:Nat):Int) + ((bn:Nat):Int))).toNat:Nat)=(i64.wrap (((an:Nat):Int) + ((bn:Nat):Int))).toNat)/\(((i64.wrap (((an:Nat):Int) + ((bn:Nat):Int))).toNat:Nat)=(i64.wrap (((an:Nat):Int) + ((bn:Nat):Int))).toNat)/\sm ap/\sm an/\sm ac/\sm ((an:Nat):Int)/\((i64.wrap (z9_.1 + (1:Int)))=z20_.1)/\((z15_.2.2.set (0 + (((i64.wrap (z9_.1 + ((bn:Nat):Int))).toNat) * 1)) (.int .u32 (u32.wrap (z15_.1))))=z20_.2))/\I6_ z20_ V5)))))))/\((decide (z9_.1 < ((an:Nat):Int)))=false->(∀V6,V4.Le V6->∀bk21_:Nat,(V6.blk bk21_ (.cells z9_.2.toArray 244 (0,0)))->Acts prog 166 #[.slice (some ⟨bk21_,0,none⟩) ((i64.wrap (((an:Nat):Int) + ((bn:Nat):Int))).toNat) ((i64.wrap (((an:Nat):Int) + ((bn:Nat):Int))).toNat)] V6 fun r6_ V7=>∃p22_ n22_ c22_,r6_=.slice p22_ n22_ c22_/\∀J23_:C->Value,(∀V8,V7.Le V8->R (.slice p22_ n22_ c22_) V8)))))))))/\((((an:Nat):Int) == (1:Int))=false->(0<=i64.wrap (((an:Nat):Int) + ((bn:Nat):Int)))/\(i64.wrap (((an:Nat):Int) + ((bn:Nat):Int))<=i64.wrap (((an:Nat):Int) + ((bn:Nat):Int)))/\(((4:Nat):Int) * (i64.wrap (((an:Nat):Int) + ((bn:Nat):Int)))<=140737488355328)/\(∃(I24_:(Int × (List Value))->View->Prop) (m25_:(Int × (List Value))->Nat),(∃z26_:Int × (List Value),(sm bp/\sm bn/\sm bc/\sm 0/\(((i64.wrap (((an:Nat):Int) + ((bn:Nat):Int))).toNat:Nat)=(i64.wrap (((an:Nat):Int) + ((bn:Nat):Int))).toNat)/\(((i64.wrap (((an:Nat):Int) + ((bn:Nat):Int))).toNat:Nat)=(i64.wrap (((an:Nat):Int) + ((bn:Nat):Int))).toNat)/\sm ap/\sm an/\sm ac/\sm ((an:Nat):Int)/\((0:Int)=z26_.1)/\((List.replicate ((i64.wrap (((an:Nat):Int) + ((bn:Nat):Int))).toNat) (.int .u32 0))=z26_.2))/\I24_ z26_ V)/\∀(z27_:Int × (List Value)) (V9:View),V.Le V9->I24_ z27_ V9->(true=true/\(((decide (z27_.1 < ((an:Nat):Int)))=true->(ap.isSome=true)/\(0<=z27_.1/\z27_.1 < ((an:Nat):Int))/\(∃x28_,(∃a29_,addrAdd ap (z27_.1.toNat * 1)=some a29_/\V9.at a29_ (.int .u32 x28_))/\(∃(I30_:(Int × Int × (List Value))->View->Prop) (m31_:(Int × Int × (List Value))->Nat),(∃z32_:Int × Int × (List Value),(sm bp/\sm bn/\sm bc/\sm 0/\(((i64.wrap (((an:Nat):Int) + ((bn:Nat):Int))).toNat:Nat)=(i64.wrap (((an:Nat):Int) + ((bn:Nat):Int))).toNat)/\(((i64.wrap (((an:Nat):Int) + ((bn:Nat):Int))).toNat:Nat)=(i64.wrap (((an:Nat):Int) + ((bn:Nat):Int))).toNat)/\sm z27_.1/\sm x28_/\sm ap/\sm an/\sm ac/\sm ((an:Nat):Int)/\sm z27_.1/\sm bp/\sm bn/\sm bc/\sm ((bn:Nat):Int)/\((0:Int)=z32_.1)/\((0:Int)=z32_.2.1)/\(z27_.2=z32_.2.2))/\I30_ z32_ V9)/\∀(z33_:Int × Int × (List Value)) (V10:View),V9.Le V10->I30_ z33_ V10->(true=true/\(((decide (z33_.2.1 < ((bn:Nat):Int)))=true->(bp.isSome=true)/\(0<=z33_.2.1/\z33_.2.1 < ((bn:Nat):Int))/\(∃x34_,(∃a35_,addrAdd bp (z33_.2.1.toNat * 1)=some a35_/\V10.at a35_ (.int .u32 x34_))/\(0<=(i64.wrap (z27_.1 + z33_.2.1))/\(i64.wrap (z27_.1 + z33_.2.1)) < (((i64.wrap (((an:Nat):Int) + ((bn:Nat):Int))).toNat:Nat):Int))/\(∃x36_,z33_.2.2[0 + (((i64.wrap (z27_.1 + z33_.2.1)).toNat) * 1)]?=some (.int .u32 x36_)/\(0<=(i64.wrap (z27_.1 + z33_.2.1))/\(i64.wrap (z27_.1 + z33_.2.1)) < (((i64.wrap (((an:Nat):Int) + ((bn:Nat):Int))).toNat:Nat):Int))/\((0 + (((i64.wrap (z27_.1 + z33_.2.1)).toNat) * 1)) + 1<=z33_.2.2.length)/\(0<=(32:Int))/\(∃z37_:Int × Int × (List Value),m31_ z37_ < m31_ z33_/\(sm bp/\sm bn/\sm bc/\sm 0/\(((i64.wrap (((an:Nat):Int) + ((bn:Nat):Int))).toNat:Nat)=(i64.wrap (((an:Nat):Int) + ((bn:Nat):Int))).toNat)/\(((i64.wrap (((an:Nat):Int) + ((bn:Nat):Int))).toNat:Nat)=(i64.wrap (((an:Nat):Int) + ((bn:Nat):Int))).toNat)/\sm z27_.1/\sm x28_/\sm ap/\sm an/\sm ac/\sm ((an:Nat):Int)/\sm z27_.1/\sm bp/\sm bn/\sm bc/\sm ((bn:Nat):Int)/\(((u64.wrap ((u64.wrap ((u64.wrap ((u64.wrap x28_) * (u64.wrap x34_))) + (u64.wrap x36_))) + z33_.1)).fdiv (2 ^ 32))=z37_.1)/\((i64.wrap (z33_.2.1 + (1:Int)))=z37_.2.1)/\((z33_.2.2.set (0 + (((i64.wrap (z27_.1 + z33_.2.1)).toNat) * 1)) (.int .u32 (u32.wrap (u64.wrap ((u64.wrap ((u64.wrap ((u64.wrap x28_) * (u64.wrap x34_))) + (u64.wrap x36_))) + z33_.1)))))=z37_.2.2))/\I30_ z37_ V10))))/\((decide (z33_.2.1 < ((bn:Nat):Int)))=false->(0<=(i64.wrap (z27_.1 + ((bn:Nat):Int)))/\(i64.wrap (z27_.1 + ((bn:Nat):Int))) < (((i64.wrap (((an:Nat):Int) + ((bn:Nat):Int))).toNat:Nat):Int))/\((0 + (((i64.wrap (z27_.1 + ((bn:Nat):Int))).toNat) * 1)) + 1<=z33_.2.2.length)/\(∃z38_:Int × (List Value),m25_ z38_ < m25_ z27_/\(sm bp/\sm bn/\sm bc/\sm 0/\(((i64.wrap (((an:Nat):Int) + ((bn:Nat):Int))).toNat:Nat)=(i64.wrap (((an:Nat):Int) + ((bn:Nat):Int))).toNat)/\(((i64.wrap (((an:Nat):Int) + ((bn:Nat):Int))).toNat:Nat)=(i64.wrap (((an:Nat):Int) + ((bn:Nat):Int))).toNat)/\sm ap/\sm an/\sm ac/\sm ((an:Nat):Int)/\((i64.wrap (z27_.1 + (1:Int)))=z38_.1)/\((z33_.2.2.set (0 + (((i64.wrap (z27_.1 + ((bn:Nat):Int))).toNat) * 1)) (.int .u32 (u32.wrap (z33_.1))))=z38_.2))/\I24_ z38_ V10)))))))/\((decide (z27_.1 < ((an:Nat):Int)))=false->(∀V11,V9.Le V11->∀bk39_:Nat,(V11.blk bk39_ (.cells z27_.2.toArray 244 (0,0)))->Acts prog 166 #[.slice (some ⟨bk39_,0,none⟩) ((i64.wrap (((an:Nat):Int) + ((bn:Nat):Int))).toNat) ((i64.wrap (((an:Nat):Int) + ((bn:Nat):Int))).toNat)] V11 fun r11_ V12=>∃p40_ n40_ c40_,r11_=.slice p40_ n40_ c40_/\∀J41_:C->Value,(∀V13,V12.Le V13->R (.slice p40_ n40_ c40_) V13))))))))) :
  Acts prog 108 #[.slice ap an ac,.slice bp bn bc] V R:=
 fn_does (LF:=LF0) (RF:=[1000007]) (β0:=(fun _=>0)) tab_ok mixed [(5,{ τ:=Int × (List Value),keep:=[1,5,36,37],keepB:=[],slots:=fun z=>[(38,.c (.v (.int .i64 z.1)))],boxes:=fun z=>[(35,⟨.row z.2,244⟩)] }),(9,{ τ:=Int × Int × (List Value),keep:=[1,5,6,7,36,37,38,43,44],keepB:=[],slots:=fun z=>[(8,.c (.v (.int .u64 z.1))),(45,.c (.v (.int .i64 z.2.1)))],boxes:=fun z=>[(35,⟨.row z.2.2,244⟩)] })] [] func108 (by kernel_rfl)
  [(0,.c (.v (.slice ap an ac))),(1,.c (.v (.slice bp bn bc)))]
  [] (by kernel_rfl) trivial h (by kernel_rfl)
theorem vc_num_Left (ap:OA) (an ac:Nat) (k:Int) (V:View) (R:Value->View->Prop)
  (h:((32:Int)≠0)/\(0<=i64.wrap ((i64.wrap ((i64.wrap (k.tdiv (32:Int))) + ((an:Nat):Int))) + (1:Int)))/\(i64.wrap ((i64.wrap ((i64.wrap (k.tdiv (32:Int))) + ((an:Nat):Int))) + (1:Int))<=i64.wrap ((i64.wrap ((i64.wrap (k.tdiv (32:Int))) + ((an:Nat):Int))) + (1:Int)))/\(((4:Nat):Int) * (i64.wrap ((i64.wrap ((i64.wrap (k.tdiv (32:Int))) + ((an:Nat):Int))) + (1:Int)))<=140737488355328)/\((32:Int)≠0)/\(∃(I1_:(Int × (List Value))->View->Prop) (m2_:(Int × (List Value))->Nat),(∃z3_:Int × (List Value),((k=k)/\sm 0/\(((i64.wrap ((i64.wrap ((i64.wrap (k.tdiv (32:Int))) + ((an:Nat):Int))) + (1:Int))).toNat:Nat)=(i64.wrap ((i64.wrap ((i64.wrap (k.tdiv (32:Int))) + ((an:Nat):Int))) + (1:Int))).toNat)/\(((i64.wrap ((i64.wrap ((i64.wrap (k.tdiv (32:Int))) + ((an:Nat):Int))) + (1:Int))).toNat:Nat)=(i64.wrap ((i64.wrap ((i64.wrap (k.tdiv (32:Int))) + ((an:Nat):Int))) + (1:Int))).toNat)/\((u64.wrap (k.tmod (32:Int)))=(u64.wrap (k.tmod (32:Int))))/\sm ap/\sm an/\sm ac/\sm ((an:Nat):Int)/\((0:Int)=z3_.1)/\((List.replicate ((i64.wrap ((i64.wrap ((i64.wrap (k.tdiv (32:Int))) + ((an:Nat):Int))) + (1:Int))).toNat) (.int .u32 0))=z3_.2))/\I1_ z3_ V)/\∀(z4_:Int × (List Value)) (V1:View),V.Le V1->I1_ z4_ V1->(true=true/\(((decide (z4_.1 < ((an:Nat):Int)))=true->(ap.isSome=true)/\(0<=z4_.1/\z4_.1 < ((an:Nat):Int))/\(∃x5_,(∃a6_,addrAdd ap (z4_.1.toNat * 1)=some a6_/\V1.at a6_ (.int .u32 x5_))/\(0<=(u64.wrap (k.tmod (32:Int))))/\((32:Int)≠0)/\(0<=(i64.wrap ((i64.wrap (k.tdiv (32:Int))) + z4_.1))/\(i64.wrap ((i64.wrap (k.tdiv (32:Int))) + z4_.1)) < (((i64.wrap ((i64.wrap ((i64.wrap (k.tdiv (32:Int))) + ((an:Nat):Int))) + (1:Int))).toNat:Nat):Int))/\(∃x7_,z4_.2[0 + (((i64.wrap ((i64.wrap (k.tdiv (32:Int))) + z4_.1)).toNat) * 1)]?=some (.int .u32 x7_)/\(0<=(i64.wrap ((i64.wrap (k.tdiv (32:Int))) + z4_.1))/\(i64.wrap ((i64.wrap (k.tdiv (32:Int))) + z4_.1)) < (((i64.wrap ((i64.wrap ((i64.wrap (k.tdiv (32:Int))) + ((an:Nat):Int))) + (1:Int))).toNat:Nat):Int))/\((0 + (((i64.wrap ((i64.wrap (k.tdiv (32:Int))) + z4_.1)).toNat) * 1)) + 1<=z4_.2.length)/\((32:Int)≠0)/\(0<=(i64.wrap ((i64.wrap ((i64.wrap (k.tdiv (32:Int))) + z4_.1)) + (1:Int)))/\(i64.wrap ((i64.wrap ((i64.wrap (k.tdiv (32:Int))) + z4_.1)) + (1:Int))) < (((i64.wrap ((i64.wrap ((i64.wrap (k.tdiv (32:Int))) + ((an:Nat):Int))) + (1:Int))).toNat:Nat):Int))/\(∃x8_,(z4_.2.set (0 + (((i64.wrap ((i64.wrap (k.tdiv (32:Int))) + z4_.1)).toNat) * 1)) (.int .u32 (bitI .or .u32 x7_ (u32.wrap (u64.wrap ((u64.wrap x5_) * 2 ^ (min (u64.wrap (k.tmod (32:Int))).toNat IntKind.u64.bits)))))))[0 + (((i64.wrap ((i64.wrap ((i64.wrap (k.tdiv (32:Int))) + z4_.1)) + (1:Int))).toNat) * 1)]?=some (.int .u32 x8_)/\(0<=(32:Int))/\(0<=(i64.wrap ((i64.wrap ((i64.wrap (k.tdiv (32:Int))) + z4_.1)) + (1:Int)))/\(i64.wrap ((i64.wrap ((i64.wrap (k.tdiv (32:Int))) + z4_.1)) + (1:Int))) < (((i64.wrap ((i64.wrap ((i64.wrap (k.tdiv (32:Int))) + ((an:Nat):Int))) + (1:Int))).toNat:Nat):Int))/\((0 + (((i64.wrap ((i64.wrap ((i64.wrap (k.tdiv (32:Int))) + z4_.1)) + (1:Int))).toNat) * 1)) + 1<=(z4_.2.set (0 + (((i64.wrap ((i64.wrap (k.tdiv (32:Int))) + z4_.1)).toNat) * 1)) (.int .u32 (bitI .or .u32 x7_ (u32.wrap (u64.wrap ((u64.wrap x5_) * 2 ^ (min (u64.wrap (k.tmod (32:Int))).toNat IntKind.u64.bits))))))).length)/\(∃z9_:Int × (List Value),m2_ z9_ < m2_ z4_/\((k=k)/\sm 0/\(((i64.wrap ((i64.wrap ((i64.wrap (k.tdiv (32:Int))) + ((an:Nat):Int))) + (1:Int))).toNat:Nat)=(i64.wrap ((i64.wrap ((i64.wrap (k.tdiv (32:Int))) + ((an:Nat):Int))) + (1:Int))).toNat)/\(((i64.wrap ((i64.wrap ((i64.wrap (k.tdiv (32:Int))) + ((an:Nat):Int))) + (1:Int))).toNat:Nat)=(i64.wrap ((i64.wrap ((i64.wrap (k.tdiv (32:Int))) + ((an:Nat):Int))) + (1:Int))).toNat)/\((u64.wrap (k.tmod (32:Int)))=(u64.wrap (k.tmod (32:Int))))/\sm ap/\sm an/\sm ac/\sm ((an:Nat):Int)/\((i64.wrap (z4_.1 + (1:Int)))=z9_.1)/\(((z4_.2.set (0 + (((i64.wrap ((i64.wrap (k.tdiv (32:Int))) + z4_.1)).toNat) * 1)) (.int .u32 (bitI .or .u32 x7_ (u32.wrap (u64.wrap ((u64.wrap x5_) * 2 ^ (min (u64.wrap (k.tmod (32:Int))).toNat IntKind.u64.bits))))))).set (0 + (((i64.wrap ((i64.wrap ((i64.wrap (k.tdiv (32:Int))) + z4_.1)) + (1:Int))).toNat) * 1)) (.int .u32 (bitI .or .u32 x8_ (u32.wrap ((u64.wrap ((u64.wrap x5_) * 2 ^ (min (u64.wrap (k.tmod (32:Int))).toNat IntKind.u64.bits))).fdiv (2 ^ 32))))))=z9_.2))/\I1_ z9_ V1)))))/\((decide (z4_.1 < ((an:Nat):Int)))=false->(∀V2,V1.Le V2->∀bk10_:Nat,(V2.blk bk10_ (.cells z4_.2.toArray 244 (0,0)))->Acts prog 166 #[.slice (some ⟨bk10_,0,none⟩) ((i64.wrap ((i64.wrap ((i64.wrap (k.tdiv (32:Int))) + ((an:Nat):Int))) + (1:Int))).toNat) ((i64.wrap ((i64.wrap ((i64.wrap (k.tdiv (32:Int))) + ((an:Nat):Int))) + (1:Int))).toNat)] V2 fun r2_ V3=>∃p11_ n11_ c11_,r2_=.slice p11_ n11_ c11_/\∀J12_:C->Value,(∀V4,V3.Le V4->R (.slice p11_ n11_ c11_) V4))))))) :
  Acts prog 224 #[.slice ap an ac,.int .i64 k] V R:=
 fn_does (LF:=LF0) (RF:=[1000007]) (β0:=(fun _=>0)) tab_ok mixed [(4,{ τ:=Int × (List Value),keep:=[1,5,6,20,21],keepB:=[],slots:=fun z=>[(22,.c (.v (.int .i64 z.1)))],boxes:=fun z=>[(16,⟨.row z.2,244⟩)] })] [] func224 (by kernel_rfl)
  [(0,.c (.v (.slice ap an ac))),(1,.c (.v (.int .i64 k)))]
  [] (by kernel_rfl) trivial h (by kernel_rfl)
theorem vc_num_Right (ap:OA) (an ac:Nat) (k:Int) (V:View) (R:Value->View->Prop)
  (h:((32:Int)≠0)/\(((decide ((i64.wrap (k.tdiv (32:Int))) ≥ ((an:Nat):Int)))=true->(∀V1,V.Le V1->R (.slice none 0 0) V1))/\((decide ((i64.wrap (k.tdiv (32:Int))) ≥ ((an:Nat):Int)))=false->((32:Int)≠0)/\((32:Int)≠0)/\(0<=(i64.wrap (k.tdiv (32:Int)))/\(i64.wrap (k.tdiv (32:Int)))<=((an:Nat):Int))/\(0<=((an - ((i64.wrap (k.tdiv (32:Int))).toNat):Nat):Int))/\(((an - ((i64.wrap (k.tdiv (32:Int))).toNat):Nat):Int)<=((an - ((i64.wrap (k.tdiv (32:Int))).toNat):Nat):Int))/\(((4:Nat):Int) * ((an - ((i64.wrap (k.tdiv (32:Int))).toNat):Nat):Int)<=140737488355328)/\(∃(I1_:(Int × (List Value))->View->Prop) (m2_:(Int × (List Value))->Nat),(∃z3_:Int × (List Value),(((u64.wrap (k.tmod (32:Int)))=(u64.wrap (k.tmod (32:Int))))/\((slA ap ac ((i64.wrap (k.tdiv (32:Int))).toNat) 1:OA)=(slA ap ac ((i64.wrap (k.tdiv (32:Int))).toNat) 1))/\((an - ((i64.wrap (k.tdiv (32:Int))).toNat):Nat)=(an - ((i64.wrap (k.tdiv (32:Int))).toNat)))/\((ac - ((i64.wrap (k.tdiv (32:Int))).toNat):Nat)=(ac - ((i64.wrap (k.tdiv (32:Int))).toNat)))/\sm 0/\((((an - ((i64.wrap (k.tdiv (32:Int))).toNat):Nat):Int).toNat:Nat)=((an - ((i64.wrap (k.tdiv (32:Int))).toNat):Nat):Int).toNat)/\((((an - ((i64.wrap (k.tdiv (32:Int))).toNat):Nat):Int).toNat:Nat)=((an - ((i64.wrap (k.tdiv (32:Int))).toNat):Nat):Int).toNat)/\((slA ap ac ((i64.wrap (k.tdiv (32:Int))).toNat) 1:OA)=(slA ap ac ((i64.wrap (k.tdiv (32:Int))).toNat) 1))/\((an - ((i64.wrap (k.tdiv (32:Int))).toNat):Nat)=(an - ((i64.wrap (k.tdiv (32:Int))).toNat)))/\((ac - ((i64.wrap (k.tdiv (32:Int))).toNat):Nat)=(ac - ((i64.wrap (k.tdiv (32:Int))).toNat)))/\(((an - ((i64.wrap (k.tdiv (32:Int))).toNat):Nat):Int)=((an - ((i64.wrap (k.tdiv (32:Int))).toNat):Nat):Int))/\((0:Int)=z3_.1)/\((List.replicate (((an - ((i64.wrap (k.tdiv (32:Int))).toNat):Nat):Int).toNat) (.int .u32 0))=z3_.2))/\I1_ z3_ V)/\∀(z4_:Int × (List Value)) (V2:View),V.Le V2->I1_ z4_ V2->(true=true/\(((decide (z4_.1 < ((an - ((i64.wrap (k.tdiv (32:Int))).toNat):Nat):Int)))=true->((slA ap ac ((i64.wrap (k.tdiv (32:Int))).toNat) 1).isSome=true)/\(0<=z4_.1/\z4_.1 < ((an - ((i64.wrap (k.tdiv (32:Int))).toNat):Nat):Int))/\(∃x5_,(∃a6_,addrAdd (slA ap ac ((i64.wrap (k.tdiv (32:Int))).toNat) 1) (z4_.1.toNat * 1)=some a6_/\V2.at a6_ (.int .u32 x5_))/\(∃I7_:Int->View->Prop,(((decide ((i64.wrap (z4_.1 + (1:Int))) < ((an - ((i64.wrap (k.tdiv (32:Int))).toNat):Nat):Int)))=true->((slA ap ac ((i64.wrap (k.tdiv (32:Int))).toNat) 1).isSome=true)/\(0<=(i64.wrap (z4_.1 + (1:Int)))/\(i64.wrap (z4_.1 + (1:Int))) < ((an - ((i64.wrap (k.tdiv (32:Int))).toNat):Nat):Int))/\(∃x8_,(∃a9_,addrAdd (slA ap ac ((i64.wrap (k.tdiv (32:Int))).toNat) 1) (((i64.wrap (z4_.1 + (1:Int))).toNat) * 1)=some a9_/\V2.at a9_ (.int .u32 x8_))/\(0<=(32:Int))/\(∃z10_:Int,(((u64.wrap (k.tmod (32:Int)))=(u64.wrap (k.tmod (32:Int))))/\((slA ap ac ((i64.wrap (k.tdiv (32:Int))).toNat) 1:OA)=(slA ap ac ((i64.wrap (k.tdiv (32:Int))).toNat) 1))/\((an - ((i64.wrap (k.tdiv (32:Int))).toNat):Nat)=(an - ((i64.wrap (k.tdiv (32:Int))).toNat)))/\((ac - ((i64.wrap (k.tdiv (32:Int))).toNat):Nat)=(ac - ((i64.wrap (k.tdiv (32:Int))).toNat)))/\sm 0/\((((an - ((i64.wrap (k.tdiv (32:Int))).toNat):Nat):Int).toNat:Nat)=((an - ((i64.wrap (k.tdiv (32:Int))).toNat):Nat):Int).toNat)/\((((an - ((i64.wrap (k.tdiv (32:Int))).toNat):Nat):Int).toNat:Nat)=((an - ((i64.wrap (k.tdiv (32:Int))).toNat):Nat):Int).toNat)/\sm z4_.1/\((slA ap ac ((i64.wrap (k.tdiv (32:Int))).toNat) 1:OA)=(slA ap ac ((i64.wrap (k.tdiv (32:Int))).toNat) 1))/\((an - ((i64.wrap (k.tdiv (32:Int))).toNat):Nat)=(an - ((i64.wrap (k.tdiv (32:Int))).toNat)))/\((ac - ((i64.wrap (k.tdiv (32:Int))).toNat):Nat)=(ac - ((i64.wrap (k.tdiv (32:Int))).toNat)))/\(((an - ((i64.wrap (k.tdiv (32:Int))).toNat):Nat):Int)=((an - ((i64.wrap (k.tdiv (32:Int))).toNat):Nat):Int))/\sm z4_.1/\((bitI .or .u64 (u64.wrap x5_) (u64.wrap ((u64.wrap x8_) * 2 ^ 32)))=z10_)/\sm z4_.2)/\I7_ z10_ V2)))/\((decide ((i64.wrap (z4_.1 + (1:Int))) < ((an - ((i64.wrap (k.tdiv (32:Int))).toNat):Nat):Int)))=false->(∃z11_:Int,(((u64.wrap (k.tmod (32:Int)))=(u64.wrap (k.tmod (32:Int))))/\((slA ap ac ((i64.wrap (k.tdiv (32:Int))).toNat) 1:OA)=(slA ap ac ((i64.wrap (k.tdiv (32:Int))).toNat) 1))/\((an - ((i64.wrap (k.tdiv (32:Int))).toNat):Nat)=(an - ((i64.wrap (k.tdiv (32:Int))).toNat)))/\((ac - ((i64.wrap (k.tdiv (32:Int))).toNat):Nat)=(ac - ((i64.wrap (k.tdiv (32:Int))).toNat)))/\sm 0/\((((an - ((i64.wrap (k.tdiv (32:Int))).toNat):Nat):Int).toNat:Nat)=((an - ((i64.wrap (k.tdiv (32:Int))).toNat):Nat):Int).toNat)/\((((an - ((i64.wrap (k.tdiv (32:Int))).toNat):Nat):Int).toNat:Nat)=((an - ((i64.wrap (k.tdiv (32:Int))).toNat):Nat):Int).toNat)/\sm z4_.1/\((slA ap ac ((i64.wrap (k.tdiv (32:Int))).toNat) 1:OA)=(slA ap ac ((i64.wrap (k.tdiv (32:Int))).toNat) 1))/\((an - ((i64.wrap (k.tdiv (32:Int))).toNat):Nat)=(an - ((i64.wrap (k.tdiv (32:Int))).toNat)))/\((ac - ((i64.wrap (k.tdiv (32:Int))).toNat):Nat)=(ac - ((i64.wrap (k.tdiv (32:Int))).toNat)))/\(((an - ((i64.wrap (k.tdiv (32:Int))).toNat):Nat):Int)=((an - ((i64.wrap (k.tdiv (32:Int))).toNat):Nat):Int))/\sm z4_.1/\((u64.wrap x5_)=z11_)/\sm z4_.2)/\I7_ z11_ V2)))/\∀(z12_:Int) (V3:View),V2.Le V3->I7_ z12_ V3->(true=true/\(0<=(u64.wrap (k.tmod (32:Int))))/\(0<=z4_.1/\z4_.1 < ((((an - ((i64.wrap (k.tdiv (32:Int))).toNat):Nat):Int).toNat:Nat):Int))/\((0 + (z4_.1.toNat * 1)) + 1<=z4_.2.length)/\(∃z13_:Int × (List Value),m2_ z13_ < m2_ z4_/\(((u64.wrap (k.tmod (32:Int)))=(u64.wrap (k.tmod (32:Int))))/\((slA ap ac ((i64.wrap (k.tdiv (32:Int))).toNat) 1:OA)=(slA ap ac ((i64.wrap (k.tdiv (32:Int))).toNat) 1))/\((an - ((i64.wrap (k.tdiv (32:Int))).toNat):Nat)=(an - ((i64.wrap (k.tdiv (32:Int))).toNat)))/\((ac - ((i64.wrap (k.tdiv (32:Int))).toNat):Nat)=(ac - ((i64.wrap (k.tdiv (32:Int))).toNat)))/\sm 0/\((((an - ((i64.wrap (k.tdiv (32:Int))).toNat):Nat):Int).toNat:Nat)=((an - ((i64.wrap (k.tdiv (32:Int))).toNat):Nat):Int).toNat)/\((((an - ((i64.wrap (k.tdiv (32:Int))).toNat):Nat):Int).toNat:Nat)=((an - ((i64.wrap (k.tdiv (32:Int))).toNat):Nat):Int).toNat)/\((slA ap ac ((i64.wrap (k.tdiv (32:Int))).toNat) 1:OA)=(slA ap ac ((i64.wrap (k.tdiv (32:Int))).toNat) 1))/\((an - ((i64.wrap (k.tdiv (32:Int))).toNat):Nat)=(an - ((i64.wrap (k.tdiv (32:Int))).toNat)))/\((ac - ((i64.wrap (k.tdiv (32:Int))).toNat):Nat)=(ac - ((i64.wrap (k.tdiv (32:Int))).toNat)))/\(((an - ((i64.wrap (k.tdiv (32:Int))).toNat):Nat):Int)=((an - ((i64.wrap (k.tdiv (32:Int))).toNat):Nat):Int))/\((i64.wrap (z4_.1 + (1:Int)))=z13_.1)/\((z4_.2.set (0 + (z4_.1.toNat * 1)) (.int .u32 (u32.wrap (z12_.fdiv (2 ^ (min (u64.wrap (k.tmod (32:Int))).toNat IntKind.u64.bits))))))=z13_.2))/\I1_ z13_ V3)))))/\((decide (z4_.1 < ((an - ((i64.wrap (k.tdiv (32:Int))).toNat):Nat):Int)))=false->(∀V4,V2.Le V4->∀bk14_:Nat,(V4.blk bk14_ (.cells z4_.2.toArray 244 (0,0)))->Acts prog 166 #[.slice (some ⟨bk14_,0,none⟩) (((an - ((i64.wrap (k.tdiv (32:Int))).toNat):Nat):Int).toNat) (((an - ((i64.wrap (k.tdiv (32:Int))).toNat):Nat):Int).toNat)] V4 fun r4_ V5=>∃p15_ n15_ c15_,r4_=.slice p15_ n15_ c15_/\∀J16_:C->Value,(∀V6,V5.Le V6->R (.slice p15_ n15_ c15_) V6))))))))) :
  Acts prog 225 #[.slice ap an ac,.int .i64 k] V R:=
 fn_does (LF:=LF0) (RF:=[1000007]) (β0:=(fun _=>0)) tab_ok mixed [(7,{ τ:=Int × (List Value),keep:=[5,6,7,26,27],keepB:=[],slots:=fun z=>[(28,.c (.v (.int .i64 z.1)))],boxes:=fun z=>[(25,⟨.row z.2,244⟩)] })] [(11,{ τ:=Int,keep:=[5,6,7,8,26,27,28],keepB:=[25],slots:=fun z=>[(10,.c (.v (.int .u64 z)))],boxes:=fun z=>[] })] func225 (by kernel_rfl)
  [(0,.c (.v (.slice ap an ac))),(1,.c (.v (.int .i64 k)))]
  [] (by kernel_rfl) trivial h (by kernel_rfl)
theorem vc_num_word (ap:OA) (an ac:Nat) (V:View) (R:Value->View->Prop)
  (h:(((((an:Nat):Int) == (0:Int))=true->(∀V1,V.Le V1->R (.tuple #[.int .u64 0,.bool true]) V1))/\((((an:Nat):Int) == (0:Int))=false->(((((an:Nat):Int) == (1:Int))=true->(ap.isSome=true)/\(0<=(0:Int)/\(0:Int) < ((an:Nat):Int))/\(∃x1_,(∃a2_,addrAdd ap 0=some a2_/\V.at a2_ (.int .u32 x1_))/\(∀V2,V.Le V2->R (.tuple #[.int .u64 (u64.wrap x1_),.bool true]) V2)))/\((((an:Nat):Int) == (1:Int))=false->(((((an:Nat):Int) == (2:Int))=true->(ap.isSome=true)/\(0<=(1:Int)/\(1:Int) < ((an:Nat):Int))/\(∃x3_,(∃a4_,addrAdd ap 1=some a4_/\V.at a4_ (.int .u32 x3_))/\(0<=(32:Int))/\(ap.isSome=true)/\(0<=(0:Int)/\(0:Int) < ((an:Nat):Int))/\(∃x5_,(∃a6_,addrAdd ap 0=some a6_/\V.at a6_ (.int .u32 x5_))/\(∀V3,V.Le V3->R (.tuple #[.int .u64 (bitI .or .u64 (u64.wrap ((u64.wrap x3_) * 2 ^ 32)) (u64.wrap x5_)),.bool true]) V3))))/\((((an:Nat):Int) == (2:Int))=false->(∀V4,V.Le V4->R (.tuple #[.int .u64 0,.bool false]) V4)))))))) :
  Acts prog 178 #[.slice ap an ac] V R:=
 fn_does (LF:=LF0) (RF:=[1000007]) (β0:=(fun _=>0)) tab_ok mixed [] [] func178 (by kernel_rfl)
  [(0,.c (.v (.slice ap an ac)))]
  [] (by kernel_rfl) trivial h (by kernel_rfl)
theorem vc_num_Divide (ap:OA) (an ac:Nat) (bp:OA) (bn bc:Nat) (V:View) (R:Value->View->Prop)
  (h:(∀V1,V.Le V1->Acts prog 178 #[.slice ap an ac] V1 fun r1_ V2=>∃x1_,∃b2_,r1_=.tuple #[.int .u64 x1_,.bool b2_]/\(∃I3_:Unit->View->Prop,((b2_=true->(∀V3,V2.Le V3->Acts prog 178 #[.slice bp bn bc] V3 fun r3_ V4=>∃x4_,∃b5_,r3_=.tuple #[.int .u64 x4_,.bool b5_]/\((b5_=true->(x4_≠0)/\(x4_≠0)/\(∀V5,V4.Le V5->Acts prog 121 #[.int .u64 (u64.wrap (x1_.tdiv x4_))] V5 fun r5_ V6=>∃p6_ n6_ c6_,r5_=.slice p6_ n6_ c6_/\(∀V7,V6.Le V7->Acts prog 121 #[.int .u64 (x1_.tmod x4_)] V7 fun r7_ V8=>∃p7_ n7_ c7_,r7_=.slice p7_ n7_ c7_/\(∀V9,V8.Le V9->R (.tuple #[.slice p6_ n6_ c6_,.slice p7_ n7_ c7_]) V9))))/\(b5_=false->(∃z8_:Unit,(sm ap/\sm an/\sm ac/\sm bp/\sm bn/\sm bc)/\I3_ z8_ V4)))))/\(b2_=false->(∃z9_:Unit,(sm ap/\sm an/\sm ac/\sm bp/\sm bn/\sm bc)/\I3_ z9_ V2)))/\∀(z10_:Unit) (V10:View),V2.Le V10->I3_ z10_ V10->(true=true/\(∀V11,V10.Le V11->Acts prog 134 #[.slice ap an ac,.slice bp bn bc] V11 fun r11_ V12=>∃x11_,r11_=.int .i64 x11_/\(((decide (x11_ < (0:Int)))=true->(∃xs12_:List Value,V12.sl ap xs12_/\xs12_.length=an * 1/\((0 + an) * 4<=140737488355328/\0<=0/\0 * 1<=([]:List Value).length/\xs12_.length=an * 1/\(∀v ∈ xs12_,v.oneCell'=true)/\∀(bk15_:Nat) (J16_:C->Value) (sp13_:List Value) (c14_:Nat),0 + an<=c14_->c14_ * 1<=(0 + an) * 1 + sp13_.length->(∀V13,V12.Le V13->∀bk17_:Nat,(V13.blk bk17_ (.cells (([]:List Value).take (0 * 1)++xs12_++sp13_).toArray 244 (0,0)))->R (.tuple #[.slice none 0 0,.slice (some ⟨bk17_,0,none⟩) (0 + an) c14_]) V13))))/\((decide (x11_ < (0:Int)))=false->(((((bn:Nat):Int) == (1:Int))=true->(0<=((an:Nat):Int))/\(((an:Nat):Int)<=((an:Nat):Int))/\(((4:Nat):Int) * ((an:Nat):Int)<=140737488355328)/\(∃(I18_:(Int × Int × (List Value))->View->Prop) (m19_:(Int × Int × (List Value))->Nat),(∃z20_:Int × Int × (List Value),(sm ap/\sm an/\sm ac/\sm bp/\sm bn/\sm bc/\sm 0/\((((an:Nat):Int).toNat:Nat)=((an:Nat):Int).toNat)/\((((an:Nat):Int).toNat:Nat)=((an:Nat):Int).toNat)/\((0:Int)=z20_.1)/\((i64.wrap (((an:Nat):Int) - (1:Int)))=z20_.2.1)/\((List.replicate (((an:Nat):Int).toNat) (.int .u32 0))=z20_.2.2))/\I18_ z20_ V12)/\∀(z21_:Int × Int × (List Value)) (V14:View),V12.Le V14->I18_ z21_ V14->(true=true/\(((decide (z21_.2.1 ≥ (0:Int)))=true->(ap.isSome=true)/\(0<=z21_.2.1/\z21_.2.1 < ((an:Nat):Int))/\(∃x22_,(∃a23_,addrAdd ap (z21_.2.1.toNat * 1)=some a23_/\V14.at a23_ (.int .u32 x22_))/\(bp.isSome=true)/\(0<=(0:Int)/\(0:Int) < ((bn:Nat):Int))/\(∃x24_,(∃a25_,addrAdd bp 0=some a25_/\V14.at a25_ (.int .u32 x24_))/\(∀V15,V14.Le V15->Acts prog 207 #[.int .u32 z21_.1,.int .u32 x22_,.int .u32 x24_] V15 fun r15_ V16=>∃x26_,∃x27_,r15_=.tuple #[.int .u32 x26_,.int .u32 x27_]/\(0<=z21_.2.1/\z21_.2.1 < ((((an:Nat):Int).toNat:Nat):Int))/\((0 + (z21_.2.1.toNat * 1)) + 1<=z21_.2.2.length)/\(∃z28_:Int × Int × (List Value),m19_ z28_ < m19_ z21_/\(sm ap/\sm an/\sm ac/\sm bp/\sm bn/\sm bc/\sm 0/\((((an:Nat):Int).toNat:Nat)=((an:Nat):Int).toNat)/\((((an:Nat):Int).toNat:Nat)=((an:Nat):Int).toNat)/\(x27_=z28_.1)/\((i64.wrap (z21_.2.1 - (1:Int)))=z28_.2.1)/\((z21_.2.2.set (0 + (z21_.2.1.toNat * 1)) (.int .u32 x26_))=z28_.2.2))/\I18_ z28_ V16)))))/\((decide (z21_.2.1 ≥ (0:Int)))=false->(∀V17,V14.Le V17->∀bk29_:Nat,(V17.blk bk29_ (.cells z21_.2.2.toArray 244 (0,0)))->Acts prog 166 #[.slice (some ⟨bk29_,0,none⟩) (((an:Nat):Int).toNat) (((an:Nat):Int).toNat)] V17 fun r17_ V18=>∃p30_ n30_ c30_,r17_=.slice p30_ n30_ c30_/\∀J31_:C->Value,(∀V19,V18.Le V19->∀bk32_:Nat,(V19.blk bk32_ (.cells #[.int .u32 z21_.1] 244 (0,0)))->Acts prog 166 #[.slice (some ⟨bk32_,0,none⟩) 1 1] V19 fun r19_ V20=>∃p33_ n33_ c33_,r19_=.slice p33_ n33_ c33_/\∀J34_:C->Value,(∀V21,V20.Le V21->R (.tuple #[.slice p30_ n30_ c30_,.slice p33_ n33_ c33_]) V21))))))))/\((((bn:Nat):Int) == (1:Int))=false->(∀V22,V12.Le V22->Acts prog 208 #[.slice ap an ac,.slice bp bn bc] V22 fun r22_ V23=>∃p35_ n35_ c35_,∃p36_ n36_ c36_,r22_=.tuple #[.slice p35_ n35_ c35_,.slice p36_ n36_ c36_]/\(∀V24,V23.Le V24->R (.tuple #[.slice p35_ n35_ c35_,.slice p36_ n36_ c36_]) V24))))))))))) :
  Acts prog 167 #[.slice ap an ac,.slice bp bn bc] V R:=
 fn_does (LF:=LF0) (RF:=[1000007]) (β0:=(fun _=>0)) tab_ok mixed [(12,{ τ:=Int × Int × (List Value),keep:=[0,1,10],keepB:=[],slots:=fun z=>[(11,.c (.v (.int .u32 z.1))),(12,.c (.v (.int .i64 z.2.1)))],boxes:=fun z=>[(45,⟨.row z.2.2,244⟩)] })] [(3,{ τ:=Unit,keep:=[0,1],keepB:=[],slots:=fun z=>[],boxes:=fun z=>[] })] func167 (by kernel_rfl)
  [(0,.c (.v (.slice ap an ac))),(1,.c (.v (.slice bp bn bc)))]
  [] (by kernel_rfl) trivial h (by kernel_rfl)
theorem vc_num_long (ap:OA) (an ac:Nat) (bp:OA) (bn bc:Nat) (V:View) (R:Value->View->Prop)
  (h:(bp.isSome=true)/\(0<=(i64.wrap (((bn:Nat):Int) - (1:Int)))/\(i64.wrap (((bn:Nat):Int) - (1:Int))) < ((bn:Nat):Int))/\(∃x1_,(∃a2_,addrAdd bp (((i64.wrap (((bn:Nat):Int) - (1:Int))).toNat) * 1)=some a2_/\V.at a2_ (.int .u32 x1_))/\(∀V1,V.Le V1->Acts prog 219 #[.int .u32 x1_] V1 fun r1_ V2=>∃x3_,r1_=.int .i64 x3_/\(∀V3,V2.Le V3->Acts prog 224 #[.slice bp bn bc,.int .i64 x3_] V3 fun r3_ V4=>∃p4_ n4_ c4_,r3_=.slice p4_ n4_ c4_/\(∀V5,V4.Le V5->Acts prog 224 #[.slice ap an ac,.int .i64 x3_] V5 fun r5_ V6=>∃p5_ n5_ c5_,r5_=.slice p5_ n5_ c5_/\(p4_.isSome=true)/\(0<=(i64.wrap (((n4_:Nat):Int) - (1:Int)))/\(i64.wrap (((n4_:Nat):Int) - (1:Int))) < ((n4_:Nat):Int))/\(∃x6_,(∃a7_,addrAdd p4_ (((i64.wrap (((n4_:Nat):Int) - (1:Int))).toNat) * 1)=some a7_/\V6.at a7_ (.int .u32 x6_))/\(0<=i64.wrap ((i64.wrap (((an:Nat):Int) - ((bn:Nat):Int))) + (1:Int)))/\(i64.wrap ((i64.wrap (((an:Nat):Int) - ((bn:Nat):Int))) + (1:Int))<=i64.wrap ((i64.wrap (((an:Nat):Int) - ((bn:Nat):Int))) + (1:Int)))/\(((4:Nat):Int) * (i64.wrap ((i64.wrap (((an:Nat):Int) - ((bn:Nat):Int))) + (1:Int)))<=140737488355328)/\(∃(I8_:((OA) × Nat × Nat × Int × (List Value))->View->Prop) (m9_:((OA) × Nat × Nat × Int × (List Value))->Nat),(∃z10_:(OA) × Nat × Nat × Int × (List Value),(sm x3_/\sm p4_/\sm n4_/\sm c4_/\((u64.wrap x6_)=(u64.wrap x6_))/\sm 0/\(((i64.wrap ((i64.wrap (((an:Nat):Int) - ((bn:Nat):Int))) + (1:Int))).toNat:Nat)=(i64.wrap ((i64.wrap (((an:Nat):Int) - ((bn:Nat):Int))) + (1:Int))).toNat)/\(((i64.wrap ((i64.wrap (((an:Nat):Int) - ((bn:Nat):Int))) + (1:Int))).toNat:Nat)=(i64.wrap ((i64.wrap (((an:Nat):Int) - ((bn:Nat):Int))) + (1:Int))).toNat)/\((p5_:OA)=z10_.1)/\((n5_:Nat)=z10_.2.1)/\((c5_:Nat)=z10_.2.2.1)/\((i64.wrap ((((i64.wrap ((i64.wrap (((an:Nat):Int) - ((bn:Nat):Int))) + (1:Int))).toNat:Nat):Int) - (1:Int)))=z10_.2.2.2.1)/\((List.replicate ((i64.wrap ((i64.wrap (((an:Nat):Int) - ((bn:Nat):Int))) + (1:Int))).toNat) (.int .u32 0))=z10_.2.2.2.2))/\I8_ z10_ V6)/\∀(z11_:(OA) × Nat × Nat × Int × (List Value)) (V7:View),V6.Le V7->I8_ z11_ V7->(true=true/\(((decide (z11_.2.2.2.1 ≥ (0:Int)))=true->(∃I12_:Int->View->Prop,(((decide ((i64.wrap (((n4_:Nat):Int) + z11_.2.2.2.1)) < ((z11_.2.1:Nat):Int)))=true->(z11_.1.isSome=true)/\(0<=(i64.wrap (((n4_:Nat):Int) + z11_.2.2.2.1))/\(i64.wrap (((n4_:Nat):Int) + z11_.2.2.2.1)) < ((z11_.2.1:Nat):Int))/\(∃x13_,(∃a14_,addrAdd z11_.1 (((i64.wrap (((n4_:Nat):Int) + z11_.2.2.2.1)).toNat) * 1)=some a14_/\V7.at a14_ (.int .u32 x13_))/\(0<=(32:Int))/\(z11_.1.isSome=true)/\(0<=(i64.wrap ((i64.wrap (((n4_:Nat):Int) + z11_.2.2.2.1)) - (1:Int)))/\(i64.wrap ((i64.wrap (((n4_:Nat):Int) + z11_.2.2.2.1)) - (1:Int))) < ((z11_.2.1:Nat):Int))/\(∃x15_,(∃a16_,addrAdd z11_.1 (((i64.wrap ((i64.wrap (((n4_:Nat):Int) + z11_.2.2.2.1)) - (1:Int))).toNat) * 1)=some a16_/\V7.at a16_ (.int .u32 x15_))/\(∃z17_:Int,(sm x3_/\sm p4_/\sm n4_/\sm c4_/\((z11_.1:OA)=z11_.1)/\((z11_.2.1:Nat)=z11_.2.1)/\((z11_.2.2.1:Nat)=z11_.2.2.1)/\((u64.wrap x6_)=(u64.wrap x6_))/\sm 0/\(((i64.wrap ((i64.wrap (((an:Nat):Int) - ((bn:Nat):Int))) + (1:Int))).toNat:Nat)=(i64.wrap ((i64.wrap (((an:Nat):Int) - ((bn:Nat):Int))) + (1:Int))).toNat)/\(((i64.wrap ((i64.wrap (((an:Nat):Int) - ((bn:Nat):Int))) + (1:Int))).toNat:Nat)=(i64.wrap ((i64.wrap (((an:Nat):Int) - ((bn:Nat):Int))) + (1:Int))).toNat)/\sm z11_.2.2.2.1/\((bitI .or .u64 (u64.wrap ((u64.wrap x13_) * 2 ^ 32)) (u64.wrap x15_))=z17_)/\sm z11_.2.2.2.2)/\I12_ z17_ V7))))/\((decide ((i64.wrap (((n4_:Nat):Int) + z11_.2.2.2.1)) < ((z11_.2.1:Nat):Int)))=false->(∃I18_:Int->View->Prop,(((decide ((i64.wrap ((i64.wrap (((n4_:Nat):Int) + z11_.2.2.2.1)) - (1:Int))) < ((z11_.2.1:Nat):Int)))=true->(z11_.1.isSome=true)/\(0<=(i64.wrap ((i64.wrap (((n4_:Nat):Int) + z11_.2.2.2.1)) - (1:Int)))/\(i64.wrap ((i64.wrap (((n4_:Nat):Int) + z11_.2.2.2.1)) - (1:Int))) < ((z11_.2.1:Nat):Int))/\(∃x19_,(∃a20_,addrAdd z11_.1 (((i64.wrap ((i64.wrap (((n4_:Nat):Int) + z11_.2.2.2.1)) - (1:Int))).toNat) * 1)=some a20_/\V7.at a20_ (.int .u32 x19_))/\(∃z21_:Int,(sm x3_/\sm p4_/\sm n4_/\sm c4_/\((z11_.1:OA)=z11_.1)/\((z11_.2.1:Nat)=z11_.2.1)/\((z11_.2.2.1:Nat)=z11_.2.2.1)/\((u64.wrap x6_)=(u64.wrap x6_))/\sm 0/\(((i64.wrap ((i64.wrap (((an:Nat):Int) - ((bn:Nat):Int))) + (1:Int))).toNat:Nat)=(i64.wrap ((i64.wrap (((an:Nat):Int) - ((bn:Nat):Int))) + (1:Int))).toNat)/\(((i64.wrap ((i64.wrap (((an:Nat):Int) - ((bn:Nat):Int))) + (1:Int))).toNat:Nat)=(i64.wrap ((i64.wrap (((an:Nat):Int) - ((bn:Nat):Int))) + (1:Int))).toNat)/\sm z11_.2.2.2.1/\((u64.wrap x19_)=z21_)/\sm z11_.2.2.2.2)/\I18_ z21_ V7)))/\((decide ((i64.wrap ((i64.wrap (((n4_:Nat):Int) + z11_.2.2.2.1)) - (1:Int))) < ((z11_.2.1:Nat):Int)))=false->(∃z22_:Int,(sm x3_/\sm p4_/\sm n4_/\sm c4_/\((z11_.1:OA)=z11_.1)/\((z11_.2.1:Nat)=z11_.2.1)/\((z11_.2.2.1:Nat)=z11_.2.2.1)/\((u64.wrap x6_)=(u64.wrap x6_))/\sm 0/\(((i64.wrap ((i64.wrap (((an:Nat):Int) - ((bn:Nat):Int))) + (1:Int))).toNat:Nat)=(i64.wrap ((i64.wrap (((an:Nat):Int) - ((bn:Nat):Int))) + (1:Int))).toNat)/\(((i64.wrap ((i64.wrap (((an:Nat):Int) - ((bn:Nat):Int))) + (1:Int))).toNat:Nat)=(i64.wrap ((i64.wrap (((an:Nat):Int) - ((bn:Nat):Int))) + (1:Int))).toNat)/\sm z11_.2.2.2.1/\((0:Int)=z22_)/\sm z11_.2.2.2.2)/\I18_ z22_ V7)))/\∀(z23_:Int) (V8:View),V7.Le V8->I18_ z23_ V8->(true=true/\(∃z24_:Int,(sm x3_/\sm p4_/\sm n4_/\sm c4_/\((z11_.1:OA)=z11_.1)/\((z11_.2.1:Nat)=z11_.2.1)/\((z11_.2.2.1:Nat)=z11_.2.2.1)/\((u64.wrap x6_)=(u64.wrap x6_))/\sm 0/\(((i64.wrap ((i64.wrap (((an:Nat):Int) - ((bn:Nat):Int))) + (1:Int))).toNat:Nat)=(i64.wrap ((i64.wrap (((an:Nat):Int) - ((bn:Nat):Int))) + (1:Int))).toNat)/\(((i64.wrap ((i64.wrap (((an:Nat):Int) - ((bn:Nat):Int))) + (1:Int))).toNat:Nat)=(i64.wrap ((i64.wrap (((an:Nat):Int) - ((bn:Nat):Int))) + (1:Int))).toNat)/\sm z11_.2.2.2.1/\(z23_=z24_)/\sm z11_.2.2.2.2)/\I12_ z24_ V8)))))/\∀(z25_:Int) (V9:View),V7.Le V9->I12_ z25_ V9->(true=true/\((u64.wrap x6_)≠0)/\(∀V10,V9.Le V10->Acts prog 121 #[.int .u64 (minI (u64.wrap (z25_.tdiv (u64.wrap x6_))) (4294967295))] V10 fun r10_ V11=>∃p26_ n26_ c26_,r10_=.slice p26_ n26_ c26_/\(∀V12,V11.Le V12->Acts prog 108 #[.slice p4_ n4_ c4_,.slice p26_ n26_ c26_] V12 fun r12_ V13=>∃p27_ n27_ c27_,r12_=.slice p27_ n27_ c27_/\(∀V14,V13.Le V14->Acts prog 224 #[.slice p27_ n27_ c27_,.int .i64 (i64.wrap ((32:Int) * z11_.2.2.2.1))] V14 fun r14_ V15=>∃p28_ n28_ c28_,r14_=.slice p28_ n28_ c28_/\(∃(I29_:(Int × (OA) × Nat × Nat)->View->Prop) (m30_:(Int × (OA) × Nat × Nat)->Nat),(∃z31_:Int × (OA) × Nat × Nat,(sm x3_/\sm p4_/\sm n4_/\sm c4_/\((z11_.1:OA)=z11_.1)/\((z11_.2.1:Nat)=z11_.2.1)/\((z11_.2.2.1:Nat)=z11_.2.2.1)/\((u64.wrap x6_)=(u64.wrap x6_))/\sm 0/\(((i64.wrap ((i64.wrap (((an:Nat):Int) - ((bn:Nat):Int))) + (1:Int))).toNat:Nat)=(i64.wrap ((i64.wrap (((an:Nat):Int) - ((bn:Nat):Int))) + (1:Int))).toNat)/\(((i64.wrap ((i64.wrap (((an:Nat):Int) - ((bn:Nat):Int))) + (1:Int))).toNat:Nat)=(i64.wrap ((i64.wrap (((an:Nat):Int) - ((bn:Nat):Int))) + (1:Int))).toNat)/\sm z11_.2.2.2.1/\((minI (u64.wrap (z25_.tdiv (u64.wrap x6_))) (4294967295))=z31_.1)/\((p28_:OA)=z31_.2.1)/\((n28_:Nat)=z31_.2.2.1)/\((c28_:Nat)=z31_.2.2.2)/\sm z11_.2.2.2.2)/\I29_ z31_ V15)/\∀(z32_:Int × (OA) × Nat × Nat) (V16:View),V15.Le V16->I29_ z32_ V16->(true=true/\(∀V17,V16.Le V17->Acts prog 134 #[.slice z32_.2.1 z32_.2.2.1 z32_.2.2.2,.slice z11_.1 z11_.2.1 z11_.2.2.1] V17 fun r17_ V18=>∃x33_,r17_=.int .i64 x33_/\(((decide (x33_ > (0:Int)))=true->(∀V19,V18.Le V19->Acts prog 121 #[.int .u64 (u64.wrap (z32_.1 - (1:Int)))] V19 fun r19_ V20=>∃p34_ n34_ c34_,r19_=.slice p34_ n34_ c34_/\(∀V21,V20.Le V21->Acts prog 108 #[.slice p4_ n4_ c4_,.slice p34_ n34_ c34_] V21 fun r21_ V22=>∃p35_ n35_ c35_,r21_=.slice p35_ n35_ c35_/\(∀V23,V22.Le V23->Acts prog 224 #[.slice p35_ n35_ c35_,.int .i64 (i64.wrap ((32:Int) * z11_.2.2.2.1))] V23 fun r23_ V24=>∃p36_ n36_ c36_,r23_=.slice p36_ n36_ c36_/\(∃z37_:Int × (OA) × Nat × Nat,m30_ z37_ < m30_ z32_/\(sm x3_/\sm p4_/\sm n4_/\sm c4_/\((z11_.1:OA)=z11_.1)/\((z11_.2.1:Nat)=z11_.2.1)/\((z11_.2.2.1:Nat)=z11_.2.2.1)/\((u64.wrap x6_)=(u64.wrap x6_))/\sm 0/\(((i64.wrap ((i64.wrap (((an:Nat):Int) - ((bn:Nat):Int))) + (1:Int))).toNat:Nat)=(i64.wrap ((i64.wrap (((an:Nat):Int) - ((bn:Nat):Int))) + (1:Int))).toNat)/\(((i64.wrap ((i64.wrap (((an:Nat):Int) - ((bn:Nat):Int))) + (1:Int))).toNat:Nat)=(i64.wrap ((i64.wrap (((an:Nat):Int) - ((bn:Nat):Int))) + (1:Int))).toNat)/\sm z11_.2.2.2.1/\((u64.wrap (z32_.1 - (1:Int)))=z37_.1)/\((p36_:OA)=z37_.2.1)/\((n36_:Nat)=z37_.2.2.1)/\((c36_:Nat)=z37_.2.2.2)/\sm z11_.2.2.2.2)/\I29_ z37_ V24)))))/\((decide (x33_ > (0:Int)))=false->(0<=z11_.2.2.2.1/\z11_.2.2.2.1 < (((i64.wrap ((i64.wrap (((an:Nat):Int) - ((bn:Nat):Int))) + (1:Int))).toNat:Nat):Int))/\((0 + (z11_.2.2.2.1.toNat * 1)) + 1<=z11_.2.2.2.2.length)/\(∀V25,V18.Le V25->Acts prog 181 #[.slice z11_.1 z11_.2.1 z11_.2.2.1,.slice z32_.2.1 z32_.2.2.1 z32_.2.2.2] V25 fun r25_ V26=>∃p38_ n38_ c38_,r25_=.slice p38_ n38_ c38_/\(∃z39_:(OA) × Nat × Nat × Int × (List Value),m9_ z39_ < m9_ z11_/\(sm x3_/\sm p4_/\sm n4_/\sm c4_/\((u64.wrap x6_)=(u64.wrap x6_))/\sm 0/\(((i64.wrap ((i64.wrap (((an:Nat):Int) - ((bn:Nat):Int))) + (1:Int))).toNat:Nat)=(i64.wrap ((i64.wrap (((an:Nat):Int) - ((bn:Nat):Int))) + (1:Int))).toNat)/\(((i64.wrap ((i64.wrap (((an:Nat):Int) - ((bn:Nat):Int))) + (1:Int))).toNat:Nat)=(i64.wrap ((i64.wrap (((an:Nat):Int) - ((bn:Nat):Int))) + (1:Int))).toNat)/\((p38_:OA)=z39_.1)/\((n38_:Nat)=z39_.2.1)/\((c38_:Nat)=z39_.2.2.1)/\((i64.wrap (z11_.2.2.2.1 - (1:Int)))=z39_.2.2.2.1)/\((z11_.2.2.2.2.set (0 + (z11_.2.2.2.1.toNat * 1)) (.int .u32 (u32.wrap (z32_.1))))=z39_.2.2.2.2))/\I8_ z39_ V26)))))))))))))/\((decide (z11_.2.2.2.1 ≥ (0:Int)))=false->(∀V27,V7.Le V27->∀bk40_:Nat,(V27.blk bk40_ (.cells z11_.2.2.2.2.toArray 244 (0,0)))->Acts prog 166 #[.slice (some ⟨bk40_,0,none⟩) ((i64.wrap ((i64.wrap (((an:Nat):Int) - ((bn:Nat):Int))) + (1:Int))).toNat) ((i64.wrap ((i64.wrap (((an:Nat):Int) - ((bn:Nat):Int))) + (1:Int))).toNat)] V27 fun r27_ V28=>∃p41_ n41_ c41_,r27_=.slice p41_ n41_ c41_/\∀J42_:C->Value,(∀V29,V28.Le V29->Acts prog 225 #[.slice z11_.1 z11_.2.1 z11_.2.2.1,.int .i64 x3_] V29 fun r29_ V30=>∃p43_ n43_ c43_,r29_=.slice p43_ n43_ c43_/\(∀V31,V30.Le V31->R (.tuple #[.slice p41_ n41_ c41_,.slice p43_ n43_ c43_]) V31))))))))))))) :
  Acts prog 208 #[.slice ap an ac,.slice bp bn bc] V R:=
 fn_does (LF:=LF0) (RF:=[1000007]) (β0:=(fun _=>0)) tab_ok mixed [(6,{ τ:=(OA) × Nat × Nat × Int × (List Value),keep:=[6,7,9,10],keepB:=[],slots:=fun z=>[(8,.c (.v (.slice z.1 z.2.1 z.2.2.1))),(11,.c (.v (.int .i64 z.2.2.2.1)))],boxes:=fun z=>[(42,⟨.row z.2.2.2.2,244⟩)] }),(16,{ τ:=Int × (OA) × Nat × Nat,keep:=[6,7,8,9,10,11],keepB:=[42],slots:=fun z=>[(14,.c (.v (.int .u64 z.1))),(15,.c (.v (.slice z.2.1 z.2.2.1 z.2.2.2)))],boxes:=fun z=>[] })] [(11,{ τ:=Int,keep:=[6,7,8,9,10,11],keepB:=[42],slots:=fun z=>[(12,.c (.v (.int .u64 z)))],boxes:=fun z=>[] }),(13,{ τ:=Int,keep:=[6,7,8,9,10,11],keepB:=[42],slots:=fun z=>[(12,.c (.v (.int .u64 z)))],boxes:=fun z=>[] })] func208 (by kernel_rfl)
  [(0,.c (.v (.slice ap an ac))),(1,.c (.v (.slice bp bn bc)))]
  [] (by kernel_rfl) trivial h (by kernel_rfl)
theorem vc_num_Common (ap:OA) (an ac:Nat) (bp:OA) (bn bc:Nat) (V:View) (R:Value->View->Prop)
  (h:(∀V1,V.Le V1->Acts prog 178 #[.slice ap an ac] V1 fun r1_ V2=>∃x1_,∃b2_,r1_=.tuple #[.int .u64 x1_,.bool b2_]/\(∃I3_:Unit->View->Prop,((b2_=true->(∀V3,V2.Le V3->Acts prog 178 #[.slice bp bn bc] V3 fun r3_ V4=>∃x4_,∃b5_,r3_=.tuple #[.int .u64 x4_,.bool b5_]/\((b5_=true->(∃(I6_:(Int × Int)->View->Prop) (m7_:(Int × Int)->Nat),(∃z8_:Int × Int,((x1_=z8_.1)/\(x4_=z8_.2))/\I6_ z8_ V4)/\∀(z9_:Int × Int) (V5:View),V4.Le V5->I6_ z9_ V5->(true=true/\(((decide (z9_.2 > (0:Int)))=true->(z9_.2≠0)/\(∃z10_:Int × Int,m7_ z10_ < m7_ z9_/\((z9_.2=z10_.1)/\((z9_.1.tmod z9_.2)=z10_.2))/\I6_ z10_ V5))/\((decide (z9_.2 > (0:Int)))=false->(∀V6,V5.Le V6->Acts prog 121 #[.int .u64 z9_.1] V6 fun r6_ V7=>∃p11_ n11_ c11_,r6_=.slice p11_ n11_ c11_/\(∀V8,V7.Le V8->R (.slice p11_ n11_ c11_) V8)))))))/\(b5_=false->(∃z12_:Unit,(sm ap/\sm an/\sm ac/\sm bp/\sm bn/\sm bc)/\I3_ z12_ V4)))))/\(b2_=false->(∃z13_:Unit,(sm ap/\sm an/\sm ac/\sm bp/\sm bn/\sm bc)/\I3_ z13_ V2)))/\∀(z14_:Unit) (V9:View),V2.Le V9->I3_ z14_ V9->(true=true/\(∃I15_:((OA) × Nat × Nat × (OA) × Nat × Nat)->Nat->View->Prop,(∃(z17_:(OA) × Nat × Nat × (OA) × Nat × Nat) (k18_:Nat),(((ap:OA)=z17_.1)/\((an:Nat)=z17_.2.1)/\((ac:Nat)=z17_.2.2.1)/\((bp:OA)=z17_.2.2.2.1)/\((bn:Nat)=z17_.2.2.2.2.1)/\((bc:Nat)=z17_.2.2.2.2.2))/\I15_ z17_ k18_ V9)/\∀(z19_:(OA) × Nat × Nat × (OA) × Nat × Nat) (k20_:Nat) (V10:View),V9.Le V10->I15_ z19_ k20_ V10->(true=true/\(((decide (((z19_.2.2.2.2.1:Nat):Int) > (0:Int)))=true->(∀V11,V10.Le V11->Acts prog 167 #[.slice z19_.1 z19_.2.1 z19_.2.2.1,.slice z19_.2.2.2.1 z19_.2.2.2.2.1 z19_.2.2.2.2.2] V11 fun r11_ V12=>∃p21_ n21_ c21_,∃p22_ n22_ c22_,r11_=.tuple #[.slice p21_ n21_ c21_,.slice p22_ n22_ c22_]/\(∃(z23_:(OA) × Nat × Nat × (OA) × Nat × Nat) (k24_:Nat),k24_ < k20_/\(((z19_.2.2.2.1:OA)=z23_.1)/\((z19_.2.2.2.2.1:Nat)=z23_.2.1)/\((z19_.2.2.2.2.2:Nat)=z23_.2.2.1)/\((p22_:OA)=z23_.2.2.2.1)/\((n22_:Nat)=z23_.2.2.2.2.1)/\((c22_:Nat)=z23_.2.2.2.2.2))/\I15_ z23_ k24_ V12)))/\((decide (((z19_.2.2.2.2.1:Nat):Int) > (0:Int)))=false->(∃xs25_:List Value,V10.sl z19_.1 xs25_/\xs25_.length=z19_.2.1 * 1/\((0 + z19_.2.1) * 4<=140737488355328/\0<=0/\0 * 1<=([]:List Value).length/\xs25_.length=z19_.2.1 * 1/\(∀v ∈ xs25_,v.oneCell'=true)/\∀(bk28_:Nat) (J29_:C->Value) (sp26_:List Value) (c27_:Nat),0 + z19_.2.1<=c27_->c27_ * 1<=(0 + z19_.2.1) * 1 + sp26_.length->(∀V13,V10.Le V13->∀bk30_:Nat,(V13.blk bk30_ (.cells (([]:List Value).take (0 * 1)++xs25_++sp26_).toArray 244 (0,0)))->R (.slice (some ⟨bk30_,0,none⟩) (0 + z19_.2.1) c27_) V13))))))))))) :
  Acts prog 133 #[.slice ap an ac,.slice bp bn bc] V R:=
 fn_does (LF:=LF0) (RF:=[1000007]) (β0:=(fun _=>0)) tab_ok mixed [(5,{ τ:=Int × Int,keep:=[],keepB:=[],slots:=fun z=>[(5,.c (.v (.int .u64 z.1))),(7,.c (.v (.int .u64 z.2)))],boxes:=fun z=>[] }),(8,{ τ:=(OA) × Nat × Nat × (OA) × Nat × Nat,gh:=true,keep:=[],keepB:=[],slots:=fun z=>[(0,.c (.v (.slice z.1 z.2.1 z.2.2.1))),(1,.c (.v (.slice z.2.2.2.1 z.2.2.2.2.1 z.2.2.2.2.2)))],boxes:=fun z=>[] })] [(3,{ τ:=Unit,keep:=[0,1],keepB:=[],slots:=fun z=>[],boxes:=fun z=>[] })] func133 (by kernel_rfl)
  [(0,.c (.v (.slice ap an ac))),(1,.c (.v (.slice bp bn bc)))]
  [] (by kernel_rfl) trivial h (by kernel_rfl)
end Go.Proofs.Tryz
