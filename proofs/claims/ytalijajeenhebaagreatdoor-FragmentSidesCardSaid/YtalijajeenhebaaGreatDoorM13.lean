/- A part of the proof (joined by program from: GeoB, GeoC, VLine, PtA). -/
import Derived.Test.YtalijajeenhebaaGreatDoorM12
import Derived.Test.YtalijajeenhebaaGreatDoorM5
import Derived.Test.YtalijajeenhebaaGreatDoorM10
set_option linter.unusedVariables false
open Go.IntKind (i64 u64 u32)
/- Contracts of package geo: LnOf. -/
namespace Go.Proofs.Tryz
open Go.Eng Go.Big
/-- What LnOf decides. -/
def okLn (b1:Bool) (xs:List Nat) (b2:Bool) (ys:List Nat) (b3:Bool) (zs:List Nat):Bool:=
 NrmI b1 xs && NrmI b2 ys && NrmI b3 zs && !(decide ((ival b1 xs:Rat)=0) && decide ((ival b2 ys:Rat)=0)) && decide (gcdQ (gcdQ (ival b1 xs) (ival b2 ys)) (ival b3 zs)=((1:Int):Rat))
theorem ln_bad {V:View} {ok:Bool} {A B C:Rat} (h:ok=false):∃v,Value.tuple #[.agg #[.int .i64 0,.int .i64 0,.pointer none,.int .i64 0,.int .i64 0,.pointer none,.int .i64 0,.int .i64 0,.pointer none],.bool false]=.tuple #[v,.bool ok]/\LnSh v/\(ok=true->RLn V v A B C):=by
 subst h; exact ⟨_,rfl,⟨_,_,_,_,_,_,_,_,_,rfl⟩,fun h=>nomatch h⟩
theorem sz_one:Sz 1 ((1:Int):Rat):=by unfold Sz; decide
theorem c_geo_LnOf {V:View} (b1 b2 b3:Bool) {p q s:OA} {n c m e i j:Nat} {xs ys zs:List Nat} (hx:RD V p n c xs) (hy:RD V q m e ys) (hz:RD V s i j zs)
  (h1:xs.length<=1099511627776) (h2:ys.length<=1099511627776) (h3:zs.length<=1099511627776) {k:Nat} (s1:Sz k (ival b1 xs:Rat)) (s2:Sz k (ival b2 ys:Rat)) (s3:Sz k (ival b3 zs:Rat)) (hk:4 * k + 4 < 1099511627776) :
  Acts prog 90 #[.agg #[.bool b1,.slice p n c,.bool b2,.slice q m e,.bool b3,.slice s i j]] V fun r V'=>∃v,r=.tuple #[v,.bool (okLn b1 xs b2 ys b3 zs)]/\LnSh v/\(okLn b1 xs b2 ys b3 zs=true->RLn V' v (ival b1 xs) (ival b2 ys) (ival b3 zs)):=by
 refine vc_geo_LnOf _ p n c _ q m e _ s i j V _ fun V1 l1=>(c_integer_Normal b1 (hx.le l1) h1).mono ?_
 rintro r V2 l2 rfl
 refine ⟨_,rfl,fun h0 V3 l3=>ln_bad ?_,fun h0 V4 l4=>(c_integer_Normal b2 (hy.le (l1.trans (l2.trans l4))) h2).mono ?_⟩
 ·have h0:NrmI b1 xs=false:=by simpa using h0
  simp [okLn,h0]
 have h0:NrmI b1 xs=true:=by simpa using h0
 rintro r V5 l5 rfl
 refine ⟨_,rfl,fun g0 V6 l6=>ln_bad ?_,fun g0 V7 l7=>(c_integer_Normal b3 (hz.le (l1.trans (l2.trans (l4.trans (l5.trans l7))))) h3).mono ?_⟩
 ·have g0:NrmI b2 ys=false:=by simpa using g0
  simp [okLn,g0]
 have g0:NrmI b2 ys=true:=by simpa using g0
 rintro r V8 l8 rfl
 have l08:=l1.trans (l2.trans (l4.trans (l5.trans (l7.trans l8))))
 refine ⟨_,rfl,fun f0 V9 l9=>ln_bad ?_,fun f0 V10 l10=>(c_frac_Whole b1 (hx.le (l08.trans l10)) h1).mono ?_⟩
 ·have f0:NrmI b3 zs=false:=by simpa using f0
  simp [okLn,f0]
 have f0:NrmI b3 zs=true:=by simpa using f0
 rintro r V11 l11 ra
 obtain ⟨x1,x2,x3,rfl⟩:=ra.shape
 have l011:=l08.trans (l10.trans l11)
 refine ⟨_,_,_,rfl,fun V12 l12=>(c_frac_Whole b2 (hy.le (l011.trans l12)) h2).mono ?_⟩
 rintro r V13 l13 rb
 obtain ⟨y1,y2,y3,rfl⟩:=rb.shape
 have l013:=l011.trans (l12.trans l13)
 refine ⟨_,_,_,rfl,fun V14 l14=>(c_frac_Whole b3 (hz.le (l013.trans l14)) h3).mono ?_⟩
 rintro r V15 l15 rc
 obtain ⟨z1,z2,z3,rfl⟩:=rc.shape
 replace ra:=ra.le (l12.trans (l13.trans (l14.trans l15)))
 replace rb:=rb.le (l14.trans l15)
 have hok:okLn b1 xs b2 ys b3 zs=(!(decide ((ival b1 xs:Rat)=0) && decide ((ival b2 ys:Rat)=0)) && decide (gcdQ (gcdQ (ival b1 xs) (ival b2 ys)) (ival b3 zs)=((1:Int):Rat))):=by
  simp only [okLn,h0,g0,f0,Bool.true_and]
 rw [hok]
 clear hok h0 g0 f0 hx hy hz
 generalize (ival b1 xs:Rat)=A at *
 generalize (ival b2 ys:Rat)=B at *
 generalize (ival b3 zs:Rat)=C at *
 refine ⟨_,_,_,rfl,fun V16 l16=>(c_R_Zero (ra.le l16)).mono ?_⟩
 rintro r V17 l17 rfl
 refine ⟨_,rfl,fun t0 V18 l18=>(c_R_Zero (rb.le (l16.trans (l17.trans l18)))).mono ?_,fun t0 V21 l21=>?_⟩
 ·rintro r V19 l19 rfl
  refine ⟨_,rfl,fun u0 V20 l20=>ln_bad (by rw [t0,u0]; rfl),fun u0 V21 l21=>?_⟩
  have lb:V15.Le V21:=l16.trans (l17.trans (l18.trans (l19.trans l21)))
  have hn:(decide (A=0) && decide (B=0))=false:=by rw [u0,Bool.and_false]
  rw [hn]
  refine (c_frac_Gcd (ra.le lb) (rb.le lb) s1 s2 (by omega)).mono ?_
  rintro r V22 l22 rg
  obtain ⟨g1,g2,g3,rfl⟩:=rg.shape
  refine ⟨_,_,_,rfl,fun V23 l23=>(c_frac_Gcd (rg.le l23) (rc.le (lb.trans (l22.trans l23))) (Sz_gcdQ s1 s2) s3 (by omega)).mono ?_⟩
  rintro r V24 l24 rh
  obtain ⟨h1,h2,h3,rfl⟩:=rh.shape
  refine ⟨_,_,_,rfl,fun V25 l25=>(c_frac_Int 1 (by omega) (by omega)).mono ?_⟩
  rintro r V26 l26 ri
  obtain ⟨i1,i2,i3,rfl⟩:=ri.shape
  refine ⟨_,_,_,rfl,fun V27 l27=>(c_R_Equal (rh.le (l25.trans (l26.trans l27))) (ri.le l27) (Sz_gcdQ (Sz_gcdQ s1 s2) s3) sz_one (by omega)).mono ?_⟩
  rintro r V28 l28 rfl
  have lz:V15.Le V28:=lb.trans (l22.trans (l23.trans (l24.trans (l25.trans (l26.trans (l27.trans l28))))))
  refine ⟨_,rfl,fun w0 V29 l29=>ln_bad ?_,fun w0 V30 l30=>?_⟩
  ·rw [Bool.not_eq_true'] at w0
   rw [w0]; rfl
  ·have w0:decide (gcdQ (gcdQ A B) C=((1:Int):Rat))=true:=by
    cases h:decide (gcdQ (gcdQ A B) C=((1:Int):Rat))
    ·rw [h] at w0; cases w0
    ·rfl
   rw [w0]
   exact ⟨_,rfl,⟨_,_,_,_,_,_,_,_,_,rfl⟩,fun _=>⟨_,_,_,_,_,_,_,_,_,rfl,ra.le (lz.trans l30),rb.le (lz.trans l30),rc.le (lz.trans l30)⟩⟩
 ·have lb:V15.Le V21:=l16.trans (l17.trans l21)
  have hn:(decide (A=0) && decide (B=0))=false:=by rw [t0,Bool.false_and]
  rw [hn]
  refine (c_frac_Gcd (ra.le lb) (rb.le lb) s1 s2 (by omega)).mono ?_
  rintro r V22 l22 rg
  obtain ⟨g1,g2,g3,rfl⟩:=rg.shape
  refine ⟨_,_,_,rfl,fun V23 l23=>(c_frac_Gcd (rg.le l23) (rc.le (lb.trans (l22.trans l23))) (Sz_gcdQ s1 s2) s3 (by omega)).mono ?_⟩
  rintro r V24 l24 rh
  obtain ⟨h1,h2,h3,rfl⟩:=rh.shape
  refine ⟨_,_,_,rfl,fun V25 l25=>(c_frac_Int 1 (by omega) (by omega)).mono ?_⟩
  rintro r V26 l26 ri
  obtain ⟨i1,i2,i3,rfl⟩:=ri.shape
  refine ⟨_,_,_,rfl,fun V27 l27=>(c_R_Equal (rh.le (l25.trans (l26.trans l27))) (ri.le l27) (Sz_gcdQ (Sz_gcdQ s1 s2) s3) sz_one (by omega)).mono ?_⟩
  rintro r V28 l28 rfl
  have lz:V15.Le V28:=lb.trans (l22.trans (l23.trans (l24.trans (l25.trans (l26.trans (l27.trans l28))))))
  refine ⟨_,rfl,fun w0 V29 l29=>ln_bad ?_,fun w0 V30 l30=>?_⟩
  ·rw [Bool.not_eq_true'] at w0
   rw [w0]; rfl
  ·have w0:decide (gcdQ (gcdQ A B) C=((1:Int):Rat))=true:=by
    cases h:decide (gcdQ (gcdQ A B) C=((1:Int):Rat))
    ·rw [h] at w0; cases w0
    ·rfl
   rw [w0]
   exact ⟨_,rfl,⟨_,_,_,_,_,_,_,_,_,rfl⟩,fun _=>⟨_,_,_,_,_,_,_,_,_,rfl,ra.le (lz.trans l30),rb.le (lz.trans l30),rc.le (lz.trans l30)⟩⟩
end Go.Proofs.Tryz
/- Contracts: cmp.Or; geo Cmp, Equal. -/
namespace Go.Proofs.Tryz
open Go.Eng Go.Big
/-- The first that is not 0, or 0. -/
def orI:List Int->Int
 | []=>0
 | x :: r=>if x=0 then orI r else x
def i64s (l:List Int):List Value:=l.map fun x=>Value.int .i64 x
theorem orI_eq {l:List Int}:orI l=0↔∀x ∈ l,x=0:=by
 induction l with
 | nil=>simp [orI]
 | cons x r ih=>
  simp only [orI,List.mem_cons,forall_eq_or_imp]
  split
  ·rename_i h; simp [h,ih]
  ·rename_i h; simp [h]
theorem c_cmp_Or {V:View} {p:OA} {n c:Nat} {l:List Int} (hl:n=l.length) (hs:V.sl p (i64s l)) (hm:l.length<=1099511627776) :
  Acts prog 226 #[.slice p n c] V fun r V'=>r=.int .i64 (orI l):=by
 refine vc_cmp_Or p n c V _ ⟨fun z V'=>0<=z/\z<=n/\orI l=orI (l.drop z.toNat),fun z=>n - z.toNat,⟨0,by (try dsimp only); and_intros <;> first | exact True.intro | rfl,by (try dsimp only); omega,by (try dsimp only); omega,rfl⟩,?_⟩
 rintro i V1 l1 ⟨hi0,hi1,he⟩
 dsimp only at hi1 he ⊢
 obtain ⟨i,rfl⟩:=Int.eq_ofNat_of_zero_le hi0
 simp only [Int.toNat_natCast] at he
 refine ⟨by trivial,fun h3=>?_,fun h3 V3 l3=>?_⟩
 ·have h3:i < n:=by simpa using h3
  have hil:i < l.length:=by omega
  obtain ⟨ad,e1,hat⟩:=(l1.sl hs) i (.int .i64 l[i]) (by simp [i64s,hil])
  rw [List.drop_eq_getElem_cons hil,orI] at he
  refine ⟨by rw [e1]; rfl,⟨by omega,by omega⟩,l[i],⟨ad.add i,by rw [e1]; simp [addrAdd],hat⟩,fun h4 V2 l2=>?_,fun h4=>?_⟩
  ·have h4:l[i]≠0:=by simpa using h4
   rw [if_neg h4] at he
   rw [he]
  ·have h4:l[i]=0:=by simpa using h4
   rw [if_pos h4] at he
   have w:i64.wrap ((i:Int) + 1)=((i + 1:Nat):Int):=by rw [i64w (by omega)]; omega
   simp only [w]
   refine ⟨((i + 1:Nat):Int),?_,by (try dsimp only); and_intros <;> first | exact True.intro | rfl,by (try dsimp only); omega,by (try dsimp only); omega,?_⟩
   ·(try dsimp only); omega
   ·exact he
 ·have h3:i=n:=by simp at h3; omega
  rw [List.drop_of_length_le (by omega)] at he
  rw [he]; rfl
theorem c_geo_Cmp {V:View} {v w:Value} {a b c a' b' c':Rat} (hx:RLn V v a b c) (hy:RLn V w a' b' c') {k m:Nat} (s1:Sz k a) (s2:Sz k b) (s3:Sz k c) (t1:Sz m a') (t2:Sz m b') (t3:Sz m c') (hk:k + m < 1099511627776) :
  Acts prog 213 #[v,w] V fun r V'=>r=.int .i64 (orI [cmpQ a a',cmpQ b b',cmpQ c c']):=by
 obtain ⟨x1,x2,p,y1,y2,q,z1,z2,r,rfl,h1,h2,h3⟩:=hx
 obtain ⟨x3,x4,p',y3,y4,q',z3,z4,r',rfl,g1,g2,g3⟩:=hy
 refine vc_geo_Ln_Cmp _ _ _ _ _ _ _ _ _ _ _ _ _ _ _ _ _ _ V _ fun V1 l1=>(c_R_Cmp (h1.le l1) (g1.le l1) s1 t1 hk).mono ?_
 rintro r V2 l2 rfl
 refine ⟨_,rfl,fun V3 l3=>(c_R_Cmp (h2.le (l1.trans (l2.trans l3))) (g2.le (l1.trans (l2.trans l3))) s2 t2 hk).mono ?_⟩
 rintro r V4 l4 rfl
 have l04:=l1.trans (l2.trans (l3.trans l4))
 refine ⟨_,rfl,fun V5 l5=>(c_R_Cmp (h3.le (l04.trans l5)) (g3.le (l04.trans l5)) s3 t3 hk).mono ?_⟩
 rintro r V6 l6 rfl
 refine ⟨_,rfl,fun V7 l7 bk hb=>(c_cmp_Or (l:=[cmpQ a a',cmpQ b b',cmpQ c c']) rfl (fun i v hv=>⟨_,rfl,by rw [add_zero']; exact blk_at (xs:=i64s [cmpQ a a',cmpQ b b',cmpQ c c']) hb hv⟩) (by simp)).mono ?_⟩
 rintro r V8 l8 rfl
 exact ⟨_,rfl,fun _ V9 l9=>rfl⟩
theorem c_geo_Equal {V:View} {v w:Value} {a b c a' b' c':Rat} (hx:RLn V v a b c) (hy:RLn V w a' b' c') {k m:Nat} (s1:Sz k a) (s2:Sz k b) (s3:Sz k c) (t1:Sz m a') (t2:Sz m b') (t3:Sz m c') (hk:k + m < 1099511627776) :
  Acts prog 182 #[v,w] V fun r V'=>r=.bool (decide (a=a'/\b=b'/\c=c')):=by
 have hx0:=hx
 have hy0:=hy
 obtain ⟨x1,x2,p,y1,y2,q,z1,z2,r,rfl,-,-,-⟩:=hx
 obtain ⟨x3,x4,p',y3,y4,q',z3,z4,r',rfl,-,-,-⟩:=hy
 refine vc_geo_Ln_Equal _ _ _ _ _ _ _ _ _ _ _ _ _ _ _ _ _ _ V _ fun V1 l1=>(c_geo_Cmp (hx0.le l1) (hy0.le l1) s1 s2 s3 t1 t2 t3 hk).mono ?_
 rintro r V2 l2 rfl
 refine ⟨_,rfl,fun V3 l3=>?_⟩
 congr 1
 rw [Bool.eq_iff_iff,decide_eq_true_eq,beq_iff_eq,orI_eq]
 simp [← cmpQ_eq]
end Go.Proofs.Tryz
/- By program: the conditions of the functions, from their loaded code. -/
namespace Go.Proofs.Tryz
open Go.Eng
set_option maxRecDepth 100000
theorem vc_geo_PtOf (p0:Bool) (p1p:OA) (p1n p1c:Nat) (p2p:OA) (p2n p2c:Nat) (p3:Bool) (p4p:OA) (p4n p4c:Nat) (p5p:OA) (p5n p5c:Nat) (V:View) (R:Value->View->Prop)
  (h:(∀V1,V.Le V1->Acts prog 102 #[.agg #[.bool p0,.slice p1p p1n p1c,.slice p2p p2n p2c]] V1 fun r1_ V2=>∃x1_,∃x2_,∃p3_,r1_=.agg #[.int .i64 x1_,.int .i64 x2_,.pointer p3_]/\(∀V3,V2.Le V3->Acts prog 102 #[.agg #[.bool p3,.slice p4p p4n p4c,.slice p5p p5n p5c]] V3 fun r3_ V4=>∃x4_,∃x5_,∃p6_,r3_=.agg #[.int .i64 x4_,.int .i64 x5_,.pointer p6_]/\(∀V5,V4.Le V5->R (.agg #[.int .i64 x1_,.int .i64 x2_,.pointer p3_,.int .i64 x4_,.int .i64 x5_,.pointer p6_]) V5)))) :
  Acts prog 48 #[.agg #[.bool p0,.slice p1p p1n p1c,.slice p2p p2n p2c,.bool p3,.slice p4p p4n p4c,.slice p5p p5n p5c]] V R:=
 fn_does (LF:=LF0) (RF:=[1000007]) (β0:=(fun _=>0)) tab_ok mixed [] [] func48 (by kernel_rfl)
  [(0,.agg [.v (.bool p0),.v (.slice p1p p1n p1c),.v (.slice p2p p2n p2c),.v (.bool p3),.v (.slice p4p p4n p4c),.v (.slice p5p p5n p5c)])]
  [] (by kernel_rfl) trivial h (by kernel_rfl)
theorem vc_geo_Pt_API (p0:Int) (p1:Int) (p2:OA) (p3:Int) (p4:Int) (p5:OA) (V:View) (R:Value->View->Prop)
  (h:(∀V1,V.Le V1->Acts prog 144 #[.agg #[.int .i64 p0,.int .i64 p1,.pointer p2]] V1 fun r1_ V2=>∃b1_,∃p2_ n2_ c2_,∃p3_ n3_ c3_,r1_=.agg #[.bool b1_,.slice p2_ n2_ c2_,.slice p3_ n3_ c3_]/\(∀V3,V2.Le V3->Acts prog 144 #[.agg #[.int .i64 p3,.int .i64 p4,.pointer p5]] V3 fun r3_ V4=>∃b4_,∃p5_ n5_ c5_,∃p6_ n6_ c6_,r3_=.agg #[.bool b4_,.slice p5_ n5_ c5_,.slice p6_ n6_ c6_]/\(∀V5,V4.Le V5->R (.agg #[.bool b1_,.slice p2_ n2_ c2_,.slice p3_ n3_ c3_,.bool b4_,.slice p5_ n5_ c5_,.slice p6_ n6_ c6_]) V5)))) :
  Acts prog 83 #[.agg #[.int .i64 p0,.int .i64 p1,.pointer p2,.int .i64 p3,.int .i64 p4,.pointer p5]] V R:=
 fn_does (LF:=LF0) (RF:=[1000007]) (β0:=(fun _=>0)) tab_ok mixed [] [] func83 (by kernel_rfl)
  [(0,.agg [.v (.int .i64 p0),.v (.int .i64 p1),.v (.pointer p2),.v (.int .i64 p3),.v (.int .i64 p4),.v (.pointer p5)])]
  [] (by kernel_rfl) trivial h (by kernel_rfl)
theorem vc_geo_Pt_Add (p0:Int) (p1:Int) (p2:OA) (p3:Int) (p4:Int) (p5:OA) (q0:Int) (q1:Int) (q2:OA) (q3:Int) (q4:Int) (q5:OA) (V:View) (R:Value->View->Prop)
  (h:(∀V1,V.Le V1->Acts prog 198 #[.agg #[.int .i64 p0,.int .i64 p1,.pointer p2],.agg #[.int .i64 q0,.int .i64 q1,.pointer q2]] V1 fun r1_ V2=>∃x1_,∃x2_,∃p3_,r1_=.agg #[.int .i64 x1_,.int .i64 x2_,.pointer p3_]/\(∀V3,V2.Le V3->Acts prog 198 #[.agg #[.int .i64 p3,.int .i64 p4,.pointer p5],.agg #[.int .i64 q3,.int .i64 q4,.pointer q5]] V3 fun r3_ V4=>∃x4_,∃x5_,∃p6_,r3_=.agg #[.int .i64 x4_,.int .i64 x5_,.pointer p6_]/\(∀V5,V4.Le V5->R (.agg #[.int .i64 x1_,.int .i64 x2_,.pointer p3_,.int .i64 x4_,.int .i64 x5_,.pointer p6_]) V5)))) :
  Acts prog 169 #[.agg #[.int .i64 p0,.int .i64 p1,.pointer p2,.int .i64 p3,.int .i64 p4,.pointer p5],.agg #[.int .i64 q0,.int .i64 q1,.pointer q2,.int .i64 q3,.int .i64 q4,.pointer q5]] V R:=
 fn_does (LF:=LF0) (RF:=[1000007]) (β0:=(fun _=>0)) tab_ok mixed [] [] func169 (by kernel_rfl)
  [(0,.agg [.v (.int .i64 p0),.v (.int .i64 p1),.v (.pointer p2),.v (.int .i64 p3),.v (.int .i64 p4),.v (.pointer p5)]),(1,.agg [.v (.int .i64 q0),.v (.int .i64 q1),.v (.pointer q2),.v (.int .i64 q3),.v (.int .i64 q4),.v (.pointer q5)])]
  [] (by kernel_rfl) trivial h (by kernel_rfl)
theorem vc_geo_Pt_Sub (p0:Int) (p1:Int) (p2:OA) (p3:Int) (p4:Int) (p5:OA) (q0:Int) (q1:Int) (q2:OA) (q3:Int) (q4:Int) (q5:OA) (V:View) (R:Value->View->Prop)
  (h:(∀V1,V.Le V1->Acts prog 186 #[.agg #[.int .i64 p0,.int .i64 p1,.pointer p2],.agg #[.int .i64 q0,.int .i64 q1,.pointer q2]] V1 fun r1_ V2=>∃x1_,∃x2_,∃p3_,r1_=.agg #[.int .i64 x1_,.int .i64 x2_,.pointer p3_]/\(∀V3,V2.Le V3->Acts prog 186 #[.agg #[.int .i64 p3,.int .i64 p4,.pointer p5],.agg #[.int .i64 q3,.int .i64 q4,.pointer q5]] V3 fun r3_ V4=>∃x4_,∃x5_,∃p6_,r3_=.agg #[.int .i64 x4_,.int .i64 x5_,.pointer p6_]/\(∀V5,V4.Le V5->R (.agg #[.int .i64 x1_,.int .i64 x2_,.pointer p3_,.int .i64 x4_,.int .i64 x5_,.pointer p6_]) V5)))) :
  Acts prog 157 #[.agg #[.int .i64 p0,.int .i64 p1,.pointer p2,.int .i64 p3,.int .i64 p4,.pointer p5],.agg #[.int .i64 q0,.int .i64 q1,.pointer q2,.int .i64 q3,.int .i64 q4,.pointer q5]] V R:=
 fn_does (LF:=LF0) (RF:=[1000007]) (β0:=(fun _=>0)) tab_ok mixed [] [] func157 (by kernel_rfl)
  [(0,.agg [.v (.int .i64 p0),.v (.int .i64 p1),.v (.pointer p2),.v (.int .i64 p3),.v (.int .i64 p4),.v (.pointer p5)]),(1,.agg [.v (.int .i64 q0),.v (.int .i64 q1),.v (.pointer q2),.v (.int .i64 q3),.v (.int .i64 q4),.v (.pointer q5)])]
  [] (by kernel_rfl) trivial h (by kernel_rfl)
theorem vc_geo_Pt_Scale (p0:Int) (p1:Int) (p2:OA) (p3:Int) (p4:Int) (p5:OA) (c0:Int) (c1:Int) (c2:OA) (V:View) (R:Value->View->Prop)
  (h:(∀V1,V.Le V1->Acts prog 185 #[.agg #[.int .i64 p0,.int .i64 p1,.pointer p2],.agg #[.int .i64 c0,.int .i64 c1,.pointer c2]] V1 fun r1_ V2=>∃x1_,∃x2_,∃p3_,r1_=.agg #[.int .i64 x1_,.int .i64 x2_,.pointer p3_]/\(∀V3,V2.Le V3->Acts prog 185 #[.agg #[.int .i64 p3,.int .i64 p4,.pointer p5],.agg #[.int .i64 c0,.int .i64 c1,.pointer c2]] V3 fun r3_ V4=>∃x4_,∃x5_,∃p6_,r3_=.agg #[.int .i64 x4_,.int .i64 x5_,.pointer p6_]/\(∀V5,V4.Le V5->R (.agg #[.int .i64 x1_,.int .i64 x2_,.pointer p3_,.int .i64 x4_,.int .i64 x5_,.pointer p6_]) V5)))) :
  Acts prog 170 #[.agg #[.int .i64 p0,.int .i64 p1,.pointer p2,.int .i64 p3,.int .i64 p4,.pointer p5],.agg #[.int .i64 c0,.int .i64 c1,.pointer c2]] V R:=
 fn_does (LF:=LF0) (RF:=[1000007]) (β0:=(fun _=>0)) tab_ok mixed [] [] func170 (by kernel_rfl)
  [(0,.agg [.v (.int .i64 p0),.v (.int .i64 p1),.v (.pointer p2),.v (.int .i64 p3),.v (.int .i64 p4),.v (.pointer p5)]),(1,.agg [.v (.int .i64 c0),.v (.int .i64 c1),.v (.pointer c2)])]
  [] (by kernel_rfl) trivial h (by kernel_rfl)
theorem vc_geo_Pt_Turn (p0:Int) (p1:Int) (p2:OA) (p3:Int) (p4:Int) (p5:OA) (V:View) (R:Value->View->Prop)
  (h:(∀V1,V.Le V1->Acts prog 161 #[.agg #[.int .i64 p3,.int .i64 p4,.pointer p5]] V1 fun r1_ V2=>∃x1_,∃x2_,∃p3_,r1_=.agg #[.int .i64 x1_,.int .i64 x2_,.pointer p3_]/\(∀V3,V2.Le V3->R (.agg #[.int .i64 x1_,.int .i64 x2_,.pointer p3_,.int .i64 p0,.int .i64 p1,.pointer p2]) V3))) :
  Acts prog 158 #[.agg #[.int .i64 p0,.int .i64 p1,.pointer p2,.int .i64 p3,.int .i64 p4,.pointer p5]] V R:=
 fn_does (LF:=LF0) (RF:=[1000007]) (β0:=(fun _=>0)) tab_ok mixed [] [] func158 (by kernel_rfl)
  [(0,.agg [.v (.int .i64 p0),.v (.int .i64 p1),.v (.pointer p2),.v (.int .i64 p3),.v (.int .i64 p4),.v (.pointer p5)])]
  [] (by kernel_rfl) trivial h (by kernel_rfl)
theorem vc_geo_Pt_Dot (p0:Int) (p1:Int) (p2:OA) (p3:Int) (p4:Int) (p5:OA) (q0:Int) (q1:Int) (q2:OA) (q3:Int) (q4:Int) (q5:OA) (V:View) (R:Value->View->Prop)
  (h:(∀V1,V.Le V1->Acts prog 185 #[.agg #[.int .i64 p0,.int .i64 p1,.pointer p2],.agg #[.int .i64 q0,.int .i64 q1,.pointer q2]] V1 fun r1_ V2=>∃x1_,∃x2_,∃p3_,r1_=.agg #[.int .i64 x1_,.int .i64 x2_,.pointer p3_]/\(∀V3,V2.Le V3->Acts prog 185 #[.agg #[.int .i64 p3,.int .i64 p4,.pointer p5],.agg #[.int .i64 q3,.int .i64 q4,.pointer q5]] V3 fun r3_ V4=>∃x4_,∃x5_,∃p6_,r3_=.agg #[.int .i64 x4_,.int .i64 x5_,.pointer p6_]/\(∀V5,V4.Le V5->Acts prog 198 #[.agg #[.int .i64 x1_,.int .i64 x2_,.pointer p3_],.agg #[.int .i64 x4_,.int .i64 x5_,.pointer p6_]] V5 fun r5_ V6=>∃x7_,∃x8_,∃p9_,r5_=.agg #[.int .i64 x7_,.int .i64 x8_,.pointer p9_]/\(∀V7,V6.Le V7->R (.agg #[.int .i64 x7_,.int .i64 x8_,.pointer p9_]) V7))))) :
  Acts prog 160 #[.agg #[.int .i64 p0,.int .i64 p1,.pointer p2,.int .i64 p3,.int .i64 p4,.pointer p5],.agg #[.int .i64 q0,.int .i64 q1,.pointer q2,.int .i64 q3,.int .i64 q4,.pointer q5]] V R:=
 fn_does (LF:=LF0) (RF:=[1000007]) (β0:=(fun _=>0)) tab_ok mixed [] [] func160 (by kernel_rfl)
  [(0,.agg [.v (.int .i64 p0),.v (.int .i64 p1),.v (.pointer p2),.v (.int .i64 p3),.v (.int .i64 p4),.v (.pointer p5)]),(1,.agg [.v (.int .i64 q0),.v (.int .i64 q1),.v (.pointer q2),.v (.int .i64 q3),.v (.int .i64 q4),.v (.pointer q5)])]
  [] (by kernel_rfl) trivial h (by kernel_rfl)
theorem vc_geo_Pt_Cross (p0:Int) (p1:Int) (p2:OA) (p3:Int) (p4:Int) (p5:OA) (q0:Int) (q1:Int) (q2:OA) (q3:Int) (q4:Int) (q5:OA) (V:View) (R:Value->View->Prop)
  (h:(∀V1,V.Le V1->Acts prog 185 #[.agg #[.int .i64 p0,.int .i64 p1,.pointer p2],.agg #[.int .i64 q3,.int .i64 q4,.pointer q5]] V1 fun r1_ V2=>∃x1_,∃x2_,∃p3_,r1_=.agg #[.int .i64 x1_,.int .i64 x2_,.pointer p3_]/\(∀V3,V2.Le V3->Acts prog 185 #[.agg #[.int .i64 p3,.int .i64 p4,.pointer p5],.agg #[.int .i64 q0,.int .i64 q1,.pointer q2]] V3 fun r3_ V4=>∃x4_,∃x5_,∃p6_,r3_=.agg #[.int .i64 x4_,.int .i64 x5_,.pointer p6_]/\(∀V5,V4.Le V5->Acts prog 186 #[.agg #[.int .i64 x1_,.int .i64 x2_,.pointer p3_],.agg #[.int .i64 x4_,.int .i64 x5_,.pointer p6_]] V5 fun r5_ V6=>∃x7_,∃x8_,∃p9_,r5_=.agg #[.int .i64 x7_,.int .i64 x8_,.pointer p9_]/\(∀V7,V6.Le V7->R (.agg #[.int .i64 x7_,.int .i64 x8_,.pointer p9_]) V7))))) :
  Acts prog 184 #[.agg #[.int .i64 p0,.int .i64 p1,.pointer p2,.int .i64 p3,.int .i64 p4,.pointer p5],.agg #[.int .i64 q0,.int .i64 q1,.pointer q2,.int .i64 q3,.int .i64 q4,.pointer q5]] V R:=
 fn_does (LF:=LF0) (RF:=[1000007]) (β0:=(fun _=>0)) tab_ok mixed [] [] func184 (by kernel_rfl)
  [(0,.agg [.v (.int .i64 p0),.v (.int .i64 p1),.v (.pointer p2),.v (.int .i64 p3),.v (.int .i64 p4),.v (.pointer p5)]),(1,.agg [.v (.int .i64 q0),.v (.int .i64 q1),.v (.pointer q2),.v (.int .i64 q3),.v (.int .i64 q4),.v (.pointer q5)])]
  [] (by kernel_rfl) trivial h (by kernel_rfl)
theorem vc_geo_Pt_Equal (p0:Int) (p1:Int) (p2:OA) (p3:Int) (p4:Int) (p5:OA) (q0:Int) (q1:Int) (q2:OA) (q3:Int) (q4:Int) (q5:OA) (V:View) (R:Value->View->Prop)
  (h:(∀V1,V.Le V1->Acts prog 143 #[.agg #[.int .i64 p0,.int .i64 p1,.pointer p2],.agg #[.int .i64 q0,.int .i64 q1,.pointer q2]] V1 fun r1_ V2=>∃b1_,r1_=.bool b1_/\((b1_=true->(∀V3,V2.Le V3->Acts prog 143 #[.agg #[.int .i64 p3,.int .i64 p4,.pointer p5],.agg #[.int .i64 q3,.int .i64 q4,.pointer q5]] V3 fun r3_ V4=>∃b2_,r3_=.bool b2_/\(∀V5,V4.Le V5->R (.bool b2_) V5)))/\(b1_=false->(∀V6,V2.Le V6->R (.bool false) V6))))) :
  Acts prog 128 #[.agg #[.int .i64 p0,.int .i64 p1,.pointer p2,.int .i64 p3,.int .i64 p4,.pointer p5],.agg #[.int .i64 q0,.int .i64 q1,.pointer q2,.int .i64 q3,.int .i64 q4,.pointer q5]] V R:=
 fn_does (LF:=LF0) (RF:=[1000007]) (β0:=(fun _=>0)) tab_ok mixed [] [] func128 (by kernel_rfl)
  [(0,.agg [.v (.int .i64 p0),.v (.int .i64 p1),.v (.pointer p2),.v (.int .i64 p3),.v (.int .i64 p4),.v (.pointer p5)]),(1,.agg [.v (.int .i64 q0),.v (.int .i64 q1),.v (.pointer q2),.v (.int .i64 q3),.v (.int .i64 q4),.v (.pointer q5)])]
  [] (by kernel_rfl) trivial h (by kernel_rfl)
theorem vc_geo_scaled (f0:Int) (f1:Int) (f2:OA) (lb:Nat) (n c:Nat) (vs:List Value) (V:View) (R:Value->View->Prop) (hw100000:vs≠[]->V.w.heap[lb]?=some (.cells vs.toArray 108 (0,0))) (hx100000:vs≠[]->V.X lb)
  (h:(∃(I1_:(Int × (List Value))->View->Prop) (m2_:(Int × (List Value))->Nat),(∃z3_:Int × (List Value),(sm n/\sm c/\sm 0/\sm ((n:Nat):Int)/\((0:Int)=z3_.1)/\(f0=f0)/\(f1=f1)/\sm f2/\(vs=z3_.2))/\I1_ z3_ V)/\∀(z4_:Int × (List Value)) (V1:View),V.Le V1->I1_ z4_ V1->(true=true/\(((decide (z4_.1 < ((n:Nat):Int)))=true->(0<=z4_.1/\z4_.1 < ((n:Nat):Int))/\(n<=c)/\(∃x5_,∃x6_,∃p7_,((z4_.1.toNat * 3) + 3<=z4_.2.length/\(z4_.2.drop (z4_.1.toNat * 3)).take 3=[.int .i64 x5_,.int .i64 x6_,.pointer p7_])/\(∀V2,V1.Le V2->Acts prog 185 #[.agg #[.int .i64 x5_,.int .i64 x6_,.pointer p7_],.agg #[.int .i64 f0,.int .i64 f1,.pointer f2]] V2 fun r2_ V3=>∃x8_,∃x9_,∃p10_,r2_=.agg #[.int .i64 x8_,.int .i64 x9_,.pointer p10_]/\(0<=z4_.1/\z4_.1 < ((n:Nat):Int))/\(n<=c)/\((z4_.1.toNat * 3) + 3<=z4_.2.length)/\(∃z11_:Int × (List Value),m2_ z11_ < m2_ z4_/\(sm n/\sm c/\sm 0/\sm ((n:Nat):Int)/\((i64.wrap (z4_.1 + (1:Int)))=z11_.1)/\(f0=f0)/\(f1=f1)/\sm f2/\((setVals z4_.2 (z4_.1.toNat * 3) [.int .i64 x8_,.int .i64 x9_,.pointer p10_])=z11_.2))/\I1_ z11_ V3))))/\((decide (z4_.1 < ((n:Nat):Int)))=false->(∀V4:View,∀bk12_:Nat,V1.Le (V4.hideG (z4_.2≠[]) bk12_)->(z4_.2≠[]->V4.w.heap[bk12_]?=some (.cells z4_.2.toArray 108 (0,0)))->(z4_.2≠[]->V.w.heap.size<=bk12_ \/ (vs≠[]/\bk12_=lb) \/ False)->R (.slice (mA bk12_ c) n c) V4)))))) :
  Acts prog 196 #[.agg #[.int .i64 f0,.int .i64 f1,.pointer f2],.slice (mA lb c) n c] V R:=
 fn_does (LF:=LF0) (RF:=[1000007]) (β0:=(upd1 (fun _=>0) 100000 lb)) tab_ok mixed [(2,{ τ:=Int × (List Value),keep:=[1,2,7],keepB:=[2],slots:=fun z=>[(8,.c (.v (.int .i64 z.1)))],boxes:=fun z=>[(100000,⟨.mrow z.2,108⟩)] })] [] func196 (by kernel_rfl)
  [(0,.agg [.v (.int .i64 f0),.v (.int .i64 f1),.v (.pointer f2)]),(1,.c (.msl 100000 n c))]
  [(100000,⟨.mrow vs,108⟩)] (by kernel_rfl) ⟨⟨hw100000,hx100000⟩,trivial,trivial⟩ h (by kernel_rfl)
theorem vc_geo_Make (a0:Int) (a1:Int) (a2:OA) (b0:Int) (b1:Int) (b2:OA) (c0:Int) (c1:Int) (c2:OA) (V:View) (R:Value->View->Prop)
  (h:(∀V1,V.Le V1->Acts prog 153 #[.agg #[.int .i64 a0,.int .i64 a1,.pointer a2]] V1 fun r1_ V2=>∃b1_,r1_=.bool b1_/\((b1_=true->(∀V3,V2.Le V3->Acts prog 153 #[.agg #[.int .i64 b0,.int .i64 b1,.pointer b2]] V3 fun r3_ V4=>∃b2_,r3_=.bool b2_/\((b2_=true->(∀V5,V4.Le V5->R (.tuple #[.agg #[.int .i64 0,.int .i64 0,.pointer none,.int .i64 0,.int .i64 0,.pointer none,.int .i64 0,.int .i64 0,.pointer none],.bool false]) V5))/\(b2_=false->(∀V6,V4.Le V6->Acts prog 154 #[.agg #[.int .i64 a0,.int .i64 a1,.pointer a2],.agg #[.int .i64 b0,.int .i64 b1,.pointer b2]] V6 fun r6_ V7=>∃x3_,∃x4_,∃p5_,r6_=.agg #[.int .i64 x3_,.int .i64 x4_,.pointer p5_]/\(∀V8,V7.Le V8->Acts prog 154 #[.agg #[.int .i64 x3_,.int .i64 x4_,.pointer p5_],.agg #[.int .i64 c0,.int .i64 c1,.pointer c2]] V8 fun r8_ V9=>∃x6_,∃x7_,∃p8_,r8_=.agg #[.int .i64 x6_,.int .i64 x7_,.pointer p8_]/\(∀V10,V9.Le V10->Acts prog 197 #[.agg #[.int .i64 x6_,.int .i64 x7_,.pointer p8_]] V10 fun r10_ V11=>∃x9_,∃x10_,∃p11_,r10_=.agg #[.int .i64 x9_,.int .i64 x10_,.pointer p11_]/\(∀V12,V11.Le V12->∀bk12_:Nat,(V12.w.heap[bk12_]?=some (.cells #[.int .i64 a0,.int .i64 a1,.pointer a2,.int .i64 b0,.int .i64 b1,.pointer b2,.int .i64 c0,.int .i64 c1,.pointer c2] 108 (0,0)))->(V12.H bk12_)->Acts prog 196 #[.agg #[.int .i64 x9_,.int .i64 x10_,.pointer p11_],.slice (some ⟨bk12_,0,none⟩) 3 3] (V12.lend [bk12_]) fun r12_ V13=>∃(bm14_:Nat) (vm15_:List Value),(vm15_≠[]->V13.w.heap[bm14_]?=some (.cells vm15_.toArray 108 (0,0)))/\(vm15_≠[]->V12.w.heap.size<=bm14_ \/ bm14_=bk12_)/\∃(p13_:OA) (n13_ c13_:Nat),r12_=.slice (mA bm14_ c13_) n13_ c13_/\(0<=(0:Int)/\(0:Int) < ((n13_:Nat):Int))/\(n13_<=c13_)/\(∃x16_,∃x17_,∃p18_,(3<=vm15_.length/\(vm15_.drop 0).take 3=[.int .i64 x16_,.int .i64 x17_,.pointer p18_])/\(0<=(1:Int)/\(1:Int) < ((n13_:Nat):Int))/\(n13_<=c13_)/\(∃x19_,∃x20_,∃p21_,(6<=vm15_.length/\(vm15_.drop 3).take 3=[.int .i64 x19_,.int .i64 x20_,.pointer p21_])/\(0<=(2:Int)/\(2:Int) < ((n13_:Nat):Int))/\(n13_<=c13_)/\(∃x22_,∃x23_,∃p24_,(9<=vm15_.length/\(vm15_.drop 6).take 3=[.int .i64 x22_,.int .i64 x23_,.pointer p24_])/\(∀V14:View,(V13.shut.hideG (vm15_≠[]) bm14_).Le V14->R (.tuple #[.agg #[.int .i64 x16_,.int .i64 x17_,.pointer p18_,.int .i64 x19_,.int .i64 x20_,.pointer p21_,.int .i64 x22_,.int .i64 x23_,.pointer p24_],.bool true]) V14))))))))))))/\(b1_=false->(∀V15,V2.Le V15->Acts prog 154 #[.agg #[.int .i64 a0,.int .i64 a1,.pointer a2],.agg #[.int .i64 b0,.int .i64 b1,.pointer b2]] V15 fun r15_ V16=>∃x25_,∃x26_,∃p27_,r15_=.agg #[.int .i64 x25_,.int .i64 x26_,.pointer p27_]/\(∀V17,V16.Le V17->Acts prog 154 #[.agg #[.int .i64 x25_,.int .i64 x26_,.pointer p27_],.agg #[.int .i64 c0,.int .i64 c1,.pointer c2]] V17 fun r17_ V18=>∃x28_,∃x29_,∃p30_,r17_=.agg #[.int .i64 x28_,.int .i64 x29_,.pointer p30_]/\(∀V19,V18.Le V19->Acts prog 197 #[.agg #[.int .i64 x28_,.int .i64 x29_,.pointer p30_]] V19 fun r19_ V20=>∃x31_,∃x32_,∃p33_,r19_=.agg #[.int .i64 x31_,.int .i64 x32_,.pointer p33_]/\(∀V21,V20.Le V21->∀bk34_:Nat,(V21.w.heap[bk34_]?=some (.cells #[.int .i64 a0,.int .i64 a1,.pointer a2,.int .i64 b0,.int .i64 b1,.pointer b2,.int .i64 c0,.int .i64 c1,.pointer c2] 108 (0,0)))->(V21.H bk34_)->Acts prog 196 #[.agg #[.int .i64 x31_,.int .i64 x32_,.pointer p33_],.slice (some ⟨bk34_,0,none⟩) 3 3] (V21.lend [bk34_]) fun r21_ V22=>∃(bm36_:Nat) (vm37_:List Value),(vm37_≠[]->V22.w.heap[bm36_]?=some (.cells vm37_.toArray 108 (0,0)))/\(vm37_≠[]->V21.w.heap.size<=bm36_ \/ bm36_=bk34_)/\∃(p35_:OA) (n35_ c35_:Nat),r21_=.slice (mA bm36_ c35_) n35_ c35_/\(0<=(0:Int)/\(0:Int) < ((n35_:Nat):Int))/\(n35_<=c35_)/\(∃x38_,∃x39_,∃p40_,(3<=vm37_.length/\(vm37_.drop 0).take 3=[.int .i64 x38_,.int .i64 x39_,.pointer p40_])/\(0<=(1:Int)/\(1:Int) < ((n35_:Nat):Int))/\(n35_<=c35_)/\(∃x41_,∃x42_,∃p43_,(6<=vm37_.length/\(vm37_.drop 3).take 3=[.int .i64 x41_,.int .i64 x42_,.pointer p43_])/\(0<=(2:Int)/\(2:Int) < ((n35_:Nat):Int))/\(n35_<=c35_)/\(∃x44_,∃x45_,∃p46_,(9<=vm37_.length/\(vm37_.drop 6).take 3=[.int .i64 x44_,.int .i64 x45_,.pointer p46_])/\(∀V23:View,(V22.shut.hideG (vm37_≠[]) bm36_).Le V23->R (.tuple #[.agg #[.int .i64 x38_,.int .i64 x39_,.pointer p40_,.int .i64 x41_,.int .i64 x42_,.pointer p43_,.int .i64 x44_,.int .i64 x45_,.pointer p46_],.bool true]) V23)))))))))))) :
  Acts prog 159 #[.agg #[.int .i64 a0,.int .i64 a1,.pointer a2],.agg #[.int .i64 b0,.int .i64 b1,.pointer b2],.agg #[.int .i64 c0,.int .i64 c1,.pointer c2]] V R:=
 fn_does (LF:=LF0) (RF:=[1000007]) (β0:=(fun _=>0)) tab_ok mixed [] [] func159 (by kernel_rfl)
  [(0,.agg [.v (.int .i64 a0),.v (.int .i64 a1),.v (.pointer a2)]),(1,.agg [.v (.int .i64 b0),.v (.int .i64 b1),.v (.pointer b2)]),(2,.agg [.v (.int .i64 c0),.v (.int .i64 c1),.v (.pointer c2)])]
  [] (by kernel_rfl) trivial h (by kernel_rfl)
theorem vc_geo_Through (p0:Int) (p1:Int) (p2:OA) (p3:Int) (p4:Int) (p5:OA) (q0:Int) (q1:Int) (q2:OA) (q3:Int) (q4:Int) (q5:OA) (V:View) (R:Value->View->Prop)
  (h:(∀V1,V.Le V1->Acts prog 157 #[.agg #[.int .i64 q0,.int .i64 q1,.pointer q2,.int .i64 q3,.int .i64 q4,.pointer q5],.agg #[.int .i64 p0,.int .i64 p1,.pointer p2,.int .i64 p3,.int .i64 p4,.pointer p5]] V1 fun r1_ V2=>∃x1_,∃x2_,∃p3_,∃x4_,∃x5_,∃p6_,r1_=.agg #[.int .i64 x1_,.int .i64 x2_,.pointer p3_,.int .i64 x4_,.int .i64 x5_,.pointer p6_]/\(∀V3,V2.Le V3->Acts prog 158 #[.agg #[.int .i64 x1_,.int .i64 x2_,.pointer p3_,.int .i64 x4_,.int .i64 x5_,.pointer p6_]] V3 fun r3_ V4=>∃x7_,∃x8_,∃p9_,∃x10_,∃x11_,∃p12_,r3_=.agg #[.int .i64 x7_,.int .i64 x8_,.pointer p9_,.int .i64 x10_,.int .i64 x11_,.pointer p12_]/\(∀V5,V4.Le V5->Acts prog 160 #[.agg #[.int .i64 x7_,.int .i64 x8_,.pointer p9_,.int .i64 x10_,.int .i64 x11_,.pointer p12_],.agg #[.int .i64 p0,.int .i64 p1,.pointer p2,.int .i64 p3,.int .i64 p4,.pointer p5]] V5 fun r5_ V6=>∃x13_,∃x14_,∃p15_,r5_=.agg #[.int .i64 x13_,.int .i64 x14_,.pointer p15_]/\(∀V7,V6.Le V7->Acts prog 161 #[.agg #[.int .i64 x13_,.int .i64 x14_,.pointer p15_]] V7 fun r7_ V8=>∃x16_,∃x17_,∃p18_,r7_=.agg #[.int .i64 x16_,.int .i64 x17_,.pointer p18_]/\(∀V9,V8.Le V9->Acts prog 159 #[.agg #[.int .i64 x7_,.int .i64 x8_,.pointer p9_],.agg #[.int .i64 x10_,.int .i64 x11_,.pointer p12_],.agg #[.int .i64 x16_,.int .i64 x17_,.pointer p18_]] V9 fun r9_ V10=>∃x19_,∃x20_,∃p21_,∃x22_,∃x23_,∃p24_,∃x25_,∃x26_,∃p27_,∃b28_,r9_=.tuple #[.agg #[.int .i64 x19_,.int .i64 x20_,.pointer p21_,.int .i64 x22_,.int .i64 x23_,.pointer p24_,.int .i64 x25_,.int .i64 x26_,.pointer p27_],.bool b28_]/\(∀V11,V10.Le V11->R (.tuple #[.agg #[.int .i64 x19_,.int .i64 x20_,.pointer p21_,.int .i64 x22_,.int .i64 x23_,.pointer p24_,.int .i64 x25_,.int .i64 x26_,.pointer p27_],.bool b28_]) V11))))))) :
  Acts prog 100 #[.agg #[.int .i64 p0,.int .i64 p1,.pointer p2,.int .i64 p3,.int .i64 p4,.pointer p5],.agg #[.int .i64 q0,.int .i64 q1,.pointer q2,.int .i64 q3,.int .i64 q4,.pointer q5]] V R:=
 fn_does (LF:=LF0) (RF:=[1000007]) (β0:=(fun _=>0)) tab_ok mixed [] [] func100 (by kernel_rfl)
  [(0,.agg [.v (.int .i64 p0),.v (.int .i64 p1),.v (.pointer p2),.v (.int .i64 p3),.v (.int .i64 p4),.v (.pointer p5)]),(1,.agg [.v (.int .i64 q0),.v (.int .i64 q1),.v (.pointer q2),.v (.int .i64 q3),.v (.int .i64 q4),.v (.pointer q5)])]
  [] (by kernel_rfl) trivial h (by kernel_rfl)
theorem vc_geo_Ln_Reverse (l0:Int) (l1:Int) (l2:OA) (l3:Int) (l4:Int) (l5:OA) (l6:Int) (l7:Int) (l8:OA) (V:View) (R:Value->View->Prop)
  (h:(∀V1,V.Le V1->Acts prog 161 #[.agg #[.int .i64 l0,.int .i64 l1,.pointer l2]] V1 fun r1_ V2=>∃x1_,∃x2_,∃p3_,r1_=.agg #[.int .i64 x1_,.int .i64 x2_,.pointer p3_]/\(∀V3,V2.Le V3->Acts prog 161 #[.agg #[.int .i64 l3,.int .i64 l4,.pointer l5]] V3 fun r3_ V4=>∃x4_,∃x5_,∃p6_,r3_=.agg #[.int .i64 x4_,.int .i64 x5_,.pointer p6_]/\(∀V5,V4.Le V5->Acts prog 161 #[.agg #[.int .i64 l6,.int .i64 l7,.pointer l8]] V5 fun r5_ V6=>∃x7_,∃x8_,∃p9_,r5_=.agg #[.int .i64 x7_,.int .i64 x8_,.pointer p9_]/\(∀V7,V6.Le V7->R (.agg #[.int .i64 x1_,.int .i64 x2_,.pointer p3_,.int .i64 x4_,.int .i64 x5_,.pointer p6_,.int .i64 x7_,.int .i64 x8_,.pointer p9_]) V7))))) :
  Acts prog 125 #[.agg #[.int .i64 l0,.int .i64 l1,.pointer l2,.int .i64 l3,.int .i64 l4,.pointer l5,.int .i64 l6,.int .i64 l7,.pointer l8]] V R:=
 fn_does (LF:=LF0) (RF:=[1000007]) (β0:=(fun _=>0)) tab_ok mixed [] [] func125 (by kernel_rfl)
  [(0,.agg [.v (.int .i64 l0),.v (.int .i64 l1),.v (.pointer l2),.v (.int .i64 l3),.v (.int .i64 l4),.v (.pointer l5),.v (.int .i64 l6),.v (.int .i64 l7),.v (.pointer l8)])]
  [] (by kernel_rfl) trivial h (by kernel_rfl)
theorem vc_geo_Ln_Normal (l0:Int) (l1:Int) (l2:OA) (l3:Int) (l4:Int) (l5:OA) (l6:Int) (l7:Int) (l8:OA) (V:View) (R:Value->View->Prop)
  (h:(∀V1,V.Le V1->R (.agg #[.int .i64 l0,.int .i64 l1,.pointer l2,.int .i64 l3,.int .i64 l4,.pointer l5]) V1)) :
  Acts prog 183 #[.agg #[.int .i64 l0,.int .i64 l1,.pointer l2,.int .i64 l3,.int .i64 l4,.pointer l5,.int .i64 l6,.int .i64 l7,.pointer l8]] V R:=
 fn_does (LF:=LF0) (RF:=[1000007]) (β0:=(fun _=>0)) tab_ok mixed [] [] func183 (by kernel_rfl)
  [(0,.agg [.v (.int .i64 l0),.v (.int .i64 l1),.v (.pointer l2),.v (.int .i64 l3),.v (.int .i64 l4),.v (.pointer l5),.v (.int .i64 l6),.v (.int .i64 l7),.v (.pointer l8)])]
  [] (by kernel_rfl) trivial h (by kernel_rfl)
theorem vc_geo_Ln_Dir (l0:Int) (l1:Int) (l2:OA) (l3:Int) (l4:Int) (l5:OA) (l6:Int) (l7:Int) (l8:OA) (V:View) (R:Value->View->Prop)
  (h:(∀V1,V.Le V1->Acts prog 161 #[.agg #[.int .i64 l0,.int .i64 l1,.pointer l2]] V1 fun r1_ V2=>∃x1_,∃x2_,∃p3_,r1_=.agg #[.int .i64 x1_,.int .i64 x2_,.pointer p3_]/\(∀V3,V2.Le V3->R (.agg #[.int .i64 l3,.int .i64 l4,.pointer l5,.int .i64 x1_,.int .i64 x2_,.pointer p3_]) V3))) :
  Acts prog 162 #[.agg #[.int .i64 l0,.int .i64 l1,.pointer l2,.int .i64 l3,.int .i64 l4,.pointer l5,.int .i64 l6,.int .i64 l7,.pointer l8]] V R:=
 fn_does (LF:=LF0) (RF:=[1000007]) (β0:=(fun _=>0)) tab_ok mixed [] [] func162 (by kernel_rfl)
  [(0,.agg [.v (.int .i64 l0),.v (.int .i64 l1),.v (.pointer l2),.v (.int .i64 l3),.v (.int .i64 l4),.v (.pointer l5),.v (.int .i64 l6),.v (.int .i64 l7),.v (.pointer l8)])]
  [] (by kernel_rfl) trivial h (by kernel_rfl)
theorem vc_geo_Ln_Value (l0:Int) (l1:Int) (l2:OA) (l3:Int) (l4:Int) (l5:OA) (l6:Int) (l7:Int) (l8:OA) (p0:Int) (p1:Int) (p2:OA) (p3:Int) (p4:Int) (p5:OA) (V:View) (R:Value->View->Prop)
  (h:(∀V1,V.Le V1->Acts prog 183 #[.agg #[.int .i64 l0,.int .i64 l1,.pointer l2,.int .i64 l3,.int .i64 l4,.pointer l5,.int .i64 l6,.int .i64 l7,.pointer l8]] V1 fun r1_ V2=>∃x1_,∃x2_,∃p3_,∃x4_,∃x5_,∃p6_,r1_=.agg #[.int .i64 x1_,.int .i64 x2_,.pointer p3_,.int .i64 x4_,.int .i64 x5_,.pointer p6_]/\(∀V3,V2.Le V3->Acts prog 160 #[.agg #[.int .i64 x1_,.int .i64 x2_,.pointer p3_,.int .i64 x4_,.int .i64 x5_,.pointer p6_],.agg #[.int .i64 p0,.int .i64 p1,.pointer p2,.int .i64 p3,.int .i64 p4,.pointer p5]] V3 fun r3_ V4=>∃x7_,∃x8_,∃p9_,r3_=.agg #[.int .i64 x7_,.int .i64 x8_,.pointer p9_]/\(∀V5,V4.Le V5->Acts prog 198 #[.agg #[.int .i64 x7_,.int .i64 x8_,.pointer p9_],.agg #[.int .i64 l6,.int .i64 l7,.pointer l8]] V5 fun r5_ V6=>∃x10_,∃x11_,∃p12_,r5_=.agg #[.int .i64 x10_,.int .i64 x11_,.pointer p12_]/\(∀V7,V6.Le V7->R (.agg #[.int .i64 x10_,.int .i64 x11_,.pointer p12_]) V7))))) :
  Acts prog 173 #[.agg #[.int .i64 l0,.int .i64 l1,.pointer l2,.int .i64 l3,.int .i64 l4,.pointer l5,.int .i64 l6,.int .i64 l7,.pointer l8],.agg #[.int .i64 p0,.int .i64 p1,.pointer p2,.int .i64 p3,.int .i64 p4,.pointer p5]] V R:=
 fn_does (LF:=LF0) (RF:=[1000007]) (β0:=(fun _=>0)) tab_ok mixed [] [] func173 (by kernel_rfl)
  [(0,.agg [.v (.int .i64 l0),.v (.int .i64 l1),.v (.pointer l2),.v (.int .i64 l3),.v (.int .i64 l4),.v (.pointer l5),.v (.int .i64 l6),.v (.int .i64 l7),.v (.pointer l8)]),(1,.agg [.v (.int .i64 p0),.v (.int .i64 p1),.v (.pointer p2),.v (.int .i64 p3),.v (.int .i64 p4),.v (.pointer p5)])]
  [] (by kernel_rfl) trivial h (by kernel_rfl)
theorem vc_geo_Ln_Base (l0:Int) (l1:Int) (l2:OA) (l3:Int) (l4:Int) (l5:OA) (l6:Int) (l7:Int) (l8:OA) (V:View) (R:Value->View->Prop)
  (h:(∀V1,V.Le V1->Acts prog 183 #[.agg #[.int .i64 l0,.int .i64 l1,.pointer l2,.int .i64 l3,.int .i64 l4,.pointer l5,.int .i64 l6,.int .i64 l7,.pointer l8]] V1 fun r1_ V2=>∃x1_,∃x2_,∃p3_,∃x4_,∃x5_,∃p6_,r1_=.agg #[.int .i64 x1_,.int .i64 x2_,.pointer p3_,.int .i64 x4_,.int .i64 x5_,.pointer p6_]/\(∀V3,V2.Le V3->Acts prog 161 #[.agg #[.int .i64 l6,.int .i64 l7,.pointer l8]] V3 fun r3_ V4=>∃x7_,∃x8_,∃p9_,r3_=.agg #[.int .i64 x7_,.int .i64 x8_,.pointer p9_]/\(∀V5,V4.Le V5->Acts prog 160 #[.agg #[.int .i64 x1_,.int .i64 x2_,.pointer p3_,.int .i64 x4_,.int .i64 x5_,.pointer p6_],.agg #[.int .i64 x1_,.int .i64 x2_,.pointer p3_,.int .i64 x4_,.int .i64 x5_,.pointer p6_]] V5 fun r5_ V6=>∃x10_,∃x11_,∃p12_,r5_=.agg #[.int .i64 x10_,.int .i64 x11_,.pointer p12_]/\(∀V7,V6.Le V7->Acts prog 163 #[.agg #[.int .i64 x7_,.int .i64 x8_,.pointer p9_],.agg #[.int .i64 x10_,.int .i64 x11_,.pointer p12_]] V7 fun r7_ V8=>∃x13_,∃x14_,∃p15_,r7_=.agg #[.int .i64 x13_,.int .i64 x14_,.pointer p15_]/\(∀V9,V8.Le V9->Acts prog 170 #[.agg #[.int .i64 x1_,.int .i64 x2_,.pointer p3_,.int .i64 x4_,.int .i64 x5_,.pointer p6_],.agg #[.int .i64 x13_,.int .i64 x14_,.pointer p15_]] V9 fun r9_ V10=>∃x16_,∃x17_,∃p18_,∃x19_,∃x20_,∃p21_,r9_=.agg #[.int .i64 x16_,.int .i64 x17_,.pointer p18_,.int .i64 x19_,.int .i64 x20_,.pointer p21_]/\(∀V11,V10.Le V11->R (.agg #[.int .i64 x16_,.int .i64 x17_,.pointer p18_,.int .i64 x19_,.int .i64 x20_,.pointer p21_]) V11))))))) :
  Acts prog 168 #[.agg #[.int .i64 l0,.int .i64 l1,.pointer l2,.int .i64 l3,.int .i64 l4,.pointer l5,.int .i64 l6,.int .i64 l7,.pointer l8]] V R:=
 fn_does (LF:=LF0) (RF:=[1000007]) (β0:=(fun _=>0)) tab_ok mixed [] [] func168 (by kernel_rfl)
  [(0,.agg [.v (.int .i64 l0),.v (.int .i64 l1),.v (.pointer l2),.v (.int .i64 l3),.v (.int .i64 l4),.v (.pointer l5),.v (.int .i64 l6),.v (.int .i64 l7),.v (.pointer l8)])]
  [] (by kernel_rfl) trivial h (by kernel_rfl)
theorem vc_geo_Ln_At (l0:Int) (l1:Int) (l2:OA) (l3:Int) (l4:Int) (l5:OA) (l6:Int) (l7:Int) (l8:OA) (t0:Int) (t1:Int) (t2:OA) (V:View) (R:Value->View->Prop)
  (h:(∀V1,V.Le V1->Acts prog 168 #[.agg #[.int .i64 l0,.int .i64 l1,.pointer l2,.int .i64 l3,.int .i64 l4,.pointer l5,.int .i64 l6,.int .i64 l7,.pointer l8]] V1 fun r1_ V2=>∃x1_,∃x2_,∃p3_,∃x4_,∃x5_,∃p6_,r1_=.agg #[.int .i64 x1_,.int .i64 x2_,.pointer p3_,.int .i64 x4_,.int .i64 x5_,.pointer p6_]/\(∀V3,V2.Le V3->Acts prog 162 #[.agg #[.int .i64 l0,.int .i64 l1,.pointer l2,.int .i64 l3,.int .i64 l4,.pointer l5,.int .i64 l6,.int .i64 l7,.pointer l8]] V3 fun r3_ V4=>∃x7_,∃x8_,∃p9_,∃x10_,∃x11_,∃p12_,r3_=.agg #[.int .i64 x7_,.int .i64 x8_,.pointer p9_,.int .i64 x10_,.int .i64 x11_,.pointer p12_]/\(∀V5,V4.Le V5->Acts prog 170 #[.agg #[.int .i64 x7_,.int .i64 x8_,.pointer p9_,.int .i64 x10_,.int .i64 x11_,.pointer p12_],.agg #[.int .i64 t0,.int .i64 t1,.pointer t2]] V5 fun r5_ V6=>∃x13_,∃x14_,∃p15_,∃x16_,∃x17_,∃p18_,r5_=.agg #[.int .i64 x13_,.int .i64 x14_,.pointer p15_,.int .i64 x16_,.int .i64 x17_,.pointer p18_]/\(∀V7,V6.Le V7->Acts prog 169 #[.agg #[.int .i64 x1_,.int .i64 x2_,.pointer p3_,.int .i64 x4_,.int .i64 x5_,.pointer p6_],.agg #[.int .i64 x13_,.int .i64 x14_,.pointer p15_,.int .i64 x16_,.int .i64 x17_,.pointer p18_]] V7 fun r7_ V8=>∃x19_,∃x20_,∃p21_,∃x22_,∃x23_,∃p24_,r7_=.agg #[.int .i64 x19_,.int .i64 x20_,.pointer p21_,.int .i64 x22_,.int .i64 x23_,.pointer p24_]/\(∀V9,V8.Le V9->R (.agg #[.int .i64 x19_,.int .i64 x20_,.pointer p21_,.int .i64 x22_,.int .i64 x23_,.pointer p24_]) V9)))))) :
  Acts prog 118 #[.agg #[.int .i64 l0,.int .i64 l1,.pointer l2,.int .i64 l3,.int .i64 l4,.pointer l5,.int .i64 l6,.int .i64 l7,.pointer l8],.agg #[.int .i64 t0,.int .i64 t1,.pointer t2]] V R:=
 fn_does (LF:=LF0) (RF:=[1000007]) (β0:=(fun _=>0)) tab_ok mixed [] [] func118 (by kernel_rfl)
  [(0,.agg [.v (.int .i64 l0),.v (.int .i64 l1),.v (.pointer l2),.v (.int .i64 l3),.v (.int .i64 l4),.v (.pointer l5),.v (.int .i64 l6),.v (.int .i64 l7),.v (.pointer l8)]),(1,.agg [.v (.int .i64 t0),.v (.int .i64 t1),.v (.pointer t2)])]
  [] (by kernel_rfl) trivial h (by kernel_rfl)
theorem vc_geo_Ln_Param (l0:Int) (l1:Int) (l2:OA) (l3:Int) (l4:Int) (l5:OA) (l6:Int) (l7:Int) (l8:OA) (p0:Int) (p1:Int) (p2:OA) (p3:Int) (p4:Int) (p5:OA) (V:View) (R:Value->View->Prop)
  (h:(∀V1,V.Le V1->Acts prog 162 #[.agg #[.int .i64 l0,.int .i64 l1,.pointer l2,.int .i64 l3,.int .i64 l4,.pointer l5,.int .i64 l6,.int .i64 l7,.pointer l8]] V1 fun r1_ V2=>∃x1_,∃x2_,∃p3_,∃x4_,∃x5_,∃p6_,r1_=.agg #[.int .i64 x1_,.int .i64 x2_,.pointer p3_,.int .i64 x4_,.int .i64 x5_,.pointer p6_]/\(∀V3,V2.Le V3->Acts prog 160 #[.agg #[.int .i64 x1_,.int .i64 x2_,.pointer p3_,.int .i64 x4_,.int .i64 x5_,.pointer p6_],.agg #[.int .i64 p0,.int .i64 p1,.pointer p2,.int .i64 p3,.int .i64 p4,.pointer p5]] V3 fun r3_ V4=>∃x7_,∃x8_,∃p9_,r3_=.agg #[.int .i64 x7_,.int .i64 x8_,.pointer p9_]/\(∀V5,V4.Le V5->Acts prog 160 #[.agg #[.int .i64 x1_,.int .i64 x2_,.pointer p3_,.int .i64 x4_,.int .i64 x5_,.pointer p6_],.agg #[.int .i64 x1_,.int .i64 x2_,.pointer p3_,.int .i64 x4_,.int .i64 x5_,.pointer p6_]] V5 fun r5_ V6=>∃x10_,∃x11_,∃p12_,r5_=.agg #[.int .i64 x10_,.int .i64 x11_,.pointer p12_]/\(∀V7,V6.Le V7->Acts prog 163 #[.agg #[.int .i64 x7_,.int .i64 x8_,.pointer p9_],.agg #[.int .i64 x10_,.int .i64 x11_,.pointer p12_]] V7 fun r7_ V8=>∃x13_,∃x14_,∃p15_,r7_=.agg #[.int .i64 x13_,.int .i64 x14_,.pointer p15_]/\(∀V9,V8.Le V9->R (.agg #[.int .i64 x13_,.int .i64 x14_,.pointer p15_]) V9)))))) :
  Acts prog 101 #[.agg #[.int .i64 l0,.int .i64 l1,.pointer l2,.int .i64 l3,.int .i64 l4,.pointer l5,.int .i64 l6,.int .i64 l7,.pointer l8],.agg #[.int .i64 p0,.int .i64 p1,.pointer p2,.int .i64 p3,.int .i64 p4,.pointer p5]] V R:=
 fn_does (LF:=LF0) (RF:=[1000007]) (β0:=(fun _=>0)) tab_ok mixed [] [] func101 (by kernel_rfl)
  [(0,.agg [.v (.int .i64 l0),.v (.int .i64 l1),.v (.pointer l2),.v (.int .i64 l3),.v (.int .i64 l4),.v (.pointer l5),.v (.int .i64 l6),.v (.int .i64 l7),.v (.pointer l8)]),(1,.agg [.v (.int .i64 p0),.v (.int .i64 p1),.v (.pointer p2),.v (.int .i64 p3),.v (.int .i64 p4),.v (.pointer p5)])]
  [] (by kernel_rfl) trivial h (by kernel_rfl)
theorem vc_geo_Ln_Meet (l0:Int) (l1:Int) (l2:OA) (l3:Int) (l4:Int) (l5:OA) (l6:Int) (l7:Int) (l8:OA) (m0:Int) (m1:Int) (m2:OA) (m3:Int) (m4:Int) (m5:OA) (m6:Int) (m7:Int) (m8:OA) (V:View) (R:Value->View->Prop)
  (h:(∀V1,V.Le V1->Acts prog 183 #[.agg #[.int .i64 l0,.int .i64 l1,.pointer l2,.int .i64 l3,.int .i64 l4,.pointer l5,.int .i64 l6,.int .i64 l7,.pointer l8]] V1 fun r1_ V2=>∃x1_,∃x2_,∃p3_,∃x4_,∃x5_,∃p6_,r1_=.agg #[.int .i64 x1_,.int .i64 x2_,.pointer p3_,.int .i64 x4_,.int .i64 x5_,.pointer p6_]/\(∀V3,V2.Le V3->Acts prog 183 #[.agg #[.int .i64 m0,.int .i64 m1,.pointer m2,.int .i64 m3,.int .i64 m4,.pointer m5,.int .i64 m6,.int .i64 m7,.pointer m8]] V3 fun r3_ V4=>∃x7_,∃x8_,∃p9_,∃x10_,∃x11_,∃p12_,r3_=.agg #[.int .i64 x7_,.int .i64 x8_,.pointer p9_,.int .i64 x10_,.int .i64 x11_,.pointer p12_]/\(∀V5,V4.Le V5->Acts prog 184 #[.agg #[.int .i64 x1_,.int .i64 x2_,.pointer p3_,.int .i64 x4_,.int .i64 x5_,.pointer p6_],.agg #[.int .i64 x7_,.int .i64 x8_,.pointer p9_,.int .i64 x10_,.int .i64 x11_,.pointer p12_]] V5 fun r5_ V6=>∃x13_,∃x14_,∃p15_,r5_=.agg #[.int .i64 x13_,.int .i64 x14_,.pointer p15_]/\(∀V7,V6.Le V7->Acts prog 153 #[.agg #[.int .i64 x13_,.int .i64 x14_,.pointer p15_]] V7 fun r7_ V8=>∃b16_,r7_=.bool b16_/\((b16_=true->(∀V9,V8.Le V9->R (.tuple #[.agg #[.int .i64 0,.int .i64 0,.pointer none,.int .i64 0,.int .i64 0,.pointer none],.bool false]) V9))/\(b16_=false->(∀V10,V8.Le V10->Acts prog 185 #[.agg #[.int .i64 l3,.int .i64 l4,.pointer l5],.agg #[.int .i64 m6,.int .i64 m7,.pointer m8]] V10 fun r10_ V11=>∃x17_,∃x18_,∃p19_,r10_=.agg #[.int .i64 x17_,.int .i64 x18_,.pointer p19_]/\(∀V12,V11.Le V12->Acts prog 185 #[.agg #[.int .i64 l6,.int .i64 l7,.pointer l8],.agg #[.int .i64 m3,.int .i64 m4,.pointer m5]] V12 fun r12_ V13=>∃x20_,∃x21_,∃p22_,r12_=.agg #[.int .i64 x20_,.int .i64 x21_,.pointer p22_]/\(∀V14,V13.Le V14->Acts prog 186 #[.agg #[.int .i64 x17_,.int .i64 x18_,.pointer p19_],.agg #[.int .i64 x20_,.int .i64 x21_,.pointer p22_]] V14 fun r14_ V15=>∃x23_,∃x24_,∃p25_,r14_=.agg #[.int .i64 x23_,.int .i64 x24_,.pointer p25_]/\(∀V16,V15.Le V16->Acts prog 163 #[.agg #[.int .i64 x23_,.int .i64 x24_,.pointer p25_],.agg #[.int .i64 x13_,.int .i64 x14_,.pointer p15_]] V16 fun r16_ V17=>∃x26_,∃x27_,∃p28_,r16_=.agg #[.int .i64 x26_,.int .i64 x27_,.pointer p28_]/\(∀V18,V17.Le V18->Acts prog 185 #[.agg #[.int .i64 l6,.int .i64 l7,.pointer l8],.agg #[.int .i64 m0,.int .i64 m1,.pointer m2]] V18 fun r18_ V19=>∃x29_,∃x30_,∃p31_,r18_=.agg #[.int .i64 x29_,.int .i64 x30_,.pointer p31_]/\(∀V20,V19.Le V20->Acts prog 185 #[.agg #[.int .i64 l0,.int .i64 l1,.pointer l2],.agg #[.int .i64 m6,.int .i64 m7,.pointer m8]] V20 fun r20_ V21=>∃x32_,∃x33_,∃p34_,r20_=.agg #[.int .i64 x32_,.int .i64 x33_,.pointer p34_]/\(∀V22,V21.Le V22->Acts prog 186 #[.agg #[.int .i64 x29_,.int .i64 x30_,.pointer p31_],.agg #[.int .i64 x32_,.int .i64 x33_,.pointer p34_]] V22 fun r22_ V23=>∃x35_,∃x36_,∃p37_,r22_=.agg #[.int .i64 x35_,.int .i64 x36_,.pointer p37_]/\(∀V24,V23.Le V24->Acts prog 163 #[.agg #[.int .i64 x35_,.int .i64 x36_,.pointer p37_],.agg #[.int .i64 x13_,.int .i64 x14_,.pointer p15_]] V24 fun r24_ V25=>∃x38_,∃x39_,∃p40_,r24_=.agg #[.int .i64 x38_,.int .i64 x39_,.pointer p40_]/\(∀V26,V25.Le V26->R (.tuple #[.agg #[.int .i64 x26_,.int .i64 x27_,.pointer p28_,.int .i64 x38_,.int .i64 x39_,.pointer p40_],.bool true]) V26)))))))))))))))) :
  Acts prog 142 #[.agg #[.int .i64 l0,.int .i64 l1,.pointer l2,.int .i64 l3,.int .i64 l4,.pointer l5,.int .i64 l6,.int .i64 l7,.pointer l8],.agg #[.int .i64 m0,.int .i64 m1,.pointer m2,.int .i64 m3,.int .i64 m4,.pointer m5,.int .i64 m6,.int .i64 m7,.pointer m8]] V R:=
 fn_does (LF:=LF0) (RF:=[1000007]) (β0:=(fun _=>0)) tab_ok mixed [] [] func142 (by kernel_rfl)
  [(0,.agg [.v (.int .i64 l0),.v (.int .i64 l1),.v (.pointer l2),.v (.int .i64 l3),.v (.int .i64 l4),.v (.pointer l5),.v (.int .i64 l6),.v (.int .i64 l7),.v (.pointer l8)]),(1,.agg [.v (.int .i64 m0),.v (.int .i64 m1),.v (.pointer m2),.v (.int .i64 m3),.v (.int .i64 m4),.v (.pointer m5),.v (.int .i64 m6),.v (.int .i64 m7),.v (.pointer m8)])]
  [] (by kernel_rfl) trivial h (by kernel_rfl)
theorem vc_geo_Ln_Cut (l0:Int) (l1:Int) (l2:OA) (l3:Int) (l4:Int) (l5:OA) (l6:Int) (l7:Int) (l8:OA) (v0:Int) (v1:Int) (v2:OA) (v3:Int) (v4:Int) (v5:OA) (v6:Bool) (v7:Bool) (m0:Int) (m1:Int) (m2:OA) (m3:Int) (m4:Int) (m5:OA) (m6:Int) (m7:Int) (m8:OA) (V:View) (R:Value->View->Prop)
  (h:(∀V1,V.Le V1->Acts prog 183 #[.agg #[.int .i64 m0,.int .i64 m1,.pointer m2,.int .i64 m3,.int .i64 m4,.pointer m5,.int .i64 m6,.int .i64 m7,.pointer m8]] V1 fun r1_ V2=>∃x1_,∃x2_,∃p3_,∃x4_,∃x5_,∃p6_,r1_=.agg #[.int .i64 x1_,.int .i64 x2_,.pointer p3_,.int .i64 x4_,.int .i64 x5_,.pointer p6_]/\(∀V3,V2.Le V3->Acts prog 162 #[.agg #[.int .i64 l0,.int .i64 l1,.pointer l2,.int .i64 l3,.int .i64 l4,.pointer l5,.int .i64 l6,.int .i64 l7,.pointer l8]] V3 fun r3_ V4=>∃x7_,∃x8_,∃p9_,∃x10_,∃x11_,∃p12_,r3_=.agg #[.int .i64 x7_,.int .i64 x8_,.pointer p9_,.int .i64 x10_,.int .i64 x11_,.pointer p12_]/\(∀V5,V4.Le V5->Acts prog 160 #[.agg #[.int .i64 x1_,.int .i64 x2_,.pointer p3_,.int .i64 x4_,.int .i64 x5_,.pointer p6_],.agg #[.int .i64 x7_,.int .i64 x8_,.pointer p9_,.int .i64 x10_,.int .i64 x11_,.pointer p12_]] V5 fun r5_ V6=>∃x13_,∃x14_,∃p15_,r5_=.agg #[.int .i64 x13_,.int .i64 x14_,.pointer p15_]/\(∀V7,V6.Le V7->Acts prog 168 #[.agg #[.int .i64 l0,.int .i64 l1,.pointer l2,.int .i64 l3,.int .i64 l4,.pointer l5,.int .i64 l6,.int .i64 l7,.pointer l8]] V7 fun r7_ V8=>∃x16_,∃x17_,∃p18_,∃x19_,∃x20_,∃p21_,r7_=.agg #[.int .i64 x16_,.int .i64 x17_,.pointer p18_,.int .i64 x19_,.int .i64 x20_,.pointer p21_]/\(∀V9,V8.Le V9->Acts prog 173 #[.agg #[.int .i64 m0,.int .i64 m1,.pointer m2,.int .i64 m3,.int .i64 m4,.pointer m5,.int .i64 m6,.int .i64 m7,.pointer m8],.agg #[.int .i64 x16_,.int .i64 x17_,.pointer p18_,.int .i64 x19_,.int .i64 x20_,.pointer p21_]] V9 fun r9_ V10=>∃x22_,∃x23_,∃p24_,r9_=.agg #[.int .i64 x22_,.int .i64 x23_,.pointer p24_]/\(∀V11,V10.Le V11->Acts prog 174 #[.agg #[.int .i64 x13_,.int .i64 x14_,.pointer p15_]] V11 fun r11_ V12=>∃x25_,r11_=.int .i64 x25_/\(((x25_ == (0:Int))=true->(∀V13,V12.Le V13->Acts prog 174 #[.agg #[.int .i64 x22_,.int .i64 x23_,.pointer p24_]] V13 fun r13_ V14=>∃x26_,r13_=.int .i64 x26_/\(∀V15,V14.Le V15->R (.tuple #[.agg #[.int .i64 v0,.int .i64 v1,.pointer v2,.int .i64 v3,.int .i64 v4,.pointer v5,.bool v6,.bool v7],.bool (decide (x26_ > (0:Int)))]) V15)))/\((x25_ == (0:Int))=false->(((x25_ == (1:Int))=true->(∀V16,V12.Le V16->Acts prog 163 #[.agg #[.int .i64 x22_,.int .i64 x23_,.pointer p24_],.agg #[.int .i64 x13_,.int .i64 x14_,.pointer p15_]] V16 fun r16_ V17=>∃x27_,∃x28_,∃p29_,r16_=.agg #[.int .i64 x27_,.int .i64 x28_,.pointer p29_]/\(∀V18,V17.Le V18->Acts prog 161 #[.agg #[.int .i64 x27_,.int .i64 x28_,.pointer p29_]] V18 fun r18_ V19=>∃x30_,∃x31_,∃p32_,r18_=.agg #[.int .i64 x30_,.int .i64 x31_,.pointer p32_]/\(∀V20,V19.Le V20->Acts prog 146 #[.agg #[.int .i64 v0,.int .i64 v1,.pointer v2,.int .i64 v3,.int .i64 v4,.pointer v5,.bool v6,.bool v7],.agg #[.int .i64 x30_,.int .i64 x31_,.pointer p32_,.int .i64 0,.int .i64 0,.pointer none,.bool false,.bool true]] V20 fun r20_ V21=>∃x33_,∃x34_,∃p35_,∃x36_,∃x37_,∃p38_,∃b39_,∃b40_,∃b41_,r20_=.tuple #[.agg #[.int .i64 x33_,.int .i64 x34_,.pointer p35_,.int .i64 x36_,.int .i64 x37_,.pointer p38_,.bool b39_,.bool b40_],.bool b41_]/\(∀V22,V21.Le V22->R (.tuple #[.agg #[.int .i64 x33_,.int .i64 x34_,.pointer p35_,.int .i64 x36_,.int .i64 x37_,.pointer p38_,.bool b39_,.bool b40_],.bool b41_]) V22)))))/\((x25_ == (1:Int))=false->(∀V23,V12.Le V23->Acts prog 163 #[.agg #[.int .i64 x22_,.int .i64 x23_,.pointer p24_],.agg #[.int .i64 x13_,.int .i64 x14_,.pointer p15_]] V23 fun r23_ V24=>∃x42_,∃x43_,∃p44_,r23_=.agg #[.int .i64 x42_,.int .i64 x43_,.pointer p44_]/\(∀V25,V24.Le V25->Acts prog 161 #[.agg #[.int .i64 x42_,.int .i64 x43_,.pointer p44_]] V25 fun r25_ V26=>∃x45_,∃x46_,∃p47_,r25_=.agg #[.int .i64 x45_,.int .i64 x46_,.pointer p47_]/\(∀V27,V26.Le V27->Acts prog 146 #[.agg #[.int .i64 v0,.int .i64 v1,.pointer v2,.int .i64 v3,.int .i64 v4,.pointer v5,.bool v6,.bool v7],.agg #[.int .i64 0,.int .i64 0,.pointer none,.int .i64 x45_,.int .i64 x46_,.pointer p47_,.bool true,.bool false]] V27 fun r27_ V28=>∃x48_,∃x49_,∃p50_,∃x51_,∃x52_,∃p53_,∃b54_,∃b55_,∃b56_,r27_=.tuple #[.agg #[.int .i64 x48_,.int .i64 x49_,.pointer p50_,.int .i64 x51_,.int .i64 x52_,.pointer p53_,.bool b54_,.bool b55_],.bool b56_]/\(∀V29,V28.Le V29->R (.tuple #[.agg #[.int .i64 x48_,.int .i64 x49_,.pointer p50_,.int .i64 x51_,.int .i64 x52_,.pointer p53_,.bool b54_,.bool b55_],.bool b56_]) V29))))))))))))))) :
  Acts prog 155 #[.agg #[.int .i64 l0,.int .i64 l1,.pointer l2,.int .i64 l3,.int .i64 l4,.pointer l5,.int .i64 l6,.int .i64 l7,.pointer l8],.agg #[.int .i64 v0,.int .i64 v1,.pointer v2,.int .i64 v3,.int .i64 v4,.pointer v5,.bool v6,.bool v7],.agg #[.int .i64 m0,.int .i64 m1,.pointer m2,.int .i64 m3,.int .i64 m4,.pointer m5,.int .i64 m6,.int .i64 m7,.pointer m8]] V R:=
 fn_does (LF:=LF0) (RF:=[1000007]) (β0:=(fun _=>0)) tab_ok mixed [] [] func155 (by kernel_rfl)
  [(0,.agg [.v (.int .i64 l0),.v (.int .i64 l1),.v (.pointer l2),.v (.int .i64 l3),.v (.int .i64 l4),.v (.pointer l5),.v (.int .i64 l6),.v (.int .i64 l7),.v (.pointer l8)]),(1,.agg [.v (.int .i64 v0),.v (.int .i64 v1),.v (.pointer v2),.v (.int .i64 v3),.v (.int .i64 v4),.v (.pointer v5),.v (.bool v6),.v (.bool v7)]),(2,.agg [.v (.int .i64 m0),.v (.int .i64 m1),.v (.pointer m2),.v (.int .i64 m3),.v (.int .i64 m4),.v (.pointer m5),.v (.int .i64 m6),.v (.int .i64 m7),.v (.pointer m8)])]
  [] (by kernel_rfl) trivial h (by kernel_rfl)
end Go.Proofs.Tryz
/- Contracts of points and lines of package geo (printed by straight.py). -/
namespace Go.Proofs.Tryz
open Go.Eng Go.Big
/-- A point of package geo. -/
def RPt (V:View) (v:Value) (x y:Rat):Prop:=∃(x1 x2:Int) (p:OA) (y1 y2:Int) (q:OA),v=.agg #[.int .i64 x1,.int .i64 x2,.pointer p,.int .i64 y1,.int .i64 y2,.pointer q] /\
 RR V (.agg #[.int .i64 x1,.int .i64 x2,.pointer p]) x/\RR V (.agg #[.int .i64 y1,.int .i64 y2,.pointer q]) y
theorem RPt.le {V V':View} {v:Value} {x y:Rat} (h:RPt V v x y) (l:V.Le V'):RPt V' v x y:=by
 obtain ⟨x1,x2,p,y1,y2,q,e,h1,h2⟩:=h
 exact ⟨x1,x2,p,y1,y2,q,e,h1.le l,h2.le l⟩
theorem c_geo_Pt_Add {V:View} {p:Value} {p_0 p_1:Rat} {q:Value} {q_0 q_1:Rat} (hp:RPt V p p_0 p_1) (hq:RPt V q q_0 q_1) {k:Nat} (sp_0:Sz k p_0) (sp_1:Sz k p_1) (sq_0:Sz k q_0) (sq_1:Sz k q_1) (hk:2 * k + 1 < 274877906944) :
  Acts prog 169 #[p,q] V fun r V'=>RPt V' r ((p_0) + (q_0)) ((p_1) + (q_1)):=by
 have hp0:=hp
 obtain ⟨p0,p1,p2,p3,p4,p5,rfl,hp_0,hp_1⟩:=hp
 have hq0:=hq
 obtain ⟨q0,q1,q2,q3,q4,q5,rfl,hq_0,hq_1⟩:=hq
 refine vc_geo_Pt_Add p0 p1 p2 p3 p4 p5 q0 q1 q2 q3 q4 q5 V _ fun V1 l1=>(c_R_Add (hp_0.le (l1)) (hq_0.le (l1)) sp_0 sq_0 (by omega)).mono ?_
 rintro r V2 l2 g1
 have g10:=g1
 obtain ⟨w0a,w0b,w0c,rfl⟩:=g1.shape
 have z1_0:Sz (2 * k + 1) ((p_0) + (q_0)):=Sz.mono (Sz.add sp_0 sq_0) (by omega)
 refine ⟨_,_,_,rfl,fun V3 l3=>(c_R_Add (hp_1.le (l1.trans (l2.trans (l3)))) (hq_1.le (l1.trans (l2.trans (l3)))) sp_1 sq_1 (by omega)).mono ?_⟩
 rintro r V4 l4 g2
 have g20:=g2
 obtain ⟨w1a,w1b,w1c,rfl⟩:=g2.shape
 have z2_0:Sz (2 * k + 1) ((p_1) + (q_1)):=Sz.mono (Sz.add sp_1 sq_1) (by omega)
 exact ⟨_,_,_,rfl,fun V5 l5=>⟨_,_,_,_,_,_,rfl,(g10.le (l3.trans (l4.trans (l5)))),(g20.le (l5))⟩⟩
theorem z_geo_Pt_Add_0 {p_0 p_1 q_0 q_1:Rat} {k:Nat} (sp_0:Sz k p_0) (sp_1:Sz k p_1) (sq_0:Sz k q_0) (sq_1:Sz k q_1):Sz (2 * k + 1) ((p_0) + (q_0)):=by
 have z1_0:Sz (2 * k + 1) ((p_0) + (q_0)):=Sz.mono (Sz.add sp_0 sq_0) (by omega)
 have z2_0:Sz (2 * k + 1) ((p_1) + (q_1)):=Sz.mono (Sz.add sp_1 sq_1) (by omega)
 exact Sz.mono z1_0 (by omega)
theorem z_geo_Pt_Add_1 {p_0 p_1 q_0 q_1:Rat} {k:Nat} (sp_0:Sz k p_0) (sp_1:Sz k p_1) (sq_0:Sz k q_0) (sq_1:Sz k q_1):Sz (2 * k + 1) ((p_1) + (q_1)):=by
 have z1_0:Sz (2 * k + 1) ((p_0) + (q_0)):=Sz.mono (Sz.add sp_0 sq_0) (by omega)
 have z2_0:Sz (2 * k + 1) ((p_1) + (q_1)):=Sz.mono (Sz.add sp_1 sq_1) (by omega)
 exact Sz.mono z2_0 (by omega)
theorem c_geo_Pt_Sub {V:View} {p:Value} {p_0 p_1:Rat} {q:Value} {q_0 q_1:Rat} (hp:RPt V p p_0 p_1) (hq:RPt V q q_0 q_1) {k:Nat} (sp_0:Sz k p_0) (sp_1:Sz k p_1) (sq_0:Sz k q_0) (sq_1:Sz k q_1) (hk:2 * k + 1 < 274877906944) :
  Acts prog 157 #[p,q] V fun r V'=>RPt V' r ((p_0) - (q_0)) ((p_1) - (q_1)):=by
 have hp0:=hp
 obtain ⟨p0,p1,p2,p3,p4,p5,rfl,hp_0,hp_1⟩:=hp
 have hq0:=hq
 obtain ⟨q0,q1,q2,q3,q4,q5,rfl,hq_0,hq_1⟩:=hq
 refine vc_geo_Pt_Sub p0 p1 p2 p3 p4 p5 q0 q1 q2 q3 q4 q5 V _ fun V1 l1=>(c_R_Sub (hp_0.le (l1)) (hq_0.le (l1)) sp_0 sq_0 (by omega)).mono ?_
 rintro r V2 l2 g1
 have g10:=g1
 obtain ⟨w0a,w0b,w0c,rfl⟩:=g1.shape
 have z1_0:Sz (2 * k + 1) ((p_0) - (q_0)):=Sz.mono (Sz.sub sp_0 sq_0) (by omega)
 refine ⟨_,_,_,rfl,fun V3 l3=>(c_R_Sub (hp_1.le (l1.trans (l2.trans (l3)))) (hq_1.le (l1.trans (l2.trans (l3)))) sp_1 sq_1 (by omega)).mono ?_⟩
 rintro r V4 l4 g2
 have g20:=g2
 obtain ⟨w1a,w1b,w1c,rfl⟩:=g2.shape
 have z2_0:Sz (2 * k + 1) ((p_1) - (q_1)):=Sz.mono (Sz.sub sp_1 sq_1) (by omega)
 exact ⟨_,_,_,rfl,fun V5 l5=>⟨_,_,_,_,_,_,rfl,(g10.le (l3.trans (l4.trans (l5)))),(g20.le (l5))⟩⟩
theorem c_geo_Pt_Scale {V:View} {p:Value} {p_0 p_1:Rat} {c:Value} {c_0:Rat} (hp:RPt V p p_0 p_1) (hc:RR V c c_0) {k:Nat} (sp_0:Sz k p_0) (sp_1:Sz k p_1) (sc_0:Sz k c_0) (hk:2 * k + 1 < 274877906944) :
  Acts prog 170 #[p,c] V fun r V'=>RPt V' r ((p_0) * (c_0)) ((p_1) * (c_0)):=by
 have hp0:=hp
 obtain ⟨p0,p1,p2,p3,p4,p5,rfl,hp_0,hp_1⟩:=hp
 have hc0:=hc
 obtain ⟨c0,c1,c2,rfl⟩:=hc.shape
 refine vc_geo_Pt_Scale p0 p1 p2 p3 p4 p5 c0 c1 c2 V _ fun V1 l1=>(c_R_Mul (hp_0.le (l1)) (hc0.le (l1)) sp_0 sc_0 (by omega)).mono ?_
 rintro r V2 l2 g1
 have g10:=g1
 obtain ⟨w0a,w0b,w0c,rfl⟩:=g1.shape
 have z1_0:Sz (2 * k + 1) ((p_0) * (c_0)):=Sz.mono (Sz.mul sp_0 sc_0) (by omega)
 refine ⟨_,_,_,rfl,fun V3 l3=>(c_R_Mul (hp_1.le (l1.trans (l2.trans (l3)))) (hc0.le (l1.trans (l2.trans (l3)))) sp_1 sc_0 (by omega)).mono ?_⟩
 rintro r V4 l4 g2
 have g20:=g2
 obtain ⟨w1a,w1b,w1c,rfl⟩:=g2.shape
 have z2_0:Sz (2 * k + 1) ((p_1) * (c_0)):=Sz.mono (Sz.mul sp_1 sc_0) (by omega)
 exact ⟨_,_,_,rfl,fun V5 l5=>⟨_,_,_,_,_,_,rfl,(g10.le (l3.trans (l4.trans (l5)))),(g20.le (l5))⟩⟩
theorem z_geo_Pt_Scale_0 {p_0 p_1 c_0:Rat} {k:Nat} (sp_0:Sz k p_0) (sp_1:Sz k p_1) (sc_0:Sz k c_0):Sz (2 * k + 1) ((p_0) * (c_0)):=by
 have z1_0:Sz (2 * k + 1) ((p_0) * (c_0)):=Sz.mono (Sz.mul sp_0 sc_0) (by omega)
 have z2_0:Sz (2 * k + 1) ((p_1) * (c_0)):=Sz.mono (Sz.mul sp_1 sc_0) (by omega)
 exact Sz.mono z1_0 (by omega)
theorem z_geo_Pt_Scale_1 {p_0 p_1 c_0:Rat} {k:Nat} (sp_0:Sz k p_0) (sp_1:Sz k p_1) (sc_0:Sz k c_0):Sz (2 * k + 1) ((p_1) * (c_0)):=by
 have z1_0:Sz (2 * k + 1) ((p_0) * (c_0)):=Sz.mono (Sz.mul sp_0 sc_0) (by omega)
 have z2_0:Sz (2 * k + 1) ((p_1) * (c_0)):=Sz.mono (Sz.mul sp_1 sc_0) (by omega)
 exact Sz.mono z2_0 (by omega)
theorem c_geo_Pt_Turn {V:View} {p:Value} {p_0 p_1:Rat} (hp:RPt V p p_0 p_1) {k:Nat} (sp_0:Sz k p_0) (sp_1:Sz k p_1) (hk:1 * k + 1 < 274877906944) :
  Acts prog 158 #[p] V fun r V'=>RPt V' r (-(p_1)) (p_0):=by
 have hp0:=hp
 obtain ⟨p0,p1,p2,p3,p4,p5,rfl,hp_0,hp_1⟩:=hp
 refine vc_geo_Pt_Turn p0 p1 p2 p3 p4 p5 V _ fun V1 l1=>(c_R_Neg (hp_1.le (l1)) sp_1 (by omega)).mono ?_
 rintro r V2 l2 g1
 have g10:=g1
 obtain ⟨w0a,w0b,w0c,rfl⟩:=g1.shape
 have z1_0:Sz (1 * k + 0) (-(p_1)):=Sz.mono (Sz.neg sp_1) (by omega)
 exact ⟨_,_,_,rfl,fun V3 l3=>⟨_,_,_,_,_,_,rfl,(g10.le (l3)),(hp_0.le (l1.trans (l2.trans (l3))))⟩⟩
theorem c_geo_Pt_Dot {V:View} {p:Value} {p_0 p_1:Rat} {q:Value} {q_0 q_1:Rat} (hp:RPt V p p_0 p_1) (hq:RPt V q q_0 q_1) {k:Nat} (sp_0:Sz k p_0) (sp_1:Sz k p_1) (sq_0:Sz k q_0) (sq_1:Sz k q_1) (hk:4 * k + 3 < 274877906944) :
  Acts prog 160 #[p,q] V fun r V'=>RR V' r (((p_0) * (q_0)) + ((p_1) * (q_1))):=by
 have hp0:=hp
 obtain ⟨p0,p1,p2,p3,p4,p5,rfl,hp_0,hp_1⟩:=hp
 have hq0:=hq
 obtain ⟨q0,q1,q2,q3,q4,q5,rfl,hq_0,hq_1⟩:=hq
 refine vc_geo_Pt_Dot p0 p1 p2 p3 p4 p5 q0 q1 q2 q3 q4 q5 V _ fun V1 l1=>(c_R_Mul (hp_0.le (l1)) (hq_0.le (l1)) sp_0 sq_0 (by omega)).mono ?_
 rintro r V2 l2 g1
 have g10:=g1
 obtain ⟨w0a,w0b,w0c,rfl⟩:=g1.shape
 have z1_0:Sz (2 * k + 1) ((p_0) * (q_0)):=Sz.mono (Sz.mul sp_0 sq_0) (by omega)
 refine ⟨_,_,_,rfl,fun V3 l3=>(c_R_Mul (hp_1.le (l1.trans (l2.trans (l3)))) (hq_1.le (l1.trans (l2.trans (l3)))) sp_1 sq_1 (by omega)).mono ?_⟩
 rintro r V4 l4 g2
 have g20:=g2
 obtain ⟨w1a,w1b,w1c,rfl⟩:=g2.shape
 have z2_0:Sz (2 * k + 1) ((p_1) * (q_1)):=Sz.mono (Sz.mul sp_1 sq_1) (by omega)
 refine ⟨_,_,_,rfl,fun V5 l5=>(c_R_Add (g10.le (l3.trans (l4.trans (l5)))) (g20.le (l5)) z1_0 z2_0 (by omega)).mono ?_⟩
 rintro r V6 l6 g3
 have g30:=g3
 obtain ⟨w2a,w2b,w2c,rfl⟩:=g3.shape
 have z3_0:Sz (4 * k + 3) (((p_0) * (q_0)) + ((p_1) * (q_1))):=Sz.mono (Sz.add z1_0 z2_0) (by omega)
 exact ⟨_,_,_,rfl,fun V7 l7=>(g30.le (l7))⟩
theorem z_geo_Pt_Dot_0 {p_0 p_1 q_0 q_1:Rat} {k:Nat} (sp_0:Sz k p_0) (sp_1:Sz k p_1) (sq_0:Sz k q_0) (sq_1:Sz k q_1):Sz (4 * k + 3) (((p_0) * (q_0)) + ((p_1) * (q_1))):=by
 have z1_0:Sz (2 * k + 1) ((p_0) * (q_0)):=Sz.mono (Sz.mul sp_0 sq_0) (by omega)
 have z2_0:Sz (2 * k + 1) ((p_1) * (q_1)):=Sz.mono (Sz.mul sp_1 sq_1) (by omega)
 have z3_0:Sz (4 * k + 3) (((p_0) * (q_0)) + ((p_1) * (q_1))):=Sz.mono (Sz.add z1_0 z2_0) (by omega)
 exact Sz.mono z3_0 (by omega)
theorem c_geo_Pt_Cross {V:View} {p:Value} {p_0 p_1:Rat} {q:Value} {q_0 q_1:Rat} (hp:RPt V p p_0 p_1) (hq:RPt V q q_0 q_1) {k:Nat} (sp_0:Sz k p_0) (sp_1:Sz k p_1) (sq_0:Sz k q_0) (sq_1:Sz k q_1) (hk:4 * k + 3 < 274877906944) :
  Acts prog 184 #[p,q] V fun r V'=>RR V' r (((p_0) * (q_1)) - ((p_1) * (q_0))):=by
 have hp0:=hp
 obtain ⟨p0,p1,p2,p3,p4,p5,rfl,hp_0,hp_1⟩:=hp
 have hq0:=hq
 obtain ⟨q0,q1,q2,q3,q4,q5,rfl,hq_0,hq_1⟩:=hq
 refine vc_geo_Pt_Cross p0 p1 p2 p3 p4 p5 q0 q1 q2 q3 q4 q5 V _ fun V1 l1=>(c_R_Mul (hp_0.le (l1)) (hq_1.le (l1)) sp_0 sq_1 (by omega)).mono ?_
 rintro r V2 l2 g1
 have g10:=g1
 obtain ⟨w0a,w0b,w0c,rfl⟩:=g1.shape
 have z1_0:Sz (2 * k + 1) ((p_0) * (q_1)):=Sz.mono (Sz.mul sp_0 sq_1) (by omega)
 refine ⟨_,_,_,rfl,fun V3 l3=>(c_R_Mul (hp_1.le (l1.trans (l2.trans (l3)))) (hq_0.le (l1.trans (l2.trans (l3)))) sp_1 sq_0 (by omega)).mono ?_⟩
 rintro r V4 l4 g2
 have g20:=g2
 obtain ⟨w1a,w1b,w1c,rfl⟩:=g2.shape
 have z2_0:Sz (2 * k + 1) ((p_1) * (q_0)):=Sz.mono (Sz.mul sp_1 sq_0) (by omega)
 refine ⟨_,_,_,rfl,fun V5 l5=>(c_R_Sub (g10.le (l3.trans (l4.trans (l5)))) (g20.le (l5)) z1_0 z2_0 (by omega)).mono ?_⟩
 rintro r V6 l6 g3
 have g30:=g3
 obtain ⟨w2a,w2b,w2c,rfl⟩:=g3.shape
 have z3_0:Sz (4 * k + 3) (((p_0) * (q_1)) - ((p_1) * (q_0))):=Sz.mono (Sz.sub z1_0 z2_0) (by omega)
 exact ⟨_,_,_,rfl,fun V7 l7=>(g30.le (l7))⟩
theorem z_geo_Pt_Cross_0 {p_0 p_1 q_0 q_1:Rat} {k:Nat} (sp_0:Sz k p_0) (sp_1:Sz k p_1) (sq_0:Sz k q_0) (sq_1:Sz k q_1):Sz (4 * k + 3) (((p_0) * (q_1)) - ((p_1) * (q_0))):=by
 have z1_0:Sz (2 * k + 1) ((p_0) * (q_1)):=Sz.mono (Sz.mul sp_0 sq_1) (by omega)
 have z2_0:Sz (2 * k + 1) ((p_1) * (q_0)):=Sz.mono (Sz.mul sp_1 sq_0) (by omega)
 have z3_0:Sz (4 * k + 3) (((p_0) * (q_1)) - ((p_1) * (q_0))):=Sz.mono (Sz.sub z1_0 z2_0) (by omega)
 exact Sz.mono z3_0 (by omega)
theorem c_geo_Ln_Dir {V:View} {l:Value} {l_0 l_1 l_2:Rat} (hl:RLn V l l_0 l_1 l_2) {k:Nat} (sl_0:Sz k l_0) (sl_1:Sz k l_1) (sl_2:Sz k l_2) (hk:1 * k + 1 < 274877906944) :
  Acts prog 162 #[l] V fun r V'=>RPt V' r (l_1) (-(l_0)):=by
 have hl0:=hl
 obtain ⟨l0,l1,l2,l3,l4,l5,l6,l7,l8,rfl,hl_0,hl_1,hl_2⟩:=hl
 refine vc_geo_Ln_Dir l0 l1 l2 l3 l4 l5 l6 l7 l8 V _ fun V1 l1=>(c_R_Neg (hl_0.le (l1)) sl_0 (by omega)).mono ?_
 rintro r V2 l2 g1
 have g10:=g1
 obtain ⟨w0a,w0b,w0c,rfl⟩:=g1.shape
 have z1_0:Sz (1 * k + 0) (-(l_0)):=Sz.mono (Sz.neg sl_0) (by omega)
 exact ⟨_,_,_,rfl,fun V3 l3=>⟨_,_,_,_,_,_,rfl,(hl_1.le (l1.trans (l2.trans (l3)))),(g10.le (l3))⟩⟩
theorem z_geo_Ln_Dir_0 {l_0 l_1 l_2:Rat} {k:Nat} (sl_0:Sz k l_0) (sl_1:Sz k l_1) (sl_2:Sz k l_2):Sz (1 * k + 0) (l_1):=by
 have z1_0:Sz (1 * k + 0) (-(l_0)):=Sz.mono (Sz.neg sl_0) (by omega)
 exact Sz.mono sl_1 (by omega)
theorem z_geo_Ln_Dir_1 {l_0 l_1 l_2:Rat} {k:Nat} (sl_0:Sz k l_0) (sl_1:Sz k l_1) (sl_2:Sz k l_2):Sz (1 * k + 0) (-(l_0)):=by
 have z1_0:Sz (1 * k + 0) (-(l_0)):=Sz.mono (Sz.neg sl_0) (by omega)
 exact Sz.mono z1_0 (by omega)
theorem c_geo_Ln_Normal {V:View} {l:Value} {l_0 l_1 l_2:Rat} (hl:RLn V l l_0 l_1 l_2) {k:Nat} (sl_0:Sz k l_0) (sl_1:Sz k l_1) (sl_2:Sz k l_2) (hk:1 * k + 1 < 274877906944) :
  Acts prog 183 #[l] V fun r V'=>RPt V' r (l_0) (l_1):=by
 have hl0:=hl
 obtain ⟨l0,l1,l2,l3,l4,l5,l6,l7,l8,rfl,hl_0,hl_1,hl_2⟩:=hl
 exact vc_geo_Ln_Normal l0 l1 l2 l3 l4 l5 l6 l7 l8 V _ fun V1 l1=>⟨_,_,_,_,_,_,rfl,(hl_0.le (l1)),(hl_1.le (l1))⟩
theorem z_geo_Ln_Normal_0 {l_0 l_1 l_2:Rat} {k:Nat} (sl_0:Sz k l_0) (sl_1:Sz k l_1) (sl_2:Sz k l_2):Sz (1 * k + 0) (l_0):=by
 exact Sz.mono sl_0 (by omega)
theorem z_geo_Ln_Normal_1 {l_0 l_1 l_2:Rat} {k:Nat} (sl_0:Sz k l_0) (sl_1:Sz k l_1) (sl_2:Sz k l_2):Sz (1 * k + 0) (l_1):=by
 exact Sz.mono sl_1 (by omega)
theorem c_geo_Ln_Reverse {V:View} {l:Value} {l_0 l_1 l_2:Rat} (hl:RLn V l l_0 l_1 l_2) {k:Nat} (sl_0:Sz k l_0) (sl_1:Sz k l_1) (sl_2:Sz k l_2) (hk:1 * k + 1 < 274877906944) :
  Acts prog 125 #[l] V fun r V'=>RLn V' r (-(l_0)) (-(l_1)) (-(l_2)):=by
 have hl0:=hl
 obtain ⟨l0,l1,l2,l3,l4,l5,l6,l7,l8,rfl,hl_0,hl_1,hl_2⟩:=hl
 refine vc_geo_Ln_Reverse l0 l1 l2 l3 l4 l5 l6 l7 l8 V _ fun V1 l1=>(c_R_Neg (hl_0.le (l1)) sl_0 (by omega)).mono ?_
 rintro r V2 l2 g1
 have g10:=g1
 obtain ⟨w0a,w0b,w0c,rfl⟩:=g1.shape
 have z1_0:Sz (1 * k + 0) (-(l_0)):=Sz.mono (Sz.neg sl_0) (by omega)
 refine ⟨_,_,_,rfl,fun V3 l3=>(c_R_Neg (hl_1.le (l1.trans (l2.trans (l3)))) sl_1 (by omega)).mono ?_⟩
 rintro r V4 l4 g2
 have g20:=g2
 obtain ⟨w1a,w1b,w1c,rfl⟩:=g2.shape
 have z2_0:Sz (1 * k + 0) (-(l_1)):=Sz.mono (Sz.neg sl_1) (by omega)
 refine ⟨_,_,_,rfl,fun V5 l5=>(c_R_Neg (hl_2.le (l1.trans (l2.trans (l3.trans (l4.trans (l5)))))) sl_2 (by omega)).mono ?_⟩
 rintro r V6 l6 g3
 have g30:=g3
 obtain ⟨w2a,w2b,w2c,rfl⟩:=g3.shape
 have z3_0:Sz (1 * k + 0) (-(l_2)):=Sz.mono (Sz.neg sl_2) (by omega)
 exact ⟨_,_,_,rfl,fun V7 l7=>⟨_,_,_,_,_,_,_,_,_,rfl,(g10.le (l3.trans (l4.trans (l5.trans (l6.trans (l7)))))),(g20.le (l5.trans (l6.trans (l7)))),(g30.le (l7))⟩⟩
theorem c_geo_Ln_Value {V:View} {l:Value} {l_0 l_1 l_2:Rat} {p:Value} {p_0 p_1:Rat} (hl:RLn V l l_0 l_1 l_2) (hp:RPt V p p_0 p_1) {k:Nat} (sl_0:Sz k l_0) (sl_1:Sz k l_1) (sl_2:Sz k l_2) (sp_0:Sz k p_0) (sp_1:Sz k p_1) (hk:5 * k + 4 < 274877906944) :
  Acts prog 173 #[l,p] V fun r V'=>RR V' r ((((l_0) * (p_0)) + ((l_1) * (p_1))) + (l_2)):=by
 have hl0:=hl
 obtain ⟨l0,l1,l2,l3,l4,l5,l6,l7,l8,rfl,hl_0,hl_1,hl_2⟩:=hl
 have hp0:=hp
 obtain ⟨p0,p1,p2,p3,p4,p5,rfl,hp_0,hp_1⟩:=hp
 refine vc_geo_Ln_Value l0 l1 l2 l3 l4 l5 l6 l7 l8 p0 p1 p2 p3 p4 p5 V _ fun V1 l1=>(c_geo_Ln_Normal (hl0.le (l1)) (Sz.mono sl_0 (by omega):Sz (1 * k + 0) _) (Sz.mono sl_1 (by omega):Sz (1 * k + 0) _) (Sz.mono sl_2 (by omega):Sz (1 * k + 0) _) (by omega)).mono ?_
 rintro r V2 l2 g1
 have g10:=g1
 obtain ⟨w0_0,w0_1,w0_2,w0_3,w0_4,w0_5,rfl,g1p0,g1p1⟩:=g1
 have z1_0:Sz (1 * k + 0) (l_0):=Sz.mono ((z_geo_Ln_Normal_0 (Sz.mono sl_0 (by omega):Sz (1 * k + 0) _) (Sz.mono sl_1 (by omega):Sz (1 * k + 0) _) (Sz.mono sl_2 (by omega):Sz (1 * k + 0) _))) (by omega)
 have z1_1:Sz (1 * k + 0) (l_1):=Sz.mono ((z_geo_Ln_Normal_1 (Sz.mono sl_0 (by omega):Sz (1 * k + 0) _) (Sz.mono sl_1 (by omega):Sz (1 * k + 0) _) (Sz.mono sl_2 (by omega):Sz (1 * k + 0) _))) (by omega)
 refine ⟨_,_,_,_,_,_,rfl,fun V3 l3=>(c_geo_Pt_Dot (g10.le (l3)) (hp0.le (l1.trans (l2.trans (l3)))) (Sz.mono z1_0 (by omega):Sz (1 * k + 0) _) (Sz.mono z1_1 (by omega):Sz (1 * k + 0) _) (Sz.mono sp_0 (by omega):Sz (1 * k + 0) _) (Sz.mono sp_1 (by omega):Sz (1 * k + 0) _) (by omega)).mono ?_⟩
 rintro r V4 l4 g2
 have g20:=g2
 obtain ⟨w1a,w1b,w1c,rfl⟩:=g2.shape
 have z2_0:Sz (4 * k + 3) (((l_0) * (p_0)) + ((l_1) * (p_1))):=Sz.mono ((z_geo_Pt_Dot_0 (Sz.mono z1_0 (by omega):Sz (1 * k + 0) _) (Sz.mono z1_1 (by omega):Sz (1 * k + 0) _) (Sz.mono sp_0 (by omega):Sz (1 * k + 0) _) (Sz.mono sp_1 (by omega):Sz (1 * k + 0) _))) (by omega)
 refine ⟨_,_,_,rfl,fun V5 l5=>(c_R_Add (g20.le (l5)) (hl_2.le (l1.trans (l2.trans (l3.trans (l4.trans (l5)))))) z2_0 sl_2 (by omega)).mono ?_⟩
 rintro r V6 l6 g3
 have g30:=g3
 obtain ⟨w2a,w2b,w2c,rfl⟩:=g3.shape
 have z3_0:Sz (5 * k + 4) ((((l_0) * (p_0)) + ((l_1) * (p_1))) + (l_2)):=Sz.mono (Sz.add z2_0 sl_2) (by omega)
 exact ⟨_,_,_,rfl,fun V7 l7=>(g30.le (l7))⟩
theorem z_geo_Ln_Value_0 {l_0 l_1 l_2 p_0 p_1:Rat} {k:Nat} (sl_0:Sz k l_0) (sl_1:Sz k l_1) (sl_2:Sz k l_2) (sp_0:Sz k p_0) (sp_1:Sz k p_1):Sz (5 * k + 4) ((((l_0) * (p_0)) + ((l_1) * (p_1))) + (l_2)):=by
 have z1_0:Sz (1 * k + 0) (l_0):=Sz.mono ((z_geo_Ln_Normal_0 (Sz.mono sl_0 (by omega):Sz (1 * k + 0) _) (Sz.mono sl_1 (by omega):Sz (1 * k + 0) _) (Sz.mono sl_2 (by omega):Sz (1 * k + 0) _))) (by omega)
 have z1_1:Sz (1 * k + 0) (l_1):=Sz.mono ((z_geo_Ln_Normal_1 (Sz.mono sl_0 (by omega):Sz (1 * k + 0) _) (Sz.mono sl_1 (by omega):Sz (1 * k + 0) _) (Sz.mono sl_2 (by omega):Sz (1 * k + 0) _))) (by omega)
 have z2_0:Sz (4 * k + 3) (((l_0) * (p_0)) + ((l_1) * (p_1))):=Sz.mono ((z_geo_Pt_Dot_0 (Sz.mono z1_0 (by omega):Sz (1 * k + 0) _) (Sz.mono z1_1 (by omega):Sz (1 * k + 0) _) (Sz.mono sp_0 (by omega):Sz (1 * k + 0) _) (Sz.mono sp_1 (by omega):Sz (1 * k + 0) _))) (by omega)
 have z3_0:Sz (5 * k + 4) ((((l_0) * (p_0)) + ((l_1) * (p_1))) + (l_2)):=Sz.mono (Sz.add z2_0 sl_2) (by omega)
 exact Sz.mono z3_0 (by omega)
theorem c_geo_Ln_Base {V:View} {l:Value} {l_0 l_1 l_2:Rat} (hl:RLn V l l_0 l_1 l_2) {k:Nat} (sl_0:Sz k l_0) (sl_1:Sz k l_1) (sl_2:Sz k l_2) (hk:10 * k + 9 < 274877906944) :
  Acts prog 168 #[l] V fun r V'=>RPt V' r ((l_0) * (((-(l_2)) * (((l_0) * (l_0)) + ((l_1) * (l_1)))⁻¹))) ((l_1) * (((-(l_2)) * (((l_0) * (l_0)) + ((l_1) * (l_1)))⁻¹))):=by
 have hl0:=hl
 obtain ⟨l0,l1,l2,l3,l4,l5,l6,l7,l8,rfl,hl_0,hl_1,hl_2⟩:=hl
 refine vc_geo_Ln_Base l0 l1 l2 l3 l4 l5 l6 l7 l8 V _ fun V1 l1=>(c_geo_Ln_Normal (hl0.le (l1)) (Sz.mono sl_0 (by omega):Sz (1 * k + 0) _) (Sz.mono sl_1 (by omega):Sz (1 * k + 0) _) (Sz.mono sl_2 (by omega):Sz (1 * k + 0) _) (by omega)).mono ?_
 rintro r V2 l2 g1
 have g10:=g1
 obtain ⟨w0_0,w0_1,w0_2,w0_3,w0_4,w0_5,rfl,g1p0,g1p1⟩:=g1
 have z1_0:Sz (1 * k + 0) (l_0):=Sz.mono ((z_geo_Ln_Normal_0 (Sz.mono sl_0 (by omega):Sz (1 * k + 0) _) (Sz.mono sl_1 (by omega):Sz (1 * k + 0) _) (Sz.mono sl_2 (by omega):Sz (1 * k + 0) _))) (by omega)
 have z1_1:Sz (1 * k + 0) (l_1):=Sz.mono ((z_geo_Ln_Normal_1 (Sz.mono sl_0 (by omega):Sz (1 * k + 0) _) (Sz.mono sl_1 (by omega):Sz (1 * k + 0) _) (Sz.mono sl_2 (by omega):Sz (1 * k + 0) _))) (by omega)
 refine ⟨_,_,_,_,_,_,rfl,fun V3 l3=>(c_R_Neg (hl_2.le (l1.trans (l2.trans (l3)))) sl_2 (by omega)).mono ?_⟩
 rintro r V4 l4 g2
 have g20:=g2
 obtain ⟨w1a,w1b,w1c,rfl⟩:=g2.shape
 have z2_0:Sz (1 * k + 0) (-(l_2)):=Sz.mono (Sz.neg sl_2) (by omega)
 refine ⟨_,_,_,rfl,fun V5 l5=>(c_geo_Pt_Dot (g10.le (l3.trans (l4.trans (l5)))) (g10.le (l3.trans (l4.trans (l5)))) (Sz.mono z1_0 (by omega):Sz (1 * k + 0) _) (Sz.mono z1_1 (by omega):Sz (1 * k + 0) _) (Sz.mono z1_0 (by omega):Sz (1 * k + 0) _) (Sz.mono z1_1 (by omega):Sz (1 * k + 0) _) (by omega)).mono ?_⟩
 rintro r V6 l6 g3
 have g30:=g3
 obtain ⟨w2a,w2b,w2c,rfl⟩:=g3.shape
 have z3_0:Sz (4 * k + 3) (((l_0) * (l_0)) + ((l_1) * (l_1))):=Sz.mono ((z_geo_Pt_Dot_0 (Sz.mono z1_0 (by omega):Sz (1 * k + 0) _) (Sz.mono z1_1 (by omega):Sz (1 * k + 0) _) (Sz.mono z1_0 (by omega):Sz (1 * k + 0) _) (Sz.mono z1_1 (by omega):Sz (1 * k + 0) _))) (by omega)
 refine ⟨_,_,_,rfl,fun V7 l7=>(c_R_Quo (g20.le (l5.trans (l6.trans (l7)))) (g30.le (l7)) z2_0 z3_0 (by omega)).mono ?_⟩
 rintro r V8 l8 g4
 have g40:=g4
 obtain ⟨w3a,w3b,w3c,rfl⟩:=g4.shape
 have z4_0:Sz (5 * k + 4) ((-(l_2)) * (((l_0) * (l_0)) + ((l_1) * (l_1)))⁻¹):=Sz.mono (Sz.mul z2_0 (sz_inv z3_0)) (by omega)
 refine ⟨_,_,_,rfl,fun V9 l9=>(c_geo_Pt_Scale (g10.le (l3.trans (l4.trans (l5.trans (l6.trans (l7.trans (l8.trans (l9)))))))) (g40.le (l9)) (Sz.mono z1_0 (by omega):Sz (5 * k + 4) _) (Sz.mono z1_1 (by omega):Sz (5 * k + 4) _) (Sz.mono z4_0 (by omega):Sz (5 * k + 4) _) (by omega)).mono ?_⟩
 rintro r V10 l10 g5
 have g50:=g5
 obtain ⟨w4_0,w4_1,w4_2,w4_3,w4_4,w4_5,rfl,g5p0,g5p1⟩:=g5
 have z5_0:Sz (10 * k + 9) ((l_0) * (((-(l_2)) * (((l_0) * (l_0)) + ((l_1) * (l_1)))⁻¹))):=Sz.mono ((z_geo_Pt_Scale_0 (Sz.mono z1_0 (by omega):Sz (5 * k + 4) _) (Sz.mono z1_1 (by omega):Sz (5 * k + 4) _) (Sz.mono z4_0 (by omega):Sz (5 * k + 4) _))) (by omega)
 have z5_1:Sz (10 * k + 9) ((l_1) * (((-(l_2)) * (((l_0) * (l_0)) + ((l_1) * (l_1)))⁻¹))):=Sz.mono ((z_geo_Pt_Scale_1 (Sz.mono z1_0 (by omega):Sz (5 * k + 4) _) (Sz.mono z1_1 (by omega):Sz (5 * k + 4) _) (Sz.mono z4_0 (by omega):Sz (5 * k + 4) _))) (by omega)
 exact ⟨_,_,_,_,_,_,rfl,fun V11 l11=>⟨_,_,_,_,_,_,rfl,(g5p0.le (l11)),(g5p1.le (l11))⟩⟩
theorem z_geo_Ln_Base_0 {l_0 l_1 l_2:Rat} {k:Nat} (sl_0:Sz k l_0) (sl_1:Sz k l_1) (sl_2:Sz k l_2):Sz (10 * k + 9) ((l_0) * (((-(l_2)) * (((l_0) * (l_0)) + ((l_1) * (l_1)))⁻¹))):=by
 have z1_0:Sz (1 * k + 0) (l_0):=Sz.mono ((z_geo_Ln_Normal_0 (Sz.mono sl_0 (by omega):Sz (1 * k + 0) _) (Sz.mono sl_1 (by omega):Sz (1 * k + 0) _) (Sz.mono sl_2 (by omega):Sz (1 * k + 0) _))) (by omega)
 have z1_1:Sz (1 * k + 0) (l_1):=Sz.mono ((z_geo_Ln_Normal_1 (Sz.mono sl_0 (by omega):Sz (1 * k + 0) _) (Sz.mono sl_1 (by omega):Sz (1 * k + 0) _) (Sz.mono sl_2 (by omega):Sz (1 * k + 0) _))) (by omega)
 have z2_0:Sz (1 * k + 0) (-(l_2)):=Sz.mono (Sz.neg sl_2) (by omega)
 have z3_0:Sz (4 * k + 3) (((l_0) * (l_0)) + ((l_1) * (l_1))):=Sz.mono ((z_geo_Pt_Dot_0 (Sz.mono z1_0 (by omega):Sz (1 * k + 0) _) (Sz.mono z1_1 (by omega):Sz (1 * k + 0) _) (Sz.mono z1_0 (by omega):Sz (1 * k + 0) _) (Sz.mono z1_1 (by omega):Sz (1 * k + 0) _))) (by omega)
 have z4_0:Sz (5 * k + 4) ((-(l_2)) * (((l_0) * (l_0)) + ((l_1) * (l_1)))⁻¹):=Sz.mono (Sz.mul z2_0 (sz_inv z3_0)) (by omega)
 have z5_0:Sz (10 * k + 9) ((l_0) * (((-(l_2)) * (((l_0) * (l_0)) + ((l_1) * (l_1)))⁻¹))):=Sz.mono ((z_geo_Pt_Scale_0 (Sz.mono z1_0 (by omega):Sz (5 * k + 4) _) (Sz.mono z1_1 (by omega):Sz (5 * k + 4) _) (Sz.mono z4_0 (by omega):Sz (5 * k + 4) _))) (by omega)
 have z5_1:Sz (10 * k + 9) ((l_1) * (((-(l_2)) * (((l_0) * (l_0)) + ((l_1) * (l_1)))⁻¹))):=Sz.mono ((z_geo_Pt_Scale_1 (Sz.mono z1_0 (by omega):Sz (5 * k + 4) _) (Sz.mono z1_1 (by omega):Sz (5 * k + 4) _) (Sz.mono z4_0 (by omega):Sz (5 * k + 4) _))) (by omega)
 exact Sz.mono z5_0 (by omega)
theorem z_geo_Ln_Base_1 {l_0 l_1 l_2:Rat} {k:Nat} (sl_0:Sz k l_0) (sl_1:Sz k l_1) (sl_2:Sz k l_2):Sz (10 * k + 9) ((l_1) * (((-(l_2)) * (((l_0) * (l_0)) + ((l_1) * (l_1)))⁻¹))):=by
 have z1_0:Sz (1 * k + 0) (l_0):=Sz.mono ((z_geo_Ln_Normal_0 (Sz.mono sl_0 (by omega):Sz (1 * k + 0) _) (Sz.mono sl_1 (by omega):Sz (1 * k + 0) _) (Sz.mono sl_2 (by omega):Sz (1 * k + 0) _))) (by omega)
 have z1_1:Sz (1 * k + 0) (l_1):=Sz.mono ((z_geo_Ln_Normal_1 (Sz.mono sl_0 (by omega):Sz (1 * k + 0) _) (Sz.mono sl_1 (by omega):Sz (1 * k + 0) _) (Sz.mono sl_2 (by omega):Sz (1 * k + 0) _))) (by omega)
 have z2_0:Sz (1 * k + 0) (-(l_2)):=Sz.mono (Sz.neg sl_2) (by omega)
 have z3_0:Sz (4 * k + 3) (((l_0) * (l_0)) + ((l_1) * (l_1))):=Sz.mono ((z_geo_Pt_Dot_0 (Sz.mono z1_0 (by omega):Sz (1 * k + 0) _) (Sz.mono z1_1 (by omega):Sz (1 * k + 0) _) (Sz.mono z1_0 (by omega):Sz (1 * k + 0) _) (Sz.mono z1_1 (by omega):Sz (1 * k + 0) _))) (by omega)
 have z4_0:Sz (5 * k + 4) ((-(l_2)) * (((l_0) * (l_0)) + ((l_1) * (l_1)))⁻¹):=Sz.mono (Sz.mul z2_0 (sz_inv z3_0)) (by omega)
 have z5_0:Sz (10 * k + 9) ((l_0) * (((-(l_2)) * (((l_0) * (l_0)) + ((l_1) * (l_1)))⁻¹))):=Sz.mono ((z_geo_Pt_Scale_0 (Sz.mono z1_0 (by omega):Sz (5 * k + 4) _) (Sz.mono z1_1 (by omega):Sz (5 * k + 4) _) (Sz.mono z4_0 (by omega):Sz (5 * k + 4) _))) (by omega)
 have z5_1:Sz (10 * k + 9) ((l_1) * (((-(l_2)) * (((l_0) * (l_0)) + ((l_1) * (l_1)))⁻¹))):=Sz.mono ((z_geo_Pt_Scale_1 (Sz.mono z1_0 (by omega):Sz (5 * k + 4) _) (Sz.mono z1_1 (by omega):Sz (5 * k + 4) _) (Sz.mono z4_0 (by omega):Sz (5 * k + 4) _))) (by omega)
 exact Sz.mono z5_1 (by omega)
theorem c_geo_Ln_At {V:View} {l:Value} {l_0 l_1 l_2:Rat} {t:Value} {t_0:Rat} (hl:RLn V l l_0 l_1 l_2) (ht:RR V t t_0) {k:Nat} (sl_0:Sz k l_0) (sl_1:Sz k l_1) (sl_2:Sz k l_2) (st_0:Sz k t_0) (hk:20 * k + 19 < 274877906944) :
  Acts prog 118 #[l,t] V fun r V'=>RPt V' r ((((l_0) * (((-(l_2)) * (((l_0) * (l_0)) + ((l_1) * (l_1)))⁻¹)))) + (((l_1) * (t_0)))) ((((l_1) * (((-(l_2)) * (((l_0) * (l_0)) + ((l_1) * (l_1)))⁻¹)))) + ((((-(l_0))) * (t_0)))):=by
 have hl0:=hl
 obtain ⟨l0,l1,l2,l3,l4,l5,l6,l7,l8,rfl,hl_0,hl_1,hl_2⟩:=hl
 have ht0:=ht
 obtain ⟨t0,t1,t2,rfl⟩:=ht.shape
 refine vc_geo_Ln_At l0 l1 l2 l3 l4 l5 l6 l7 l8 t0 t1 t2 V _ fun V1 l1=>(c_geo_Ln_Base (hl0.le (l1)) (Sz.mono sl_0 (by omega):Sz (1 * k + 0) _) (Sz.mono sl_1 (by omega):Sz (1 * k + 0) _) (Sz.mono sl_2 (by omega):Sz (1 * k + 0) _) (by omega)).mono ?_
 rintro r V2 l2 g1
 have g10:=g1
 obtain ⟨w0_0,w0_1,w0_2,w0_3,w0_4,w0_5,rfl,g1p0,g1p1⟩:=g1
 have z1_0:Sz (10 * k + 9) ((l_0) * (((-(l_2)) * (((l_0) * (l_0)) + ((l_1) * (l_1)))⁻¹))):=Sz.mono ((z_geo_Ln_Base_0 (Sz.mono sl_0 (by omega):Sz (1 * k + 0) _) (Sz.mono sl_1 (by omega):Sz (1 * k + 0) _) (Sz.mono sl_2 (by omega):Sz (1 * k + 0) _))) (by omega)
 have z1_1:Sz (10 * k + 9) ((l_1) * (((-(l_2)) * (((l_0) * (l_0)) + ((l_1) * (l_1)))⁻¹))):=Sz.mono ((z_geo_Ln_Base_1 (Sz.mono sl_0 (by omega):Sz (1 * k + 0) _) (Sz.mono sl_1 (by omega):Sz (1 * k + 0) _) (Sz.mono sl_2 (by omega):Sz (1 * k + 0) _))) (by omega)
 refine ⟨_,_,_,_,_,_,rfl,fun V3 l3=>(c_geo_Ln_Dir (hl0.le (l1.trans (l2.trans (l3)))) (Sz.mono sl_0 (by omega):Sz (1 * k + 0) _) (Sz.mono sl_1 (by omega):Sz (1 * k + 0) _) (Sz.mono sl_2 (by omega):Sz (1 * k + 0) _) (by omega)).mono ?_⟩
 rintro r V4 l4 g2
 have g20:=g2
 obtain ⟨w1_0,w1_1,w1_2,w1_3,w1_4,w1_5,rfl,g2p0,g2p1⟩:=g2
 have z2_0:Sz (1 * k + 0) (l_1):=Sz.mono ((z_geo_Ln_Dir_0 (Sz.mono sl_0 (by omega):Sz (1 * k + 0) _) (Sz.mono sl_1 (by omega):Sz (1 * k + 0) _) (Sz.mono sl_2 (by omega):Sz (1 * k + 0) _))) (by omega)
 have z2_1:Sz (1 * k + 0) (-(l_0)):=Sz.mono ((z_geo_Ln_Dir_1 (Sz.mono sl_0 (by omega):Sz (1 * k + 0) _) (Sz.mono sl_1 (by omega):Sz (1 * k + 0) _) (Sz.mono sl_2 (by omega):Sz (1 * k + 0) _))) (by omega)
 refine ⟨_,_,_,_,_,_,rfl,fun V5 l5=>(c_geo_Pt_Scale (g20.le (l5)) (ht0.le (l1.trans (l2.trans (l3.trans (l4.trans (l5)))))) (Sz.mono z2_0 (by omega):Sz (1 * k + 0) _) (Sz.mono z2_1 (by omega):Sz (1 * k + 0) _) (Sz.mono st_0 (by omega):Sz (1 * k + 0) _) (by omega)).mono ?_⟩
 rintro r V6 l6 g3
 have g30:=g3
 obtain ⟨w2_0,w2_1,w2_2,w2_3,w2_4,w2_5,rfl,g3p0,g3p1⟩:=g3
 have z3_0:Sz (2 * k + 1) ((l_1) * (t_0)):=Sz.mono ((z_geo_Pt_Scale_0 (Sz.mono z2_0 (by omega):Sz (1 * k + 0) _) (Sz.mono z2_1 (by omega):Sz (1 * k + 0) _) (Sz.mono st_0 (by omega):Sz (1 * k + 0) _))) (by omega)
 have z3_1:Sz (2 * k + 1) (((-(l_0))) * (t_0)):=Sz.mono ((z_geo_Pt_Scale_1 (Sz.mono z2_0 (by omega):Sz (1 * k + 0) _) (Sz.mono z2_1 (by omega):Sz (1 * k + 0) _) (Sz.mono st_0 (by omega):Sz (1 * k + 0) _))) (by omega)
 refine ⟨_,_,_,_,_,_,rfl,fun V7 l7=>(c_geo_Pt_Add (g10.le (l3.trans (l4.trans (l5.trans (l6.trans (l7)))))) (g30.le (l7)) (Sz.mono z1_0 (by omega):Sz (10 * k + 9) _) (Sz.mono z1_1 (by omega):Sz (10 * k + 9) _) (Sz.mono z3_0 (by omega):Sz (10 * k + 9) _) (Sz.mono z3_1 (by omega):Sz (10 * k + 9) _) (by omega)).mono ?_⟩
 rintro r V8 l8 g4
 have g40:=g4
 obtain ⟨w3_0,w3_1,w3_2,w3_3,w3_4,w3_5,rfl,g4p0,g4p1⟩:=g4
 have z4_0:Sz (20 * k + 19) ((((l_0) * (((-(l_2)) * (((l_0) * (l_0)) + ((l_1) * (l_1)))⁻¹)))) + (((l_1) * (t_0)))):=Sz.mono ((z_geo_Pt_Add_0 (Sz.mono z1_0 (by omega):Sz (10 * k + 9) _) (Sz.mono z1_1 (by omega):Sz (10 * k + 9) _) (Sz.mono z3_0 (by omega):Sz (10 * k + 9) _) (Sz.mono z3_1 (by omega):Sz (10 * k + 9) _))) (by omega)
 have z4_1:Sz (20 * k + 19) ((((l_1) * (((-(l_2)) * (((l_0) * (l_0)) + ((l_1) * (l_1)))⁻¹)))) + ((((-(l_0))) * (t_0)))):=Sz.mono ((z_geo_Pt_Add_1 (Sz.mono z1_0 (by omega):Sz (10 * k + 9) _) (Sz.mono z1_1 (by omega):Sz (10 * k + 9) _) (Sz.mono z3_0 (by omega):Sz (10 * k + 9) _) (Sz.mono z3_1 (by omega):Sz (10 * k + 9) _))) (by omega)
 exact ⟨_,_,_,_,_,_,rfl,fun V9 l9=>⟨_,_,_,_,_,_,rfl,(g4p0.le (l9)),(g4p1.le (l9))⟩⟩
theorem z_geo_Ln_At_0 {l_0 l_1 l_2 t_0:Rat} {k:Nat} (sl_0:Sz k l_0) (sl_1:Sz k l_1) (sl_2:Sz k l_2) (st_0:Sz k t_0):Sz (20 * k + 19) ((((l_0) * (((-(l_2)) * (((l_0) * (l_0)) + ((l_1) * (l_1)))⁻¹)))) + (((l_1) * (t_0)))):=by
 have z1_0:Sz (10 * k + 9) ((l_0) * (((-(l_2)) * (((l_0) * (l_0)) + ((l_1) * (l_1)))⁻¹))):=Sz.mono ((z_geo_Ln_Base_0 (Sz.mono sl_0 (by omega):Sz (1 * k + 0) _) (Sz.mono sl_1 (by omega):Sz (1 * k + 0) _) (Sz.mono sl_2 (by omega):Sz (1 * k + 0) _))) (by omega)
 have z1_1:Sz (10 * k + 9) ((l_1) * (((-(l_2)) * (((l_0) * (l_0)) + ((l_1) * (l_1)))⁻¹))):=Sz.mono ((z_geo_Ln_Base_1 (Sz.mono sl_0 (by omega):Sz (1 * k + 0) _) (Sz.mono sl_1 (by omega):Sz (1 * k + 0) _) (Sz.mono sl_2 (by omega):Sz (1 * k + 0) _))) (by omega)
 have z2_0:Sz (1 * k + 0) (l_1):=Sz.mono ((z_geo_Ln_Dir_0 (Sz.mono sl_0 (by omega):Sz (1 * k + 0) _) (Sz.mono sl_1 (by omega):Sz (1 * k + 0) _) (Sz.mono sl_2 (by omega):Sz (1 * k + 0) _))) (by omega)
 have z2_1:Sz (1 * k + 0) (-(l_0)):=Sz.mono ((z_geo_Ln_Dir_1 (Sz.mono sl_0 (by omega):Sz (1 * k + 0) _) (Sz.mono sl_1 (by omega):Sz (1 * k + 0) _) (Sz.mono sl_2 (by omega):Sz (1 * k + 0) _))) (by omega)
 have z3_0:Sz (2 * k + 1) ((l_1) * (t_0)):=Sz.mono ((z_geo_Pt_Scale_0 (Sz.mono z2_0 (by omega):Sz (1 * k + 0) _) (Sz.mono z2_1 (by omega):Sz (1 * k + 0) _) (Sz.mono st_0 (by omega):Sz (1 * k + 0) _))) (by omega)
 have z3_1:Sz (2 * k + 1) (((-(l_0))) * (t_0)):=Sz.mono ((z_geo_Pt_Scale_1 (Sz.mono z2_0 (by omega):Sz (1 * k + 0) _) (Sz.mono z2_1 (by omega):Sz (1 * k + 0) _) (Sz.mono st_0 (by omega):Sz (1 * k + 0) _))) (by omega)
 have z4_0:Sz (20 * k + 19) ((((l_0) * (((-(l_2)) * (((l_0) * (l_0)) + ((l_1) * (l_1)))⁻¹)))) + (((l_1) * (t_0)))):=Sz.mono ((z_geo_Pt_Add_0 (Sz.mono z1_0 (by omega):Sz (10 * k + 9) _) (Sz.mono z1_1 (by omega):Sz (10 * k + 9) _) (Sz.mono z3_0 (by omega):Sz (10 * k + 9) _) (Sz.mono z3_1 (by omega):Sz (10 * k + 9) _))) (by omega)
 have z4_1:Sz (20 * k + 19) ((((l_1) * (((-(l_2)) * (((l_0) * (l_0)) + ((l_1) * (l_1)))⁻¹)))) + ((((-(l_0))) * (t_0)))):=Sz.mono ((z_geo_Pt_Add_1 (Sz.mono z1_0 (by omega):Sz (10 * k + 9) _) (Sz.mono z1_1 (by omega):Sz (10 * k + 9) _) (Sz.mono z3_0 (by omega):Sz (10 * k + 9) _) (Sz.mono z3_1 (by omega):Sz (10 * k + 9) _))) (by omega)
 exact Sz.mono z4_0 (by omega)
theorem z_geo_Ln_At_1 {l_0 l_1 l_2 t_0:Rat} {k:Nat} (sl_0:Sz k l_0) (sl_1:Sz k l_1) (sl_2:Sz k l_2) (st_0:Sz k t_0):Sz (20 * k + 19) ((((l_1) * (((-(l_2)) * (((l_0) * (l_0)) + ((l_1) * (l_1)))⁻¹)))) + ((((-(l_0))) * (t_0)))):=by
 have z1_0:Sz (10 * k + 9) ((l_0) * (((-(l_2)) * (((l_0) * (l_0)) + ((l_1) * (l_1)))⁻¹))):=Sz.mono ((z_geo_Ln_Base_0 (Sz.mono sl_0 (by omega):Sz (1 * k + 0) _) (Sz.mono sl_1 (by omega):Sz (1 * k + 0) _) (Sz.mono sl_2 (by omega):Sz (1 * k + 0) _))) (by omega)
 have z1_1:Sz (10 * k + 9) ((l_1) * (((-(l_2)) * (((l_0) * (l_0)) + ((l_1) * (l_1)))⁻¹))):=Sz.mono ((z_geo_Ln_Base_1 (Sz.mono sl_0 (by omega):Sz (1 * k + 0) _) (Sz.mono sl_1 (by omega):Sz (1 * k + 0) _) (Sz.mono sl_2 (by omega):Sz (1 * k + 0) _))) (by omega)
 have z2_0:Sz (1 * k + 0) (l_1):=Sz.mono ((z_geo_Ln_Dir_0 (Sz.mono sl_0 (by omega):Sz (1 * k + 0) _) (Sz.mono sl_1 (by omega):Sz (1 * k + 0) _) (Sz.mono sl_2 (by omega):Sz (1 * k + 0) _))) (by omega)
 have z2_1:Sz (1 * k + 0) (-(l_0)):=Sz.mono ((z_geo_Ln_Dir_1 (Sz.mono sl_0 (by omega):Sz (1 * k + 0) _) (Sz.mono sl_1 (by omega):Sz (1 * k + 0) _) (Sz.mono sl_2 (by omega):Sz (1 * k + 0) _))) (by omega)
 have z3_0:Sz (2 * k + 1) ((l_1) * (t_0)):=Sz.mono ((z_geo_Pt_Scale_0 (Sz.mono z2_0 (by omega):Sz (1 * k + 0) _) (Sz.mono z2_1 (by omega):Sz (1 * k + 0) _) (Sz.mono st_0 (by omega):Sz (1 * k + 0) _))) (by omega)
 have z3_1:Sz (2 * k + 1) (((-(l_0))) * (t_0)):=Sz.mono ((z_geo_Pt_Scale_1 (Sz.mono z2_0 (by omega):Sz (1 * k + 0) _) (Sz.mono z2_1 (by omega):Sz (1 * k + 0) _) (Sz.mono st_0 (by omega):Sz (1 * k + 0) _))) (by omega)
 have z4_0:Sz (20 * k + 19) ((((l_0) * (((-(l_2)) * (((l_0) * (l_0)) + ((l_1) * (l_1)))⁻¹)))) + (((l_1) * (t_0)))):=Sz.mono ((z_geo_Pt_Add_0 (Sz.mono z1_0 (by omega):Sz (10 * k + 9) _) (Sz.mono z1_1 (by omega):Sz (10 * k + 9) _) (Sz.mono z3_0 (by omega):Sz (10 * k + 9) _) (Sz.mono z3_1 (by omega):Sz (10 * k + 9) _))) (by omega)
 have z4_1:Sz (20 * k + 19) ((((l_1) * (((-(l_2)) * (((l_0) * (l_0)) + ((l_1) * (l_1)))⁻¹)))) + ((((-(l_0))) * (t_0)))):=Sz.mono ((z_geo_Pt_Add_1 (Sz.mono z1_0 (by omega):Sz (10 * k + 9) _) (Sz.mono z1_1 (by omega):Sz (10 * k + 9) _) (Sz.mono z3_0 (by omega):Sz (10 * k + 9) _) (Sz.mono z3_1 (by omega):Sz (10 * k + 9) _))) (by omega)
 exact Sz.mono z4_1 (by omega)
theorem c_geo_Ln_Param {V:View} {l:Value} {l_0 l_1 l_2:Rat} {p:Value} {p_0 p_1:Rat} (hl:RLn V l l_0 l_1 l_2) (hp:RPt V p p_0 p_1) {k:Nat} (sl_0:Sz k l_0) (sl_1:Sz k l_1) (sl_2:Sz k l_2) (sp_0:Sz k p_0) (sp_1:Sz k p_1) (hk:8 * k + 7 < 274877906944) :
  Acts prog 101 #[l,p] V fun r V'=>RR V' r ((((l_1) * (p_0)) + (((-(l_0))) * (p_1))) * (((l_1) * (l_1)) + (((-(l_0))) * ((-(l_0)))))⁻¹):=by
 have hl0:=hl
 obtain ⟨l0,l1,l2,l3,l4,l5,l6,l7,l8,rfl,hl_0,hl_1,hl_2⟩:=hl
 have hp0:=hp
 obtain ⟨p0,p1,p2,p3,p4,p5,rfl,hp_0,hp_1⟩:=hp
 refine vc_geo_Ln_Param l0 l1 l2 l3 l4 l5 l6 l7 l8 p0 p1 p2 p3 p4 p5 V _ fun V1 l1=>(c_geo_Ln_Dir (hl0.le (l1)) (Sz.mono sl_0 (by omega):Sz (1 * k + 0) _) (Sz.mono sl_1 (by omega):Sz (1 * k + 0) _) (Sz.mono sl_2 (by omega):Sz (1 * k + 0) _) (by omega)).mono ?_
 rintro r V2 l2 g1
 have g10:=g1
 obtain ⟨w0_0,w0_1,w0_2,w0_3,w0_4,w0_5,rfl,g1p0,g1p1⟩:=g1
 have z1_0:Sz (1 * k + 0) (l_1):=Sz.mono ((z_geo_Ln_Dir_0 (Sz.mono sl_0 (by omega):Sz (1 * k + 0) _) (Sz.mono sl_1 (by omega):Sz (1 * k + 0) _) (Sz.mono sl_2 (by omega):Sz (1 * k + 0) _))) (by omega)
 have z1_1:Sz (1 * k + 0) (-(l_0)):=Sz.mono ((z_geo_Ln_Dir_1 (Sz.mono sl_0 (by omega):Sz (1 * k + 0) _) (Sz.mono sl_1 (by omega):Sz (1 * k + 0) _) (Sz.mono sl_2 (by omega):Sz (1 * k + 0) _))) (by omega)
 refine ⟨_,_,_,_,_,_,rfl,fun V3 l3=>(c_geo_Pt_Dot (g10.le (l3)) (hp0.le (l1.trans (l2.trans (l3)))) (Sz.mono z1_0 (by omega):Sz (1 * k + 0) _) (Sz.mono z1_1 (by omega):Sz (1 * k + 0) _) (Sz.mono sp_0 (by omega):Sz (1 * k + 0) _) (Sz.mono sp_1 (by omega):Sz (1 * k + 0) _) (by omega)).mono ?_⟩
 rintro r V4 l4 g2
 have g20:=g2
 obtain ⟨w1a,w1b,w1c,rfl⟩:=g2.shape
 have z2_0:Sz (4 * k + 3) (((l_1) * (p_0)) + (((-(l_0))) * (p_1))):=Sz.mono ((z_geo_Pt_Dot_0 (Sz.mono z1_0 (by omega):Sz (1 * k + 0) _) (Sz.mono z1_1 (by omega):Sz (1 * k + 0) _) (Sz.mono sp_0 (by omega):Sz (1 * k + 0) _) (Sz.mono sp_1 (by omega):Sz (1 * k + 0) _))) (by omega)
 refine ⟨_,_,_,rfl,fun V5 l5=>(c_geo_Pt_Dot (g10.le (l3.trans (l4.trans (l5)))) (g10.le (l3.trans (l4.trans (l5)))) (Sz.mono z1_0 (by omega):Sz (1 * k + 0) _) (Sz.mono z1_1 (by omega):Sz (1 * k + 0) _) (Sz.mono z1_0 (by omega):Sz (1 * k + 0) _) (Sz.mono z1_1 (by omega):Sz (1 * k + 0) _) (by omega)).mono ?_⟩
 rintro r V6 l6 g3
 have g30:=g3
 obtain ⟨w2a,w2b,w2c,rfl⟩:=g3.shape
 have z3_0:Sz (4 * k + 3) (((l_1) * (l_1)) + (((-(l_0))) * ((-(l_0))))):=Sz.mono ((z_geo_Pt_Dot_0 (Sz.mono z1_0 (by omega):Sz (1 * k + 0) _) (Sz.mono z1_1 (by omega):Sz (1 * k + 0) _) (Sz.mono z1_0 (by omega):Sz (1 * k + 0) _) (Sz.mono z1_1 (by omega):Sz (1 * k + 0) _))) (by omega)
 refine ⟨_,_,_,rfl,fun V7 l7=>(c_R_Quo (g20.le (l5.trans (l6.trans (l7)))) (g30.le (l7)) z2_0 z3_0 (by omega)).mono ?_⟩
 rintro r V8 l8 g4
 have g40:=g4
 obtain ⟨w3a,w3b,w3c,rfl⟩:=g4.shape
 have z4_0:Sz (8 * k + 7) ((((l_1) * (p_0)) + (((-(l_0))) * (p_1))) * (((l_1) * (l_1)) + (((-(l_0))) * ((-(l_0)))))⁻¹):=Sz.mono (Sz.mul z2_0 (sz_inv z3_0)) (by omega)
 exact ⟨_,_,_,rfl,fun V9 l9=>(g40.le (l9))⟩
theorem z_geo_Ln_Param_0 {l_0 l_1 l_2 p_0 p_1:Rat} {k:Nat} (sl_0:Sz k l_0) (sl_1:Sz k l_1) (sl_2:Sz k l_2) (sp_0:Sz k p_0) (sp_1:Sz k p_1):Sz (8 * k + 7) ((((l_1) * (p_0)) + (((-(l_0))) * (p_1))) * (((l_1) * (l_1)) + (((-(l_0))) * ((-(l_0)))))⁻¹):=by
 have z1_0:Sz (1 * k + 0) (l_1):=Sz.mono ((z_geo_Ln_Dir_0 (Sz.mono sl_0 (by omega):Sz (1 * k + 0) _) (Sz.mono sl_1 (by omega):Sz (1 * k + 0) _) (Sz.mono sl_2 (by omega):Sz (1 * k + 0) _))) (by omega)
 have z1_1:Sz (1 * k + 0) (-(l_0)):=Sz.mono ((z_geo_Ln_Dir_1 (Sz.mono sl_0 (by omega):Sz (1 * k + 0) _) (Sz.mono sl_1 (by omega):Sz (1 * k + 0) _) (Sz.mono sl_2 (by omega):Sz (1 * k + 0) _))) (by omega)
 have z2_0:Sz (4 * k + 3) (((l_1) * (p_0)) + (((-(l_0))) * (p_1))):=Sz.mono ((z_geo_Pt_Dot_0 (Sz.mono z1_0 (by omega):Sz (1 * k + 0) _) (Sz.mono z1_1 (by omega):Sz (1 * k + 0) _) (Sz.mono sp_0 (by omega):Sz (1 * k + 0) _) (Sz.mono sp_1 (by omega):Sz (1 * k + 0) _))) (by omega)
 have z3_0:Sz (4 * k + 3) (((l_1) * (l_1)) + (((-(l_0))) * ((-(l_0))))):=Sz.mono ((z_geo_Pt_Dot_0 (Sz.mono z1_0 (by omega):Sz (1 * k + 0) _) (Sz.mono z1_1 (by omega):Sz (1 * k + 0) _) (Sz.mono z1_0 (by omega):Sz (1 * k + 0) _) (Sz.mono z1_1 (by omega):Sz (1 * k + 0) _))) (by omega)
 have z4_0:Sz (8 * k + 7) ((((l_1) * (p_0)) + (((-(l_0))) * (p_1))) * (((l_1) * (l_1)) + (((-(l_0))) * ((-(l_0)))))⁻¹):=Sz.mono (Sz.mul z2_0 (sz_inv z3_0)) (by omega)
 exact Sz.mono z4_0 (by omega)
end Go.Proofs.Tryz
