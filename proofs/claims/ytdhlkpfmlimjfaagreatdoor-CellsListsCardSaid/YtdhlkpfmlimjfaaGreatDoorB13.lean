import Derived.Test.YtdhlkpfmlimjfaaGreatDoorB12
import Derived.Test.YtdhlkpfmlimjfaaGreatDoorB8
set_option linter.unusedVariables false
open Go.IntKind (i64 u64 u32)
namespace Go.Proofs.Tryz
open Go.Eng Go.Big
theorem mkRat_one (z:Int):mkRat z 1=(z:Rat):=by
 apply Rat.ext
 ·rw [Rat.num_mkRat];simp
 ·rw [Rat.den_mkRat];simp
theorem RD.one {V:View}{bk:Nat}{ty:TypeId}{m:Nat×Nat}(h:V.aZ bk (.cells #[.int .u32 1] ty m)):RD V (some ⟨bk,0,none⟩) 1 1 [1]:=
 RD.aZ (ds:=[1]) h (by simp [bK]) rfl (Nat.le_refl _)
theorem jV {V:View}(b:Bool){p:OA}{n c:Nat}{ds:List Nat}(h:RD V p n c ds)(hm:ds.length<=1099511627776) :
  Acts prog 160 #[.agg #[.bool b,.slice p n c]] V fun r V'=>RR V' r (aQ b ds:Rat):=by
 refine vP b p n c V _ fun V1 l1 bk hb=>(bX b (h.le l1) (RD.one hb) hm (by simp)).mono ?_
 rintro r V2 l2 hr
 have e:mkRat (aQ b ds) (val [1])=(aQ b ds:Rat):=mkRat_one _
 rw [e] at hr
 obtain ⟨n,d,p,rfl⟩:=hr.shape
 exact ⟨_,_,_,rfl,fun _ V3 l3=>hr.le l3⟩
theorem tE {z:Int}(h:z.natAbs<4611686018427387904):Wd (z:Rat):=⟨h,by show (1:Nat)<_;decide⟩
theorem gP {V:View}(n:Int)(h0:-9223372036854775808<=n)(h1:n<=9223372036854775807) :
  Acts prog 164 #[.int .i64 n] V fun r V'=>RR V' r (n:Rat):=by
 have Ke:∀V1:View,V.Le V1->Acts prog 179 #[.int .i64 n] V1 fun Xl V2=>∃FY:Bool,∃(Ho:OA)(G_ F5:Nat),Xl=.agg #[.bool FY,.slice Ho G_ F5]/\(∀V3:View,V2.Le V3->∀M7:Nat,V3.aZ M7 (.cells #[.int .u32 1] 225 (0,0))->Acts prog 144 #[.agg #[.bool FY,.slice Ho G_ F5],.slice (some ⟨M7,0,none⟩) 1 1] V3 fun Xm V4=>∃U0:Int,∃U1:Int,∃UL:OA,Xm=.agg #[.int .i64 U0,.int .i64 U1,.pointer UL]/\∀Yi:C->Value,(∀V5:View,V4.Le V5->RR V5 (.agg #[.int .i64 U0,.int .i64 U1,.pointer UL]) (n:Rat))):=by
  intro V1 l1
  refine (iB n h0 h1).mono ?_
  rintro r V2 l2 ⟨p,m,c,rfl,g⟩
  refine ⟨_,_,_,_,rfl,fun V3 l3 bk hb=>(bX _ (g.le l3) (RD.one hb) (Nat.le_trans (ae (k:=64) (by omega)) (by omega)) (by simp)).mono ?_⟩
  rintro r V4 l4 hr
  have e:mkRat (aQ (decide (n<0)) (af n.natAbs)) (val [1])=(n:Rat):=by rw [aA];exact mkRat_one _
  rw [e] at hr
  obtain ⟨n,d,p,rfl⟩:=hr.shape
  exact ⟨_,_,_,rfl,fun _ V3 l3=>hr.le l3⟩
 refine BG n V _ ⟨fun _=>Ke,fun h2=>⟨fun _=>Ke,fun h3 V1 l1=>.inl ⟨rfl,tE ?_⟩⟩⟩
 rw [decide_eq_false_iff_not] at h2 h3
 omega
theorem fa {V:View}{v:Value}{q:Rat}(h:RR V v q){k:Nat}(hs:Sz k q)(hk:k<=1099511627776) :
  Acts prog 146 #[v] V fun r V'=>r=.int .i64 q.num.sign:=by
 rcases h with ⟨rfl,hw⟩|⟨a,b,p,n,c,p',n',c',rfl,h1,h2,h3,h4,h5,hw⟩
 ·refine lG _ _ _ V _ ⟨(fun h0=>nomatch h0),fun _=>⟨fun h V1 l1=>?_,fun h=>⟨fun h' V1 l1=>?_,fun h' V1 l1=>?_⟩⟩⟩
  ·rw [Int.sign_eq_neg_one_of_neg (by simpa using h)]
  ·rw [Int.sign_eq_one_of_pos (by simpa using h')]
  ·have:q.num=0:=by rw [decide_eq_false_iff_not] at h h';omega
   rw [this];rfl
 ·obtain ⟨rfl,hn⟩:=h4.inv
  refine lG _ _ _ V _ ⟨fun _=>⟨rfl,rfl,decide (q.num<0),p,n,c,a.add 0,rfl,?_,?_,fun V1 l1=>(kL _ (hn.le l1) (Nat.le_trans (ae hs.1) hk)).mono ?_⟩,(fun h0=>nomatch h0)⟩
  ·exact h1
  ·simpa [Addr.add] using h2
  ·rintro r V2 l2 rfl
   rw [aA]
   exact ⟨_,rfl,fun V3 l3=>rfl⟩
theorem z_ {V:View}{v:Value}{q:Rat}(h:RR V v q):Acts prog 161 #[v] V fun r V'=>r=.bool (decide (q=0)):=by
 rcases h with ⟨rfl,hw⟩|⟨a,b,p,n,c,p',n',c',rfl,h1,h2,h3,h4,h5,hw⟩
 ·refine lH _ _ _ V _ ⟨fun _ V1 l1=>?_,(fun h0=>nomatch h0)⟩
  congr 1
  rw [Bool.eq_iff_iff,beq_iff_eq,decide_eq_true_eq]
  exact Rat.num_eq_zero
 ·refine lH _ _ _ V _ ⟨(fun h0=>nomatch h0),fun _ V1 l1=>?_⟩
  congr 1
  symm;rw [decide_eq_false_iff_not]
  intro e;subst e;exact hw ⟨by decide,by decide⟩
theorem iA {V:View}{v:Value}{q:Rat}(h:RR V v q){k:Nat}(hs:Sz k q)(hk:k<=1099511627776) :
  Acts prog 214 #[v] V fun r V'=>RR V' r (-q):=by
 rcases h with ⟨rfl,hw⟩|⟨a,b,p,n,c,p',n',c',rfl,h1,h2,h3,h4,h5,hw⟩
 ·have:=hw.1
  refine mu _ _ _ V _ ⟨(fun h0=>nomatch h0),fun _ V1 l1=>.inl ⟨?_,by unfold Wd;rw [Rat.neg_num,Rat.neg_den,Int.natAbs_neg];exact hw⟩⟩
  rw [i64w (by omega),Rat.neg_num,Rat.neg_den,Int.zero_sub]
 ·obtain ⟨rfl,hn⟩:=h4.inv
  refine mu _ _ _ V _ ⟨fun _=>⟨rfl,rfl,decide (q.num<0),p,n,c,a.add 0,rfl,?_,?_,rfl,rfl,p',n',c',⟨_,rfl,h3⟩,fun V1 l1=>(vo _ (hn.le l1) (Nat.le_trans (ae hs.1) hk)).mono ?_⟩,(fun h0=>nomatch h0)⟩
  ·exact h1
  ·simpa [Addr.add] using h2
  ·rintro r V2 l2 FJ
   rw [aA] at FJ
   obtain ⟨p2,n2,c2,rfl,g⟩:=FJ
   refine ⟨_,_,_,_,rfl,fun V3 l3 bk hb=>.inr ⟨⟨bk,0,none⟩,decide (-q.num<0),p2,n2,c2,p',n',c',rfl,?_,?_,?_,?_,?_,?_⟩⟩
   ·rw [add_zero'];exact blk_at (xs:=[_,_,_]) hb rfl
   ·rw [add_zero'];exact blk_at (xs:=[_,_,_]) hb rfl
   ·rw [add_zero'];exact blk_at (xs:=[_,_,_]) hb rfl
   ·exact ⟨_,_,_,rfl,g.le l3⟩
   ·exact h5.le (l1.trans (l2.trans l3))
   ·unfold Wd;rw [Rat.neg_num,Rat.neg_den,Int.natAbs_neg];exact hw
theorem _root_.Go.Eng.Sz.neg {k:Nat}{q:Rat}(h:Sz k q):Sz k (-q):=by unfold Sz;rw [Rat.neg_num,Rat.neg_den,Int.natAbs_neg];exact h
theorem tT (z:Int)(g:Nat)(h:(g:Int)∣z):(z / g).natAbs<=z.natAbs:=by
 rw [Int.natAbs_ediv_of_dvd h,Int.natAbs_natCast];exact Nat.div_le_self _ _
theorem _root_.Go.Eng.Sz.mkRat {k:Nat}{z:Int}{d:Nat}(h1:z.natAbs<2^k)(h2:d<2^k)(hk:0<k):Sz k (mkRat z d):=by
 have h3:1<2^k:=Nat.one_lt_two_pow (by omega)
 unfold Sz
 rw [Rat.num_mkRat,Rat.den_mkRat]
 split
 ·exact ⟨Nat.two_pow_pos k,h3⟩
 ·refine ⟨Nat.lt_of_le_of_lt (tT _ _ (Int.ofNat_dvd_left.2 (Nat.gcd_dvd_right _ _))) h1,Nat.lt_of_le_of_lt (Nat.div_le_self _ _) h2⟩
theorem bC {a b k m:Nat}(h1:a<2^k)(h2:b<2^m):a*b<2^(k+m):=by rw [Nat.pow_add];exact Nat.mul_lt_mul'' h1 h2
theorem rY {x y:Rat}{k m:Nat}(hx:Sz k x)(hy:Sz m y):(x.num*y.den).natAbs<2^(k+m)/\(y.num*x.den).natAbs<2^(k+m)/\(x.num*y.den+y.num*x.den).natAbs<2^(k+m+1)/\x.den*y.den<2^(k+m):=by
 have h1:(x.num*y.den).natAbs<2^(k+m):=by rw [Int.natAbs_mul,Int.natAbs_natCast];exact bC hx.1 hy.2
 have h2:(y.num*x.den).natAbs<2^(k+m):=by rw [Int.natAbs_mul,Int.natAbs_natCast,Nat.add_comm];exact bC hy.1 hx.2
 refine ⟨h1,h2,?_,bC hx.2 hy.2⟩
 rw [Nat.pow_succ];omega
theorem _root_.Go.Eng.Sz.add {x y:Rat}{k m:Nat}(hx:Sz k x)(hy:Sz m y):Sz (k+m+1) (x+y):=by
 obtain ⟨-,-,h3,h4⟩:=rY hx hy
 rw [Rat.add_def']
 exact Go.Eng.Sz.mkRat h3 (Nat.lt_of_lt_of_le h4 (Nat.pow_le_pow_right (by omega) (by omega))) (by omega)
theorem _root_.Go.Eng.Sz.sub {x y:Rat}{k m:Nat}(hx:Sz k x)(hy:Sz m y):Sz (k+m+1) (x-y):=by
 rw [Rat.sub_eq_add_neg];exact hx.add hy.neg
theorem _root_.Go.Eng.Sz.mul {x y:Rat}{k m:Nat}(hx:Sz k x)(hy:Sz m y):Sz (k+m+1) (x*y):=by
 rw [Rat.mul_def']
 refine (Go.Eng.Sz.mkRat (k:=k+m+1) ?_ ?_ (by omega))
 ·rw [Int.natAbs_mul];exact Nat.lt_of_lt_of_le (bC hx.1 hy.1) (Nat.pow_le_pow_right (by omega) (by omega))
 ·exact Nat.lt_of_lt_of_le (bC hx.2 hy.2) (Nat.pow_le_pow_right (by omega) (by omega))
theorem jS {V:View}{v w:Value}{x y:Rat}(hx:RR V v x)(hy:RR V w y){k m:Nat}(hk:Sz k x)(hm:Sz m y)(hkm:k+m<1099511627776) :
  Acts prog 188 #[v,w] V fun r V'=>RR V' r (x+y):=by
 obtain ⟨r0,r1,r2,rfl⟩:=hx.shape
 obtain ⟨s0,s1,s2,rfl⟩:=hy.shape
 have hxy:x+y=mkRat (x.num*y.den+y.num*x.den) (x.den*y.den):=Rat.add_def' x y
 obtain ⟨b1,b2,b3,b4⟩:=rY hk hm
 have gen:(∀Qd:View,V.Le Qd->Acts prog 139 #[.agg #[.int .i64 r0,.int .i64 r1,.pointer r2]] Qd fun R3 S5=>∃MX:Bool,∃(Hq:OA)(Ha F6:Nat),R3=.agg #[.bool MX,.slice Hq Ha F6]/\(∀Qe:View,S5.Le Qe->Acts prog 207 #[.agg #[.int .i64 s0,.int .i64 s1,.pointer s2]] Qe fun R4 S6=>∃(OT:OA)(OC M_:Nat),R4=.slice OT OC M_/\(∀S7:View,S6.Le S7->Acts prog 229 #[.agg #[.bool MX,.slice Hq Ha F6],.agg #[.bool false,.slice OT OC M_]] S7 fun R5 U7=>∃MY:Bool,∃(Hr:OA)(Hb F7:Nat),R5=.agg #[.bool MY,.slice Hr Hb F7]/\(∀S8:View,U7.Le S8->Acts prog 139 #[.agg #[.int .i64 s0,.int .i64 s1,.pointer s2]] S8 fun R6 U8=>∃MZ:Bool,∃(OW:OA)(OG Nc:Nat),R6=.agg #[.bool MZ,.slice OW OG Nc]/\(∀S9:View,U8.Le S9->Acts prog 207 #[.agg #[.int .i64 r0,.int .i64 r1,.pointer r2]] S9 fun R7 U9=>∃(Hs:OA)(Hc F8:Nat),R7=.slice Hs Hc F8/\(∀S_:View,U9.Le S_->Acts prog 229 #[.agg #[.bool MZ,.slice OW OG Nc],.agg #[.bool false,.slice Hs Hc F8]] S_ fun R8 U_=>∃M3:Bool,∃(Ht:OA)(Hd F9:Nat),R8=.agg #[.bool M3,.slice Ht Hd F9]/\(∀Ta:View,U_.Le Ta->Acts prog 228 #[.agg #[.bool MY,.slice Hr Hb F7],.agg #[.bool M3,.slice Ht Hd F9]] Ta fun R9 Va=>∃M4:Bool,∃(OZ:OA)(OK Nh:Nat),R9=.agg #[.bool M4,.slice OZ OK Nh]/\(∀Tb:View,Va.Le Tb->Acts prog 207 #[.agg #[.int .i64 r0,.int .i64 r1,.pointer r2]] Tb fun R_ Vb=>∃(O0:OA)(OL Ni:Nat),R_=.slice O0 OL Ni/\(∀Tc:View,Vb.Le Tc->Acts prog 207 #[.agg #[.int .i64 s0,.int .i64 s1,.pointer s2]] Tc fun Sa Vc=>∃(Hu:OA)(OM Nj:Nat),Sa=.slice Hu OM Nj/\(∀Td:View,Vc.Le Td->Acts prog 206 #[.slice O0 OL Ni,.slice Hu OM Nj] Td fun Sb Vd=>∃(O1:OA)(ON Nk:Nat),Sb=.slice O1 ON Nk/\(∀Te:View,Vd.Le Te->Acts prog 144 #[.agg #[.bool M4,.slice OZ OK Nh],.slice O1 ON Nk] Te fun Sc Ve=>∃Pp:Int,∃Pq:Int,∃O2:OA,Sc=.agg #[.int .i64 Pp,.int .i64 Pq,.pointer O2]/\(∀Tf:View,Ve.Le Tf->RR Tf (.agg #[.int .i64 Pp,.int .i64 Pq,.pointer O2]) (x+y))))))))))))):=by
  intro V1 l1
  refine (e_ (hx.le l1) hk (by omega)).mono ?_
  rintro r V2 l2 ⟨p1,n1,c1,rfl,g1⟩
  refine ⟨_,_,_,_,rfl,fun V3 l3=>(eo (hy.le (l1.trans (l2.trans l3))) hm (by omega)).mono ?_⟩
  rintro r V4 l4 ⟨p2,n2,c2,rfl,g2⟩
  have q1:=ae hk.1
  have q2:=ae hk.2
  have q3:=ae hm.1
  have q4:=ae hm.2
  refine ⟨_,_,_,rfl,fun V5 l5=>(fL _ false (g1.le (l3.trans (l4.trans l5))) (g2.le l5) (by omega)).mono ?_⟩
  rintro r V6 l6 h6
  rw [aA,mQ,ab] at h6
  obtain ⟨p3,n3,c3,rfl,g3⟩:=h6
  refine ⟨_,_,_,_,rfl,fun V7 l7=>(e_ (hy.le (l1.trans (l2.trans (l3.trans (l4.trans (l5.trans (l6.trans l7))))))) hm (by omega)).mono ?_⟩
  rintro r V8 l8 ⟨p4,n4,c4,rfl,g4⟩
  refine ⟨_,_,_,_,rfl,fun V9 l9=>(eo (hx.le (l1.trans (l2.trans (l3.trans (l4.trans (l5.trans (l6.trans (l7.trans (l8.trans l9))))))))) hk (by omega)).mono ?_⟩
  rintro r V10 l10 ⟨p5,n5,c5,rfl,g5⟩
  refine ⟨_,_,_,rfl,fun V11 l11=>(fL _ false (g4.le (l9.trans (l10.trans l11))) (g5.le l11) (by omega)).mono ?_⟩
  rintro r V12 l12 h12
  rw [aA,mQ,ab] at h12
  obtain ⟨p6,n6,c6,rfl,g6⟩:=h12
  have q5:=ae b1
  have q6:=ae b2
  refine ⟨_,_,_,_,rfl,fun V13 l13=>(vl _ _ (g3.le (l7.trans (l8.trans (l9.trans (l10.trans (l11.trans (l12.trans l13))))))) (g6.le l13) (by omega) (by omega)).mono ?_⟩
  rintro r V14 dA FG
  rw [aA,aA] at FG
  obtain ⟨p7,n7,c7,rfl,g7⟩:=FG
  have FP:=l1.trans (l2.trans (l3.trans (l4.trans (l5.trans (l6.trans (l7.trans (l8.trans (l9.trans (l10.trans (l11.trans (l12.trans (l13.trans dA))))))))))))
  refine ⟨_,_,_,_,rfl,fun V15 dS=>(eo (hx.le (FP.trans dS)) hk (by omega)).mono ?_⟩
  rintro r kG dB ⟨p8,n8,c8,rfl,g8⟩
  refine ⟨_,_,_,rfl,fun nD cU=>(eo (hy.le (FP.trans (dS.trans (dB.trans cU)))) hm (by omega)).mono ?_⟩
  rintro r qN dW ⟨p9,n9,c9,rfl,g9⟩
  refine ⟨_,_,_,rfl,fun rG dX=>(fF (g8.le (cU.trans (dW.trans dX))) (g9.le dX) (by omega)).mono ?_⟩
  rintro r Cg iI ⟨FM,n10,c10,rfl,g10⟩
  rw [ab,ab] at g10
  have q7:=ae b3
  have q8:=ae b4
  refine ⟨_,_,_,rfl,fun rX fA=>(bX _ (g7.le (dS.trans (dB.trans (cU.trans (dW.trans (dX.trans (iI.trans fA))))))) (g10.le fA) (by omega) (by omega)).mono ?_⟩
  rintro r wE jA h22
  rw [aA,ab,←hxy] at h22
  obtain ⟨n,d,p,rfl⟩:=h22.shape
  exact ⟨_,_,_,rfl,fun wF iq=>h22.le iq⟩
 have lift:∀V1:View,V.Le V1->∀V2:View,V1.Le V2->V.Le V2:=fun _ h _ h'=>h.trans h'
 rcases hx with ⟨ex,wx⟩|⟨a,b,p,n,c,p',n',c',ex,-,-,-,-,-,wx⟩
 ·rcases hy with ⟨ey,wy⟩|⟨a,b,p,n,c,p',n',c',ey,-,-,-,-,-,wy⟩
  ·simp only [Value.agg.injEq,Array.mk.injEq,List.cons.injEq,Value.int.injEq,Value.pointer.injEq,true_and,and_true] at ex ey
   obtain ⟨rfl,rfl,rfl⟩:=ex
   obtain ⟨rfl,rfl,rfl⟩:=ey
   obtain ⟨Pj,UY⟩:=wx
   obtain ⟨Pk,UZ⟩:=wy
   have dx:=x.den_nz
   have dy:=y.den_nz
   have e1:i64.wrap ((x.den:Int)-1+1)=x.den:=by rw [i64w (by omega)];omega
   have e2:i64.wrap ((y.den:Int)-1+1)=y.den:=by rw [i64w (by omega)];omega
   refine jf _ _ _ _ _ _ V _ ⟨fun _=>⟨fun _ _=>True,⟨fun _=>⟨fun h1=>⟨fun h2 V1 l1=>?_,fun h2=>?_⟩,fun h1=>?_⟩,(fun h=>nomatch h)⟩,fun _ V1 l1 _=>⟨by trivial,fun V2 l2=>gen V2 (l1.trans l2)⟩⟩,(fun h=>nomatch h)⟩
   ·have h1:x.den=1:=by rw [beq_iff_eq] at h1;omega
    have h2:y.den=1:=by rw [beq_iff_eq] at h2;omega
    rw [i64w (by omega)]
    refine (gP _ (by omega) (by omega)).mono ?_
    rintro r V2 l2 hr
    have e:((x.num+y.num:Int):Rat)=x+y:=by
     rw [hxy,h1,h2]
     simp only [Nat.mul_one,Int.natCast_one,Int.mul_one]
     exact (mkRat_one _).symm
    rw [e] at hr
    obtain ⟨n,d,p,rfl⟩:=hr.shape
    exact ⟨_,_,_,rfl,fun V3 l3=>hr.le l3⟩
   all_goals
    rw [e1,e2]
    refine fun V4 l4=>(fg _ _ Pj (by omega)).mono ?_
    rintro r V5 l5 ⟨z1,rfl,hz1⟩
    refine ⟨_,_,rfl,fun V6 l6=>(fg _ _ Pk (by omega)).mono ?_⟩
    rintro r V7 l7 ⟨z2,rfl,hz2⟩
    refine ⟨_,_,rfl,fun V8 l8=>(fg _ _ (by omega) (by omega)).mono ?_⟩
    rintro r V9 l9 ⟨z3,rfl,hz3⟩
    refine ⟨_,_,rfl,fun g1=>⟨fun g2=>⟨fun g3=>⟨fun g4=>⟨fun g5 V10 l10=>?_,fun _=>⟨(),by and_intros<;>rfl,trivial⟩⟩,fun _=>⟨(),by and_intros<;>rfl,trivial⟩⟩,fun _=>⟨(),by and_intros<;>rfl,trivial⟩⟩,fun _=>⟨(),by and_intros<;>rfl,trivial⟩⟩,fun _=>⟨(),by and_intros<;>rfl,trivial⟩⟩
    rw [decide_eq_true_eq] at g1 g2 g3 g4 g5
    have k1:=hz1 g1
    have k2:=hz2 g2
    have k3:=hz3 g3
    rw [←k1] at g1
    rw [←k2] at g2
    rw [←Int.natCast_mul,Int.natAbs_natCast] at g3
    rw [←Int.natCast_mul] at k3
    rw [i64w (by omega)] at g4 g5 ⊢
    rw [k3]
    refine (mc _ _ (by omega) g3 (Nat.mul_ne_zero dx dy)).mono ?_
    rintro r V11 l11 hr
    rw [k1,k2,←hxy] at hr
    obtain ⟨n,d,p,rfl⟩:=hr.shape
    exact ⟨_,_,_,rfl,fun V3 l3=>hr.le l3⟩
  ·simp only [Value.agg.injEq,Array.mk.injEq,List.cons.injEq,Value.int.injEq,Value.pointer.injEq,true_and,and_true] at ex ey
   obtain ⟨rfl,rfl,rfl⟩:=ex
   obtain ⟨rfl,rfl,rfl⟩:=ey
   exact jf _ _ _ _ _ _ V _ ⟨fun _=>⟨fun _ _=>True,⟨(fun h=>nomatch h),fun _=>⟨(),by and_intros<;>rfl,trivial⟩⟩,fun _ V1 l1 _=>⟨by trivial,fun V2 l2=>gen V2 (l1.trans l2)⟩⟩,(fun h=>nomatch h)⟩
 ·simp only [Value.agg.injEq,Array.mk.injEq,List.cons.injEq,Value.int.injEq,Value.pointer.injEq,true_and,and_true] at ex
  obtain ⟨rfl,rfl,rfl⟩:=ex
  exact jf _ _ _ _ _ _ V _ ⟨(fun h=>nomatch h),fun _=>gen⟩
end Go.Proofs.Tryz
namespace Go.Big
def eG (x y:Rat):Int:=(x-y).num.sign
def fY (x y:Rat):Rat:=mkRat (Nat.gcd (x.num.natAbs*y.den) (y.num.natAbs*x.den):Nat) (x.den*y.den)
theorem A6 {q:Rat}:q.num<0↔q<0:=by
 have:=@Rat.num_nonneg q
 rw [←Rat.not_le,←this];omega
theorem A7 {q:Rat}:0<q.num↔0<q:=by
 have h1:=@Rat.num_nonneg q
 have h2:=@Rat.num_eq_zero q
 rw [Rat.lt_iff_le_and_ne,←h1]
 constructor
 ·intro h;exact ⟨by omega,fun e=>by rw [←e] at h;simp at h⟩
 ·rintro ⟨h,hne⟩
  have:q.num≠0:=fun e=>hne (h2.1 e).symm
  omega
theorem yy {x y:Rat}:x<y↔eG x y=-1:=by
 unfold eG
 rw [Int.sign_eq_neg_one_iff_neg,A6,Rat.lt_iff_sub_pos x y,←Rat.neg_sub y x]
 constructor
 ·intro h;have:=Rat.neg_lt_neg h;simpa using this
 ·intro h;have:=Rat.neg_lt_neg h;rw [Rat.neg_neg] at this;simpa using this
theorem rJ {x y:Rat}:y<x↔eG x y=1:=by
 unfold eG
 rw [Int.sign_eq_one_iff_pos,A7,Rat.lt_iff_sub_pos y x]
theorem iD {x y:Rat}:x=y↔eG x y=0:=by
 unfold eG
 rw [Int.sign_eq_zero_iff_zero,Rat.num_eq_zero]
 constructor
 ·intro h;subst h;exact Rat.sub_self
 ·intro h
  have:=congrArg (·+ y) h
  simpa [Rat.sub_add_cancel,Rat.zero_add] using this
end Go.Big
namespace Go.Proofs.Tryz
open Go.Eng Go.Big
theorem yg {V:View}{v w:Value}{x y:Rat}(hx:RR V v x)(hy:RR V w y){k m:Nat}(hk:Sz k x)(hm:Sz m y)(hkm:k+m<1099511627776) :
  Acts prog 232 #[v,w] V fun r V'=>RR V' r (x-y):=by
 obtain ⟨r0,r1,r2,rfl⟩:=hx.shape
 obtain ⟨s0,s1,s2,rfl⟩:=hy.shape
 refine vO _ _ _ _ _ _ V _ fun V1 l1=>(iA (hy.le l1) hm (by omega)).mono ?_
 rintro r V2 l2 h2
 obtain ⟨n,d,p,rfl⟩:=h2.shape
 refine ⟨_,_,_,rfl,fun V3 l3=>(jS (hx.le (l1.trans (l2.trans l3))) (h2.le l3) hk hm.neg hkm).mono ?_⟩
 rintro r V4 l4 h4
 rw [←Rat.sub_eq_add_neg] at h4
 obtain ⟨n,d,p,rfl⟩:=h4.shape
 exact ⟨_,_,_,rfl,fun V5 l5=>h4.le l5⟩
theorem jT {V:View}{v w:Value}{x y:Rat}(hx:RR V v x)(hy:RR V w y){k m:Nat}(hk:Sz k x)(hm:Sz m y)(hkm:k+m<1099511627776) :
  Acts prog 208 #[v,w] V fun r V'=>r=.int .i64 (eG x y):=by
 obtain ⟨r0,r1,r2,rfl⟩:=hx.shape
 obtain ⟨s0,s1,s2,rfl⟩:=hy.shape
 have gen:∀V14:View,V.Le V14->Acts prog 232 #[.agg #[.int .i64 r0,.int .i64 r1,.pointer r2],.agg #[.int .i64 s0,.int .i64 s1,.pointer s2]] V14 fun RZ V15=>∃U2:Int,∃Pl:Int,∃OQ:OA,RZ=.agg #[.int .i64 U2,.int .i64 Pl,.pointer OQ]/\(∀kG:View,V15.Le kG->Acts prog 146 #[.agg #[.int .i64 U2,.int .i64 Pl,.pointer OQ]] kG fun R0 nD=>∃Pm:Int,R0=.int .i64 Pm/\(∀qN:View,nD.Le qN->Value.int .i64 Pm=.int .i64 (eG x y))):=by
  intro V1 l1
  refine (yg (hx.le l1) (hy.le l1) hk hm hkm).mono ?_
  rintro r V2 l2 h2
  obtain ⟨n,d,p,rfl⟩:=h2.shape
  refine ⟨_,_,_,rfl,fun V3 l3=>(fa (h2.le l3) (hk.sub hm) (by omega)).mono ?_⟩
  rintro r V4 l4 rfl
  exact ⟨_,rfl,fun _ _=>rfl⟩
 rcases hx with ⟨ex,wx⟩|⟨a,b,p,n,c,p',n',c',ex,-,-,-,-,-,wx⟩
 ·rcases hy with ⟨ey,wy⟩|⟨a,b,p,n,c,p',n',c',ey,-,-,-,-,-,wy⟩
  ·simp only [Value.agg.injEq,Array.mk.injEq,List.cons.injEq,Value.int.injEq,Value.pointer.injEq,true_and,and_true] at ex ey
   obtain ⟨rfl,rfl,rfl⟩:=ex
   obtain ⟨rfl,rfl,rfl⟩:=ey
   have hlt:x.den=y.den->((x<y↔x.num<y.num)/\(y<x↔y.num<x.num)/\(x=y↔x.num=y.num)):=by
    intro e
    have hd:(0:Int)<y.den:=by have:=y.den_nz;omega
    refine ⟨?_,?_,fun h=>by rw [h],fun h=>Rat.ext h e⟩
    ·rw [Rat.lt_iff,e];exact ⟨fun h=>Int.lt_of_mul_lt_mul_right h (by omega),fun h=>Int.mul_lt_mul_of_pos_right h hd⟩
    ·rw [Rat.lt_iff,e];exact ⟨fun h=>Int.lt_of_mul_lt_mul_right h (by omega),fun h=>Int.mul_lt_mul_of_pos_right h hd⟩
   refine jg _ _ _ _ _ _ V _ ⟨fun _=>⟨fun _=>⟨fun h1=>?_,fun _=>gen⟩,(fun h=>nomatch h)⟩,(fun h=>nomatch h)⟩
   have h1:x.den=y.den:=by rw [beq_iff_eq] at h1;omega
   obtain ⟨g1,g2,g3⟩:=hlt h1
   refine ⟨fun h V1 l1=>?_,fun h=>⟨fun h' V1 l1=>?_,fun h' V1 l1=>?_⟩⟩
   ·rw [yy.1 (g1.2 (by simpa using h))]
   ·rw [rJ.1 (g2.2 (by simpa using h'))]
   ·rw [iD.1 (g3.2 (by rw [decide_eq_false_iff_not] at h h';omega))]
  ·simp only [Value.agg.injEq,Array.mk.injEq,List.cons.injEq,Value.int.injEq,Value.pointer.injEq,true_and,and_true] at ex ey
   obtain ⟨rfl,rfl,rfl⟩:=ex
   obtain ⟨rfl,rfl,rfl⟩:=ey
   exact jg _ _ _ _ _ _ V _ ⟨fun _=>⟨(fun h=>nomatch h),fun _=>gen⟩,(fun h=>nomatch h)⟩
 ·simp only [Value.agg.injEq,Array.mk.injEq,List.cons.injEq,Value.int.injEq,Value.pointer.injEq,true_and,and_true] at ex
  obtain ⟨rfl,rfl,rfl⟩:=ex
  exact jg _ _ _ _ _ _ V _ ⟨(fun h=>nomatch h),fun _=>gen⟩
theorem wS {V:View}{v w:Value}{x y:Rat}(hx:RR V v x)(hy:RR V w y){k m:Nat}(hk:Sz k x)(hm:Sz m y)(hkm:k+m<1099511627776) :
  Acts prog 163 #[v,w] V fun r V'=>r=.bool (decide (x=y)):=by
 obtain ⟨r0,r1,r2,rfl⟩:=hx.shape
 obtain ⟨s0,s1,s2,rfl⟩:=hy.shape
 refine qX _ _ _ _ _ _ V _ fun V1 l1=>(jT (hx.le l1) (hy.le l1) hk hm hkm).mono ?_
 rintro r V2 l2 rfl
 refine ⟨_,rfl,fun V3 l3=>?_⟩
 congr 1
 rw [Bool.eq_iff_iff,beq_iff_eq,decide_eq_true_eq,iD]
theorem Au {x y:Rat}{k m:Nat}(hx:Sz k x)(hy:Sz m y):x.num.natAbs*y.den<2^(k+m)/\y.num.natAbs*x.den<2^(k+m)/\Nat.gcd (x.num.natAbs*y.den) (y.num.natAbs*x.den)<2^(k+m)/\x.den*y.den<2^(k+m):=by
 have h1:x.num.natAbs*y.den<2^(k+m):=bC hx.1 hy.2
 have h2:y.num.natAbs*x.den<2^(k+m):=by rw [Nat.add_comm];exact bC hy.1 hx.2
 refine ⟨h1,h2,?_,bC hx.2 hy.2⟩
 rcases Nat.eq_zero_or_pos (x.num.natAbs*y.den) with e|e
 ·rw [e,Nat.gcd_zero_left];exact h2
 ·exact Nat.lt_of_le_of_lt (Nat.le_of_dvd e (Nat.gcd_dvd_left _ _)) h1
theorem lJ {x y:Rat}{k m:Nat}(hx:Sz k x)(hy:Sz m y):Sz (k+m+1) (fY x y):=by
 obtain ⟨-,-,h3,h4⟩:=Au hx hy
 have h5:2^(k+m)<=2^(k+m+1):=Nat.pow_le_pow_right (by omega) (by omega)
 exact Go.Eng.Sz.mkRat (by rw [Int.natAbs_natCast];omega) (by omega) (by omega)
theorem jU {V:View}{v w:Value}{x y:Rat}(hx:RR V v x)(hy:RR V w y){k m:Nat}(hk:Sz k x)(hm:Sz m y)(hkm:k+m<1099511627776) :
  Acts prog 162 #[v,w] V fun r V'=>RR V' r (fY x y):=by
 obtain ⟨r0,r1,r2,rfl⟩:=hx.shape
 obtain ⟨s0,s1,s2,rfl⟩:=hy.shape
 obtain ⟨b1,b2,b3,b4⟩:=Au hk hm
 have q1:=ae hk.1
 have q2:=ae hk.2
 have q3:=ae hm.1
 have q4:=ae hm.2
 have q5:=ae b1
 have q6:=ae b2
 have q7:=ae b3
 have q8:=ae b4
 have gen:(∀Tg:View,V.Le Tg->Acts prog 207 #[.agg #[.int .i64 r0,.int .i64 r1,.pointer r2]] Tg fun Se Vf=>∃(OR:OA)(Oz M8:Nat),Se=.slice OR Oz M8/\(∀Th:View,Vf.Le Th->Acts prog 207 #[.agg #[.int .i64 s0,.int .i64 s1,.pointer s2]] Th fun Sf Vg=>∃(OS:OA)(OB M9:Nat),Sf=.slice OS OB M9/\(∀Ti:View,Vg.Le Ti->Acts prog 206 #[.slice OR Oz M8,.slice OS OB M9] Ti fun Sg Vh=>∃(Hq:OA)(Ha F6:Nat),Sg=.slice Hq Ha F6/\(∀Tj:View,Vh.Le Tj->Acts prog 139 #[.agg #[.int .i64 r0,.int .i64 r1,.pointer r2]] Tj fun Si Vi=>∃Qg:Bool,∃(OU:OA)(OD Na:Nat),Si=.agg #[.bool Qg,.slice OU OD Na]/\(∀Tk:View,Vi.Le Tk->Acts prog 207 #[.agg #[.int .i64 s0,.int .i64 s1,.pointer s2]] Tk fun Sj Vj=>∃(Hr:OA)(Hb F7:Nat),Sj=.slice Hr Hb F7/\(∀Tl:View,Vj.Le Tl->Acts prog 206 #[.slice OU OD Na,.slice Hr Hb F7] Tl fun Sk Vk=>∃(OV:OA)(OE Nb:Nat),Sk=.slice OV OE Nb/\(∀Tn:View,Vk.Le Tn->Acts prog 139 #[.agg #[.int .i64 s0,.int .i64 s1,.pointer s2]] Tn fun Sl Vl=>∃Qh:Bool,∃(Hs:OA)(Hc F8:Nat),Sl=.agg #[.bool Qh,.slice Hs Hc F8]/\(∀To:View,Vl.Le To->Acts prog 207 #[.agg #[.int .i64 r0,.int .i64 r1,.pointer r2]] To fun Sm Vm=>∃(OX:OA)(OH Nf:Nat),Sm=.slice OX OH Nf/\(∀Tp:View,Vm.Le Tp->Acts prog 206 #[.slice Hs Hc F8,.slice OX OH Nf] Tp fun Sn Vn=>∃(Ht:OA)(Hd F9:Nat),Sn=.slice Ht Hd F9/\(∀Tq:View,Vn.Le Tq->Acts prog 183 #[.slice OV OE Nb,.slice Ht Hd F9] Tq fun So Vo=>∃(OY:OA)(OJ Ng:Nat),So=.slice OY OJ Ng/\(∀Ts:View,Vo.Le Ts->Acts prog 144 #[.agg #[.bool false,.slice OY OJ Ng],.slice Hq Ha F6] Ts fun Sq Vp=>∃Pn:Int,∃Po:Int,∃Hu:OA,Sq=.agg #[.int .i64 Pn,.int .i64 Po,.pointer Hu]/\(∀MQ:View,Vp.Le MQ->RR MQ (.agg #[.int .i64 Pn,.int .i64 Po,.pointer Hu]) (fY x y))))))))))))):=by
  intro V1 l1
  refine (eo (hx.le l1) hk (by omega)).mono ?_
  rintro r V2 l2 ⟨p1,n1,c1,rfl,g1⟩
  refine ⟨_,_,_,rfl,fun V3 l3=>(eo (hy.le (l1.trans (l2.trans l3))) hm (by omega)).mono ?_⟩
  rintro r V4 l4 ⟨p2,n2,c2,rfl,g2⟩
  refine ⟨_,_,_,rfl,fun V5 l5=>(fF (g1.le (l3.trans (l4.trans l5))) (g2.le l5) (by omega)).mono ?_⟩
  rintro r V6 l6 ⟨p3,n3,c3,rfl,g3⟩
  rw [ab,ab] at g3
  have L6:=l1.trans (l2.trans (l3.trans (l4.trans (l5.trans l6))))
  refine ⟨_,_,_,rfl,fun V7 l7=>(e_ (hx.le (L6.trans l7)) hk (by omega)).mono ?_⟩
  rintro r V8 l8 ⟨p4,n4,c4,rfl,g4⟩
  refine ⟨_,_,_,_,rfl,fun V9 l9=>(eo (hy.le (L6.trans (l7.trans (l8.trans l9)))) hm (by omega)).mono ?_⟩
  rintro r V10 l10 ⟨p5,n5,c5,rfl,g5⟩
  refine ⟨_,_,_,rfl,fun V11 l11=>(fF (g4.le (l9.trans (l10.trans l11))) (g5.le l11) (by omega)).mono ?_⟩
  rintro r V12 l12 ⟨p6,n6,c6,rfl,g6⟩
  rw [ab,ab] at g6
  have FO:=L6.trans (l7.trans (l8.trans (l9.trans (l10.trans (l11.trans l12)))))
  refine ⟨_,_,_,rfl,fun V13 l13=>(e_ (hy.le (FO.trans l13)) hm (by omega)).mono ?_⟩
  rintro r V14 dA ⟨p7,n7,c7,rfl,g7⟩
  refine ⟨_,_,_,_,rfl,fun V15 dS=>(eo (hx.le (FO.trans (l13.trans (dA.trans dS)))) hk (by omega)).mono ?_⟩
  rintro r kG dB ⟨p8,n8,c8,rfl,g8⟩
  refine ⟨_,_,_,rfl,fun nD cU=>(fF (g7.le (dS.trans (dB.trans cU))) (g8.le cU) (by omega)).mono ?_⟩
  rintro r qN dW ⟨p9,n9,c9,rfl,g9⟩
  rw [ab,ab] at g9
  have S1:=l13.trans (dA.trans (dS.trans (dB.trans (cU.trans dW))))
  refine ⟨_,_,_,rfl,fun rG dX=>(wV (g6.le (S1.trans dX)) (g9.le dX) (by omega) (by omega)).mono ?_⟩
  rintro r Cg iI ⟨FM,n10,c10,rfl,g10⟩
  rw [ab,ab] at g10
  refine ⟨_,_,_,rfl,fun rX fA=>(bX false (g10.le fA) (g3.le (l7.trans (l8.trans (l9.trans (l10.trans (l11.trans (l12.trans (S1.trans (dX.trans (iI.trans fA)))))))))) (by omega) (by omega)).mono ?_⟩
  rintro r wE jA h22
  rw [mQ,ab,ab] at h22
  obtain ⟨n,d,p,rfl⟩:=h22.shape
  exact ⟨_,_,_,rfl,fun wF iq=>h22.le iq⟩
 rcases hx with ⟨ex,wx⟩|⟨a,b,p,n,c,p',n',c',ex,-,-,-,-,-,wx⟩
 ·rcases hy with ⟨ey,wy⟩|⟨a,b,p,n,c,p',n',c',ey,-,-,-,-,-,wy⟩
  ·simp only [Value.agg.injEq,Array.mk.injEq,List.cons.injEq,Value.int.injEq,Value.pointer.injEq,true_and,and_true] at ex ey
   obtain ⟨rfl,rfl,rfl⟩:=ex
   obtain ⟨rfl,rfl,rfl⟩:=ey
   obtain ⟨Pj,UY⟩:=wx
   obtain ⟨Pk,UZ⟩:=wy
   refine lF _ _ _ _ _ _ V _ ⟨fun _=>⟨fun _=>⟨fun h1=>⟨fun _ _=>True,⟨fun h2 V1 l1=>?_,fun _=>⟨(),by and_intros<;>rfl,trivial⟩⟩,fun _ V1 l1 _=>⟨by trivial,fun V2 l2=>gen V2 (l1.trans l2)⟩⟩,fun _=>gen⟩,(fun h=>nomatch h)⟩,(fun h=>nomatch h)⟩
   have h1:x.den=1:=by rw [beq_iff_eq] at h1;omega
   have h2:y.den=1:=by rw [beq_iff_eq] at h2;omega
   refine (gQ _ (by omega) (by omega)).mono ?_
   rintro r V2 l2 rfl
   refine ⟨_,rfl,fun V3 l3=>(gQ _ (by omega) (by omega)).mono ?_⟩
   rintro r V4 l4 rfl
   refine ⟨_,rfl,fun V5 l5=>(sG _ _ (by omega) (by omega)).mono ?_⟩
   rintro r V6 l6 rfl
   refine ⟨_,rfl,fun V7 l7=>.inl ?_⟩
   have e:fY x y=((Nat.gcd x.num.natAbs y.num.natAbs:Nat):Int):=by
    unfold fY
    rw [h1,h2,Nat.mul_one,Nat.mul_one,Nat.mul_one]
    exact mkRat_one _
   have hl:Nat.gcd x.num.natAbs y.num.natAbs<4611686018427387904:=by
    rcases Nat.eq_zero_or_pos x.num.natAbs with e|e
    ·rw [e,Nat.gcd_zero_left];exact Pk
    ·exact Nat.lt_of_le_of_lt (Nat.le_of_dvd e (Nat.gcd_dvd_left _ _)) Pj
   rw [e,i64w (by omega)]
   exact ⟨rfl,tE (by rw [Int.natAbs_natCast];exact hl)⟩
  ·simp only [Value.agg.injEq,Array.mk.injEq,List.cons.injEq,Value.int.injEq,Value.pointer.injEq,true_and,and_true] at ex ey
   obtain ⟨rfl,rfl,rfl⟩:=ex
   obtain ⟨rfl,rfl,rfl⟩:=ey
   exact lF _ _ _ _ _ _ V _ ⟨fun _=>⟨(fun h=>nomatch h),fun _=>gen⟩,(fun h=>nomatch h)⟩
 ·simp only [Value.agg.injEq,Array.mk.injEq,List.cons.injEq,Value.int.injEq,Value.pointer.injEq,true_and,and_true] at ex
  obtain ⟨rfl,rfl,rfl⟩:=ex
  exact lF _ _ _ _ _ _ V _ ⟨(fun h=>nomatch h),fun _=>gen⟩
theorem oZ {V:View}{p:OA}{n c x:Nat}(h:RN V p n c x) :
  Acts prog 69 #[.bool false,.slice p n c] V fun r V'=>RI V' r (x:Int):=by
 have:=eE false h
 rwa [if_neg (by decide)] at this
theorem bZ {x:Rat}{k:Nat}(h:Sz k x):(af x.num.natAbs).length<=k/\(af x.den).length<=k/\(af (x.den:Int).natAbs).length<=k:=⟨ae h.1,ae h.2,ae h.2⟩
theorem eF {V:View}{v w:Value}{x y:Rat}(hx:RQ V v x)(hy:RQ V w y){k m:Nat}(hk:Sz k x)(hm:Sz m y)(hkm:k+m<274877906944) :
  Acts prog 65 #[v,w] V fun r V'=>RQ V' r (x+y):=by
 obtain ⟨p,n,c,p',n',c',rfl,hx1,hx2⟩:=hx
 obtain ⟨q,i,e,q',i',e',rfl,hy1,hy2⟩:=hy
 have hlx:=kP hx2
 have xr:=kP hy2
 obtain ⟨b1,b2,b3,b4⟩:=rY hk hm
 obtain ⟨d1,d2,d3⟩:=bZ hk
 obtain ⟨d4,d5,d6⟩:=bZ hm
 have hxy:x+y=mkRat (x.num*y.den+y.num*x.den) (x.den*y.den):=Rat.add_def' x y
 refine (fun tail=>BX _ p n c p' n' c' _ q i e q' i' e' V _ ⟨fun h0=>⟨fun h1 V1 l1=>?_,fun _=>tail⟩,fun _=>tail⟩) ?_
 ·clear tail
  have h0:x.den=1:=hlx.1 (by simp at h0;omega)
  have h1:y.den=1:=xr.1 (by simp at h1;omega)
  refine (oY x.num y.num (hx1.le l1) (hy1.le l1) (by omega) (by omega)).mono ?_
  rintro r V2 l2 ⟨p2,n2,c2,rfl,g⟩
  have e1:x+y=((x.num+y.num:Int):Rat):=by
   rw [hxy,h0,h1];simp [Rat.mkRat_one]
  rw [e1]
  exact ⟨_,_,_,_,rfl,fun V3 l3=>ml (z:=x.num+y.num) (d:=1) rfl rfl (g.le l3) RD.nil rfl⟩
 ·intro V1 l1
  refine (cH y _ (hy2.le l1)).mono ?_
  rintro r V2 l2 ⟨p1,n1,c1,rfl,g1⟩
  refine ⟨_,_,_,rfl,fun V3 l3=>(oZ (g1.le l3)).mono ?_⟩
  rintro r V4 l4 ⟨p3,n3,c3,rfl,g3⟩
  have l04:=l1.trans (l2.trans (l3.trans l4))
  refine ⟨_,_,_,_,rfl,fun V5 l5=>(js x.num y.den (hx1.le (l04.trans l5)) (g3.le l5) (by omega)).mono ?_⟩
  rintro r V6 l6 ⟨p5,n5,c5,rfl,g5⟩
  have Ja:=l04.trans (l5.trans l6)
  refine ⟨_,_,_,_,rfl,fun V7 l7=>(cH x _ (hx2.le (Ja.trans l7))).mono ?_⟩
  rintro r V8 l8 ⟨p7,n7,c7,rfl,g7⟩
  have MI:=Ja.trans (l7.trans l8)
  refine ⟨_,_,_,rfl,fun V9 l9=>(oZ (g7.le l9)).mono ?_⟩
  rintro r V10 l10 ⟨p9,n9,c9,rfl,g9⟩
  have N7:=MI.trans (l9.trans l10)
  refine ⟨_,_,_,_,rfl,fun V11 l11=>(js y.num x.den (hy1.le (N7.trans l11)) (g9.le l11) (by omega)).mono ?_⟩
  rintro r V12 l12 ⟨Jn,n11,c11,rfl,g11⟩
  have CT:=N7.trans (l11.trans l12)
  refine ⟨_,_,_,_,rfl,fun V13 l13=>(oY _ _ (g5.le (l7.trans (l8.trans (l9.trans (l10.trans (l11.trans (l12.trans l13))))))) (g11.le l13) (Nat.le_trans (ae b1) (by omega)) (Nat.le_trans (ae b2) (by omega))).mono ?_⟩
  rintro r V14 dA ⟨YO,n13,c13,rfl,g13⟩
  have GQ:=CT.trans (l13.trans dA)
  refine ⟨_,_,_,_,rfl,fun V15 dS=>(cH x _ (hx2.le (GQ.trans dS))).mono ?_⟩
  rintro r kG dB ⟨YP,n15,c15,rfl,g15⟩
  have LI:=GQ.trans (dS.trans dB)
  refine ⟨_,_,_,rfl,fun nD cU=>(cH y _ (hy2.le (LI.trans cU))).mono ?_⟩
  rintro r qN dW ⟨YQ,n17,c17,rfl,g17⟩
  refine ⟨_,_,_,rfl,fun rG dX=>(bY (g15.le (cU.trans (dW.trans dX))) (g17.le dX) (by omega)).mono ?_⟩
  rintro r Cg iI ⟨YR,n19,c19,rfl,g19⟩
  rw [ab,ab] at g19
  refine ⟨_,_,_,rfl,fun rX fA=>(mH _ (g13.le (dS.trans (dB.trans (cU.trans (dW.trans (dX.trans (iI.trans fA))))))) (g19.le fA) (Nat.le_trans (ae b3) (by omega)) (Nat.le_trans (ae b4) (by omega)) (Nat.mul_ne_zero x.den_nz y.den_nz)).mono ?_⟩
  rw [hxy]
  rintro r wE jA ⟨UI,n21,c21,UJ,n22,Ty,rfl,g21,g22⟩
  exact ⟨_,_,_,_,_,_,_,rfl,fun wF iq=>⟨_,_,_,_,_,_,rfl,g21.le iq,g22.le iq⟩⟩
theorem jt {V:View}{v w:Value}{x y:Rat}(hx:RQ V v x)(hy:RQ V w y){k m:Nat}(hk:Sz k x)(hm:Sz m y)(hkm:k+m<274877906944) :
  Acts prog 102 #[v,w] V fun r V'=>RQ V' r (x-y):=by
 have hx0:=hx
 obtain ⟨p,n,c,p',n',c',rfl,hx1,hx2⟩:=hx
 obtain ⟨q,i,e,q',i',e',rfl,hy1,hy2⟩:=hy
 refine DC _ p n c p' n' c' _ q i e q' i' e' V _ fun V1 l1=>(lL y (hy1.le l1) (hy2.le l1)).mono ?_
 rintro r V2 l2 h2
 obtain ⟨p1,n1,c1,p2,n2,c2,rfl,g1,g2⟩:=id h2
 refine ⟨_,_,_,_,_,_,_,rfl,fun V3 l3=>(eF (hx0.le (l1.trans (l2.trans l3))) (h2.le l3) hk hm.neg hkm).mono ?_⟩
 rw [←Rat.sub_eq_add_neg]
 rintro r V4 l4 ⟨p3,n3,c3,p4,n4,c4,rfl,g3,g4⟩
 exact ⟨_,_,_,_,_,_,_,rfl,fun V5 l5=>⟨_,_,_,_,_,_,rfl,g3.le l5,g4.le l5⟩⟩
theorem nG {V:View}{v w:Value}{x y:Rat}(hx:RQ V v x)(hy:RQ V w y){k m:Nat}(hk:Sz k x)(hm:Sz m y)(hkm:k+m<274877906944) :
  Acts prog 130 #[v,w] V fun r V'=>r=.int .i64 (eG x y):=by
 have hx0:=hx
 have hy0:=hy
 obtain ⟨p,n,c,p',n',c',rfl,hx1,hx2⟩:=hx
 obtain ⟨q,i,e,q',i',e',rfl,hy1,hy2⟩:=hy
 refine H7 _ p n c p' n' c' _ q i e q' i' e' V _ fun V1 l1=>(jt (hx0.le l1) (hy0.le l1) hk hm hkm).mono ?_
 rintro r V2 l2 ⟨p1,n1,c1,p2,n2,c2,rfl,g1,g2⟩
 refine ⟨_,_,_,_,_,_,_,rfl,fun V3 l3=>(rI (x-y) (g1.le l3)).mono ?_⟩
 rintro r V4 l4 rfl
 exact ⟨_,rfl,fun V5 l5=>rfl⟩
theorem aI {V:View}{v w:Value}{x y:Rat}(hx:RQ V v x)(hy:RQ V w y){k m:Nat}(hk:Sz k x)(hm:Sz m y)(hkm:k+m<274877906944) :
  Acts prog 66 #[v,w] V fun r V'=>RQ V' r (x*y):=by
 obtain ⟨p,n,c,p',n',c',rfl,hx1,hx2⟩:=hx
 obtain ⟨q,i,e,q',i',e',rfl,hy1,hy2⟩:=hy
 have hlx:=kP hx2
 have xr:=kP hy2
 obtain ⟨d1,d2,d3⟩:=bZ hk
 obtain ⟨d4,d5,d6⟩:=bZ hm
 have hxy:x*y=mkRat (x.num*y.num) (x.den*y.den):=Rat.mul_def' x y
 have b1:(x.num*y.num).natAbs<2^(k+m):=by rw [Int.natAbs_mul];exact bC hk.1 hm.1
 have b2:x.den*y.den<2^(k+m):=bC hk.2 hm.2
 refine (fun tail=>zx _ p n c p' n' c' _ q i e q' i' e' V _ ⟨fun h0=>⟨fun h1 V1 l1=>?_,fun _=>tail⟩,fun _=>tail⟩) ?_
 ·clear tail
  have h0:x.den=1:=hlx.1 (by simp at h0;omega)
  have h1:y.den=1:=xr.1 (by simp at h1;omega)
  refine (js x.num y.num (hx1.le l1) (hy1.le l1) (by omega)).mono ?_
  rintro r V2 l2 ⟨p2,n2,c2,rfl,g⟩
  have e1:x*y=((x.num*y.num:Int):Rat):=by
   rw [hxy,h0,h1];simp [Rat.mkRat_one]
  rw [e1]
  exact ⟨_,_,_,_,rfl,fun V3 l3=>ml (z:=x.num*y.num) (d:=1) rfl rfl (g.le l3) RD.nil rfl⟩
 ·intro V1 l1
  refine (js x.num y.num (hx1.le l1) (hy1.le l1) (by omega)).mono ?_
  rintro r V2 l2 ⟨p2,n2,c2,rfl,g2⟩
  refine ⟨_,_,_,_,rfl,fun V3 l3=>(cH x _ (hx2.le (l1.trans (l2.trans l3)))).mono ?_⟩
  rintro r V4 l4 ⟨p4,n4,c4,rfl,g4⟩
  refine ⟨_,_,_,rfl,fun V5 l5=>(cH y _ (hy2.le (l1.trans (l2.trans (l3.trans (l4.trans l5)))))).mono ?_⟩
  rintro r V6 l6 ⟨p6,n6,c6,rfl,g6⟩
  refine ⟨_,_,_,rfl,fun V7 l7=>(bY (g4.le (l5.trans (l6.trans l7))) (g6.le l7) (by omega)).mono ?_⟩
  rintro r V8 l8 ⟨p8,n8,c8,rfl,g8⟩
  rw [ab,ab] at g8
  refine ⟨_,_,_,rfl,fun V9 l9=>(mH _ (g2.le (l3.trans (l4.trans (l5.trans (l6.trans (l7.trans (l8.trans l9))))))) (g8.le l9) (Nat.le_trans (ae b1) (by omega)) (Nat.le_trans (ae b2) (by omega)) (Nat.mul_ne_zero x.den_nz y.den_nz)).mono ?_⟩
  rw [hxy]
  rintro r wE jA ⟨UI,n21,c21,UJ,n22,Ty,rfl,g21,g22⟩
  exact ⟨_,_,_,_,_,_,_,rfl,fun wF iq=>⟨_,_,_,_,_,_,rfl,g21.le iq,g22.le iq⟩⟩
end Go.Proofs.Tryz
namespace Go.Eng
open Go.Big
def RP (V:View)(v:Value)(x y:Rat):Prop:=∃p n c p' n' c' q m e q' m' e',v=.agg #[.bool (decide (x.num<0)),.slice p n c,.slice p' n' c',.bool (decide (y.num<0)),.slice q m e,.slice q' m' e'] /\
 RQ V (.agg #[.bool (decide (x.num<0)),.slice p n c,.slice p' n' c']) x/\RQ V (.agg #[.bool (decide (y.num<0)),.slice q m e,.slice q' m' e']) y
theorem RP.le {V V':View}{v:Value}{x y:Rat}(h:RP V v x y)(l:V.Le V'):RP V' v x y:=by
 obtain ⟨p,n,c,p',n',c',q,m,e,q',m',e',rfl,h1,h2⟩:=h
 exact ⟨p,n,c,p',n',c',q,m,e,q',m',e',rfl,h1.le l,h2.le l⟩
theorem RQ.shape {V:View}{v:Value}{q:Rat}(h:RQ V v q):∃p n c p' n' c',v=.agg #[.bool (decide (q.num<0)),.slice p n c,.slice p' n' c']:=by
 obtain ⟨p,n,c,p',n',c',e,-⟩:=h;exact ⟨_,_,_,_,_,_,e⟩
end Go.Eng
namespace Go.Proofs.Tryz
open Go.Eng Go.Big
theorem Ag {V:View}{p:OA}{n c:Nat}{ds:List Nat}(h:RD V p n c ds)(hm:ds.length<=1099511627776) :
  Acts prog 107 #[.slice p n c] V fun r V'=>∃p1 n1 c1,r=.slice p1 n1 c1/\RD V' p1 n1 c1 ds:=by
 have hl:=h.len
 refine zz p n c V _ ⟨ay ds,h.sl,by simp [hl],by omega,by omega,by simp,by simp [hl],?_,?_⟩
 ·intro v hv
  simp only [ay,List.mem_map] at hv
  obtain ⟨d,-,rfl⟩:=hv
  rfl
 ·intro bk J sp c' h1 h2 V1 l1 b hb
  refine ⟨_,_,_,rfl,?_⟩
  simp only [Nat.zero_add,Nat.zero_mul,List.take_zero,List.nil_append] at hb h1 ⊢
  exact copied h.eM hl h1 hb
theorem kM {V:View}{v:Value}{z:Int}(h:RI V v z)(hm:(af z.natAbs).length<=1099511627776) :
  Acts prog 72 #[v] V fun r V'=>RI V' r z:=by
 obtain ⟨p,n,c,rfl,h⟩:=h
 refine zy _ p n c V _ fun V1 l1=>(Ag (h.le l1) hm).mono ?_
 rintro r V2 l2 ⟨p1,n1,c1,rfl,g⟩
 exact ⟨_,_,_,rfl,fun V3 l3=>⟨_,_,_,rfl,g.le l3⟩⟩
theorem sM {V:View}(x y:Int)(h0:-9223372036854775808<=x)(h1:x<=9223372036854775807)(h2:-9223372036854775808<=y)(h3:y<=9223372036854775807) :
  Acts prog 29 #[.int .i64 x,.int .i64 y] V fun r V'=>RP V' r (x:Rat) (y:Rat):=by
 refine B8 x y V _ fun V1 l1=>(nH x h0 h1).mono ?_
 rintro r V2 l2 hx
 obtain ⟨p,n,c,p',n',c',rfl⟩:=hx.shape
 refine ⟨_,_,_,_,_,_,_,rfl,fun V3 l3=>(nH y h2 h3).mono ?_⟩
 rintro r V4 l4 hy
 obtain ⟨q,m,e,q',m',e',rfl⟩:=hy.shape
 exact ⟨_,_,_,_,_,_,_,rfl,fun V5 l5=>⟨_,_,_,_,_,_,_,_,_,_,_,_,rfl,hx.le (l3.trans (l4.trans l5)),hy.le l5⟩⟩
theorem qf {V:View}{u v w:Value}{px py c qx qy:Rat}(hp:RP V u px py)(hc:RQ V v c)(hq:RP V w qx qy){k m:Nat}(s1:Sz k px)(s2:Sz k py)(s3:Sz m c)(s4:Sz m qx)(s5:Sz m qy)(hkm:k+(m+m+1)<274877906944) :
  Acts prog 91 #[u,v,w] V fun r V'=>RP V' r (px+c*qx) (py+c*qy):=by
 obtain ⟨p1,n1,c1,p2,n2,c2,p3,n3,c3,p4,n4,c4,rfl,hp1,hp2⟩:=hp
 obtain ⟨p5,n5,c5,p6,n6,c6,rfl⟩:=hc.shape
 obtain ⟨q1,m1,e1,q2,m2,e2,q3,m3,e3,q4,m4,e4,rfl,hq1,hq2⟩:=hq
 refine zA _ p1 n1 c1 p2 n2 c2 _ p3 n3 c3 p4 n4 c4 _ p5 n5 c5 p6 n6 c6 _ q1 m1 e1 q2 m2 e2 _ q3 m3 e3 q4 m4 e4 V _ fun V1 l1=>(aI (hc.le l1) (hq1.le l1) s3 s4 (by omega)).mono ?_
 rintro r V2 l2 g1
 obtain ⟨a1,a2,a3,a4,a5,a6,rfl⟩:=g1.shape
 refine ⟨_,_,_,_,_,_,_,rfl,fun V3 l3=>(eF (hp1.le (l1.trans (l2.trans l3))) (g1.le l3) s1 (s3.mul s4) (by omega)).mono ?_⟩
 rintro r V4 l4 g2
 obtain ⟨b1,b2,b3,b4,b5,b6,rfl⟩:=g2.shape
 have l04:=l1.trans (l2.trans (l3.trans l4))
 refine ⟨_,_,_,_,_,_,_,rfl,fun V5 l5=>(aI (hc.le (l04.trans l5)) (hq2.le (l04.trans l5)) s3 s5 (by omega)).mono ?_⟩
 rintro r V6 l6 g3
 obtain ⟨d1,d2,d3,d4,d5,d6,rfl⟩:=g3.shape
 refine ⟨_,_,_,_,_,_,_,rfl,fun V7 l7=>(eF (hp2.le (l04.trans (l5.trans (l6.trans l7)))) (g3.le l7) s2 (s3.mul s5) (by omega)).mono ?_⟩
 rintro r V8 l8 g4
 obtain ⟨f1,f2,f3,f4,f5,f6,rfl⟩:=g4.shape
 exact ⟨_,_,_,_,_,_,_,rfl,fun V9 l9=>⟨_,_,_,_,_,_,_,_,_,_,_,_,rfl,g2.le (l5.trans (l6.trans (l7.trans (l8.trans l9)))),g4.le l9⟩⟩
theorem JK:Sz 1 ((-1:Int):Rat):=by unfold Sz;decide
theorem Ah {V:View}{u w:Value}{px py qx qy:Rat}(hp:RP V u px py)(hq:RP V w qx qy){k m:Nat}(s1:Sz k px)(s2:Sz k py)(s4:Sz m qx)(s5:Sz m qy)(hm:1<=m)(hkm:k+(m+m+1)<274877906944) :
  Acts prog 63 #[u,w] V fun r V'=>RP V' r (px-qx) (py-qy):=by
 have hp0:=hp
 have hq0:=hq
 obtain ⟨p1,n1,c1,p2,n2,c2,p3,n3,c3,p4,n4,c4,rfl,-,-⟩:=hp
 obtain ⟨q1,m1,e1,q2,m2,e2,q3,m3,e3,q4,m4,e4,rfl,-,-⟩:=hq
 refine zG _ p1 n1 c1 p2 n2 c2 _ p3 n3 c3 p4 n4 c4 _ q1 m1 e1 q2 m2 e2 _ q3 m3 e3 q4 m4 e4 V _ fun V1 l1=>(nH (-1) (by omega) (by omega)).mono ?_
 rintro r V2 l2 g1
 obtain ⟨a1,a2,a3,a4,a5,a6,rfl⟩:=g1.shape
 have l02:=l1.trans l2
 refine ⟨_,_,_,_,_,_,_,rfl,fun V3 l3=>(qf (hp0.le (l02.trans l3)) (g1.le l3) (hq0.le (l02.trans l3)) s1 s2 (JK.mono hm) s4 s5 hkm).mono ?_⟩
 have e1:∀a b:Rat,a+((-1:Int):Rat)*b=a-b:=by
  intro a b
  have:((-1:Int):Rat)=-1:=rfl
  rw [this,Rat.neg_mul,Rat.one_mul,Rat.sub_eq_add_neg]
 rw [e1,e1]
 rintro r V4 l4 ⟨b1,b2,b3,b4,b5,b6,b7,b8,b9,b10,b11,b12,rfl,g2,g3⟩
 exact ⟨_,_,_,_,_,_,_,_,_,_,_,_,_,_,rfl,fun V5 l5=>⟨_,_,_,_,_,_,_,_,_,_,_,_,rfl,g2.le l5,g3.le l5⟩⟩
theorem yo {V:View}{u w:Value}{px py qx qy:Rat}(hp:RP V u px py)(hq:RP V w qx qy){k m:Nat}(s1:Sz k px)(s2:Sz k py)(s4:Sz m qx)(s5:Sz m qy)(hkm:k+m<274877906944) :
  Acts prog 135 #[u,w] V fun r V'=>r=.bool (decide (px=qx/\py=qy)):=by
 obtain ⟨p1,n1,c1,p2,n2,c2,p3,n3,c3,p4,n4,c4,rfl,hp1,hp2⟩:=hp
 obtain ⟨q1,m1,e1,q2,m2,e2,q3,m3,e3,q4,m4,e4,rfl,hq1,hq2⟩:=hq
 refine wg _ p1 n1 c1 p2 n2 c2 _ p3 n3 c3 p4 n4 c4 _ q1 m1 e1 q2 m2 e2 _ q3 m3 e3 q4 m4 e4 V _ fun V1 l1=>(nG (hp1.le l1) (hq1.le l1) s1 s4 hkm).mono ?_
 rintro r V2 l2 rfl
 refine ⟨_,rfl,fun h0 V3 l3=>(nG (hp2.le (l1.trans (l2.trans l3))) (hq2.le (l1.trans (l2.trans l3))) s2 s5 hkm).mono ?_,fun h0 V3 l3=>?_⟩
 ·have h0:px=qx:=iD.2 (by simpa using h0)
  rintro r V4 l4 rfl
  refine ⟨_,rfl,fun V5 l5=>?_⟩
  congr 1
  rw [Bool.eq_iff_iff,decide_eq_true_eq,beq_iff_eq,←iD]
  exact ⟨fun h=>⟨h0,h⟩,fun h=>h.2⟩
 ·have h0:¬px=qx:=fun e=>by rw [iD.1 e] at h0;simp at h0
  rw [decide_eq_false fun h=>h0 h.1]
end Go.Proofs.Tryz
namespace Go.Eng
open Go.Big
def RL (V:View)(v:Value)(a b c:Int):Prop:=∃p n s p' n' s' q m e,v=.agg #[.bool (decide (a<0)),.slice p n s,.bool (decide (b<0)),.slice p' n' s',.bool (decide (c<0)),.slice q m e] /\
 RD V p n s (af a.natAbs)/\RD V p' n' s' (af b.natAbs)/\RD V q m e (af c.natAbs)
theorem RL.le {V V':View}{v:Value}{a b c:Int}(h:RL V v a b c)(l:V.Le V'):RL V' v a b c:=by
 obtain ⟨p,n,s,p',n',s',q,m,e,rfl,h1,h2,h3⟩:=h
 exact ⟨p,n,s,p',n',s',q,m,e,rfl,h1.le l,h2.le l,h3.le l⟩
end Go.Eng
namespace Go.Proofs.Tryz
open Go.Eng Go.Big
theorem vr {V:View}{p q:OA}{n c m e:Nat}{xs ys:List Nat}(hx:RD V p n c xs)(hy:RD V q m e ys)(hm:xs.length<=1099511627776) :
  Acts prog 180 #[.slice p n c,.slice q m e] V fun r V'=>r=.bool (decide (xs=ys)):=by
 have hlx:=hx.len
 have xr:=hy.len
 refine uO p n c q m e V _ ⟨fun h0 V1 l1=>?_,fun h0=>?_⟩
 ·have h0:n≠m:=by simp at h0;omega
  rw [decide_eq_false fun h=>h0 (by rw [hlx,xr,h])]
 ·have h0:n=m:=by simp at h0;omega
  refine ⟨fun z V'=>0<=z/\z<=n/\xs.take z.toNat=ys.take z.toNat,fun z=>n-z.toNat,⟨0,by (try dsimp only);and_intros<;>first|exact True.intro|rfl,by (try dsimp only);omega,by (try dsimp only);omega,rfl⟩,?_⟩
  rintro i V2 l2 ⟨hi0,hi1,ht⟩
  dsimp only at hi1 ht ⊢
  obtain ⟨i,rfl⟩:=Int.eq_ofNat_of_zero_le hi0
  simp only [Int.toNat_natCast] at ht
  refine ⟨by trivial,fun h3=>?_,fun h3 V4 l4=>?_⟩
  ·have h3:i<n:=by simpa using h3
   refine (hx.le l2).rd i rfl (by omega) ((hy.le l2).rd i rfl (by omega) ⟨fun h4 V8 l8=>?_,fun h4=>?_⟩)
   ·have h4:xs[i]≠ys[i]:=by simp at h4;omega
    rw [decide_eq_false fun h=>h4 (by subst h;rfl)]
   ·have h4:xs[i]=ys[i]:=by simp at h4;omega
    have w:i64.wrap ((i:Int)+1)=((i+1:Nat):Int):=by rw [i64w (by omega)];omega
    simp only [w]
    refine ⟨((i+1:Nat):Int),?_,by (try dsimp only);and_intros<;>first|exact True.intro|rfl,by (try dsimp only);omega,by (try dsimp only);omega,?_⟩
    ·(try dsimp only);omega
    ·(try dsimp only)
     simp only [Int.toNat_natCast]
     rw [List.take_succ_eq_append_getElem (by omega),List.take_succ_eq_append_getElem (l:=ys) (by omega),ht,h4]
  ·have h3:i=n:=by simp at h3;omega
   rw [List.take_of_length_le (by omega),List.take_of_length_le (by omega)] at ht
   rw [decide_eq_true ht]
theorem HP {z w:Int}:(decide (z<0)==decide (w<0))=true->(decide (af z.natAbs=af w.natAbs)=decide (z=w)):=by
 intro h
 have h1:(z<0↔w<0):=by simpa using h
 rw [Bool.eq_iff_iff,decide_eq_true_eq,decide_eq_true_eq]
 constructor
 ·intro h2
  have:=nN h2
  omega
 ·intro h2;rw [h2]
theorem iV {V:View}{z w:Int}{p q:OA}{n c m e:Nat}(hx:RD V p n c (af z.natAbs))(hy:RD V q m e (af w.natAbs))(hm:(af z.natAbs).length<=1099511627776) :
  Acts prog 143 #[.agg #[.bool (decide (z<0)),.slice p n c],.agg #[.bool (decide (w<0)),.slice q m e]] V fun r V'=>r=.bool (decide (z=w)):=by
 refine uN _ p n c _ q m e V _ ⟨fun h0 V1 l1=>(vr (hx.le l1) (hy.le l1) hm).mono ?_,fun h0 V1 l1=>?_⟩
 ·rintro r V2 l2 rfl
  refine ⟨_,rfl,fun V3 l3=>?_⟩
  rw [HP h0]
 ·rw [decide_eq_false fun h=>by subst h;simp at h0]
theorem vy {V:View}{v w:Value}{a b c a' b' c':Int}(hx:RL V v a b c)(hy:RL V w a' b' c')(h1:(af a.natAbs).length<=1099511627776)(h2:(af b.natAbs).length<=1099511627776)(h3:(af c.natAbs).length<=1099511627776) :
  Acts prog 101 #[v,w] V fun r V'=>r=.bool (decide (a=a'/\b=b'/\c=c')):=by
 obtain ⟨p,n,s,p',n',s',q,m,e,rfl,x1,x2,x3⟩:=hx
 obtain ⟨i,j,k,i',j',k',i2,j2,k2,rfl,y1,y2,y3⟩:=hy
 refine uU _ p n s _ p' n' s' _ q m e _ i j k _ i' j' k' _ i2 j2 k2 V _ fun V1 l1=>(iV (x1.le l1) (y1.le l1) h1).mono ?_
 rintro r V2 l2 rfl
 refine ⟨_,rfl,fun g1 V3 l3=>(iV (x2.le (l1.trans (l2.trans l3))) (y2.le (l1.trans (l2.trans l3))) h2).mono ?_,fun g1 V9 l9=>?_⟩
 ·rintro r V4 l4 rfl
  rw [decide_eq_true_eq] at g1
  refine ⟨_,rfl,fun g2 V5 l5=>(iV (x3.le (l1.trans (l2.trans (l3.trans (l4.trans l5))))) (y3.le (l1.trans (l2.trans (l3.trans (l4.trans l5))))) h3).mono ?_,fun g2 V8 l8=>?_⟩
  ·rintro r V6 l6 rfl
   rw [decide_eq_true_eq] at g2
   refine ⟨_,rfl,fun V7 l7=>?_⟩
   congr 1
   rw [Bool.eq_iff_iff,decide_eq_true_eq,decide_eq_true_eq]
   exact ⟨fun h=>⟨g1,g2,h⟩,fun h=>h.2.2⟩
  ·rw [decide_eq_false_iff_not] at g2
   rw [decide_eq_false fun h=>g2 h.2.1]
 ·rw [decide_eq_false_iff_not] at g1
  rw [decide_eq_false fun h=>g1 h.1]
theorem qh {V:View}{v:Value}{a b c:Int}(hx:RL V v a b c)(h1:(af a.natAbs).length<=1099511627776)(h2:(af b.natAbs).length<=1099511627776)(h3:(af c.natAbs).length<=1099511627776) :
  Acts prog 30 #[v] V fun r V'=>RL V' r a b c:=by
 obtain ⟨p,n,s,p',n',s',q,m,e,rfl,x1,x2,x3⟩:=hx
 refine zH _ p n s _ p' n' s' _ q m e V _ fun V1 l1=>(kM ⟨_,_,_,rfl,x1.le l1⟩ h1).mono ?_
 rintro r V2 l2 ⟨p1,n1,c1,rfl,g1⟩
 refine ⟨_,_,_,_,rfl,fun V3 l3=>(kM ⟨_,_,_,rfl,x2.le (l1.trans (l2.trans l3))⟩ h2).mono ?_⟩
 rintro r V4 l4 ⟨p2,n2,c2,rfl,g2⟩
 refine ⟨_,_,_,_,rfl,fun V5 l5=>(kM ⟨_,_,_,rfl,x3.le (l1.trans (l2.trans (l3.trans (l4.trans l5))))⟩ h3).mono ?_⟩
 rintro r V6 l6 ⟨p3,n3,c3,rfl,g3⟩
 exact ⟨_,_,_,_,rfl,fun V7 l7=>⟨_,_,_,_,_,_,_,_,_,rfl,g1.le (l3.trans (l4.trans (l5.trans (l6.trans l7)))),g2.le (l5.trans (l6.trans l7)),g3.le l7⟩⟩
theorem th {z:Int}{g:Nat}(hg:0<g)(hd:g∣z.natAbs):(if decide (z<0)=true then -((z.natAbs / g:Nat):Int) else ((z.natAbs / g:Nat):Int))=z / (g:Int):=by
 obtain ⟨k,hk⟩:=hd
 have hk1:z.natAbs / g=k:=by rw [hk,Nat.mul_div_cancel_left _ hg]
 rw [hk1]
 have hz:z=(g:Int)*(if decide (z<0)=true then -(k:Int) else k):=by
  split
  ·rename_i h
   rw [decide_eq_true_eq] at h
   rw [Int.mul_neg,←Int.natCast_mul,←hk];omega
  ·rename_i h
   rw [decide_eq_true_eq] at h
   rw [←Int.natCast_mul,←hk];omega
 generalize (if decide (z<0)=true then -(k:Int) else k)=t at *
 rw [hz,Int.mul_ediv_cancel_left _ (by omega)]
def gW (a b c:Int):Nat:=Nat.gcd (Nat.gcd a.natAbs b.natAbs) c.natAbs
theorem vv {V:View}{u v w:Value}{a b c:Int}(ha:RI V u a)(hb:RI V v b)(hc:RI V w c)(h1:(af a.natAbs).length<=274877906944)(h2:(af b.natAbs).length<=274877906944)(h3:(af c.natAbs).length<=274877906944) :
  Acts prog 70 #[u,v,w] V fun r V'=>(a=0/\b=0->∃l,r=.tuple #[l,.bool false]/\RL V' l 0 0 0) /\
   (¬(a=0/\b=0)->∃l,r=.tuple #[l,.bool true]/\RL V' l (a / (gW a b c:Int)) (b / (gW a b c:Int)) (c / (gW a b c:Int))):=by
 obtain ⟨p,n,s,rfl,ha⟩:=ha
 obtain ⟨p',n',s',rfl,hb⟩:=hb
 obtain ⟨q,m,e,rfl,hc⟩:=hc
 refine uR _ p n s _ p' n' s' _ q m e V _ fun V1 l1=>(j7 (ha.le l1) (hb.le l1) h1 h2).mono ?_
 rintro r V2 l2 ⟨p1,n1,c1,rfl,g1⟩
 have hp:=fm g1.len
 have hab:Nat.gcd a.natAbs b.natAbs=0↔a=0/\b=0:=by rw [Nat.gcd_eq_zero_iff];omega
 refine ⟨_,_,_,rfl,fun h0 V3 l3=>⟨fun _=>⟨_,rfl,_,_,_,_,_,_,_,_,_,rfl,RD.nil,RD.nil,RD.nil⟩,fun h=>?_⟩,fun h0 V4 l4=>?_⟩
 ·exact absurd (hab.1 (by simp at h0;omega)) h
 have hne:¬(a=0/\b=0):=fun h=>by have:=hab.2 h;simp at h0;omega
 have hg0:0<Nat.gcd a.natAbs b.natAbs:=by have:=hab;omega
 have hgl:(af (Nat.gcd a.natAbs b.natAbs)).length<=274877906944:=by
  rcases Nat.eq_zero_or_pos a.natAbs with h|h
  ·rw [h,Nat.gcd_zero_left];exact h2
  ·exact Nat.le_trans (aB (Nat.gcd_le_left _ h)) h1
 refine (j7 (g1.le l4) (hc.le (l1.trans (l2.trans l4))) hgl h3).mono ?_
 rintro r V5 l5 ⟨p2,n2,c2,rfl,g2⟩
 have l05:=l1.trans (l2.trans (l4.trans l5))
 have e3:Nat.gcd (Nat.gcd a.natAbs b.natAbs) c.natAbs=gW a b c:=rfl
 have hG0:0<gW a b c:=Nat.gcd_pos_of_pos_left _ hg0
 have ME:(af (gW a b c)).length<=274877906944:=Nat.le_trans (aB (Nat.gcd_le_left _ hg0)) hgl
 have da:gW a b c∣a.natAbs:=Nat.dvd_trans (Nat.gcd_dvd_left _ _) (Nat.gcd_dvd_left _ _)
 have db:gW a b c∣b.natAbs:=Nat.dvd_trans (Nat.gcd_dvd_left _ _) (Nat.gcd_dvd_right _ _)
 have dc:gW a b c∣c.natAbs:=Nat.gcd_dvd_right _ _
 have sa:=th hG0 da
 have sb:=th hG0 db
 have sc:=th hG0 dc
 rw [e3] at g2
 generalize gW a b c=G at *
 refine ⟨_,_,_,rfl,fun V6 l6=>(dH (ha.le (l05.trans l6)) (g2.le l6) h1 ME hG0).mono ?_⟩
 rintro r V7 l7 ⟨p3,n3,c3,p4,n4,c4,rfl,g3,-⟩
 have Jb:=l6.trans l7
 refine ⟨_,_,_,_,_,_,rfl,fun V8 l8=>(dH (hb.le (l05.trans (Jb.trans l8))) (g2.le (Jb.trans l8)) h2 ME hG0).mono ?_⟩
 rintro r V9 l9 ⟨p5,n5,c5,p6,n6,c6,rfl,g5,-⟩
 have Uu:=Jb.trans (l8.trans l9)
 refine ⟨_,_,_,_,_,_,rfl,fun V10 l10=>(dH (hc.le (l05.trans (Uu.trans l10))) (g2.le (Uu.trans l10)) h3 ME hG0).mono ?_⟩
 rintro r V11 l11 ⟨p7,n7,c7,p8,n8,c8,rfl,g7,-⟩
 refine ⟨_,_,_,_,_,_,rfl,fun V12 l12=>(eE _ (g3.le (l8.trans (l9.trans (l10.trans (l11.trans l12)))))).mono ?_⟩
 rw [sa]
 rintro r V13 l13 ⟨p9,n9,c9,rfl,g9⟩
 refine ⟨_,_,_,_,rfl,fun V14 dA=>(eE _ (g5.le (l10.trans (l11.trans (l12.trans (l13.trans dA)))))).mono ?_⟩
 rw [sb]
 rintro r V15 dS ⟨FM,n10,c10,rfl,g10⟩
 refine ⟨_,_,_,_,rfl,fun kG dB=>(eE _ (g7.le (l12.trans (l13.trans (dA.trans (dS.trans dB)))))).mono ?_⟩
 rw [sc]
 rintro r nD cU ⟨Jn,n11,c11,rfl,g11⟩
 refine ⟨_,_,_,_,rfl,fun qN dW=>⟨fun h=>absurd h hne,fun _=>⟨_,rfl,_,_,_,_,_,_,_,_,_,rfl,?_,?_,?_⟩⟩⟩
 ·exact g9.le (dA.trans (dS.trans (dB.trans (cU.trans dW))))
 ·exact g10.le (dB.trans (cU.trans dW))
 ·exact g11.le dW
abbrev L3:=Int×Int×Int
def okL (x:L3):Bool:=decide (¬(x.1=0/\x.2.1=0))&&decide (gW x.1 x.2.1 x.2.2=1)
def Bd (x:L3):Prop:=x.1.natAbs<2^1000/\x.2.1.natAbs<2^1000/\x.2.2.natAbs<2^1000
inductive Tr where
 | leaf (i:Bool)|node (l:L3) (a b:Tr)
 deriving DecidableEq
structure Nd where
 ln:L3
 left:Int
 right:Int
 deriving DecidableEq
def Tr.size:Tr->Nat
 | .leaf _=>0
 | .node _ a b=>a.size+b.size+1
def Tr.LD:Tr->Bool
 | .leaf _=>true
 | .node ..=>false
def Tr.All (p:L3->Prop):Tr->Prop
 | .leaf _=>True
 | .node l a b=>p l/\a.All p/\b.All p
theorem Tr.All.imp {p q:L3->Prop}(h:∀x,p x->q x):∀{t:Tr},t.All p->t.All q
 | .leaf _,_=>trivial
 | .node _ _ _,⟨h1,h2,h3⟩=>⟨h _ h1,Tr.All.imp h h2,Tr.All.imp h h3⟩
def rt (k:Nat):Tr->Int
 | .leaf i=>if i then -2 else -1
 | .node ..=>(k:Int)
def wr:Nat->Tr->List Nd
 | _,.leaf _=>[]
 | k,.node l a b=>⟨l,rt (k+1) a,rt (k+1+a.size) b⟩::(wr (k+1) a++wr (k+1+a.size) b)
theorem dN:∀(t:Tr)(k:Nat),(wr k t).length=t.size
 | .leaf _,_=>rfl
 | .node _ a b,k=>by simp only [wr,List.length_cons,List.length_append,dN a,dN b,Tr.size]
def MP (l:List Nd):Int->Tr->List Nat->Prop
 | n,.leaf i,I=>n=(if i then -2 else -1)/\I=[]
 | n,.node ln a b,I=>∃(k:Nat)(x:Nd)(A B:List Nat),n=(k:Int)/\l[k]?=some x/\x.ln=ln/\MP l x.left a A/\MP l x.right b B/\I=k::(A++B)
theorem Dd:∀(t:Tr)(l pre post:List Nd)(k:Nat),l=pre++(wr k t++post)->pre.length=k->MP l (rt k t) t (List.range' k t.size)
 | .leaf i,l,pre,post,k,_,_=>⟨rfl,rfl⟩
 | .node ln a b,l,pre,post,k,hl,hp=>by
  refine ⟨k,⟨ln,rt (k+1) a,rt (k+1+a.size) b⟩,List.range' (k+1) a.size,List.range' (k+1+a.size) b.size,rfl,?_,rfl,?_,?_,?_⟩
  ·subst hl
   rw [List.getElem?_append_right (by omega)]
   simp [hp,wr]
  ·refine Dd a l (pre++[⟨ln,rt (k+1) a,rt (k+1+a.size) b⟩]) (wr (k+1+a.size) b++post) (k+1) ?_ (by simp [hp])
   rw [hl];simp [wr]
  ·refine Dd b l (pre++(⟨ln,rt (k+1) a,rt (k+1+a.size) b⟩::wr (k+1) a)) post (k+1+a.size) ?_ (by simp [hp,dN];omega)
   rw [hl];simp [wr]
  ·simp only [Tr.size]
   rw [List.range'_succ,←List.range'_append_1]
structure RS where
 seen:List Bool
 ji:Nat
 bad:Bool
def di (l:List Nd):Nat->Int->RS->Tr×RS
 | 0,_,s=>(.leaf false,s)
 | f+1,n,s=>
  if n=-2 then (.leaf true,s) else if n=-1 then (.leaf false,s) else if n<0 then (.leaf false,{ s with bad:=true })
  else match l[n.toNat]?,s.seen[n.toNat]? with
   | some x,some false=>
    if okL x.ln then
     let r1:=di l f x.left ⟨s.seen.set n.toNat true,s.ji+1,s.bad⟩
     let r2:=di l f x.right r1.2
     (.node x.ln r1.1 r2.1,r2.2)
    else (.leaf false,⟨s.seen.set n.toNat true,s.ji+1,true⟩)
   | _,_=>(.leaf false,{ s with bad:=true })
theorem count_set {l:List Bool}{k:Nat}(h:l[k]?=some false):(l.set k true).count false+1=l.count false:=by
 induction l generalizing k with
 | nil=>simp at h
 | cons x r ih=>
  cases k with
  | zero=>simp at h;subst h;simp
  | succ k=>
   simp at h
   have:=ih h
   simp only [List.set_cons_succ,List.count_cons]
   omega
theorem oa (l:List Nd):∀(f:Nat)(n:Int)(s:RS),(di l f n s).2.seen.count false<=s.seen.count false/\(di l f n s).2.seen.length=s.seen.length
 | 0,_,_=>⟨Nat.le_refl _,rfl⟩
 | f+1,n,s=>by
  simp only [di]
  split
  ·exact ⟨Nat.le_refl _,rfl⟩
  ·split
   ·exact ⟨Nat.le_refl _,rfl⟩
   ·split
    ·exact ⟨Nat.le_refl _,rfl⟩
    ·split
     ·rename_i x hx hs
      have hc:=count_set hs
      split
      ·obtain ⟨h1,h2⟩:=oa l f x.left ⟨s.seen.set n.toNat true,s.ji+1,s.bad⟩
       obtain ⟨h3,h4⟩:=oa l f x.right (di l f x.left ⟨s.seen.set n.toNat true,s.ji+1,s.bad⟩).2
       dsimp only at h1 h2 h3 h4 ⊢
       exact ⟨by omega,by rw [h4,h2,List.length_set]⟩
      ·dsimp only;exact ⟨by omega,by simp⟩
     ·exact ⟨Nat.le_refl _,rfl⟩
theorem rQ (l:List Nd):∀(f:Nat)(n:Int)(s:RS),(di l f n s).2.ji+(di l f n s).2.seen.count false=s.ji+s.seen.count false
 | 0,_,_=>rfl
 | f+1,n,s=>by
  simp only [di]
  split
  ·rfl
  ·split
   ·rfl
   ·split
    ·rfl
    ·split
     ·rename_i x hx hs
      have hc:=count_set hs
      split
      ·have h1:=rQ l f x.left ⟨s.seen.set n.toNat true,s.ji+1,s.bad⟩
       have h3:=rQ l f x.right (di l f x.left ⟨s.seen.set n.toNat true,s.ji+1,s.bad⟩).2
       dsimp only at h1 h3 ⊢
       omega
      ·dsimp only;omega
     ·rfl
theorem yT {p:L3->Prop}{l:List Nd}(hl:∀x∈l,p x.ln):∀(f:Nat)(n:Int)(s:RS),(di l f n s).1.All p
 | 0,_,_=>trivial
 | f+1,n,s=>by
  simp only [di]
  split
  ·trivial
  ·split
   ·trivial
   ·split
    ·trivial
    ·split
     ·rename_i x hx hs
      split
      ·exact ⟨hl x (List.mem_of_getElem? hx),yT hl f _ _,yT hl f _ _⟩
      ·trivial
     ·trivial
theorem tZ (l:List Nd):∀(f:Nat)(n:Int)(s:RS),(di l f n s).1.size+s.ji<=(di l f n s).2.ji
 | 0,_,_=>by simp [di,Tr.size]
 | f+1,n,s=>by
  simp only [di]
  split
  ·simp [Tr.size]
  ·split
   ·simp [Tr.size]
   ·split
    ·simp [Tr.size]
    ·split
     ·split
      ·rename_i x hx hs hok
       have h1:=tZ l f x.left ⟨s.seen.set n.toNat true,s.ji+1,s.bad⟩
       have h3:=tZ l f x.right (di l f x.left ⟨s.seen.set n.toNat true,s.ji+1,s.bad⟩).2
       dsimp only at h1 h3 ⊢
       simp only [Tr.size]
       omega
      ·simp [Tr.size]
     ·simp [Tr.size]
def mU (s:List Bool)(I:List Nat):List Bool:=I.foldl (fun s k=>s.set k true) s
theorem uh:∀(I:List Nat)(s:List Bool)(k:Nat),k∉I->(mU s I)[k]?=s[k]?
 | [],_,_,_=>rfl
 | i::r,s,k,h=>by
  have:=uh r (s.set i true) k (fun h'=>h (List.mem_cons_of_mem _ h'))
  unfold mU at this ⊢
  rw [List.foldl_cons,this,List.getElem?_set_ne (fun e=>h (by simp [e]))]
theorem yW (l:List Nd):∀(t:Tr)(f:Nat)(n:Int)(s:RS)(I:List Nat),MP l n t I->I.Nodup->(∀k∈I,s.seen[k]?=some false)->t.All (fun x=>okL x=true)->t.size<f->di l f n s=(t,⟨mU s.seen I,s.ji+t.size,s.bad⟩)
 | .leaf i,f,n,s,I,⟨h1,h2⟩,_,_,_,hf=>by
  subst h2
  obtain ⟨f,rfl⟩:∃g,f=g+1:=⟨f-1,by simp [Tr.size] at hf;omega⟩
  cases i with
  | true=>simp only [if_true] at h1;subst h1;simp [di,mU,Tr.size]
  | false=>
   have h1:n=-1:=by simpa using h1
   subst h1;simp [di,mU,Tr.size]
 | .node ln a b,f,n,s,I,⟨k,x,A,B,h1,h2,h3,h4,h5,h6⟩,hnd,hun,hok,hf=>by
  subst h1 h3 h6
  obtain ⟨f,rfl⟩:∃g,f=g+1:=⟨f-1,by simp [Tr.size] at hf;omega⟩
  rw [List.nodup_cons,List.nodup_append] at hnd
  obtain ⟨hk,hA,hB,Wn⟩:=hnd
  have hks:=hun k (by simp)
  simp only [Tr.size] at hf
  have e1:=yW l a f x.left ⟨s.seen.set k true,s.ji+1,s.bad⟩ A h4 hA (fun j hj=>by
   have:k≠j:=fun e=>hk (by rw [e];simp [hj])
   dsimp only
   rw [List.getElem?_set_ne this]
   exact hun j (by simp [hj])) hok.2.1 (by omega)
  have e2:=yW l b f x.right ⟨mU (s.seen.set k true) A,s.ji+1+a.size,s.bad⟩ B h5 hB (fun j hj=>by
   have:k≠j:=fun e=>hk (by rw [e];simp [hj])
   dsimp only
   rw [uh A _ j (fun h=>Wn j h j hj rfl),List.getElem?_set_ne this]
   exact hun j (by simp [hj])) hok.2.2 (by omega)
  have hn1:¬((k:Int)=-2):=by omega
  have hn2:¬((k:Int)=-1):=by omega
  have WK:¬((k:Int)<0):=by omega
  have e0:di l (f+1) (k:Int) s=(.node x.ln (di l f x.left ⟨s.seen.set k true,s.ji+1,s.bad⟩).1 (di l f x.right (di l f x.left ⟨s.seen.set k true,s.ji+1,s.bad⟩).2).1,(di l f x.right (di l f x.left ⟨s.seen.set k true,s.ji+1,s.bad⟩).2).2):=by
   rw [di]
   rw [if_neg hn1,if_neg hn2,if_neg WK]
   simp only [Int.toNat_natCast,h2,hks,hok.1,if_true]
  rw [e0,e1]
  dsimp only
  rw [e2]
  simp only [mU,List.foldl_cons,List.foldl_append,Tr.size,Prod.mk.injEq,RS.mk.injEq,true_and]
  first|omega|exact ⟨by omega,trivial⟩
def ofT (l:List Nd)(root:Int):Option Tr:=
 if 65536<l.length then none else
 let r:=di l (l.length+1) root ⟨List.replicate l.length false,0,false⟩
 if r.2.bad=true\/r.2.ji≠l.length then none else some r.1
theorem Jj {l:List Nd}{n:Int}{t:Tr}{I:List Nat}(h:MP l n t I)(hn:I.Nodup)(hI:∀k∈I,k<l.length)(hs:t.size=l.length)(hok:t.All fun x=>okL x=true)(hl:l.length<=65536):ofT l n=some t:=by
 unfold ofT
 rw [if_neg (by omega)]
 rw [yW l t (l.length+1) n _ I h hn (fun k hk=>by simp [hI k hk]) hok (by omega)]
 simp [hs]
theorem LX {t:Tr}(hok:t.All fun x=>okL x=true)(hl:t.size<=65536):ofT (wr 0 t) (rt 0 t)=some t:=by
 have h:=Dd t (wr 0 t) [] [] 0 (by simp) rfl
 refine Jj h List.nodup_range' (fun k hk=>?_) (dN t 0).symm hok (by rw [dN];exact hl)
 rw [dN]
 have:=List.mem_range'_1.1 hk
 omega
theorem ofT_all {p:L3->Prop}{l:List Nd}{n:Int}{t:Tr}(hl:∀x∈l,p x.ln)(h:ofT l n=some t):t.All p:=by
 unfold ofT at h
 split at h
 ·cases h
 ·dsimp only at h
  split at h
  ·cases h
  ·cases h;exact yT hl _ _ _
theorem ofT_size {l:List Nd}{n:Int}{t:Tr}(h:ofT l n=some t):t.size<=65536:=by
 unfold ofT at h
 split at h
 ·cases h
 ·dsimp only at h
  split at h
  ·cases h
  ·rename_i h1 h2
   cases h
   have:=tZ l (l.length+1) n ⟨List.replicate l.length false,0,false⟩
   dsimp only at this
   have h3:(di l (l.length+1) n ⟨List.replicate l.length false,0,false⟩).2.ji=l.length:=by
    rcases Nat.lt_or_ge 0 1 with _|h
    ·by_cases e:(di l (l.length+1) n ⟨List.replicate l.length false,0,false⟩).2.ji=l.length
     ·exact e
     ·exact absurd (.inr e) h2
    ·omega
   omega
def W_ (n Qn i:Nat):Nat:=n-1-(i+Qn)%n
def mv (n Qn:Nat)(i:Int):Int:=if i<0 then i else (W_ n Qn i.toNat:Int)
end Go.Proofs.Tryz
namespace Go.Eng
open Go.Big
def qM (V:View)(v:Value)(a b c:Rat):Prop:=∃(x1 x2:Int)(p:OA)(y1 y2:Int)(q:OA)(z1 z2:Int)(r:OA),v=.agg #[.int .i64 x1,.int .i64 x2,.pointer p,.int .i64 y1,.int .i64 y2,.pointer q,.int .i64 z1,.int .i64 z2,.pointer r] /\
 RR V (.agg #[.int .i64 x1,.int .i64 x2,.pointer p]) a/\RR V (.agg #[.int .i64 y1,.int .i64 y2,.pointer q]) b/\RR V (.agg #[.int .i64 z1,.int .i64 z2,.pointer r]) c
def It (v:Value):Prop:=∃(x1 x2:Int)(x3:OA)(y1 y2:Int)(y3:OA)(z1 z2:Int)(z3:OA),v=.agg #[.int .i64 x1,.int .i64 x2,.pointer x3,.int .i64 y1,.int .i64 y2,.pointer y3,.int .i64 z1,.int .i64 z2,.pointer z3]
theorem qM.le {V V':View}{v:Value}{a b c:Rat}(h:qM V v a b c)(l:V.Le V'):qM V' v a b c:=by
 obtain ⟨x1,x2,p,y1,y2,q,z1,z2,r,rfl,h1,h2,h3⟩:=h
 exact ⟨x1,x2,p,y1,y2,q,z1,z2,r,rfl,h1.le l,h2.le l,h3.le l⟩
end Go.Eng
namespace Go.Proofs.Tryz
open Go.Eng Go.Big
theorem EI {V:View}{v:Value}{a b c:Rat}(h:qM V v a b c){k:Nat}(s1:Sz k a)(s2:Sz k b)(s3:Sz k c)(hk:k<=1099511627776) :
  Acts prog 96 #[v] V fun r V'=>RL V' r a.num b.num c.num:=by
 obtain ⟨x1,x2,p,y1,y2,q,z1,z2,r,rfl,h1,h2,h3⟩:=h
 refine vR _ _ _ _ _ _ _ _ _ V _ fun V1 l1=>(e_ (h1.le l1) s1 hk).mono ?_
 rintro r V2 l2 ⟨p1,n1,c1,rfl,g1⟩
 refine ⟨_,_,_,_,rfl,fun V3 l3=>(e_ (h2.le (l1.trans (l2.trans l3))) s2 hk).mono ?_⟩
 rintro r V4 l4 ⟨p2,n2,c2,rfl,g2⟩
 refine ⟨_,_,_,_,rfl,fun V5 l5=>(e_ (h3.le (l1.trans (l2.trans (l3.trans (l4.trans l5))))) s3 hk).mono ?_⟩
 rintro r V6 l6 ⟨p3,n3,c3,rfl,g3⟩
 exact ⟨_,_,_,_,rfl,fun V7 l7=>⟨_,_,_,_,_,_,_,_,_,rfl,g1.le (l3.trans (l4.trans (l5.trans (l6.trans l7)))),g2.le (l5.trans (l6.trans l7)),g3.le l7⟩⟩
def tW (b1:Bool)(xs:List Nat)(b2:Bool)(ys:List Nat)(b3:Bool)(zs:List Nat):Bool:=
 kz b1 xs&&kz b2 ys&&kz b3 zs&&!(decide ((aQ b1 xs:Rat)=0)&&decide ((aQ b2 ys:Rat)=0))&&decide (fY (fY (aQ b1 xs) (aQ b2 ys)) (aQ b3 zs)=((1:Int):Rat))
theorem pG {V:View}{ok:Bool}{A B C:Rat}(h:ok=false):∃v,Value.tuple #[.agg #[.int .i64 0,.int .i64 0,.pointer none,.int .i64 0,.int .i64 0,.pointer none,.int .i64 0,.int .i64 0,.pointer none],.bool false]=.tuple #[v,.bool ok]/\It v/\(ok=true->qM V v A B C):=by
 subst h;exact ⟨_,rfl,⟨_,_,_,_,_,_,_,_,_,rfl⟩,fun h=>nomatch h⟩
theorem H3:Sz 1 ((1:Int):Rat):=by unfold Sz;decide
theorem sH {V:View}(b1 b2 b3:Bool){p q s:OA}{n c m e i j:Nat}{xs ys zs:List Nat}(hx:RD V p n c xs)(hy:RD V q m e ys)(hz:RD V s i j zs)
  (h1:xs.length<=1099511627776)(h2:ys.length<=1099511627776)(h3:zs.length<=1099511627776){k:Nat}(s1:Sz k (aQ b1 xs:Rat))(s2:Sz k (aQ b2 ys:Rat))(s3:Sz k (aQ b3 zs:Rat))(hk:4*k+4<1099511627776) :
  Acts prog 132 #[.agg #[.bool b1,.slice p n c,.bool b2,.slice q m e,.bool b3,.slice s i j]] V fun r V'=>∃v,r=.tuple #[v,.bool (tW b1 xs b2 ys b3 zs)]/\It v/\(tW b1 xs b2 ys b3 zs=true->qM V' v (aQ b1 xs) (aQ b2 ys) (aQ b3 zs)):=by
 refine BL _ p n c _ q m e _ s i j V _ fun V1 l1=>(fE b1 (hx.le l1) h1).mono ?_
 rintro r V2 l2 rfl
 refine ⟨_,rfl,fun h0 V3 l3=>pG ?_,fun h0 V4 l4=>(fE b2 (hy.le (l1.trans (l2.trans l4))) h2).mono ?_⟩
 ·have h0:kz b1 xs=false:=by simpa using h0
  simp [tW,h0]
 have h0:kz b1 xs=true:=by simpa using h0
 rintro r V5 l5 rfl
 refine ⟨_,rfl,fun g0 V6 l6=>pG ?_,fun g0 V7 l7=>(fE b3 (hz.le (l1.trans (l2.trans (l4.trans (l5.trans l7))))) h3).mono ?_⟩
 ·have g0:kz b2 ys=false:=by simpa using g0
  simp [tW,g0]
 have g0:kz b2 ys=true:=by simpa using g0
 rintro r V8 l8 rfl
 have MI:=l1.trans (l2.trans (l4.trans (l5.trans (l7.trans l8))))
 refine ⟨_,rfl,fun f0 V9 l9=>pG ?_,fun f0 V10 l10=>(jV b1 (hx.le (MI.trans l10)) h1).mono ?_⟩
 ·have f0:kz b3 zs=false:=by simpa using f0
  simp [tW,f0]
 have f0:kz b3 zs=true:=by simpa using f0
 rintro r V11 l11 ra
 obtain ⟨x1,x2,x3,rfl⟩:=ra.shape
 have N6:=MI.trans (l10.trans l11)
 refine ⟨_,_,_,rfl,fun V12 l12=>(jV b2 (hy.le (N6.trans l12)) h2).mono ?_⟩
 rintro r V13 l13 rb
 obtain ⟨y1,y2,y3,rfl⟩:=rb.shape
 have Rw:=N6.trans (l12.trans l13)
 refine ⟨_,_,_,rfl,fun V14 dA=>(jV b3 (hz.le (Rw.trans dA)) h3).mono ?_⟩
 rintro r V15 dS rc
 obtain ⟨z1,z2,z3,rfl⟩:=rc.shape
 replace ra:=ra.le (l12.trans (l13.trans (dA.trans dS)))
 replace rb:=rb.le (dA.trans dS)
 have hok:tW b1 xs b2 ys b3 zs=(!(decide ((aQ b1 xs:Rat)=0)&&decide ((aQ b2 ys:Rat)=0))&&decide (fY (fY (aQ b1 xs) (aQ b2 ys)) (aQ b3 zs)=((1:Int):Rat))):=by
  simp only [tW,h0,g0,f0,Bool.true_and]
 rw [hok]
 clear hok h0 g0 f0 hx hy hz
 generalize (aQ b1 xs:Rat)=A at *
 generalize (aQ b2 ys:Rat)=B at *
 generalize (aQ b3 zs:Rat)=C at *
 refine ⟨_,_,_,rfl,fun kG dB=>(z_ (ra.le dB)).mono ?_⟩
 rintro r nD cU rfl
 refine ⟨_,rfl,fun t0 qN dW=>(z_ (rb.le (dB.trans (cU.trans dW)))).mono ?_,fun t0 rX fA=>?_⟩
 ·rintro r rG dX rfl
  refine ⟨_,rfl,fun u0 Cg iI=>pG (by rw [t0,u0];rfl),fun u0 rX fA=>?_⟩
  have lb:V15.Le rX:=dB.trans (cU.trans (dW.trans (dX.trans fA)))
  have hn:(decide (A=0)&&decide (B=0))=false:=by rw [u0,Bool.and_false]
  rw [hn]
  refine (jU (ra.le lb) (rb.le lb) s1 s2 (by omega)).mono ?_
  rintro r wE jA rg
  obtain ⟨g1,g2,g3,rfl⟩:=rg.shape
  refine ⟨_,_,_,rfl,fun wF iq=>(jU (rg.le iq) (rc.le (lb.trans (jA.trans iq))) (lJ s1 s2) s3 (by omega)).mono ?_⟩
  rintro r FR tH rh
  obtain ⟨h1,h2,h3,rfl⟩:=rh.shape
  refine ⟨_,_,_,rfl,fun FE l25=>(gP 1 (by omega) (by omega)).mono ?_⟩
  rintro r Ka l26 ri
  obtain ⟨i1,i2,i3,rfl⟩:=ri.shape
  refine ⟨_,_,_,rfl,fun Mz l27=>(wS (rh.le (l25.trans (l26.trans l27))) (ri.le l27) (lJ (lJ s1 s2) s3) H3 (by omega)).mono ?_⟩
  rintro r MA E5 rfl
  have lz:V15.Le MA:=lb.trans (jA.trans (iq.trans (tH.trans (l25.trans (l26.trans (l27.trans E5))))))
  refine ⟨_,rfl,fun w0 Qb GW=>pG ?_,fun w0 KV Cd=>?_⟩
  ·rw [Bool.not_eq_true'] at w0
   rw [w0];rfl
  ·have w0:decide (fY (fY A B) C=((1:Int):Rat))=true:=by
    cases h:decide (fY (fY A B) C=((1:Int):Rat))
    ·rw [h] at w0;cases w0
    ·rfl
   rw [w0]
   exact ⟨_,rfl,⟨_,_,_,_,_,_,_,_,_,rfl⟩,fun _=>⟨_,_,_,_,_,_,_,_,_,rfl,ra.le (lz.trans Cd),rb.le (lz.trans Cd),rc.le (lz.trans Cd)⟩⟩
 ·have lb:V15.Le rX:=dB.trans (cU.trans fA)
  have hn:(decide (A=0)&&decide (B=0))=false:=by rw [t0,Bool.false_and]
  rw [hn]
  refine (jU (ra.le lb) (rb.le lb) s1 s2 (by omega)).mono ?_
  rintro r wE jA rg
  obtain ⟨g1,g2,g3,rfl⟩:=rg.shape
  refine ⟨_,_,_,rfl,fun wF iq=>(jU (rg.le iq) (rc.le (lb.trans (jA.trans iq))) (lJ s1 s2) s3 (by omega)).mono ?_⟩
  rintro r FR tH rh
  obtain ⟨h1,h2,h3,rfl⟩:=rh.shape
  refine ⟨_,_,_,rfl,fun FE l25=>(gP 1 (by omega) (by omega)).mono ?_⟩
  rintro r Ka l26 ri
  obtain ⟨i1,i2,i3,rfl⟩:=ri.shape
  refine ⟨_,_,_,rfl,fun Mz l27=>(wS (rh.le (l25.trans (l26.trans l27))) (ri.le l27) (lJ (lJ s1 s2) s3) H3 (by omega)).mono ?_⟩
  rintro r MA E5 rfl
  have lz:V15.Le MA:=lb.trans (jA.trans (iq.trans (tH.trans (l25.trans (l26.trans (l27.trans E5))))))
  refine ⟨_,rfl,fun w0 Qb GW=>pG ?_,fun w0 KV Cd=>?_⟩
  ·rw [Bool.not_eq_true'] at w0
   rw [w0];rfl
  ·have w0:decide (fY (fY A B) C=((1:Int):Rat))=true:=by
    cases h:decide (fY (fY A B) C=((1:Int):Rat))
    ·rw [h] at w0;cases w0
    ·rfl
   rw [w0]
   exact ⟨_,rfl,⟨_,_,_,_,_,_,_,_,_,rfl⟩,fun _=>⟨_,_,_,_,_,_,_,_,_,rfl,ra.le (lz.trans Cd),rb.le (lz.trans Cd),rc.le (lz.trans Cd)⟩⟩
def Jl:List Int->Int
 | []=>0
 | x::r=>if x=0 then Jl r else x
def LB (l:List Int):List Value:=l.map fun x=>Value.int .i64 x
theorem L9 {l:List Int}:Jl l=0↔∀x∈l,x=0:=by
 induction l with
 | nil=>simp [Jl]
 | cons x r ih=>
  simp only [Jl,List.mem_cons,forall_eq_or_imp]
  split
  ·rename_i h;simp [h,ih]
  ·rename_i h;simp [h]
theorem Gc {V:View}{p:OA}{n c:Nat}{l:List Int}(hl:n=l.length)(hs:V.sl p (LB l))(hm:l.length<=1099511627776) :
  Acts prog 245 #[.slice p n c] V fun r V'=>r=.int .i64 (Jl l):=by
 refine FC p n c V _ ⟨fun z V'=>0<=z/\z<=n/\Jl l=Jl (l.drop z.toNat),fun z=>n-z.toNat,⟨0,by (try dsimp only);and_intros<;>first|exact True.intro|rfl,by (try dsimp only);omega,by (try dsimp only);omega,rfl⟩,?_⟩
 rintro i V1 l1 ⟨hi0,hi1,he⟩
 dsimp only at hi1 he ⊢
 obtain ⟨i,rfl⟩:=Int.eq_ofNat_of_zero_le hi0
 simp only [Int.toNat_natCast] at he
 refine ⟨by trivial,fun h3=>?_,fun h3 V3 l3=>?_⟩
 ·have h3:i<n:=by simpa using h3
  have hil:i<l.length:=by omega
  obtain ⟨ad,e1,hat⟩:=(l1.sl hs) i (.int .i64 l[i]) (by simp [LB,hil])
  rw [List.drop_eq_getElem_cons hil,Jl] at he
  refine ⟨by rw [e1];rfl,⟨by omega,by omega⟩,l[i],⟨ad.add i,by rw [e1];simp [addrAdd],hat⟩,fun h4 V2 l2=>?_,fun h4=>?_⟩
  ·have h4:l[i]≠0:=by simpa using h4
   rw [if_neg h4] at he
   rw [he]
  ·have h4:l[i]=0:=by simpa using h4
   rw [if_pos h4] at he
   have w:i64.wrap ((i:Int)+1)=((i+1:Nat):Int):=by rw [i64w (by omega)];omega
   simp only [w]
   refine ⟨((i+1:Nat):Int),?_,by (try dsimp only);and_intros<;>first|exact True.intro|rfl,by (try dsimp only);omega,by (try dsimp only);omega,?_⟩
   ·(try dsimp only);omega
   ·exact he
 ·have h3:i=n:=by simp at h3;omega
  rw [List.drop_of_length_le (by omega)] at he
  rw [he];rfl
theorem EJ {V:View}{v w:Value}{a b c a' b' c':Rat}(hx:qM V v a b c)(hy:qM V w a' b' c'){k m:Nat}(s1:Sz k a)(s2:Sz k b)(s3:Sz k c)(t1:Sz m a')(t2:Sz m b')(t3:Sz m c')(hk:k+m<1099511627776) :
  Acts prog 231 #[v,w] V fun r V'=>r=.int .i64 (Jl [eG a a',eG b b',eG c c']):=by
 obtain ⟨x1,x2,p,y1,y2,q,z1,z2,r,rfl,h1,h2,h3⟩:=hx
 obtain ⟨x3,x4,p',y3,y4,q',z3,z4,r',rfl,g1,g2,g3⟩:=hy
 refine vS _ _ _ _ _ _ _ _ _ _ _ _ _ _ _ _ _ _ V _ fun V1 l1=>(jT (h1.le l1) (g1.le l1) s1 t1 hk).mono ?_
 rintro r V2 l2 rfl
 refine ⟨_,rfl,fun V3 l3=>(jT (h2.le (l1.trans (l2.trans l3))) (g2.le (l1.trans (l2.trans l3))) s2 t2 hk).mono ?_⟩
 rintro r V4 l4 rfl
 have l04:=l1.trans (l2.trans (l3.trans l4))
 refine ⟨_,rfl,fun V5 l5=>(jT (h3.le (l04.trans l5)) (g3.le (l04.trans l5)) s3 t3 hk).mono ?_⟩
 rintro r V6 l6 rfl
 refine ⟨_,rfl,fun V7 l7 bk hb=>(Gc (l:=[eG a a',eG b b',eG c c']) rfl (fun i v hv=>⟨_,rfl,by rw [add_zero'];exact blk_at (xs:=LB [eG a a',eG b b',eG c c']) hb hv⟩) (by simp)).mono ?_⟩
 rintro r V8 l8 rfl
 exact ⟨_,rfl,fun _ V9 l9=>rfl⟩
theorem Ab {V:View}{v w:Value}{a b c a' b' c':Rat}(hx:qM V v a b c)(hy:qM V w a' b' c'){k m:Nat}(s1:Sz k a)(s2:Sz k b)(s3:Sz k c)(t1:Sz m a')(t2:Sz m b')(t3:Sz m c')(hk:k+m<1099511627776) :
  Acts prog 197 #[v,w] V fun r V'=>r=.bool (decide (a=a'/\b=b'/\c=c')):=by
 have hx0:=hx
 have hy0:=hy
 obtain ⟨x1,x2,p,y1,y2,q,z1,z2,r,rfl,-,-,-⟩:=hx
 obtain ⟨x3,x4,p',y3,y4,q',z3,z4,r',rfl,-,-,-⟩:=hy
 refine q_ _ _ _ _ _ _ _ _ _ _ _ _ _ _ _ _ _ _ V _ fun V1 l1=>(EJ (hx0.le l1) (hy0.le l1) s1 s2 s3 t1 t2 t3 hk).mono ?_
 rintro r V2 l2 rfl
 refine ⟨_,rfl,fun V3 l3=>?_⟩
 congr 1
 rw [Bool.eq_iff_iff,decide_eq_true_eq,beq_iff_eq,L9]
 simp [←iD]
theorem addadd (a:Addr)(i j:Nat):(a.add i).add j=a.add (i+j):=by
 unfold Addr.add
 by_cases h1:i=0
 ·subst h1;simp
 ·by_cases h2:j=0
  ·subst h2;simp [h1]
  ·simp [h1,h2,Nat.add_assoc]
theorem rdc {V:View}{b:Nat}{xs:List Value}{ty:TypeId}{m:Nat×Nat}(h:V.aZ b (.cells xs.toArray ty m))(i:Nat){v:Value}(hv:xs[i]?=some v):∃a,addrAdd (some ⟨b,0,none⟩) i=some a/\V.at a v:=
 ⟨⟨b,i,none⟩,by simp [addrAdd,add_zero'],blk_at h hv⟩
theorem A8 {a b c:Int}:tW (decide (a<0)) (af a.natAbs) (decide (b<0)) (af b.natAbs) (decide (c<0)) (af c.natAbs)=okL (a,b,c):=by
 have hn:∀z:Int,kz (decide (z<0)) (af z.natAbs)=true:=by
  intro z
  unfold kz
  rw [ab]
  simp only [decide_true,Bool.true_and]
  by_cases h:z<0
  ·simp only [h,decide_true,Bool.not_true,Bool.false_or,decide_eq_true_eq]
   intro e
   have:=bo.1 e
   omega
  ·simp [h]
 have hg:fY (fY (a:Rat) (b:Rat)) (c:Rat)=((gW a b c:Nat):Int):=by
  have g2:∀x y:Int,fY (x:Rat) (y:Rat)=((Nat.gcd x.natAbs y.natAbs:Nat):Int):=by
   intro x y
   unfold fY
   have e1:((x:Rat)).num=x:=rfl
   have e2:((y:Rat)).num=y:=rfl
   have e3:((x:Rat)).den=1:=rfl
   have e4:((y:Rat)).den=1:=rfl
   rw [e1,e2,e3,e4]
   simp only [Nat.mul_one]
   exact Rat.mkRat_one _
  rw [g2,g2]
  rfl
 unfold tW okL
 rw [hn,hn,hn,aA,aA,aA,hg]
 have h0:∀z:Int,((z:Rat)=0)↔z=0:=fun z=>by exact Rat.intCast_eq_zero_iff
 simp only [Bool.true_and,h0]
 rw [Bool.eq_iff_iff]
 simp only [Bool.and_eq_true,Bool.not_eq_true',Bool.and_eq_false_iff,decide_eq_false_iff_not,decide_eq_true_eq]
 have h1:(((gW a b c:Nat):Int):Rat)=((1:Int):Rat)↔gW a b c=1:=by
  rw [Rat.intCast_inj];omega
 rw [h1]
 constructor
 ·rintro ⟨h,h'⟩;exact ⟨fun e=>by rcases h with h|h;exact h e.1;exact h e.2,h'⟩
 ·rintro ⟨h,h'⟩
  refine ⟨?_,h'⟩
  by_cases ha:a=0
  ·exact .inr fun hb=>h ⟨ha,hb⟩
  ·exact .inl ha
theorem zk {z:Int}{k:Nat}(h:z.natAbs<2^k)(hk:0<k):Sz k (z:Rat):=⟨h,Nat.one_lt_two_pow (by omega)⟩
theorem Bd.af {x:L3}(h:Bd x):(af x.1.natAbs).length<=1000/\(af x.2.1.natAbs).length<=1000/\(af x.2.2.natAbs).length<=1000:=⟨ae h.1,ae h.2.1,ae h.2.2⟩
theorem Bd.sz {x:L3}(h:Bd x):Sz 1000 (x.1:Rat)/\Sz 1000 (x.2.1:Rat)/\Sz 1000 (x.2.2:Rat):=⟨zk h.1 (by omega),zk h.2.1 (by omega),zk h.2.2 (by omega)⟩
theorem Ac {V:View}{v:Value}{x:L3}(h:RL V v x.1 x.2.1 x.2.2)(hb:Bd x) :
  Acts prog 132 #[v] V fun r V'=>∃w,r=.tuple #[w,.bool (okL x)]/\It w/\(okL x=true->qM V' w x.1 x.2.1 x.2.2):=by
 obtain ⟨p,n,s,p',n',s',q,m,e,rfl,h1,h2,h3⟩:=h
 obtain ⟨d1,d2,d3⟩:=hb.af
 obtain ⟨s1,s2,s3⟩:=hb.sz
 have hc:=sH (V:=V) (decide (x.1<0)) (decide (x.2.1<0)) (decide (x.2.2<0)) h1 h2 h3 (by omega) (by omega) (by omega) (k:=1000) (by rw [aA];exact s1) (by rw [aA];exact s2) (by rw [aA];exact s3) (by omega)
 rw [A8,aA,aA,aA] at hc
 exact hc
def RT (V:View):OA->Tr->Prop
 | p,.leaf i=>∃(b:Nat)(c0 c1 c2 c3 c4 c5 c6 c7 c8:Value)(r:OA),p=some ⟨b,0,none⟩/\V.aZ b (.cells #[c0,c1,c2,c3,c4,c5,c6,c7,c8,.pointer none,.pointer r,.bool i] 122 (0,0))
 | p,.node l x y=>∃(b:Nat)(x1 x2:Int)(x3:OA)(y1 y2:Int)(y3:OA)(z1 z2:Int)(z3:OA)(pl pr:OA)(i:Bool),p=some ⟨b,0,none⟩ /\
   V.aZ b (.cells #[.int .i64 x1,.int .i64 x2,.pointer x3,.int .i64 y1,.int .i64 y2,.pointer y3,.int .i64 z1,.int .i64 z2,.pointer z3,.pointer pl,.pointer pr,.bool i] 122 (0,0)) /\
   qM V (.agg #[.int .i64 x1,.int .i64 x2,.pointer x3,.int .i64 y1,.int .i64 y2,.pointer y3,.int .i64 z1,.int .i64 z2,.pointer z3]) l.1 l.2.1 l.2.2/\RT V pl x/\RT V pr y
theorem RT.le {V V':View}(h:V.Le V'):∀{t:Tr} {p:OA},RT V p t->RT V' p t
 | .leaf i,p,⟨b,c0,c1,c2,c3,c4,c5,c6,c7,c8,r,e,hb⟩=>⟨b,c0,c1,c2,c3,c4,c5,c6,c7,c8,r,e,h _ _ hb⟩
 | .node l x y,p,⟨b,x1,x2,x3,y1,y2,y3,z1,z2,z3,pl,pr,i,e,hb,hl,hx,hy⟩=>⟨b,x1,x2,x3,y1,y2,y3,z1,z2,z3,pl,pr,i,e,h _ _ hb,hl.le h,RT.le h hx,RT.le h hy⟩
theorem RT.Rs {V:View}{t:Tr}{p:OA}(h:RT V p t):p.isSome=true:=by
 cases t with
 | leaf i=>obtain ⟨b,c0,c1,c2,c3,c4,c5,c6,c7,c8,r,rfl,hb⟩:=h;rfl
 | node l x y=>obtain ⟨b,x1,x2,x3,y1,y2,y3,z1,z2,z3,pl,pr,i,rfl,-⟩:=h;rfl
theorem fD {V:View}(i:Bool):Acts prog 175 #[.bool i] V fun r V'=>∃p,r=.pointer p/\RT V' p (.leaf i):=
 BF i V _ fun V1 l1 b hb=>⟨_,rfl,b,_,_,_,_,_,_,_,_,_,_,rfl,hb⟩
theorem c_bsp_IsLeaf {V:View}{p:OA}{t:Tr}(h:RT V p t):Acts prog 137 #[.pointer p] V fun r V'=>r=.bool t.LD:=by
 cases t with
 | leaf i=>
  obtain ⟨b,c0,c1,c2,c3,c4,c5,c6,c7,c8,r,rfl,hb⟩:=h
  exact ky _ V _ ⟨rfl,rfl,_,rdc hb 9 rfl,fun V1 l1=>rfl⟩
 | node l x y=>
  obtain ⟨b,x1,x2,x3,y1,y2,y3,z1,z2,z3,pl,pr,i,rfl,hb,hl,hx,hy⟩:=h
  refine ky _ V _ ⟨rfl,rfl,_,rdc hb 9 rfl,fun V1 l1=>?_⟩
  have:=hx.Rs
  cases pl with
  | none=>cases this
  | some a=>rfl
theorem EH {V:View}{v:Value}{l:L3}{p q:OA}{x y:Tr}(hl:qM V v l.1 l.2.1 l.2.2)(hx:RT V p x)(hy:RT V q y) :
  Acts prog 176 #[v,.pointer p,.pointer q] V fun r V'=>∃p',r=.pointer p'/\RT V' p' (.node l x y):=by
 have hl0:=hl
 obtain ⟨x1,x2,x3,y1,y2,y3,z1,z2,z3,rfl,-⟩:=hl
 exact Dk _ _ _ _ _ _ _ _ _ p q V _ fun V1 l1 b hb=>⟨_,rfl,b,_,_,_,_,_,_,_,_,_,_,_,_,rfl,hb,hl0.le l1,hx.le l1,hy.le l1⟩
def Ih (V:View)(v:Value)(l:L3):Prop:=RL V v l.1 l.2.1 l.2.2\/okL l=false/\∃b1 p n c xs b2 q m e ys b3 s i j zs,v=.agg #[.bool b1,.slice p n c,.bool b2,.slice q m e,.bool b3,.slice s i j]/\RD V p n c xs/\RD V q m e ys/\RD V s i j zs /\
 tW b1 xs b2 ys b3 zs=false/\(xs.length<=1000000/\ys.length<=1000000/\zs.length<=1000000)/\Sz 1000000 (aQ b1 xs:Rat)/\Sz 1000000 (aQ b2 ys:Rat)/\Sz 1000000 (aQ b3 zs:Rat)
theorem Ih.le {V V':View}{v:Value}{l:L3}(h:Ih V v l)(e:V.Le V'):Ih V' v l:=by
 rcases h with h|⟨ho,b1,p,n,c,xs,b2,q,m,e',ys,b3,s,i,j,zs,hv,h1,h2,h3,h4⟩
 ·exact .inl (h.le e)
 ·exact .inr ⟨ho,b1,p,n,c,xs,b2,q,m,e',ys,b3,s,i,j,zs,hv,h1.le e,h2.le e,h3.le e,h4⟩
theorem Ih.ok {V:View}{v:Value}{l:L3}(h:Ih V v l)(ho:okL l=true):RL V v l.1 l.2.1 l.2.2:=by
 rcases h with h|⟨h,-⟩
 ·exact h
 ·rw [ho] at h;cases h
theorem yh {V:View}{v:Value}{x:L3}(h:Ih V v x)(hb:Bd x) :
  Acts prog 132 #[v] V fun r V'=>∃w,r=.tuple #[w,.bool (okL x)]/\It w/\(okL x=true->qM V' w x.1 x.2.1 x.2.2):=by
 rcases h with h|⟨ho,b1,p,n,c,xs,b2,q,m,e',ys,b3,s,i,j,zs,rfl,h1,h2,h3,h4,⟨m1,m2,m3⟩,s1,s2,s3⟩
 ·exact Ac h hb
 ·refine (sH b1 b2 b3 h1 h2 h3 (by omega) (by omega) (by omega) s1 s2 s3 (by omega)).mono ?_
  rintro r V2 l2 ⟨w,rfl,g1,g2⟩
  rw [h4] at g2 ⊢
  rw [ho]
  exact ⟨w,rfl,g1,fun h=>by cases h⟩
def NR (V:View)(vs:List Value)(l:List Nd):Prop:=∀(i:Nat)(d:Nd),l[i]?=some d->∃(b1:Bool)(p1:OA)(n1 c1:Nat)(b2:Bool)(p2:OA)(n2 c2:Nat)(b3:Bool)(p3:OA)(n3 c3:Nat),
 (∀j v,([.bool b1,.slice p1 n1 c1,.bool b2,.slice p2 n2 c2,.bool b3,.slice p3 n3 c3,.int .i64 d.left,.int .i64 d.right]:List Value)[j]?=some v->vs[i*8+j]?=some v) /\
 Ih V (.agg #[.bool b1,.slice p1 n1 c1,.bool b2,.slice p2 n2 c2,.bool b3,.slice p3 n3 c3]) d.ln
theorem NR.le {V V':View}{vs:List Value}{l:List Nd}(h:NR V vs l)(hl:V.Le V'):NR V' vs l:=fun i d hd=>by
 obtain ⟨b1,p1,n1,c1,b2,p2,n2,c2,b3,p3,n3,c3,h1,h2⟩:=h i d hd
 exact ⟨b1,p1,n1,c1,b2,p2,n2,c2,b3,p3,n3,c3,h1,h2.le hl⟩
structure NS (V:View) (p:OA) (n c:Nat) (l:List Nd):Prop where
 len:n=l.length
 cap:n<=c
 row:∃vs,V.sl p vs/\NR V vs l
 Fb:p.isNone=true->c=0
theorem NS.le {V V':View}{p:OA}{n c:Nat}{l:List Nd}(h:NS V p n c l)(hl:V.Le V'):NS V' p n c l:=by
 obtain ⟨h1,h2,⟨vs,h3,h4⟩,h5⟩:=h
 exact ⟨h1,h2,⟨vs,hl.sl h3,h4.le hl⟩,h5⟩
theorem NS.nil {V:View}:NS V none 0 0 []:=⟨rfl,Nat.le_refl _,⟨[],fun i v h=>by simp at h,fun i d h=>by simp at h⟩,fun _=>rfl⟩
theorem NS.Rs {V:View}{p:OA}{n c:Nat}{l:List Nd}(h:NS V p n c l)(hn:n≠0):p.isSome=true:=by
 cases p with
 | none=>have:=h.Fb rfl;have:=h.cap;omega
 | some a=>rfl
def kH (l:List Bool):List Value:=l.map .bool
theorem EE {l:List Bool}{i:Nat}{b:Bool}(h:l[i]?=some b):(kH l)[i]?=some (.bool b):=by simp [kH,h]
theorem NS.rd {V:View}{p:OA}{n c:Nat}{l:List Nd}(h:NS V p n c l){k:Nat}{d:Nd}(hd:l[k]?=some d) :
  ∃(b1:Bool)(p1:OA)(n1 c1:Nat)(b2:Bool)(p2:OA)(n2 c2:Nat)(b3:Bool)(p3:OA)(n3 c3:Nat)(a:Addr),addrAdd p (k*8)=some a /\
   V.at (a.add 0) (.bool b1)/\V.at (a.add 1) (.slice p1 n1 c1)/\V.at (a.add 2) (.bool b2)/\V.at (a.add 3) (.slice p2 n2 c2)/\V.at (a.add 4) (.bool b3)/\V.at (a.add 5) (.slice p3 n3 c3)/\V.at (a.add 6) (.int .i64 d.left)/\V.at (a.add 7) (.int .i64 d.right) /\
   Ih V (.agg #[.bool b1,.slice p1 n1 c1,.bool b2,.slice p2 n2 c2,.bool b3,.slice p3 n3 c3]) d.ln:=by
 obtain ⟨vs,hs,hr⟩:=h.row
 obtain ⟨b1,p1,n1,c1,b2,p2,n2,c2,b3,p3,n3,c3,h1,h2⟩:=hr k d hd
 obtain ⟨ad,rfl,-⟩:=hs _ _ (h1 0 _ rfl)
 have key:∀j v,([.bool b1,.slice p1 n1 c1,.bool b2,.slice p2 n2 c2,.bool b3,.slice p3 n3 c3,.int .i64 d.left,.int .i64 d.right]:List Value)[j]?=some v->V.at ((ad.add (k*8)).add j) v:=by
  intro j v hv
  obtain ⟨ad',e,ha⟩:=hs _ _ (h1 j v hv)
  cases e
  rw [addadd]
  exact ha
 exact ⟨b1,p1,n1,c1,b2,p2,n2,c2,b3,p3,n3,c3,_,rfl,key 0 _ rfl,key 1 _ rfl,key 2 _ rfl,key 3 _ rfl,key 4 _ rfl,key 5 _ rfl,key 6 _ rfl,key 7 _ rfl,h2⟩
theorem Cn {l:List Nd}(hb:∀x∈l,Bd x.ln)(hlen:l.length<=65536):∀(f:Nat) (n:Int) (s:RS) {V:View} {rb sb:Nat} {MJ:OA} {nc:Nat},NS V MJ l.length nc l ->
  V.w.heap[rb]?=some (.cells #[.slice MJ l.length nc,.slice (some ⟨sb,0,none⟩) l.length l.length,.int .i64 (s.ji:Int),.bool s.bad] 252 (0,0))->V.X rb ->
  V.w.heap[sb]?=some (.cells (kH s.seen).toArray 4 (0,0))->V.X sb->rb≠sb->s.seen.length=l.length->s.seen.count false<f->s.ji+s.seen.count false<=l.length ->
  Acts prog 136 #[.pointer (some ⟨rb,0,none⟩),.int .i64 n] V fun r V'=>∃p,r=.pointer p/\RT V' p (di l f n s).1 /\
   V'.w.heap[rb]?=some (.cells #[.slice MJ l.length nc,.slice (some ⟨sb,0,none⟩) l.length l.length,.int .i64 ((di l f n s).2.ji:Int),.bool (di l f n s).2.bad] 252 (0,0)) /\
   V'.w.heap[sb]?=some (.cells (kH (di l f n s).2.seen).toArray 4 (0,0)):=by
 intro f
 induction f with
 | zero=>intro n s V rb sb MJ nc _ _ _ _ _ _ _ h;omega
 | succ f ih=>
  intro n s V rb sb MJ nc hns hw1 hx1 hw2 hx2 hne hsl hcf hct
  refine nf rb sb MJ l.length nc l.length l.length s.ji s.bad (kH s.seen) n V _ hw1 hx1 hw2 hx2 hne ⟨fun h0 V1 l1=>(fD _).mono ?_,fun h0=>⟨fun h1 V4 l4=>(fD _).mono ?_,fun h1=>⟨fun h2 V7 l7=>(fD _).mono ?_,fun h2=>⟨fun h3 V10 l10=>(fD _).mono ?_,fun h3=>?_⟩⟩⟩⟩
  ·rintro r V2 l2 ⟨p,rfl,hp⟩
   have e0:n=-2:=by simpa using h0
   have e:di l (f+1) n s=(.leaf true,s):=by simp [di,e0]
   rw [h0] at hp
   exact ⟨p,rfl,fun V3 l3 g1 g2=>⟨p,rfl,by rw [e];exact hp.le l3,by rw [e];exact g1,by rw [e];exact g2⟩⟩
  ·rintro r V2 l2 ⟨p,rfl,hp⟩
   have e0:n=-1:=by simpa using h1
   have e:di l (f+1) n s=(.leaf false,s):=by simp [di,e0]
   rw [h0] at hp
   exact ⟨p,rfl,fun V3 l3 g1 g2=>⟨p,rfl,by rw [e];exact hp.le l3,by rw [e];exact g1,by rw [e];exact g2⟩⟩
  ·rintro r V2 l2 ⟨p,rfl,hp⟩
   have n0:¬n=-2:=by simpa using h0
   have n1:¬n=-1:=by simpa using h1
   have n2:n<0:=by simpa using h2
   have e:di l (f+1) n s=(.leaf false,{ s with bad:=true }):=by simp [di,n0,n1,n2]
   exact ⟨p,rfl,fun V3 l3 g1 g2=>⟨p,rfl,by rw [e];exact hp.le l3,by rw [e];exact g1,by rw [e];exact g2⟩⟩
  ·rintro r V2 l2 ⟨p,rfl,hp⟩
   have n0:¬n=-2:=by simpa using h0
   have n1:¬n=-1:=by simpa using h1
   have n2:¬n<0:=by simpa using h2
   have n3:(l.length:Int)<=n:=by simpa using h3
   have e:di l (f+1) n s=(.leaf false,{ s with bad:=true }):=by
    simp only [di,n0,n1,n2,if_false]
    rw [List.getElem?_eq_none (by omega)]
   exact ⟨p,rfl,fun V3 l3 g1 g2=>⟨p,rfl,by rw [e];exact hp.le l3,by rw [e];exact g1,by rw [e];exact g2⟩⟩
  ·have n0:¬n=-2:=by simpa using h0
   have n1:¬n=-1:=by simpa using h1
   have n2:¬n<0:=by simpa using h2
   have n3:n<(l.length:Int):=by simpa using h3
   clear h0 h1 h2 h3
   obtain ⟨k,rfl⟩:=Int.eq_ofNat_of_zero_le (Int.not_lt.1 n2)
   have hk:k<l.length:=by omega
   have hks:k<s.seen.length:=by omega
   simp only [Int.toNat_natCast,Nat.mul_one,Nat.zero_add]
   have hsk:s.seen[k]?=some s.seen[k]:=List.getElem?_eq_getElem hks
   have hlk:l[k]?=some l[k]:=List.getElem?_eq_getElem hk
   refine ⟨⟨by omega,n3⟩,s.seen[k],EE hsk,fun h4 V13 l13=>(fD _).mono ?_,fun h4=>⟨⟨by omega,n3⟩,by simp [kH];omega,hns.Rs (by omega),⟨by omega,n3⟩,?_⟩⟩
   ·rintro r V2 l2 ⟨p,rfl,hp⟩
    have e:di l (f+1) (k:Int) s=(.leaf false,{ s with bad:=true }):=by
     simp only [di,n0,n1,n2,if_false,Int.toNat_natCast]
     rw [hsk,h4,hlk]
    exact ⟨p,rfl,fun V3 l3 g1 g2=>⟨p,rfl,by rw [e];exact hp.le l3,by rw [e];exact g1,by rw [e];exact g2⟩⟩
   ·obtain ⟨b1,p1,m1,c1,b2,p2,m2,c2,b3,p3,m3,c3,a,ha,a0,a1,a2,a3,a4,a5,a6,a7,hL⟩:=hns.rd hlk
    refine ⟨b1,p1,m1,c1,b2,p2,m2,c2,b3,p3,m3,c3,_,_,a,ha,a0,a1,a2,a3,a4,a5,a6,a7,fun kG dB=>(yh (hL.le dB) (hb _ (List.getElem_mem hk))).mono ?_⟩
    rintro r nD cU ⟨w,rfl,⟨x1,x2,x3,y1,y2,y3,z1,z2,z3,rfl⟩,hw⟩
    rw [h4] at hsk
    have hset:(kH s.seen).set k (.bool true)=kH (s.seen.set k true):=by simp [kH,List.map_set]
    have hcount:=count_set hsk
    have w1:i64.wrap ((s.ji:Int)+1)=((s.ji+1:Nat):Int):=by rw [i64w (by omega)];omega
    rw [hset,w1]
    refine ⟨_,_,_,_,_,_,_,_,_,_,rfl,fun h5 qN dW=>(fD _).mono ?_,fun h5 rX fA bk1 bk2 g1 g2 g3 g4 g5=>?_⟩
    ·rintro r V2 l2 ⟨p,rfl,hp⟩
     have h5:okL l[k].ln=false:=by simpa using h5
     have e:di l (f+1) (k:Int) s=(.leaf false,⟨s.seen.set k true,s.ji+1,true⟩):=by
      simp only [di,n0,n1,n2,if_false,Int.toNat_natCast]
      rw [hsk,hlk]
      simp [h5]
     exact ⟨p,rfl,fun V3 l3 g1 g2=>⟨p,rfl,by rw [e];exact hp.le l3,by rw [e];exact g1,by rw [e];exact g2⟩⟩
    ·have h5:okL l[k].ln=true:=by simpa using h5
     have lv:V.Le rX:=dB.trans (cU.trans fA)
     have lX:∀(U:View)(u v:Nat),U.H u->U.H v->(U.lend [u,v]).X u/\(U.lend [u,v]).X v:=fun U u v hu hv=>⟨⟨by simp,hu⟩,⟨by simp,hv⟩⟩
     have i1:=ih l[k].left ⟨s.seen.set k true,s.ji+1,s.bad⟩ (V:=rX.lend [bk1,bk2]) (hns.le lv) g1 (lX _ _ _ g2 g4).1 g3 (lX _ _ _ g2 g4).2 g5 (by simp [hsl]) (by dsimp only;omega) (by dsimp only;omega)
     have hm:=oa l f l[k].left ⟨s.seen.set k true,s.ji+1,s.bad⟩
     have hcc:=rQ l f l[k].left ⟨s.seen.set k true,s.ji+1,s.bad⟩
     have e:di l (f+1) (k:Int) s=(.node l[k].ln (di l f l[k].left ⟨s.seen.set k true,s.ji+1,s.bad⟩).1 (di l f l[k].right (di l f l[k].left ⟨s.seen.set k true,s.ji+1,s.bad⟩).2).1,(di l f l[k].right (di l f l[k].left ⟨s.seen.set k true,s.ji+1,s.bad⟩).2).2):=by
      simp only [di,n0,n1,n2,if_false,Int.toNat_natCast]
      rw [hsk,hlk]
      simp [h5]
     rw [e]
     clear e
     dsimp only
     generalize di l f l[k].left ⟨s.seen.set k true,s.ji+1,s.bad⟩=q1 at *
     obtain ⟨t1,s1⟩:=q1
     dsimp only at i1 hm hcc ⊢
     refine i1.mono ?_
     rintro r wE jA ⟨p,rfl,hp,e1,e2⟩
     refine ⟨p,rfl,_,_,_,_,_,e1,_,e2,fun wF iq M6 bk4 f1 f2 f3 f4 f5=>?_⟩
     have UC:rX.Le wF:=fun b o h=>iq b o (jA b o h)
     have i2:=ih l[k].right s1 (V:=wF.lend [M6,bk4]) (hns.le (lv.trans UC)) f1 (lX _ _ _ f2 f4).1 f3 (lX _ _ _ f2 f4).2 f5 (by rw [hm.2];simp [hsl]) (by omega) (by omega)
     generalize di l f l[k].right s1=q2 at *
     obtain ⟨t2,s2⟩:=q2
     dsimp only at i2 ⊢
     refine i2.mono ?_
     rintro r FR tH ⟨q,rfl,hq,e3,e4⟩
     refine ⟨q,rfl,_,_,_,_,_,e3,_,e4,fun FE l25=>?_⟩
     have Oa:wF.Le FR:=fun b o h=>tH b o h
     have LL:FR.Le FE:=fun b o h=>l25 b o h
     have lw:nD.Le FE:=fA.trans (UC.trans (Oa.trans LL))
     have Rx:wE.Le wF:=fun b o h=>iq b o h
     refine (EH ((hw h5).le lw) (hp.le (Rx.trans (Oa.trans LL))) (hq.le LL)).mono ?_
     rintro r Ka l26 ⟨u,rfl,hu⟩
     exact ⟨u,rfl,fun Mz l27 g1 g2=>⟨u,rfl,hu.le l27,g1,g2⟩⟩
theorem Gb {V:View}{l:List Nd}(hb:∀x∈l,Bd x.ln){p:OA}{n c:Nat}(root:Int)(h:NS V p n c l) :
  Acts prog 93 #[.agg #[.int .i64 root,.slice p n c]] V fun r V'=>(ofT l root=none->∃q,r=.tuple #[.pointer q,.bool false])/\(∀t,ofT l root=some t->∃q,r=.tuple #[.pointer q,.bool true]/\RT V' q t):=by
 have hl:=h.len
 subst hl
 refine FB root p l.length c V _ ⟨fun h0 V1 l1=>?_,fun h0=>⟨by omega,Int.le_refl _,?_,fun V2 l2 bk1 bk2 g1 g2 g3 g4 g5=>?_⟩⟩
 ·have h0:65536<l.length:=by simp at h0;omega
  have e:ofT l root=none:=by unfold ofT;rw [if_pos h0]
  exact ⟨fun _=>⟨_,rfl⟩,fun t ht=>by rw [e] at ht;cases ht⟩
 ·have h0:¬65536<l.length:=by simp at h0;omega
  omega
 ·have h0:¬65536<l.length:=by simp at h0;omega
  simp only [Int.toNat_natCast] at g1 g3 ⊢
  have hr:List.replicate l.length (Value.bool false)=kH (List.replicate l.length false):=by simp [kH]
  rw [hr] at g3
  have hc0:(List.replicate l.length false).count false=l.length:=by simp
  refine (Cn hb (by omega) (l.length+1) root ⟨List.replicate l.length false,0,false⟩ (V:=V2.lend [bk1,bk2]) (h.le l2) g1 ⟨by simp,g2⟩ g3 ⟨by simp,g4⟩ g5 (by simp) (by dsimp only;omega) (by dsimp only;omega)).mono ?_
  rintro r V3 l3 ⟨q,rfl,hq,e1,e2⟩
  have hof:ofT l root=if (di l (l.length+1) root ⟨List.replicate l.length false,0,false⟩).2.bad=true\/(di l (l.length+1) root ⟨List.replicate l.length false,0,false⟩).2.ji≠l.length then none else some (di l (l.length+1) root ⟨List.replicate l.length false,0,false⟩).1:=by
   unfold ofT;rw [if_neg h0]
  rw [hof]
  clear hof
  generalize di l (l.length+1) root ⟨List.replicate l.length false,0,false⟩=r0 at *
  obtain ⟨t,s⟩:=r0
  refine ⟨q,rfl,_,_,_,_,_,e1,_,e2,fun h1 V4 l4=>?_,fun h1=>⟨fun h2 V5 l5=>?_,fun h2 V6 l6=>?_⟩⟩
  ·rw [if_pos (.inl h1)]
   exact ⟨fun _=>⟨_,rfl⟩,fun t ht=>by cases ht⟩
  ·have h2:s.ji≠l.length:=by simp at h2;omega
   rw [if_pos (.inr h2)]
   exact ⟨fun _=>⟨_,rfl⟩,fun t ht=>by cases ht⟩
  ·have h2:s.ji=l.length:=by simp at h2;omega
   dsimp only at h1 ⊢
   rw [if_neg (by rw [h1,h2];simp)]
   exact ⟨fun e=>(by cases e),fun t1 ht=>by cases ht;exact ⟨q,rfl,RT.le (V:=V3) (V':=V6) (fun b o h=>l6 b o h) hq⟩⟩
end Go.Proofs.Tryz
