import Derived.Test.YtnnbfoejafcdlaaGreatDoorH10
import Derived.Test.YtnnbfoejafcdlaaGreatDoorH9
import Derived.Test.YtnnbfoejafcdlaaGreatDoorH7
set_option linter.unusedVariables false
open Go.IntKind (i64 u64 u32)
namespace Go.dP
def eR (x y:Rat):Int:=(x-y).num.sign
def ia (x y:Rat):Rat:=mkRat (Nat.gcd (x.num.natAbs*y.den) (y.num.natAbs*x.den):Nat) (x.den*y.den)
theorem Dm {q:Rat}:q.num<0↔q<0:=by
 have:=@Rat.num_nonneg q
 rw [←Rat.not_le,←this];omega
theorem Dn {q:Rat}:0<q.num↔0<q:=by
 have h1:=@Rat.num_nonneg q
 have h2:=@Rat.num_eq_zero q
 rw [Rat.lt_iff_le_and_ne,←h1]
 constructor
 ·intro h;exact ⟨by omega,fun e=>by rw [←e] at h;simp at h⟩
 ·rintro ⟨h,hne⟩
  have:q.num≠0:=fun e=>hne (h2.1 e).symm
  omega
theorem AQ {x y:Rat}:x<y↔eR x y=-1:=by
 unfold eR
 rw [Int.sign_eq_neg_one_iff_neg,Dm,Rat.lt_iff_sub_pos x y,←Rat.neg_sub y x]
 constructor
 ·intro h;have:=Rat.neg_lt_neg h;simpa using this
 ·intro h;have:=Rat.neg_lt_neg h;rw [Rat.neg_neg] at this;simpa using this
theorem tR {x y:Rat}:y<x↔eR x y=1:=by
 unfold eR
 rw [Int.sign_eq_one_iff_pos,Dn,Rat.lt_iff_sub_pos y x]
theorem mW {x y:Rat}:x=y↔eR x y=0:=by
 unfold eR
 rw [Int.sign_eq_zero_iff_zero,Rat.num_eq_zero]
 constructor
 ·intro h;subst h;exact Rat.sub_self
 ·intro h
  have:=congrArg (·+ y) h
  simpa [Rat.sub_add_cancel,Rat.zero_add] using this
end Go.dP
namespace Go.Proofs.Tryz
open Go.bE Go.dP
theorem oX {V:View}{v w:Value}{x y:Rat}(hx:RR V v x)(hy:RR V w y){k m:Nat}(hk:Sz k x)(hm:Sz m y)(hkm:k+m<1099511627776) :
  ab prog 181 #[v,w] V fun r V'=>RR V' r (x-y):=by
 obtain ⟨r0,r1,r2,rfl⟩:=hx.shape
 obtain ⟨s0,s1,s2,rfl⟩:=hy.shape
 refine yg _ _ _ _ _ _ V _ fun V1 l1=>(oV (hy.le l1) hm (by omega)).mono ?_
 rintro r V2 l2 h2
 obtain ⟨n,d,p,rfl⟩:=h2.shape
 refine ⟨_,_,_,rfl,fun V3 l3=>(jm (hx.le (l1.trans (l2.trans l3))) (h2.le l3) hk hm.neg hkm).mono ?_⟩
 rintro r V4 l4 h4
 rw [←Rat.sub_eq_add_neg] at h4
 obtain ⟨n,d,p,rfl⟩:=h4.shape
 exact ⟨_,_,_,rfl,fun V5 l5=>h4.le l5⟩
theorem kG {V:View}{v w:Value}{x y:Rat}(hx:RR V v x)(hy:RR V w y){k m:Nat}(hk:Sz k x)(hm:Sz m y)(hkm:k+m<1099511627776) :
  ab prog 191 #[v,w] V fun r V'=>r=.int .i64 (eR x y):=by
 obtain ⟨r0,r1,r2,rfl⟩:=hx.shape
 obtain ⟨s0,s1,s2,rfl⟩:=hy.shape
 have gen:∀mS:View,V.Le mS->ab prog 181 #[.agg #[.int .i64 r0,.int .i64 r1,.pointer r2],.agg #[.int .i64 s0,.int .i64 s1,.pointer s2]] mS fun Vd lH=>∃Yr:Int,∃Sn:Int,∃RC:OA,Vd=.agg #[.int .i64 Yr,.int .i64 Sn,.pointer RC]/\(∀lP:View,lH.Le lP->ab prog 137 #[.agg #[.int .i64 Yr,.int .i64 Sn,.pointer RC]] lP fun Ve mT=>∃So:Int,Ve=.int .i64 So/\(∀qt:View,mT.Le qt->Value.int .i64 So=.int .i64 (eR x y))):=by
  intro V1 l1
  refine (oX (hx.le l1) (hy.le l1) hk hm hkm).mono ?_
  rintro r V2 l2 h2
  obtain ⟨n,d,p,rfl⟩:=h2.shape
  refine ⟨_,_,_,rfl,fun V3 l3=>(eO (h2.le l3) (hk.sub hm) (by omega)).mono ?_⟩
  rintro r V4 l4 rfl
  exact ⟨_,rfl,fun _ _=>rfl⟩
 rcases hx with ⟨ex,wx⟩|⟨a,b,p,n,c,p',n',c',ex,-,-,-,-,-,wx⟩
 ·rcases hy with ⟨ey,wy⟩|⟨a,b,p,n,c,p',n',c',ey,-,-,-,-,-,wy⟩
  ·simp only [Value.agg.injEq,Array.mk.injEq,List.cons.injEq,Value.int.injEq,Value.pointer.injEq,true_and,and_true] at ex ey
   obtain ⟨rfl,rfl,rfl⟩:=ex
   obtain ⟨rfl,rfl,rfl⟩:=ey
   have hlt:x.den=y.den->((x<y↔x.num<y.num)/\(y<x↔y.num<x.num)/\(x=y↔x.num=y.num)):=by
    intro e
    have hd:(0:Int)<y.den:=by have:=y.den_nz;omega
    refine ⟨?_,?_,fun h=>by rw [h],fun h=>Rat.ext h e⟩
    ·rw [Rat.lt_iff,e];exact ⟨fun h=>Int.lt_of_mul_lt_mul_right h (by omega),fun h=>Int.mul_lt_mul_of_pos_right h hd⟩
    ·rw [Rat.lt_iff,e];exact ⟨fun h=>Int.lt_of_mul_lt_mul_right h (by omega),fun h=>Int.mul_lt_mul_of_pos_right h hd⟩
   refine jW _ _ _ _ _ _ V _ ⟨fun _=>⟨fun _=>⟨fun h1=>?_,fun _=>gen⟩,(fun h=>nomatch h)⟩,(fun h=>nomatch h)⟩
   have h1:x.den=y.den:=by rw [beq_iff_eq] at h1;omega
   obtain ⟨g1,g2,g3⟩:=hlt h1
   refine ⟨fun h V1 l1=>?_,fun h=>⟨fun h' V1 l1=>?_,fun h' V1 l1=>?_⟩⟩
   ·rw [AQ.1 (g1.2 (by simpa using h))]
   ·rw [tR.1 (g2.2 (by simpa using h'))]
   ·rw [mW.1 (g3.2 (by rw [decide_eq_false_iff_not] at h h';omega))]
  ·simp only [Value.agg.injEq,Array.mk.injEq,List.cons.injEq,Value.int.injEq,Value.pointer.injEq,true_and,and_true] at ex ey
   obtain ⟨rfl,rfl,rfl⟩:=ex
   obtain ⟨rfl,rfl,rfl⟩:=ey
   exact jW _ _ _ _ _ _ V _ ⟨fun _=>⟨(fun h=>nomatch h),fun _=>gen⟩,(fun h=>nomatch h)⟩
 ·simp only [Value.agg.injEq,Array.mk.injEq,List.cons.injEq,Value.int.injEq,Value.pointer.injEq,true_and,and_true] at ex
  obtain ⟨rfl,rfl,rfl⟩:=ex
  exact jW _ _ _ _ _ _ V _ ⟨(fun h=>nomatch h),fun _=>gen⟩
theorem zv {V:View}{v w:Value}{x y:Rat}(hx:RR V v x)(hy:RR V w y){k m:Nat}(hk:Sz k x)(hm:Sz m y)(hkm:k+m<1099511627776) :
  ab prog 178 #[v,w] V fun r V'=>r=.bool (decide (x=y)):=by
 obtain ⟨r0,r1,r2,rfl⟩:=hx.shape
 obtain ⟨s0,s1,s2,rfl⟩:=hy.shape
 refine tj _ _ _ _ _ _ V _ fun V1 l1=>(kG (hx.le l1) (hy.le l1) hk hm hkm).mono ?_
 rintro r V2 l2 rfl
 refine ⟨_,rfl,fun V3 l3=>?_⟩
 congr 1
 rw [Bool.eq_iff_iff,beq_iff_eq,decide_eq_true_eq,mW]
theorem CP {x y:Rat}{k m:Nat}(hx:Sz k x)(hy:Sz m y):x.num.natAbs*y.den<2^(k+m)/\y.num.natAbs*x.den<2^(k+m)/\Nat.gcd (x.num.natAbs*y.den) (y.num.natAbs*x.den)<2^(k+m)/\x.den*y.den<2^(k+m):=by
 have h1:x.num.natAbs*y.den<2^(k+m):=bJ hx.1 hy.2
 have h2:y.num.natAbs*x.den<2^(k+m):=by rw [Nat.add_comm];exact bJ hy.1 hx.2
 refine ⟨h1,h2,?_,bJ hx.2 hy.2⟩
 rcases Nat.eq_zero_or_pos (x.num.natAbs*y.den) with e|e
 ·rw [e,Nat.gcd_zero_left];exact h2
 ·exact Nat.lt_of_le_of_lt (Nat.le_of_dvd e (Nat.gcd_dvd_left _ _)) h1
theorem mP {x y:Rat}{k m:Nat}(hx:Sz k x)(hy:Sz m y):Sz (k+m+1) (ia x y):=by
 obtain ⟨-,-,h3,h4⟩:=CP hx hy
 have h5:2^(k+m)<=2^(k+m+1):=Nat.pow_le_pow_right (by omega) (by omega)
 exact Go.bE.Sz.mkRat (by rw [Int.natAbs_natCast];omega) (by omega) (by omega)
theorem kI {V:View}{v w:Value}{x y:Rat}(hx:RR V v x)(hy:RR V w y){k m:Nat}(hk:Sz k x)(hm:Sz m y)(hkm:k+m<1099511627776) :
  ab prog 177 #[v,w] V fun r V'=>RR V' r (ia x y):=by
 obtain ⟨r0,r1,r2,rfl⟩:=hx.shape
 obtain ⟨s0,s1,s2,rfl⟩:=hy.shape
 obtain ⟨b1,b2,b3,b4⟩:=CP hk hm
 have q1:=af hk.1
 have q2:=af hk.2
 have q3:=af hm.1
 have q4:=af hm.2
 have q5:=af b1
 have q6:=af b2
 have q7:=af b3
 have q8:=af b4
 have gen:(∀WG:View,V.Le WG->ab prog 141 #[.agg #[.int .i64 r0,.int .i64 r1,.pointer r2]] WG fun Vq YI=>∃(RG:OA)(Rh P8:Nat),Vq=.slice RG Rh P8/\(∀WH:View,YI.Le WH->ab prog 141 #[.agg #[.int .i64 s0,.int .i64 s1,.pointer s2]] WH fun Vs YJ=>∃(RH:OA)(Ri P9:Nat),Vs=.slice RH Ri P9/\(∀WI:View,YJ.Le WI->ab prog 209 #[.slice RG Rh P8,.slice RH Ri P9] WI fun Vt YK=>∃(Kl:OA)(J4 Jb:Nat),Vt=.slice Kl J4 Jb/\(∀WJ:View,YK.Le WJ->ab prog 140 #[.agg #[.int .i64 r0,.int .i64 r1,.pointer r2]] WJ fun Vu YL=>∃Tx:Bool,∃(RK:OA)(Rk Qa:Nat),Vu=.agg #[.bool Tx,.slice RK Rk Qa]/\(∀WK:View,YL.Le WK->ab prog 141 #[.agg #[.int .i64 s0,.int .i64 s1,.pointer s2]] WK fun Vv YM=>∃(Km:OA)(J5 Jc:Nat),Vv=.slice Km J5 Jc/\(∀WL:View,YM.Le WL->ab prog 209 #[.slice RK Rk Qa,.slice Km J5 Jc] WL fun Vw YN=>∃(RM:OA)(Rm Qb:Nat),Vw=.slice RM Rm Qb/\(∀WM:View,YN.Le WM->ab prog 140 #[.agg #[.int .i64 s0,.int .i64 s1,.pointer s2]] WM fun Vx YO=>∃Ty:Bool,∃(Kn:OA)(J6 Jd:Nat),Vx=.agg #[.bool Ty,.slice Kn J6 Jd]/\(∀WN:View,YO.Le WN->ab prog 141 #[.agg #[.int .i64 r0,.int .i64 r1,.pointer r2]] WN fun Vy YP=>∃(RT:OA)(Rp Qd:Nat),Vy=.slice RT Rp Qd/\(∀WO:View,YP.Le WO->ab prog 209 #[.slice Kn J6 Jd,.slice RT Rp Qd] WO fun Vz YQ=>∃(Ko:OA)(J7 Je:Nat),Vz=.slice Ko J7 Je/\(∀WQ:View,YQ.Le WQ->ab prog 210 #[.slice RM Rm Qb,.slice Ko J7 Je] WQ fun VA YR=>∃(RU:OA)(Rq Qe:Nat),VA=.slice RU Rq Qe/\(∀WR:View,YR.Le WR->ab prog 190 #[.agg #[.bool false,.slice RU Rq Qe],.slice Kl J4 Jb] WR fun VB YS=>∃Sq:Int,∃Sr:Int,∃Kp:OA,VB=.agg #[.int .i64 Sq,.int .i64 Sr,.pointer Kp]/\(∀PU:View,YS.Le PU->RR PU (.agg #[.int .i64 Sq,.int .i64 Sr,.pointer Kp]) (ia x y))))))))))))):=by
  intro V1 l1
  refine (en (hx.le l1) hk (by omega)).mono ?_
  rintro r V2 l2 ⟨p1,n1,c1,rfl,g1⟩
  refine ⟨_,_,_,rfl,fun V3 l3=>(en (hy.le (l1.trans (l2.trans l3))) hm (by omega)).mono ?_⟩
  rintro r V4 l4 ⟨p2,n2,c2,rfl,g2⟩
  refine ⟨_,_,_,rfl,fun V5 l5=>(gx (g1.le (l3.trans (l4.trans l5))) (g2.le l5) (by omega)).mono ?_⟩
  rintro r V6 l6 ⟨p3,n3,c3,rfl,g3⟩
  rw [ae,ae] at g3
  have L6:=l1.trans (l2.trans (l3.trans (l4.trans (l5.trans l6))))
  refine ⟨_,_,_,rfl,fun V7 l7=>(fc (hx.le (L6.trans l7)) hk (by omega)).mono ?_⟩
  rintro r V8 l8 ⟨p4,n4,c4,rfl,g4⟩
  refine ⟨_,_,_,_,rfl,fun V9 l9=>(en (hy.le (L6.trans (l7.trans (l8.trans l9)))) hm (by omega)).mono ?_⟩
  rintro r jG l10 ⟨p5,n5,c5,rfl,g5⟩
  refine ⟨_,_,_,rfl,fun jZ bI=>(gx (g4.le (l9.trans (l10.trans bI))) (g5.le bI) (by omega)).mono ?_⟩
  rintro r mQ bV ⟨p6,n6,c6,rfl,g6⟩
  rw [ae,ae] at g6
  have IW:=L6.trans (l7.trans (l8.trans (l9.trans (l10.trans (bI.trans bV)))))
  refine ⟨_,_,_,rfl,fun qv cC=>(fc (hy.le (IW.trans cC)) hm (by omega)).mono ?_⟩
  rintro r mS du ⟨p7,n7,c7,rfl,g7⟩
  refine ⟨_,_,_,_,rfl,fun lH dv=>(en (hx.le (IW.trans (cC.trans (du.trans dv)))) hk (by omega)).mono ?_⟩
  rintro r lP cX ⟨p8,n8,c8,rfl,g8⟩
  refine ⟨_,_,_,rfl,fun mT c_=>(gx (g7.le (dv.trans (cX.trans c_))) (g8.le c_) (by omega)).mono ?_⟩
  rintro r qt cR ⟨p9,n9,c9,rfl,g9⟩
  rw [ae,ae] at g9
  have Wo:=cC.trans (du.trans (dv.trans (cX.trans (c_.trans cR))))
  refine ⟨_,_,_,rfl,fun rK dA=>(zy (g6.le (Wo.trans dA)) (g9.le dA) (by omega) (by omega)).mono ?_⟩
  rintro r yV fG ⟨G5,n10,c10,rfl,g10⟩
  rw [ae,ae] at g10
  refine ⟨_,_,_,rfl,fun ui fv=>(ck false (g10.le fv) (g3.le (l7.trans (l8.trans (l9.trans (l10.trans (bI.trans (bV.trans (Wo.trans (dA.trans (fG.trans fv)))))))))) (by omega) (by omega)).mono ?_⟩
  rintro r uj gF h22
  rw [oo,ae,ae] at h22
  obtain ⟨n,d,p,rfl⟩:=h22.shape
  exact ⟨_,_,_,rfl,fun xu gY=>h22.le gY⟩
 rcases hx with ⟨ex,wx⟩|⟨a,b,p,n,c,p',n',c',ex,-,-,-,-,-,wx⟩
 ·rcases hy with ⟨ey,wy⟩|⟨a,b,p,n,c,p',n',c',ey,-,-,-,-,-,wy⟩
  ·simp only [Value.agg.injEq,Array.mk.injEq,List.cons.injEq,Value.int.injEq,Value.pointer.injEq,true_and,and_true] at ex ey
   obtain ⟨rfl,rfl,rfl⟩:=ex
   obtain ⟨rfl,rfl,rfl⟩:=ey
   obtain ⟨Sl,Ym⟩:=wx
   obtain ⟨Sm,Yn⟩:=wy
   refine mI _ _ _ _ _ _ V _ ⟨fun _=>⟨fun _=>⟨fun h1=>⟨fun _ _=>True,⟨fun h2 V1 l1=>?_,fun _=>⟨(),by and_intros<;>rfl,trivial⟩⟩,fun _ V1 l1 _=>⟨by trivial,fun V2 l2=>gen V2 (l1.trans l2)⟩⟩,fun _=>gen⟩,(fun h=>nomatch h)⟩,(fun h=>nomatch h)⟩
   have h1:x.den=1:=by rw [beq_iff_eq] at h1;omega
   have h2:y.den=1:=by rw [beq_iff_eq] at h2;omega
   refine (iO _ (by omega) (by omega)).mono ?_
   rintro r V2 l2 rfl
   refine ⟨_,rfl,fun V3 l3=>(iO _ (by omega) (by omega)).mono ?_⟩
   rintro r V4 l4 rfl
   refine ⟨_,rfl,fun V5 l5=>(uE _ _ (by omega) (by omega)).mono ?_⟩
   rintro r V6 l6 rfl
   refine ⟨_,rfl,fun V7 l7=>.inl ?_⟩
   have e:ia x y=((Nat.gcd x.num.natAbs y.num.natAbs:Nat):Int):=by
    unfold ia
    rw [h1,h2,Nat.mul_one,Nat.mul_one,Nat.mul_one]
    exact mkRat_one _
   have hl:Nat.gcd x.num.natAbs y.num.natAbs<4611686018427387904:=by
    rcases Nat.eq_zero_or_pos x.num.natAbs with e|e
    ·rw [e,Nat.gcd_zero_left];exact Sm
    ·exact Nat.lt_of_le_of_lt (Nat.le_of_dvd e (Nat.gcd_dvd_left _ _)) Sl
   rw [e,aB (by omega)]
   exact ⟨rfl,vA (by rw [Int.natAbs_natCast];exact hl)⟩
  ·simp only [Value.agg.injEq,Array.mk.injEq,List.cons.injEq,Value.int.injEq,Value.pointer.injEq,true_and,and_true] at ex ey
   obtain ⟨rfl,rfl,rfl⟩:=ex
   obtain ⟨rfl,rfl,rfl⟩:=ey
   exact mI _ _ _ _ _ _ V _ ⟨fun _=>⟨(fun h=>nomatch h),fun _=>gen⟩,(fun h=>nomatch h)⟩
 ·simp only [Value.agg.injEq,Array.mk.injEq,List.cons.injEq,Value.int.injEq,Value.pointer.injEq,true_and,and_true] at ex
  obtain ⟨rfl,rfl,rfl⟩:=ex
  exact mI _ _ _ _ _ _ V _ ⟨(fun h=>nomatch h),fun _=>gen⟩
def RA (V:View)(v:Value)(q:Rat):Prop:=∃p n c p' n' c',v=.agg #[.bool (decide (q.num<0)),.slice p n c,.slice p' n' c']/\RD V p n c (ag q.num.natAbs)/\RD V p' n' c' (ag q.den)
theorem RA.le {V V':View}{v:Value}{q:Rat}(h:RA V v q)(l:V.Le V'):RA V' v q:=by
 obtain ⟨p,n,c,p',n',c',e,h1,h2⟩:=h
 exact ⟨p,n,c,p',n',c',e,h1.le l,h2.le l⟩
theorem nY {V:View}(b:Bool){p q:OA}{n c m e:Nat}{xs ys:List Nat}(hx:RD V p n c xs)(hy:RD V q m e ys)(hm:xs.length<=1099511627776)(hn:ys.length<=1099511627776) :
  ab prog 170 #[.agg #[.bool b,.slice p n c,.slice q m e]] V fun r V'=>RR V' r (mkRat (ay b xs) (val ys)):=by
 refine FX b p n c q m e V _ fun V1 l1=>(ck b (hx.le l1) (hy.le l1) hm hn).mono ?_
 rintro r V2 l2 h
 obtain ⟨u,v,w,rfl⟩:=h.shape
 exact ⟨_,_,_,rfl,fun V3 l3=>h.le l3⟩
theorem zw {V:View}{v:Value}{q:Rat}(h:RA V v q){k:Nat}(hs:Sz k q)(hk:k<=1099511627776):ab prog 170 #[v] V fun r V'=>RR V' r q:=by
 obtain ⟨p,n,c,p',n',c',rfl,h1,h2⟩:=h
 have q1:=af hs.1
 have q2:=af hs.2
 refine (nY _ h1 h2 (by omega) (by omega)).mono ?_
 rintro r V' _ h
 rw [az,ae,Rat.mkRat_self] at h
 exact h
theorem Az {V:View}{v:Value}{q:Rat}(h:RR V v q){k:Nat}(hs:Sz k q)(hk:k<=1099511627776):ab prog 83 #[v] V fun r V'=>RA V' r q:=by
 have h0:=h
 obtain ⟨r0,r1,r2,rfl⟩:=h.shape
 refine x_ r0 r1 r2 V _ fun V1 l1=>(fc (h0.le l1) hs hk).mono ?_
 rintro r V2 l2 ⟨p1,n1,c1,rfl,g1⟩
 refine ⟨_,_,_,_,rfl,fun V3 l3=>(en (h0.le (l1.trans (l2.trans l3))) hs hk).mono ?_⟩
 rintro r V4 l4 ⟨p2,n2,c2,rfl,g2⟩
 exact ⟨_,_,_,rfl,fun V5 l5=>⟨_,_,_,_,_,_,rfl,g1.le (l3.trans (l4.trans l5)),g2.le l5⟩⟩
theorem fa {V:View}{v w:Value}{x y:Rat}(hx:RR V v x)(hy:RR V w y){k m:Nat}(hk:Sz k x)(hm:Sz m y)(hkm:k+m<1099511627776) :
  ab prog 184 #[v,w] V fun r V'=>RR V' r (x*y):=by
 obtain ⟨r0,r1,r2,rfl⟩:=hx.shape
 obtain ⟨s0,s1,s2,rfl⟩:=hy.shape
 have hxy:x*y=mkRat (x.num*y.num) (x.den*y.den):=Rat.mul_def' x y
 have b1:(x.num*y.num).natAbs<2^(k+m):=by rw [Int.natAbs_mul,Nat.pow_add];exact Nat.mul_lt_mul'' hk.1 hm.1
 have b2:x.den*y.den<2^(k+m):=by rw [Nat.pow_add];exact Nat.mul_lt_mul'' hk.2 hm.2
 have q1:=af hk.1
 have q2:=af hk.2
 have q3:=af hm.1
 have q4:=af hm.2
 have q5:=af b1
 have q6:=af b2
 refine yd r0 r1 r2 s0 s1 s2 V _ ⟨fun hr=>⟨fun _ _=>True,⟨fun hs=>?_,fun _=>⟨(),by (try dsimp only);and_intros<;>trivial,trivial⟩⟩,fun _ V8 l8 _=>⟨rfl,fun V9 l9'=>?_⟩⟩,fun _ V9 l9=>?_⟩
 ·rcases hx with ⟨ex,wx⟩|⟨a,b,p,n,c,p',n',c',ex,-,-,-,-,-,wx⟩
  ·rcases hy with ⟨ey,wy⟩|⟨a,b,p,n,c,p',n',c',ey,-,-,-,-,-,wy⟩
   ·simp only [Value.agg.injEq,Array.mk.injEq,List.cons.injEq,Value.int.injEq,Value.pointer.injEq,true_and,and_true] at ex ey
    obtain ⟨rfl,rfl,rfl⟩:=ex
    obtain ⟨rfl,rfl,rfl⟩:=ey
    obtain ⟨Sl,Ym⟩:=wx
    obtain ⟨Sm,Yn⟩:=wy
    have dx:=x.den_nz
    have dy:=y.den_nz
    have e1:i64.wrap ((x.den:Int)-1+1)=x.den:=by rw [aB (by omega)];omega
    have e2:i64.wrap ((y.den:Int)-1+1)=y.den:=by rw [aB (by omega)];omega
    rw [e1,e2]
    intro V1 l1
    refine (fK _ _ Sl Sm).mono ?_
    rintro r V2 l2 ⟨z1,rfl,hz1⟩
    refine ⟨_,_,rfl,fun V3 l3=>(fK _ _ (by omega) (by omega)).mono ?_⟩
    rintro r V4 l4 ⟨z2,rfl,hz2⟩
    refine ⟨_,_,rfl,fun t1=>⟨fun t2 V5 l5=>?_,fun _=>⟨(),by (try dsimp only);and_intros<;>trivial,trivial⟩⟩,fun _=>⟨(),by (try dsimp only);and_intros<;>trivial,trivial⟩⟩
    have t1:=of_decide_eq_true t1
    have t2:=of_decide_eq_true t2
    rw [hz1 t1,hz2 t2]
    have hd:((x.den:Int)*(y.den:Int))=((x.den*y.den:Nat):Int):=(Int.natCast_mul ..).symm
    rw [hd] at t2 ⊢
    refine (nI _ _ t1 (by rwa [Int.natAbs_natCast] at t2) (Nat.mul_ne_zero dx dy)).mono ?_
    rintro r V6 l6 h6
    rw [←hxy] at h6
    obtain ⟨n,d,p,rfl⟩:=h6.shape
    exact ⟨_,_,_,rfl,fun V7 l7=>h6.le l7⟩
   ·simp only [Value.agg.injEq,Array.mk.injEq,List.cons.injEq,Value.int.injEq,Value.pointer.injEq,true_and,and_true] at ey
    obtain ⟨rfl,rfl,rfl⟩:=ey
    cases hs
  ·simp only [Value.agg.injEq,Array.mk.injEq,List.cons.injEq,Value.int.injEq,Value.pointer.injEq,true_and,and_true] at ex
   obtain ⟨rfl,rfl,rfl⟩:=ex
   cases hr
 ·have l9:=l8.trans l9'
  refine (fc (hx.le l9) hk (by omega)).mono ?_
  rintro r jG l10 ⟨p1,n1,c1,rfl,g1⟩
  refine ⟨_,_,_,_,rfl,fun jZ bI=>(fc (hy.le (l9.trans (l10.trans bI))) hm (by omega)).mono ?_⟩
  rintro r mQ bV ⟨p2,n2,c2,rfl,g2⟩
  refine ⟨_,_,_,_,rfl,fun qv cC=>(gK _ _ (g1.le (bI.trans (bV.trans cC))) (g2.le cC) (by omega)).mono ?_⟩
  rintro r mS du IM
  rw [az,az] at IM
  obtain ⟨p3,n3,c3,rfl,g3⟩:=IM
  have Gm:=l9.trans (l10.trans (bI.trans (bV.trans (cC.trans du))))
  refine ⟨_,_,_,_,rfl,fun lH dv=>(en (hx.le (Gm.trans dv)) hk (by omega)).mono ?_⟩
  rintro r lP cX ⟨p4,n4,c4,rfl,g4⟩
  refine ⟨_,_,_,rfl,fun mT c_=>(en (hy.le (Gm.trans (dv.trans (cX.trans c_)))) hm (by omega)).mono ?_⟩
  rintro r qt cR ⟨p5,n5,c5,rfl,g5⟩
  refine ⟨_,_,_,rfl,fun rK dA=>(gx (g4.le (c_.trans (cR.trans dA))) (g5.le dA) (by omega)).mono ?_⟩
  rintro r yV fG ⟨p6,n6,c6,rfl,g6⟩
  rw [ae,ae] at g6
  refine ⟨_,_,_,rfl,fun ui fv=>(ck _ (g3.le (dv.trans (cX.trans (c_.trans (cR.trans (dA.trans (fG.trans fv))))))) (g6.le fv) (by omega) (by omega)).mono ?_⟩
  rintro r uj gF h22
  rw [az,ae,←hxy] at h22
  obtain ⟨n,d,p,rfl⟩:=h22.shape
  exact ⟨_,_,_,rfl,fun xu gY=>h22.le gY⟩
 ·skip
  refine (fc (hx.le l9) hk (by omega)).mono ?_
  rintro r jG l10 ⟨p1,n1,c1,rfl,g1⟩
  refine ⟨_,_,_,_,rfl,fun jZ bI=>(fc (hy.le (l9.trans (l10.trans bI))) hm (by omega)).mono ?_⟩
  rintro r mQ bV ⟨p2,n2,c2,rfl,g2⟩
  refine ⟨_,_,_,_,rfl,fun qv cC=>(gK _ _ (g1.le (bI.trans (bV.trans cC))) (g2.le cC) (by omega)).mono ?_⟩
  rintro r mS du IM
  rw [az,az] at IM
  obtain ⟨p3,n3,c3,rfl,g3⟩:=IM
  have Gm:=l9.trans (l10.trans (bI.trans (bV.trans (cC.trans du))))
  refine ⟨_,_,_,_,rfl,fun lH dv=>(en (hx.le (Gm.trans dv)) hk (by omega)).mono ?_⟩
  rintro r lP cX ⟨p4,n4,c4,rfl,g4⟩
  refine ⟨_,_,_,rfl,fun mT c_=>(en (hy.le (Gm.trans (dv.trans (cX.trans c_)))) hm (by omega)).mono ?_⟩
  rintro r qt cR ⟨p5,n5,c5,rfl,g5⟩
  refine ⟨_,_,_,rfl,fun rK dA=>(gx (g4.le (c_.trans (cR.trans dA))) (g5.le dA) (by omega)).mono ?_⟩
  rintro r yV fG ⟨p6,n6,c6,rfl,g6⟩
  rw [ae,ae] at g6
  refine ⟨_,_,_,rfl,fun ui fv=>(ck _ (g3.le (dv.trans (cX.trans (c_.trans (cR.trans (dA.trans (fG.trans fv))))))) (g6.le fv) (by omega) (by omega)).mono ?_⟩
  rintro r uj gF h22
  rw [az,ae,←hxy] at h22
  obtain ⟨n,d,p,rfl⟩:=h22.shape
  exact ⟨_,_,_,rfl,fun xu gY=>h22.le gY⟩
theorem inv_neg {q:Rat}(h:q.num<0):(q⁻¹).num=-(q.den:Int)/\(q⁻¹).den=q.num.natAbs:=by
 show (Rat.inv q).num=_/\(Rat.inv q).den=_
 unfold Rat.inv
 rw [dif_pos h]
 exact ⟨rfl,rfl⟩
theorem inv_pos {q:Rat}(h:0<q.num):(q⁻¹).num=(q.den:Int)/\(q⁻¹).den=q.num.natAbs:=by
 show (Rat.inv q).num=_/\(Rat.inv q).den=_
 unfold Rat.inv
 rw [dif_neg (by omega),dif_pos h]
 exact ⟨rfl,rfl⟩
theorem inv_zero {q:Rat}(h:q.num=0):q⁻¹=0:=by
 have:q=0:=Rat.num_eq_zero.1 h
 subst this
 exact Rat.inv_zero
theorem cY {k:Nat}{q:Rat}(h:Sz k q):Sz k q⁻¹:=by
 rcases Int.lt_trichotomy q.num 0 with h0|h0|h0
 ·obtain ⟨e1,e2⟩:=inv_neg h0
  refine ⟨?_,?_⟩
  ·rw [e1,Int.natAbs_neg];exact h.2
  ·rw [e2];exact h.1
 ·rw [inv_zero h0]
  exact ⟨Nat.two_pow_pos _,Nat.lt_of_le_of_lt (Nat.pos_of_ne_zero q.den_nz) h.2⟩
 ·obtain ⟨e1,e2⟩:=inv_pos h0
  exact ⟨by rw [e1];exact h.2,by rw [e2];exact h.1⟩
theorem LC {V:View}{v:Value}{q:Rat}(h:RR V v q){k:Nat}(hs:Sz k q)(hk:k<=1099511627776):ab prog 192 #[v] V fun r V'=>RR V' r q⁻¹:=by
 rcases h with ⟨rfl,hw⟩|⟨a,b,p,n,c,p',n',c',rfl,h1,h2,h3,h4,h5,hw⟩
 ·obtain ⟨w1,w2⟩:=hw
  have hd:=q.den_nz
  refine nS _ _ _ V _ ⟨(fun h0=>nomatch h0),fun _=>⟨fun g V4 l4=>?_,fun g=>⟨fun g2 V5 l5=>?_,fun g2 V6 l6=>?_⟩⟩⟩
  ·have g:=of_decide_eq_true g
   obtain ⟨e1,e2⟩:=inv_neg g
   refine .inl ⟨?_,?_⟩
   ·rw [e1,e2,aB (x:=(q.den:Int)-1+1) (by omega),aB (x:=0-q.num) (by omega),aB (x:=0-((q.den:Int)-1+1)) (by omega),aB (by omega)]
    congr 4
    ·omega
    ·congr 1;omega
   ·unfold Wd;rw [e1,e2,Int.natAbs_neg];exact ⟨w2,w1⟩
  ·have g2:q.num=0:=by simpa using g2
   rw [inv_zero g2]
   exact .inl ⟨rfl,by decide,by decide⟩
  ·have g:¬q.num<0:=of_decide_eq_false g
   have g2:q.num≠0:=by simpa using g2
   obtain ⟨e1,e2⟩:=inv_pos (q:=q) (by omega)
   refine .inl ⟨?_,?_⟩
   ·rw [e1,e2,aB (x:=(q.den:Int)-1+1) (by omega),aB (by omega)]
    congr 4
    ·omega
    ·congr 1;omega
   ·unfold Wd;rw [e1,e2];exact ⟨w2,w1⟩
 ·obtain ⟨rfl,hn⟩:=h4.inv
  have q1:=af hs.1
  have q2:=af hs.2
  refine nS _ _ _ V _ ⟨fun _=>⟨rfl,rfl,rfl,decide (q.num<0),⟨a.add 0,by simp [ah,Addr.add],h1⟩,rfl,rfl,p',n',c',⟨a.add 2,rfl,h3⟩,rfl,rfl,rfl,p,n,c,⟨a.add 1,by simp [ah,Addr.add],h2⟩,fun V1 l1=>(ck _ (h5.le l1) (hn.le l1) (by omega) (by omega)).mono ?_⟩,fun h0=>nomatch h0⟩
  rintro r V2 l2 h
  have e:mkRat (ay (decide (q.num<0)) (ag q.den)) (val (ag q.num.natAbs))=q⁻¹:=by
   rw [ae]
   have hv:ay (decide (q.num<0)) (ag q.den)=if q.num<0 then -(q.den:Int) else (q.den:Int):=by
    unfold ay
    rw [ae]
    by_cases g:q.num<0<;>simp [g]
   rw [hv]
   rcases Int.lt_trichotomy q.num 0 with h0|h0|h0
   ·obtain ⟨e1,e2⟩:=inv_neg h0
    rw [if_pos h0,←e1,←e2,Rat.mkRat_self]
   ·rw [inv_zero h0,h0];simp
   ·obtain ⟨e1,e2⟩:=inv_pos h0
    rw [if_neg (by omega),←e1,←e2,Rat.mkRat_self]
  rw [e] at h
  obtain ⟨u,v,w,rfl⟩:=h.shape
  exact ⟨_,_,_,rfl,fun V3 l3=>h.le l3⟩
theorem oW {V:View}{v w:Value}{x y:Rat}(hx:RR V v x)(hy:RR V w y){k m:Nat}(hk:Sz k x)(hm:Sz m y)(hkm:k+m<1099511627776) :
  ab prog 147 #[v,w] V fun r V'=>RR V' r (x*y⁻¹):=by
 have hx0:=hx
 have hy0:=hy
 obtain ⟨r0,r1,r2,rfl⟩:=hx.shape
 obtain ⟨s0,s1,s2,rfl⟩:=hy.shape
 refine yf r0 r1 r2 s0 s1 s2 V _ fun V1 l1=>(LC (hy0.le l1) hm (by omega)).mono ?_
 rintro r V2 l2 h2
 have h20:=h2
 obtain ⟨u,v,w,rfl⟩:=h2.shape
 refine ⟨_,_,_,rfl,fun V3 l3=>(fa (hx0.le (l1.trans (l2.trans l3))) (h20.le l3) hk (cY hm) hkm).mono ?_⟩
 rintro r V4 l4 h4
 have SL:=h4
 obtain ⟨u,v,w,rfl⟩:=h4.shape
 exact ⟨_,_,_,rfl,fun V5 l5=>SL.le l5⟩
theorem Ni (a b:Nat)(ha:a<4294967296)(hb:b<4294967296):bz .and .u32 (a:Int) (b:Int)=((a &&& b:Nat):Int):=by
 have h2:(BitVec.ofInt IntKind.u32.bits ((a:Nat):Int) &&& BitVec.ofInt IntKind.u32.bits ((b:Nat):Int)).toNat=a &&& b:=by
  show (BitVec.ofInt 32 ((a:Nat):Int) &&& BitVec.ofInt 32 ((b:Nat):Int)).toNat=_
  rw [BitVec.ofInt_natCast,BitVec.ofInt_natCast,BitVec.toNat_and,BitVec.toNat_ofNat,BitVec.toNat_ofNat,Nat.mod_eq_of_lt (by omega),Nat.mod_eq_of_lt (by omega)]
 have h3:a &&& b<2^32:=Nat.and_lt_two_pow a (by omega)
 rw [bz,iB,h2]
 omega
theorem Va (a b:Nat)(ha:a<4294967296)(hb:b<4294967296):bz .or .u32 (a:Int) (b:Int)=((a ||| b:Nat):Int):=by
 have h2:(BitVec.ofInt IntKind.u32.bits ((a:Nat):Int) ||| BitVec.ofInt IntKind.u32.bits ((b:Nat):Int)).toNat=a ||| b:=by
  show (BitVec.ofInt 32 ((a:Nat):Int) ||| BitVec.ofInt 32 ((b:Nat):Int)).toNat=_
  rw [BitVec.ofInt_natCast,BitVec.ofInt_natCast,BitVec.toNat_or,BitVec.toNat_ofNat,BitVec.toNat_ofNat,Nat.mod_eq_of_lt (by omega),Nat.mod_eq_of_lt (by omega)]
 have h3:a ||| b<2^32:=Nat.or_lt_two_pow (by omega) (by omega)
 rw [bz,iB,h2]
 omega
theorem La (a b:Nat)(ha:a<4294967296)(hb:b<4294967296):bz .xor .u32 (a:Int) (b:Int)=((a ^^^ b:Nat):Int):=by
 have h2:(BitVec.ofInt IntKind.u32.bits ((a:Nat):Int) ^^^ BitVec.ofInt IntKind.u32.bits ((b:Nat):Int)).toNat=a ^^^ b:=by
  show (BitVec.ofInt 32 ((a:Nat):Int) ^^^ BitVec.ofInt 32 ((b:Nat):Int)).toNat=_
  rw [BitVec.ofInt_natCast,BitVec.ofInt_natCast,BitVec.toNat_xor,BitVec.toNat_ofNat,BitVec.toNat_ofNat,Nat.mod_eq_of_lt (by omega),Nat.mod_eq_of_lt (by omega)]
 have h3:a ^^^ b<2^32:=Nat.xor_lt_two_pow (by omega) (by omega)
 rw [bz,iB,h2]
 omega
theorem Sb {n:Nat}(h:n<4294967296):n / 2147483648=if n.testBit 31 then 1 else 0:=by
 rw [Nat.testBit_eq_decide_div_mod_eq]
 have:(2:Nat)^31=2147483648:=by decide
 rw [this]
 split
 ·rename_i h1;simp at h1;omega
 ·rename_i h1;simp at h1;omega
theorem Gu {n:Nat}(h:n<4294967296):n.testBit 31=decide (2147483648<=n):=by
 rw [Nat.testBit_eq_decide_div_mod_eq]
 have:(2:Nat)^31=2147483648:=by decide
 rw [this]
 congr 1
 simp;omega
theorem I_ (x y c:Nat)(hx:x<4294967296)(hy:y<4294967296)(hc:c<=1){d:Nat}(hd:(d:Int)=((x:Int)-y-c)%4294967296) :
  (((4294967295 ^^^ x) &&& y) ||| ((4294967295 ^^^ (x ^^^ y)) &&& d)) / 2147483648=if x<y+c then 1 else 0:=by
 have h1:(4294967295 ^^^ x)<2^32:=Nat.xor_lt_two_pow (by omega) (by omega)
 have h2:x ^^^ y<2^32:=Nat.xor_lt_two_pow (by omega) (by omega)
 have h3:(4294967295 ^^^ (x ^^^ y))<2^32:=Nat.xor_lt_two_pow (by omega) h2
 have h4:(4294967295 ^^^ x) &&& y<2^32:=Nat.and_lt_two_pow _ (by omega)
 have h5:(4294967295 ^^^ (x ^^^ y)) &&& d<2^32:=Nat.and_lt_two_pow _ (by omega)
 have h6:=Nat.or_lt_two_pow h4 h5
 rw [Sb h6]
 have hd':d<4294967296:=by omega
 rw [Nat.testBit_or,Nat.testBit_and,Nat.testBit_and,Nat.testBit_xor,Nat.testBit_xor,Nat.testBit_xor,Gu hx,Gu hy,Gu hd',Gu (n:=4294967295) (by omega)]
 by_cases a1:2147483648<=x<;>by_cases a2:2147483648<=y<;>by_cases a3:2147483648<=d<;>simp [a1,a2,a3]<;>omega
theorem LG {V:View}(x y c:Nat)(hx:x<4294967296)(hy:y<4294967296)(hc:c<=1) :
  ab prog 201 #[.int .u32 (x:Int),.int .u32 (y:Int),.int .u32 (c:Int)] V fun r V'=>∃d b:Nat,r=.tuple #[.int .u32 (d:Int),.int .u32 (b:Int)]/\d<4294967296/\b<=1/\d+(y+c)=x+4294967296*b:=by
 refine oO _ _ _ V _ ⟨by omega,fun V1 l1=>?_⟩
 obtain ⟨d,hd⟩:∃d:Nat,(d:Int)=((x:Int)-y-c)%4294967296:=⟨(((x:Int)-y-c)%4294967296).toNat,by omega⟩
 have hd':d<4294967296:=by omega
 have w1:u32.wrap (u32.wrap ((x:Int)-y)-c)=(d:Int):=by rw [iB,iB];omega
 have w2:IntKind.u32.max=((4294967295:Nat):Int):=rfl
 have h1:(4294967295 ^^^ x)<2^32:=Nat.xor_lt_two_pow (by omega) (by omega)
 have h2:x ^^^ y<2^32:=Nat.xor_lt_two_pow (by omega) (by omega)
 have h3:(4294967295 ^^^ (x ^^^ y))<2^32:=Nat.xor_lt_two_pow (by omega) h2
 have h4:(4294967295 ^^^ x) &&& y<2^32:=Nat.and_lt_two_pow _ (by omega)
 have h5:(4294967295 ^^^ (x ^^^ y)) &&& d<2^32:=Nat.and_lt_two_pow _ (by omega)
 rw [w1,w2,La _ _ (by omega) hx,Ni _ _ h1 hy,La _ _ hx hy,La _ _ (by omega) h2,Ni _ _ h3 hd',Va _ _ h4 h5,fP]
 have e:(2:Nat)^31=2147483648:=by decide
 rw [e,I_ x y c hx hy hc hd]
 refine ⟨d,_,rfl,hd',?_,?_⟩
 ·split<;>omega
 ·split<;>omega
theorem Lz {V:View}(hi lo y:Nat)(hh:hi<y)(hl:lo<4294967296)(hy:y<4294967296) :
  ab prog 172 #[.int .u32 (hi:Int),.int .u32 (lo:Int),.int .u32 (y:Int)] V fun r V'=>r=.tuple #[.int .u32 (((hi*4294967296+lo) / y:Nat):Int),.int .u32 (((hi*4294967296+lo)%y:Nat):Int)]:=by
 have key:∀V1:View,Value.tuple #[.int .u32 (u32.wrap (u64.wrap ((bz .or .u64 (u64.wrap ((u64.wrap (hi:Int))*2^32)) (u64.wrap (lo:Int))).tdiv (u64.wrap (y:Int))))),.int .u32 (u32.wrap ((bz .or .u64 (u64.wrap ((u64.wrap (hi:Int))*2^32)) (u64.wrap (lo:Int))).tmod (u64.wrap (y:Int))))]=.tuple #[.int .u32 (((hi*4294967296+lo) / y:Nat):Int),.int .u32 (((hi*4294967296+lo)%y:Nat):Int)]:=by
  intro _
  have e3:((2:Int)^32)=4294967296:=by decide
  have e1:u64.wrap (hi:Int)=hi:=aO (by omega)
  have e2:u64.wrap (lo:Int)=lo:=aO (by omega)
  have e4:u64.wrap (y:Int)=y:=aO (by omega)
  have e5:u64.wrap ((hi:Int)*4294967296)=(hi:Int)*4294967296:=aO (by omega)
  rw [e1,e3,e5,e2,e4,Dr _ _ (by omega) hl]
  have e6:(hi:Int)*4294967296+lo=((hi*4294967296+lo:Nat):Int):=by omega
  rw [e6,←Int.ofNat_tdiv,←Int.ofNat_tmod]
  have hq:(hi*4294967296+lo) / y<4294967296:=by
   rw [Nat.div_lt_iff_lt_mul (by omega)]
   have:(hi+1)*4294967296<=y*4294967296:=Nat.mul_le_mul_right _ hh
   omega
  have hr:(hi*4294967296+lo)%y<y:=Nat.mod_lt _ (by omega)
  generalize (hi*4294967296+lo) / y=q at *
  generalize (hi*4294967296+lo)%y=r at *
  have e7:u64.wrap (q:Int)=q:=aO (by omega)
  have e8:u32.wrap (q:Int)=q:=qf (by omega)
  have e9:u32.wrap (r:Int)=r:=qf (by omega)
  rw [e7,e8,e9]
 have e4:u64.wrap (y:Int)=y:=aO (by omega)
 refine oL _ _ _ V _ ⟨fun _=>⟨fun h=>?_,fun _=>⟨by omega,by rw [e4];omega,by rw [e4];omega,fun V1 l1=>key V1⟩⟩,fun _=>⟨by omega,by rw [e4];omega,by rw [e4];omega,fun V1 l1=>key V1⟩⟩
 simp at h;omega
theorem cW {V:View}{p:OA}{n c:Nat}{ds:List Nat}(h:RD V p n c ds)(hm:ds.length<=4611686018427387904) :
  ab prog 122 #[.slice p n c] V fun r V'=>∃k,r=.slice p k c/\RD V' p k c (bY ds):=by
 have hl:=h.len
 have hcp:=h.cap
 refine Eh p n c V _ ?_
 refine ⟨fun z V'=>0<=z/\z<=n/\bY (ds.take z.toNat)=bY ds,fun z=>z.toNat,⟨n,by (try dsimp only);and_intros<;>first|exact True.intro|rfl,by (try dsimp only);omega,by (try dsimp only);omega,?_⟩,?_⟩
 ·simp [hl]
 ·rintro k V1 l1 ⟨hk0,hk,ht⟩
  obtain ⟨k,rfl⟩:=Int.eq_ofNat_of_zero_le hk0
  dsimp only at hk ht ⊢
  simp only [Int.toNat_natCast] at ht
  refine ⟨rfl,fun h0=>?_,fun h0=>?_⟩
  ·have h0:0<k:=by simpa using h0
   have w:i64.wrap ((k:Int)-1)=((k-1:Nat):Int):=by rw [aB (by omega)];omega
   simp only [w]
   have hs:ds.take k=ds.take (k-1)++[ds[k-1]]:=by rw [←List.take_succ_eq_append_getElem (by omega),Nat.sub_add_cancel h0]
   refine (h.le l1).rd (k-1) rfl (by omega) ⟨fun hz=>?_,fun hz=>?_⟩
   ·have hz:ds[k-1]=0:=by simpa using hz
    refine ⟨_,?_,by (try dsimp only);and_intros<;>first|exact True.intro|rfl,?_,?_,?_⟩
    ·(try dsimp only);omega
    ·(try dsimp only);omega
    ·(try dsimp only);omega
    ·(try dsimp only)
     rw [←ht,hs,hz,ie];rfl
   ·have hz:ds[k-1]≠0:=by simpa using hz
    refine ⟨⟨by omega,by omega⟩,fun V2 l2=>⟨k,rfl,?_⟩⟩
    rw [←ht,hs,oF _ _ hz,←hs]
    exact ((h.le l1).le l2).take (by omega)
  ·have h0:k=0:=by simpa using h0
   subst h0
   refine ⟨⟨by omega,by omega⟩,fun V2 l2=>⟨0,rfl,?_⟩⟩
   rw [←ht]
   exact ((h.le l1).le l2).take (by omega)
theorem dU {V:View}(u:Nat)(h1:u<18446744073709551616) :
  ab prog 121 #[.int .u64 (u:Int)] V fun r V'=>∃q k c',r=.slice q k c'/\RN V' q k c' u:=by
 refine Ei _ V _ ⟨by omega,fun V1 l1 bk hb=>?_⟩
 rw [lF,iB,qf (by omega)] at hb
 have hb:V1.bG bk (.cells (aG [u%4294967296,u / 4294967296]).toArray 188 (0,0)):=by
  simpa [aG] using hb
 have hd:bN [u%4294967296,u / 4294967296]:=by simp [bN];omega
 refine (cW (RD.bG hb hd (n:=2) (c:=2) rfl (Nat.le_refl _)) (by simp)).mono ?_
 rintro r V2 l2 ⟨k,rfl,h2⟩
 refine ⟨_,_,_,rfl,fun _ V3 l3=>⟨_,_,_,rfl,?_⟩⟩
 rw [aN hd] at h2
 have:val [u%4294967296,u / 4294967296]=u:=by simp;omega
 rw [this] at h2
 exact h2.le l3
theorem kf {V:View} :
  ab prog 123 #[] V fun r V'=>∃q k c',r=.slice q k c'/\RN V' q k c' 1:=by
 refine Gc V _ fun V1 l1 bk hb=>⟨_,_,_,rfl,?_⟩
 have hd:ag 1=[1]:=LK (by omega) (by omega)
 unfold RN
 rw [hd]
 have hb:V1.bG bk (.cells (aG [1]).toArray 188 (0,0)):=by
  simpa [aG] using hb
 exact RD.bG hb (by simp [bN]) rfl (Nat.le_refl _)
def Iv (x:Int):Int:=if 0<x then 1 else if x<0 then -1 else 0
theorem EU {V:View}(x:Int) :
  ab prog 199 #[.int .i64 x] V fun r V'=>r=.int .i64 (Iv x):=by
 refine Ek x V _ ⟨fun h V1 l1=>?_,fun h=>⟨fun h2 V1 l1=>?_,fun h2 V1 l1=>?_⟩⟩
 ·have h:0<x:=by simpa using h
  rw [Iv,if_pos h]
 ·have h:x<0:=by simpa using h2
  rw [Iv,if_neg (by omega),if_pos h]
 ·have h:¬0<x:=by simpa using h
  have h2:¬x<0:=by simpa using h2
  rw [Iv,if_neg h,if_neg h2]
theorem gy {V:View}{p q:OA}{n c m e:Nat}{x y:Nat}(ha:RN V p n c x)(hb:RN V q m e y)(hm:(ag x).length<=1099511627776)(hn:(ag y).length<=1099511627776) :
  ab prog 165 #[.slice p n c,.slice q m e] V fun r V'=>r=.int .i64 (jK x y):=by
 have hl1:=ha.len
 have hl2:=hb.len
 refine F8 p n c q m e V _ ⟨fun h0 V1 l1=>?_,fun h0=>?_⟩
 ·have w:i64.wrap ((n:Int)-m)=(n:Int)-m:=aB (by omega)
  simp only [w]
  refine (EU _).mono ?_
  rintro r V2 l2 rfl
  refine ⟨_,rfl,fun V3 l3=>?_⟩
  have h0:n≠m:=by simp at h0;omega
  congr 1
  rcases Nat.lt_or_ge n m with h|h
  ·have:=km (a:=x) (b:=y) (by omega)
   rw [jK,if_pos this,Iv,if_neg (by omega),if_pos (by omega)]
  ·have:=km (a:=y) (b:=x) (by omega)
   rw [jK,if_neg (by omega),if_pos this,Iv,if_pos (by omega)]
 ·have h0:n=m:=by simp at h0;omega
  subst h0
  have w:i64.wrap ((n:Int)-1)=(n:Int)-1:=aB (by omega)
  simp only [w]
  refine ⟨fun z V'=>-1<=z/\z<n/\(ag x).drop (z+1).toNat=(ag y).drop (z+1).toNat,fun z=>(z+1).toNat,⟨_,by (try dsimp only);and_intros<;>first|exact True.intro|rfl,by (try dsimp only);omega,by (try dsimp only);omega,?_⟩,?_⟩
  ·(try dsimp only)
   rw [List.drop_of_length_le (by omega),List.drop_of_length_le (by omega)]
  ·rintro i V7 l7 ⟨hi0,hi1,hd⟩
   dsimp only at hi0 hi1 hd ⊢
   refine ⟨by trivial,fun h3=>?_,fun h3 V5 l5=>?_⟩
   ·have h3:0<=i:=by simpa using h3
    obtain ⟨i,rfl⟩:=Int.eq_ofNat_of_zero_le h3
    have w:i64.wrap ((i:Int)-1)=(i:Int)-1:=aB (by omega)
    simp only [w]
    have hd':(ag x).drop (i+1)=(ag y).drop (i+1):=hd
    refine (ha.le l7).rd i rfl (by omega) ((hb.le l7).rd i rfl (by omega) ⟨fun h4 V8 l8=>?_,fun h4=>?_⟩)
    ·have:=jy (aH y) (by omega) (by omega) hd'.symm (by simpa using h4)
     rw [ae,ae] at this
     rw [jK,if_neg (by omega),if_pos this]
    ·refine (ha.le l7).rd i rfl (by omega) ((hb.le l7).rd i rfl (by omega) ⟨fun h5 V8 l8=>?_,fun h5=>?_⟩)
     ·have:=jy (aH x) (by omega) (by omega) hd' (by simpa using h5)
      rw [ae,ae] at this
      rw [jK,if_pos this]
     ·refine ⟨_,?_,by (try dsimp only);and_intros<;>first|exact True.intro|rfl,?_,?_,?_⟩
      ·(try dsimp only);omega
      ·(try dsimp only);omega
      ·(try dsimp only);omega
      ·(try dsimp only)
       have:((i:Int)-1+1).toNat=i:=by omega
       rw [this,List.drop_eq_getElem_cons (by omega),List.drop_eq_getElem_cons (l:=ag y) (by omega),hd']
       congr 1
       simp at h4 h5
       omega
   ·have h3:i=-1:=by simp at h3;omega
    subst h3
    have:ag x=ag y:=by simpa using hd
    have:=pf this
    subst this
    simp [jK]
theorem JZ (a b:Nat):bP (a:Int) (b:Int)=((max a b:Nat):Int):=by
 unfold bP
 split<;>omega
theorem HG {V:View}{p q:OA}{n c m e:Nat}{xs ys:List Nat}(hx:RD V p n c xs)(hy:RD V q m e ys)(hm:xs.length<=1099511627776)(hn:ys.length<=1099511627776) :
  ab prog 166 #[.slice p n c,.slice q m e] V fun r V'=>∃p' n' c',r=.slice p' n' c'/\RN V' p' n' c' (val xs+val ys):=by
 have hlx:=hx.len
 have zT:=hy.len
 have vc:=Gf p n c q m e V
 have w:i64.wrap (((max n m:Nat):Int)+1)=((max n m+1:Nat):Int):=by rw [aB (by omega)];omega
 simp only [JZ,w,Int.toNat_natCast] at vc
 obtain ⟨k,hk⟩:∃k,k=max n m:=⟨_,rfl⟩
 rw [←hk] at vc
 refine vc _ ⟨by omega,by omega,by omega,fun z V'=>0<=z.1/\z.1<=1/\0<=z.2.1/\z.2.1<=k/\∃es:List Nat,z.2.2=aG es/\es.length=k+1/\bN es /\
   val (es.take z.2.1.toNat)+4294967296^z.2.1.toNat*z.1.toNat=val (xs.take z.2.1.toNat)+val (ys.take z.2.1.toNat),fun z=>k-z.2.1.toNat,⟨(0,0,aG (List.replicate (k+1) 0)),by (try dsimp only);and_intros<;>first|exact True.intro|rfl|exact cN _,by (try dsimp only);omega,by (try dsimp only);omega,by (try dsimp only);omega,by (try dsimp only);omega,_,rfl,by simp,bN.rep _,by simp⟩,?_⟩
 rintro ⟨cy,i,vs⟩ V2 l2 ⟨hc0,hc1,hi0,hi1,es,rfl,hes,hde,hv⟩
 dsimp only at hc0 hc1 hi0 hi1 hv ⊢
 obtain ⟨i,rfl⟩:=Int.eq_ofNat_of_zero_le hi0
 obtain ⟨cy,rfl⟩:=Int.eq_ofNat_of_zero_le hc0
 simp only [Int.toNat_natCast] at hv
 refine ⟨by trivial,fun h3=>?_,fun h3=>?_⟩
 ·have h3:i<k:=by simpa using h3
  refine ⟨fun z V'=>∃x:Nat,z=x/\x<4294967296/\val (xs.take (i+1))=val (xs.take i)+4294967296^i*x,⟨fun h4=>?_,fun h4=>?_⟩,?_⟩
  ·have h4:i<n:=by simpa using h4
   refine (hx.le l2).rd i rfl (by omega) ?_
   exact ⟨_,by (try dsimp only);and_intros<;>first|exact True.intro|rfl,xs[i],rfl,hx.cZ.get (by omega),aw _ _ (by omega)⟩
  ·have h4:n<=i:=by simpa using h4
   exact ⟨_,by (try dsimp only);and_intros<;>first|exact True.intro|rfl,0,rfl,by omega,by rw [ao (by omega),ao (by omega)];simp⟩
  rintro _ V3 l3 ⟨x,rfl,hx1,hx2⟩
  refine ⟨by trivial,fun z V'=>∃y:Nat,z=y/\y<4294967296/\val (ys.take (i+1))=val (ys.take i)+4294967296^i*y,⟨fun h4=>?_,fun h4=>?_⟩,?_⟩
  ·have h4:i<m:=by simpa using h4
   refine ((hy.le l2).le l3).rd i rfl (by omega) ?_
   exact ⟨_,by (try dsimp only);and_intros<;>first|exact True.intro|rfl,ys[i],rfl,hy.cZ.get (by omega),aw _ _ (by omega)⟩
  ·have h4:m<=i:=by simpa using h4
   exact ⟨_,by (try dsimp only);and_intros<;>first|exact True.intro|rfl,0,rfl,by omega,by rw [ao (by omega),ao (by omega)];simp⟩
  rintro _ V4 l4 ⟨y,rfl,hy1,hy2⟩
  refine ⟨by trivial,fun V5 l5=>(Ly x y cy hx1 hy1 (by omega)).mono ?_⟩
  rintro r V6 l6 rfl
  have w:i64.wrap ((i:Int)+1)=((i+1:Nat):Int):=by rw [aB (by omega)];omega
  simp only [w,Int.toNat_natCast]
  refine ⟨_,_,rfl,⟨by omega,by omega⟩,by simp;omega,(((x+y+cy) / 4294967296:Nat),((i+1:Nat):Int),aG (es.set i ((x+y+cy)%4294967296))),?_,by (try dsimp only);and_intros<;>first|exact True.intro|rfl|(rw [←bA];simp),?_⟩
  ·(try dsimp only);omega
  ·(try dsimp only)
   refine ⟨by omega,by omega,by omega,by omega,_,rfl,by simpa using hes,hde.set _ _ (by omega),?_⟩
   simp only [Int.toNat_natCast]
   rw [aK _ _ _ (by omega),Nat.pow_succ,hx2,hy2]
   exact uo hv (by omega)
 ·have h3:i=k:=by simp at h3;omega
  subst h3
  refine ⟨⟨by omega,by omega⟩,by simp;omega,fun V3 l3 bk hb=>?_⟩
  have e1:(aG es).set (0+((i:Int).toNat)*1) (.int .u32 (cy:Int))=aG (es.set i cy):=by rw [←bA];simp
  simp only [Int.toNat_natCast] at e1
  try simp only [Int.toNat_natCast] at hb
  rw [e1] at hb
  have hd2:=hde.set i cy (by omega)
  refine (cW (RD.bG hb hd2 (n:=i+1) (c:=i+1) (by simp;omega) (Nat.le_refl _)) (by simp;omega)).mono ?_
  rintro r V4 l4 ⟨k,rfl,h4⟩
  refine ⟨_,_,_,rfl,fun _ V5 l5=>⟨_,_,_,rfl,?_⟩⟩
  rw [aN hd2] at h4
  have e2:val (es.set i cy)=val xs+val ys:=by
   have:=aK es i cy (by omega)
   rw [ao (by simp;omega)] at this
   rw [this,hv,ao (by omega),ao (by omega)]
  rw [e2] at h4
  exact h4.le l5
theorem FN {E A B c x y W d b:Nat}(h:E+B=A+W*c)(hv:d+(y+c)=x+4294967296*b) :
  E+W*d+(B+W*y)=A+W*x+W*4294967296*b:=by
 have:=congrArg (W*·) hv
 simp only [Nat.mul_add,←Nat.mul_assoc] at this
 omega
theorem n_ {V:View}{p q:OA}{n c m e:Nat}{xs ys:List Nat}(hx:RD V p n c xs)(hy:RD V q m e ys)(hm:xs.length<=1099511627776)(hl:ys.length<=xs.length)(hle:val ys<=val xs) :
  ab prog 167 #[.slice p n c,.slice q m e] V fun r V'=>∃p' n' c',r=.slice p' n' c'/\RN V' p' n' c' (val xs-val ys):=by
 have hlx:=hx.len
 have zT:=hy.len
 refine Ec p n c q m e V _ ⟨by omega,by omega,by omega,fun z V'=>0<=z.1/\z.1<=1/\0<=z.2.1/\z.2.1<=n/\∃es:List Nat,z.2.2=aG es/\es.length=n/\bN es /\
   val (es.take z.2.1.toNat)+val (ys.take z.2.1.toNat)=val (xs.take z.2.1.toNat)+4294967296^z.2.1.toNat*z.1.toNat,fun z=>n-z.2.1.toNat,
   ⟨(0,0,List.replicate n (.int .u32 0)),by (try dsimp only);and_intros<;>first|exact True.intro|rfl,by (try dsimp only);omega,by (try dsimp only);omega,by (try dsimp only);omega,by (try dsimp only);omega,List.replicate n 0,cN n,by simp,bN.rep _,by simp⟩,?_⟩
 rintro ⟨cy,i,vs⟩ V2 l2 ⟨hc0,hc1,hi0,hi1,es,rfl,hes,hde,hv⟩
 dsimp only at hc0 hc1 hi0 hi1 hv ⊢
 obtain ⟨i,rfl⟩:=Int.eq_ofNat_of_zero_le hi0
 obtain ⟨cy,rfl⟩:=Int.eq_ofNat_of_zero_le hc0
 simp only [Int.toNat_natCast] at hv
 refine ⟨by trivial,fun h3=>?_,fun h3=>?_⟩
 ·have h3:i<n:=by simpa using h3
  refine ⟨fun z V'=>∃y:Nat,z=y/\y<4294967296/\val (ys.take (i+1))=val (ys.take i)+4294967296^i*y,⟨fun h4=>?_,fun h4=>?_⟩,?_⟩
  ·have h4:i<m:=by simpa using h4
   refine (hy.le l2).rd i rfl (by omega) ?_
   exact ⟨_,by (try dsimp only);and_intros<;>first|exact True.intro|rfl,ys[i],rfl,hy.cZ.get (by omega),aw _ _ (by omega)⟩
  ·have h4:m<=i:=by simpa using h4
   exact ⟨_,by (try dsimp only);and_intros<;>first|exact True.intro|rfl,0,rfl,by omega,by rw [ao (by omega),ao (by omega)];simp⟩
  rintro _ V3 l3 ⟨y,rfl,hy1,hy2⟩
  refine ⟨by trivial,?_⟩
  refine ((hx.le l2).le l3).rd i rfl (by omega) fun V4 l4=>(LG _ y cy (hx.cZ.get (by omega)) hy1 (by omega)).mono ?_
  rintro r V5 l5 ⟨d,b,rfl,hd,hb,hdb⟩
  have w:i64.wrap ((i:Int)+1)=((i+1:Nat):Int):=by rw [aB (by omega)];omega
  simp only [w,Int.toNat_natCast]
  refine ⟨_,_,rfl,⟨by omega,by omega⟩,by simp;omega,((b:Int),((i+1:Nat):Int),aG (es.set i d)),?_,by (try dsimp only);and_intros<;>first|exact True.intro|rfl|(rw [←bA];simp),?_⟩
  ·(try dsimp only);omega
  ·(try dsimp only)
   refine ⟨by omega,by omega,by omega,by omega,_,rfl,by simpa using hes,hde.set _ _ (by omega),?_⟩
   simp only [Int.toNat_natCast]
   rw [aK _ _ _ (by omega),Nat.pow_succ,aw xs i (by omega),hy2]
   exact FN hv hdb
 ·have h3:i=n:=by simp at h3;omega
  subst h3
  simp only [Int.toNat_natCast]
  intro V3 l3 bk hb
  refine (cW (RD.bG hb hde (n:=i) (c:=i) hes.symm (Nat.le_refl _)) (by omega)).mono ?_
  rintro r V4 l4 ⟨k,rfl,h4⟩
  refine ⟨_,_,_,rfl,fun _ V5 l5=>⟨_,_,_,rfl,?_⟩⟩
  rw [aN hde] at h4
  rw [ao (by omega),ao (by omega),ao (by omega)] at hv
  have e1:=eL hde
  rw [hes] at e1
  have e2:cy=0:=by
   rcases Nat.eq_zero_or_pos cy with h|h
   ·exact h
   ·have:4294967296^i*1<=4294967296^i*cy:=Nat.mul_le_mul_left _ h
    omega
  subst e2
  rw [show val es=val xs-val ys from by omega] at h4
  exact h4.le l5
theorem DA {V:View}{p:OA}{n c:Nat}{ds:List Nat}(h:RD V p n c ds){K:Int->Prop}(hn:0<ds.length)
  (hK:K ((ds[0]:Nat):Int)):(p.isSome=true)/\(0<=(0:Int)/\(0:Int)<(n:Int))/\∃x:Int,(∃a,ah p 0=some a/\V.at a (.int .u32 x))/\K x:=by
 have:=h.rd (i:=0) (K:=K) 0 rfl hn hK
 simpa using this
theorem MI {V:View}{p:OA}{n c:Nat}{ds:List Nat}(h:RD V p n c ds){K:Int->Prop}(j:Nat)(hn:j<ds.length)
  (hK:K ((ds[j]:Nat):Int)):(p.isSome=true)/\(0<=(j:Int)/\(j:Int)<(n:Int))/\∃x:Int,(∃a,ah p j=some a/\V.at a (.int .u32 x))/\K x:=by
 have:=h.rd (i:=j) (K:=K) j rfl hn hK
 simpa using this
theorem kX {ds:List Nat}(h:ds.length=1):∃a,ds=[a]:=by
 match ds,h with
 | [a],_=>exact ⟨a,rfl⟩
theorem FU {ds:List Nat}(h:ds.length=2):∃a b,ds=[a,b]:=by
 match ds,h with
 | [a,b],_=>exact ⟨a,b,rfl⟩
theorem cq {V:View}{p q:OA}{n c m e:Nat}{xs ys:List Nat}(hx:RD V p n c xs)(hy:RD V q m e ys)(hm:xs.length+ys.length<=1099511627776) :
  ab prog 59 #[.slice p n c,.slice q m e] V fun r V'=>∃p' n' c',r=.slice p' n' c'/\RN V' p' n' c' (val xs*val ys):=by
 have hlx:=hx.len
 have zT:=hy.len
 have hnm':((n:Int)+m).toNat=n+m:=by omega
 have w:i64.wrap ((n:Int)+m)=(n:Int)+m:=aB (by omega)
 have vc:=wN p n c q m e V
 simp only [w,hnm',cN] at vc
 refine (fun tail=>vc _ ⟨fun h0=>⟨fun h1=>?_,fun _=>tail⟩,fun _=>tail⟩) ?_
 ·have h0:n=1:=by simp at h0;omega
  have h1:m=1:=by simp at h1;omega
  clear tail vc
  obtain ⟨a,rfl⟩:=kX (ds:=xs) (by omega)
  obtain ⟨b,rfl⟩:=kX (ds:=ys) (by omega)
  have xj:=hx.cZ.get (i:=0) (by simp)
  have hdy:=hy.cZ.get (i:=0) (by simp)
  refine DA hx (by simp) (DA hy (by simp) fun V1 l1=>?_)
  simp only [List.getElem_cons_zero] at xj hdy ⊢
  have xR:a*b<=4294967295*4294967295:=Nat.mul_le_mul (by omega) (by omega)
  have e1:u64.wrap (a:Int)=a:=aO (by omega)
  have e2:u64.wrap (b:Int)=b:=aO (by omega)
  have e3:(a:Int)*(b:Int)=((a*b:Nat):Int):=by simp
  have e4:u64.wrap ((a*b:Nat):Int)=((a*b:Nat):Int):=aO (by omega)
  rw [e1,e2,e3,e4]
  refine (dU (a*b) (by omega)).mono ?_
  rintro r V2 l2 ⟨p',n',c',rfl,h⟩
  refine ⟨_,_,_,rfl,fun V3 l3=>⟨_,_,_,rfl,?_⟩⟩
  simp only [bq,eF,Nat.mul_zero,Nat.add_zero]
  exact h.le l3
 refine ⟨by omega,by omega,by omega,fun z V'=>0<=z.1/\z.1<=n/\∃es:List Nat,z.2=aG es/\es.length=n+m/\bN es /\
  val (es.take (z.1.toNat+m))=val (xs.take z.1.toNat)*val ys,fun z=>n-z.1.toNat,⟨(0,aG (List.replicate (n+m) 0)),by (try dsimp only);and_intros<;>first|exact True.intro|rfl,by (try dsimp only);omega,by (try dsimp only);omega,_,rfl,by simp,bN.rep _,by simp [uf,List.take_replicate]⟩,?_⟩
 rintro ⟨i,vs⟩ V5 l5 ⟨hi0,hi1,es,rfl,hes,hde,hv⟩
 dsimp only at hi0 hi1 hv ⊢
 obtain ⟨i,rfl⟩:=Int.eq_ofNat_of_zero_le hi0
 simp only [Int.toNat_natCast] at hv
 refine ⟨by trivial,fun h3=>?_,fun h3=>?_⟩
 ·have h3:i<n:=by simpa using h3
  refine (hx.le l5).rd i rfl (by omega) ?_
  have xj:=hx.cZ.get (i:=i) (by omega)
  refine ⟨fun z V'=>0<=z.1/\z.1<=4294967295/\0<=z.2.1/\z.2.1<=m/\∃fs:List Nat,z.2.2=aG fs/\fs.length=n+m/\bN fs/\fs.drop (i+z.2.1.toNat)=es.drop (i+z.2.1.toNat) /\
   val (fs.take (i+z.2.1.toNat))+4294967296^(i+z.2.1.toNat)*z.1.toNat=val (es.take (i+z.2.1.toNat))+4294967296^i*xs[i]*val (ys.take z.2.1.toNat),fun z=>m-z.2.1.toNat,
   ⟨(0,0,aG es),by (try dsimp only);and_intros<;>first|exact True.intro|rfl,by (try dsimp only);omega,by (try dsimp only);omega,by (try dsimp only);omega,by (try dsimp only);omega,es,rfl,hes,hde,rfl,by simp⟩,?_⟩
  rintro ⟨cy,k,vs⟩ V6 l6 ⟨hc0,hc1,hk0,hk1,fs,rfl,hfs,hdf,hdr,hw⟩
  dsimp only at hc0 hc1 hk0 hk1 hdr hw ⊢
  obtain ⟨k,rfl⟩:=Int.eq_ofNat_of_zero_le hk0
  obtain ⟨cy,rfl⟩:=Int.eq_ofNat_of_zero_le hc0
  simp only [Int.toNat_natCast] at hdr hw
  refine ⟨by trivial,fun h4=>?_,fun h4=>?_⟩
  ·have h4:k<m:=by simpa using h4
   refine (hy.le (l5.trans l6)).rd k rfl (by omega) ?_
   have hdy:=hy.cZ.get (i:=k) (by omega)
   have Uk:=hdf.get (i:=i+k) (by omega)
   have hef:fs[i+k]'(by omega)=es[i+k]'(by omega):=by
    have h1:fs[i+k]?=es[i+k]?:=by
     have:=congrArg (fun l=>l[0]?) hdr
     simpa [List.getElem?_drop] using this
    rw [List.getElem?_eq_getElem (by omega),List.getElem?_eq_getElem (by omega)] at h1
    exact Option.some.inj h1
   simp (disch:=omega) only [aB]
   have hik:((i:Int)+k).toNat=i+k:=by omega
   rw [hik]
   refine ⟨⟨by omega,by omega⟩,((fs[i+k]'(by omega):Nat):Int),by rw [Nat.zero_add,Nat.mul_one];exact fU (by omega),⟨by omega,by omega⟩,by simp;omega,by omega,?_⟩
   have hxy:xs[i]*ys[k]<=4294967295*4294967295:=Nat.mul_le_mul (by omega) (by omega)
   have OM:(xs[i]:Int)*(ys[k]:Int)=((xs[i]*ys[k]:Nat):Int):=by simp
   obtain ⟨t,ht⟩:∃t:Nat,t=cy+xs[i]*ys[k]+fs[i+k]'(by omega):=⟨_,rfl⟩
   rw [Nat.pow_add] at hw
   have hstep:=Dl hw ht
   have e1:u64.wrap (u64.wrap (u64.wrap (u64.wrap (xs[i]:Int)*u64.wrap (ys[k]:Int))+u64.wrap ((fs[i+k]'(by omega):Nat):Int))+(cy:Int))=(t:Int):=by
    clear hstep
    generalize xs[i]*ys[k]=pq at *
    rw [aO (x:=(xs[i]:Int)) (by omega),aO (x:=(ys[k]:Int)) (by omega),OM,aO (x:=((pq:Nat):Int)) (by omega)]
    simp (disch:=omega) only [aO]
    omega
   rw [e1,iB,lF]
   refine ⟨(_,_,_),?_,by (try dsimp only);and_intros<;>first|exact True.intro|rfl,?_⟩
   ·(try dsimp only);omega
   ·(try dsimp only)
    have hk2:((k:Int)+1).toNat=k+1:=by omega
    refine ⟨by omega,by omega,by omega,by omega,fs.set (i+k) (t%4294967296),?_,by simpa using hfs,hdf.set _ _ (by omega),?_,?_⟩
    ·rw [←bA];simp
    ·rw [hk2,List.drop_set_of_lt (by omega)]
     have:=congrArg (List.drop 1) hdr
     simpa [List.drop_drop,Nat.add_comm,Nat.add_assoc,Nat.add_left_comm] using this
    ·rw [hk2,show i+(k+1)=i+k+1 from by omega,aK _ _ _ (by omega),aw es (i+k) (by omega),aw ys k (by omega),←hef,Nat.pow_succ]
     have e2:((t:Int) / 4294967296).toNat=t / 4294967296:=by omega
     rw [e2,Nat.pow_add,hstep]
  ·have h4:k=m:=by simp at h4;omega
   subst h4
   simp (disch:=omega) only [aB]
   have hik:((i:Int)+k).toNat=i+k:=by omega
   rw [hik]
   refine ⟨⟨by omega,by omega⟩,by simp;omega,(_,_),?_,by (try dsimp only);and_intros<;>first|exact True.intro|rfl,?_⟩
   ·(try dsimp only);omega
   ·(try dsimp only)
    have hi2:((i:Int)+1).toNat=i+1:=by omega
    refine ⟨by omega,by omega,fs.set (i+k) cy,?_,by simpa using hfs,hdf.set _ _ (by omega),?_⟩
    ·rw [←bA,qf (by omega)];simp
    ·rw [hi2,show i+1+k=i+k+1 from by omega,aK _ _ _ (by omega),hw,hv,aw xs i (by omega),ao (ds:=ys) (by omega)]
     grind
 ·have h3:i=n:=by simp at h3;omega
  subst h3
  intro V6 l6 bk hb'
  refine (cW (RD.bG hb' hde (n:=i+m) (c:=i+m) (by omega) (Nat.le_refl _)) (by omega)).mono ?_
  rintro r V7 l7 ⟨k,rfl,h4⟩
  refine ⟨_,_,_,rfl,fun _ V8 l8=>⟨_,_,_,rfl,?_⟩⟩
  rw [aN hde] at h4
  rw [ao (by omega),ao (by omega)] at hv
  rw [hv] at h4
  exact h4.le l8
theorem kQ {V:View}{p:OA}{n c:Nat}{ds:List Nat}(h:RD V p n c ds)(hm:ds.length<=1099511627776) :
  ab prog 171 #[.slice p n c] V fun r V'=>r=.tuple #[.int .u64 ((if n<=2 then val ds else 0:Nat):Int),.bool (decide (n<=2))]:=by
 have hl:=h.len
 refine El p n c V _ ⟨fun h0 V1 l1=>?_,fun h0=>⟨fun h1=>?_,fun h1=>⟨fun h2=>?_,fun h2 V1 l1=>?_⟩⟩⟩
 ·have h0:n=0:=by simp at h0;omega
  subst h0
  have:ds=[]:=List.length_eq_zero_iff.1 (by omega)
  subst this
  rfl
 ·have h1:n=1:=by simp at h1;omega
  subst h1
  obtain ⟨a,rfl⟩:=kX (ds:=ds) (by omega)
  have hd:=h.cZ.get (i:=0) (by simp)
  refine DA h (by simp) fun V1 l1=>?_
  simp only [List.getElem_cons_zero] at hd ⊢
  have e1:u64.wrap (a:Int)=a:=aO (by omega)
  rw [e1,if_pos (by omega),decide_eq_true (by omega)]
  simp
 ·have h2:n=2:=by simp at h2;omega
  subst h2
  obtain ⟨a,b,rfl⟩:=FU (ds:=ds) (by omega)
  have hd0:=h.cZ.get (i:=0) (by simp)
  have hd1:=h.cZ.get (i:=1) (by simp)
  refine MI h 1 (by simp) ⟨by omega,DA h (by simp) fun V1 l1=>?_⟩
  simp only [List.getElem_cons_zero,List.getElem_cons_succ] at hd0 hd1 ⊢
  have e1:u64.wrap (a:Int)=a:=aO (by omega)
  have e2:u64.wrap (b:Int)=b:=aO (by omega)
  have e3:((2:Int)^32)=4294967296:=by decide
  have e4:u64.wrap ((b:Int)*4294967296)=(b:Int)*4294967296:=aO (by omega)
  rw [e1,e2,e3,e4,Dr _ _ hd1 hd0,if_pos (by omega),decide_eq_true (by omega)]
  simp only [bq,eF]
  congr 4
  omega
 ·have h2:¬n<=2:=by simp at h0 h1 h2;omega
  rw [if_neg h2,decide_eq_false h2]
  rfl
theorem Ic (b:Nat):0 ||| b=b:=Nat.zero_or b
theorem kP {V:View}{p:OA}{n c:Nat}{ds:List Nat}(hx:RD V p n c ds)(hm:ds.length<=1099511627776)(k:Nat)(hk:k<=35184372088832) :
  ab prog 204 #[.slice p n c,.int .i64 (k:Int)] V fun r V'=>∃p' n' c',r=.slice p' n' c'/\RN V' p' n' c' (val ds*2^k):=by
 have hl:=hx.len
 have e2:(k:Int).tdiv 32=((k / 32:Nat):Int):=by rw [Int.tdiv_eq_ediv_of_nonneg (by omega)];omega
 have e3:(k:Int).tmod 32=((k%32:Nat):Int):=by rw [Int.tmod_eq_emod_of_nonneg (by omega)];omega
 have vc:=Eb p n c k V
 have hk2:val ds*2^k=4294967296^(k / 32)*val ds*2^(k%32):=by
  have:2^k=4294967296^(k / 32)*2^(k%32):=by
   rw [show (4294967296:Nat)=2^32 from rfl,←Nat.pow_mul,←Nat.pow_add,Nat.div_add_mod]
  rw [this];grind
 rw [hk2]
 have hwl:k / 32<=1099511627776:=by omega
 have hrl:k%32<32:=Nat.mod_lt _ (by omega)
 rw [e2,e3] at vc
 generalize k / 32=w at *
 generalize k%32=r at *
 clear e2 e3 hk2
 have w1:i64.wrap (w:Int)=(w:Int):=aB (by omega)
 have w2:i64.wrap ((w:Int)+n)=((w+n:Nat):Int):=by rw [aB (by omega)];omega
 have w3:i64.wrap (((w+n:Nat):Int)+1)=((w+n+1:Nat):Int):=by rw [aB (by omega)];omega
 have w4:u64.wrap (r:Int)=(r:Int):=aO (by omega)
 have hmin:(min r IntKind.u64.bits)=r:=by
  show min _ 64=r
  omega
 have hp:((2:Int)^r)=((2^r:Nat):Int):=by simp
 simp only [w1,w2,w3,w4,Int.toNat_natCast,hmin,hp,cN] at vc
 refine vc _ ⟨by omega,by omega,by omega,by omega,by omega,fun z V'=>0<=z.1/\z.1<=n/\∃es:List Nat,z.2=aG es/\es.length=w+n+1/\bN es/\(∀c,es[z.1.toNat+w]?=some c->c<2^r)/\(∀j c,z.1.toNat+w<j->es[j]?=some c->c=0) /\
   val (es.take (z.1.toNat+w+1))=4294967296^w*val (ds.take z.1.toNat)*2^r,fun z=>n-z.1.toNat,
   ⟨(0,aG (List.replicate (w+n+1) 0)),by (try dsimp only);and_intros<;>first|exact True.intro|rfl,by (try dsimp only);omega,by (try dsimp only);omega,_,rfl,by simp,bN.rep _,?_,?_,?_⟩,?_⟩
 ·intro c hc
  rw [List.getElem?_replicate] at hc
  split at hc
  ·cases hc;exact Nat.two_pow_pos r
  ·cases hc
 ·intro j c _ hc
  rw [List.getElem?_replicate] at hc
  split at hc
  ·cases hc;rfl
  ·cases hc
 ·simp [List.take_replicate,uf]
 rintro ⟨i,vs⟩ V4 l4 ⟨hi0,hi1,es,rfl,hes,hde,hc,hz,hv⟩
 dsimp only at hi0 hi1 hc hz hv ⊢
 obtain ⟨i,rfl⟩:=Int.eq_ofNat_of_zero_le hi0
 simp only [Int.toNat_natCast] at hc hz hv
 refine ⟨by trivial,fun h3=>?_,fun h3=>?_⟩
 ·have h3:i<n:=by simpa using h3
  have x1:i64.wrap ((w:Int)+i)=((i+w:Nat):Int):=by rw [aB (by omega)];omega
  have x2:i64.wrap (((i+w:Nat):Int)+1)=((i+w+1:Nat):Int):=by rw [aB (by omega)];omega
  have x3:i64.wrap ((i:Int)+1)=((i+1:Nat):Int):=by rw [aB (by omega)];omega
  simp only [x1,x2,x3,Int.toNat_natCast,Nat.mul_one,Nat.zero_add]
  refine MI (hx.le l4) i (by omega) ?_
  have xj:=hx.cZ.get (i:=i) (by omega)
  have hce:=hc (es[i+w]'(by omega)) (List.getElem?_eq_getElem _)
  have Z6:=hz (i+w+1) (es[i+w+1]'(by omega)) (by omega) (List.getElem?_eq_getElem _)
  obtain ⟨g1,g2,g3,g4⟩:=DN xj hrl hce
  have hmul:((ds[i]:Nat):Int)*((2^r:Nat):Int)=((ds[i]*2^r:Nat):Int):=by simp
  have x4:u64.wrap ((ds[i]:Nat):Int)=((ds[i]:Nat):Int):=aO (by omega)
  have x5:u64.wrap ((ds[i]*2^r:Nat):Int)=((ds[i]*2^r:Nat):Int):=aO (by omega)
  have ec:u32.wrap ((ds[i]*2^r:Nat):Int)=((ds[i]*2^r%4294967296:Nat):Int):=by rw [iB];omega
  have ed:u32.wrap (((ds[i]*2^r:Nat):Int).fdiv (2^32))=((ds[i]*2^r / 4294967296:Nat):Int):=by rw [lF,iB];omega
  simp only [x4,hmul,x5,ec,ed]
  have hd2:ds[i]*2^r / 4294967296<4294967296:=by omega
  have E_:=Nat.mod_add_div (ds[i]*2^r) 4294967296
  have hdr:val (List.take (i+1) ds)=val (List.take i ds)+4294967296^i*ds[i]:=aw _ _ (by omega)
  have Ot:val (es.take (i+w+1))=val (es.take (i+w))+4294967296^(i+w)*es[i+w]'(by omega):=aw _ _ (by omega)
  have hlo:ds[i]*2^r%4294967296<4294967296:=Nat.mod_lt _ (by omega)
  generalize ds[i]*2^r%4294967296=lo at *
  generalize ds[i]*2^r / 4294967296=hi at *
  refine ⟨by omega,by omega,⟨by omega,by omega⟩,((es[i+w]'(by omega):Nat):Int),fU (by omega),⟨by omega,by omega⟩,by simp;omega,by omega,⟨by omega,by omega⟩,((es[i+w+1]'(by omega):Nat):Int),?_,by omega,⟨by omega,by omega⟩,by simp;omega,?_⟩
  ·rw [List.getElem?_set_ne (by omega)];exact fU (by omega)
  have Qx:es[i+w]'(by omega)<4294967296:=hde.get (by omega)
  rw [Fw _ _ Qx hlo,g1,Z6,Fw _ _ (by omega) hd2,Ic]
  refine ⟨(((i+1:Nat):Int),aG ((es.set (i+w) (es[i+w]'(by omega)+lo)).set (i+w+1) hi)),?_,?_,?_⟩
  ·(try dsimp only);omega
  ·(try dsimp only);and_intros<;>first|exact True.intro|rfl|rw [←bA,←bA]
  ·(try dsimp only)
   refine ⟨by omega,by omega,_,rfl,by simpa using hes,(hde.set _ _ (by omega)).set _ _ (by omega),?_,?_,?_⟩
   ·intro c hc'
    simp only [Int.toNat_natCast] at hc'
    rw [show i+1+w=i+w+1 from by omega,List.getElem?_set_self (by simp;omega)] at hc'
    cases hc';exact g3
   ·intro j c hj hc'
    simp only [Int.toNat_natCast] at hj
    rw [List.getElem?_set_ne (by omega),List.getElem?_set_ne (by omega)] at hc'
    exact hz j c (by omega) hc'
   ·simp only [Int.toNat_natCast]
    rw [show i+1+w+1=i+w+1+1 from by omega,aK _ _ _ (by simp;omega),aK _ _ _ (by omega),hdr]
    rw [Ot] at hv
    have hA:4294967296^(i+w+1)*hi=4294967296^(i+w)*(4294967296*hi):=by rw [Nat.pow_succ];grind
    rw [hA,Nat.mul_add,←Nat.add_assoc,hv,Nat.add_assoc,←Nat.mul_add,E_,Nat.pow_add]
    grind
 ·have h3:i=n:=by simp at h3;omega
  subst h3
  intro V5 l5 bk hb
  refine (cW (RD.bG hb hde (n:=w+i+1) (c:=w+i+1) (by omega) (Nat.le_refl _)) (by omega)).mono ?_
  rintro r' V6 l6 ⟨k',rfl,h4⟩
  refine ⟨_,_,_,rfl,fun _ V7 l7=>⟨_,_,_,rfl,?_⟩⟩
  rw [ao (by omega),ao (by omega)] at hv
  rw [aN hde,hv] at h4
  exact h4.le l7
theorem oS (a:Addr)(m n:Nat):(a.add m).add n=a.add (m+n):=by
 unfold Addr.add
 by_cases h1:m=0
 ·subst h1;simp
 ·by_cases h2:n=0
  ·subst h2;simp [h1]
  ·rw [if_neg h1,if_neg h2,if_neg (by omega)]
   simp only [Nat.add_assoc]
theorem N0 {V:View}{p:OA}{n c:Nat}{ds:List Nat}(h:RD V p n c ds){k:Nat}(hk:k<n):RD V (sU p c k 1) (n-k) (c-k) (ds.drop k):=by
 have hl:=h.len
 have hc:=h.cap
 have e:sU p c k 1=ah p k:=by unfold sU;rw [if_neg (by omega),Nat.mul_one]
 rw [e]
 refine ⟨by simp;omega,by omega,fun i v hv=>?_,h.cZ.drop k,fun hp=>?_⟩
 ·rw [IA,List.getElem?_drop] at hv
  obtain ⟨ad,e1,hat⟩:=h.sl _ _ hv
  refine ⟨ad.add k,by rw [e1];rfl,?_⟩
  rw [oS];exact hat
 ·have:p.isNone=true:=by cases p<;>simp_all [ah]
  have:=h.J_ this
  omega
theorem Cv {V:View}{p:OA}{n c:Nat}{ds:List Nat}(hd:RD V p n c ds)(hm:ds.length<=1099511627776)(k:Nat)(hk:k<=35184372088832) :
  ab prog 205 #[.slice p n c,.int .i64 (k:Int)] V fun r V'=>∃p' n' c',r=.slice p' n' c'/\RN V' p' n' c' (val ds / 2^k):=by
 have hl:=hd.len
 have e2:(k:Int).tdiv 32=((k / 32:Nat):Int):=by rw [Int.tdiv_eq_ediv_of_nonneg (by omega)];omega
 have e3:(k:Int).tmod 32=((k%32:Nat):Int):=by rw [Int.tmod_eq_emod_of_nonneg (by omega)];omega
 have vc:=BP p n c k V
 have hk2:val ds / 2^k=val ds / 4294967296^(k / 32) / 2^(k%32):=by
  rw [Nat.div_div_eq_div_mul,show (4294967296:Nat)=2^32 from rfl,←Nat.pow_mul,←Nat.pow_add,Nat.div_add_mod]
 rw [hk2]
 have hwl:k / 32<=1099511627776:=by omega
 have hrl:k%32<32:=Nat.mod_lt _ (by omega)
 rw [e2,e3] at vc
 generalize k / 32=w at *
 generalize k%32=r at *
 clear e2 e3 hk2
 have w1:i64.wrap (w:Int)=(w:Int):=aB (by omega)
 have w4:u64.wrap (r:Int)=(r:Int):=aO (by omega)
 have hmin:(min r IntKind.u64.bits)=r:=by
  show min _ 64=r
  omega
 simp only [w1,w4,Int.toNat_natCast,hmin,cN] at vc
 refine vc _ ⟨by omega,fun h0 V1 l1=>?_,fun h0=>?_⟩
 ·have h0:n<=w:=by simp at h0;omega
  have hlt:=eL hd.cZ
  have:4294967296^ds.length<=4294967296^w:=Nat.pow_le_pow_right (by omega) (by omega)
  rw [Nat.div_eq_of_lt (Nat.lt_of_lt_of_le hlt this),Nat.zero_div]
  exact ⟨_,_,_,rfl,RD.nil⟩
 ·have h0:w<n:=by simp at h0;omega
  clear vc
  have hxw:val ds / 4294967296^w=val (ds.drop w):=by
   have e:val ds=val (ds.take w++ds.drop w):=by rw [List.take_append_drop]
   have hlt:=eL (hd.cZ.take w)
   rw [dD] at e
   rw [List.length_take,Nat.min_eq_left (by omega)] at e hlt
   rw [e,Nat.add_mul_div_left _ _ (Nat.pow_pos (by omega)),Nat.div_eq_of_lt hlt,Nat.zero_add]
  rw [hxw]
  have hx:=N0 hd h0
  have hlx:=hx.len
  clear hxw
  generalize sU p c w 1=sp at *
  generalize ds.drop w=xs at *
  generalize hN:n-w=N at *
  refine ⟨by omega,by omega,⟨by omega,by omega⟩,by omega,by omega,by omega,fun z V'=>0<=z.1/\z.1<=N/\∃es:List Nat,z.2=aG es/\es.length=N/\bN es /\
   val (es.take z.1.toNat)+4294967296^z.1.toNat*(val (xs.drop z.1.toNat) / 2^r)=val xs / 2^r,fun z=>N-z.1.toNat,
   ⟨(0,aG (List.replicate N 0)),by (try dsimp only);and_intros<;>first|exact True.intro|rfl,by (try dsimp only);omega,by (try dsimp only);omega,_,rfl,by simp,bN.rep _,by simp⟩,?_⟩
  rintro ⟨i,vs⟩ V4 l4 ⟨hi0,hi1,es,rfl,hes,hde,hv⟩
  dsimp only at hi0 hi1 hv ⊢
  obtain ⟨i,rfl⟩:=Int.eq_ofNat_of_zero_le hi0
  simp only [Int.toNat_natCast] at hv
  refine ⟨by trivial,fun h3=>?_,fun h3=>?_⟩
  ·have h3:i<N:=by simpa using h3
   have x3:i64.wrap ((i:Int)+1)=((i+1:Nat):Int):=by rw [aB (by omega)];omega
   simp only [x3,Int.toNat_natCast,Nat.mul_one,Nat.zero_add]
   refine MI (hx.le l4) i (by omega) ?_
   have xj:=hx.cZ.get (i:=i) (by omega)
   refine ⟨fun z V'=>z=((xs[i]+4294967296*(xs[i+1]?).getD 0:Nat):Int),⟨fun h4=>?_,fun h4=>?_⟩,?_⟩
   ·have h4:i+1<N:=by simp at h4;omega
    have hdy:=hx.cZ.get (i:=i+1) (by omega)
    have e4:bz .or .u64 (u64.wrap ((xs[i]:Nat):Int)) (u64.wrap (u64.wrap ((xs[i+1]:Nat):Int)*2^32))=((xs[i]+4294967296*(xs[i+1]?).getD 0:Nat):Int):=by
     have e3:((2:Int)^32)=4294967296:=by decide
     rw [e3,aO (by omega),aO (x:=((xs[i+1]:Nat):Int)) (by omega),aO (by omega),Kj _ _ hdy xj,List.getElem?_eq_getElem (by omega),Option.getD_some]
     omega
    refine MI (hx.le l4) (i+1) (by omega) ⟨by omega,((xs[i]+4294967296*(xs[i+1]?).getD 0:Nat):Int),?_,rfl⟩
    (try dsimp only);and_intros<;>first|exact True.intro|exact e4|rfl
   ·have h4:N<=i+1:=by simp at h4;omega
    have e4:u64.wrap ((xs[i]:Nat):Int)=((xs[i]+4294967296*(xs[i+1]?).getD 0:Nat):Int):=by
     rw [aO (by omega),List.getElem?_eq_none (by omega)];simp
    refine ⟨((xs[i]+4294967296*(xs[i+1]?).getD 0:Nat):Int),?_,rfl⟩
    (try dsimp only);and_intros<;>first|exact True.intro|exact e4|rfl
   rintro _ V5 l5 rfl
   have hst:=DO (Y:=val (xs.drop (i+1))) xj hrl
   rw [qg hx.cZ] at hst
   have hdrop:val (xs.drop i)=xs[i]+4294967296*val (xs.drop (i+1)):=by
    rw [List.drop_eq_getElem_cons (by omega),bq]
   rw [hdrop,hst] at hv
   rw [fP,iB]
   obtain ⟨D,hD⟩:∃D,D=(xs[i]+4294967296*(xs[i+1]?).getD 0) / 2^r%4294967296:=⟨_,rfl⟩
   have eD:(((xs[i]+4294967296*(xs[i+1]?).getD 0) / 2^r:Nat):Int)%4294967296=(D:Int):=by rw [hD];omega
   rw [eD]
   rw [←hD] at hv
   refine ⟨by trivial,by omega,⟨by omega,by omega⟩,by simp;omega,(((i+1:Nat):Int),aG (es.set i D)),?_,?_,?_⟩
   ·(try dsimp only);omega
   ·(try dsimp only);and_intros<;>first|exact True.intro|rfl|rw [←bA]
   ·(try dsimp only)
    refine ⟨by omega,by omega,_,rfl,by simpa using hes,hde.set _ _ (by omega),?_⟩
    simp only [Int.toNat_natCast]
    rw [aK _ _ _ (by omega),←hv,Nat.pow_succ,Nat.mul_add,Nat.add_assoc,Nat.mul_assoc]
  ·have h3:i=N:=by simp at h3;omega
   subst h3
   intro V5 l5 bk hb
   refine (cW (RD.bG hb hde (n:=i) (c:=i) (by omega) (Nat.le_refl _)) (by omega)).mono ?_
   rintro r' V6 l6 ⟨k',rfl,h4⟩
   refine ⟨_,_,_,rfl,fun _ V7 l7=>⟨_,_,_,rfl,?_⟩⟩
   rw [ao (by omega),List.drop_of_length_le (l:=xs) (i:=i) (by omega)] at hv
   have hv:val es=val xs / 2^r:=by
    rw [←hv,eF,Nat.zero_div,Nat.mul_zero,Nat.add_zero]
   rw [aN hde,hv] at h4
   exact h4.le l7
end Go.Proofs.Tryz
namespace Go.dP
theorem sH {ds:List Nat}(hd:bN ds)(w:Nat)(hw:w<=ds.length):val ds / 4294967296^w=val (ds.drop w):=by
 have e:val ds=val (ds.take w++ds.drop w):=by rw [List.take_append_drop]
 have hlt:=eL (hd.take w)
 rw [dD] at e
 rw [List.length_take,Nat.min_eq_left (by omega)] at e hlt
 rw [e,Nat.add_mul_div_left _ _ (Nat.pow_pos (by omega)),Nat.div_eq_of_lt hlt,Nat.zero_add]
theorem Q8 {R n:Nat}(h:(ag R).length=n+2):R / 4294967296^n=(ag R)[n+1]'(by omega)*4294967296+(ag R)[n]'(by omega):=by
 have:=sH (aH R) n (by omega)
 rw [ae] at this
 rw [this,List.drop_eq_getElem_cons (by omega),List.drop_eq_getElem_cons (i:=n+1) (by omega),List.drop_of_length_le (by omega)]
 simp only [bq,eF]
 omega
theorem NB {R n:Nat}(h:(ag R).length=n+1):R / 4294967296^n=(ag R)[n]'(by omega):=by
 have:=sH (aH R) n (by omega)
 rw [ae] at this
 rw [this,List.drop_eq_getElem_cons (by omega),List.drop_of_length_le (by omega)]
 simp only [bq,eF]
 omega
theorem Q7 {R n:Nat}(h:(ag R).length<=n):R / 4294967296^n=0:=Nat.div_eq_of_lt (aI.1 h)
theorem FT {V n:Nat}(h:(ag V).length=n+1):(ag V)[n]'(by omega)*4294967296^n<=V:=by
 have:=NB h
 rw [←this]
 exact Nat.div_mul_le_self _ _
theorem JF {R V top P W:Nat}(hV:top*P<=V)(ht:0<top)(hP:0<P)(hW:0<W):R / (V*W)<=R / (P*W) / top:=by
 rw [Nat.le_div_iff_mul_le ht,Nat.le_div_iff_mul_le (Nat.mul_pos hP hW)]
 have h1:R / (V*W)*(V*W)<=R:=Nat.div_mul_le_self _ _
 have h2:R / (V*W)*(top*P*W)<=R / (V*W)*(V*W):=Nat.mul_le_mul_left _ (Nat.mul_le_mul_right _ hV)
 have h3:R / (V*W)*top*(P*W)=R / (V*W)*(top*P*W):=by
  generalize R / (V*W)=q
  rw [Nat.mul_assoc q top,←Nat.mul_assoc top P W]
 omega
theorem H9 {A V W D R q R':Nat}(h:A=V*(W*4294967296*D)+R)(hq:R=V*q*W+R'):A=V*(W*(q+4294967296*D))+R':=by
 subst hq;rw [h];grind
theorem JY {x y s Q R:Nat}(h:x*2^s=y*2^s*Q+R)(hR:R<y*2^s):Q=x / y/\R / 2^s=x%y:=by
 have hp:=Nat.two_pow_pos s
 have hy:0<y:=by
  rcases Nat.eq_zero_or_pos y with e|e
  ·subst e;simp at hR
  ·exact e
 have h1:y*2^s*Q=(y*Q)*2^s:=by grind
 rw [h1] at h
 have h2:y*Q<=x:=by
  rcases Nat.lt_or_ge x (y*Q) with hl|hl
  ·have:(x+1)*2^s<=y*Q*2^s:=Nat.mul_le_mul_right _ hl
   rw [Nat.add_mul] at this
   omega
  ·exact hl
 obtain ⟨d,rfl⟩:=Nat.exists_eq_add_of_le h2
 rw [Nat.add_mul] at h
 have h3:R=d*2^s:=by omega
 subst h3
 have h4:d<y:=Nat.lt_of_mul_lt_mul_right hR
 rw [Nat.mul_div_cancel _ hp]
 constructor
 ·rw [Nat.mul_add_div hy,Nat.div_eq_of_lt h4,Nat.add_zero]
 ·rw [Nat.mul_add_mod,Nat.mod_eq_of_lt h4]
theorem NF (j:Nat):2^(32*j)=4294967296^j:=by rw [Nat.pow_mul]
theorem E9 {R V W g:Nat}(PF:0<V*W)(h:V*g*W<=R)(hq:R / (V*W)<=g):g=R / (V*W):=by
 have:g<=R / (V*W):=by
  rw [Nat.le_div_iff_mul_le PF]
  have:g*(V*W)=V*g*W:=by grind
  omega
 omega
theorem JG {R V W g:Nat}(PF:0<V*W)(h:R<V*g*W):R / (V*W)<g:=by
 rw [Nat.div_lt_iff_lt_mul PF]
 have:g*(V*W)=V*g*W:=by grind
 omega
theorem FJ {R V W:Nat}:R=V*(R / (V*W))*W+R%(V*W):=by
 have:=Nat.div_add_mod R (V*W)
 have e:V*(R / (V*W))*W=V*W*(R / (V*W)):=by
  generalize R / (V*W)=q
  grind
 omega
theorem iq {a b:Nat}:(ag (a*b)).length<=(ag a).length+(ag b).length:=by
 rw [aI,Nat.pow_add]
 have h1:a<4294967296^(ag a).length:=aI.1 (Nat.le_refl _)
 have h2:b<4294967296^(ag b).length:=aI.1 (Nat.le_refl _)
 exact Nat.mul_lt_mul'' h1 h2
theorem AV (j:Nat):(ag (4294967296^j)).length<=j+1:=by
 rw [aI]
 exact Nat.pow_lt_pow_right (by omega) (by omega)
end Go.dP
namespace Go.Proofs.Tryz
open Go.bE Go.dP
theorem rdG {V:View}{p:OA}{n c:Nat}{ds:List Nat}(h:RD V p n c ds){i:Int}{K:Int->Prop}(j d:Nat)(hj:i=j)(hn:ds[j]?=some d)
  (hK:K (d:Int)):(p.isSome=true)/\(0<=i/\i<(n:Int))/\∃x:Int,(∃a,ah p (i.toNat*1)=some a/\V.at a (.int .u32 x))/\K x:=by
 have hl:j<ds.length:=by
  rcases Nat.lt_or_ge j ds.length with h|h
  ·exact h
  ·rw [List.getElem?_eq_none h] at hn;cases hn
 refine h.rd j hj hl ?_
 rw [List.getElem?_eq_getElem hl] at hn
 cases hn;exact hK
theorem Iy {W n:Nat}(h:(ag W).length=n+1):∃top,(ag W)[n]?=some top/\top≠0/\top<4294967296/\top*4294967296^n<=W:=by
 refine ⟨(ag W)[n]'(by omega),List.getElem?_eq_getElem _,?_,(aH W).get _,FT h⟩
 have:=(gZ W).last (by omega)
 simpa [h] using this
structure yU (A V L:Nat) (R:Nat) (j:Nat) (es:List Nat):Prop where
 len:es.length=L
 cZ:bN es
 lt:R<V*4294967296^j
 eq:A=V*(4294967296^j*val (es.drop j))+R
theorem yU.step {A V L R j:Nat}{es:List Nat}(h:yU A V L R (j+1) es)(hj:j<L)(hV:0<V) :
  R / (V*4294967296^j)<4294967296/\yU A V L (R-V*(R / (V*4294967296^j))*4294967296^j) j (es.set j (R / (V*4294967296^j))):=by
 have hW:0<4294967296^j:=Nat.pow_pos (by omega)
 have PF:0<V*4294967296^j:=Nat.mul_pos hV hW
 have hq:R / (V*4294967296^j)<4294967296:=by
  rw [Nat.div_lt_iff_lt_mul PF]
  have:=h.lt
  rw [Nat.pow_succ] at this
  have e:4294967296*(V*4294967296^j)=V*(4294967296^j*4294967296):=by
   generalize 4294967296^j=w
   grind
  omega
 have hs:=FJ (R:=R) (V:=V) (W:=4294967296^j)
 have hm:=Nat.mod_lt R PF
 have he:R-V*(R / (V*4294967296^j))*4294967296^j=R%(V*4294967296^j):=by omega
 refine ⟨hq,⟨by simpa using h.len,h.cZ.set _ _ hq,by rw [he];exact hm,?_⟩⟩
 have hl:=h.len
 rw [List.drop_eq_getElem_cons (by simp;omega),List.getElem_set_self,List.drop_set_of_lt (by omega),bq,he]
 exact H9 (by have:=h.eq;rwa [Nat.pow_succ] at this) hs
theorem KG {R V j:Nat}(h:R<V*4294967296^(j+1)):(ag R).length<=(ag V).length+j+1:=by
 have h1:V*4294967296^(j+1)<=4294967296^(ag V).length*4294967296^(j+1):=Nat.mul_le_mul_right _ (Nat.le_of_lt (aI.1 (Nat.le_refl _)))
 rw [←Nat.pow_add] at h1
 have:=aI.2 (Nat.lt_of_lt_of_le h h1)
 omega
theorem Mk {R n:Nat}(h:(ag R).length<=n+2):R / 4294967296^n<18446744073709551616:=by
 rw [Nat.div_lt_iff_lt_mul (Nat.pow_pos (by omega))]
 have:=aI.1 h
 rw [Nat.pow_succ,Nat.pow_succ] at this
 have e:4294967296^n*4294967296*4294967296=18446744073709551616*4294967296^n:=by
  generalize 4294967296^n=w
  omega
 omega
theorem ET {V:View}{p q:OA}{n c m e:Nat}{x y:Nat}(hx:RN V p n c x)(hy:RN V q m e y)(hm:(ag x).length<=274877906944)(hy0:0<y)(hle:(ag y).length<=(ag x).length) :
  ab prog 173 #[.slice p n c,.slice q m e] V fun r V'=>∃p1 n1 c1 p2 n2 c2,r=.tuple #[.slice p1 n1 c1,.slice p2 n2 c2]/\RN V' p1 n1 c1 (x / y)/\RN V' p2 n2 c2 (x%y):=by
 have hlx:=hx.len
 have zT:=hy.len
 have hm0:0<m:=by
  rcases Nat.eq_zero_or_pos m with h|h
  ·have:=bg.1 (List.length_eq_zero_iff.1 (zT▸h));omega
  ·exact h
 have vc:=Ej p n c q m e V
 have w1:i64.wrap ((m:Int)-1)=((m-1:Nat):Int):=by rw [aB (by omega)];omega
 have w2:i64.wrap ((n:Int)-m)=((n-m:Nat):Int):=by rw [aB (by omega)];omega
 have w3:i64.wrap (((n-m:Nat):Int)+1)=((n-m+1:Nat):Int):=by rw [aB (by omega)];omega
 have w4:i64.wrap (((n-m+1:Nat):Int)-1)=((n-m:Nat):Int):=by rw [aB (by omega)];omega
 simp only [w1,w2,w3,Int.toNat_natCast,w4,cN] at vc
 obtain ⟨L,hL⟩:∃L,L=n-m+1:=⟨_,rfl⟩
 rw [←hL] at vc
 refine vc _ ?_
 clear vc
 refine hy.rd (m-1) rfl (by omega) fun V1 l1=>(gi _ ((aH y).get (by omega))).mono ?_
 rintro r V2 l2 rfl
 have hbl:bM ((ag y)[m-1]'(by omega))<=32:=jl.2 (by have:=(aH y).get (i:=m-1) (by omega);omega)
 obtain ⟨s,hs⟩:∃s:Nat,(32:Int)-(bM ((ag y)[m-1]'(by omega)):Int)=s:=⟨32-bM ((ag y)[m-1]'(by omega)),by omega⟩
 have Ma:s<=32:=by omega
 rw [hs]
 clear hs hbl
 refine ⟨_,rfl,fun V3 l3=>(kP (hy.le (l1.trans (l2.trans l3))) (by omega) s (by omega)).mono ?_⟩
 rintro r V4 l4 ⟨vp,vn,vc,rfl,hv⟩
 rw [ae] at hv
 refine ⟨_,_,_,rfl,fun V5 l5=>(kP (hx.le (l1.trans (l2.trans (l3.trans (l4.trans l5))))) (by omega) s (by omega)).mono ?_⟩
 rintro r V6 l6 ⟨rp,rn,rc,rfl,hr⟩
 rw [ae] at hr
 replace hv:=hv.le (l5.trans l6)
 have hlv:=hv.len
 have hsp:=Nat.two_pow_pos s
 have hs2:2^s<=4294967296:=Nat.pow_le_pow_right (n:=2) (by omega) Ma
 have Qu:0<y*2^s:=Nat.mul_pos hy0 hsp
 have hsl:(ag (2^s)).length<=2:=aI.2 (by omega)
 have hvl:vn<=m+2:=by have:=iq (a:=y) (b:=2^s);omega
 have hvn:0<vn:=by
  rcases Nat.eq_zero_or_pos vn with h|h
  ·have:=bg.1 (List.length_eq_zero_iff.1 (hlv▸h));omega
  ·exact h
 have hinit:yU (x*2^s) (y*2^s) L (x*2^s) L (List.replicate L 0):=by
  refine ⟨by simp,bN.rep _,?_,by simp⟩
  have h1:x<4294967296^n:=by rw [hlx];exact aI.1 (Nat.le_refl _)
  have h2:4294967296^(m-1)<=y:=by rw [←rU];omega
  have h3:4294967296^(m-1)*4294967296^L<=y*4294967296^L:=Nat.mul_le_mul_right _ h2
  rw [←Nat.pow_add,show m-1+L=n from by omega] at h3
  have h4:x*2^s<y*4294967296^L*2^s:=Nat.mul_lt_mul_of_pos_right (by omega) hsp
  have h5:y*4294967296^L*2^s=y*2^s*4294967296^L:=by
   generalize 4294967296^L=w
   grind
  omega
 have hend:∀{Q R:Nat},x*2^s=y*2^s*Q+R->R<y*2^s->Q=x / y/\R / 2^s=x%y:=fun h1 h2=>JY h1 h2
 generalize x*2^s=A at *
 generalize y*2^s=W at *
 have w5:i64.wrap ((vn:Int)-1)=((vn-1:Nat):Int):=by rw [aB (by omega)];omega
 simp only [w5,Int.toNat_natCast]
 refine ⟨_,_,_,rfl,?_⟩
 obtain ⟨top,ZU,XK,XL,QI⟩:=Iy (W:=W) (n:=vn-1) (by omega)
 refine rdG hv (vn-1) top rfl ZU ?_
 have w6:u64.wrap (top:Int)=top:=aO (by omega)
 simp only [w6]
 refine ⟨by omega,by omega,by omega,fun z V'=>∃R:Nat,RN V' z.1 z.2.1 z.2.2.1 R/\-1<=z.2.2.2.1/\z.2.2.2.1<L/\∃es:List Nat,z.2.2.2.2=aG es/\yU A W L R (z.2.2.2.1+1).toNat es,fun z=>(z.2.2.2.1+1).toNat,
  ⟨(rp,rn,rc,((n-m:Nat):Int),aG (List.replicate L 0)),by (try dsimp only);and_intros<;>first|exact True.intro|rfl,A,hr,by (try dsimp only);omega,by (try dsimp only);omega,_,rfl,?_⟩,?_⟩
 ·(try dsimp only)
  rw [show (((n-m:Nat):Int)+1).toNat=L from by omega]
  exact hinit
 rintro ⟨rp,rn,rc,j,vs⟩ V7 l7 ⟨R,hR,hj0,hj1,es,rfl,hI⟩
 dsimp only at hR hj0 hj1 hI ⊢
 have hlr:=hR.len
 refine ⟨by trivial,fun h3=>?_,fun h3=>?_⟩
 ·have h3:0<=j:=by simpa using h3
  obtain ⟨j,rfl⟩:=Int.eq_ofNat_of_zero_le h3
  have hI:yU A W L R (j+1) es:=hI
  have ZH:j<L:=by omega
  have hrl:=KG hI.lt
  obtain ⟨hq,hI'⟩:=hI.step ZH Qu
  have w7:i64.wrap ((vn:Int)+j)=((vn-1+j+1:Nat):Int):=by rw [aB (by omega)];omega
  have w8:i64.wrap (((vn-1+j+1:Nat):Int)-1)=((vn-1+j:Nat):Int):=by rw [aB (by omega)];omega
  have w9:i64.wrap ((32:Int)*j)=((32*j:Nat):Int):=by rw [aB (by omega)];omega
  have VV:i64.wrap ((j:Int)-1)=(j:Int)-1:=aB (by omega)
  simp only [w7,w8,w9,VV,Int.toNat_natCast]
  have hrl:(ag R).length<=vn-1+j+2:=by omega
  have hld:=Mk hrl
  have hP:0<4294967296^(vn-1):=Nat.pow_pos (by omega)
  have hW:0<4294967296^j:=Nat.pow_pos (by omega)
  have hg:=JF (R:=R) QI (by omega) hP hW
  rw [←Nat.pow_add] at hg
  have l2:=@Q8 R (vn-1+j)
  have l1:=@NB R (vn-1+j)
  have l0:=@Q7 R (vn-1+j)
  have hlast:∀i (hi:i<(ag R).length),(ag R)[i]<4294967296:=fun i hi=>(aH R).get hi
  generalize R / 4294967296^(vn-1+j)=lead at *
  refine ⟨fun z V'=>z=(lead:Int),⟨fun h4=>?_,fun h4=>?_⟩,?_⟩
  ·have h4:vn-1+j+1<rn:=by simp at h4;omega
   refine (hR.rd (vn-1+j+1) rfl (by omega) ⟨by omega,hR.rd (vn-1+j) rfl (by omega) ⟨(lead:Int),?_,rfl⟩⟩)
   have e4:bz .or .u64 (u64.wrap (u64.wrap (((ag R)[vn-1+j+1]'(by omega):Nat):Int)*2^32)) (u64.wrap (((ag R)[vn-1+j]'(by omega):Nat):Int))=(lead:Int):=by
    have e3:((2:Int)^32)=4294967296:=by decide
    have g1:=hlast (vn-1+j+1) (by omega)
    have g2:=hlast (vn-1+j) (by omega)
    have:=l2 (by omega)
    rw [e3,aO (x:=(((ag R)[vn-1+j+1]'(by omega):Nat):Int)) (by omega),aO (x:=(((ag R)[vn-1+j]'(by omega):Nat):Int)) (by omega),aO (by omega),Dr _ _ g1 g2,this]
    omega
   (try dsimp only);and_intros<;>first|exact True.intro|exact e4|rfl
  ·have h4:rn<=vn-1+j+1:=by simp at h4;omega
   refine ⟨fun z V'=>z=(lead:Int),⟨fun h5=>?_,fun h5=>?_⟩,?_⟩
   ·have h5:vn-1+j<rn:=by simp at h5;omega
    refine hR.rd (vn-1+j) rfl (by omega) ⟨(lead:Int),?_,rfl⟩
    have e4:u64.wrap (((ag R)[vn-1+j]'(by omega):Nat):Int)=(lead:Int):=by
     have g2:=hlast (vn-1+j) (by omega)
     rw [aO (by omega),l1 (by omega)]
    (try dsimp only);and_intros<;>first|exact True.intro|exact e4|rfl
   ·have h5:rn<=vn-1+j:=by simp at h5;omega
    have e4:(0:Int)=(lead:Int):=by rw [l0 (by omega)];rfl
    refine ⟨(lead:Int),?_,rfl⟩
    (try dsimp only);and_intros<;>first|exact True.intro|exact e4|rfl
   ·rintro _ V8 l8 rfl
    refine ⟨by trivial,(lead:Int),?_,rfl⟩
    (try dsimp only);and_intros<;>first|exact True.intro|rfl
  rintro _ V9 l9 rfl
  clear l2 l1 l0 hlast
  have Ql:(lead:Int).tdiv (top:Int)=((lead / top:Nat):Int):=by rw [Int.tdiv_eq_ediv_of_nonneg (by omega)];omega
  have hlt:lead / top<=lead:=Nat.div_le_self _ _
  rw [Ql]
  generalize lead / top=lt at *
  obtain ⟨g0,hg0,Ov,Uq⟩:∃g0:Nat,b_ (u64.wrap (lt:Int)) 4294967295=(g0:Int)/\g0<4294967296/\R / (W*4294967296^j)<=g0:=by
   rw [aO (by omega)]
   unfold b_
   split
   ·exact ⟨4294967295,rfl,by omega,by omega⟩
   ·exact ⟨lt,rfl,by omega,hg⟩
  rw [hg0]
  clear hg0 Ql hlt hg hld
  have XD:0<W*4294967296^j:=Nat.mul_pos Qu hW
  have hsz:∀g:Nat,g<4294967296->(ag g).length<=1:=fun g hg=>aI.2 (by omega)
  refine ⟨by trivial,by omega,fun jG l10=>(dU g0 (by omega)).mono ?_⟩
  rintro r jZ bI ⟨gp,gn,gc,rfl,h11⟩
  refine ⟨_,_,_,rfl,fun mQ bV=>(cq (hv.le (l7.trans (l9.trans (l10.trans (bI.trans bV))))) (h11.le bV) (by have:=hsz g0 Ov;omega)).mono ?_⟩
  rintro r qv cC ⟨pp,pn,pc,rfl,PC⟩
  rw [ae,ae] at PC
  have hpl:=fun g=>iq (a:=W) (b:=g)
  refine ⟨_,_,_,rfl,fun mS du=>(kP (PC.le du) (by have:=hsz g0 Ov;have:=hpl g0;omega) (32*j) (by omega)).mono ?_⟩
  rintro r lH dv ⟨tp,tn,tc,rfl,PD⟩
  rw [ae,NF] at PD
  have Qt:=hR.le (l9.trans (l10.trans (bI.trans (bV.trans (cC.trans (du.trans dv))))))
  have UE:=hv.le (l7.trans (l9.trans (l10.trans (bI.trans (bV.trans (cC.trans (du.trans dv)))))))
  refine ⟨_,_,_,rfl,fun z V'=>∃g:Nat,z.1=g/\g<4294967296/\R / (W*4294967296^j)<=g/\RN V' z.2.1 z.2.2.1 z.2.2.2 (W*g*4294967296^j),fun z=>z.1.toNat,
   ⟨((g0:Int),tp,tn,tc),by (try dsimp only);and_intros<;>first|exact True.intro|rfl,g0,rfl,Ov,Uq,PD⟩,?_⟩
  rintro ⟨_,tp,tn,tc⟩ lP cX ⟨g,rfl,hgb,ZG,ht⟩
  dsimp only at ht ⊢
  have htl:(ag (W*g*4294967296^j)).length<=1099511627776:=by
   have h1:=iq (a:=W*g) (b:=4294967296^j)
   have h2:=AV j
   have h3:=hpl g
   have h4:=hsz g hgb
   omega
  refine ⟨by trivial,fun mT c_=>(gy (ht.le c_) (Qt.le (cX.trans c_)) htl (by omega)).mono ?_⟩
  rintro r qt cR rfl
  refine ⟨_,rfl,fun h6=>?_,fun h6=>?_⟩
  ·have h6:R<W*g*4294967296^j:=by
    have h6:0<jK (W*g*4294967296^j) R:=by simpa using h6
    unfold jK at h6
    split at h6
    ·omega
    ·split at h6
     ·assumption
     ·omega
   have hgo:=JG XD h6
   have hg1:0<g:=Nat.lt_of_le_of_lt (Nat.zero_le _) hgo
   have e1:u64.wrap ((g:Int)-1)=((g-1:Nat):Int):=by rw [aO (by omega)];omega
   simp only [e1]
   refine fun rK dA=>(dU (g-1) (by omega)).mono ?_
   rintro r yV fG ⟨gp,gn,gc,rfl,h20⟩
   refine ⟨_,_,_,rfl,fun ui fv=>(cq (UE.le (cX.trans (c_.trans (cR.trans (dA.trans (fG.trans fv)))))) (h20.le fv) (by have:=hsz (g-1) (by omega);omega)).mono ?_⟩
   rintro r uj gF ⟨pp,pn,pc,rfl,h22⟩
   rw [ae,ae] at h22
   refine ⟨_,_,_,rfl,fun xu gY=>(kP (h22.le gY) (by have:=hsz (g-1) (by omega);have:=hpl (g-1);omega) (32*j) (by omega)).mono ?_⟩
   rintro r Gp lN ⟨tp,tn,tc,rfl,Xv⟩
   rw [ae,NF] at Xv
   refine ⟨_,_,_,rfl,(((g-1:Nat):Int),tp,tn,tc),?_,by (try dsimp only);and_intros<;>first|exact True.intro|rfl,g-1,rfl,by omega,by omega,Xv⟩
   (try dsimp only);omega
  ·have h6:W*g*4294967296^j<=R:=by
    have h6:¬0<jK (W*g*4294967296^j) R:=by simpa using h6
    unfold jK at h6
    split at h6
    ·omega
    ·split at h6
     ·omega
     ·omega
   have hstop:=E9 XD h6 ZG
   rw [←hstop] at hI'
   have hes:=hI.len
   refine ⟨⟨by omega,by omega⟩,by simp;omega,fun Gq lQ=>(n_ (Qt.le (cX.trans (c_.trans (cR.trans lQ)))) (ht.le (c_.trans (cR.trans lQ))) (by omega) (aD h6) (by rw [ae,ae];exact h6)).mono ?_⟩
   rintro r IZ lE ⟨np,nn,nc,rfl,Xw⟩
   rw [ae,ae] at Xw
   have e1:u32.wrap (g:Int)=(g:Int):=qf (by omega)
   have e2:(aG es).set (0+j*1) (.int .u32 (g:Int))=aG (es.set j g):=by rw [←bA];simp
   simp only [e1]
   refine ⟨_,_,_,rfl,(np,nn,nc,(j:Int)-1,aG (es.set j g)),?_,by (try dsimp only);and_intros<;>first|exact True.intro|rfl|exact e2|(rw [←bA];simp),R-W*g*4294967296^j,Xw,by (try dsimp only);omega,by (try dsimp only);omega,_,rfl,?_⟩
   ·(try dsimp only);omega
   ·(try dsimp only)
    rw [show ((j:Int)-1+1).toNat=j from by omega]
    exact hI'
 ·have h3:j=-1:=by simp at h3;omega
  subst h3
  have UB:(ag R).length<=1099511627776:=by
   have h6:=hI.lt
   have h6:R<W:=by simpa using h6
   have:=aD (Nat.le_of_lt h6)
   omega
  intro V8 l8 bk hb
  refine (cW (RD.bG hb hI.cZ (n:=L) (c:=L) hI.len.symm (Nat.le_refl _)) (by have:=hI.len;omega)).mono ?_
  rintro r V9 l9 ⟨k,rfl,h4⟩
  refine ⟨_,_,_,rfl,fun _ jG l10=>(Cv (hR.le (l8.trans (l9.trans l10))) UB s (by omega)).mono ?_⟩
  rintro r jZ bI ⟨p2,n2,c2,rfl,h5⟩
  rw [ae] at h5
  refine ⟨_,_,_,rfl,fun mQ bV=>⟨_,_,_,_,_,_,rfl,?_,?_⟩⟩
  ·have h6:=hI.lt
   have h7:=hI.eq
   have h6:R<W:=by simpa using h6
   have h7:A=W*val es+R:=by simpa using h7
   obtain ⟨g1,g2⟩:=hend h7 h6
   rw [aN hI.cZ,g1] at h4
   exact h4.le (l10.trans (bI.trans bV))
  ·have h6:=hI.lt
   have h7:=hI.eq
   have h6:R<W:=by simpa using h6
   have h7:A=W*val es+R:=by simpa using h7
   obtain ⟨g1,g2⟩:=hend h7 h6
   rw [g2] at h5
   exact h5.le bV
theorem qo {x:Nat}(h:(ag x).length<=2):x<18446744073709551616:=by
 have:=aI.1 h
 omega
theorem copied {V:View}{b n c:Nat}{ds:List Nat}{sp:List Value}{ty:TypeId}(hd:bN ds)(hn:n=ds.length)(hc:n<=c)(hb:V.bG b (.cells (aG ds++sp).toArray ty (0,0))):RD V (some ⟨b,0,none⟩) n c ds:=by
 refine ⟨hn,hc,fun i v hv=>⟨_,rfl,?_⟩,hd,fun e=>nomatch e⟩
 rw [add_zero']
 refine eH hb ?_
 rw [List.getElem?_append_left]
 ·exact hv
 ·rcases Nat.lt_or_ge i (aG ds).length with e|e
  ·exact e
  ·rw [List.getElem?_eq_none e] at hv;cases hv
theorem eu {V:View}{p q:OA}{n c m e:Nat}{x y:Nat}(hx:RN V p n c x)(hy:RN V q m e y)(hm:(ag x).length<=274877906944)(hm':(ag y).length<=274877906944)(hy0:0<y) :
  ab prog 125 #[.slice p n c,.slice q m e] V fun r V'=>∃p1 n1 c1 p2 n2 c2,r=.tuple #[.slice p1 n1 c1,.slice p2 n2 c2]/\RN V' p1 n1 c1 (x / y)/\RN V' p2 n2 c2 (x%y):=by
 have hlx:=hx.len
 have zT:=hy.len
 have hm0:0<m:=by
  rcases Nat.eq_zero_or_pos m with h|h
  ·have:=bg.1 (List.length_eq_zero_iff.1 (zT▸h));omega
  ·exact h
 refine yC p n c q m e V _ fun V1 l1=>(kQ (hx.le l1) (by omega)).mono ?_
 rintro r V2 l2 rfl
 rw [ae]
 refine ⟨_,_,rfl,fun z V'=>True,⟨fun h0=>?_,fun h0=>⟨(),by (try dsimp only);and_intros<;>first|exact True.intro|rfl,trivial⟩⟩,?_⟩
 ·have h0:n<=2:=by simpa using h0
  refine fun V3 l3=>(kQ (hy.le (l1.trans (l2.trans l3))) (by omega)).mono ?_
  rintro r V4 l4 rfl
  rw [ae]
  refine ⟨_,_,rfl,fun h1=>?_,fun h1=>⟨(),by (try dsimp only);and_intros<;>first|exact True.intro|rfl,trivial⟩⟩
  have h1:m<=2:=by simpa using h1
  have hxw:=qo (x:=x) (by omega)
  have XO:=qo (x:=y) (by omega)
  rw [if_pos h0,if_pos h1]
  have hq:x / y<=x:=Nat.div_le_self _ _
  have hr:x%y<y:=Nat.mod_lt _ hy0
  have e1:((x:Nat):Int).tdiv (y:Int)=((x / y:Nat):Int):=by rw [Int.tdiv_eq_ediv_of_nonneg (by omega)];omega
  have e2:((x:Nat):Int).tmod (y:Int)=((x%y:Nat):Int):=by rw [Int.tmod_eq_emod_of_nonneg (by omega)];omega
  rw [e1,e2]
  generalize x / y=qq at *
  generalize x%y=rr at *
  have e3:u64.wrap (qq:Int)=qq:=aO (by omega)
  rw [e3]
  refine ⟨by omega,by omega,fun V5 l5=>(dU qq (by omega)).mono ?_⟩
  rintro r V6 l6 ⟨p1,n1,c1,rfl,g1⟩
  refine ⟨_,_,_,rfl,fun V7 l7=>(dU rr (by omega)).mono ?_⟩
  rintro r V8 l8 ⟨p2,n2,c2,rfl,g2⟩
  exact ⟨_,_,_,rfl,fun V9 l9=>⟨_,_,_,_,_,_,rfl,g1.le (l7.trans (l8.trans l9)),g2.le l9⟩⟩
 rintro _ jG l10 _
 replace hx:=hx.le (l1.trans (l2.trans l10))
 replace hy:=hy.le (l1.trans (l2.trans l10))
 refine ⟨by trivial,fun jZ bI=>(gy (hx.le bI) (hy.le bI) (by omega) (by omega)).mono ?_⟩
 rintro r mQ bV rfl
 replace hx:=hx.le (bI.trans bV)
 replace hy:=hy.le (bI.trans bV)
 refine ⟨_,rfl,fun h0=>⟨aG (ag x),hx.sl,by simp [hlx],by omega,by omega,by simp,by simp [hlx],?_,?_⟩,fun h0=>⟨fun h1=>?_,fun h1=>?_⟩⟩
 ·intro v hv
  simp only [aG,List.mem_map] at hv
  obtain ⟨d,-,rfl⟩:=hv
  rfl
 ·have h0:x<y:=by simpa [fO] using h0
  intro bk J sp c' h1 h2 V1 l1 b hb
  rw [Nat.div_eq_of_lt h0,Nat.mod_eq_of_lt h0]
  refine ⟨_,_,_,_,_,_,rfl,RD.nil,?_⟩
  simp only [Nat.zero_add,Nat.zero_mul,List.take_zero,List.nil_append] at hb h1 ⊢
  exact copied (aH x) hlx h1 hb
 ·have h0:y<=x:=by simpa [←Int.not_lt,fO] using h0
  have h1:m=1:=by simp at h1;omega
  subst h1
  obtain ⟨d,hd⟩:=kX (ds:=ag y) (by omega)
  have hdy:d=y:=by have:=ae y;rw [hd] at this;simpa using this
  subst hdy
  have hdl:d<4294967296:=by have:=aH d;rw [hd] at this;exact (bN.cons.1 this).1
  try unfold RN at hy
  rw [hd] at hy
  have hn0:0<n:=by have:=aD h0;omega
  have w1:i64.wrap ((n:Int)-1)=(n:Int)-1:=aB (by omega)
  simp only [w1,Int.toNat_natCast,cN]
  have xj:=aH x
  have QN:=ae x
  try unfold RN at hx
  clear hd
  rw [←QN]
  clear QN h0
  generalize ag x=xs at *
  refine ⟨by omega,by omega,by omega,fun z V'=>0<=z.1/\z.1<d/\-1<=z.2.1/\z.2.1<n/\∃es:List Nat,z.2.2=aG es/\es.length=n/\bN es /\
   val (xs.drop (z.2.1+1).toNat)=d*val (es.drop (z.2.1+1).toNat)+z.1.toNat,fun z=>(z.2.1+1).toNat,
   ⟨(0,(n:Int)-1,aG (List.replicate n 0)),by (try dsimp only);and_intros<;>first|exact True.intro|rfl,by (try dsimp only);omega,by (try dsimp only);omega,by (try dsimp only);omega,by (try dsimp only);omega,_,rfl,by simp,bN.rep _,?_⟩,?_⟩
  ·(try dsimp only)
   rw [List.drop_of_length_le (by omega),List.drop_of_length_le (by simp)];rfl
  rintro ⟨rest,i,vs⟩ mS du ⟨hr0,hr1,hi0,hi1,es,rfl,hes,hde,hv⟩
  dsimp only at hr0 hr1 hi0 hi1 hv ⊢
  obtain ⟨rest,rfl⟩:=Int.eq_ofNat_of_zero_le hr0
  refine ⟨by trivial,fun h3=>?_,fun h3=>?_⟩
  ·have h3:0<=i:=by simpa using h3
   obtain ⟨i,rfl⟩:=Int.eq_ofNat_of_zero_le h3
   have hi2:((i:Int)+1).toNat=i+1:=by omega
   rw [hi2] at hv
   simp only [Int.toNat_natCast] at hv ⊢
   have Un:=xj.get (i:=i) (by omega)
   refine (hx.le du).rd i rfl (by omega) (DA (hy.le du) (by simp) fun lH dv=>(Lz rest xs[i] d (by omega) Un hdl).mono ?_)
   rintro r lP cX rfl
   have hq:(rest*4294967296+xs[i]) / d<4294967296:=by
    rw [Nat.div_lt_iff_lt_mul (by omega)]
    have:rest+1<=d:=by omega
    have:=Nat.mul_le_mul_right 4294967296 this
    rw [Nat.mul_comm 4294967296 d]
    omega
   have hr:(rest*4294967296+xs[i])%d<d:=Nat.mod_lt _ (by omega)
   have E_:=Nat.div_add_mod (rest*4294967296+xs[i]) d
   generalize (rest*4294967296+xs[i]) / d=q at *
   generalize (rest*4294967296+xs[i])%d=r at *
   have w2:i64.wrap ((i:Int)-1)=(i:Int)-1:=aB (by omega)
   simp only [w2]
   refine ⟨_,_,rfl,⟨by omega,by omega⟩,by simp;omega,((r:Int),(i:Int)-1,aG (es.set i q)),?_,?_,?_⟩
   ·(try dsimp only);omega
   ·(try dsimp only);and_intros<;>first|exact True.intro|rfl|(rw [←bA];simp)
   ·(try dsimp only)
    refine ⟨by omega,by omega,by omega,by omega,_,rfl,by simpa using hes,hde.set _ _ (by omega),?_⟩
    have hi3:((i:Int)-1+1).toNat=i:=by omega
    rw [hi3,List.drop_eq_getElem_cons (by omega),List.drop_eq_getElem_cons (l:=es.set i q) (by simp;omega),List.getElem_set_self,List.drop_set_of_lt (by omega)]
    have h9:xs[i]+4294967296*val (List.drop (i+1) xs)=d*(q+4294967296*val (List.drop (i+1) es))+r:=wb hv E_
    rw [bq,bq,Int.toNat_natCast]
    exact h9
  ·have h3:i=-1:=by simp at h3;omega
   subst h3
   simp only [Int.toNat_natCast] at hv
   have hv:val xs=d*val es+rest:=by simpa using hv
   intro mT c_ bk hb
   refine (cW (RD.bG hb hde (n:=n) (c:=n) (by omega) (Nat.le_refl _)) (by omega)).mono ?_
   rintro r qt cR ⟨k,rfl,h4⟩
   refine ⟨_,_,_,rfl,fun _ rK dA bk2 hb2=>?_⟩
   have hb2:rK.bG bk2 (.cells (aG [rest]).toArray 188 (0,0)):=by
    simpa [aG] using hb2
   refine (cW (RD.bG hb2 (n:=1) (c:=1) (by simp [bN];omega) rfl (Nat.le_refl _)) (by simp)).mono ?_
   rintro r yV fG ⟨k2,rfl,h5⟩
   refine ⟨_,_,_,rfl,fun _ ui fv=>⟨_,_,_,_,_,_,rfl,?_,?_⟩⟩
   ·have e1:val xs / d=val es:=by rw [hv,Nat.mul_add_div (by omega),Nat.div_eq_of_lt (by omega),Nat.add_zero]
    rw [aN hde] at h4
    rw [e1]
    exact h4.le (dA.trans (fG.trans fv))
   ·have e2:val xs%d=rest:=by rw [hv,Nat.mul_add_mod,Nat.mod_eq_of_lt (by omega)]
    rw [aN (by simp [bN];omega)] at h5
    have e3:val [rest]=rest:=by simp
    rw [e3] at h5
    rw [e2]
    exact h5.le fv
 ·have h0:y<=x:=by simpa [←Int.not_lt,fO] using h0
  refine fun qv cC=>(ET (hx.le cC) (hy.le cC) hm hy0 (aD h0)).mono ?_
  rintro r mS du ⟨p1,n1,c1,p2,n2,c2,rfl,g1,g2⟩
  exact ⟨_,_,_,_,_,_,rfl,fun lH dv=>⟨_,_,_,_,_,_,rfl,g1.le dv,g2.le dv⟩⟩
end Go.Proofs.Tryz
