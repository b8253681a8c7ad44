import Derived.Test.YthpmdmkmfoaamaaGreatDoorI13
import Derived.Test.YthpmdmkmfoaamaaGreatDoorI7
import Derived.Test.YthpmdmkmfoaamaaGreatDoorI12
import Derived.Test.YthpmdmkmfoaamaaGreatDoorI5
import Derived.Test.YthpmdmkmfoaamaaGreatDoorI9
set_option linter.unusedVariables false
open Go.IntKind (i64 u64 u32)
namespace Go.Proofs.Tryz
open Go.bF Go.fl
theorem sO {V:View}{v:Value}{q:Rat}(h:RQ V v q){k:Nat}(_s:Sz k q)(_hk:k<=1099511627776):ab prog 61 #[v] V fun r V'=>RQ V' r (-q):=by
 obtain ⟨p,n,c,p',n',c',rfl,h1,h2⟩:=h
 exact mq q h1 h2
theorem bl {V:View}{z:Int}{p:OA}{n c:Nat}(h:RD V p n c (ai z.natAbs)){k:Nat}(_s:Sz k (z:Rat))(_hk:k<=1099511627776) :
  ab prog 97 #[.agg #[.bool (decide (z<0)),.slice p n c]] V fun r V'=>RQ V' r (z:Rat):=DF z h
theorem qG {V:View}{l:Value}{aM l_1 cm:Int}(hl:RL V l aM l_1 cm){k:Nat}(bE:Sz k ((aM:Int):Rat))(bJ:Sz k ((l_1:Int):Rat))(bL:Sz k ((cm:Int):Rat))(hk:1*k+1<274877906944) :
  ab prog 56 #[l] V fun r V'=>RP V' r (((l_1:Int):Rat)) (-(((aM:Int):Rat))):=by
 have hl0:=hl
 obtain ⟨l0,l1,l2,l3,l4,l5,l6,l7,l8,rfl,xQ,xR,BL⟩:=hl
 refine yO _ l0 l1 l2 _ l3 l4 l5 _ l6 l7 l8 V _ fun V1 l1=>(bl (xR.le (l1)) bJ (by omega)).mono ?_
 rintro r V2 l2 g1
 have g10:=g1
 obtain ⟨Kh,Ki,Kj,VK,VL,VM,rfl⟩:=g1.shape
 have bz:Sz (1*k+0) (((l_1:Int):Rat)):=Sz.mono (bJ) (by omega)
 refine ⟨_,_,_,_,_,_,_,rfl,fun V3 l3=>(bl (xQ.le (l1.trans (l2.trans (l3)))) bE (by omega)).mono ?_⟩
 rintro r V4 l4 g2
 have g20:=g2
 obtain ⟨Kk,Kl,Km,Tt,Tu,Tv,rfl⟩:=g2.shape
 have bU:Sz (1*k+0) (((aM:Int):Rat)):=Sz.mono (bE) (by omega)
 refine ⟨_,_,_,_,_,_,_,rfl,fun V5 l5=>(sO (g20.le (l5)) bU (by omega)).mono ?_⟩
 rintro r V6 l6 g3
 have BH:=g3
 obtain ⟨Nq,Nr,Ns,Ty,Tz,TA,rfl⟩:=g3.shape
 have dR:Sz (1*k+0) (-(((aM:Int):Rat))):=Sz.mono (Sz.neg bU) (by omega)
 exact ⟨_,_,_,_,_,_,_,rfl,fun V7 l7=>⟨_,_,_,_,_,_,_,_,_,_,_,_,rfl,(g10.le (l3.trans (l4.trans (l5.trans (l6.trans (l7)))))),(BH.le (l7))⟩⟩
theorem fR {aM:Int}{l_1:Int}{cm:Int}{k:Nat}(bE:Sz k ((aM:Int):Rat))(bJ:Sz k ((l_1:Int):Rat))(bL:Sz k ((cm:Int):Rat)):Sz (1*k+0) (((l_1:Int):Rat)):=by
 have bz:Sz (1*k+0) (((l_1:Int):Rat)):=Sz.mono (bJ) (by omega)
 have bU:Sz (1*k+0) (((aM:Int):Rat)):=Sz.mono (bE) (by omega)
 have dR:Sz (1*k+0) (-(((aM:Int):Rat))):=Sz.mono (Sz.neg bU) (by omega)
 exact Sz.mono bz (by omega)
theorem fS {aM:Int}{l_1:Int}{cm:Int}{k:Nat}(bE:Sz k ((aM:Int):Rat))(bJ:Sz k ((l_1:Int):Rat))(bL:Sz k ((cm:Int):Rat)):Sz (1*k+0) (-(((aM:Int):Rat))):=by
 have bz:Sz (1*k+0) (((l_1:Int):Rat)):=Sz.mono (bJ) (by omega)
 have bU:Sz (1*k+0) (((aM:Int):Rat)):=Sz.mono (bE) (by omega)
 have dR:Sz (1*k+0) (-(((aM:Int):Rat))):=Sz.mono (Sz.neg bU) (by omega)
 exact Sz.mono dR (by omega)
theorem zu {V:View}{p:Value}{cZ cV:Rat}{q:Value}{jc jd:Rat}(hp:RP V p cZ cV)(hq:RP V q jc jd){k:Nat}(dH:Sz k cZ)(dh:Sz k cV)(ju:Sz k jc)(jv:Sz k jd)(hk:4*k+3<274877906944) :
  ab prog 117 #[p,q] V fun r V'=>RQ V' r (((cZ)*(jc))+((cV)*(jd))):=by
 have hp0:=hp
 obtain ⟨p0,p1,p2,p3,p4,p5,p6,p7,p8,p9,KK,Qr,rfl,rz,rA⟩:=hp
 have hq0:=hq
 obtain ⟨q0,q1,q2,q3,q4,q5,q6,q7,q8,q9,J1,Vv,rfl,BP,BQ⟩:=hq
 refine yP _ p0 p1 p2 p3 p4 p5 _ p6 p7 p8 p9 KK Qr _ q0 q1 q2 q3 q4 q5 _ q6 q7 q8 q9 J1 Vv V _ fun V1 l1=>(aZ (rz.le (l1)) (BP.le (l1)) dH ju (by omega)).mono ?_
 rintro r V2 l2 g1
 have g10:=g1
 obtain ⟨Kh,Ki,Kj,VK,VL,VM,rfl⟩:=g1.shape
 have bz:Sz (2*k+1) ((cZ)*(jc)):=Sz.mono (Sz.mul dH ju) (by omega)
 refine ⟨_,_,_,_,_,_,_,rfl,fun V3 l3=>(aZ (rA.le (l1.trans (l2.trans (l3)))) (BQ.le (l1.trans (l2.trans (l3)))) dh jv (by omega)).mono ?_⟩
 rintro r V4 l4 g2
 have g20:=g2
 obtain ⟨Kk,Kl,Km,Tt,Tu,Tv,rfl⟩:=g2.shape
 have bU:Sz (2*k+1) ((cV)*(jd)):=Sz.mono (Sz.mul dh jv) (by omega)
 refine ⟨_,_,_,_,_,_,_,rfl,fun V5 l5=>(fE (g10.le (l3.trans (l4.trans (l5)))) (g20.le (l5)) bz bU (by omega)).mono ?_⟩
 rintro r V6 l6 g3
 have BH:=g3
 obtain ⟨Nq,Nr,Ns,Ty,Tz,TA,rfl⟩:=g3.shape
 have dR:Sz (4*k+3) (((cZ)*(jc))+((cV)*(jd))):=Sz.mono (Sz.add bz bU) (by omega)
 exact ⟨_,_,_,_,_,_,_,rfl,fun V7 l7=>(BH.le (l7))⟩
theorem jC {cZ:Rat}{cV:Rat}{jc:Rat}{jd:Rat}{k:Nat}(dH:Sz k cZ)(dh:Sz k cV)(ju:Sz k jc)(jv:Sz k jd):Sz (4*k+3) (((cZ)*(jc))+((cV)*(jd))):=by
 have bz:Sz (2*k+1) ((cZ)*(jc)):=Sz.mono (Sz.mul dH ju) (by omega)
 have bU:Sz (2*k+1) ((cV)*(jd)):=Sz.mono (Sz.mul dh jv) (by omega)
 have dR:Sz (4*k+3) (((cZ)*(jc))+((cV)*(jd))):=Sz.mono (Sz.add bz bU) (by omega)
 exact Sz.mono dR (by omega)
theorem xI {V:View}{l:Value}{aM l_1 cm:Int}(hl:RL V l aM l_1 cm)(hd0:((((((l_1:Int):Rat)))*((((l_1:Int):Rat))))+(((-(((aM:Int):Rat))))*((-(((aM:Int):Rat)))))).num≠0){k:Nat}(bE:Sz k ((aM:Int):Rat))(bJ:Sz k ((l_1:Int):Rat))(bL:Sz k ((cm:Int):Rat))(hk:6*k+5<274877906944) :
  ab prog 72 #[l] V fun r V'=>RP V' r ((-((((cm:Int):Rat))*((((((l_1:Int):Rat)))*((((l_1:Int):Rat))))+(((-(((aM:Int):Rat))))*((-(((aM:Int):Rat))))))⁻¹))*(((aM:Int):Rat))) ((-((((cm:Int):Rat))*((((((l_1:Int):Rat)))*((((l_1:Int):Rat))))+(((-(((aM:Int):Rat))))*((-(((aM:Int):Rat))))))⁻¹))*(((l_1:Int):Rat))):=by
 have hl0:=hl
 obtain ⟨l0,l1,l2,l3,l4,l5,l6,l7,l8,rfl,xQ,xR,BL⟩:=hl
 refine vJ _ l0 l1 l2 _ l3 l4 l5 _ l6 l7 l8 V _ fun V1 l1=>(qG (hl0.le (l1)) (Sz.mono bE (by omega):Sz (1*k+0) _) (Sz.mono bJ (by omega):Sz (1*k+0) _) (Sz.mono bL (by omega):Sz (1*k+0) _) (by omega)).mono ?_
 rintro r V2 l2 g1
 have g10:=g1
 obtain ⟨Nh,Ni,Nl,Nm,Nn,Np,Rc,Rd,Re,Rf,Nj,Nk,rfl,Lm,Ln⟩:=g1
 have bz:Sz (1*k+0) (((l_1:Int):Rat)):=Sz.mono ((fR (Sz.mono bE (by omega):Sz (1*k+0) _) (Sz.mono bJ (by omega):Sz (1*k+0) _) (Sz.mono bL (by omega):Sz (1*k+0) _))) (by omega)
 have dK:Sz (1*k+0) (-(((aM:Int):Rat))):=Sz.mono ((fS (Sz.mono bE (by omega):Sz (1*k+0) _) (Sz.mono bJ (by omega):Sz (1*k+0) _) (Sz.mono bL (by omega):Sz (1*k+0) _))) (by omega)
 refine ⟨_,_,_,_,_,_,_,_,_,_,_,_,_,_,rfl,fun V3 l3=>(bl (BL.le (l1.trans (l2.trans (l3)))) bL (by omega)).mono ?_⟩
 rintro r V4 l4 g2
 have g20:=g2
 obtain ⟨Kk,Kl,Km,Tt,Tu,Tv,rfl⟩:=g2.shape
 have bU:Sz (1*k+0) (((cm:Int):Rat)):=Sz.mono (bL) (by omega)
 refine ⟨_,_,_,_,_,_,_,rfl,fun V5 l5=>(zu (g10.le (l3.trans (l4.trans (l5)))) (g10.le (l3.trans (l4.trans (l5)))) (Sz.mono bz (by omega):Sz (1*k+0) _) (Sz.mono dK (by omega):Sz (1*k+0) _) (Sz.mono bz (by omega):Sz (1*k+0) _) (Sz.mono dK (by omega):Sz (1*k+0) _) (by omega)).mono ?_⟩
 rintro r V6 l6 g3
 have BH:=g3
 obtain ⟨Nq,Nr,Ns,Ty,Tz,TA,rfl⟩:=g3.shape
 have dR:Sz (4*k+3) ((((((l_1:Int):Rat)))*((((l_1:Int):Rat))))+(((-(((aM:Int):Rat))))*((-(((aM:Int):Rat)))))):=Sz.mono ((jC (Sz.mono bz (by omega):Sz (1*k+0) _) (Sz.mono dK (by omega):Sz (1*k+0) _) (Sz.mono bz (by omega):Sz (1*k+0) _) (Sz.mono dK (by omega):Sz (1*k+0) _))) (by omega)
 refine ⟨_,_,_,_,_,_,_,rfl,fun V7 l7=>(nA (g20.le (l5.trans (l6.trans (l7)))) (BH.le (l7)) hd0 bU dR (by omega)).mono ?_⟩
 rintro r V8 l8 g4
 have Uy:=g4
 obtain ⟨Xd,Xe,Xf,Xg,Xi,Xj,rfl⟩:=g4.shape
 have oa:Sz (5*k+4) ((((cm:Int):Rat))*((((((l_1:Int):Rat)))*((((l_1:Int):Rat))))+(((-(((aM:Int):Rat))))*((-(((aM:Int):Rat))))))⁻¹):=Sz.mono (Sz.mul bU (iB dR)) (by omega)
 refine ⟨_,_,_,_,_,_,_,rfl,fun V9 l9=>(sO (Uy.le (l9)) oa (by omega)).mono ?_⟩
 rintro r gX l10 g5
 have Sf:=g5
 obtain ⟨Xk,Xl,Xm,Xn,Xo,Xp,rfl⟩:=g5.shape
 have qv:Sz (5*k+4) (-((((cm:Int):Rat))*((((((l_1:Int):Rat)))*((((l_1:Int):Rat))))+(((-(((aM:Int):Rat))))*((-(((aM:Int):Rat))))))⁻¹)):=Sz.mono (Sz.neg oa) (by omega)
 refine ⟨_,_,_,_,_,_,_,rfl,fun iH bR=>(bl (xQ.le (l1.trans (l2.trans (l3.trans (l4.trans (l5.trans (l6.trans (l7.trans (l8.trans (l9.trans (l10.trans (bR)))))))))))) bE (by omega)).mono ?_⟩
 rintro r lf cE g6
 have Uz:=g6
 obtain ⟨Xq,Xr,Xs,Xt,Xu,Xv,rfl⟩:=g6.shape
 have El:Sz (1*k+0) (((aM:Int):Rat)):=Sz.mono (bE) (by omega)
 refine ⟨_,_,_,_,_,_,_,rfl,fun lr cu=>(aZ (Sf.le (bR.trans (cE.trans (cu)))) (Uz.le (cu)) qv El (by omega)).mono ?_⟩
 rintro r pH eM g7
 have UA:=g7
 obtain ⟨Xw,Xx,Xy,Xz,XA,XB,rfl⟩:=g7.shape
 have Kq:Sz (6*k+5) ((-((((cm:Int):Rat))*((((((l_1:Int):Rat)))*((((l_1:Int):Rat))))+(((-(((aM:Int):Rat))))*((-(((aM:Int):Rat))))))⁻¹))*(((aM:Int):Rat))):=Sz.mono (Sz.mul qv El) (by omega)
 refine ⟨_,_,_,_,_,_,_,rfl,fun oe dA=>(bl (xR.le (l1.trans (l2.trans (l3.trans (l4.trans (l5.trans (l6.trans (l7.trans (l8.trans (l9.trans (l10.trans (bR.trans (cE.trans (cu.trans (eM.trans (dA)))))))))))))))) bJ (by omega)).mono ?_⟩
 rintro r mM dF g8
 have UB:=g8
 obtain ⟨XC,XD,XE,XF,XG,XH,rfl⟩:=g8.shape
 have Em:Sz (1*k+0) (((l_1:Int):Rat)):=Sz.mono (bJ) (by omega)
 refine ⟨_,_,_,_,_,_,_,rfl,fun oo cO=>(aZ (Sf.le (bR.trans (cE.trans (cu.trans (eM.trans (dA.trans (dF.trans (cO)))))))) (UB.le (cO)) qv Em (by omega)).mono ?_⟩
 rintro r qA eW g9
 have UC:=g9
 obtain ⟨XI,XJ,XK,XL,XM,XN,rfl⟩:=g9.shape
 have Kr:Sz (6*k+5) ((-((((cm:Int):Rat))*((((((l_1:Int):Rat)))*((((l_1:Int):Rat))))+(((-(((aM:Int):Rat))))*((-(((aM:Int):Rat))))))⁻¹))*(((l_1:Int):Rat))):=Sz.mono (Sz.mul qv Em) (by omega)
 exact ⟨_,_,_,_,_,_,_,rfl,fun sf eF=>⟨_,_,_,_,_,_,_,_,_,_,_,_,rfl,(UA.le (dA.trans (dF.trans (cO.trans (eW.trans (eF)))))),(UC.le (eF))⟩⟩
theorem uO {aM:Int}{l_1:Int}{cm:Int}{k:Nat}(bE:Sz k ((aM:Int):Rat))(bJ:Sz k ((l_1:Int):Rat))(bL:Sz k ((cm:Int):Rat)):Sz (6*k+5) ((-((((cm:Int):Rat))*((((((l_1:Int):Rat)))*((((l_1:Int):Rat))))+(((-(((aM:Int):Rat))))*((-(((aM:Int):Rat))))))⁻¹))*(((aM:Int):Rat))):=by
 have bz:Sz (1*k+0) (((l_1:Int):Rat)):=Sz.mono ((fR (Sz.mono bE (by omega):Sz (1*k+0) _) (Sz.mono bJ (by omega):Sz (1*k+0) _) (Sz.mono bL (by omega):Sz (1*k+0) _))) (by omega)
 have dK:Sz (1*k+0) (-(((aM:Int):Rat))):=Sz.mono ((fS (Sz.mono bE (by omega):Sz (1*k+0) _) (Sz.mono bJ (by omega):Sz (1*k+0) _) (Sz.mono bL (by omega):Sz (1*k+0) _))) (by omega)
 have bU:Sz (1*k+0) (((cm:Int):Rat)):=Sz.mono (bL) (by omega)
 have dR:Sz (4*k+3) ((((((l_1:Int):Rat)))*((((l_1:Int):Rat))))+(((-(((aM:Int):Rat))))*((-(((aM:Int):Rat)))))):=Sz.mono ((jC (Sz.mono bz (by omega):Sz (1*k+0) _) (Sz.mono dK (by omega):Sz (1*k+0) _) (Sz.mono bz (by omega):Sz (1*k+0) _) (Sz.mono dK (by omega):Sz (1*k+0) _))) (by omega)
 have oa:Sz (5*k+4) ((((cm:Int):Rat))*((((((l_1:Int):Rat)))*((((l_1:Int):Rat))))+(((-(((aM:Int):Rat))))*((-(((aM:Int):Rat))))))⁻¹):=Sz.mono (Sz.mul bU (iB dR)) (by omega)
 have qv:Sz (5*k+4) (-((((cm:Int):Rat))*((((((l_1:Int):Rat)))*((((l_1:Int):Rat))))+(((-(((aM:Int):Rat))))*((-(((aM:Int):Rat))))))⁻¹)):=Sz.mono (Sz.neg oa) (by omega)
 have El:Sz (1*k+0) (((aM:Int):Rat)):=Sz.mono (bE) (by omega)
 have Kq:Sz (6*k+5) ((-((((cm:Int):Rat))*((((((l_1:Int):Rat)))*((((l_1:Int):Rat))))+(((-(((aM:Int):Rat))))*((-(((aM:Int):Rat))))))⁻¹))*(((aM:Int):Rat))):=Sz.mono (Sz.mul qv El) (by omega)
 have Em:Sz (1*k+0) (((l_1:Int):Rat)):=Sz.mono (bJ) (by omega)
 have Kr:Sz (6*k+5) ((-((((cm:Int):Rat))*((((((l_1:Int):Rat)))*((((l_1:Int):Rat))))+(((-(((aM:Int):Rat))))*((-(((aM:Int):Rat))))))⁻¹))*(((l_1:Int):Rat))):=Sz.mono (Sz.mul qv Em) (by omega)
 exact Sz.mono Kq (by omega)
theorem uP {aM:Int}{l_1:Int}{cm:Int}{k:Nat}(bE:Sz k ((aM:Int):Rat))(bJ:Sz k ((l_1:Int):Rat))(bL:Sz k ((cm:Int):Rat)):Sz (6*k+5) ((-((((cm:Int):Rat))*((((((l_1:Int):Rat)))*((((l_1:Int):Rat))))+(((-(((aM:Int):Rat))))*((-(((aM:Int):Rat))))))⁻¹))*(((l_1:Int):Rat))):=by
 have bz:Sz (1*k+0) (((l_1:Int):Rat)):=Sz.mono ((fR (Sz.mono bE (by omega):Sz (1*k+0) _) (Sz.mono bJ (by omega):Sz (1*k+0) _) (Sz.mono bL (by omega):Sz (1*k+0) _))) (by omega)
 have dK:Sz (1*k+0) (-(((aM:Int):Rat))):=Sz.mono ((fS (Sz.mono bE (by omega):Sz (1*k+0) _) (Sz.mono bJ (by omega):Sz (1*k+0) _) (Sz.mono bL (by omega):Sz (1*k+0) _))) (by omega)
 have bU:Sz (1*k+0) (((cm:Int):Rat)):=Sz.mono (bL) (by omega)
 have dR:Sz (4*k+3) ((((((l_1:Int):Rat)))*((((l_1:Int):Rat))))+(((-(((aM:Int):Rat))))*((-(((aM:Int):Rat)))))):=Sz.mono ((jC (Sz.mono bz (by omega):Sz (1*k+0) _) (Sz.mono dK (by omega):Sz (1*k+0) _) (Sz.mono bz (by omega):Sz (1*k+0) _) (Sz.mono dK (by omega):Sz (1*k+0) _))) (by omega)
 have oa:Sz (5*k+4) ((((cm:Int):Rat))*((((((l_1:Int):Rat)))*((((l_1:Int):Rat))))+(((-(((aM:Int):Rat))))*((-(((aM:Int):Rat))))))⁻¹):=Sz.mono (Sz.mul bU (iB dR)) (by omega)
 have qv:Sz (5*k+4) (-((((cm:Int):Rat))*((((((l_1:Int):Rat)))*((((l_1:Int):Rat))))+(((-(((aM:Int):Rat))))*((-(((aM:Int):Rat))))))⁻¹)):=Sz.mono (Sz.neg oa) (by omega)
 have El:Sz (1*k+0) (((aM:Int):Rat)):=Sz.mono (bE) (by omega)
 have Kq:Sz (6*k+5) ((-((((cm:Int):Rat))*((((((l_1:Int):Rat)))*((((l_1:Int):Rat))))+(((-(((aM:Int):Rat))))*((-(((aM:Int):Rat))))))⁻¹))*(((aM:Int):Rat))):=Sz.mono (Sz.mul qv El) (by omega)
 have Em:Sz (1*k+0) (((l_1:Int):Rat)):=Sz.mono (bJ) (by omega)
 have Kr:Sz (6*k+5) ((-((((cm:Int):Rat))*((((((l_1:Int):Rat)))*((((l_1:Int):Rat))))+(((-(((aM:Int):Rat))))*((-(((aM:Int):Rat))))))⁻¹))*(((l_1:Int):Rat))):=Sz.mono (Sz.mul qv Em) (by omega)
 exact Sz.mono Kr (by omega)
theorem Bz {V:View}{l:Value}{aM l_1 cm:Int}{t:Value}{xk:Rat}(hl:RL V l aM l_1 cm)(ht:RQ V t xk)(hd0:((((((l_1:Int):Rat)))*((((l_1:Int):Rat))))+(((-(((aM:Int):Rat))))*((-(((aM:Int):Rat)))))).num≠0){k:Nat}(bE:Sz k ((aM:Int):Rat))(bJ:Sz k ((l_1:Int):Rat))(bL:Sz k ((cm:Int):Rat))(yw:Sz k xk)(hk:18*k+16<274877906944) :
  ab prog 23 #[l,t] V fun r V'=>RP V' r (((-((((cm:Int):Rat))*((((((l_1:Int):Rat)))*((((l_1:Int):Rat))))+(((-(((aM:Int):Rat))))*((-(((aM:Int):Rat))))))⁻¹))*(((aM:Int):Rat)))+(xk)*(((l_1:Int):Rat))) (((-((((cm:Int):Rat))*((((((l_1:Int):Rat)))*((((l_1:Int):Rat))))+(((-(((aM:Int):Rat))))*((-(((aM:Int):Rat))))))⁻¹))*(((l_1:Int):Rat)))+(xk)*(-(((aM:Int):Rat)))):=by
 have hl0:=hl
 obtain ⟨l0,l1,l2,l3,l4,l5,l6,l7,l8,rfl,xQ,xR,BL⟩:=hl
 have ht0:=ht
 obtain ⟨t0,t1,t2,t3,t4,t5,rfl⟩:=ht.shape
 refine A9 _ l0 l1 l2 _ l3 l4 l5 _ l6 l7 l8 _ t0 t1 t2 t3 t4 t5 V _ fun V1 l1=>(xI (hl0.le (l1)) hd0 (Sz.mono bE (by omega):Sz (1*k+0) _) (Sz.mono bJ (by omega):Sz (1*k+0) _) (Sz.mono bL (by omega):Sz (1*k+0) _) (by omega)).mono ?_
 rintro r V2 l2 g1
 have g10:=g1
 obtain ⟨Nh,Ni,Nl,Nm,Nn,Np,Rc,Rd,Re,Rf,Nj,Nk,rfl,Lm,Ln⟩:=g1
 have bz:Sz (6*k+5) ((-((((cm:Int):Rat))*((((((l_1:Int):Rat)))*((((l_1:Int):Rat))))+(((-(((aM:Int):Rat))))*((-(((aM:Int):Rat))))))⁻¹))*(((aM:Int):Rat))):=Sz.mono ((uO (Sz.mono bE (by omega):Sz (1*k+0) _) (Sz.mono bJ (by omega):Sz (1*k+0) _) (Sz.mono bL (by omega):Sz (1*k+0) _))) (by omega)
 have dK:Sz (6*k+5) ((-((((cm:Int):Rat))*((((((l_1:Int):Rat)))*((((l_1:Int):Rat))))+(((-(((aM:Int):Rat))))*((-(((aM:Int):Rat))))))⁻¹))*(((l_1:Int):Rat))):=Sz.mono ((uP (Sz.mono bE (by omega):Sz (1*k+0) _) (Sz.mono bJ (by omega):Sz (1*k+0) _) (Sz.mono bL (by omega):Sz (1*k+0) _))) (by omega)
 refine ⟨_,_,_,_,_,_,_,_,_,_,_,_,_,_,rfl,fun V3 l3=>(qG (hl0.le (l1.trans (l2.trans (l3)))) (Sz.mono bE (by omega):Sz (1*k+0) _) (Sz.mono bJ (by omega):Sz (1*k+0) _) (Sz.mono bL (by omega):Sz (1*k+0) _) (by omega)).mono ?_⟩
 rintro r V4 l4 g2
 have g20:=g2
 obtain ⟨VT,VU,VV,VW,VX,VY,VZ,V_,Wa,Wb,Tq,Ts,rfl,Uw,Ux⟩:=g2
 have bU:Sz (1*k+0) (((l_1:Int):Rat)):=Sz.mono ((fR (Sz.mono bE (by omega):Sz (1*k+0) _) (Sz.mono bJ (by omega):Sz (1*k+0) _) (Sz.mono bL (by omega):Sz (1*k+0) _))) (by omega)
 have Ba:Sz (1*k+0) (-(((aM:Int):Rat))):=Sz.mono ((fS (Sz.mono bE (by omega):Sz (1*k+0) _) (Sz.mono bJ (by omega):Sz (1*k+0) _) (Sz.mono bL (by omega):Sz (1*k+0) _))) (by omega)
 refine ⟨_,_,_,_,_,_,_,_,_,_,_,_,_,_,rfl,fun V5 l5=>(lD (g10.le (l3.trans (l4.trans (l5)))) (ht0.le (l1.trans (l2.trans (l3.trans (l4.trans (l5)))))) (g20.le (l5)) (Sz.mono bz (by omega):Sz (6*k+5) _) (Sz.mono dK (by omega):Sz (6*k+5) _) (Sz.mono yw (by omega):Sz (6*k+5) _) (Sz.mono bU (by omega):Sz (6*k+5) _) (Sz.mono Ba (by omega):Sz (6*k+5) _) (by omega)).mono ?_⟩
 rintro r V6 l6 g3
 have BH:=g3
 obtain ⟨Wc,We,Wf,Wg,Wh,Wi,Wj,Wk,Wl,Wm,Tw,Tx,rfl,OX,OY⟩:=g3
 have dR:Sz (18*k+17) (((-((((cm:Int):Rat))*((((((l_1:Int):Rat)))*((((l_1:Int):Rat))))+(((-(((aM:Int):Rat))))*((-(((aM:Int):Rat))))))⁻¹))*(((aM:Int):Rat)))+(xk)*(((l_1:Int):Rat))):=Sz.mono (Sz.add (Sz.mono bz (by omega):Sz (6*k+5) _) (Sz.mul (Sz.mono yw (by omega):Sz (6*k+5) _) (Sz.mono bU (by omega):Sz (6*k+5) _))) (by omega)
 have Ek:Sz (18*k+17) (((-((((cm:Int):Rat))*((((((l_1:Int):Rat)))*((((l_1:Int):Rat))))+(((-(((aM:Int):Rat))))*((-(((aM:Int):Rat))))))⁻¹))*(((l_1:Int):Rat)))+(xk)*(-(((aM:Int):Rat)))):=Sz.mono (Sz.add (Sz.mono dK (by omega):Sz (6*k+5) _) (Sz.mul (Sz.mono yw (by omega):Sz (6*k+5) _) (Sz.mono Ba (by omega):Sz (6*k+5) _))) (by omega)
 exact ⟨_,_,_,_,_,_,_,_,_,_,_,_,_,_,rfl,fun V7 l7=>⟨_,_,_,_,_,_,_,_,_,_,_,_,rfl,(OX.le (l7)),(OY.le (l7))⟩⟩
theorem RA.shape {V:View}{v:Value}{q:Rat}(h:RA V v q):∃b p n c p' n' c',v=.agg #[.bool b,.slice p n c,.slice p' n' c']:=by
 obtain ⟨p,n,c,p',n',c',e,-⟩:=h;exact ⟨_,_,_,_,_,_,_,e⟩
def I2 (V:View)(v:Value)(x y:Rat):Prop:=∃b p n c p' n' c' d q m e q' m' e',v=.agg #[.bool b,.slice p n c,.slice p' n' c',.bool d,.slice q m e,.slice q' m' e'] /\
 RA V (.agg #[.bool b,.slice p n c,.slice p' n' c']) x/\RA V (.agg #[.bool d,.slice q m e,.slice q' m' e']) y
theorem I2.le {V V':View}{v:Value}{x y:Rat}(h:I2 V v x y)(l:V.Le V'):I2 V' v x y:=by
 obtain ⟨b,p,n,c,p',n',c',d,q,m,e,q',m',e',rfl,h1,h2⟩:=h
 exact ⟨_,_,_,_,_,_,_,_,_,_,_,_,_,_,rfl,h1.le l,h2.le l⟩
theorem Bs {V:View}{v:Value}{x y:Rat}(h:I2 V v x y){k:Nat}(s1:Sz k x)(s2:Sz k y)(hk:k<=1099511627776) :
  ab prog 47 #[v] V fun r V'=>ld V' r x y:=by
 obtain ⟨b,p,n,c,p',n',c',d,q,m,e,q',m',e',rfl,h1,h2⟩:=h
 refine rf b p n c p' n' c' d q m e q' m' e' V _ fun V1 l1=>(wz (h1.le l1) s1 hk).mono ?_
 rintro r V2 l2 g1
 have g10:=g1
 obtain ⟨u,v,w,rfl⟩:=g1.shape
 refine ⟨_,_,_,rfl,fun V3 l3=>(wz (h2.le (l1.trans (l2.trans l3))) s2 hk).mono ?_⟩
 rintro r V4 l4 g2
 have g20:=g2
 obtain ⟨u,v,w,rfl⟩:=g2.shape
 exact ⟨_,_,_,rfl,fun V5 l5=>⟨_,_,_,_,_,_,rfl,g10.le (l3.trans (l4.trans l5)),g20.le l5⟩⟩
theorem uX {V:View}{l p:Value}{aM l_1 cm cZ cV:Rat}(hl:Bb V l aM l_1 cm)(hp:ld V p cZ cV){k:Nat}(s0:Sz k aM)(s1:Sz k l_1)(s2:Sz k cm)(s3:Sz k cZ)(s4:Sz k cV)(hk:16*k+16<274877906944) :
  ab prog 125 #[l,p] V fun r V'=>r=.int .i64 (aM*cZ+l_1*cV+cm).num.sign:=by
 have hl0:=hl
 have hp0:=hp
 obtain ⟨a0,a1,a2,a3,a4,a5,a6,a7,a8,rfl,-,-,-⟩:=hl
 obtain ⟨p0,p1,p2,p3,p4,p5,rfl,-,-⟩:=hp
 refine uz a0 a1 a2 a3 a4 a5 a6 a7 a8 p0 p1 p2 p3 p4 p5 V _ fun V1 l1=>(sM (hl0.le l1) (hp0.le l1) s0 s1 s2 s3 s4 (by omega)).mono ?_
 rintro r V2 l2 g
 have g0:=g
 obtain ⟨u,v,w,rfl⟩:=g.shape
 refine ⟨_,_,_,rfl,fun V3 l3=>(eR (g0.le l3) (qw s0 s1 s2 s3 s4) (by omega)).mono ?_⟩
 rintro r V4 l4 rfl
 exact ⟨_,rfl,fun V5 l5=>rfl⟩
theorem qE {V:View}{v:Value}{q:Rat}(h:RQ V v q){k:Nat}(s:Sz k q)(hk:k<=1099511627776):ab prog 49 #[v] V fun r V'=>RA V' r q:=by
 obtain ⟨p,n,c,p',n',c',rfl,h1,h2⟩:=h
 have q1:=ag s.1
 have q2:=ag s.2
 refine yL _ p n c p' n' c' V _ fun V1 l1=>(iU ⟨_,_,_,rfl,h1.le l1⟩ (by omega)).mono ?_
 rintro r V2 l2 ⟨p1,n1,c1,rfl,g1⟩
 refine ⟨_,_,_,_,rfl,fun V3 l3=>(cz q _ (h2.le (l1.trans (l2.trans l3)))).mono ?_⟩
 rintro r V4 l4 ⟨p2,n2,c2,rfl,g2⟩
 refine ⟨_,_,_,rfl,fun V5 l5=>(qD (g2.le l5) (by omega)).mono ?_⟩
 rintro r V6 l6 ⟨p3,n3,c3,rfl,g3⟩
 exact ⟨_,_,_,rfl,fun V7 l7=>⟨_,_,_,_,_,_,rfl,g1.le (l3.trans (l4.trans (l5.trans (l6.trans l7)))),g3.le l7⟩⟩
theorem fU {V:View}{v:Value}{x y:Rat}(h:RP V v x y){k:Nat}(s1:Sz k x)(s2:Sz k y)(hk:k<=1099511627776):ab prog 15 #[v] V fun r V'=>I2 V' r x y:=by
 obtain ⟨p1,n1,c1,p2,n2,c2,p3,n3,c3,p4,n4,c4,rfl,h1,h2⟩:=h
 refine yT _ p1 n1 c1 p2 n2 c2 _ p3 n3 c3 p4 n4 c4 V _ fun V1 l1=>(qE (h1.le l1) s1 hk).mono ?_
 rintro r V2 l2 g1
 have g10:=g1
 obtain ⟨_,_,_,_,_,_,_,rfl⟩:=g1.shape
 refine ⟨_,_,_,_,_,_,_,rfl,fun V3 l3=>(qE (h2.le (l1.trans (l2.trans l3))) s2 hk).mono ?_⟩
 rintro r V4 l4 g2
 have g20:=g2
 obtain ⟨_,_,_,_,_,_,_,rfl⟩:=g2.shape
 exact ⟨_,_,_,_,_,_,_,rfl,fun V5 l5=>⟨_,_,_,_,_,_,_,_,_,_,_,_,_,_,rfl,g10.le (l3.trans (l4.trans l5)),g20.le l5⟩⟩
theorem sP {V:View}(n:Int)(d:Nat)(h0:-1000<=n)(h1:n<=1000)(hd0:d≠0)(hd:d<=1000) :
  ab prog 79 #[.int .i64 n,.int .i64 (d:Int)] V fun r V'=>RQ V' r (mkRat n d):=by
 refine A1 n d V _ fun V1 l1=>(wE n (by omega) (by omega)).mono ?_
 rintro r V2 l2 ⟨p,m,c,rfl,g⟩
 rw [aJ (by omega)]
 refine ⟨_,_,_,_,rfl,fun V3 l3=>(cM d (by omega)).mono ?_⟩
 rintro r V4 l4 ⟨p2,m2,c2,rfl,g2⟩
 refine ⟨_,_,_,rfl,fun V5 l5=>(ku n (g.le (l3.trans (l4.trans l5))) (g2.le l5) (Nat.le_trans (ag (k:=10) (by omega)) (by omega)) (Nat.le_trans (ag (k:=10) (by omega)) (by omega)) hd0).mono ?_⟩
 rintro r V6 l6 h
 have h':=h
 obtain ⟨_,_,_,_,_,_,rfl⟩:=h.shape
 exact ⟨_,_,_,_,_,_,_,rfl,fun V7 l7=>h'.le l7⟩
theorem HY:∀x:Fin 9,Sz 10 (mkRat (2*((x.1:Int)-4)+1) 2)/\Sz 10 (mkRat (3*((x.1:Int)-4)+1) 3):=by unfold Sz;decide +kernel
theorem Li {V:View}{tb:Nat}{p:OA}{n c:Nat}{at_:Int}(hr:CK V p n)(hn:n<=400)(hw:jG V tb p n c at_)(hx:V.X tb)(h0:0<=at_) :
  ab prog 25 #[.pointer (some ⟨tb,0,none⟩)] V fun r V'=>∃(q:Rat)(at':Int),RQ V' r q/\Sz 10 q/\0<=at'/\jG V' tb p n c at':=by
 refine rO tb p n c at_ V _ hw hx fun V1 l1 bk1 e1 h1=>(g_ (V:=V1.ar [bk1]) 9 (hr.le fun b o h=>l1 b o h) hn e1 ⟨by simp,h1⟩ h0 (by omega) (by omega)).mono ?_
 rintro r V2 l2 ⟨x,EB,rfl,x0,x1,t1,hw1⟩
 refine ⟨_,rfl,_,_,_,_,hw1,fun V3 l3 K5 e3 h3=>(g_ (V:=V3.ar [K5]) 6 (hr.le fun b o h=>l3 b o (l2 b o (l1 b o h))) hn e3 ⟨by simp,h3⟩ t1 (by omega) (by omega)).mono ?_⟩
 rintro r V4 l4 ⟨y,at2,rfl,y0,y1,t2,hw2⟩
 obtain ⟨i,rfl⟩:∃i:Nat,x=i:=⟨x.toNat,by omega⟩
 obtain ⟨z1,z2⟩:=HY ⟨i,by omega⟩
 dsimp only at z1 z2
 have w1:i64.wrap ((i:Int)-4)=(i:Int)-4:=au (by omega)
 have w2:i64.wrap (i64.wrap (2*((i:Int)-4))+1)=2*((i:Int)-4)+1:=by rw [au (x:=2*((i:Int)-4)) (by omega),au (by omega)]
 have w3:i64.wrap (i64.wrap (3*((i:Int)-4))+1)=3*((i:Int)-4)+1:=by rw [au (x:=3*((i:Int)-4)) (by omega),au (by omega)]
 rw [w1,w2,w3]
 refine ⟨_,rfl,_,_,_,_,hw2,fun _ V5 l5=>(sP (2*((i:Int)-4)+1) 2 (by omega) (by omega) (by omega) (by omega)).mono ?_,fun _=>⟨fun _ V8 l8=>(sP (3*((i:Int)-4)+1) 3 (by omega) (by omega) (by omega) (by omega)).mono ?_,fun _ iH bR=>(lC ((i:Int)-4) (by omega) (by omega)).mono ?_⟩⟩
 ·rintro r V6 l6 h
  have h':=h
  obtain ⟨_,_,_,_,_,_,rfl⟩:=h.shape
  exact ⟨_,_,_,_,_,_,_,rfl,fun V7 l7 e7=>⟨_,at2,h'.le l7,z1,t2,e7⟩⟩
 ·rintro r V6 l6 h
  have h':=h
  obtain ⟨_,_,_,_,_,_,rfl⟩:=h.shape
  exact ⟨_,_,_,_,_,_,_,rfl,fun V7 l7 e7=>⟨_,at2,h'.le l7,z2,t2,e7⟩⟩
 ·rintro r V6 l6 h
  have h':=h
  obtain ⟨_,_,_,_,_,_,rfl⟩:=h.shape
  exact ⟨_,_,_,_,_,_,_,rfl,fun V7 l7 e7=>⟨_,at2,h'.le l7,uS (by omega),t2,e7⟩⟩
theorem G0 {V:View}{tb:Nat}{p:OA}{n c:Nat}{at_:Int}(hr:CK V p n)(hn:n<=400)(hw:jG V tb p n c at_)(hx:V.X tb)(h0:0<=at_) :
  ab prog 43 #[.pointer (some ⟨tb,0,none⟩)] V fun r V'=>∃(x y:Rat)(at':Int),RP V' r x y/\Sz 10 x/\Sz 10 y/\0<=at'/\jG V' tb p n c at':=by
 refine mR tb p n c at_ V _ hw hx fun V1 l1 bk1 e1 h1=>(Li (V:=V1.ar [bk1]) (hr.le fun b o h=>l1 b o h) hn e1 ⟨by simp,h1⟩ h0).mono ?_
 rintro r V2 l2 ⟨x,EB,hq,sx,t1,hw1⟩
 obtain ⟨p1,n1,c1,p2,n2,c2,rfl,hq1,hq2⟩:=hq
 refine ⟨_,_,_,_,_,_,_,rfl,_,_,_,_,hw1,fun V3 l3 Um e3 h3=>(Li (V:=V3.ar [Um]) (hr.le fun b o h=>l3 b o (l2 b o (l1 b o h))) hn e3 ⟨by simp,h3⟩ t1).mono ?_⟩
 rintro r V4 l4 ⟨y,at2,hq',sy,t2,hw2⟩
 obtain ⟨p3,n3,c3,p4,n4,c4,rfl,hq3,hq4⟩:=hq'
 have iJ:∀{V5:View},V4.shut.Le V5->V2.Le V5:=fun l5 b o h=>l5 b o (l4 b o (l3 b o h))
 exact ⟨_,_,_,_,_,_,_,rfl,_,_,_,_,hw2,fun V5 l5 e5=>⟨x,y,at2,⟨_,_,_,_,_,_,_,_,_,_,_,_,rfl,⟨_,_,_,_,_,_,rfl,hq1.le (iJ l5),hq2.le (iJ l5)⟩,⟨_,_,_,_,_,_,rfl,hq3.le fun b o h=>l5 b o h,hq4.le fun b o h=>l5 b o h⟩⟩,sx,sy,t2,e5⟩⟩
theorem zv {V:View}{l:Value}{a b c:Int}(hl:RL V l a b c):ab prog 158 #[l] V fun r V'=>RL V' r (-a) (-b) (-c):=by
 obtain ⟨a0,a1,a2,a3,a4,a5,a6,a7,a8,rfl,h1,h2,h3⟩:=hl
 refine yQ _ a0 a1 a2 _ a3 a4 a5 _ a6 a7 a8 V _ fun V1 l1=>(fT a (h1.le l1)).mono ?_
 rintro r V2 l2 ⟨p1,n1,c1,rfl,g1⟩
 refine ⟨_,_,_,_,rfl,fun V3 l3=>(fT b (h2.le (l1.trans (l2.trans l3)))).mono ?_⟩
 rintro r V4 l4 ⟨p2,n2,c2,rfl,g2⟩
 refine ⟨_,_,_,_,rfl,fun V5 l5=>(fT c (h3.le (l1.trans (l2.trans (l3.trans (l4.trans l5)))))).mono ?_⟩
 rintro r V6 l6 ⟨p3,n3,c3,rfl,g3⟩
 exact ⟨_,_,_,_,rfl,fun V7 l7=>⟨_,_,_,_,_,_,_,_,_,rfl,g1.le (l3.trans (l4.trans (l5.trans (l6.trans l7)))),g2.le (l5.trans (l6.trans l7)),g3.le l7⟩⟩
end Go.Proofs.Tryz
namespace Go.bF
open Go.fl
theorem RR.zero (V:View):RR V (.agg #[.int .i64 0,.int .i64 0,.pointer none]) 0:=.inl ⟨rfl,by unfold Wd;decide⟩
end Go.bF
namespace Go.Proofs.Tryz
open Go.bF Go.fl
structure Sp where
 lo:Rat
 hi:Rat
 a:Bool
 b:Bool
def Sp.can (s:Sp):Prop:=(s.a=true->s.lo=0)/\(s.b=true->s.hi=0)
def Sp.sz (k:Nat)(s:Sp):Prop:=Sz k s.lo/\Sz k s.hi
def Sp.zero:Sp:=⟨0,0,false,false⟩
def yV (k:Nat)(l:L3):Prop:=Sz k (l.1:Rat)/\Sz k (l.2.1:Rat)/\Sz k (l.2.2:Rat)
def NI (V:View)(v:Value)(s:Sp):Prop:=∃(x1 x2:Int)(p:OA)(y1 y2:Int)(q:OA),v=.agg #[.int .i64 x1,.int .i64 x2,.pointer p,.int .i64 y1,.int .i64 y2,.pointer q,.bool s.a,.bool s.b] /\
 RR V (.agg #[.int .i64 x1,.int .i64 x2,.pointer p]) s.lo/\RR V (.agg #[.int .i64 y1,.int .i64 y2,.pointer q]) s.hi
theorem NI.le {V V':View}{v:Value}{s:Sp}(h:NI V v s)(l:V.Le V'):NI V' v s:=by
 obtain ⟨x1,x2,p,y1,y2,q,e,h1,h2⟩:=h
 exact ⟨x1,x2,p,y1,y2,q,e,h1.le l,h2.le l⟩
def Kv (V:View)(v:Value)(l:L3):Prop:=Bb V v (l.1:Rat) (l.2.1:Rat) (l.2.2:Rat)
theorem Kv.le {V V':View}{v:Value}{l:L3}(h:Kv V v l)(e:V.Le V'):Kv V' v l:=Bb.le h e
def Ku (V:View)(v:Value)(l:L3)(s:Sp):Prop:=∃(x1 x2:Int)(p:OA)(y1 y2:Int)(q:OA)(z1 z2:Int)(r:OA)(u1 u2:Int)(t:OA)(w1 w2:Int)(o:OA),
 v=.agg #[.int .i64 x1,.int .i64 x2,.pointer p,.int .i64 y1,.int .i64 y2,.pointer q,.int .i64 z1,.int .i64 z2,.pointer r,.int .i64 u1,.int .i64 u2,.pointer t,.int .i64 w1,.int .i64 w2,.pointer o,.bool s.a,.bool s.b] /\
 Kv V (.agg #[.int .i64 x1,.int .i64 x2,.pointer p,.int .i64 y1,.int .i64 y2,.pointer q,.int .i64 z1,.int .i64 z2,.pointer r]) l /\
 NI V (.agg #[.int .i64 u1,.int .i64 u2,.pointer t,.int .i64 w1,.int .i64 w2,.pointer o,.bool s.a,.bool s.b]) s
theorem Ku.le {V V':View}{v:Value}{l:L3}{s:Sp}(h:Ku V v l s)(e:V.Le V'):Ku V' v l s:=by
 obtain ⟨x1,x2,p,y1,y2,q,z1,z2,r,u1,u2,t,w1,w2,o,rfl,h1,h2⟩:=h
 exact ⟨x1,x2,p,y1,y2,q,z1,z2,r,u1,u2,t,w1,w2,o,rfl,h1.le e,h2.le e⟩
def GM (V:View)(v:Value)(b:Bool)(xs ys:List Nat):Prop:=∃p n c p' n' c',v=.agg #[.bool b,.slice p n c,.slice p' n' c']/\RD V p n c xs/\RD V p' n' c' ys
theorem GM.le {V V':View}{v:Value}{b:Bool}{xs ys:List Nat}(h:GM V v b xs ys)(l:V.Le V'):GM V' v b xs ys:=by
 obtain ⟨p,n,c,p',n',c',e,h1,h2⟩:=h;exact ⟨p,n,c,p',n',c',e,h1.le l,h2.le l⟩
theorem GM.nil {V:View}:GM V (.agg #[.bool false,.slice none 0 0,.slice none 0 0]) false [] []:=⟨_,_,_,_,_,_,rfl,RD.nil,RD.nil⟩
def RE (V:View)(v:Value)(q:Rat)(no:Bool):Prop:=(no=true->GM V v false [] [])/\(no=false->RA V v q)
theorem RE.le {V V':View}{v:Value}{q:Rat}{no:Bool}(h:RE V v q no)(l:V.Le V'):RE V' v q no:=⟨fun e=>(h.1 e).le l,fun e=>(h.2 e).le l⟩
theorem RE.shape {V:View}{v:Value}{q:Rat}{no:Bool}(h:RE V v q no):∃b p n c p' n' c',v=.agg #[.bool b,.slice p n c,.slice p' n' c']:=by
 cases no with
 | true=>obtain ⟨_,_,_,_,_,_,e,-⟩:=h.1 rfl;exact ⟨_,_,_,_,_,_,_,e⟩
 | false=>exact (h.2 rfl).shape
def NK (V:View)(v:Value)(s:Sp):Prop:=∃b p n c p' n' c' d q m e q' m' e',v=.agg #[.bool b,.slice p n c,.slice p' n' c',.bool d,.slice q m e,.slice q' m' e',.bool s.a,.bool s.b] /\
 RE V (.agg #[.bool b,.slice p n c,.slice p' n' c']) s.lo s.a/\RE V (.agg #[.bool d,.slice q m e,.slice q' m' e']) s.hi s.b
theorem NK.le {V V':View}{v:Value}{s:Sp}(h:NK V v s)(l:V.Le V'):NK V' v s:=by
 obtain ⟨b,p,n,c,p',n',c',d,q,m,e,q',m',e',rfl,h1,h2⟩:=h
 exact ⟨_,_,_,_,_,_,_,_,_,_,_,_,_,_,rfl,h1.le l,h2.le l⟩
def Kt (V:View)(v:Value)(l:L3)(s:Sp):Prop:=∃b1 p1 n1 c1 b2 p2 n2 c2 b3 p3 n3 c3 b p n c p' n' c' d q m e q' m' e',
 v=.agg #[.bool b1,.slice p1 n1 c1,.bool b2,.slice p2 n2 c2,.bool b3,.slice p3 n3 c3,.bool b,.slice p n c,.slice p' n' c',.bool d,.slice q m e,.slice q' m' e',.bool s.a,.bool s.b] /\
 RL V (.agg #[.bool b1,.slice p1 n1 c1,.bool b2,.slice p2 n2 c2,.bool b3,.slice p3 n3 c3]) l.1 l.2.1 l.2.2/\NK V (.agg #[.bool b,.slice p n c,.slice p' n' c',.bool d,.slice q m e,.slice q' m' e',.bool s.a,.bool s.b]) s
theorem Kt.le {V V':View}{v:Value}{l:L3}{s:Sp}(h:Kt V v l s)(e:V.Le V'):Kt V' v l s:=by
 obtain ⟨b1,p1,n1,c1,b2,p2,n2,c2,b3,p3,n3,c3,b,p,n,c,p',n',c',d,q,m,f,q',m',f',rfl,h1,h2⟩:=h
 exact ⟨_,_,_,_,_,_,_,_,_,_,_,_,_,_,_,_,_,_,_,_,_,_,_,_,_,_,rfl,h1.le e,h2.le e⟩
def KP (V:View)(v:Value)(s:Sp):Prop:=∃b p n c p' n' c' d q m e q' m' e',v=.agg #[.bool b,.slice p n c,.slice p' n' c',.bool d,.slice q m e,.slice q' m' e',.bool s.a,.bool s.b] /\
 RQ V (.agg #[.bool b,.slice p n c,.slice p' n' c']) s.lo/\RQ V (.agg #[.bool d,.slice q m e,.slice q' m' e']) s.hi
theorem KP.le {V V':View}{v:Value}{s:Sp}(h:KP V v s)(l:V.Le V'):KP V' v s:=by
 obtain ⟨b,p,n,c,p',n',c',d,q,m,e,q',m',e',rfl,h1,h2⟩:=h
 exact ⟨_,_,_,_,_,_,_,_,_,_,_,_,_,_,rfl,h1.le l,h2.le l⟩
def RF (V:View)(v:Value)(l:L3)(s:Sp):Prop:=∃b1 p1 n1 c1 b2 p2 n2 c2 b3 p3 n3 c3 b p n c p' n' c' d q m e q' m' e',
 v=.agg #[.bool b1,.slice p1 n1 c1,.bool b2,.slice p2 n2 c2,.bool b3,.slice p3 n3 c3,.bool b,.slice p n c,.slice p' n' c',.bool d,.slice q m e,.slice q' m' e',.bool s.a,.bool s.b] /\
 RL V (.agg #[.bool b1,.slice p1 n1 c1,.bool b2,.slice p2 n2 c2,.bool b3,.slice p3 n3 c3]) l.1 l.2.1 l.2.2/\KP V (.agg #[.bool b,.slice p n c,.slice p' n' c',.bool d,.slice q m e,.slice q' m' e',.bool s.a,.bool s.b]) s
theorem RF.le {V V':View}{v:Value}{l:L3}{s:Sp}(h:RF V v l s)(e:V.Le V'):RF V' v l s:=by
 obtain ⟨b1,p1,n1,c1,b2,p2,n2,c2,b3,p3,n3,c3,b,p,n,c,p',n',c',d,q,m,f,q',m',f',rfl,h1,h2⟩:=h
 exact ⟨_,_,_,_,_,_,_,_,_,_,_,_,_,_,_,_,_,_,_,_,_,_,_,_,_,_,rfl,h1.le e,h2.le e⟩
def ev (l:L3)(x y:Rat):Rat:=(l.1:Rat)*x+(l.2.1:Rat)*y+(l.2.2:Rat)
def lM (l:L3):Rat:=(l.1:Rat)*(l.1:Rat)+(l.2.1:Rat)*(l.2.1:Rat)
def Ih (l:L3)(t:Rat):Rat:=(l.2.1:Rat)*t-(l.1:Rat)*(l.2.2:Rat)*(lM l)⁻¹
def Ii (l:L3)(t:Rat):Rat:=-((l.1:Rat)*t)-(l.2.1:Rat)*(l.2.2:Rat)*(lM l)⁻¹
def D8 (l:L3):L3:=(-l.1,-l.2.1,-l.2.2)
def Sp.neg (s:Sp):Sp:=⟨if s.b then 0 else -s.hi,if s.a then 0 else -s.lo,s.b,s.a⟩
def Sp.emp (s:Sp):Bool:=!s.a&&!s.b&&decide (rq s.lo s.hi≥0)
def Nz (l:L3):Prop:=¬(l.1=0/\l.2.1=0)
theorem sq_nonneg (x:Int):0<=x*x:=by
 rw [←Int.natAbs_mul_self];exact Int.natCast_nonneg _
theorem Fy (l:L3):lM l=((l.1*l.1+l.2.1*l.2.1:Int):Rat):=by unfold lM;simp
theorem Nz.norm {l:L3}(h:Nz l):lM l≠0:=by
 rw [Fy]
 have h1:=sq_nonneg l.1
 have h2:=sq_nonneg l.2.1
 have h3:l.1*l.1+l.2.1*l.2.1≠0:=by
  intro e
  have e1:l.1*l.1=0:=by omega
  have e2:l.2.1*l.2.1=0:=by omega
  exact h ⟨(Int.mul_eq_zero.1 e1).elim id id,(Int.mul_eq_zero.1 e2).elim id id⟩
 exact_mod_cast h3
theorem FC {q:Rat}(h:q≠0):q.num≠0:=fun e=>h (Rat.num_eq_zero.1 e)
theorem Gg {L:L3}{x:Rat}{k:Nat}(sl:yV k L)(s1:Sz k x):Sz (20*k+19) (Ih L x):=by
 have e1:Ih L x=((L.1:Rat)*((-(L.2.2:Rat))*((L.1:Rat)*(L.1:Rat)+(L.2.1:Rat)*(L.2.1:Rat))⁻¹))+((L.2.1:Rat)*x):=by unfold Ih lM;grind
 rw [e1];exact vP sl.1 sl.2.1 sl.2.2 s1
theorem Gh {L:L3}{x:Rat}{k:Nat}(sl:yV k L)(s1:Sz k x):Sz (20*k+19) (Ii L x):=by
 have e2:Ii L x=((L.2.1:Rat)*((-(L.2.2:Rat))*((L.1:Rat)*(L.1:Rat)+(L.2.1:Rat)*(L.2.1:Rat))⁻¹))+((-(L.1:Rat))*x):=by unfold Ii lM;grind
 rw [e2];exact vQ sl.1 sl.2.1 sl.2.2 s1
theorem o_ (q:Rat):q.num.sign=0↔q=0:=by rw [Int.sign_eq_zero_iff_zero,Rat.num_eq_zero]
theorem Fb {V:View}{l p:Value}{L:L3}{x y:Rat}(hl:Kv V l L)(hp:ld V p x y){k:Nat}(sl:yV k L)(s1:Sz k x)(s2:Sz k y)(hk:16*k+16<274877906944) :
  ab prog 125 #[l,p] V fun r V'=>r=.int .i64 (ev L x y).num.sign:=uX hl hp sl.1 sl.2.1 sl.2.2 s1 s2 hk
theorem yV.rev {k:Nat}{L:L3}(h:yV k L):yV k (D8 L):=by
 unfold yV D8
 simp only [Rat.intCast_neg]
 exact ⟨h.1.neg,h.2.1.neg,h.2.2.neg⟩
theorem J5 {L:L3}(h:Nz L):((((((L.2.1:Int):Rat)))*((((L.2.1:Int):Rat))))+(((-(((L.1:Int):Rat))))*((-(((L.1:Int):Rat)))))).num≠0:=by
 have:(((((L.2.1:Int):Rat)))*((((L.2.1:Int):Rat))))+(((-(((L.1:Int):Rat))))*((-(((L.1:Int):Rat)))))=lM L:=by unfold lM;grind
 rw [this]
 exact FC h.norm
theorem M4 {V:View}{l t:Value}{L:L3}{x:Rat}(hl:RL V l L.1 L.2.1 L.2.2)(ht:RQ V t x)(hz:Nz L){k:Nat}(sl:yV k L)(s1:Sz k x)(hk:18*k+16<274877906944) :
  ab prog 23 #[l,t] V fun r V'=>RP V' r (Ih L x) (Ii L x):=by
 refine (Bz hl ht (J5 hz) sl.1 sl.2.1 sl.2.2 s1 hk).mono ?_
 rintro r V2 l2 g
 have e1:Ih L x=(((-((((L.2.2:Int):Rat))*((((((L.2.1:Int):Rat)))*((((L.2.1:Int):Rat))))+(((-(((L.1:Int):Rat))))*((-(((L.1:Int):Rat))))))⁻¹))*(((L.1:Int):Rat)))+(x)*(((L.2.1:Int):Rat))):=by unfold Ih lM;grind
 have e2:Ii L x=(((-((((L.2.2:Int):Rat))*((((((L.2.1:Int):Rat)))*((((L.2.1:Int):Rat))))+(((-(((L.1:Int):Rat))))*((-(((L.1:Int):Rat))))))⁻¹))*(((L.2.1:Int):Rat)))+(x)*(-(((L.1:Int):Rat)))):=by unfold Ii lM;grind
 rw [e1,e2];exact g
structure Ol (V:View) (vs:List Value) (i:Int) (f a b c:Rat):Prop where
 h0:0<=i
 h3:i<=3
 row:∃(x1 x2:Int)(p:OA)(y1 y2:Int)(q:OA)(z1 z2:Int)(r:OA),vs=[.int .i64 x1,.int .i64 x2,.pointer p,.int .i64 y1,.int .i64 y2,.pointer q,.int .i64 z1,.int .i64 z2,.pointer r] /\
  RR V (.agg #[.int .i64 x1,.int .i64 x2,.pointer p]) (if 0<i then a*f else a)/\RR V (.agg #[.int .i64 y1,.int .i64 y2,.pointer q]) (if 1<i then b*f else b)/\RR V (.agg #[.int .i64 z1,.int .i64 z2,.pointer r]) (if 2<i then c*f else c)
theorem Ol.le {V V':View}{vs:List Value}{i:Int}{f a b c:Rat}(h:Ol V vs i f a b c)(l:V.Le V'):Ol V' vs i f a b c:=by
 obtain ⟨h0,h3,x1,x2,p,y1,y2,q,z1,z2,r,e,g1,g2,g3⟩:=h
 exact ⟨h0,h3,x1,x2,p,y1,y2,q,z1,z2,r,e,g1.le l,g2.le l,g3.le l⟩
def J6 (b:Bool)(xs ys:List Nat):Rat:=mkRat (aV b xs) (val ys)
def JV (b:Bool)(xs ys:List Nat):Bool:=k_ b xs&&decide (ai (val ys)=ys)&&!decide (ys=[])&&decide (Nat.gcd (val xs) (val ys)=1)
def Ri (b:Bool)(xs ys:List Nat):Bool:=!b&&decide (xs=[])&&decide (ys=[])
def Jh (b:Bool)(xs ys:List Nat)(no:Bool):Rat:=if no then 0 else J6 b xs ys
def EW (b:Bool)(xs ys:List Nat)(no:Bool):Bool:=if no then Ri b xs ys else JV b xs ys
theorem Da {q:Rat}:JV (decide (q.num<0)) (ai q.num.natAbs) (ai q.den)=true/\J6 (decide (q.num<0)) (ai q.num.natAbs) (ai q.den)=q:=by
 constructor
 ·unfold JV
  have h1:k_ (decide (q.num<0)) (ai q.num.natAbs)=true:=by
   unfold k_
   rw [ae]
   by_cases h:q.num<0
   ·have:ai q.num.natAbs≠[]:=fun e=>by have:=bw.1 e;omega
    simp [h,this]
   ·simp [h]
  have h2:ai q.den≠[]:=fun e=>q.den_nz (bw.1 e)
  rw [h1,ae,ae]
  simp [h2,q.reduced]
 ·unfold J6
  rw [aG,ae,Rat.mkRat_self]
def NL (V:View)(v:Value)(b1:Bool)(H4 H6:List Nat)(b2:Bool)(H5 H7:List Nat)(na nb:Bool):Prop:=∃p n c p' n' c' q m e q' m' e',v=.agg #[.bool b1,.slice p n c,.slice p' n' c',.bool b2,.slice q m e,.slice q' m' e',.bool na,.bool nb] /\
 GM V (.agg #[.bool b1,.slice p n c,.slice p' n' c']) b1 H4 H6/\GM V (.agg #[.bool b2,.slice q m e,.slice q' m' e']) b2 H5 H7
theorem NL.le {V V':View}{v:Value}{b1:Bool}{H4 H6:List Nat}{b2:Bool}{H5 H7:List Nat}{na nb:Bool}(h:NL V v b1 H4 H6 b2 H5 H7 na nb)(l:V.Le V'):NL V' v b1 H4 H6 b2 H5 H7 na nb:=by
 obtain ⟨p,n,c,p',n',c',q,m,e,q',m',e',rfl,h1,h2⟩:=h
 exact ⟨_,_,_,_,_,_,_,_,_,_,_,_,rfl,h1.le l,h2.le l⟩
def Na (b1:Bool)(H4 H6:List Nat)(b2:Bool)(H5 H7:List Nat)(na nb:Bool):Sp:=⟨Jh b1 H4 H6 na,Jh b2 H5 H7 nb,na,nb⟩
def okW (b1:Bool)(H4 H6:List Nat)(b2:Bool)(H5 H7:List Nat)(na nb:Bool):Bool:=EW b1 H4 H6 na&&EW b2 H5 H7 nb&&!(Na b1 H4 H6 b2 H5 H7 na nb).emp
def TG (l:L3)(s:Sp):Prop:=mV l=true/\s.can/\s.emp=false
theorem RE.raw {V:View}{v:Value}{q:Rat}{no:Bool}(h:RE V v q no)(hc:no=true->q=0):∃b xs ys,GM V v b xs ys/\EW b xs ys no=true/\Jh b xs ys no=q/\(∀k,Sz k q->xs.length<=k/\ys.length<=k):=by
 cases no with
 | true=>
  exact ⟨false,[],[],h.1 rfl,rfl,by rw [hc rfl];rfl,fun k _=>⟨Nat.zero_le _,Nat.zero_le _⟩⟩
 | false=>
  obtain ⟨p,n,c,p',n',c',rfl,h1,h2⟩:=h.2 rfl
  exact ⟨_,_,_,⟨_,_,_,_,_,_,rfl,h1,h2⟩,Da.1,Da.2,fun k hk=>⟨ag hk.1,ag hk.2⟩⟩
theorem Kv.WG {V:View}{r:Value}{l:L3}(h:RL V r ((l.1:Rat)).num ((l.2.1:Rat)).num ((l.2.2:Rat)).num):RL V r l.1 l.2.1 l.2.2:=by
 simpa [Rat.num_intCast] using h
theorem FE {l:L3}(h:mV l=true):Nz l:=by
 unfold mV at h
 intro e
 simp [e.1,e.2] at h
def jm (l m:L3):Rat:=((l.1:Rat)*(m.2.1:Rat))-((l.2.1:Rat)*(m.1:Rat))
def Oa (l m:L3):Rat:=(((l.2.1:Rat)*(m.2.2:Rat))-((l.2.2:Rat)*(m.2.1:Rat)))*(jm l m)⁻¹
def Ob (l m:L3):Rat:=(((l.2.2:Rat)*(m.1:Rat))-((l.1:Rat)*(m.2.2:Rat)))*(jm l m)⁻¹
theorem yV.ai {k:Nat}{l:L3}(h:yV k l)(hk:k<=1099511627776):(ai l.1.natAbs).length<=1099511627776/\(ai l.2.1.natAbs).length<=1099511627776/\(ai l.2.2.natAbs).length<=1099511627776:=by
 have d1:=ag (show l.1.natAbs<2^k from h.1.1)
 have d2:=ag (show l.2.1.natAbs<2^k from h.2.1.1)
 have d3:=ag (show l.2.2.natAbs<2^k from h.2.2.1)
 exact ⟨by omega,by omega,by omega⟩
def NG (V:View)(ad:Addr)(l:L3)(s:Sp):Prop:=∃xs:List Value,Kt V (.agg xs.toArray) l s/\∀i x,xs[i]?=some x->V.at (ad.add i) x
theorem NG.le {V V':View}{ad:Addr}{l:L3}{s:Sp}(h:NG V ad l s)(e:V.Le V'):NG V' ad l s:=by
 obtain ⟨xs,h1,h2⟩:=h;exact ⟨xs,h1.le e,fun i x hx=>e.at (h2 i x hx)⟩
structure I4 (V:View) (p:OA) (n:Nat) (fs:List (L3×Sp)):Prop where
 len:n=fs.length
 at_:∀(i:Nat)(h:i<fs.length),∃ad,ah p (i*14)=some ad/\NG V ad fs[i].1 fs[i].2
theorem I4.le {V V':View}{p:OA}{n:Nat}{fs:List (L3×Sp)}(h:I4 V p n fs)(e:V.Le V'):I4 V' p n fs:=⟨h.len,fun i hi=>by obtain ⟨ad,h1,h2⟩:=h.at_ i hi;exact ⟨ad,h1,h2.le e⟩⟩
theorem zV {p:OA}{j:Nat}{ad:Addr}(h:ah p j=some ad):p.isSome=true:=by
 cases p with
 | none=>cases h
 | some a=>rfl
def NM (V:View)(ad:Addr)(s:Sp):Prop:=∃xs:List Value,KP V (.agg xs.toArray) s/\∀i x,xs[i]?=some x->V.at (ad.add i) x
theorem NM.le {V V':View}{ad:Addr}{s:Sp}(h:NM V ad s)(e:V.Le V'):NM V' ad s:=by
 obtain ⟨xs,h1,h2⟩:=h;exact ⟨xs,h1.le e,fun i x hx=>e.at (h2 i x hx)⟩
structure Ok (V:View) (p:OA) (n:Nat) (ss:List Sp):Prop where
 len:n=ss.length
 at_:∀(i:Nat)(h:i<ss.length),∃ad,ah p (i*8)=some ad/\NM V ad ss[i]
theorem Ok.le {V V':View}{p:OA}{n:Nat}{ss:List Sp}(h:Ok V p n ss)(e:V.Le V'):Ok V' p n ss:=⟨h.len,fun i hi=>by obtain ⟨ad,h1,h2⟩:=h.at_ i hi;exact ⟨ad,h1,h2.le e⟩⟩
def Sp.la (s:Sp)(t:Rat):Int:=if s.a then 1 else rq t s.lo
def Sp.lb (s:Sp)(t:Rat):Int:=if s.b then -1 else rq t s.hi
theorem TH.ex {V:View}{v:Value}{l:L3}{s:Sp}(h:Ku V v l s):∃(x1 x2:Int)(p:OA)(y1 y2:Int)(q:OA)(z1 z2:Int)(r:OA)(u1 u2:Int)(t:OA)(w1 w2:Int)(o:OA),
 v=.agg #[.int .i64 x1,.int .i64 x2,.pointer p,.int .i64 y1,.int .i64 y2,.pointer q,.int .i64 z1,.int .i64 z2,.pointer r,.int .i64 u1,.int .i64 u2,.pointer t,.int .i64 w1,.int .i64 w2,.pointer o,.bool s.a,.bool s.b]:=by
 obtain ⟨_,_,_,_,_,_,_,_,_,_,_,_,_,_,_,e,-⟩:=h;exact ⟨_,_,_,_,_,_,_,_,_,_,_,_,_,_,_,e⟩
end Go.Proofs.Tryz
namespace Go.Proofs.Tryz
open Go.bF
set_option maxRecDepth 100000
end Go.Proofs.Tryz
namespace Go.Proofs.Tryz
open Go.bF Go.fl
structure Bh (V:View) (p:OA) (n:Nat) (fs:List (L3×Sp)):Prop where
 len:n=fs.length
 at_:∀(i:Nat)(h:i<fs.length),∃ad,ah p (i*17)=some ad/\∃xs:List Value,Ku V (.agg xs.toArray) fs[i].1 fs[i].2/\∀j x,xs[j]?=some x->V.at (ad.add j) x
theorem Bh.le {V V':View}{p:OA}{n:Nat}{fs:List (L3×Sp)}(h:Bh V p n fs)(e:V.Le V'):Bh V' p n fs:=⟨h.len,fun i hi=>by obtain ⟨ad,h1,xs,h2,h3⟩:=h.at_ i hi;exact ⟨ad,h1,xs,h2.le e,fun j x hx=>e.at (h3 j x hx)⟩⟩
theorem Bh.nil {V:View}:Bh V none 0 []:=⟨rfl,fun i hi=>by simp at hi⟩
theorem Bh.one {V:View}{bk:Nat}{xs:List Value}{ty:TypeId}{l:L3}{s:Sp}(hb:V.bC bk (.cells xs.toArray ty (0,0)))(hf:Ku V (.agg xs.toArray) l s):Bh V (some ⟨bk,0,none⟩) 1 [(l,s)]:=by
 refine ⟨rfl,fun i hi=>?_⟩
 obtain rfl:i=0:=by simpa using hi
 refine ⟨⟨bk,0,none⟩,by simp [ah,add_zero'],_,hf,fun j x hx=>?_⟩
 rw [add_zero']
 exact cK hb hx
end Go.Proofs.Tryz
namespace Go.Proofs.Tryz
open Go.bF
set_option maxRecDepth 100000
end Go.Proofs.Tryz
namespace Go.Proofs.Tryz
open Go.bF Go.fl
def NJ (V:View)(v:Value)(b1:Bool)(xs:List Nat)(b2:Bool)(ys:List Nat)(b3:Bool)(zs:List Nat):Prop:=∃p n c q m e s i j,v=.agg #[.bool b1,.slice p n c,.bool b2,.slice q m e,.bool b3,.slice s i j]/\RD V p n c xs/\RD V q m e ys/\RD V s i j zs
theorem NJ.le {V V':View}{v:Value}{b1:Bool}{xs:List Nat}{b2:Bool}{ys:List Nat}{b3:Bool}{zs:List Nat}(h:NJ V v b1 xs b2 ys b3 zs)(l:V.Le V'):NJ V' v b1 xs b2 ys b3 zs:=by
 obtain ⟨p,n,c,q,m,e,s,i,j,rfl,h1,h2,h3⟩:=h
 exact ⟨_,_,_,_,_,_,_,_,_,rfl,h1.le l,h2.le l,h3.le l⟩
def S9 (b1:Bool)(xs:List Nat)(b2:Bool)(ys:List Nat)(b3:Bool)(zs:List Nat):L3:=(aV b1 xs,aV b2 ys,aV b3 zs)
structure FW where
 b1:Bool
 xs:List Nat
 b2:Bool
 ys:List Nat
 b3:Bool
 zs:List Nat
 c1:Bool
 us:List Nat
 vs:List Nat
 c2:Bool
 ws:List Nat
 ts:List Nat
 na:Bool
 nb:Bool
def FW.ln (f:FW):L3:=S9 f.b1 f.xs f.b2 f.ys f.b3 f.zs
def FW.sp (f:FW):Sp:=Na f.c1 f.us f.vs f.c2 f.ws f.ts f.na f.nb
def FW.ok (f:FW):Bool:=tU f.b1 f.xs f.b2 f.ys f.b3 f.zs&&okW f.c1 f.us f.vs f.c2 f.ws f.ts f.na f.nb
structure FW.short (f:FW):Prop where
 x:f.xs.length<=1000000
 y:f.ys.length<=1000000
 z:f.zs.length<=1000000
 u:f.us.length<=1000000
 v:f.vs.length<=1000000
 w:f.ws.length<=1000000
 t:f.ts.length<=1000000
def NH (V:View)(v:Value)(f:FW):Prop:=∃p1 n1 d1 p2 n2 d2 p3 n3 d3 p n c p' n' c' q m e q' m' e',
 v=.agg #[.bool f.b1,.slice p1 n1 d1,.bool f.b2,.slice p2 n2 d2,.bool f.b3,.slice p3 n3 d3,.bool f.c1,.slice p n c,.slice p' n' c',.bool f.c2,.slice q m e,.slice q' m' e',.bool f.na,.bool f.nb] /\
 NJ V (.agg #[.bool f.b1,.slice p1 n1 d1,.bool f.b2,.slice p2 n2 d2,.bool f.b3,.slice p3 n3 d3]) f.b1 f.xs f.b2 f.ys f.b3 f.zs /\
 NL V (.agg #[.bool f.c1,.slice p n c,.slice p' n' c',.bool f.c2,.slice q m e,.slice q' m' e',.bool f.na,.bool f.nb]) f.c1 f.us f.vs f.c2 f.ws f.ts f.na f.nb
theorem NH.le {V V':View}{v:Value}{f:FW}(h:NH V v f)(l:V.Le V'):NH V' v f:=by
 obtain ⟨p1,n1,d1,p2,n2,d2,p3,n3,d3,p,n,c,p',n',c',q,m,e,q',m',e',rfl,h1,h2⟩:=h
 exact ⟨_,_,_,_,_,_,_,_,_,_,_,_,_,_,_,_,_,_,_,_,_,rfl,h1.le l,h2.le l⟩
theorem jj {V:View}(z w:Int){p q:OA}{n c m e:Nat}(ha:RD V p n c (ai z.natAbs))(hb:RD V q m e (ai w.natAbs))(hm:(ai z.natAbs).length<=1099511627776)(hn:(ai w.natAbs).length<=1099511627776) :
  ab prog 159 #[.agg #[.bool (decide (z<0)),.slice p n c],.agg #[.bool (decide (w<0)),.slice q m e]] V fun r V'=>r=.int .i64 (z-w).sign:=by
 refine uH _ p n c _ q m e V _ fun V1 l1=>(fT w (hb.le l1)).mono ?_
 rintro r V2 l2 ⟨p1,n1,c1,rfl,g1⟩
 refine ⟨_,_,_,_,rfl,fun V3 l3=>(pR z (-w) (ha.le (l1.trans (l2.trans l3))) (g1.le l3) hm (by rw [Int.natAbs_neg];exact hn)).mono ?_⟩
 rintro r V4 l4 ⟨p2,n2,c2,rfl,g2⟩
 refine ⟨_,_,_,_,rfl,fun V5 l5=>(kx _ (g2.le l5)).mono ?_⟩
 rintro r V6 l6 rfl
 exact ⟨_,rfl,fun V7 l7=>by rw [Int.sub_eq_add_neg]⟩
def nB (l m:L3):Int:=if (l.1-m.1).sign≠0 then (l.1-m.1).sign else if (l.2.1-m.2.1).sign≠0 then (l.2.1-m.2.1).sign else (l.2.2-m.2.2).sign
theorem G6 {l m:L3}:nB l m=0↔l=m:=by
 have e:∀{a b:Int},(a-b).sign=0↔a=b:=fun {a b}=>by rw [Int.sign_eq_zero_iff_zero];omega
 unfold nB
 constructor
 ·intro h
  by_cases h1:(l.1-m.1).sign=0
  ·rw [if_neg (by simpa using h1)] at h
   by_cases h2:(l.2.1-m.2.1).sign=0
   ·rw [if_neg (by simpa using h2)] at h
    exact Prod.ext (e.1 h1) (Prod.ext (e.1 h2) (e.1 h))
   ·rw [if_pos h2] at h;exact absurd h h2
  ·rw [if_pos h1] at h;exact absurd h h1
 ·rintro rfl
  simp
theorem qF {V:View}{v w:Value}{l m:L3}(hl:RL V v l.1 l.2.1 l.2.2)(hm:RL V w m.1 m.2.1 m.2.2){k:Nat}(sl:yV k l)(sm:yV k m)(hk:k<=1099511627776) :
  ab prog 109 #[v,w] V fun r V'=>r=.int .i64 (nB l m):=by
 obtain ⟨d1,d2,d3⟩:=sl.ai hk
 obtain ⟨e1,e2,e3⟩:=sm.ai hk
 obtain ⟨_,_,_,_,_,_,_,_,_,rfl,a1,a2,a3⟩:=hl
 obtain ⟨_,_,_,_,_,_,_,_,_,rfl,b1,b2,b3⟩:=hm
 refine yN _ _ _ _ _ _ _ _ _ _ _ _ _ _ _ _ _ _ _ _ _ _ _ _ V _ fun V1 l1=>(jj _ _ (a1.le l1) (b1.le l1) d1 e1).mono ?_
 rintro r V2 l2 rfl
 unfold nB
 refine ⟨_,rfl,fun h V3 l3=>?_,fun h V4 l4=>(jj _ _ (a2.le (l1.trans (l2.trans l4))) (b2.le (l1.trans (l2.trans l4))) d2 e2).mono ?_⟩
 ·rw [bne_iff_ne] at h
  rw [if_pos h]
 ·rw [bne_eq_false_iff_eq] at h
  rw [if_neg (by rw [h];decide)]
  rintro r V5 l5 rfl
  refine ⟨_,rfl,fun h V6 l6=>?_,fun h V7 l7=>(jj _ _ (a3.le (l1.trans (l2.trans (l4.trans (l5.trans l7))))) (b3.le (l1.trans (l2.trans (l4.trans (l5.trans l7))))) d3 e3).mono ?_⟩
  ·rw [bne_iff_ne] at h
   rw [if_pos h]
  ·rw [bne_eq_false_iff_eq] at h
   rw [if_neg (by rw [h];decide)]
   rintro r V8 l8 rfl
   exact ⟨_,rfl,fun V9 l9=>rfl⟩
def Ib (u:Value):Prop:=u=.agg #[.bool false,.slice none 0 0,.slice none 0 0,.bool false,.slice none 0 0,.slice none 0 0]
theorem J4 {V:View}{v w:Value}{l m:L3}(hl:RL V v l.1 l.2.1 l.2.2)(hm:RL V w m.1 m.2.1 m.2.2){k:Nat}(sl:yV k l)(sm:yV k m)(hk:20*k+20<274877906944) :
  ab prog 44 #[v,w] V fun r V'=>∃u,r=.tuple #[u,.bool (decide (jm l m≠0))]/\(jm l m=0->Ib u)/\(jm l m≠0->RP V' u (Oa l m) (Ob l m)):=by
 have e0:((l.1:Int):Rat)*((m.2.1:Int):Rat)-((m.1:Int):Rat)*((l.2.1:Int):Rat)=jm l m:=by unfold jm;grind
 have e1:((l.2.1:Int):Rat)*((m.2.2:Int):Rat)-((m.2.1:Int):Rat)*((l.2.2:Int):Rat)=((l.2.1:Rat)*(m.2.2:Rat))-((l.2.2:Rat)*(m.2.1:Rat)):=by grind
 have e2:((m.1:Int):Rat)*((l.2.2:Int):Rat)-((l.1:Int):Rat)*((m.2.2:Int):Rat)=((l.2.2:Rat)*(m.1:Rat))-((l.1:Rat)*(m.2.2:Rat)):=by grind
 obtain ⟨sl1,sl2,IV⟩:=sl
 obtain ⟨IW,IX,IY⟩:=sm
 obtain ⟨_,_,_,_,_,_,_,_,_,rfl,a1,a2,a3⟩:=hl
 obtain ⟨_,_,_,_,_,_,_,_,_,rfl,b1,b2,b3⟩:=hm
 refine vK _ _ _ _ _ _ _ _ _ _ _ _ _ _ _ _ _ _ _ _ _ _ _ _ V _ fun V1 l1=>(bl (a1.le l1) sl1 (by omega)).mono ?_
 rintro r V2 l2 Sg
 have O3:=Sg
 obtain ⟨_,_,_,_,_,_,rfl⟩:=Sg.shape
 refine ⟨_,_,_,_,_,_,_,rfl,fun V3 l3=>(bl (b2.le (l1.trans (l2.trans (l3)))) IX (by omega)).mono ?_⟩
 rintro r V4 l4 Si
 have O4:=Si
 obtain ⟨_,_,_,_,_,_,rfl⟩:=Si.shape
 refine ⟨_,_,_,_,_,_,_,rfl,fun V5 l5=>(aZ (O3.le (l3.trans (l4.trans (l5)))) (O4.le l5) sl1 IX (by omega)).mono ?_⟩
 rintro r V6 l6 Sj
 have O5:=Sj
 obtain ⟨_,_,_,_,_,_,rfl⟩:=Sj.shape
 refine ⟨_,_,_,_,_,_,_,rfl,fun V7 l7=>(bl (b1.le (l1.trans (l2.trans (l3.trans (l4.trans (l5.trans (l6.trans (l7)))))))) IW (by omega)).mono ?_⟩
 rintro r V8 l8 Sk
 have O6:=Sk
 obtain ⟨_,_,_,_,_,_,rfl⟩:=Sk.shape
 refine ⟨_,_,_,_,_,_,_,rfl,fun V9 l9=>(bl (a2.le (l1.trans (l2.trans (l3.trans (l4.trans (l5.trans (l6.trans (l7.trans (l8.trans (l9)))))))))) sl2 (by omega)).mono ?_⟩
 rintro r gX l10 Sl
 have O7:=Sl
 obtain ⟨_,_,_,_,_,_,rfl⟩:=Sl.shape
 refine ⟨_,_,_,_,_,_,_,rfl,fun iH bR=>(aZ (O6.le (l9.trans (l10.trans (bR)))) (O7.le bR) IW sl2 (by omega)).mono ?_⟩
 rintro r lf cE Sm
 have O8:=Sm
 obtain ⟨_,_,_,_,_,_,rfl⟩:=Sm.shape
 refine ⟨_,_,_,_,_,_,_,rfl,fun lr cu=>(mr (O5.le (l7.trans (l8.trans (l9.trans (l10.trans (bR.trans (cE.trans (cu)))))))) (O8.le cu) (sl1.mul IX) (IW.mul sl2) (by omega)).mono ?_⟩
 rintro r pH eM O9
 rw [e0] at O9
 have zM:=O9
 obtain ⟨_,_,_,_,_,_,rfl,O_,-⟩:=O9
 have sD:Sz (4*k+3) (((l.1:Int):Rat)*((m.2.1:Int):Rat)-((m.1:Int):Rat)*((l.2.1:Int):Rat)):=Sz.mono ((sl1.mul IX).sub (IW.mul sl2)) (by omega)
 rw [e0] at sD
 refine ⟨_,_,_,_,_,_,_,rfl,fun oe dA=>(CU _ (O_.le dA)).mono ?_⟩
 rintro r mM dF rfl
 refine ⟨_,rfl,fun hz oo cO=>?_,fun hz=>?_⟩
 ·rw [beq_iff_eq,o_] at hz
  rw [hz]
  exact ⟨_,rfl,fun _=>rfl,fun h=>absurd rfl h⟩
 ·rw [beq_eq_false_iff_ne,ne_eq,o_] at hz
  rw [decide_eq_true hz]
  have hz':¬(jm l m).num=0:=fun h=>hz (Rat.num_eq_zero.1 h)
  intro oo cO
  have M0:V.Le oo:=(l1.trans (l2.trans (l3.trans (l4.trans (l5.trans (l6.trans (l7.trans (l8.trans (l9.trans (l10.trans (bR.trans (cE.trans (cu.trans (eM.trans (dA.trans (dF.trans (cO)))))))))))))))))
  replace zM:=zM.le (dA.trans (dF.trans (cO)))
  refine (bl (a2.le M0) sl2 (by omega)).mono ?_
  rintro r qA eW So
  have Pc:=So
  obtain ⟨_,_,_,_,_,_,rfl⟩:=So.shape
  refine ⟨_,_,_,_,_,_,_,rfl,fun sf eF=>(bl (b3.le (M0.trans (eW.trans (eF)))) IY (by omega)).mono ?_⟩
  rintro r zb kf Sq
  have Pf:=Sq
  obtain ⟨_,_,_,_,_,_,rfl⟩:=Sq.shape
  refine ⟨_,_,_,_,_,_,_,rfl,fun uR fr=>(aZ (Pc.le (eF.trans (kf.trans (fr)))) (Pf.le fr) sl2 IY (by omega)).mono ?_⟩
  rintro r xp kU Sr
  have Pg:=Sr
  obtain ⟨_,_,_,_,_,_,rfl⟩:=Sr.shape
  refine ⟨_,_,_,_,_,_,_,rfl,fun uW gm=>(bl (b2.le (M0.trans (eW.trans (eF.trans (kf.trans (fr.trans (kU.trans (gm)))))))) IX (by omega)).mono ?_⟩
  rintro r Dp qO Ss
  have Ph:=Ss
  obtain ⟨_,_,_,_,_,_,rfl⟩:=Ss.shape
  refine ⟨_,_,_,_,_,_,_,rfl,fun Eo iJ=>(bl (a3.le (M0.trans (eW.trans (eF.trans (kf.trans (fr.trans (kU.trans (gm.trans (qO.trans (iJ)))))))))) IV (by omega)).mono ?_⟩
  rintro r Dq qP Su
  have Pj:=Su
  obtain ⟨_,_,_,_,_,_,rfl⟩:=Su.shape
  refine ⟨_,_,_,_,_,_,_,rfl,fun Gx lK=>(aZ (Ph.le (iJ.trans (qP.trans (lK)))) (Pj.le lK) IX IV (by omega)).mono ?_⟩
  rintro r Gy vj Sv
  have Pk:=Sv
  obtain ⟨_,_,_,_,_,_,rfl⟩:=Sv.shape
  refine ⟨_,_,_,_,_,_,_,rfl,fun Kw rT=>(mr (Pg.le (gm.trans (qO.trans (iJ.trans (qP.trans (lK.trans (vj.trans (rT)))))))) (Pk.le rT) (sl2.mul IY) (IX.mul IV) (by omega)).mono ?_⟩
  rintro r Gz tG Pl
  rw [e1] at Pl
  have Jl:=Pl
  obtain ⟨_,_,_,_,_,_,rfl⟩:=Pl.shape
  have sX:Sz (4*k+3) (((l.2.1:Rat)*(m.2.2:Rat))-((l.2.2:Rat)*(m.2.1:Rat))):=by rw [←e1];exact Sz.mono ((sl2.mul IY).sub (IX.mul IV)) (by omega)
  have M1:V.Le Gz:=(M0.trans (eW.trans (eF.trans (kf.trans (fr.trans (kU.trans (gm.trans (qO.trans (iJ.trans (qP.trans (lK.trans (vj.trans (rT.trans (tG))))))))))))))
  replace zM:=zM.le (eW.trans (eF.trans (kf.trans (fr.trans (kU.trans (gm.trans (qO.trans (iJ.trans (qP.trans (lK.trans (vj.trans (rT.trans (tG)))))))))))))
  refine ⟨_,_,_,_,_,_,_,rfl,fun NN C3=>(bl (b1.le (M1.trans C3)) IW (by omega)).mono ?_⟩
  rintro r Rl IH Sw
  have Pm:=Sw
  obtain ⟨_,_,_,_,_,_,rfl⟩:=Sw.shape
  refine ⟨_,_,_,_,_,_,_,rfl,fun Oo BU=>(bl (a3.le (M1.trans (C3.trans (IH.trans (BU))))) IV (by omega)).mono ?_⟩
  rintro r TL KG Sx
  have Pn:=Sx
  obtain ⟨_,_,_,_,_,_,rfl⟩:=Sx.shape
  refine ⟨_,_,_,_,_,_,_,rfl,fun Wr xU=>(aZ (Pm.le (BU.trans (KG.trans (xU)))) (Pn.le xU) IW IV (by omega)).mono ?_⟩
  rintro r Ws N2 Sy
  have Po:=Sy
  obtain ⟨_,_,_,_,_,_,rfl⟩:=Sy.shape
  refine ⟨_,_,_,_,_,_,_,rfl,fun Wt Md=>(bl (a1.le (M1.trans (C3.trans (IH.trans (BU.trans (KG.trans (xU.trans (N2.trans (Md))))))))) sl1 (by omega)).mono ?_⟩
  rintro r Wu N3 SA
  have Pp:=SA
  obtain ⟨_,_,_,_,_,_,rfl⟩:=SA.shape
  refine ⟨_,_,_,_,_,_,_,rfl,fun Wv Me=>(bl (b3.le (M1.trans (C3.trans (IH.trans (BU.trans (KG.trans (xU.trans (N2.trans (Md.trans (N3.trans (Me))))))))))) IY (by omega)).mono ?_⟩
  rintro r Ww N4 SB
  have Pq:=SB
  obtain ⟨_,_,_,_,_,_,rfl⟩:=SB.shape
  refine ⟨_,_,_,_,_,_,_,rfl,fun Wx Mf=>(aZ (Pp.le (Me.trans (N4.trans (Mf)))) (Pq.le Mf) sl1 IY (by omega)).mono ?_⟩
  rintro r Wy Qf SC
  have Pr:=SC
  obtain ⟨_,_,_,_,_,_,rfl⟩:=SC.shape
  refine ⟨_,_,_,_,_,_,_,rfl,fun Wz N5=>(mr (Po.le (Md.trans (N3.trans (Me.trans (N4.trans (Mf.trans (Qf.trans (N5)))))))) (Pr.le N5) (IW.mul IV) (sl1.mul IY) (by omega)).mono ?_⟩
  rintro r WA S4 Ps
  rw [e2] at Ps
  have Pt:=Ps
  obtain ⟨_,_,_,_,_,_,rfl⟩:=Ps.shape
  have sY:Sz (4*k+3) (((l.2.2:Rat)*(m.1:Rat))-((l.1:Rat)*(m.2.2:Rat))):=by rw [←e2];exact Sz.mono ((IW.mul IV).sub (sl1.mul IY)) (by omega)
  replace zM:=zM.le (C3.trans (IH.trans (BU.trans (KG.trans (xU.trans (N2.trans (Md.trans (N3.trans (Me.trans (N4.trans (Mf.trans (Qf.trans (N5.trans (S4))))))))))))))
  replace Jl:=Jl.le (C3.trans (IH.trans (BU.trans (KG.trans (xU.trans (N2.trans (Md.trans (N3.trans (Me.trans (N4.trans (Mf.trans (Qf.trans (N5.trans (S4))))))))))))))
  refine ⟨_,_,_,_,_,_,_,rfl,fun WB N6=>(nA (Jl.le N6) (zM.le N6) hz' sX sD (by omega)).mono ?_⟩
  rintro r Oq l46 gr
  have UI:=gr
  obtain ⟨_,_,_,_,_,_,rfl⟩:=gr.shape
  refine ⟨_,_,_,_,_,_,_,rfl,fun Rm Mg=>(nA (Pt.le (N6.trans (l46.trans (Mg)))) (zM.le (N6.trans (l46.trans (Mg)))) hz' sY sD (by omega)).mono ?_⟩
  rintro r Ot JR gs
  have gs0:=gs
  obtain ⟨_,_,_,_,_,_,rfl⟩:=gs.shape
  exact ⟨_,_,_,_,_,_,_,rfl,fun Rn S5=>⟨_,rfl,fun h=>absurd h hz,fun _=>⟨_,_,_,_,_,_,_,_,_,_,_,_,rfl,UI.le (Mg.trans (JR.trans (S5))),gs0.le S5⟩⟩⟩
def Jf:L3:=(0,0,0)
theorem CW {a b:L3}:nB a b<0↔(a.1<b.1\/a.1=b.1/\(a.2.1<b.2.1\/a.2.1=b.2.1/\a.2.2<b.2.2)):=by
 have s:∀{x y:Int},(x<y/\(x-y).sign=-1)\/(x=y/\(x-y).sign=0)\/(y<x/\(x-y).sign=1):=by
  intro x y
  rcases Int.lt_trichotomy x y with h|h|h
  ·exact .inl ⟨h,Int.sign_eq_neg_one_of_neg (by omega)⟩
  ·exact .inr (.inl ⟨h,by rw [h,Int.sub_self];rfl⟩)
  ·exact .inr (.inr ⟨h,Int.sign_eq_one_of_pos (by omega)⟩)
 unfold nB
 rcases @s a.1 b.1 with ⟨h1,e1⟩|⟨h1,e1⟩|⟨h1,e1⟩<;>rcases @s a.2.1 b.2.1 with ⟨h2,e2⟩|⟨h2,e2⟩|⟨h2,e2⟩<;>rcases @s a.2.2 b.2.2 with ⟨h3,e3⟩|⟨h3,e3⟩|⟨h3,e3⟩<;>rw [e1,e2,e3]<;>simp<;>omega
def Gv (V:View)(v:Value)(c:L3):Prop:=Bb V v c.1 c.2.1 c.2.2/\Bd c
theorem Gv.le {V V':View}{v:Value}{c:L3}(h:Gv V v c)(l:V.Le V'):Gv V' v c:=⟨h.1.le l,h.2⟩
theorem Gv.shape {V:View}{v:Value}{c:L3}(h:Gv V v c):∃(x y:Int)(p:OA)(xb yb:Int)(pb:OA)(xc yc:Int)(pc:OA),v=.agg #[.int .i64 x,.int .i64 y,.pointer p,.int .i64 xb,.int .i64 yb,.pointer pb,.int .i64 xc,.int .i64 yc,.pointer pc]:=by
 obtain ⟨⟨x1,x2,p,y1,y2,q,z1,z2,r,e,-⟩,-⟩:=h;exact ⟨_,_,_,_,_,_,_,_,_,e⟩
end Go.Proofs.Tryz
namespace Go.Proofs.Tryz
open Go.fl
section
variable {α:Type} {c:α->α->Int} {d:α}
structure PQ (c:α->α->Int) (d:α) (l0 l:List α) (a0 b0 a b:Nat):Prop where
 HT:gW d l0 l a0 b0
 ha:a0<=a
 mC:a<=b
 hb:b<=b0
 lo:pG c d l a0 a
 hi:pG c d l b b0
 s1:Sep c d l a0 a b0
 s2:Sep c d l a0 b b0
 pre:0<a->∀k,a<=k->k<b->¬c (l.getD k d) (l.getD (a-1) d)<0
variable {l0 l m:List α} {a0 b0 a b mid:Nat}
theorem PQ.start {l:List α}(h:a<=b)(hp:0<a->∀k,a<=k->k<b->¬c (l.getD k d) (l.getD (a-1) d)<0):PQ c d l l a b a b:=
 ⟨.refl _ _ _,Nat.le_refl _,h,Nat.le_refl _,.short (by omega),.short (by omega),fun p q h1 h2=>by omega,fun p q h1 h2 h3 h4=>by omega,hp⟩
theorem PQ.change (h:PQ c d l0 l a0 b0 a b)(hs:gW d l m a b):PQ c d l0 m a0 b0 a b:=
 ⟨h.HT.trans (hs.wide h.ha h.hb),h.ha,h.mC,h.hb,hs.Bn h.lo (.inl (Nat.le_refl _)),hs.Bn h.hi (.inr (Nat.le_refl _)),hs.sep h.s1 (.inr (.inl ⟨Nat.le_refl _,h.hb⟩)),hs.sep h.s2 (.inl ⟨h.ha,Nat.le_refl _⟩),fun h0 k h1 h2=>by
  obtain ⟨k',h3,h4,e⟩:=hs.mem k h1 h2
  rw [e,hs.out (a-1) (by omega)]
  exact h.pre h0 k' h3 h4⟩
theorem PQ.fin (h:PQ c d l0 l a0 b0 a b)(hs:gW d l m a b)(ha:pG c d m a b):gW d l0 m a0 b0/\pG c d m a0 b0:=by
 have h':=h.change hs
 refine ⟨h'.HT,h'.lo.join (ha.join h'.hi fun p q h1 h2 h3 h4=>h'.s2 p q (by have:=h.ha;omega) h2 h3 h4) h'.s1⟩
theorem PQ.left (ho:Ord c)(h:PQ c d l0 l a0 b0 a b)(hm:a<=mid)(hm':mid<b)(h1:∀k,a<=k->k<mid->c (l.getD k d) (l.getD mid d)<0)(h2:∀k,mid<k->k<b->¬c (l.getD k d) (l.getD mid d)<0)
  (hs:gW d l m a mid)(ha:pG c d m a mid):PQ c d l0 m a0 b0 (mid+1) b:=by
 have e0:=h.ha
 have e1:=h.hb
 have em:m.getD mid d=l.getD mid d:=hs.out mid (by omega)
 have below:∀k,a<=k->k<mid->¬c (m.getD mid d) (m.getD k d)<0:=fun k g1 g2=>by
  obtain ⟨k',g3,g4,e⟩:=hs.mem k g1 g2
  rw [em,e];exact ho.GQ _ _ (h1 k' g3 g4)
 have t1:=hs.sep h.s1 (.inr (.inl ⟨Nat.le_refl _,by omega⟩))
 have t2:=hs.sep h.s2 (.inl ⟨e0,by omega⟩)
 have up:∀q,mid<q->q<b->¬c (m.getD q d) (m.getD mid d)<0:=fun q g1 g2=>by rw [em,hs.out q (by omega)];exact h2 q g1 g2
 refine ⟨h.HT.trans (hs.wide e0 (by omega)),by omega,by omega,e1,(hs.Bn h.lo (.inl (Nat.le_refl _))).join (m:=a) (fun p q g1 g2 g3=>?_) fun p q g1 g2 g3 g4=>t1 p q g1 g2 g3 (by omega),hs.Bn h.hi (.inr (by omega)),fun p q g1 g2 g3 g4=>?_,t2,fun _ k g1 g2=>up k (by omega) g2⟩
 ·by_cases e:q=mid
  ·subst e;exact below p g1 g2
  ·exact ha p q g1 g2 (by omega)
 ·by_cases hq:b<=q
  ·exact t2 p q g1 (by omega) hq g4
  ·by_cases hp:p<a
   ·exact t1 p q g1 hp (by omega) g4
   ·have u:=up q (by omega) (by omega)
    by_cases e:p=mid
    ·subst e;exact u
    ·exact ho.tr _ _ _ u (below p (by omega) (by omega))
theorem PQ.right (ho:Ord c)(h:PQ c d l0 l a0 b0 a b)(hm:a<=mid)(hm':mid<b)(h1:∀k,a<=k->k<mid->c (l.getD k d) (l.getD mid d)<0)(h2:∀k,mid<k->k<b->¬c (l.getD k d) (l.getD mid d)<0)
  (hs:gW d l m (mid+1) b)(ha:pG c d m (mid+1) b):PQ c d l0 m a0 b0 a mid:=by
 have e0:=h.ha
 have e1:=h.hb
 have em:m.getD mid d=l.getD mid d:=hs.out mid (by omega)
 have up:∀q,mid<q->q<b->¬c (m.getD q d) (m.getD mid d)<0:=fun q g1 g2=>by
  obtain ⟨k',g3,g4,e⟩:=hs.mem q (by omega) g2
  rw [em,e];exact h2 k' (by omega) g4
 have below:∀k,a<=k->k<mid->¬c (m.getD mid d) (m.getD k d)<0:=fun k g1 g2=>by
  rw [em,hs.out k (by omega)];exact ho.GQ _ _ (h1 k g1 g2)
 have t1:=hs.sep h.s1 (.inr (.inl ⟨by omega,e1⟩))
 have t2:=hs.sep h.s2 (.inl ⟨by omega,Nat.le_refl _⟩)
 have t3:=hs.Bn h.hi (.inr (Nat.le_refl _))
 refine ⟨h.HT.trans (hs.wide (by omega) e1),e0,hm,by omega,hs.Bn h.lo (.inl (by omega)),fun p q g1 g2 g3=>?_,t1,fun p q g1 g2 g3 g4=>?_,fun h0 k g1 g2=>?_⟩
 ·by_cases hq:q<b
  ·by_cases e:p=mid
   ·subst e;exact up q g2 hq
   ·exact ha p q (by omega) g2 hq
  ·by_cases hp:p<b
   ·exact t2 p q (by omega) hp (by omega) g3
   ·exact t3 p q (by omega) g2 g3
 ·by_cases hq:b<=q
  ·exact t2 p q g1 (by omega) hq g4
  ·by_cases hp:p<a
   ·exact t1 p q g1 hp (by omega) g4
   ·have u:=below p (by omega) g2
    by_cases e:q=mid
    ·subst e;exact u
    ·exact ho.tr _ _ _ (up q (by omega) (by omega)) u
 ·rw [hs.out k (by omega),hs.out (a-1) (by omega)];exact h.pre h0 k g1 (by omega)
theorem PQ.Uv (ho:Ord c)(h:PQ c d l0 l a0 b0 a b)(h0:0<a)(hm:a<mid)(hm':mid<=b){x:α}(hx:¬c (l.getD (a-1) d) x<0)(hs:gW d l m a b)
  (h1:∀k,a<=k->k<mid->¬c x (m.getD k d)<0)(h2:∀k,mid<=k->k<b->c x (m.getD k d)<0):PQ c d l0 m a0 b0 mid b:=by
 have h':=h.change hs
 have e0:=h.ha
 have e1:=h.hb
 have ex:¬c (m.getD (a-1) d) x<0:=by rw [hs.out (a-1) (by omega)];exact hx
 have pr:=h'.pre h0
 refine ⟨h'.HT,by omega,hm',e1,h'.lo.join (m:=a) (fun p q g1 g2 g3=>?_) fun p q g1 g2 g3 g4=>h'.s1 p q g1 g2 g3 (by omega),h'.hi,fun p q g1 g2 g3 g4=>?_,h'.s2,fun _ k g1 g2=>?_⟩
 ·exact ho.tr _ _ _ (pr q (by omega) (by omega)) (ho.tr _ _ _ ex (h1 p g1 (by omega)))
 ·by_cases hq:b<=q
  ·exact h'.s2 p q g1 (by omega) hq g4
  ·by_cases hp:p<a
   ·exact h'.s1 p q g1 hp (by omega) g4
   ·exact ho.tr _ _ _ (ho.GQ _ _ (h2 q g3 (by omega))) (h1 p (by omega) g2)
 ·exact ho.tr _ _ _ (ho.GQ _ _ (h2 k g1 g2)) (h1 (mid-1) (by omega) (by omega))
structure HQ (c:α->α->Int) (d:α) (l:List α) (f i n:Nat):Prop where
 hp:Hp c d l f 0 i none
 Bn:pG c d l (f+i) (f+n)
 sep:Sep c d l f (f+i) (f+n)
theorem HQ.start {f n:Nat}(h:Hp c d l f 0 n none):HQ c d l f n n:=⟨h,.short (by omega),fun p q h1 h2 h3 h4=>by omega⟩
theorem HQ.step (ho:Ord c){f k n:Nat}(h:HQ c d l f (k+1) n)(hk:k+1<=n)(hl:f+n<=l.length)(hs:gW d (jE d l f (f+k)) m f (f+k))(hm:Hp c d m f 0 k none):HQ c d m f k n:=by
 have ha:=fun x=>kP (d:=d) (l:=l) (i:=f) (j:=f+k) (k:=x) (by omega) (by omega)
 have out:∀q,f+k<q->m.getD q d=l.getD q d:=fun q hq=>by rw [hs.out q (by omega),ha,if_neg (by omega),if_neg (by omega)]
 have top:m.getD (f+k) d=l.getD f d:=by rw [hs.out (f+k) (by omega),ha,if_pos rfl]
 refine ⟨hm,fun p q g1 g2 g3=>?_,fun p q g1 g2 g3 g4=>?_⟩
 ·rw [out q (by omega)]
  by_cases e:p=f+k
  ·rw [e,top];exact h.sep f q (Nat.le_refl _) (by omega) (by omega) g3
  ·rw [out p (by omega)];exact h.Bn p q (by omega) g2 g3
 ·have hp:∃j,j<k+1/\m.getD p d=l.getD (f+j) d:=by
   obtain ⟨p',e1,e2,e⟩:=hs.mem p g1 g2
   rw [e,ha,if_neg (by omega)]
   split
   ·exact ⟨k,by omega,rfl⟩
   ·exact ⟨p'-f,by omega,by rw [show f+(p'-f)=p' by omega]⟩
  obtain ⟨j,hj,e⟩:=hp
  rw [e]
  by_cases eq:q=f+k
  ·rw [eq,top];exact h.hp.top ho j hj
  ·rw [out q (by omega)];exact h.sep (f+j) q (by omega) (by omega) (by omega) g4
theorem HQ.fin {f n:Nat}(h:HQ c d l f 0 n):pG c d l f (f+n):=by have:=h.Bn;simpa using this
structure PT (P:α->Prop) (d:α) (l:List α) (a b i j:Nat):Prop where
 hi:a<i
 xP:i<=j+1
 hj:j<b
 lo:∀k,a<k->k<i->P (l.getD k d)
 up:∀k,j<k->k<b->¬P (l.getD k d)
variable {P:α->Prop} {i j:Nat}
theorem PT.start (h:a+1<b):PT P d l a b (a+1) (b-1):=⟨by omega,by omega,by omega,fun k h1 h2=>by omega,fun k h1 h2=>by omega⟩
theorem PT.JF (h:PT P d l a b i j)(xP:i<=j)(hp:P (l.getD i d)):PT P d l a b (i+1) j:=⟨by have:=h.hi;omega,by omega,h.hj,fun k h1 h2=>by
 by_cases e:k=i
 ·subst e;exact hp
 ·exact h.lo k h1 (by omega),h.up⟩
theorem PT.Jg (h:PT P d l a b i j)(xP:i<=j)(hp:¬P (l.getD j d)):PT P d l a b i (j-1):=⟨h.hi,by omega,by have:=h.hj;omega,h.lo,fun k h1 h2=>by
 by_cases e:k=j
 ·subst e;exact hp
 ·exact h.up k (by have:=h.hi;omega) h2⟩
theorem PT.swap (h:PT P d l a b i j)(xP:i<=j)(hl:b<=l.length)(h1:¬P (l.getD i d))(h2:P (l.getD j d)):PT P d (jE d l i j) a b (i+1) (j-1)/\(jE d l i j).getD a d=l.getD a d/\gW d l (jE d l i j) a b:=by
 have e0:=h.hi
 have e1:=h.hj
 have ne:i≠j:=fun e=>h1 (e▸h2)
 have ha:=fun x=>kP (d:=d) (l:=l) (i:=i) (j:=j) (k:=x) (by omega) (by omega)
 refine ⟨⟨by omega,by omega,by omega,fun k g1 g2=>?_,fun k g1 g2=>?_⟩,by rw [ha,if_neg (by omega),if_neg (by omega)],gW.jE (by omega) (by omega) (by omega) e1 hl⟩
 ·rw [ha,if_neg (by omega)]
  by_cases e:k=i
  ·rw [if_pos e];exact h2
  ·rw [if_neg e];exact h.lo k g1 (by omega)
 ·rw [ha]
  by_cases e:k=j
  ·rw [if_pos e];exact h1
  ·rw [if_neg e,if_neg (by omega)];exact h.up k (by omega) g2
theorem PT.fin (ho:Ord c)(h:PT (fun x=>c x (l.getD a d)<0) d l a b i j)(xP:¬i<=j)(hl:b<=l.length):gW d l (jE d l j a) a b/\a<=j/\j<b /\
  (∀k,a<=k->k<j->c ((jE d l j a).getD k d) ((jE d l j a).getD j d)<0)/\(∀k,j<k->k<b->¬c ((jE d l j a).getD k d) ((jE d l j a).getD j d)<0):=by
 have e0:=h.hi
 have e1:=h.xP
 have e2:=h.hj
 have ha:=fun x=>kP (d:=d) (l:=l) (i:=j) (j:=a) (k:=x) (by omega) (by omega)
 have ej:(jE d l j a).getD j d=l.getD a d:=by
  rw [ha]
  by_cases e:j=a
  ·rw [if_pos e,e]
  ·rw [if_neg e,if_pos rfl]
 refine ⟨gW.jE (by omega) e2 (Nat.le_refl _) (by omega) hl,by omega,e2,fun k g1 g2=>?_,fun k g1 g2=>?_⟩
 ·rw [ej,ha]
  by_cases e:k=a
  ·rw [if_pos e];exact h.lo j (by omega) (by omega)
  ·rw [if_neg e,if_neg (by omega)];exact h.lo k (by omega) (by omega)
 ·rw [ej,ha,if_neg (by omega),if_neg (by omega)];exact h.up k g1 g2
end
end Go.Proofs.Tryz
namespace Go.Proofs.Tryz
open Go.bF Go.fl
theorem fZ (V:View):V.Le V.shut:=fun _ _ h=>h
set_option maxRecDepth 10000 in
theorem GY {V:View}(x:Nat)(hx:x<256):ab prog 220 #[.int .u64 (x:Int)] V fun r V'=>r=.int .i64 (bg x:Int):=by
 refine nX _ V _ ⟨fun z _=>z=((x:Int),0),⟨fun h0=>absurd (of_decide_eq_true h0) (by omega),fun _=>⟨_,⟨rfl,rfl⟩,rfl⟩⟩,?_⟩
 rintro _ V1 l1 rfl
 refine ⟨rfl,fun z _=>z=((x:Int),0),⟨fun h0=>absurd (of_decide_eq_true h0) (by dsimp only;omega),fun _=>⟨_,⟨rfl,rfl⟩,rfl⟩⟩,?_⟩
 rintro _ V2 l2 rfl
 refine ⟨rfl,fun z _=>z=((x:Int),0),⟨fun h0=>absurd (of_decide_eq_true h0) (by dsimp only;omega),fun _=>⟨_,⟨rfl,rfl⟩,rfl⟩⟩,?_⟩
 rintro _ V3 l3 rfl
 have hw:IntKind.u8.wrap (x:Int)=x:=IntWalk.u8_in _ (by omega)
 have hsz:(zY.size:Int)=256:=rfl
 dsimp only
 rw [hw]
 refine ⟨rfl,⟨by omega,by show (x:Int)<(zY.size:Int);rw [hsz];omega⟩,fun V4 l4=>?_⟩
 show Value.int .i64 (i64.wrap (0+i64.wrap ((zY.data.toList.getD (x:Int).toNat 0).toNat:Int)))=_
 congr 1
 have key:∀y:Nat,y<256->(zY.data.toList.getD y 0).toNat=bg y:=by decide +kernel
 have hbl:bg x<=8:=fN.2 (by omega)
 have:=key x hx
 rw [Int.toNat_natCast,this]
 simp (disch:=omega) only [au]
 omega
theorem kk {V:View}(x:Nat)(hx:x<256):ab prog 180 #[.int .u64 (x:Int)] V fun r V'=>r=.int .i64 (bg x:Int):=by
 refine qt _ V _ fun V1 l1=>(GY x hx).mono ?_
 rintro r V2 l2 rfl
 exact ⟨_,rfl,fun V3 l3=>rfl⟩
theorem pQ {V:View}(x:Nat)(h0:1<=x)(hx:x<50):ab prog 241 #[.int .i64 (x:Int)] V fun r V'=>∃m:Nat,r=.int .u64 m/\1<=m/\m<=2*x:=by
 have w:u64.wrap (x:Int)=x:=aJ (by omega)
 refine jB _ V _ fun V1 l1=>?_
 rw [w]
 refine (kk x (by omega)).mono ?_
 rintro r V2 l2 rfl
 have key:∀y:Nat,y<50->1<=y->2^bg y<=2*y/\bg y<=6:=by decide +kernel
 obtain ⟨k1,k2⟩:=key x hx h0
 have e:min ((bg x:Nat):Int).toNat IntKind.u64.bits=bg x:=by
  show min ((bg x:Nat):Int).toNat 64=_
  rw [Int.toNat_natCast];omega
 have e2:((1:Int)*2^bg x)=((2^bg x:Nat):Int):=by rw [Int.one_mul];simp
 refine ⟨_,rfl,by omega,fun V3 l3=>⟨2^bg x,?_,Nat.one_le_two_pow,k1⟩⟩
 rw [e,e2]
 generalize 2^bg x=P at *
 rw [aJ (by omega)]
theorem I7 {x m:Int}(h0:0<=m)(h1:m<1000):0<=aQ .and .u64 x m/\aQ .and .u64 x m<=m:=by
 have hb:(BitVec.ofInt 64 m).toNat=m.toNat:=by rw [BitVec.toNat_ofInt];omega
 have h:((BitVec.ofInt 64 x &&& BitVec.ofInt 64 m).toNat)<=m.toNat:=by rw [BitVec.toNat_and,hb];exact Nat.and_le_right
 show 0<=u64.wrap ((BitVec.ofInt 64 x &&& BitVec.ofInt 64 m).toNat:Int)/\u64.wrap ((BitVec.ofInt 64 x &&& BitVec.ofInt 64 m).toNat:Int)<=m
 rw [aJ (by omega)]
 omega
theorem BA {V:View}{rb:Nat}{x:Int}(hw:V.w.heap[rb]?=some (.cells #[.int .u64 x] 302 (0,0)))(hx:V.X rb) :
  ab prog 242 #[.pointer (some ⟨rb,0,none⟩)] V fun r V'=>∃y:Int,r=.int .u64 y/\V'.w.heap[rb]?=some (.cells #[.int .u64 y] 302 (0,0)):=
 kb rb x V _ hw hx ⟨by decide,by decide,by decide,fun V1 l1 h=>⟨_,rfl,h⟩⟩
end Go.Proofs.Tryz
namespace Go.Proofs.Tryz
open Go.bF
set_option maxRecDepth 100000
end Go.Proofs.Tryz
namespace Go.Proofs.Tryz
open Go.bF Go.fl
structure Ic (V:View) (n:Nat) (vs:List Value) (l:List L3):Prop where
 row:Row 9 Gv V vs l
 len:n=l.length
 mz:l.length<50
theorem Ic.le {V V':View}{n:Nat}{vs:List Value}{l:List L3}(h:Ic V n vs l)(e:V.Le V'):Ic V' n vs l:=⟨h.row.le fun _ _ g=>Gv.le g e,h.len,h.mz⟩
theorem Ic.get {V:View}{n:Nat}{vs:List Value}{l:List L3}(h:Ic V n vs l){k:Nat}(hk:k<l.length):∃(x y:Int)(p:OA)(xb yb:Int)(pb:OA)(xc yc:Int)(pc:OA),
  ((0+k*9)+9<=vs.length/\(vs.drop (0+k*9)).take 9=[.int .i64 x,.int .i64 y,.pointer p,.int .i64 xb,.int .i64 yb,.pointer pb,.int .i64 xc,.int .i64 yc,.pointer pc])/\Gv V (.agg #[.int .i64 x,.int .i64 y,.pointer p,.int .i64 xb,.int .i64 yb,.pointer pb,.int .i64 xc,.int .i64 yc,.pointer pc]) (l.getD k Jf):=by
 obtain ⟨xs,-,h2,h3,h4⟩:=h.row.get (d:=Jf) hk (by decide)
 have h20:=h2
 obtain ⟨x,y,p,xb,yb,pb,xc,yc,pc,e⟩:=h2.shape
 have e:=congrArg Array.toList (Value.agg.inj e)
 dsimp only at e
 subst e
 rw [Nat.zero_add]
 exact ⟨x,y,p,xb,yb,pb,xc,yc,pc,⟨h3,h4⟩,h20⟩
theorem Ic.swap {V:View}{n:Nat}{vs:List Value}{l:List L3}(h:Ic V n vs l){i j:Nat}(hi:i<l.length)(hj:j<l.length){x y:Int}{p:OA}{xb yb:Int}{pb:OA}{xc yc:Int}{pc:OA}{x' y':Int}{p':OA}{Ko Kp:Int}{pb':OA}{NC Rh:Int}{pc':OA}
  (h1:Gv V (.agg #[.int .i64 x,.int .i64 y,.pointer p,.int .i64 xb,.int .i64 yb,.pointer pb,.int .i64 xc,.int .i64 yc,.pointer pc]) (l.getD i Jf))(h2:Gv V (.agg #[.int .i64 x',.int .i64 y',.pointer p',.int .i64 Ko,.int .i64 Kp,.pointer pb',.int .i64 NC,.int .i64 Rh,.pointer pc']) (l.getD j Jf)) :
  (0+i*9)+9<=vs.length/\(0+j*9)+9<=(af vs (0+i*9) [.int .i64 x',.int .i64 y',.pointer p',.int .i64 Ko,.int .i64 Kp,.pointer pb',.int .i64 NC,.int .i64 Rh,.pointer pc']).length /\
  Ic V n (af (af vs (0+i*9) [.int .i64 x',.int .i64 y',.pointer p',.int .i64 Ko,.int .i64 Kp,.pointer pb',.int .i64 NC,.int .i64 Rh,.pointer pc']) (0+j*9) [.int .i64 x,.int .i64 y,.pointer p,.int .i64 xb,.int .i64 yb,.pointer pb,.int .i64 xc,.int .i64 yc,.pointer pc]) (jE Jf l i j):=by
 obtain ⟨-,-,-,g1,-⟩:=h.row.get (d:=Jf) hi (by decide)
 obtain ⟨-,-,-,g2,-⟩:=h.row.get (d:=Jf) hj (by decide)
 rw [Nat.zero_add,Nat.zero_add]
 refine ⟨g1,by rw [lS (by exact g1)];exact g2,h.row.swap hi hj (by decide) rfl rfl h1 h2,by rw [mK];exact h.len,by rw [mK];exact h.mz⟩
end Go.Proofs.Tryz
namespace Go.Proofs.Tryz
open Go.bF
set_option maxRecDepth 100000
end Go.Proofs.Tryz
namespace Go.Proofs.Tryz
open Go.bF Go.fl
structure GR {α:Type} (sz:Nat) (R:View->Value->α->Prop) (V:View) (n c:Nat) (vs:List Value) (l:List α):Prop where
 len:n=l.length
 le:n<=c
 cap:c*sz<=vs.length
 row:Row sz R V vs l
theorem GR.nil {α:Type}{sz:Nat}{R:View->Value->α->Prop}{V:View}:GR sz R V 0 0 [] []:=⟨rfl,Nat.le_refl _,by simp,Row.nil⟩
theorem GR.mono {α:Type}{sz:Nat}{R:View->Value->α->Prop}{V V':View}{n c:Nat}{vs:List Value}{l:List α}(h:GR sz R V n c vs l)(m:∀v a,R V v a->R V' v a):GR sz R V' n c vs l:=⟨h.len,h.le,h.cap,h.row.le m⟩
theorem GR.snoc {α:Type}{sz:Nat}{R:View->Value->α->Prop}{V:View}{n c:Nat}{vs:List Value}{l:List α}(h:GR sz R V n c vs l){xs:List Value}{a:α}(hx:xs.length=sz)(ha:R V (.agg xs.toArray) a)(h0:0<sz){sp:List Value}{c':Nat}(h1:n+1<=c')(h2:c'*sz<=(n+1)*sz+sp.length) :
  GR sz R V (n+1) c' (vs.take (n*sz)++xs++sp) (l++[a]):=by
 have hn:=h.len
 have hc:=h.cap
 have hl:n*sz<=c*sz:=Nat.mul_le_mul_right _ h.le
 refine ⟨by rw [List.length_append,hn];rfl,h1,?_,?_⟩
 ·have ht:(vs.take (n*sz)).length=n*sz:=by rw [List.length_take];omega
  rw [List.length_append,List.length_append,ht,hx]
  rw [Nat.succ_mul] at h2
  exact h2
 ·have:=h.row.snoc (sp:=sp) hx ha h0
  rw [←hn] at this
  exact this
end Go.Proofs.Tryz
namespace Go.Proofs.Tryz
open Go.bF
set_option maxRecDepth 100000
end Go.Proofs.Tryz
namespace Go.Proofs.Tryz
open Go.bF Go.fl
def iM (l:L3):L3:=if l.1<0\/l.1=0/\l.2.1<0 then D8 l else l
def Tr.xV:Tr->List L3
 | .leaf _=>[]
 | .node l a b=>l::(a.xV++b.xV)
theorem mF:∀t:Tr,t.xV.length=t.size
 | .leaf _=>rfl
 | .node _ a b=>by simp only [Tr.xV,List.length_cons,List.length_append,mF a,mF b,Tr.size]
theorem mE {p:L3->Prop}:∀{t:Tr},t.kd p->∀x∈t.xV,p x
 | .leaf _,_,x,h=>by cases h
 | .node l a b,⟨h1,h2,h3⟩,x,h=>by
  rcases List.mem_cons.1 h with rfl|h
  ·exact h1
  ·rcases List.mem_append.1 h with h|h
   ·exact mE h2 x h
   ·exact mE h3 x h
theorem Bd.rev {l:L3}(h:Bd l):Bd (D8 l):=by
 obtain ⟨h1,h2,h3⟩:=h
 unfold Bd D8
 simp only [Int.natAbs_neg]
 exact ⟨h1,h2,h3⟩
theorem Bd.can {l:L3}(h:Bd l):Bd (iM l):=by
 unfold iM;split
 ·exact h.rev
 ·exact h
theorem Bd.Gl {l:L3}(h:Bd l):yV 1000 l:=⟨h.sz.1,h.sz.2.1,h.sz.2.2⟩
theorem Fh {V:View}{P:Prop}{b:Nat}(h:P->V.H b):V.Le (V.shut.bZ P b):=fun x o g=>⟨fun hh=>by
 rcases hh with hh|hh
 ·exact g.1 hh
 ·rw [hh.2.1] at g;exact g.1 (h hh.1),g.2⟩
theorem ab.Mt {f:FuncId}{args:Array Value}{V:View}{R R':Value->View->Prop}(h:ab prog f args V R)(hR:∀r V',V.Le V'->(∀b,V.H b->V'.H b)->R r V'->R' r V'):ab prog f args V R':=
 ⟨h.1,h.2.mono fun _ w' ⟨r,he,hx,hr⟩=>⟨r,he,hx,hR r _ (V.Fi w' hx) (fun _ hb=>hb) hr⟩⟩
end Go.Proofs.Tryz
namespace Go.Proofs.Tryz.aX
open Go.bF Go.fl
def nv (l:L3)(v:V2):Rat:=(l.1:Rat)*v.1+(l.2.1:Rat)*v.2
def iN (l:L3):V2:=((l.2.1:Rat),-(l.1:Rat))
theorem MI (l:L3)(v:V2):nv l v=cr (iN l) v:=by unfold nv cr iN;grind
def Ci (l:L3)(p v:V2):Int:=if (ev l p.1 p.2).num.sign=0 then (nv l v).num.sign else (ev l p.1 p.2).num.sign
def lq:Tr->V2->V2->Bool×Bool
 | .leaf i,_,_=>(i,true)
 | .node l a b,p,v=>if Ci l p v=1 then lq a p v else if Ci l p v=-1 then lq b p v else (false,false)
def cS:Tr->V2->List L3
 | .leaf _,_=>[]
 | .node l a b,p=>(if ev l p.1 p.2=0 then [l] else [])++((if ev l p.1 p.2≥0 then cS a p else [])++(if ev l p.1 p.2<=0 then cS b p else []))
theorem tO:∀{t:Tr} {p:V2} {l:L3},l∈cS t p->ev l p.1 p.2=0/\l∈t.xV
 | .leaf _,_,_,h=>by cases h
 | .node m a b,p,l,h=>by
  unfold cS at h
  simp only [List.mem_append] at h
  rcases h with h|h|h
  ·split at h
   ·rename_i e;rcases List.mem_singleton.1 h with rfl;exact ⟨e,List.mem_cons_self ..⟩
   ·cases h
  ·split at h
   ·have:=tO h;exact ⟨this.1,List.mem_cons_of_mem _ (List.mem_append_left _ this.2)⟩
   ·cases h
  ·split at h
   ·have:=tO h;exact ⟨this.1,List.mem_cons_of_mem _ (List.mem_append_right _ this.2)⟩
   ·cases h
theorem yu {q:Rat}:q.num.sign=-1↔q<0:=by
 rw [Int.sign_eq_neg_one_iff_neg,←Int.not_le,←Rat.not_le,Rat.num_nonneg]
theorem Cj {q:Rat}:q.num.sign=1↔q>0:=by
 have h:=@yu (-q)
 rw [Rat.neg_num,Int.sign_neg] at h
 constructor
 ·intro e;have:=h.1 (by rw [e]);grind
 ·intro e;have:=h.2 (by grind);omega
theorem jg {q:Rat}:q.num.sign=0↔q=0:=by rw [Int.sign_eq_zero_iff_zero,Rat.num_eq_zero]
theorem lY:∀{t:Tr} {p v x:V2},(∀l∈cS t p,nv l v≠0)->(∀l∈cS t p,(nv l v>0->nv l x>0)/\(nv l v<0->nv l x<0)) ->
  lq t p x=lq t p v/\(lq t p v).2=true
 | .leaf _,_,_,_,_,_=>⟨rfl,rfl⟩
 | .node l a b,p,v,x,h0,h1=>by
  have ha:ev l p.1 p.2≥0->lq a p x=lq a p v/\(lq a p v).2=true:=fun e=>by
   have sub:∀m∈cS a p,m∈cS (.node l a b) p:=fun m hm=>by
    unfold cS
    rw [if_pos e]
    exact List.mem_append_right _ (List.mem_append_left _ hm)
   exact lY (fun m hm=>h0 m (sub m hm)) (fun m hm=>h1 m (sub m hm))
  have hb:ev l p.1 p.2<=0->lq b p x=lq b p v/\(lq b p v).2=true:=fun e=>by
   have sub:∀m∈cS b p,m∈cS (.node l a b) p:=fun m hm=>by
    unfold cS
    rw [if_pos e]
    exact List.mem_append_right _ (List.mem_append_right _ hm)
   exact lY (fun m hm=>h0 m (sub m hm)) (fun m hm=>h1 m (sub m hm))
  have hl:ev l p.1 p.2=0->l∈cS (.node l a b) p:=fun e=>by
   unfold cS
   rw [if_pos e]
   exact List.mem_append_left _ (List.mem_singleton.2 rfl)
  have key:Ci l p x=Ci l p v/\(Ci l p v=1/\ev l p.1 p.2≥0\/Ci l p v=-1/\ev l p.1 p.2<=0):=by
   unfold Ci
   by_cases e:ev l p.1 p.2=0
   ·have hm:=hl e
    rw [if_pos (jg.2 e),if_pos (jg.2 e)]
    obtain ⟨q1,q2⟩:=h1 l hm
    have q0:=h0 l hm
    by_cases q:nv l v>0
    ·rw [Cj.2 q,Cj.2 (q1 q)];exact ⟨rfl,.inl ⟨rfl,by grind⟩⟩
    ·have q':nv l v<0:=by grind
     rw [yu.2 q',yu.2 (q2 q')];exact ⟨rfl,.inr ⟨rfl,by grind⟩⟩
   ·have e':¬(ev l p.1 p.2).num.sign=0:=fun h=>e (jg.1 h)
    rw [if_neg e',if_neg e']
    refine ⟨rfl,?_⟩
    by_cases q:ev l p.1 p.2>0
    ·exact .inl ⟨Cj.2 q,by grind⟩
    ·exact .inr ⟨yu.2 (by grind),by grind⟩
  obtain ⟨k1,k2⟩:=key
  simp only [lq,k1]
  rcases k2 with ⟨e,g⟩|⟨e,g⟩
  ·rw [e,if_pos rfl,if_pos rfl];exact ha g
  ·rw [e,if_neg (by decide),if_pos rfl,if_neg (by decide),if_pos rfl];exact hb g
def Ev (D:List V2)(M:List L3):Prop:=∀l∈M,∃r∈D,∃c:Rat,c>0/\r=(c*(iN l).1,c*(iN l).2)
theorem BD {l:L3}{r:V2}{c:Rat}(c0:c>0)(e:r=(c*(iN l).1,c*(iN l).2))(v:V2):cr r v=c*nv l v:=by
 rw [MI,e];unfold cr;grind
theorem C9 {c x:Rat}(c0:c>0):(c*x>0↔x>0)/\(c*x<0↔x<0)/\(c*x=0↔x=0):=by
 have p:x>0->c*x>0:=fun h=>mp c0 h
 have n:x<0->c*x<0:=fun h=>by have:=mp c0 (show -x>0 by grind);grind
 have z:x=0->c*x=0:=fun h=>by rw [h];grind
 refine ⟨⟨fun h=>?_,p⟩,⟨fun h=>?_,n⟩,⟨fun h=>?_,z⟩⟩
 ·by_cases q:x>0
  ·exact q
  ·by_cases q':x<0
   ·have:=n q';grind
   ·have:=z (by grind);grind
 ·by_cases q:x<0
  ·exact q
  ·by_cases q':x>0
   ·have:=p q';grind
   ·have:=z (by grind);grind
 ·rcases Rat.mul_eq_zero.1 h with h|h
  ·grind
  ·exact h
theorem Ev.gen {D:List V2}{M:List L3}(h:Ev D M){v:V2}(hv:∀r∈D,cr r v≠0):∀l∈M,nv l v≠0:=by
 intro l hl e
 obtain ⟨r,hr,c,c0,e'⟩:=h l hl
 exact hv r hr (by rw [BD c0 e',e];grind)
theorem Ev.same {D:List V2}{M:List L3}(h:Ev D M){v x:V2}(hv:∀r∈D,(cr r v>0->cr r x>0)/\(cr r v<0->cr r x<0)) :
  ∀l∈M,(nv l v>0->nv l x>0)/\(nv l v<0->nv l x<0):=by
 intro l hl
 obtain ⟨r,hr,c,c0,e'⟩:=h l hl
 have:=hv r hr
 rw [BD c0 e',BD c0 e'] at this
 obtain ⟨a1,a2,_⟩:=@C9 c (nv l v) c0
 obtain ⟨b1,b2,_⟩:=@C9 c (nv l x) c0
 exact ⟨fun h=>b1.1 (this.1 (a1.2 h)),fun h=>b2.1 (this.2 (a2.2 h))⟩
theorem F_ {D S:List V2}(h:CJ D)(hS:Gw D S):∀x∈S,nz x:=by
 intro x hx
 have g:=rX h hS x hx
 rcases hS with ⟨rfl,rfl⟩|⟨h0,_,_⟩
 ·rcases List.mem_singleton.1 hx with rfl;exact .inl (by decide)
 ·obtain ⟨d,hd⟩:=List.exists_mem_of_ne_nil D h0
  have:=g d hd
  unfold nz
  by_cases e:x.1=0
  ·right;intro e';exact this (by unfold cr;rw [e,e'];grind)
  ·exact .inl e
theorem Mn {D E S':List V2}(hD:∀r∈D,nz r)(hE:CJ E)(hS':Gw E S'){t:Tr}{p x:V2}(nx:nz x)(hx:∀r∈D,cr r x≠0)(c1:Ev D (cS t p))(c2:Ev E (cS t p)) :
  ∃y∈S',lq t p y=lq t p x/\(lq t p x).2=true:=by
 obtain ⟨z,hz⟩:=Kg x nx (D++E) fun r hr=>by
  rcases List.mem_append.1 hr with h|h
  ·exact hD r h
  ·exact hE.nz r h
 have z1:∀r∈D,(cr r x>0->cr r z>0)/\(cr r x<0->cr r z<0):=fun r hr=>⟨(hz r (List.mem_append_left _ hr)).1,(hz r (List.mem_append_left _ hr)).2.1⟩
 have z2:∀r∈E,cr r z≠0:=fun r hr=>(hz r (List.mem_append_right _ hr)).2.2
 obtain ⟨y,hy,y1⟩:=HW hE hS' z2
 have t1:=lY (c1.gen hx) (c1.same z1)
 have t2:=lY (c2.gen z2) (c2.same y1)
 exact ⟨y,hy,t2.1.trans t1.1,t1.2⟩
def anyS (t:Tr)(p:V2)(S:List V2):Bool:=S.any fun v=>(lq t p v).1
def ki (t:Tr)(p:V2)(S:List V2):Bool:=S.all fun v=>(lq t p v).1
theorem Ka {D S E S':List V2}(hD:CJ D)(hS:Gw D S)(hE:CJ E)(hS':Gw E S'){t:Tr}{p:V2}(c1:Ev D (cS t p))(c2:Ev E (cS t p)) :
  anyS t p S=anyS t p S'/\ki t p S=ki t p S':=by
 have a:∀x∈S,∃y∈S',lq t p y=lq t p x:=fun x hx=>by
  obtain ⟨y,hy,e,_⟩:=Mn hD.nz hE hS' (F_ hD hS x hx) (rX hD hS x hx) c1 c2
  exact ⟨y,hy,e⟩
 have b:∀x∈S',∃y∈S,lq t p y=lq t p x:=fun x hx=>by
  obtain ⟨y,hy,e,_⟩:=Mn hE.nz hD hS (F_ hE hS' x hx) (rX hE hS' x hx) c2 c1
  exact ⟨y,hy,e⟩
 unfold anyS ki
 constructor
 ·rw [Bool.eq_iff_iff,List.any_eq_true,List.any_eq_true]
  constructor
  ·rintro ⟨x,hx,h⟩;obtain ⟨y,hy,e⟩:=a x hx;exact ⟨y,hy,by rw [e];exact h⟩
  ·rintro ⟨x,hx,h⟩;obtain ⟨y,hy,e⟩:=b x hx;exact ⟨y,hy,by rw [e];exact h⟩
 ·rw [Bool.eq_iff_iff,List.all_eq_true,List.all_eq_true]
  constructor
  ·intro h x hx;obtain ⟨y,hy,e⟩:=b x hx;rw [←e];exact h y hy
  ·intro h x hx;obtain ⟨y,hy,e⟩:=a x hx;rw [←e];exact h y hy
theorem inv_mul {c:Rat}(h:c≠0)(a:Rat):a*c⁻¹*c=a:=by rw [Rat.mul_assoc,Rat.inv_mul_cancel _ h,Rat.mul_one]
end Go.Proofs.Tryz.aX
