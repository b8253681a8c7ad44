import Derived.Test.YthpmdmkmfoaamaaGreatDoorC14
import Derived.Test.YthpmdmkmfoaamaaGreatDoorC7
import Derived.Test.YthpmdmkmfoaamaaGreatDoorC13
import Derived.Test.YthpmdmkmfoaamaaGreatDoorC5
import Derived.Test.YthpmdmkmfoaamaaGreatDoorC10
set_option linter.unusedVariables false
open Go.IntKind (i64 u64 u32)
namespace Go.Proofs.Tryz
open Go.bK Go.fI
theorem iJ {V:View}{v:Value}{q:Rat}(h:RQ V v q){k:Nat}(_s:Sz k q)(_hk:k<=1099511627776):ab prog 61 #[v] V fun r V'=>RQ V' r (-q):=by
 obtain ⟨p,n,c,p',n',c',rfl,h1,h2⟩:=h
 exact mY q h1 h2
theorem a_ {V:View}{z:Int}{p:OA}{n c:Nat}(h:RD V p n c (ai z.natAbs)){k:Nat}(_s:Sz k (z:Rat))(_hk:k<=1099511627776) :
  ab prog 97 #[.agg #[.bool (decide (z<0)),.slice p n c]] V fun r V'=>RQ V' r (z:Rat):=Ex z h
theorem gv {V:View}{l:Value}{aK l_1 bX:Int}(hl:RL V l aK l_1 bX){k:Nat}(bF:Sz k ((aK:Int):Rat))(bH:Sz k ((l_1:Int):Rat))(bI:Sz k ((bX:Int):Rat))(hk:1*k+1<274877906944) :
  ab prog 56 #[l] V fun r V'=>RP V' r (((l_1:Int):Rat)) (-(((aK:Int):Rat))):=by
 have hl0:=hl
 obtain ⟨l0,l1,l2,l3,l4,l5,l6,l7,l8,rfl,ux,uy,zb⟩:=hl
 refine Aa _ l0 l1 l2 _ l3 l4 l5 _ l6 l7 l8 V _ fun V1 l1=>(a_ (uy.le (l1)) bH (by omega)).mono ?_
 rintro r V2 l2 g1
 have g10:=g1
 obtain ⟨JW,JX,JY,UY,UZ,U0,rfl⟩:=g1.shape
 have bz:Sz (1*k+0) (((l_1:Int):Rat)):=Sz.mono (bH) (by omega)
 refine ⟨_,_,_,_,_,_,_,rfl,fun V3 l3=>(a_ (ux.le (l1.trans (l2.trans (l3)))) bF (by omega)).mono ?_⟩
 rintro r V4 l4 g2
 have g20:=g2
 obtain ⟨JZ,J0,J1,S0,S1,S2,rfl⟩:=g2.shape
 have bO:Sz (1*k+0) (((aK:Int):Rat)):=Sz.mono (bF) (by omega)
 refine ⟨_,_,_,_,_,_,_,rfl,fun V5 l5=>(iJ (g20.le (l5)) bO (by omega)).mono ?_⟩
 rintro r V6 l6 g3
 have A2:=g3
 obtain ⟨LZ,L1,L4,S3,S4,S5,rfl⟩:=g3.shape
 have dB:Sz (1*k+0) (-(((aK:Int):Rat))):=Sz.mono (Sz.neg bO) (by omega)
 exact ⟨_,_,_,_,_,_,_,rfl,fun V7 l7=>⟨_,_,_,_,_,_,_,_,_,_,_,_,rfl,(g10.le (l3.trans (l4.trans (l5.trans (l6.trans (l7)))))),(A2.le (l7))⟩⟩
theorem gj {aK:Int}{l_1:Int}{bX:Int}{k:Nat}(bF:Sz k ((aK:Int):Rat))(bH:Sz k ((l_1:Int):Rat))(bI:Sz k ((bX:Int):Rat)):Sz (1*k+0) (((l_1:Int):Rat)):=by
 have bz:Sz (1*k+0) (((l_1:Int):Rat)):=Sz.mono (bH) (by omega)
 have bO:Sz (1*k+0) (((aK:Int):Rat)):=Sz.mono (bF) (by omega)
 have dB:Sz (1*k+0) (-(((aK:Int):Rat))):=Sz.mono (Sz.neg bO) (by omega)
 exact Sz.mono bz (by omega)
theorem gk {aK:Int}{l_1:Int}{bX:Int}{k:Nat}(bF:Sz k ((aK:Int):Rat))(bH:Sz k ((l_1:Int):Rat))(bI:Sz k ((bX:Int):Rat)):Sz (1*k+0) (-(((aK:Int):Rat))):=by
 have bz:Sz (1*k+0) (((l_1:Int):Rat)):=Sz.mono (bH) (by omega)
 have bO:Sz (1*k+0) (((aK:Int):Rat)):=Sz.mono (bF) (by omega)
 have dB:Sz (1*k+0) (-(((aK:Int):Rat))):=Sz.mono (Sz.neg bO) (by omega)
 exact Sz.mono dB (by omega)
theorem AH {V:View}{p:Value}{cL cK:Rat}{q:Value}{jz jA:Rat}(hp:RP V p cL cK)(hq:RP V q jz jA){k:Nat}(dq:Sz k cL)(cX:Sz k cK)(jV:Sz k jz)(jW:Sz k jA)(hk:4*k+3<274877906944) :
  ab prog 117 #[p,q] V fun r V'=>RQ V' r (((cL)*(jz))+((cK)*(jA))):=by
 have hp0:=hp
 obtain ⟨p0,p1,p2,p3,p4,p5,p6,p7,p8,p9,HG,K6,rfl,pG,pH⟩:=hp
 have hq0:=hq
 obtain ⟨q0,q1,q2,q3,q4,q5,q6,q7,q8,q9,K7,Xb,rfl,CQ,CR⟩:=hq
 refine Ab _ p0 p1 p2 p3 p4 p5 _ p6 p7 p8 p9 HG K6 _ q0 q1 q2 q3 q4 q5 _ q6 q7 q8 q9 K7 Xb V _ fun V1 l1=>(aO (pG.le (l1)) (CQ.le (l1)) dq jV (by omega)).mono ?_
 rintro r V2 l2 g1
 have g10:=g1
 obtain ⟨JW,JX,JY,UY,UZ,U0,rfl⟩:=g1.shape
 have bz:Sz (2*k+1) ((cL)*(jz)):=Sz.mono (Sz.mul dq jV) (by omega)
 refine ⟨_,_,_,_,_,_,_,rfl,fun V3 l3=>(aO (pH.le (l1.trans (l2.trans (l3)))) (CR.le (l1.trans (l2.trans (l3)))) cX jW (by omega)).mono ?_⟩
 rintro r V4 l4 g2
 have g20:=g2
 obtain ⟨JZ,J0,J1,S0,S1,S2,rfl⟩:=g2.shape
 have bO:Sz (2*k+1) ((cK)*(jA)):=Sz.mono (Sz.mul cX jW) (by omega)
 refine ⟨_,_,_,_,_,_,_,rfl,fun V5 l5=>(eF (g10.le (l3.trans (l4.trans (l5)))) (g20.le (l5)) bz bO (by omega)).mono ?_⟩
 rintro r V6 l6 g3
 have A2:=g3
 obtain ⟨LZ,L1,L4,S3,S4,S5,rfl⟩:=g3.shape
 have dB:Sz (4*k+3) (((cL)*(jz))+((cK)*(jA))):=Sz.mono (Sz.add bz bO) (by omega)
 exact ⟨_,_,_,_,_,_,_,rfl,fun V7 l7=>(A2.le (l7))⟩
theorem j_ {cL:Rat}{cK:Rat}{jz:Rat}{jA:Rat}{k:Nat}(dq:Sz k cL)(cX:Sz k cK)(jV:Sz k jz)(jW:Sz k jA):Sz (4*k+3) (((cL)*(jz))+((cK)*(jA))):=by
 have bz:Sz (2*k+1) ((cL)*(jz)):=Sz.mono (Sz.mul dq jV) (by omega)
 have bO:Sz (2*k+1) ((cK)*(jA)):=Sz.mono (Sz.mul cX jW) (by omega)
 have dB:Sz (4*k+3) (((cL)*(jz))+((cK)*(jA))):=Sz.mono (Sz.add bz bO) (by omega)
 exact Sz.mono dB (by omega)
theorem wh {V:View}{l:Value}{aK l_1 bX:Int}{p:Value}{cL cK:Rat}(hl:RL V l aK l_1 bX)(hp:RP V p cL cK){k:Nat}(bF:Sz k ((aK:Int):Rat))(bH:Sz k ((l_1:Int):Rat))(bI:Sz k ((bX:Int):Rat))(dq:Sz k cL)(cX:Sz k cK)(hk:5*k+4<274877906944) :
  ab prog 66 #[l,p] V fun r V'=>RQ V' r ((((((aK:Int):Rat))*(cL))+((((l_1:Int):Rat))*(cK)))+(((bX:Int):Rat))):=by
 have hl0:=hl
 obtain ⟨l0,l1,l2,l3,l4,l5,l6,l7,l8,rfl,ux,uy,zb⟩:=hl
 have hp0:=hp
 obtain ⟨p0,p1,p2,p3,p4,p5,p6,p7,p8,p9,HG,K6,rfl,pG,pH⟩:=hp
 refine vL _ l0 l1 l2 _ l3 l4 l5 _ l6 l7 l8 _ p0 p1 p2 p3 p4 p5 _ p6 p7 p8 p9 HG K6 V _ fun V1 l1=>(a_ (ux.le (l1)) bF (by omega)).mono ?_
 rintro r V2 l2 g1
 have g10:=g1
 obtain ⟨JW,JX,JY,UY,UZ,U0,rfl⟩:=g1.shape
 have bz:Sz (1*k+0) (((aK:Int):Rat)):=Sz.mono (bF) (by omega)
 refine ⟨_,_,_,_,_,_,_,rfl,fun V3 l3=>(aO (g10.le (l3)) (pG.le (l1.trans (l2.trans (l3)))) bz dq (by omega)).mono ?_⟩
 rintro r V4 l4 g2
 have g20:=g2
 obtain ⟨JZ,J0,J1,S0,S1,S2,rfl⟩:=g2.shape
 have bO:Sz (2*k+1) ((((aK:Int):Rat))*(cL)):=Sz.mono (Sz.mul bz dq) (by omega)
 refine ⟨_,_,_,_,_,_,_,rfl,fun V5 l5=>(a_ (uy.le (l1.trans (l2.trans (l3.trans (l4.trans (l5)))))) bH (by omega)).mono ?_⟩
 rintro r V6 l6 g3
 have A2:=g3
 obtain ⟨LZ,L1,L4,S3,S4,S5,rfl⟩:=g3.shape
 have dB:Sz (1*k+0) (((l_1:Int):Rat)):=Sz.mono (bH) (by omega)
 refine ⟨_,_,_,_,_,_,_,rfl,fun V7 l7=>(aO (A2.le (l7)) (pH.le (l1.trans (l2.trans (l3.trans (l4.trans (l5.trans (l6.trans (l7)))))))) dB cX (by omega)).mono ?_⟩
 rintro r V8 l8 g4
 have Qj:=g4
 obtain ⟨XP,XQ,XR,XS,XT,XU,rfl⟩:=g4.shape
 have lV:Sz (2*k+1) ((((l_1:Int):Rat))*(cK)):=Sz.mono (Sz.mul dB cX) (by omega)
 refine ⟨_,_,_,_,_,_,_,rfl,fun V9 l9=>(eF (g20.le (l5.trans (l6.trans (l7.trans (l8.trans (l9)))))) (Qj.le (l9)) bO lV (by omega)).mono ?_⟩
 rintro r gT l10 g5
 have Pa:=g5
 obtain ⟨XV,XW,XX,XY,XZ,X0,rfl⟩:=g5.shape
 have nJ:Sz (4*k+3) (((((aK:Int):Rat))*(cL))+((((l_1:Int):Rat))*(cK))):=Sz.mono (Sz.add bO lV) (by omega)
 refine ⟨_,_,_,_,_,_,_,rfl,fun gZ bJ=>(a_ (zb.le (l1.trans (l2.trans (l3.trans (l4.trans (l5.trans (l6.trans (l7.trans (l8.trans (l9.trans (l10.trans (bJ)))))))))))) bI (by omega)).mono ?_⟩
 rintro r lQ cw g6
 have Qk:=g6
 obtain ⟨X1,X2,X4,X5,X6,X9,rfl⟩:=g6.shape
 have Ai:Sz (1*k+0) (((bX:Int):Rat)):=Sz.mono (bI) (by omega)
 refine ⟨_,_,_,_,_,_,_,rfl,fun lD bU=>(eF (Pa.le (bJ.trans (cw.trans (bU)))) (Qk.le (bU)) nJ Ai (by omega)).mono ?_⟩
 rintro r o_ dL g7
 have Ql:=g7
 obtain ⟨X_,Ya,Yb,Yc,Yd,Ye,rfl⟩:=g7.shape
 have Jh:Sz (5*k+4) ((((((aK:Int):Rat))*(cL))+((((l_1:Int):Rat))*(cK)))+(((bX:Int):Rat))):=Sz.mono (Sz.add nJ Ai) (by omega)
 exact ⟨_,_,_,_,_,_,_,rfl,fun nD du=>(Ql.le (du))⟩
theorem yT {V:View}{l:Value}{aK l_1 bX:Int}(hl:RL V l aK l_1 bX)(hd0:((((((l_1:Int):Rat)))*((((l_1:Int):Rat))))+(((-(((aK:Int):Rat))))*((-(((aK:Int):Rat)))))).num≠0){k:Nat}(bF:Sz k ((aK:Int):Rat))(bH:Sz k ((l_1:Int):Rat))(bI:Sz k ((bX:Int):Rat))(hk:6*k+5<274877906944) :
  ab prog 72 #[l] V fun r V'=>RP V' r ((-((((bX:Int):Rat))*((((((l_1:Int):Rat)))*((((l_1:Int):Rat))))+(((-(((aK:Int):Rat))))*((-(((aK:Int):Rat))))))⁻¹))*(((aK:Int):Rat))) ((-((((bX:Int):Rat))*((((((l_1:Int):Rat)))*((((l_1:Int):Rat))))+(((-(((aK:Int):Rat))))*((-(((aK:Int):Rat))))))⁻¹))*(((l_1:Int):Rat))):=by
 have hl0:=hl
 obtain ⟨l0,l1,l2,l3,l4,l5,l6,l7,l8,rfl,ux,uy,zb⟩:=hl
 refine xd _ l0 l1 l2 _ l3 l4 l5 _ l6 l7 l8 V _ fun V1 l1=>(gv (hl0.le (l1)) (Sz.mono bF (by omega):Sz (1*k+0) _) (Sz.mono bH (by omega):Sz (1*k+0) _) (Sz.mono bI (by omega):Sz (1*k+0) _) (by omega)).mono ?_
 rintro r V2 l2 g1
 have g10:=g1
 obtain ⟨Oz,OB,OE,OG,OH,OJ,SU,SW,SX,SY,OC,OD,rfl,MH,MI⟩:=g1
 have bz:Sz (1*k+0) (((l_1:Int):Rat)):=Sz.mono ((gj (Sz.mono bF (by omega):Sz (1*k+0) _) (Sz.mono bH (by omega):Sz (1*k+0) _) (Sz.mono bI (by omega):Sz (1*k+0) _))) (by omega)
 have dS:Sz (1*k+0) (-(((aK:Int):Rat))):=Sz.mono ((gk (Sz.mono bF (by omega):Sz (1*k+0) _) (Sz.mono bH (by omega):Sz (1*k+0) _) (Sz.mono bI (by omega):Sz (1*k+0) _))) (by omega)
 refine ⟨_,_,_,_,_,_,_,_,_,_,_,_,_,_,rfl,fun V3 l3=>(a_ (zb.le (l1.trans (l2.trans (l3)))) bI (by omega)).mono ?_⟩
 rintro r V4 l4 g2
 have g20:=g2
 obtain ⟨JZ,J0,J1,S0,S1,S2,rfl⟩:=g2.shape
 have bO:Sz (1*k+0) (((bX:Int):Rat)):=Sz.mono (bI) (by omega)
 refine ⟨_,_,_,_,_,_,_,rfl,fun V5 l5=>(AH (g10.le (l3.trans (l4.trans (l5)))) (g10.le (l3.trans (l4.trans (l5)))) (Sz.mono bz (by omega):Sz (1*k+0) _) (Sz.mono dS (by omega):Sz (1*k+0) _) (Sz.mono bz (by omega):Sz (1*k+0) _) (Sz.mono dS (by omega):Sz (1*k+0) _) (by omega)).mono ?_⟩
 rintro r V6 l6 g3
 have A2:=g3
 obtain ⟨LZ,L1,L4,S3,S4,S5,rfl⟩:=g3.shape
 have dB:Sz (4*k+3) ((((((l_1:Int):Rat)))*((((l_1:Int):Rat))))+(((-(((aK:Int):Rat))))*((-(((aK:Int):Rat)))))):=Sz.mono ((j_ (Sz.mono bz (by omega):Sz (1*k+0) _) (Sz.mono dS (by omega):Sz (1*k+0) _) (Sz.mono bz (by omega):Sz (1*k+0) _) (Sz.mono dS (by omega):Sz (1*k+0) _))) (by omega)
 refine ⟨_,_,_,_,_,_,_,rfl,fun V7 l7=>(oh (g20.le (l5.trans (l6.trans (l7)))) (A2.le (l7)) hd0 bO dB (by omega)).mono ?_⟩
 rintro r V8 l8 g4
 have Qj:=g4
 obtain ⟨XP,XQ,XR,XS,XT,XU,rfl⟩:=g4.shape
 have lV:Sz (5*k+4) ((((bX:Int):Rat))*((((((l_1:Int):Rat)))*((((l_1:Int):Rat))))+(((-(((aK:Int):Rat))))*((-(((aK:Int):Rat))))))⁻¹):=Sz.mono (Sz.mul bO (iV dB)) (by omega)
 refine ⟨_,_,_,_,_,_,_,rfl,fun V9 l9=>(iJ (Qj.le (l9)) lV (by omega)).mono ?_⟩
 rintro r gT l10 g5
 have Pa:=g5
 obtain ⟨XV,XW,XX,XY,XZ,X0,rfl⟩:=g5.shape
 have nJ:Sz (5*k+4) (-((((bX:Int):Rat))*((((((l_1:Int):Rat)))*((((l_1:Int):Rat))))+(((-(((aK:Int):Rat))))*((-(((aK:Int):Rat))))))⁻¹)):=Sz.mono (Sz.neg lV) (by omega)
 refine ⟨_,_,_,_,_,_,_,rfl,fun gZ bJ=>(a_ (ux.le (l1.trans (l2.trans (l3.trans (l4.trans (l5.trans (l6.trans (l7.trans (l8.trans (l9.trans (l10.trans (bJ)))))))))))) bF (by omega)).mono ?_⟩
 rintro r lQ cw g6
 have Qk:=g6
 obtain ⟨X1,X2,X4,X5,X6,X9,rfl⟩:=g6.shape
 have Ai:Sz (1*k+0) (((aK:Int):Rat)):=Sz.mono (bF) (by omega)
 refine ⟨_,_,_,_,_,_,_,rfl,fun lD bU=>(aO (Pa.le (bJ.trans (cw.trans (bU)))) (Qk.le (bU)) nJ Ai (by omega)).mono ?_⟩
 rintro r o_ dL g7
 have Ql:=g7
 obtain ⟨X_,Ya,Yb,Yc,Yd,Ye,rfl⟩:=g7.shape
 have Jh:Sz (6*k+5) ((-((((bX:Int):Rat))*((((((l_1:Int):Rat)))*((((l_1:Int):Rat))))+(((-(((aK:Int):Rat))))*((-(((aK:Int):Rat))))))⁻¹))*(((aK:Int):Rat))):=Sz.mono (Sz.mul nJ Ai) (by omega)
 refine ⟨_,_,_,_,_,_,_,rfl,fun nD du=>(a_ (uy.le (l1.trans (l2.trans (l3.trans (l4.trans (l5.trans (l6.trans (l7.trans (l8.trans (l9.trans (l10.trans (bJ.trans (cw.trans (bU.trans (dL.trans (du)))))))))))))))) bH (by omega)).mono ?_⟩
 rintro r mT dp g8
 have VZ:=g8
 obtain ⟨YZ,Y0,Y1,Y2,Y3,Y4,rfl⟩:=g8.shape
 have Fe:Sz (1*k+0) (((l_1:Int):Rat)):=Sz.mono (bH) (by omega)
 refine ⟨_,_,_,_,_,_,_,rfl,fun nK cR=>(aO (Pa.le (bJ.trans (cw.trans (bU.trans (dL.trans (du.trans (dp.trans (cR)))))))) (VZ.le (cR)) nJ Fe (by omega)).mono ?_⟩
 rintro r qz dW g9
 have V_:=g9
 obtain ⟨Y5,Y6,Y7,Y8,Y9,Y_,rfl⟩:=g9.shape
 have LB:Sz (6*k+5) ((-((((bX:Int):Rat))*((((((l_1:Int):Rat)))*((((l_1:Int):Rat))))+(((-(((aK:Int):Rat))))*((-(((aK:Int):Rat))))))⁻¹))*(((l_1:Int):Rat))):=Sz.mono (Sz.mul nJ Fe) (by omega)
 exact ⟨_,_,_,_,_,_,_,rfl,fun tC ea=>⟨_,_,_,_,_,_,_,_,_,_,_,_,rfl,(Ql.le (du.trans (dp.trans (cR.trans (dW.trans (ea)))))),(V_.le (ea))⟩⟩
theorem vQ {aK:Int}{l_1:Int}{bX:Int}{k:Nat}(bF:Sz k ((aK:Int):Rat))(bH:Sz k ((l_1:Int):Rat))(bI:Sz k ((bX:Int):Rat)):Sz (6*k+5) ((-((((bX:Int):Rat))*((((((l_1:Int):Rat)))*((((l_1:Int):Rat))))+(((-(((aK:Int):Rat))))*((-(((aK:Int):Rat))))))⁻¹))*(((aK:Int):Rat))):=by
 have bz:Sz (1*k+0) (((l_1:Int):Rat)):=Sz.mono ((gj (Sz.mono bF (by omega):Sz (1*k+0) _) (Sz.mono bH (by omega):Sz (1*k+0) _) (Sz.mono bI (by omega):Sz (1*k+0) _))) (by omega)
 have dS:Sz (1*k+0) (-(((aK:Int):Rat))):=Sz.mono ((gk (Sz.mono bF (by omega):Sz (1*k+0) _) (Sz.mono bH (by omega):Sz (1*k+0) _) (Sz.mono bI (by omega):Sz (1*k+0) _))) (by omega)
 have bO:Sz (1*k+0) (((bX:Int):Rat)):=Sz.mono (bI) (by omega)
 have dB:Sz (4*k+3) ((((((l_1:Int):Rat)))*((((l_1:Int):Rat))))+(((-(((aK:Int):Rat))))*((-(((aK:Int):Rat)))))):=Sz.mono ((j_ (Sz.mono bz (by omega):Sz (1*k+0) _) (Sz.mono dS (by omega):Sz (1*k+0) _) (Sz.mono bz (by omega):Sz (1*k+0) _) (Sz.mono dS (by omega):Sz (1*k+0) _))) (by omega)
 have lV:Sz (5*k+4) ((((bX:Int):Rat))*((((((l_1:Int):Rat)))*((((l_1:Int):Rat))))+(((-(((aK:Int):Rat))))*((-(((aK:Int):Rat))))))⁻¹):=Sz.mono (Sz.mul bO (iV dB)) (by omega)
 have nJ:Sz (5*k+4) (-((((bX:Int):Rat))*((((((l_1:Int):Rat)))*((((l_1:Int):Rat))))+(((-(((aK:Int):Rat))))*((-(((aK:Int):Rat))))))⁻¹)):=Sz.mono (Sz.neg lV) (by omega)
 have Ai:Sz (1*k+0) (((aK:Int):Rat)):=Sz.mono (bF) (by omega)
 have Jh:Sz (6*k+5) ((-((((bX:Int):Rat))*((((((l_1:Int):Rat)))*((((l_1:Int):Rat))))+(((-(((aK:Int):Rat))))*((-(((aK:Int):Rat))))))⁻¹))*(((aK:Int):Rat))):=Sz.mono (Sz.mul nJ Ai) (by omega)
 have Fe:Sz (1*k+0) (((l_1:Int):Rat)):=Sz.mono (bH) (by omega)
 have LB:Sz (6*k+5) ((-((((bX:Int):Rat))*((((((l_1:Int):Rat)))*((((l_1:Int):Rat))))+(((-(((aK:Int):Rat))))*((-(((aK:Int):Rat))))))⁻¹))*(((l_1:Int):Rat))):=Sz.mono (Sz.mul nJ Fe) (by omega)
 exact Sz.mono Jh (by omega)
theorem vR {aK:Int}{l_1:Int}{bX:Int}{k:Nat}(bF:Sz k ((aK:Int):Rat))(bH:Sz k ((l_1:Int):Rat))(bI:Sz k ((bX:Int):Rat)):Sz (6*k+5) ((-((((bX:Int):Rat))*((((((l_1:Int):Rat)))*((((l_1:Int):Rat))))+(((-(((aK:Int):Rat))))*((-(((aK:Int):Rat))))))⁻¹))*(((l_1:Int):Rat))):=by
 have bz:Sz (1*k+0) (((l_1:Int):Rat)):=Sz.mono ((gj (Sz.mono bF (by omega):Sz (1*k+0) _) (Sz.mono bH (by omega):Sz (1*k+0) _) (Sz.mono bI (by omega):Sz (1*k+0) _))) (by omega)
 have dS:Sz (1*k+0) (-(((aK:Int):Rat))):=Sz.mono ((gk (Sz.mono bF (by omega):Sz (1*k+0) _) (Sz.mono bH (by omega):Sz (1*k+0) _) (Sz.mono bI (by omega):Sz (1*k+0) _))) (by omega)
 have bO:Sz (1*k+0) (((bX:Int):Rat)):=Sz.mono (bI) (by omega)
 have dB:Sz (4*k+3) ((((((l_1:Int):Rat)))*((((l_1:Int):Rat))))+(((-(((aK:Int):Rat))))*((-(((aK:Int):Rat)))))):=Sz.mono ((j_ (Sz.mono bz (by omega):Sz (1*k+0) _) (Sz.mono dS (by omega):Sz (1*k+0) _) (Sz.mono bz (by omega):Sz (1*k+0) _) (Sz.mono dS (by omega):Sz (1*k+0) _))) (by omega)
 have lV:Sz (5*k+4) ((((bX:Int):Rat))*((((((l_1:Int):Rat)))*((((l_1:Int):Rat))))+(((-(((aK:Int):Rat))))*((-(((aK:Int):Rat))))))⁻¹):=Sz.mono (Sz.mul bO (iV dB)) (by omega)
 have nJ:Sz (5*k+4) (-((((bX:Int):Rat))*((((((l_1:Int):Rat)))*((((l_1:Int):Rat))))+(((-(((aK:Int):Rat))))*((-(((aK:Int):Rat))))))⁻¹)):=Sz.mono (Sz.neg lV) (by omega)
 have Ai:Sz (1*k+0) (((aK:Int):Rat)):=Sz.mono (bF) (by omega)
 have Jh:Sz (6*k+5) ((-((((bX:Int):Rat))*((((((l_1:Int):Rat)))*((((l_1:Int):Rat))))+(((-(((aK:Int):Rat))))*((-(((aK:Int):Rat))))))⁻¹))*(((aK:Int):Rat))):=Sz.mono (Sz.mul nJ Ai) (by omega)
 have Fe:Sz (1*k+0) (((l_1:Int):Rat)):=Sz.mono (bH) (by omega)
 have LB:Sz (6*k+5) ((-((((bX:Int):Rat))*((((((l_1:Int):Rat)))*((((l_1:Int):Rat))))+(((-(((aK:Int):Rat))))*((-(((aK:Int):Rat))))))⁻¹))*(((l_1:Int):Rat))):=Sz.mono (Sz.mul nJ Fe) (by omega)
 exact Sz.mono LB (by omega)
theorem CB {V:View}{l:Value}{aK l_1 bX:Int}{t:Value}{yu:Rat}(hl:RL V l aK l_1 bX)(ht:RQ V t yu)(hd0:((((((l_1:Int):Rat)))*((((l_1:Int):Rat))))+(((-(((aK:Int):Rat))))*((-(((aK:Int):Rat)))))).num≠0){k:Nat}(bF:Sz k ((aK:Int):Rat))(bH:Sz k ((l_1:Int):Rat))(bI:Sz k ((bX:Int):Rat))(zL:Sz k yu)(hk:18*k+16<274877906944) :
  ab prog 23 #[l,t] V fun r V'=>RP V' r (((-((((bX:Int):Rat))*((((((l_1:Int):Rat)))*((((l_1:Int):Rat))))+(((-(((aK:Int):Rat))))*((-(((aK:Int):Rat))))))⁻¹))*(((aK:Int):Rat)))+(yu)*(((l_1:Int):Rat))) (((-((((bX:Int):Rat))*((((((l_1:Int):Rat)))*((((l_1:Int):Rat))))+(((-(((aK:Int):Rat))))*((-(((aK:Int):Rat))))))⁻¹))*(((l_1:Int):Rat)))+(yu)*(-(((aK:Int):Rat)))):=by
 have hl0:=hl
 obtain ⟨l0,l1,l2,l3,l4,l5,l6,l7,l8,rfl,ux,uy,zb⟩:=hl
 have ht0:=ht
 obtain ⟨t0,t1,t2,t3,t4,t5,rfl⟩:=ht.shape
 refine Cg _ l0 l1 l2 _ l3 l4 l5 _ l6 l7 l8 _ t0 t1 t2 t3 t4 t5 V _ fun V1 l1=>(yT (hl0.le (l1)) hd0 (Sz.mono bF (by omega):Sz (1*k+0) _) (Sz.mono bH (by omega):Sz (1*k+0) _) (Sz.mono bI (by omega):Sz (1*k+0) _) (by omega)).mono ?_
 rintro r V2 l2 g1
 have g10:=g1
 obtain ⟨Oz,OB,OE,OG,OH,OJ,SU,SW,SX,SY,OC,OD,rfl,MH,MI⟩:=g1
 have bz:Sz (6*k+5) ((-((((bX:Int):Rat))*((((((l_1:Int):Rat)))*((((l_1:Int):Rat))))+(((-(((aK:Int):Rat))))*((-(((aK:Int):Rat))))))⁻¹))*(((aK:Int):Rat))):=Sz.mono ((vQ (Sz.mono bF (by omega):Sz (1*k+0) _) (Sz.mono bH (by omega):Sz (1*k+0) _) (Sz.mono bI (by omega):Sz (1*k+0) _))) (by omega)
 have dS:Sz (6*k+5) ((-((((bX:Int):Rat))*((((((l_1:Int):Rat)))*((((l_1:Int):Rat))))+(((-(((aK:Int):Rat))))*((-(((aK:Int):Rat))))))⁻¹))*(((l_1:Int):Rat))):=Sz.mono ((vR (Sz.mono bF (by omega):Sz (1*k+0) _) (Sz.mono bH (by omega):Sz (1*k+0) _) (Sz.mono bI (by omega):Sz (1*k+0) _))) (by omega)
 refine ⟨_,_,_,_,_,_,_,_,_,_,_,_,_,_,rfl,fun V3 l3=>(gv (hl0.le (l1.trans (l2.trans (l3)))) (Sz.mono bF (by omega):Sz (1*k+0) _) (Sz.mono bH (by omega):Sz (1*k+0) _) (Sz.mono bI (by omega):Sz (1*k+0) _) (by omega)).mono ?_⟩
 rintro r V4 l4 g2
 have g20:=g2
 obtain ⟨Xv,Xw,Xx,Xy,Xz,XA,XB,XC,XD,XE,U1,U2,rfl,VX,VY⟩:=g2
 have bO:Sz (1*k+0) (((l_1:Int):Rat)):=Sz.mono ((gj (Sz.mono bF (by omega):Sz (1*k+0) _) (Sz.mono bH (by omega):Sz (1*k+0) _) (Sz.mono bI (by omega):Sz (1*k+0) _))) (by omega)
 have Ci:Sz (1*k+0) (-(((aK:Int):Rat))):=Sz.mono ((gk (Sz.mono bF (by omega):Sz (1*k+0) _) (Sz.mono bH (by omega):Sz (1*k+0) _) (Sz.mono bI (by omega):Sz (1*k+0) _))) (by omega)
 refine ⟨_,_,_,_,_,_,_,_,_,_,_,_,_,_,rfl,fun V5 l5=>(jm (g10.le (l3.trans (l4.trans (l5)))) (ht0.le (l1.trans (l2.trans (l3.trans (l4.trans (l5)))))) (g20.le (l5)) (Sz.mono bz (by omega):Sz (6*k+5) _) (Sz.mono dS (by omega):Sz (6*k+5) _) (Sz.mono zL (by omega):Sz (6*k+5) _) (Sz.mono bO (by omega):Sz (6*k+5) _) (Sz.mono Ci (by omega):Sz (6*k+5) _) (by omega)).mono ?_⟩
 rintro r V6 l6 g3
 have A2:=g3
 obtain ⟨XF,XG,XH,XI,XJ,XK,XL,XM,XN,XO,U3,U4,rfl,Qh,Qi⟩:=g3
 have dB:Sz (18*k+17) (((-((((bX:Int):Rat))*((((((l_1:Int):Rat)))*((((l_1:Int):Rat))))+(((-(((aK:Int):Rat))))*((-(((aK:Int):Rat))))))⁻¹))*(((aK:Int):Rat)))+(yu)*(((l_1:Int):Rat))):=Sz.mono (Sz.add (Sz.mono bz (by omega):Sz (6*k+5) _) (Sz.mul (Sz.mono zL (by omega):Sz (6*k+5) _) (Sz.mono bO (by omega):Sz (6*k+5) _))) (by omega)
 have Fc:Sz (18*k+17) (((-((((bX:Int):Rat))*((((((l_1:Int):Rat)))*((((l_1:Int):Rat))))+(((-(((aK:Int):Rat))))*((-(((aK:Int):Rat))))))⁻¹))*(((l_1:Int):Rat)))+(yu)*(-(((aK:Int):Rat)))):=Sz.mono (Sz.add (Sz.mono dS (by omega):Sz (6*k+5) _) (Sz.mul (Sz.mono zL (by omega):Sz (6*k+5) _) (Sz.mono Ci (by omega):Sz (6*k+5) _))) (by omega)
 exact ⟨_,_,_,_,_,_,_,_,_,_,_,_,_,_,rfl,fun V7 l7=>⟨_,_,_,_,_,_,_,_,_,_,_,_,rfl,(Qh.le (l7)),(Qi.le (l7))⟩⟩
theorem RA.shape {V:View}{v:Value}{q:Rat}(h:RA V v q):∃b p n c p' n' c',v=.agg #[.bool b,.slice p n c,.slice p' n' c']:=by
 obtain ⟨p,n,c,p',n',c',e,-⟩:=h;exact ⟨_,_,_,_,_,_,_,e⟩
def J6 (V:View)(v:Value)(x y:Rat):Prop:=∃b p n c p' n' c' d q m e q' m' e',v=.agg #[.bool b,.slice p n c,.slice p' n' c',.bool d,.slice q m e,.slice q' m' e'] /\
 RA V (.agg #[.bool b,.slice p n c,.slice p' n' c']) x/\RA V (.agg #[.bool d,.slice q m e,.slice q' m' e']) y
theorem J6.le {V V':View}{v:Value}{x y:Rat}(h:J6 V v x y)(l:V.Le V'):J6 V' v x y:=by
 obtain ⟨b,p,n,c,p',n',c',d,q,m,e,q',m',e',rfl,h1,h2⟩:=h
 exact ⟨_,_,_,_,_,_,_,_,_,_,_,_,_,_,rfl,h1.le l,h2.le l⟩
theorem Cv {V:View}{v:Value}{x y:Rat}(h:J6 V v x y){k:Nat}(s1:Sz k x)(s2:Sz k y)(hk:k<=1099511627776) :
  ab prog 47 #[v] V fun r V'=>lO V' r x y:=by
 obtain ⟨b,p,n,c,p',n',c',d,q,m,e,q',m',e',rfl,h1,h2⟩:=h
 refine rY b p n c p' n' c' d q m e q' m' e' V _ fun V1 l1=>(xG (h1.le l1) s1 hk).mono ?_
 rintro r V2 l2 g1
 have g10:=g1
 obtain ⟨u,v,w,rfl⟩:=g1.shape
 refine ⟨_,_,_,rfl,fun V3 l3=>(xG (h2.le (l1.trans (l2.trans l3))) s2 hk).mono ?_⟩
 rintro r V4 l4 g2
 have g20:=g2
 obtain ⟨u,v,w,rfl⟩:=g2.shape
 exact ⟨_,_,_,rfl,fun V5 l5=>⟨_,_,_,_,_,_,rfl,g10.le (l3.trans (l4.trans l5)),g20.le l5⟩⟩
theorem vY {V:View}{l p:Value}{aK l_1 bX cL cK:Rat}(hl:Cj V l aK l_1 bX)(hp:lO V p cL cK){k:Nat}(s0:Sz k aK)(s1:Sz k l_1)(s2:Sz k bX)(s3:Sz k cL)(s4:Sz k cK)(hk:16*k+16<274877906944) :
  ab prog 125 #[l,p] V fun r V'=>r=.int .i64 (aK*cL+l_1*cK+bX).num.sign:=by
 have hl0:=hl
 have hp0:=hp
 obtain ⟨a0,a1,a2,a3,a4,a5,a6,a7,a8,rfl,-,-,-⟩:=hl
 obtain ⟨p0,p1,p2,p3,p4,p5,rfl,-,-⟩:=hp
 refine vx a0 a1 a2 a3 a4 a5 a6 a7 a8 p0 p1 p2 p3 p4 p5 V _ fun V1 l1=>(tV (hl0.le l1) (hp0.le l1) s0 s1 s2 s3 s4 (by omega)).mono ?_
 rintro r V2 l2 g
 have g0:=g
 obtain ⟨u,v,w,rfl⟩:=g.shape
 refine ⟨_,_,_,rfl,fun V3 l3=>(fa (g0.le l3) (rv s0 s1 s2 s3 s4) (by omega)).mono ?_⟩
 rintro r V4 l4 rfl
 exact ⟨_,rfl,fun V5 l5=>rfl⟩
theorem rC {V:View}{v:Value}{q:Rat}(h:RQ V v q){k:Nat}(s:Sz k q)(hk:k<=1099511627776):ab prog 49 #[v] V fun r V'=>RA V' r q:=by
 obtain ⟨p,n,c,p',n',c',rfl,h1,h2⟩:=h
 have q1:=af s.1
 have q2:=af s.2
 refine zY _ p n c p' n' c' V _ fun V1 l1=>(jk ⟨_,_,_,rfl,h1.le l1⟩ (by omega)).mono ?_
 rintro r V2 l2 ⟨p1,n1,c1,rfl,g1⟩
 refine ⟨_,_,_,_,rfl,fun V3 l3=>(bZ q _ (h2.le (l1.trans (l2.trans l3)))).mono ?_⟩
 rintro r V4 l4 ⟨p2,n2,c2,rfl,g2⟩
 refine ⟨_,_,_,rfl,fun V5 l5=>(rB (g2.le l5) (by omega)).mono ?_⟩
 rintro r V6 l6 ⟨p3,n3,c3,rfl,g3⟩
 exact ⟨_,_,_,rfl,fun V7 l7=>⟨_,_,_,_,_,_,rfl,g1.le (l3.trans (l4.trans (l5.trans (l6.trans l7)))),g3.le l7⟩⟩
theorem jo {V:View}{v:Value}{x y:Rat}(h:RP V v x y){k:Nat}(s1:Sz k x)(s2:Sz k y)(hk:k<=1099511627776):ab prog 15 #[v] V fun r V'=>J6 V' r x y:=by
 obtain ⟨p1,n1,c1,p2,n2,c2,p3,n3,c3,p4,n4,c4,rfl,h1,h2⟩:=h
 refine Ag _ p1 n1 c1 p2 n2 c2 _ p3 n3 c3 p4 n4 c4 V _ fun V1 l1=>(rC (h1.le l1) s1 hk).mono ?_
 rintro r V2 l2 g1
 have g10:=g1
 obtain ⟨_,_,_,_,_,_,_,rfl⟩:=g1.shape
 refine ⟨_,_,_,_,_,_,_,rfl,fun V3 l3=>(rC (h2.le (l1.trans (l2.trans l3))) s2 hk).mono ?_⟩
 rintro r V4 l4 g2
 have g20:=g2
 obtain ⟨_,_,_,_,_,_,_,rfl⟩:=g2.shape
 exact ⟨_,_,_,_,_,_,_,rfl,fun V5 l5=>⟨_,_,_,_,_,_,_,_,_,_,_,_,_,_,rfl,g10.le (l3.trans (l4.trans l5)),g20.le l5⟩⟩
theorem rP (q:Rat)(m:Nat):q*(((q.den*m:Nat):Int):Rat)=((q.num*m:Int):Rat):=by
 have e:q*(((q.den:Nat):Int):Rat)=((q.num:Int):Rat):=by
  have h:=q.den_nz
  have h1:mkRat q.num q.den*mkRat ((q.den:Nat):Int) 1=mkRat q.num 1:=by
   rw [Rat.mkRat_mul_mkRat,Rat.mkRat_eq_iff (by simpa using h) (by omega)]
   simp
  rwa [Rat.mkRat_self,Rat.mkRat_one,Rat.mkRat_one] at h1
 rw [Int.natCast_mul,Rat.intCast_mul,←Rat.mul_assoc,e,←Rat.intCast_mul]
theorem tY {V:View}(n:Int)(d:Nat)(h0:-1000<=n)(h1:n<=1000)(hd0:d≠0)(hd:d<=1000) :
  ab prog 79 #[.int .i64 n,.int .i64 (d:Int)] V fun r V'=>RQ V' r (mkRat n d):=by
 refine B8 n d V _ fun V1 l1=>(xL n (by omega) (by omega)).mono ?_
 rintro r V2 l2 ⟨p,m,c,rfl,g⟩
 rw [aL (by omega)]
 refine ⟨_,_,_,_,rfl,fun V3 l3=>(cW d (by omega)).mono ?_⟩
 rintro r V4 l4 ⟨p2,m2,c2,rfl,g2⟩
 refine ⟨_,_,_,rfl,fun V5 l5=>(kP n (g.le (l3.trans (l4.trans l5))) (g2.le l5) (Nat.le_trans (af (k:=10) (by omega)) (by omega)) (Nat.le_trans (af (k:=10) (by omega)) (by omega)) hd0).mono ?_⟩
 rintro r V6 l6 h
 have h':=h
 obtain ⟨_,_,_,_,_,_,rfl⟩:=h.shape
 exact ⟨_,_,_,_,_,_,_,rfl,fun V7 l7=>h'.le l7⟩
theorem I9:∀x:Fin 9,Sz 10 (mkRat (2*((x.1:Int)-4)+1) 2)/\Sz 10 (mkRat (3*((x.1:Int)-4)+1) 3):=by unfold Sz;decide +kernel
theorem Qb {V:View}{tb:Nat}{p:OA}{n c:Nat}{at_:Int}(hr:Eg V p n)(hn:n<=400)(hw:lP V tb p n c at_)(hx:V.X tb)(h0:0<=at_) :
  ab prog 25 #[.pointer (some ⟨tb,0,none⟩)] V fun r V'=>∃(q:Rat)(at':Int),RQ V' r q/\Sz 10 q/\0<=at'/\lP V' tb p n c at':=by
 refine sP tb p n c at_ V _ hw hx fun V1 l1 bk1 e1 h1=>(jJ (V:=V1.au [bk1]) 9 (hr.le fun b o h=>l1 b o h) hn e1 ⟨by simp,h1⟩ h0 (by omega) (by omega)).mono ?_
 rintro r V2 l2 ⟨x,Fv,rfl,x0,x1,t1,hw1⟩
 refine ⟨_,rfl,_,_,_,_,hw1,fun V3 l3 Mr e3 h3=>(jJ (V:=V3.au [Mr]) 6 (hr.le fun b o h=>l3 b o (l2 b o (l1 b o h))) hn e3 ⟨by simp,h3⟩ t1 (by omega) (by omega)).mono ?_⟩
 rintro r V4 l4 ⟨y,at2,rfl,y0,y1,t2,hw2⟩
 obtain ⟨i,rfl⟩:∃i:Nat,x=i:=⟨x.toNat,by omega⟩
 obtain ⟨z1,z2⟩:=I9 ⟨i,by omega⟩
 dsimp only at z1 z2
 have w1:i64.wrap ((i:Int)-4)=(i:Int)-4:=ar (by omega)
 have w2:i64.wrap (i64.wrap (2*((i:Int)-4))+1)=2*((i:Int)-4)+1:=by rw [ar (x:=2*((i:Int)-4)) (by omega),ar (by omega)]
 have w3:i64.wrap (i64.wrap (3*((i:Int)-4))+1)=3*((i:Int)-4)+1:=by rw [ar (x:=3*((i:Int)-4)) (by omega),ar (by omega)]
 rw [w1,w2,w3]
 refine ⟨_,rfl,_,_,_,_,hw2,fun _ V5 l5=>(tY (2*((i:Int)-4)+1) 2 (by omega) (by omega) (by omega) (by omega)).mono ?_,fun _=>⟨fun _ V8 l8=>(tY (3*((i:Int)-4)+1) 3 (by omega) (by omega) (by omega) (by omega)).mono ?_,fun _ gZ bJ=>(ki ((i:Int)-4) (by omega) (by omega)).mono ?_⟩⟩
 ·rintro r V6 l6 h
  have h':=h
  obtain ⟨_,_,_,_,_,_,rfl⟩:=h.shape
  exact ⟨_,_,_,_,_,_,_,rfl,fun V7 l7 e7=>⟨_,at2,h'.le l7,z1,t2,e7⟩⟩
 ·rintro r V6 l6 h
  have h':=h
  obtain ⟨_,_,_,_,_,_,rfl⟩:=h.shape
  exact ⟨_,_,_,_,_,_,_,rfl,fun V7 l7 e7=>⟨_,at2,h'.le l7,z2,t2,e7⟩⟩
 ·rintro r V6 l6 h
  have h':=h
  obtain ⟨_,_,_,_,_,_,rfl⟩:=h.shape
  exact ⟨_,_,_,_,_,_,_,rfl,fun V7 l7 e7=>⟨_,at2,h'.le l7,q_ (by omega),t2,e7⟩⟩
theorem H3 {V:View}{tb:Nat}{p:OA}{n c:Nat}{at_:Int}(hr:Eg V p n)(hn:n<=400)(hw:lP V tb p n c at_)(hx:V.X tb)(h0:0<=at_) :
  ab prog 43 #[.pointer (some ⟨tb,0,none⟩)] V fun r V'=>∃(x y:Rat)(at':Int),RP V' r x y/\Sz 10 x/\Sz 10 y/\0<=at'/\lP V' tb p n c at':=by
 refine nI tb p n c at_ V _ hw hx fun V1 l1 bk1 e1 h1=>(Qb (V:=V1.au [bk1]) (hr.le fun b o h=>l1 b o h) hn e1 ⟨by simp,h1⟩ h0).mono ?_
 rintro r V2 l2 ⟨x,Fv,hq,sx,t1,hw1⟩
 obtain ⟨p1,n1,c1,p2,n2,c2,rfl,hq1,hq2⟩:=hq
 refine ⟨_,_,_,_,_,_,_,rfl,_,_,_,_,hw1,fun V3 l3 VL e3 h3=>(Qb (V:=V3.au [VL]) (hr.le fun b o h=>l3 b o (l2 b o (l1 b o h))) hn e3 ⟨by simp,h3⟩ t1).mono ?_⟩
 rintro r V4 l4 ⟨y,at2,hq',sy,t2,hw2⟩
 obtain ⟨p3,n3,c3,p4,n4,c4,rfl,hq3,hq4⟩:=hq'
 have gV:∀{V5:View},V4.shut.Le V5->V2.Le V5:=fun l5 b o h=>l5 b o (l4 b o (l3 b o h))
 exact ⟨_,_,_,_,_,_,_,rfl,_,_,_,_,hw2,fun V5 l5 e5=>⟨x,y,at2,⟨_,_,_,_,_,_,_,_,_,_,_,_,rfl,⟨_,_,_,_,_,_,rfl,hq1.le (gV l5),hq2.le (gV l5)⟩,⟨_,_,_,_,_,_,rfl,hq3.le fun b o h=>l5 b o h,hq4.le fun b o h=>l5 b o h⟩⟩,sx,sy,t2,e5⟩⟩
theorem yV {V:View}{l p:Value}{aK l_1 bX:Int}{cL cK:Rat}(hl:RL V l aK l_1 bX)(hp:RP V p cL cK){k:Nat}(s0:Sz k ((aK:Int):Rat))(s1:Sz k ((l_1:Int):Rat))(s2:Sz k ((bX:Int):Rat))(s3:Sz k cL)(s4:Sz k cK)(hk:16*k+16<274877906944) :
  ab prog 55 #[l,p] V fun r V'=>r=.int .i64 ((aK:Rat)*cL+(l_1:Rat)*cK+(bX:Rat)).num.sign:=by
 have hl0:=hl
 have hp0:=hp
 obtain ⟨a0,a1,a2,a3,a4,a5,a6,a7,a8,rfl,-,-,-⟩:=hl
 obtain ⟨p0,p1,p2,p3,p4,p5,p6,p7,p8,p9,HG,K6,rfl,-,-⟩:=hp
 refine xg _ a0 a1 a2 _ a3 a4 a5 _ a6 a7 a8 _ p0 p1 p2 p3 p4 p5 _ p6 p7 p8 p9 HG K6 V _ fun V1 l1=>(wh (hl0.le l1) (hp0.le l1) s0 s1 s2 s3 s4 (by omega)).mono ?_
 rintro r V2 l2 ⟨u0,u1,u2,u3,u4,u5,rfl,g1,g2⟩
 refine ⟨_,_,_,_,_,_,_,rfl,fun V3 l3=>(sS _ (g1.le l3)).mono ?_⟩
 rintro r V4 l4 rfl
 exact ⟨_,rfl,fun V5 l5=>rfl⟩
theorem AK {V:View}{l:Value}{a b c:Int}(hl:RL V l a b c):ab prog 158 #[l] V fun r V'=>RL V' r (-a) (-b) (-c):=by
 obtain ⟨a0,a1,a2,a3,a4,a5,a6,a7,a8,rfl,h1,h2,h3⟩:=hl
 refine Ad _ a0 a1 a2 _ a3 a4 a5 _ a6 a7 a8 V _ fun V1 l1=>(gq a (h1.le l1)).mono ?_
 rintro r V2 l2 ⟨p1,n1,c1,rfl,g1⟩
 refine ⟨_,_,_,_,rfl,fun V3 l3=>(gq b (h2.le (l1.trans (l2.trans l3)))).mono ?_⟩
 rintro r V4 l4 ⟨p2,n2,c2,rfl,g2⟩
 refine ⟨_,_,_,_,rfl,fun V5 l5=>(gq c (h3.le (l1.trans (l2.trans (l3.trans (l4.trans l5)))))).mono ?_⟩
 rintro r V6 l6 ⟨p3,n3,c3,rfl,g3⟩
 exact ⟨_,_,_,_,rfl,fun V7 l7=>⟨_,_,_,_,_,_,_,_,_,rfl,g1.le (l3.trans (l4.trans (l5.trans (l6.trans l7)))),g2.le (l5.trans (l6.trans l7)),g3.le l7⟩⟩
end Go.Proofs.Tryz
namespace Go.bK
open Go.fI
theorem RR.zero (V:View):RR V (.agg #[.int .i64 0,.int .i64 0,.pointer none]) 0:=.inl ⟨rfl,by unfold Wd;decide⟩
end Go.bK
namespace Go.Proofs.Tryz
open Go.bK Go.fI
structure Sp where
 lo:Rat
 hi:Rat
 a:Bool
 b:Bool
def Sp.can (s:Sp):Prop:=(s.a=true->s.lo=0)/\(s.b=true->s.hi=0)
def Sp.sz (k:Nat)(s:Sp):Prop:=Sz k s.lo/\Sz k s.hi
def Sp.zero:Sp:=⟨0,0,false,false⟩
def yz (k:Nat)(l:L3):Prop:=Sz k (l.1:Rat)/\Sz k (l.2.1:Rat)/\Sz k (l.2.2:Rat)
def OX (V:View)(v:Value)(s:Sp):Prop:=∃(x1 x2:Int)(p:OA)(y1 y2:Int)(q:OA),v=.agg #[.int .i64 x1,.int .i64 x2,.pointer p,.int .i64 y1,.int .i64 y2,.pointer q,.bool s.a,.bool s.b] /\
 RR V (.agg #[.int .i64 x1,.int .i64 x2,.pointer p]) s.lo/\RR V (.agg #[.int .i64 y1,.int .i64 y2,.pointer q]) s.hi
theorem OX.le {V V':View}{v:Value}{s:Sp}(h:OX V v s)(l:V.Le V'):OX V' v s:=by
 obtain ⟨x1,x2,p,y1,y2,q,e,h1,h2⟩:=h
 exact ⟨x1,x2,p,y1,y2,q,e,h1.le l,h2.le l⟩
def LH (V:View)(v:Value)(l:L3):Prop:=Cj V v (l.1:Rat) (l.2.1:Rat) (l.2.2:Rat)
theorem LH.le {V V':View}{v:Value}{l:L3}(h:LH V v l)(e:V.Le V'):LH V' v l:=Cj.le h e
def LG (V:View)(v:Value)(l:L3)(s:Sp):Prop:=∃(x1 x2:Int)(p:OA)(y1 y2:Int)(q:OA)(z1 z2:Int)(r:OA)(u1 u2:Int)(t:OA)(w1 w2:Int)(o:OA),
 v=.agg #[.int .i64 x1,.int .i64 x2,.pointer p,.int .i64 y1,.int .i64 y2,.pointer q,.int .i64 z1,.int .i64 z2,.pointer r,.int .i64 u1,.int .i64 u2,.pointer t,.int .i64 w1,.int .i64 w2,.pointer o,.bool s.a,.bool s.b] /\
 LH V (.agg #[.int .i64 x1,.int .i64 x2,.pointer p,.int .i64 y1,.int .i64 y2,.pointer q,.int .i64 z1,.int .i64 z2,.pointer r]) l /\
 OX V (.agg #[.int .i64 u1,.int .i64 u2,.pointer t,.int .i64 w1,.int .i64 w2,.pointer o,.bool s.a,.bool s.b]) s
theorem LG.le {V V':View}{v:Value}{l:L3}{s:Sp}(h:LG V v l s)(e:V.Le V'):LG V' v l s:=by
 obtain ⟨x1,x2,p,y1,y2,q,z1,z2,r,u1,u2,t,w1,w2,o,rfl,h1,h2⟩:=h
 exact ⟨x1,x2,p,y1,y2,q,z1,z2,r,u1,u2,t,w1,w2,o,rfl,h1.le e,h2.le e⟩
def HM (V:View)(v:Value)(b:Bool)(xs ys:List Nat):Prop:=∃p n c p' n' c',v=.agg #[.bool b,.slice p n c,.slice p' n' c']/\RD V p n c xs/\RD V p' n' c' ys
theorem HM.le {V V':View}{v:Value}{b:Bool}{xs ys:List Nat}(h:HM V v b xs ys)(l:V.Le V'):HM V' v b xs ys:=by
 obtain ⟨p,n,c,p',n',c',e,h1,h2⟩:=h;exact ⟨p,n,c,p',n',c',e,h1.le l,h2.le l⟩
theorem HM.nil {V:View}:HM V (.agg #[.bool false,.slice none 0 0,.slice none 0 0]) false [] []:=⟨_,_,_,_,_,_,rfl,RD.nil,RD.nil⟩
def RE (V:View)(v:Value)(q:Rat)(no:Bool):Prop:=(no=true->HM V v false [] [])/\(no=false->RA V v q)
theorem RE.le {V V':View}{v:Value}{q:Rat}{no:Bool}(h:RE V v q no)(l:V.Le V'):RE V' v q no:=⟨fun e=>(h.1 e).le l,fun e=>(h.2 e).le l⟩
theorem RE.shape {V:View}{v:Value}{q:Rat}{no:Bool}(h:RE V v q no):∃b p n c p' n' c',v=.agg #[.bool b,.slice p n c,.slice p' n' c']:=by
 cases no with
 | true=>obtain ⟨_,_,_,_,_,_,e,-⟩:=h.1 rfl;exact ⟨_,_,_,_,_,_,_,e⟩
 | false=>exact (h.2 rfl).shape
def OZ (V:View)(v:Value)(s:Sp):Prop:=∃b p n c p' n' c' d q m e q' m' e',v=.agg #[.bool b,.slice p n c,.slice p' n' c',.bool d,.slice q m e,.slice q' m' e',.bool s.a,.bool s.b] /\
 RE V (.agg #[.bool b,.slice p n c,.slice p' n' c']) s.lo s.a/\RE V (.agg #[.bool d,.slice q m e,.slice q' m' e']) s.hi s.b
theorem OZ.le {V V':View}{v:Value}{s:Sp}(h:OZ V v s)(l:V.Le V'):OZ V' v s:=by
 obtain ⟨b,p,n,c,p',n',c',d,q,m,e,q',m',e',rfl,h1,h2⟩:=h
 exact ⟨_,_,_,_,_,_,_,_,_,_,_,_,_,_,rfl,h1.le l,h2.le l⟩
def LD (V:View)(v:Value)(l:L3)(s:Sp):Prop:=∃b1 p1 n1 c1 b2 p2 n2 c2 b3 p3 n3 c3 b p n c p' n' c' d q m e q' m' e',
 v=.agg #[.bool b1,.slice p1 n1 c1,.bool b2,.slice p2 n2 c2,.bool b3,.slice p3 n3 c3,.bool b,.slice p n c,.slice p' n' c',.bool d,.slice q m e,.slice q' m' e',.bool s.a,.bool s.b] /\
 RL V (.agg #[.bool b1,.slice p1 n1 c1,.bool b2,.slice p2 n2 c2,.bool b3,.slice p3 n3 c3]) l.1 l.2.1 l.2.2/\OZ V (.agg #[.bool b,.slice p n c,.slice p' n' c',.bool d,.slice q m e,.slice q' m' e',.bool s.a,.bool s.b]) s
theorem LD.le {V V':View}{v:Value}{l:L3}{s:Sp}(h:LD V v l s)(e:V.Le V'):LD V' v l s:=by
 obtain ⟨b1,p1,n1,c1,b2,p2,n2,c2,b3,p3,n3,c3,b,p,n,c,p',n',c',d,q,m,f,q',m',f',rfl,h1,h2⟩:=h
 exact ⟨_,_,_,_,_,_,_,_,_,_,_,_,_,_,_,_,_,_,_,_,_,_,_,_,_,_,rfl,h1.le e,h2.le e⟩
def Mc (V:View)(v:Value)(s:Sp):Prop:=∃b p n c p' n' c' d q m e q' m' e',v=.agg #[.bool b,.slice p n c,.slice p' n' c',.bool d,.slice q m e,.slice q' m' e',.bool s.a,.bool s.b] /\
 RQ V (.agg #[.bool b,.slice p n c,.slice p' n' c']) s.lo/\RQ V (.agg #[.bool d,.slice q m e,.slice q' m' e']) s.hi
theorem Mc.le {V V':View}{v:Value}{s:Sp}(h:Mc V v s)(l:V.Le V'):Mc V' v s:=by
 obtain ⟨b,p,n,c,p',n',c',d,q,m,e,q',m',e',rfl,h1,h2⟩:=h
 exact ⟨_,_,_,_,_,_,_,_,_,_,_,_,_,_,rfl,h1.le l,h2.le l⟩
def RF (V:View)(v:Value)(l:L3)(s:Sp):Prop:=∃b1 p1 n1 c1 b2 p2 n2 c2 b3 p3 n3 c3 b p n c p' n' c' d q m e q' m' e',
 v=.agg #[.bool b1,.slice p1 n1 c1,.bool b2,.slice p2 n2 c2,.bool b3,.slice p3 n3 c3,.bool b,.slice p n c,.slice p' n' c',.bool d,.slice q m e,.slice q' m' e',.bool s.a,.bool s.b] /\
 RL V (.agg #[.bool b1,.slice p1 n1 c1,.bool b2,.slice p2 n2 c2,.bool b3,.slice p3 n3 c3]) l.1 l.2.1 l.2.2/\Mc V (.agg #[.bool b,.slice p n c,.slice p' n' c',.bool d,.slice q m e,.slice q' m' e',.bool s.a,.bool s.b]) s
theorem RF.le {V V':View}{v:Value}{l:L3}{s:Sp}(h:RF V v l s)(e:V.Le V'):RF V' v l s:=by
 obtain ⟨b1,p1,n1,c1,b2,p2,n2,c2,b3,p3,n3,c3,b,p,n,c,p',n',c',d,q,m,f,q',m',f',rfl,h1,h2⟩:=h
 exact ⟨_,_,_,_,_,_,_,_,_,_,_,_,_,_,_,_,_,_,_,_,_,_,_,_,_,_,rfl,h1.le e,h2.le e⟩
def cC (l:L3)(x y:Rat):Rat:=(l.1:Rat)*x+(l.2.1:Rat)*y+(l.2.2:Rat)
def mw (l:L3):Rat:=(l.1:Rat)*(l.1:Rat)+(l.2.1:Rat)*(l.2.1:Rat)
def Kd (l:L3)(t:Rat):Rat:=(l.2.1:Rat)*t-(l.1:Rat)*(l.2.2:Rat)*(mw l)⁻¹
def Ke (l:L3)(t:Rat):Rat:=-((l.1:Rat)*t)-(l.2.1:Rat)*(l.2.2:Rat)*(mw l)⁻¹
def wK (l:L3):L3:=(-l.1,-l.2.1,-l.2.2)
def Sp.neg (s:Sp):Sp:=⟨if s.b then 0 else -s.hi,if s.a then 0 else -s.lo,s.b,s.a⟩
def Sp.emp (s:Sp):Bool:=!s.a&&!s.b&&decide (sj s.lo s.hi≥0)
def Nz (l:L3):Prop:=¬(l.1=0/\l.2.1=0)
theorem sq_nonneg (x:Int):0<=x*x:=by
 rw [←Int.natAbs_mul_self];exact Int.natCast_nonneg _
theorem Gx (l:L3):mw l=((l.1*l.1+l.2.1*l.2.1:Int):Rat):=by unfold mw;simp
theorem Nz.norm {l:L3}(h:Nz l):mw l≠0:=by
 rw [Gx]
 have h1:=sq_nonneg l.1
 have h2:=sq_nonneg l.2.1
 have h3:l.1*l.1+l.2.1*l.2.1≠0:=by
  intro e
  have e1:l.1*l.1=0:=by omega
  have e2:l.2.1*l.2.1=0:=by omega
  exact h ⟨(Int.mul_eq_zero.1 e1).elim id id,(Int.mul_eq_zero.1 e2).elim id id⟩
 exact_mod_cast h3
theorem GC {q:Rat}(h:q≠0):q.num≠0:=fun e=>h (Rat.num_eq_zero.1 e)
theorem Lp {L:L3}{x:Rat}{k:Nat}(sl:yz k L)(s1:Sz k x):Sz (20*k+19) (Kd L x):=by
 have e1:Kd L x=((L.1:Rat)*((-(L.2.2:Rat))*((L.1:Rat)*(L.1:Rat)+(L.2.1:Rat)*(L.2.1:Rat))⁻¹))+((L.2.1:Rat)*x):=by unfold Kd mw;grind
 rw [e1];exact xl sl.1 sl.2.1 sl.2.2 s1
theorem Lq {L:L3}{x:Rat}{k:Nat}(sl:yz k L)(s1:Sz k x):Sz (20*k+19) (Ke L x):=by
 have e2:Ke L x=((L.2.1:Rat)*((-(L.2.2:Rat))*((L.1:Rat)*(L.1:Rat)+(L.2.1:Rat)*(L.2.1:Rat))⁻¹))+((-(L.1:Rat))*x):=by unfold Ke mw;grind
 rw [e2];exact xm sl.1 sl.2.1 sl.2.2 s1
theorem pZ (q:Rat):q.num.sign=0↔q=0:=by rw [Int.sign_eq_zero_iff_zero,Rat.num_eq_zero]
theorem F_ {V:View}{l p:Value}{L:L3}{x y:Rat}(hl:LH V l L)(hp:lO V p x y){k:Nat}(sl:yz k L)(s1:Sz k x)(s2:Sz k y)(hk:16*k+16<274877906944) :
  ab prog 125 #[l,p] V fun r V'=>r=.int .i64 (cC L x y).num.sign:=vY hl hp sl.1 sl.2.1 sl.2.2 s1 s2 hk
theorem yz.rev {k:Nat}{L:L3}(h:yz k L):yz k (wK L):=by
 unfold yz wK
 simp only [Rat.intCast_neg]
 exact ⟨h.1.neg,h.2.1.neg,h.2.2.neg⟩
theorem K_ {L:L3}(h:Nz L):((((((L.2.1:Int):Rat)))*((((L.2.1:Int):Rat))))+(((-(((L.1:Int):Rat))))*((-(((L.1:Int):Rat)))))).num≠0:=by
 have:(((((L.2.1:Int):Rat)))*((((L.2.1:Int):Rat))))+(((-(((L.1:Int):Rat))))*((-(((L.1:Int):Rat)))))=mw L:=by unfold mw;grind
 rw [this]
 exact GC h.norm
theorem SA {V:View}{l t:Value}{L:L3}{x:Rat}(hl:RL V l L.1 L.2.1 L.2.2)(ht:RQ V t x)(hz:Nz L){k:Nat}(sl:yz k L)(s1:Sz k x)(hk:18*k+16<274877906944) :
  ab prog 23 #[l,t] V fun r V'=>RP V' r (Kd L x) (Ke L x):=by
 refine (CB hl ht (K_ hz) sl.1 sl.2.1 sl.2.2 s1 hk).mono ?_
 rintro r V2 l2 g
 have e1:Kd L x=(((-((((L.2.2:Int):Rat))*((((((L.2.1:Int):Rat)))*((((L.2.1:Int):Rat))))+(((-(((L.1:Int):Rat))))*((-(((L.1:Int):Rat))))))⁻¹))*(((L.1:Int):Rat)))+(x)*(((L.2.1:Int):Rat))):=by unfold Kd mw;grind
 have e2:Ke L x=(((-((((L.2.2:Int):Rat))*((((((L.2.1:Int):Rat)))*((((L.2.1:Int):Rat))))+(((-(((L.1:Int):Rat))))*((-(((L.1:Int):Rat))))))⁻¹))*(((L.2.1:Int):Rat)))+(x)*(-(((L.1:Int):Rat)))):=by unfold Ke mw;grind
 rw [e1,e2];exact g
theorem G3 {V:View}{l p:Value}{L:L3}{x y:Rat}(hl:RL V l L.1 L.2.1 L.2.2)(hp:RP V p x y){k:Nat}(sl:yz k L)(s1:Sz k x)(s2:Sz k y)(hk:16*k+16<274877906944) :
  ab prog 55 #[l,p] V fun r V'=>r=.int .i64 (cC L x y).num.sign:=yV hl hp sl.1 sl.2.1 sl.2.2 s1 s2 hk
structure PH (V:View) (vs:List Value) (i:Int) (f a b c:Rat):Prop where
 h0:0<=i
 h3:i<=3
 row:∃(x1 x2:Int)(p:OA)(y1 y2:Int)(q:OA)(z1 z2:Int)(r:OA),vs=[.int .i64 x1,.int .i64 x2,.pointer p,.int .i64 y1,.int .i64 y2,.pointer q,.int .i64 z1,.int .i64 z2,.pointer r] /\
  RR V (.agg #[.int .i64 x1,.int .i64 x2,.pointer p]) (if 0<i then a*f else a)/\RR V (.agg #[.int .i64 y1,.int .i64 y2,.pointer q]) (if 1<i then b*f else b)/\RR V (.agg #[.int .i64 z1,.int .i64 z2,.pointer r]) (if 2<i then c*f else c)
theorem PH.le {V V':View}{vs:List Value}{i:Int}{f a b c:Rat}(h:PH V vs i f a b c)(l:V.Le V'):PH V' vs i f a b c:=by
 obtain ⟨h0,h3,x1,x2,p,y1,y2,q,z1,z2,r,e,g1,g2,g3⟩:=h
 exact ⟨h0,h3,x1,x2,p,y1,y2,q,z1,z2,r,e,g1.le l,g2.le l,g3.le l⟩
def La (b:Bool)(xs ys:List Nat):Rat:=mkRat (aY b xs) (val ys)
def KY (b:Bool)(xs ys:List Nat):Bool:=lN b xs&&decide (ai (val ys)=ys)&&!decide (ys=[])&&decide (Nat.gcd (val xs) (val ys)=1)
def S7 (b:Bool)(xs ys:List Nat):Bool:=!b&&decide (xs=[])&&decide (ys=[])
def Ko (b:Bool)(xs ys:List Nat)(no:Bool):Rat:=if no then 0 else La b xs ys
def FT (b:Bool)(xs ys:List Nat)(no:Bool):Bool:=if no then S7 b xs ys else KY b xs ys
theorem DZ {q:Rat}:KY (decide (q.num<0)) (ai q.num.natAbs) (ai q.den)=true/\La (decide (q.num<0)) (ai q.num.natAbs) (ai q.den)=q:=by
 constructor
 ·unfold KY
  have h1:lN (decide (q.num<0)) (ai q.num.natAbs)=true:=by
   unfold lN
   rw [ag]
   by_cases h:q.num<0
   ·have:ai q.num.natAbs≠[]:=fun e=>by have:=bC.1 e;omega
    simp [h,this]
   ·simp [h]
  have h2:ai q.den≠[]:=fun e=>q.den_nz (bC.1 e)
  rw [h1,ag,ag]
  simp [h2,q.reduced]
 ·unfold La
  rw [aH,ag,Rat.mkRat_self]
def O0 (V:View)(v:Value)(b1:Bool)(Jd Jf:List Nat)(b2:Bool)(Je Jg:List Nat)(na nb:Bool):Prop:=∃p n c p' n' c' q m e q' m' e',v=.agg #[.bool b1,.slice p n c,.slice p' n' c',.bool b2,.slice q m e,.slice q' m' e',.bool na,.bool nb] /\
 HM V (.agg #[.bool b1,.slice p n c,.slice p' n' c']) b1 Jd Jf/\HM V (.agg #[.bool b2,.slice q m e,.slice q' m' e']) b2 Je Jg
theorem O0.le {V V':View}{v:Value}{b1:Bool}{Jd Jf:List Nat}{b2:Bool}{Je Jg:List Nat}{na nb:Bool}(h:O0 V v b1 Jd Jf b2 Je Jg na nb)(l:V.Le V'):O0 V' v b1 Jd Jf b2 Je Jg na nb:=by
 obtain ⟨p,n,c,p',n',c',q,m,e,q',m',e',rfl,h1,h2⟩:=h
 exact ⟨_,_,_,_,_,_,_,_,_,_,_,_,rfl,h1.le l,h2.le l⟩
def Ou (b1:Bool)(Jd Jf:List Nat)(b2:Bool)(Je Jg:List Nat)(na nb:Bool):Sp:=⟨Ko b1 Jd Jf na,Ko b2 Je Jg nb,na,nb⟩
def okW (b1:Bool)(Jd Jf:List Nat)(b2:Bool)(Je Jg:List Nat)(na nb:Bool):Bool:=FT b1 Jd Jf na&&FT b2 Je Jg nb&&!(Ou b1 Jd Jf b2 Je Jg na nb).emp
def U_ (l:L3)(s:Sp):Prop:=ka l=true/\s.can/\s.emp=false
theorem RE.raw {V:View}{v:Value}{q:Rat}{no:Bool}(h:RE V v q no)(hc:no=true->q=0):∃b xs ys,HM V v b xs ys/\FT b xs ys no=true/\Ko b xs ys no=q/\(∀k,Sz k q->xs.length<=k/\ys.length<=k):=by
 cases no with
 | true=>
  exact ⟨false,[],[],h.1 rfl,rfl,by rw [hc rfl];rfl,fun k _=>⟨Nat.zero_le _,Nat.zero_le _⟩⟩
 | false=>
  obtain ⟨p,n,c,p',n',c',rfl,h1,h2⟩:=h.2 rfl
  exact ⟨_,_,_,⟨_,_,_,_,_,_,rfl,h1,h2⟩,DZ.1,DZ.2,fun k hk=>⟨af hk.1,af hk.2⟩⟩
theorem LH.Yu {V:View}{r:Value}{l:L3}(h:RL V r ((l.1:Rat)).num ((l.2.1:Rat)).num ((l.2.2:Rat)).num):RL V r l.1 l.2.1 l.2.2:=by
 simpa [Rat.num_intCast] using h
theorem K1 {l:L3}(h:ka l=true):Nz l:=by
 unfold ka at h
 intro e
 simp [e.1,e.2] at h
def jN (l m:L3):Rat:=((l.1:Rat)*(m.2.1:Rat))-((l.2.1:Rat)*(m.1:Rat))
def Pv (l m:L3):Rat:=(((l.2.1:Rat)*(m.2.2:Rat))-((l.2.2:Rat)*(m.2.1:Rat)))*(jN l m)⁻¹
def Pw (l m:L3):Rat:=(((l.2.2:Rat)*(m.1:Rat))-((l.1:Rat)*(m.2.2:Rat)))*(jN l m)⁻¹
theorem yz.ai {k:Nat}{l:L3}(h:yz k l)(hk:k<=1099511627776):(ai l.1.natAbs).length<=1099511627776/\(ai l.2.1.natAbs).length<=1099511627776/\(ai l.2.2.natAbs).length<=1099511627776:=by
 have d1:=af (show l.1.natAbs<2^k from h.1.1)
 have d2:=af (show l.2.1.natAbs<2^k from h.2.1.1)
 have d3:=af (show l.2.2.natAbs<2^k from h.2.2.1)
 exact ⟨by omega,by omega,by omega⟩
def OV (V:View)(ad:Addr)(l:L3)(s:Sp):Prop:=∃xs:List Value,LD V (.agg xs.toArray) l s/\∀i x,xs[i]?=some x->V.at (ad.add i) x
theorem OV.le {V V':View}{ad:Addr}{l:L3}{s:Sp}(h:OV V ad l s)(e:V.Le V'):OV V' ad l s:=by
 obtain ⟨xs,h1,h2⟩:=h;exact ⟨xs,h1.le e,fun i x hx=>e.at (h2 i x hx)⟩
structure J8 (V:View) (p:OA) (n:Nat) (fs:List (L3×Sp)):Prop where
 len:n=fs.length
 at_:∀(i:Nat)(h:i<fs.length),∃ad,ah p (i*14)=some ad/\OV V ad fs[i].1 fs[i].2
theorem J8.le {V V':View}{p:OA}{n:Nat}{fs:List (L3×Sp)}(h:J8 V p n fs)(e:V.Le V'):J8 V' p n fs:=⟨h.len,fun i hi=>by obtain ⟨ad,h1,h2⟩:=h.at_ i hi;exact ⟨ad,h1,h2.le e⟩⟩
theorem Bc {p:OA}{j:Nat}{ad:Addr}(h:ah p j=some ad):p.isSome=true:=by
 cases p with
 | none=>cases h
 | some a=>rfl
def O1 (V:View)(ad:Addr)(s:Sp):Prop:=∃xs:List Value,Mc V (.agg xs.toArray) s/\∀i x,xs[i]?=some x->V.at (ad.add i) x
theorem O1.le {V V':View}{ad:Addr}{s:Sp}(h:O1 V ad s)(e:V.Le V'):O1 V' ad s:=by
 obtain ⟨xs,h1,h2⟩:=h;exact ⟨xs,h1.le e,fun i x hx=>e.at (h2 i x hx)⟩
structure PG (V:View) (p:OA) (n:Nat) (ss:List Sp):Prop where
 len:n=ss.length
 at_:∀(i:Nat)(h:i<ss.length),∃ad,ah p (i*8)=some ad/\O1 V ad ss[i]
theorem PG.le {V V':View}{p:OA}{n:Nat}{ss:List Sp}(h:PG V p n ss)(e:V.Le V'):PG V' p n ss:=⟨h.len,fun i hi=>by obtain ⟨ad,h1,h2⟩:=h.at_ i hi;exact ⟨ad,h1,h2.le e⟩⟩
def Sp.la (s:Sp)(t:Rat):Int:=if s.a then 1 else sj t s.lo
def Sp.lb (s:Sp)(t:Rat):Int:=if s.b then -1 else sj t s.hi
theorem Va.ex {V:View}{v:Value}{l:L3}{s:Sp}(h:LG V v l s):∃(x1 x2:Int)(p:OA)(y1 y2:Int)(q:OA)(z1 z2:Int)(r:OA)(u1 u2:Int)(t:OA)(w1 w2:Int)(o:OA),
 v=.agg #[.int .i64 x1,.int .i64 x2,.pointer p,.int .i64 y1,.int .i64 y2,.pointer q,.int .i64 z1,.int .i64 z2,.pointer r,.int .i64 u1,.int .i64 u2,.pointer t,.int .i64 w1,.int .i64 w2,.pointer o,.bool s.a,.bool s.b]:=by
 obtain ⟨_,_,_,_,_,_,_,_,_,_,_,_,_,_,_,e,-⟩:=h;exact ⟨_,_,_,_,_,_,_,_,_,_,_,_,_,_,_,e⟩
structure Cn (V:View) (p:OA) (n:Nat) (fs:List (L3×Sp)):Prop where
 len:n=fs.length
 at_:∀(i:Nat)(h:i<fs.length),∃ad,ah p (i*17)=some ad/\∃xs:List Value,LG V (.agg xs.toArray) fs[i].1 fs[i].2/\∀j x,xs[j]?=some x->V.at (ad.add j) x
theorem Cn.le {V V':View}{p:OA}{n:Nat}{fs:List (L3×Sp)}(h:Cn V p n fs)(e:V.Le V'):Cn V' p n fs:=⟨h.len,fun i hi=>by obtain ⟨ad,h1,xs,h2,h3⟩:=h.at_ i hi;exact ⟨ad,h1,xs,h2.le e,fun j x hx=>e.at (h3 j x hx)⟩⟩
theorem Cn.nil {V:View}:Cn V none 0 []:=⟨rfl,fun i hi=>by simp at hi⟩
theorem Cn.one {V:View}{bk:Nat}{xs:List Value}{ty:TypeId}{l:L3}{s:Sp}(hb:V.bE bk (.cells xs.toArray ty (0,0)))(hf:LG V (.agg xs.toArray) l s):Cn V (some ⟨bk,0,none⟩) 1 [(l,s)]:=by
 refine ⟨rfl,fun i hi=>?_⟩
 obtain rfl:i=0:=by simpa using hi
 refine ⟨⟨bk,0,none⟩,by simp [ah,add_zero'],_,hf,fun j x hx=>?_⟩
 rw [add_zero']
 exact cO hb hx
end Go.Proofs.Tryz
namespace Go.Proofs.Tryz
open Go.bK
set_option maxRecDepth 100000
end Go.Proofs.Tryz
namespace Go.Proofs.Tryz
open Go.bK Go.fI
def OY (V:View)(v:Value)(b1:Bool)(xs:List Nat)(b2:Bool)(ys:List Nat)(b3:Bool)(zs:List Nat):Prop:=∃p n c q m e s i j,v=.agg #[.bool b1,.slice p n c,.bool b2,.slice q m e,.bool b3,.slice s i j]/\RD V p n c xs/\RD V q m e ys/\RD V s i j zs
theorem OY.le {V V':View}{v:Value}{b1:Bool}{xs:List Nat}{b2:Bool}{ys:List Nat}{b3:Bool}{zs:List Nat}(h:OY V v b1 xs b2 ys b3 zs)(l:V.Le V'):OY V' v b1 xs b2 ys b3 zs:=by
 obtain ⟨p,n,c,q,m,e,s,i,j,rfl,h1,h2,h3⟩:=h
 exact ⟨_,_,_,_,_,_,_,_,_,rfl,h1.le l,h2.le l,h3.le l⟩
def UH (b1:Bool)(xs:List Nat)(b2:Bool)(ys:List Nat)(b3:Bool)(zs:List Nat):L3:=(aY b1 xs,aY b2 ys,aY b3 zs)
structure FW where
 b1:Bool
 xs:List Nat
 b2:Bool
 ys:List Nat
 b3:Bool
 zs:List Nat
 c1:Bool
 us:List Nat
 vs:List Nat
 c2:Bool
 ws:List Nat
 ts:List Nat
 na:Bool
 nb:Bool
def FW.ln (f:FW):L3:=UH f.b1 f.xs f.b2 f.ys f.b3 f.zs
def FW.sp (f:FW):Sp:=Ou f.c1 f.us f.vs f.c2 f.ws f.ts f.na f.nb
def FW.ok (f:FW):Bool:=uR f.b1 f.xs f.b2 f.ys f.b3 f.zs&&okW f.c1 f.us f.vs f.c2 f.ws f.ts f.na f.nb
structure FW.short (f:FW):Prop where
 x:f.xs.length<=1000000
 y:f.ys.length<=1000000
 z:f.zs.length<=1000000
 u:f.us.length<=1000000
 v:f.vs.length<=1000000
 w:f.ws.length<=1000000
 t:f.ts.length<=1000000
def OW (V:View)(v:Value)(f:FW):Prop:=∃p1 n1 d1 p2 n2 d2 p3 n3 d3 p n c p' n' c' q m e q' m' e',
 v=.agg #[.bool f.b1,.slice p1 n1 d1,.bool f.b2,.slice p2 n2 d2,.bool f.b3,.slice p3 n3 d3,.bool f.c1,.slice p n c,.slice p' n' c',.bool f.c2,.slice q m e,.slice q' m' e',.bool f.na,.bool f.nb] /\
 OY V (.agg #[.bool f.b1,.slice p1 n1 d1,.bool f.b2,.slice p2 n2 d2,.bool f.b3,.slice p3 n3 d3]) f.b1 f.xs f.b2 f.ys f.b3 f.zs /\
 O0 V (.agg #[.bool f.c1,.slice p n c,.slice p' n' c',.bool f.c2,.slice q m e,.slice q' m' e',.bool f.na,.bool f.nb]) f.c1 f.us f.vs f.c2 f.ws f.ts f.na f.nb
theorem OW.le {V V':View}{v:Value}{f:FW}(h:OW V v f)(l:V.Le V'):OW V' v f:=by
 obtain ⟨p1,n1,d1,p2,n2,d2,p3,n3,d3,p,n,c,p',n',c',q,m,e,q',m',e',rfl,h1,h2⟩:=h
 exact ⟨_,_,_,_,_,_,_,_,_,_,_,_,_,_,_,_,_,_,_,_,_,rfl,h1.le l,h2.le l⟩
theorem jK {V:View}(z w:Int){p q:OA}{n c m e:Nat}(ha:RD V p n c (ai z.natAbs))(hb:RD V q m e (ai w.natAbs))(hm:(ai z.natAbs).length<=1099511627776)(hn:(ai w.natAbs).length<=1099511627776) :
  ab prog 159 #[.agg #[.bool (decide (z<0)),.slice p n c],.agg #[.bool (decide (w<0)),.slice q m e]] V fun r V'=>r=.int .i64 (z-w).sign:=by
 refine vF _ p n c _ q m e V _ fun V1 l1=>(gq w (hb.le l1)).mono ?_
 rintro r V2 l2 ⟨p1,n1,c1,rfl,g1⟩
 refine ⟨_,_,_,_,rfl,fun V3 l3=>(qH z (-w) (ha.le (l1.trans (l2.trans l3))) (g1.le l3) hm (by rw [Int.natAbs_neg];exact hn)).mono ?_⟩
 rintro r V4 l4 ⟨p2,n2,c2,rfl,g2⟩
 refine ⟨_,_,_,_,rfl,fun V5 l5=>(kR _ (g2.le l5)).mono ?_⟩
 rintro r V6 l6 rfl
 exact ⟨_,rfl,fun V7 l7=>by rw [Int.sub_eq_add_neg]⟩
def oq (l m:L3):Int:=if (l.1-m.1).sign≠0 then (l.1-m.1).sign else if (l.2.1-m.2.1).sign≠0 then (l.2.1-m.2.1).sign else (l.2.2-m.2.2).sign
theorem H9 {l m:L3}:oq l m=0↔l=m:=by
 have e:∀{a b:Int},(a-b).sign=0↔a=b:=fun {a b}=>by rw [Int.sign_eq_zero_iff_zero];omega
 unfold oq
 constructor
 ·intro h
  by_cases h1:(l.1-m.1).sign=0
  ·rw [if_neg (by simpa using h1)] at h
   by_cases h2:(l.2.1-m.2.1).sign=0
   ·rw [if_neg (by simpa using h2)] at h
    exact Prod.ext (e.1 h1) (Prod.ext (e.1 h2) (e.1 h))
   ·rw [if_pos h2] at h;exact absurd h h2
  ·rw [if_pos h1] at h;exact absurd h h1
 ·rintro rfl
  simp
theorem rD {V:View}{v w:Value}{l m:L3}(hl:RL V v l.1 l.2.1 l.2.2)(hm:RL V w m.1 m.2.1 m.2.2){k:Nat}(sl:yz k l)(sm:yz k m)(hk:k<=1099511627776) :
  ab prog 109 #[v,w] V fun r V'=>r=.int .i64 (oq l m):=by
 obtain ⟨d1,d2,d3⟩:=sl.ai hk
 obtain ⟨e1,e2,e3⟩:=sm.ai hk
 obtain ⟨_,_,_,_,_,_,_,_,_,rfl,a1,a2,a3⟩:=hl
 obtain ⟨_,_,_,_,_,_,_,_,_,rfl,b1,b2,b3⟩:=hm
 refine z_ _ _ _ _ _ _ _ _ _ _ _ _ _ _ _ _ _ _ _ _ _ _ _ _ V _ fun V1 l1=>(jK _ _ (a1.le l1) (b1.le l1) d1 e1).mono ?_
 rintro r V2 l2 rfl
 unfold oq
 refine ⟨_,rfl,fun h V3 l3=>?_,fun h V4 l4=>(jK _ _ (a2.le (l1.trans (l2.trans l4))) (b2.le (l1.trans (l2.trans l4))) d2 e2).mono ?_⟩
 ·rw [bne_iff_ne] at h
  rw [if_pos h]
 ·rw [bne_eq_false_iff_eq] at h
  rw [if_neg (by rw [h];decide)]
  rintro r V5 l5 rfl
  refine ⟨_,rfl,fun h V6 l6=>?_,fun h V7 l7=>(jK _ _ (a3.le (l1.trans (l2.trans (l4.trans (l5.trans l7))))) (b3.le (l1.trans (l2.trans (l4.trans (l5.trans l7))))) d3 e3).mono ?_⟩
  ·rw [bne_iff_ne] at h
   rw [if_pos h]
  ·rw [bne_eq_false_iff_eq] at h
   rw [if_neg (by rw [h];decide)]
   rintro r V8 l8 rfl
   exact ⟨_,rfl,fun V9 l9=>rfl⟩
def Jl (u:Value):Prop:=u=.agg #[.bool false,.slice none 0 0,.slice none 0 0,.bool false,.slice none 0 0,.slice none 0 0]
theorem K9 {V:View}{v w:Value}{l m:L3}(hl:RL V v l.1 l.2.1 l.2.2)(hm:RL V w m.1 m.2.1 m.2.2){k:Nat}(sl:yz k l)(sm:yz k m)(hk:20*k+20<274877906944) :
  ab prog 44 #[v,w] V fun r V'=>∃u,r=.tuple #[u,.bool (decide (jN l m≠0))]/\(jN l m=0->Jl u)/\(jN l m≠0->RP V' u (Pv l m) (Pw l m)):=by
 have e0:((l.1:Int):Rat)*((m.2.1:Int):Rat)-((m.1:Int):Rat)*((l.2.1:Int):Rat)=jN l m:=by unfold jN;grind
 have e1:((l.2.1:Int):Rat)*((m.2.2:Int):Rat)-((m.2.1:Int):Rat)*((l.2.2:Int):Rat)=((l.2.1:Rat)*(m.2.2:Rat))-((l.2.2:Rat)*(m.2.1:Rat)):=by grind
 have e2:((m.1:Int):Rat)*((l.2.2:Int):Rat)-((l.1:Int):Rat)*((m.2.2:Int):Rat)=((l.2.2:Rat)*(m.1:Rat))-((l.1:Rat)*(m.2.2:Rat)):=by grind
 obtain ⟨sl1,sl2,JR⟩:=sl
 obtain ⟨JS,JT,JU⟩:=sm
 obtain ⟨_,_,_,_,_,_,_,_,_,rfl,a1,a2,a3⟩:=hl
 obtain ⟨_,_,_,_,_,_,_,_,_,rfl,b1,b2,b3⟩:=hm
 refine xe _ _ _ _ _ _ _ _ _ _ _ _ _ _ _ _ _ _ _ _ _ _ _ _ V _ fun V1 l1=>(a_ (a1.le l1) sl1 (by omega)).mono ?_
 rintro r V2 l2 TW
 have Qo:=TW
 obtain ⟨_,_,_,_,_,_,rfl⟩:=TW.shape
 refine ⟨_,_,_,_,_,_,_,rfl,fun V3 l3=>(a_ (b2.le (l1.trans (l2.trans (l3)))) JT (by omega)).mono ?_⟩
 rintro r V4 l4 TX
 have Qp:=TX
 obtain ⟨_,_,_,_,_,_,rfl⟩:=TX.shape
 refine ⟨_,_,_,_,_,_,_,rfl,fun V5 l5=>(aO (Qo.le (l3.trans (l4.trans (l5)))) (Qp.le l5) sl1 JT (by omega)).mono ?_⟩
 rintro r V6 l6 TY
 have Qq:=TY
 obtain ⟨_,_,_,_,_,_,rfl⟩:=TY.shape
 refine ⟨_,_,_,_,_,_,_,rfl,fun V7 l7=>(a_ (b1.le (l1.trans (l2.trans (l3.trans (l4.trans (l5.trans (l6.trans (l7)))))))) JS (by omega)).mono ?_⟩
 rintro r V8 l8 TZ
 have Qr:=TZ
 obtain ⟨_,_,_,_,_,_,rfl⟩:=TZ.shape
 refine ⟨_,_,_,_,_,_,_,rfl,fun V9 l9=>(a_ (a2.le (l1.trans (l2.trans (l3.trans (l4.trans (l5.trans (l6.trans (l7.trans (l8.trans (l9)))))))))) sl2 (by omega)).mono ?_⟩
 rintro r gT l10 T0
 have Qs:=T0
 obtain ⟨_,_,_,_,_,_,rfl⟩:=T0.shape
 refine ⟨_,_,_,_,_,_,_,rfl,fun gZ bJ=>(aO (Qr.le (l9.trans (l10.trans (bJ)))) (Qs.le bJ) JS sl2 (by omega)).mono ?_⟩
 rintro r lQ cw T1
 have Qt:=T1
 obtain ⟨_,_,_,_,_,_,rfl⟩:=T1.shape
 refine ⟨_,_,_,_,_,_,_,rfl,fun lD bU=>(kj (Qq.le (l7.trans (l8.trans (l9.trans (l10.trans (bJ.trans (cw.trans (bU)))))))) (Qt.le bU) (sl1.mul JT) (JS.mul sl2) (by omega)).mono ?_⟩
 rintro r o_ dL Qu
 rw [e0] at Qu
 have A4:=Qu
 obtain ⟨_,_,_,_,_,_,rfl,Qv,-⟩:=Qu
 have sD:Sz (4*k+3) (((l.1:Int):Rat)*((m.2.1:Int):Rat)-((m.1:Int):Rat)*((l.2.1:Int):Rat)):=Sz.mono ((sl1.mul JT).sub (JS.mul sl2)) (by omega)
 rw [e0] at sD
 refine ⟨_,_,_,_,_,_,_,rfl,fun nD du=>(sS _ (Qv.le du)).mono ?_⟩
 rintro r mT dp rfl
 refine ⟨_,rfl,fun hz nK cR=>?_,fun hz=>?_⟩
 ·rw [beq_iff_eq,pZ] at hz
  rw [hz]
  exact ⟨_,rfl,fun _=>rfl,fun h=>absurd rfl h⟩
 ·rw [beq_eq_false_iff_ne,ne_eq,pZ] at hz
  rw [decide_eq_true hz]
  have hz':¬(jN l m).num=0:=fun h=>hz (Rat.num_eq_zero.1 h)
  intro nK cR
  have M0:V.Le nK:=(l1.trans (l2.trans (l3.trans (l4.trans (l5.trans (l6.trans (l7.trans (l8.trans (l9.trans (l10.trans (bJ.trans (cw.trans (bU.trans (dL.trans (du.trans (dp.trans (cR)))))))))))))))))
  replace A4:=A4.le (du.trans (dp.trans (cR)))
  refine (a_ (a2.le M0) sl2 (by omega)).mono ?_
  rintro r qz dW T3
  have QC:=T3
  obtain ⟨_,_,_,_,_,_,rfl⟩:=T3.shape
  refine ⟨_,_,_,_,_,_,_,rfl,fun tC ea=>(a_ (b3.le (M0.trans (dW.trans (ea)))) JU (by omega)).mono ?_⟩
  rintro r Ar jf T4
  have QD:=T4
  obtain ⟨_,_,_,_,_,_,rfl⟩:=T4.shape
  refine ⟨_,_,_,_,_,_,_,rfl,fun tD eW=>(aO (QC.le (ea.trans (jf.trans (eW)))) (QD.le eW) sl2 JU (by omega)).mono ?_⟩
  rintro r xo kZ T5
  have QE:=T5
  obtain ⟨_,_,_,_,_,_,rfl⟩:=T5.shape
  refine ⟨_,_,_,_,_,_,_,rfl,fun vT fZ=>(a_ (b2.le (M0.trans (dW.trans (ea.trans (jf.trans (eW.trans (kZ.trans (fZ)))))))) JT (by omega)).mono ?_⟩
  rintro r DG rL T6
  have QF:=T6
  obtain ⟨_,_,_,_,_,_,rfl⟩:=T6.shape
  refine ⟨_,_,_,_,_,_,_,rfl,fun Eh gV=>(a_ (a3.le (M0.trans (dW.trans (ea.trans (jf.trans (eW.trans (kZ.trans (fZ.trans (rL.trans (gV)))))))))) JR (by omega)).mono ?_⟩
  rintro r HA qU T7
  have QG:=T7
  obtain ⟨_,_,_,_,_,_,rfl⟩:=T7.shape
  refine ⟨_,_,_,_,_,_,_,rfl,fun J9 lY=>(aO (QF.le (gV.trans (qU.trans (lY)))) (QG.le lY) JT JR (by omega)).mono ?_⟩
  rintro r HN Bg T8
  have QH:=T8
  obtain ⟨_,_,_,_,_,_,rfl⟩:=T8.shape
  refine ⟨_,_,_,_,_,_,_,rfl,fun LI sZ=>(kj (QE.le (fZ.trans (rL.trans (gV.trans (qU.trans (lY.trans (Bg.trans (sZ)))))))) (QH.le sZ) (sl2.mul JU) (JT.mul JR) (by omega)).mono ?_⟩
  rintro r HB wD QI
  rw [e1] at QI
  have Kt:=QI
  obtain ⟨_,_,_,_,_,_,rfl⟩:=QI.shape
  have sX:Sz (4*k+3) (((l.2.1:Rat)*(m.2.2:Rat))-((l.2.2:Rat)*(m.2.1:Rat))):=by rw [←e1];exact Sz.mono ((sl2.mul JU).sub (JT.mul JR)) (by omega)
  have M1:V.Le HB:=(M0.trans (dW.trans (ea.trans (jf.trans (eW.trans (kZ.trans (fZ.trans (rL.trans (gV.trans (qU.trans (lY.trans (Bg.trans (sZ.trans (wD))))))))))))))
  replace A4:=A4.le (dW.trans (ea.trans (jf.trans (eW.trans (kZ.trans (fZ.trans (rL.trans (gV.trans (qU.trans (lY.trans (Bg.trans (sZ.trans (wD)))))))))))))
  refine ⟨_,_,_,_,_,_,_,rfl,fun O2 CW=>(a_ (b1.le (M1.trans CW)) JS (by omega)).mono ?_⟩
  rintro r Ta JI T9
  have QJ:=T9
  obtain ⟨_,_,_,_,_,_,rfl⟩:=T9.shape
  refine ⟨_,_,_,_,_,_,_,rfl,fun PK ze=>(a_ (a3.le (M1.trans (CW.trans (JI.trans (ze))))) JR (by omega)).mono ?_⟩
  rintro r Vd KT T_
  have QK:=T_
  obtain ⟨_,_,_,_,_,_,rfl⟩:=T_.shape
  refine ⟨_,_,_,_,_,_,_,rfl,fun Ve wE=>(aO (QJ.le (ze.trans (KT.trans (wE)))) (QK.le wE) JS JR (by omega)).mono ?_⟩
  rintro r Yj Po Ua
  have QL:=Ua
  obtain ⟨_,_,_,_,_,_,rfl⟩:=Ua.shape
  refine ⟨_,_,_,_,_,_,_,rfl,fun Yk Ns=>(a_ (a1.le (M1.trans (CW.trans (JI.trans (ze.trans (KT.trans (wE.trans (Po.trans (Ns))))))))) sl1 (by omega)).mono ?_⟩
  rintro r Yl Pp Ub
  have QM:=Ub
  obtain ⟨_,_,_,_,_,_,rfl⟩:=Ub.shape
  refine ⟨_,_,_,_,_,_,_,rfl,fun Ym Nt=>(a_ (b3.le (M1.trans (CW.trans (JI.trans (ze.trans (KT.trans (wE.trans (Po.trans (Ns.trans (Pp.trans (Nt))))))))))) JU (by omega)).mono ?_⟩
  rintro r Yn Pq Uc
  have QN:=Uc
  obtain ⟨_,_,_,_,_,_,rfl⟩:=Uc.shape
  refine ⟨_,_,_,_,_,_,_,rfl,fun Yp Nu=>(aO (QM.le (Nt.trans (Pq.trans (Nu)))) (QN.le Nu) sl1 JU (by omega)).mono ?_⟩
  rintro r Yq RG Ud
  have QO:=Ud
  obtain ⟨_,_,_,_,_,_,rfl⟩:=Ud.shape
  refine ⟨_,_,_,_,_,_,_,rfl,fun Yr Pr=>(kj (QL.le (Ns.trans (Pp.trans (Nt.trans (Pq.trans (Nu.trans (RG.trans (Pr)))))))) (QO.le Pr) (JS.mul JR) (sl1.mul JU) (by omega)).mono ?_⟩
  rintro r Ys UB QP
  rw [e2] at QP
  have QQ:=QP
  obtain ⟨_,_,_,_,_,_,rfl⟩:=QP.shape
  have sY:Sz (4*k+3) (((l.2.2:Rat)*(m.1:Rat))-((l.1:Rat)*(m.2.2:Rat))):=by rw [←e2];exact Sz.mono ((JS.mul JR).sub (sl1.mul JU)) (by omega)
  replace A4:=A4.le (CW.trans (JI.trans (ze.trans (KT.trans (wE.trans (Po.trans (Ns.trans (Pp.trans (Nt.trans (Pq.trans (Nu.trans (RG.trans (Pr.trans (UB))))))))))))))
  replace Kt:=Kt.le (CW.trans (JI.trans (ze.trans (KT.trans (wE.trans (Po.trans (Ns.trans (Pp.trans (Nt.trans (Pq.trans (Nu.trans (RG.trans (Pr.trans (UB))))))))))))))
  refine ⟨_,_,_,_,_,_,_,rfl,fun Yt Ps=>(oh (Kt.le Ps) (A4.le Ps) hz' sX sD (by omega)).mono ?_⟩
  rintro r PL l46 gr
  have Wi:=gr
  obtain ⟨_,_,_,_,_,_,rfl⟩:=gr.shape
  refine ⟨_,_,_,_,_,_,_,rfl,fun Tb Nv=>(oh (QQ.le (Ps.trans (l46.trans (Nv)))) (A4.le (Ps.trans (l46.trans (Nv)))) hz' sY sD (by omega)).mono ?_⟩
  rintro r PM KU gs
  have gs0:=gs
  obtain ⟨_,_,_,_,_,_,rfl⟩:=gs.shape
  exact ⟨_,_,_,_,_,_,_,rfl,fun Tc UC=>⟨_,rfl,fun h=>absurd h hz,fun _=>⟨_,_,_,_,_,_,_,_,_,_,_,_,rfl,Wi.le (Nv.trans (KU.trans (UC))),gs0.le UC⟩⟩⟩
def Km:L3:=(0,0,0)
theorem yX {a b:L3}:oq a b<0↔(a.1<b.1\/a.1=b.1/\(a.2.1<b.2.1\/a.2.1=b.2.1/\a.2.2<b.2.2)):=by
 have s:∀{x y:Int},(x<y/\(x-y).sign=-1)\/(x=y/\(x-y).sign=0)\/(y<x/\(x-y).sign=1):=by
  intro x y
  rcases Int.lt_trichotomy x y with h|h|h
  ·exact .inl ⟨h,Int.sign_eq_neg_one_of_neg (by omega)⟩
  ·exact .inr (.inl ⟨h,by rw [h,Int.sub_self];rfl⟩)
  ·exact .inr (.inr ⟨h,Int.sign_eq_one_of_pos (by omega)⟩)
 unfold oq
 rcases @s a.1 b.1 with ⟨h1,e1⟩|⟨h1,e1⟩|⟨h1,e1⟩<;>rcases @s a.2.1 b.2.1 with ⟨h2,e2⟩|⟨h2,e2⟩|⟨h2,e2⟩<;>rcases @s a.2.2 b.2.2 with ⟨h3,e3⟩|⟨h3,e3⟩|⟨h3,e3⟩<;>rw [e1,e2,e3]<;>simp<;>omega
def Hz (V:View)(v:Value)(c:L3):Prop:=Cj V v c.1 c.2.1 c.2.2/\Bd c
theorem Hz.le {V V':View}{v:Value}{c:L3}(h:Hz V v c)(l:V.Le V'):Hz V' v c:=⟨h.1.le l,h.2⟩
theorem Hz.shape {V:View}{v:Value}{c:L3}(h:Hz V v c):∃(x y:Int)(p:OA)(xb yb:Int)(pb:OA)(xc yc:Int)(pc:OA),v=.agg #[.int .i64 x,.int .i64 y,.pointer p,.int .i64 xb,.int .i64 yb,.pointer pb,.int .i64 xc,.int .i64 yc,.pointer pc]:=by
 obtain ⟨⟨x1,x2,p,y1,y2,q,z1,z2,r,e,-⟩,-⟩:=h;exact ⟨_,_,_,_,_,_,_,_,_,e⟩
def eL (a b:L3):Bool:=decide (a=b)
end Go.Proofs.Tryz
namespace Go.Proofs.Tryz
open Go.fI
section
variable {α:Type} {c:α->α->Int} {d:α}
structure PQ (c:α->α->Int) (d:α) (l0 l:List α) (a0 b0 a b:Nat):Prop where
 I4:gS d l0 l a0 b0
 ha:a0<=a
 lW:a<=b
 hb:b<=b0
 lo:oZ c d l a0 a
 hi:oZ c d l b b0
 s1:Sep c d l a0 a b0
 s2:Sep c d l a0 b b0
 pre:0<a->∀k,a<=k->k<b->¬c (l.getD k d) (l.getD (a-1) d)<0
variable {l0 l m:List α} {a0 b0 a b mid:Nat}
theorem PQ.start {l:List α}(h:a<=b)(hp:0<a->∀k,a<=k->k<b->¬c (l.getD k d) (l.getD (a-1) d)<0):PQ c d l l a b a b:=
 ⟨.refl _ _ _,Nat.le_refl _,h,Nat.le_refl _,.short (by omega),.short (by omega),fun p q h1 h2=>by omega,fun p q h1 h2 h3 h4=>by omega,hp⟩
theorem PQ.change (h:PQ c d l0 l a0 b0 a b)(hs:gS d l m a b):PQ c d l0 m a0 b0 a b:=
 ⟨h.I4.trans (hs.wide h.ha h.hb),h.ha,h.lW,h.hb,hs.Ak h.lo (.inl (Nat.le_refl _)),hs.Ak h.hi (.inr (Nat.le_refl _)),hs.sep h.s1 (.inr (.inl ⟨Nat.le_refl _,h.hb⟩)),hs.sep h.s2 (.inl ⟨h.ha,Nat.le_refl _⟩),fun h0 k h1 h2=>by
  obtain ⟨k',h3,h4,e⟩:=hs.mem k h1 h2
  rw [e,hs.out (a-1) (by omega)]
  exact h.pre h0 k' h3 h4⟩
theorem PQ.fin (h:PQ c d l0 l a0 b0 a b)(hs:gS d l m a b)(ha:oZ c d m a b):gS d l0 m a0 b0/\oZ c d m a0 b0:=by
 have h':=h.change hs
 refine ⟨h'.I4,h'.lo.join (ha.join h'.hi fun p q h1 h2 h3 h4=>h'.s2 p q (by have:=h.ha;omega) h2 h3 h4) h'.s1⟩
theorem PQ.left (ho:Ord c)(h:PQ c d l0 l a0 b0 a b)(hm:a<=mid)(hm':mid<b)(h1:∀k,a<=k->k<mid->c (l.getD k d) (l.getD mid d)<0)(h2:∀k,mid<k->k<b->¬c (l.getD k d) (l.getD mid d)<0)
  (hs:gS d l m a mid)(ha:oZ c d m a mid):PQ c d l0 m a0 b0 (mid+1) b:=by
 have e0:=h.ha
 have e1:=h.hb
 have em:m.getD mid d=l.getD mid d:=hs.out mid (by omega)
 have below:∀k,a<=k->k<mid->¬c (m.getD mid d) (m.getD k d)<0:=fun k g1 g2=>by
  obtain ⟨k',g3,g4,e⟩:=hs.mem k g1 g2
  rw [em,e];exact ho.HT _ _ (h1 k' g3 g4)
 have t1:=hs.sep h.s1 (.inr (.inl ⟨Nat.le_refl _,by omega⟩))
 have t2:=hs.sep h.s2 (.inl ⟨e0,by omega⟩)
 have up:∀q,mid<q->q<b->¬c (m.getD q d) (m.getD mid d)<0:=fun q g1 g2=>by rw [em,hs.out q (by omega)];exact h2 q g1 g2
 refine ⟨h.I4.trans (hs.wide e0 (by omega)),by omega,by omega,e1,(hs.Ak h.lo (.inl (Nat.le_refl _))).join (m:=a) (fun p q g1 g2 g3=>?_) fun p q g1 g2 g3 g4=>t1 p q g1 g2 g3 (by omega),hs.Ak h.hi (.inr (by omega)),fun p q g1 g2 g3 g4=>?_,t2,fun _ k g1 g2=>up k (by omega) g2⟩
 ·by_cases e:q=mid
  ·subst e;exact below p g1 g2
  ·exact ha p q g1 g2 (by omega)
 ·by_cases hq:b<=q
  ·exact t2 p q g1 (by omega) hq g4
  ·by_cases hp:p<a
   ·exact t1 p q g1 hp (by omega) g4
   ·have u:=up q (by omega) (by omega)
    by_cases e:p=mid
    ·subst e;exact u
    ·exact ho.tr _ _ _ u (below p (by omega) (by omega))
theorem PQ.right (ho:Ord c)(h:PQ c d l0 l a0 b0 a b)(hm:a<=mid)(hm':mid<b)(h1:∀k,a<=k->k<mid->c (l.getD k d) (l.getD mid d)<0)(h2:∀k,mid<k->k<b->¬c (l.getD k d) (l.getD mid d)<0)
  (hs:gS d l m (mid+1) b)(ha:oZ c d m (mid+1) b):PQ c d l0 m a0 b0 a mid:=by
 have e0:=h.ha
 have e1:=h.hb
 have em:m.getD mid d=l.getD mid d:=hs.out mid (by omega)
 have up:∀q,mid<q->q<b->¬c (m.getD q d) (m.getD mid d)<0:=fun q g1 g2=>by
  obtain ⟨k',g3,g4,e⟩:=hs.mem q (by omega) g2
  rw [em,e];exact h2 k' (by omega) g4
 have below:∀k,a<=k->k<mid->¬c (m.getD mid d) (m.getD k d)<0:=fun k g1 g2=>by
  rw [em,hs.out k (by omega)];exact ho.HT _ _ (h1 k g1 g2)
 have t1:=hs.sep h.s1 (.inr (.inl ⟨by omega,e1⟩))
 have t2:=hs.sep h.s2 (.inl ⟨by omega,Nat.le_refl _⟩)
 have t3:=hs.Ak h.hi (.inr (Nat.le_refl _))
 refine ⟨h.I4.trans (hs.wide (by omega) e1),e0,hm,by omega,hs.Ak h.lo (.inl (by omega)),fun p q g1 g2 g3=>?_,t1,fun p q g1 g2 g3 g4=>?_,fun h0 k g1 g2=>?_⟩
 ·by_cases hq:q<b
  ·by_cases e:p=mid
   ·subst e;exact up q g2 hq
   ·exact ha p q (by omega) g2 hq
  ·by_cases hp:p<b
   ·exact t2 p q (by omega) hp (by omega) g3
   ·exact t3 p q (by omega) g2 g3
 ·by_cases hq:b<=q
  ·exact t2 p q g1 (by omega) hq g4
  ·by_cases hp:p<a
   ·exact t1 p q g1 hp (by omega) g4
   ·have u:=below p (by omega) g2
    by_cases e:q=mid
    ·subst e;exact u
    ·exact ho.tr _ _ _ (up q (by omega) (by omega)) u
 ·rw [hs.out k (by omega),hs.out (a-1) (by omega)];exact h.pre h0 k g1 (by omega)
theorem PQ.VW (ho:Ord c)(h:PQ c d l0 l a0 b0 a b)(h0:0<a)(hm:a<mid)(hm':mid<=b){x:α}(hx:¬c (l.getD (a-1) d) x<0)(hs:gS d l m a b)
  (h1:∀k,a<=k->k<mid->¬c x (m.getD k d)<0)(h2:∀k,mid<=k->k<b->c x (m.getD k d)<0):PQ c d l0 m a0 b0 mid b:=by
 have h':=h.change hs
 have e0:=h.ha
 have e1:=h.hb
 have ex:¬c (m.getD (a-1) d) x<0:=by rw [hs.out (a-1) (by omega)];exact hx
 have pr:=h'.pre h0
 refine ⟨h'.I4,by omega,hm',e1,h'.lo.join (m:=a) (fun p q g1 g2 g3=>?_) fun p q g1 g2 g3 g4=>h'.s1 p q g1 g2 g3 (by omega),h'.hi,fun p q g1 g2 g3 g4=>?_,h'.s2,fun _ k g1 g2=>?_⟩
 ·exact ho.tr _ _ _ (pr q (by omega) (by omega)) (ho.tr _ _ _ ex (h1 p g1 (by omega)))
 ·by_cases hq:b<=q
  ·exact h'.s2 p q g1 (by omega) hq g4
  ·by_cases hp:p<a
   ·exact h'.s1 p q g1 hp (by omega) g4
   ·exact ho.tr _ _ _ (ho.HT _ _ (h2 q g3 (by omega))) (h1 p (by omega) g2)
 ·exact ho.tr _ _ _ (ho.HT _ _ (h2 k g1 g2)) (h1 (mid-1) (by omega) (by omega))
structure HQ (c:α->α->Int) (d:α) (l:List α) (f i n:Nat):Prop where
 hp:Hp c d l f 0 i none
 Ak:oZ c d l (f+i) (f+n)
 sep:Sep c d l f (f+i) (f+n)
theorem HQ.start {f n:Nat}(h:Hp c d l f 0 n none):HQ c d l f n n:=⟨h,.short (by omega),fun p q h1 h2 h3 h4=>by omega⟩
theorem HQ.step (ho:Ord c){f k n:Nat}(h:HQ c d l f (k+1) n)(hk:k+1<=n)(hl:f+n<=l.length)(hs:gS d (ja d l f (f+k)) m f (f+k))(hm:Hp c d m f 0 k none):HQ c d m f k n:=by
 have ha:=fun x=>lB (d:=d) (l:=l) (i:=f) (j:=f+k) (k:=x) (by omega) (by omega)
 have out:∀q,f+k<q->m.getD q d=l.getD q d:=fun q hq=>by rw [hs.out q (by omega),ha,if_neg (by omega),if_neg (by omega)]
 have top:m.getD (f+k) d=l.getD f d:=by rw [hs.out (f+k) (by omega),ha,if_pos rfl]
 refine ⟨hm,fun p q g1 g2 g3=>?_,fun p q g1 g2 g3 g4=>?_⟩
 ·rw [out q (by omega)]
  by_cases e:p=f+k
  ·rw [e,top];exact h.sep f q (Nat.le_refl _) (by omega) (by omega) g3
  ·rw [out p (by omega)];exact h.Ak p q (by omega) g2 g3
 ·have hp:∃j,j<k+1/\m.getD p d=l.getD (f+j) d:=by
   obtain ⟨p',e1,e2,e⟩:=hs.mem p g1 g2
   rw [e,ha,if_neg (by omega)]
   split
   ·exact ⟨k,by omega,rfl⟩
   ·exact ⟨p'-f,by omega,by rw [show f+(p'-f)=p' by omega]⟩
  obtain ⟨j,hj,e⟩:=hp
  rw [e]
  by_cases eq:q=f+k
  ·rw [eq,top];exact h.hp.top ho j hj
  ·rw [out q (by omega)];exact h.sep (f+j) q (by omega) (by omega) (by omega) g4
theorem HQ.fin {f n:Nat}(h:HQ c d l f 0 n):oZ c d l f (f+n):=by have:=h.Ak;simpa using this
structure PT (P:α->Prop) (d:α) (l:List α) (a b i j:Nat):Prop where
 hi:a<i
 wC:i<=j+1
 hj:j<b
 lo:∀k,a<k->k<i->P (l.getD k d)
 up:∀k,j<k->k<b->¬P (l.getD k d)
variable {P:α->Prop} {i j:Nat}
theorem PT.start (h:a+1<b):PT P d l a b (a+1) (b-1):=⟨by omega,by omega,by omega,fun k h1 h2=>by omega,fun k h1 h2=>by omega⟩
theorem PT.KK (h:PT P d l a b i j)(wC:i<=j)(hp:P (l.getD i d)):PT P d l a b (i+1) j:=⟨by have:=h.hi;omega,by omega,h.hj,fun k h1 h2=>by
 by_cases e:k=i
 ·subst e;exact hp
 ·exact h.lo k h1 (by omega),h.up⟩
theorem PT.Kn (h:PT P d l a b i j)(wC:i<=j)(hp:¬P (l.getD j d)):PT P d l a b i (j-1):=⟨h.hi,by omega,by have:=h.hj;omega,h.lo,fun k h1 h2=>by
 by_cases e:k=j
 ·subst e;exact hp
 ·exact h.up k (by have:=h.hi;omega) h2⟩
theorem PT.swap (h:PT P d l a b i j)(wC:i<=j)(hl:b<=l.length)(h1:¬P (l.getD i d))(h2:P (l.getD j d)):PT P d (ja d l i j) a b (i+1) (j-1)/\(ja d l i j).getD a d=l.getD a d/\gS d l (ja d l i j) a b:=by
 have e0:=h.hi
 have e1:=h.hj
 have ne:i≠j:=fun e=>h1 (e▸h2)
 have ha:=fun x=>lB (d:=d) (l:=l) (i:=i) (j:=j) (k:=x) (by omega) (by omega)
 refine ⟨⟨by omega,by omega,by omega,fun k g1 g2=>?_,fun k g1 g2=>?_⟩,by rw [ha,if_neg (by omega),if_neg (by omega)],gS.ja (by omega) (by omega) (by omega) e1 hl⟩
 ·rw [ha,if_neg (by omega)]
  by_cases e:k=i
  ·rw [if_pos e];exact h2
  ·rw [if_neg e];exact h.lo k g1 (by omega)
 ·rw [ha]
  by_cases e:k=j
  ·rw [if_pos e];exact h1
  ·rw [if_neg e,if_neg (by omega)];exact h.up k (by omega) g2
theorem PT.fin (ho:Ord c)(h:PT (fun x=>c x (l.getD a d)<0) d l a b i j)(wC:¬i<=j)(hl:b<=l.length):gS d l (ja d l j a) a b/\a<=j/\j<b /\
  (∀k,a<=k->k<j->c ((ja d l j a).getD k d) ((ja d l j a).getD j d)<0)/\(∀k,j<k->k<b->¬c ((ja d l j a).getD k d) ((ja d l j a).getD j d)<0):=by
 have e0:=h.hi
 have e1:=h.wC
 have e2:=h.hj
 have ha:=fun x=>lB (d:=d) (l:=l) (i:=j) (j:=a) (k:=x) (by omega) (by omega)
 have ej:(ja d l j a).getD j d=l.getD a d:=by
  rw [ha]
  by_cases e:j=a
  ·rw [if_pos e,e]
  ·rw [if_neg e,if_pos rfl]
 refine ⟨gS.ja (by omega) e2 (Nat.le_refl _) (by omega) hl,by omega,e2,fun k g1 g2=>?_,fun k g1 g2=>?_⟩
 ·rw [ej,ha]
  by_cases e:k=a
  ·rw [if_pos e];exact h.lo j (by omega) (by omega)
  ·rw [if_neg e,if_neg (by omega)];exact h.lo k (by omega) (by omega)
 ·rw [ej,ha,if_neg (by omega),if_neg (by omega)];exact h.up k g1 g2
end
end Go.Proofs.Tryz
namespace Go.Proofs.Tryz
open Go.bK Go.fI
theorem gF (V:View):V.Le V.shut:=fun _ _ h=>h
set_option maxRecDepth 10000 in
theorem H0 {V:View}(x:Nat)(hx:x<256):ab prog 220 #[.int .u64 (x:Int)] V fun r V'=>r=.int .i64 (bh x:Int):=by
 refine oR _ V _ ⟨fun z _=>z=((x:Int),0),⟨fun h0=>absurd (of_decide_eq_true h0) (by omega),fun _=>⟨_,⟨rfl,rfl⟩,rfl⟩⟩,?_⟩
 rintro _ V1 l1 rfl
 refine ⟨rfl,fun z _=>z=((x:Int),0),⟨fun h0=>absurd (of_decide_eq_true h0) (by dsimp only;omega),fun _=>⟨_,⟨rfl,rfl⟩,rfl⟩⟩,?_⟩
 rintro _ V2 l2 rfl
 refine ⟨rfl,fun z _=>z=((x:Int),0),⟨fun h0=>absurd (of_decide_eq_true h0) (by dsimp only;omega),fun _=>⟨_,⟨rfl,rfl⟩,rfl⟩⟩,?_⟩
 rintro _ V3 l3 rfl
 have hw:IntKind.u8.wrap (x:Int)=x:=IntWalk.u8_in _ (by omega)
 have hsz:(Bh.size:Int)=256:=rfl
 dsimp only
 rw [hw]
 refine ⟨rfl,⟨by omega,by show (x:Int)<(Bh.size:Int);rw [hsz];omega⟩,fun V4 l4=>?_⟩
 show Value.int .i64 (i64.wrap (0+i64.wrap ((Bh.data.toList.getD (x:Int).toNat 0).toNat:Int)))=_
 congr 1
 have key:∀y:Nat,y<256->(Bh.data.toList.getD y 0).toNat=bh y:=by decide +kernel
 have hbl:bh x<=8:=fW.2 (by omega)
 have:=key x hx
 rw [Int.toNat_natCast,this]
 simp (disch:=omega) only [ar]
 omega
theorem kJ {V:View}(x:Nat)(hx:x<256):ab prog 180 #[.int .u64 (x:Int)] V fun r V'=>r=.int .i64 (bh x:Int):=by
 refine rm _ V _ fun V1 l1=>(H0 x hx).mono ?_
 rintro r V2 l2 rfl
 exact ⟨_,rfl,fun V3 l3=>rfl⟩
theorem qG {V:View}(x:Nat)(h0:1<=x)(hx:x<50):ab prog 241 #[.int .i64 (x:Int)] V fun r V'=>∃m:Nat,r=.int .u64 m/\1<=m/\m<=2*x:=by
 have w:u64.wrap (x:Int)=x:=aL (by omega)
 refine j9 _ V _ fun V1 l1=>?_
 rw [w]
 refine (kJ x (by omega)).mono ?_
 rintro r V2 l2 rfl
 have key:∀y:Nat,y<50->1<=y->2^bh y<=2*y/\bh y<=6:=by decide +kernel
 obtain ⟨k1,k2⟩:=key x hx h0
 have e:min ((bh x:Nat):Int).toNat IntKind.u64.bits=bh x:=by
  show min ((bh x:Nat):Int).toNat 64=_
  rw [Int.toNat_natCast];omega
 have e2:((1:Int)*2^bh x)=((2^bh x:Nat):Int):=by rw [Int.one_mul];simp
 refine ⟨_,rfl,by omega,fun V3 l3=>⟨2^bh x,?_,Nat.one_le_two_pow,k1⟩⟩
 rw [e,e2]
 generalize 2^bh x=P at *
 rw [aL (by omega)]
theorem Kb {x m:Int}(h0:0<=m)(h1:m<1000):0<=aS .and .u64 x m/\aS .and .u64 x m<=m:=by
 have hb:(BitVec.ofInt 64 m).toNat=m.toNat:=by rw [BitVec.toNat_ofInt];omega
 have h:((BitVec.ofInt 64 x &&& BitVec.ofInt 64 m).toNat)<=m.toNat:=by rw [BitVec.toNat_and,hb];exact Nat.and_le_right
 show 0<=u64.wrap ((BitVec.ofInt 64 x &&& BitVec.ofInt 64 m).toNat:Int)/\u64.wrap ((BitVec.ofInt 64 x &&& BitVec.ofInt 64 m).toNat:Int)<=m
 rw [aL (by omega)]
 omega
theorem CC {V:View}{rb:Nat}{x:Int}(hw:V.w.heap[rb]?=some (.cells #[.int .u64 x] 302 (0,0)))(hx:V.X rb) :
  ab prog 242 #[.pointer (some ⟨rb,0,none⟩)] V fun r V'=>∃y:Int,r=.int .u64 y/\V'.w.heap[rb]?=some (.cells #[.int .u64 y] 302 (0,0)):=
 kE rb x V _ hw hx ⟨by decide,by decide,by decide,fun V1 l1 h=>⟨_,rfl,h⟩⟩
end Go.Proofs.Tryz
namespace Go.Proofs.Tryz
open Go.bK
set_option maxRecDepth 100000
end Go.Proofs.Tryz
namespace Go.Proofs.Tryz
open Go.bK Go.fI
structure Jm (V:View) (n:Nat) (vs:List Value) (l:List L3):Prop where
 row:Row 9 Hz V vs l
 len:n=l.length
 ng:l.length<50
theorem Jm.le {V V':View}{n:Nat}{vs:List Value}{l:List L3}(h:Jm V n vs l)(e:V.Le V'):Jm V' n vs l:=⟨h.row.le fun _ _ g=>Hz.le g e,h.len,h.ng⟩
theorem Jm.get {V:View}{n:Nat}{vs:List Value}{l:List L3}(h:Jm V n vs l){k:Nat}(hk:k<l.length):∃(x y:Int)(p:OA)(xb yb:Int)(pb:OA)(xc yc:Int)(pc:OA),
  ((0+k*9)+9<=vs.length/\(vs.drop (0+k*9)).take 9=[.int .i64 x,.int .i64 y,.pointer p,.int .i64 xb,.int .i64 yb,.pointer pb,.int .i64 xc,.int .i64 yc,.pointer pc])/\Hz V (.agg #[.int .i64 x,.int .i64 y,.pointer p,.int .i64 xb,.int .i64 yb,.pointer pb,.int .i64 xc,.int .i64 yc,.pointer pc]) (l.getD k Km):=by
 obtain ⟨xs,-,h2,h3,h4⟩:=h.row.get (d:=Km) hk (by decide)
 have h20:=h2
 obtain ⟨x,y,p,xb,yb,pb,xc,yc,pc,e⟩:=h2.shape
 have e:=congrArg Array.toList (Value.agg.inj e)
 dsimp only at e
 subst e
 rw [Nat.zero_add]
 exact ⟨x,y,p,xb,yb,pb,xc,yc,pc,⟨h3,h4⟩,h20⟩
theorem Jm.swap {V:View}{n:Nat}{vs:List Value}{l:List L3}(h:Jm V n vs l){i j:Nat}(hi:i<l.length)(hj:j<l.length){x y:Int}{p:OA}{xb yb:Int}{pb:OA}{xc yc:Int}{pc:OA}{x' y':Int}{p':OA}{Lz LA:Int}{pb':OA}{OS S6:Int}{pc':OA}
  (h1:Hz V (.agg #[.int .i64 x,.int .i64 y,.pointer p,.int .i64 xb,.int .i64 yb,.pointer pb,.int .i64 xc,.int .i64 yc,.pointer pc]) (l.getD i Km))(h2:Hz V (.agg #[.int .i64 x',.int .i64 y',.pointer p',.int .i64 Lz,.int .i64 LA,.pointer pb',.int .i64 OS,.int .i64 S6,.pointer pc']) (l.getD j Km)) :
  (0+i*9)+9<=vs.length/\(0+j*9)+9<=(ae vs (0+i*9) [.int .i64 x',.int .i64 y',.pointer p',.int .i64 Lz,.int .i64 LA,.pointer pb',.int .i64 OS,.int .i64 S6,.pointer pc']).length /\
  Jm V n (ae (ae vs (0+i*9) [.int .i64 x',.int .i64 y',.pointer p',.int .i64 Lz,.int .i64 LA,.pointer pb',.int .i64 OS,.int .i64 S6,.pointer pc']) (0+j*9) [.int .i64 x,.int .i64 y,.pointer p,.int .i64 xb,.int .i64 yb,.pointer pb,.int .i64 xc,.int .i64 yc,.pointer pc]) (ja Km l i j):=by
 obtain ⟨-,-,-,g1,-⟩:=h.row.get (d:=Km) hi (by decide)
 obtain ⟨-,-,-,g2,-⟩:=h.row.get (d:=Km) hj (by decide)
 rw [Nat.zero_add,Nat.zero_add]
 refine ⟨g1,by rw [jD (by exact g1)];exact g2,h.row.swap hi hj (by decide) rfl rfl h1 h2,by rw [nB];exact h.len,by rw [nB];exact h.ng⟩
end Go.Proofs.Tryz
namespace Go.Proofs.Tryz
open Go.bK
set_option maxRecDepth 100000
end Go.Proofs.Tryz
namespace Go.Proofs.Tryz
open Go.bK Go.fI
structure GR {α:Type} (sz:Nat) (R:View->Value->α->Prop) (V:View) (n c:Nat) (vs:List Value) (l:List α):Prop where
 len:n=l.length
 le:n<=c
 cap:c*sz<=vs.length
 row:Row sz R V vs l
theorem GR.nil {α:Type}{sz:Nat}{R:View->Value->α->Prop}{V:View}:GR sz R V 0 0 [] []:=⟨rfl,Nat.le_refl _,by simp,Row.nil⟩
theorem GR.mono {α:Type}{sz:Nat}{R:View->Value->α->Prop}{V V':View}{n c:Nat}{vs:List Value}{l:List α}(h:GR sz R V n c vs l)(m:∀v a,R V v a->R V' v a):GR sz R V' n c vs l:=⟨h.len,h.le,h.cap,h.row.le m⟩
theorem GR.snoc {α:Type}{sz:Nat}{R:View->Value->α->Prop}{V:View}{n c:Nat}{vs:List Value}{l:List α}(h:GR sz R V n c vs l){xs:List Value}{a:α}(hx:xs.length=sz)(ha:R V (.agg xs.toArray) a)(h0:0<sz){sp:List Value}{c':Nat}(h1:n+1<=c')(h2:c'*sz<=(n+1)*sz+sp.length) :
  GR sz R V (n+1) c' (vs.take (n*sz)++xs++sp) (l++[a]):=by
 have hn:=h.len
 have hc:=h.cap
 have hl:n*sz<=c*sz:=Nat.mul_le_mul_right _ h.le
 refine ⟨by rw [List.length_append,hn];rfl,h1,?_,?_⟩
 ·have ht:(vs.take (n*sz)).length=n*sz:=by rw [List.length_take];omega
  rw [List.length_append,List.length_append,ht,hx]
  rw [Nat.succ_mul] at h2
  exact h2
 ·have:=h.row.snoc (sp:=sp) hx ha h0
  rw [←hn] at this
  exact this
end Go.Proofs.Tryz
namespace Go.Proofs.Tryz
open Go.bK
set_option maxRecDepth 100000
end Go.Proofs.Tryz
namespace Go.Proofs.Tryz
open Go.bK Go.fI
def cJ (l:L3):L3:=if l.1<0\/l.1=0/\l.2.1<0 then wK l else l
def Tr.qt:Tr->List L3
 | .leaf _=>[]
 | .node l a b=>l::(a.qt++b.qt)
theorem k_:∀t:Tr,t.qt.length=t.size
 | .leaf _=>rfl
 | .node _ a b=>by simp only [Tr.qt,List.length_cons,List.length_append,k_ a,k_ b,Tr.size]
theorem ju {p:L3->Prop}:∀{t:Tr},t.jH p->∀x∈t.qt,p x
 | .leaf _,_,x,h=>by cases h
 | .node l a b,⟨h1,h2,h3⟩,x,h=>by
  rcases List.mem_cons.1 h with rfl|h
  ·exact h1
  ·rcases List.mem_append.1 h with h|h
   ·exact ju h2 x h
   ·exact ju h3 x h
theorem Bd.rev {l:L3}(h:Bd l):Bd (wK l):=by
 obtain ⟨h1,h2,h3⟩:=h
 unfold Bd wK
 simp only [Int.natAbs_neg]
 exact ⟨h1,h2,h3⟩
theorem Bd.can {l:L3}(h:Bd l):Bd (cJ l):=by
 unfold cJ;split
 ·exact h.rev
 ·exact h
theorem Bd.HI {l:L3}(h:Bd l):yz 1000 l:=⟨h.sz.1,h.sz.2.1,h.sz.2.2⟩
theorem Gg {V:View}{P:Prop}{b:Nat}(h:P->V.H b):V.Le (V.shut.cf P b):=fun x o g=>⟨fun hh=>by
 rcases hh with hh|hh
 ·exact g.1 hh
 ·rw [hh.2.1] at g;exact g.1 (h hh.1),g.2⟩
theorem ab.NO {f:FuncId}{args:Array Value}{V:View}{R R':Value->View->Prop}(h:ab prog f args V R)(hR:∀r V',V.Le V'->(∀b,V.H b->V'.H b)->R r V'->R' r V'):ab prog f args V R':=
 ⟨h.1,h.2.mono fun _ w' ⟨r,he,hx,hr⟩=>⟨r,he,hx,hR r _ (V.Gh w' hx) (fun _ hb=>hb) hr⟩⟩
end Go.Proofs.Tryz
namespace Go.Proofs.Tryz.aA
open Go.bK Go.fI
def nv (l:L3)(v:V2):Rat:=(l.1:Rat)*v.1+(l.2.1:Rat)*v.2
def cA (l:L3):V2:=((l.2.1:Rat),-(l.1:Rat))
theorem JL (l:L3)(v:V2):nv l v=cr (cA l) v:=by unfold nv cr cA;grind
def u_ (l:L3)(p v:V2):Int:=if (cC l p.1 p.2).num.sign=0 then (nv l v).num.sign else (cC l p.1 p.2).num.sign
def jE:Tr->V2->V2->Bool×Bool
 | .leaf i,_,_=>(i,true)
 | .node l a b,p,v=>if u_ l p v=1 then jE a p v else if u_ l p v=-1 then jE b p v else (false,false)
def cS:Tr->V2->List L3
 | .leaf _,_=>[]
 | .node l a b,p=>(if cC l p.1 p.2=0 then [l] else [])++((if cC l p.1 p.2≥0 then cS a p else [])++(if cC l p.1 p.2<=0 then cS b p else []))
theorem mu:∀{t:Tr} {p:V2} {l:L3},l∈cS t p->cC l p.1 p.2=0/\l∈t.qt
 | .leaf _,_,_,h=>by cases h
 | .node m a b,p,l,h=>by
  unfold cS at h
  simp only [List.mem_append] at h
  rcases h with h|h|h
  ·split at h
   ·rename_i e;rcases List.mem_singleton.1 h with rfl;exact ⟨e,List.mem_cons_self ..⟩
   ·cases h
  ·split at h
   ·have:=mu h;exact ⟨this.1,List.mem_cons_of_mem _ (List.mem_append_left _ this.2)⟩
   ·cases h
  ·split at h
   ·have:=mu h;exact ⟨this.1,List.mem_cons_of_mem _ (List.mem_append_right _ this.2)⟩
   ·cases h
theorem zJ {q:Rat}:q.num.sign=-1↔q<0:=by
 rw [Int.sign_eq_neg_one_iff_neg,←Int.not_le,←Rat.not_le,Rat.num_nonneg]
theorem Dg {q:Rat}:q.num.sign=1↔q>0:=by
 have h:=@zJ (-q)
 rw [Rat.neg_num,Int.sign_neg] at h
 constructor
 ·intro e;have:=h.1 (by rw [e]);grind
 ·intro e;have:=h.2 (by grind);omega
theorem eC {q:Rat}:q.num.sign=0↔q=0:=by rw [Int.sign_eq_zero_iff_zero,Rat.num_eq_zero]
theorem mI:∀{t:Tr} {p v x:V2},(∀l∈cS t p,nv l v≠0)->(∀l∈cS t p,(nv l v>0->nv l x>0)/\(nv l v<0->nv l x<0)) ->
  jE t p x=jE t p v/\(jE t p v).2=true
 | .leaf _,_,_,_,_,_=>⟨rfl,rfl⟩
 | .node l a b,p,v,x,h0,h1=>by
  have ha:cC l p.1 p.2≥0->jE a p x=jE a p v/\(jE a p v).2=true:=fun e=>by
   have sub:∀m∈cS a p,m∈cS (.node l a b) p:=fun m hm=>by
    unfold cS
    rw [if_pos e]
    exact List.mem_append_right _ (List.mem_append_left _ hm)
   exact mI (fun m hm=>h0 m (sub m hm)) (fun m hm=>h1 m (sub m hm))
  have hb:cC l p.1 p.2<=0->jE b p x=jE b p v/\(jE b p v).2=true:=fun e=>by
   have sub:∀m∈cS b p,m∈cS (.node l a b) p:=fun m hm=>by
    unfold cS
    rw [if_pos e]
    exact List.mem_append_right _ (List.mem_append_right _ hm)
   exact mI (fun m hm=>h0 m (sub m hm)) (fun m hm=>h1 m (sub m hm))
  have hl:cC l p.1 p.2=0->l∈cS (.node l a b) p:=fun e=>by
   unfold cS
   rw [if_pos e]
   exact List.mem_append_left _ (List.mem_singleton.2 rfl)
  have key:u_ l p x=u_ l p v/\(u_ l p v=1/\cC l p.1 p.2≥0\/u_ l p v=-1/\cC l p.1 p.2<=0):=by
   unfold u_
   by_cases e:cC l p.1 p.2=0
   ·have hm:=hl e
    rw [if_pos (eC.2 e),if_pos (eC.2 e)]
    obtain ⟨q1,q2⟩:=h1 l hm
    have q0:=h0 l hm
    by_cases q:nv l v>0
    ·rw [Dg.2 q,Dg.2 (q1 q)];exact ⟨rfl,.inl ⟨rfl,by grind⟩⟩
    ·have q':nv l v<0:=by grind
     rw [zJ.2 q',zJ.2 (q2 q')];exact ⟨rfl,.inr ⟨rfl,by grind⟩⟩
   ·have e':¬(cC l p.1 p.2).num.sign=0:=fun h=>e (eC.1 h)
    rw [if_neg e',if_neg e']
    refine ⟨rfl,?_⟩
    by_cases q:cC l p.1 p.2>0
    ·exact .inl ⟨Dg.2 q,by grind⟩
    ·exact .inr ⟨zJ.2 (by grind),by grind⟩
  obtain ⟨k1,k2⟩:=key
  simp only [jE,k1]
  rcases k2 with ⟨e,g⟩|⟨e,g⟩
  ·rw [e,if_pos rfl,if_pos rfl];exact ha g
  ·rw [e,if_neg (by decide),if_pos rfl,if_neg (by decide),if_pos rfl];exact hb g
def Ee (D:List V2)(M:List L3):Prop:=∀l∈M,∃r∈D,∃c:Rat,c>0/\r=(c*(cA l).1,c*(cA l).2)
theorem CE {l:L3}{r:V2}{c:Rat}(c0:c>0)(e:r=(c*(cA l).1,c*(cA l).2))(v:V2):cr r v=c*nv l v:=by
 rw [JL,e];unfold cr;grind
theorem DX {c x:Rat}(c0:c>0):(c*x>0↔x>0)/\(c*x<0↔x<0)/\(c*x=0↔x=0):=by
 have p:x>0->c*x>0:=fun h=>mp c0 h
 have n:x<0->c*x<0:=fun h=>by have:=mp c0 (show -x>0 by grind);grind
 have z:x=0->c*x=0:=fun h=>by rw [h];grind
 refine ⟨⟨fun h=>?_,p⟩,⟨fun h=>?_,n⟩,⟨fun h=>?_,z⟩⟩
 ·by_cases q:x>0
  ·exact q
  ·by_cases q':x<0
   ·have:=n q';grind
   ·have:=z (by grind);grind
 ·by_cases q:x<0
  ·exact q
  ·by_cases q':x>0
   ·have:=p q';grind
   ·have:=z (by grind);grind
 ·rcases Rat.mul_eq_zero.1 h with h|h
  ·grind
  ·exact h
theorem Ee.gen {D:List V2}{M:List L3}(h:Ee D M){v:V2}(hv:∀r∈D,cr r v≠0):∀l∈M,nv l v≠0:=by
 intro l hl e
 obtain ⟨r,hr,c,c0,e'⟩:=h l hl
 exact hv r hr (by rw [CE c0 e',e];grind)
theorem Ee.same {D:List V2}{M:List L3}(h:Ee D M){v x:V2}(hv:∀r∈D,(cr r v>0->cr r x>0)/\(cr r v<0->cr r x<0)) :
  ∀l∈M,(nv l v>0->nv l x>0)/\(nv l v<0->nv l x<0):=by
 intro l hl
 obtain ⟨r,hr,c,c0,e'⟩:=h l hl
 have:=hv r hr
 rw [CE c0 e',CE c0 e'] at this
 obtain ⟨a1,a2,_⟩:=@DX c (nv l v) c0
 obtain ⟨b1,b2,_⟩:=@DX c (nv l x) c0
 exact ⟨fun h=>b1.1 (this.1 (a1.2 h)),fun h=>b2.1 (this.2 (a2.2 h))⟩
theorem Hh {D S:List V2}(h:Aj D)(hS:Fg D S):∀x∈S,nz x:=by
 intro x hx
 have g:=tv h hS x hx
 rcases hS with ⟨rfl,rfl⟩|⟨h0,_,_⟩
 ·rcases List.mem_singleton.1 hx with rfl;exact .inl (by decide)
 ·obtain ⟨d,hd⟩:=List.exists_mem_of_ne_nil D h0
  have:=g d hd
  unfold nz
  by_cases e:x.1=0
  ·right;intro e';exact this (by unfold cr;rw [e,e'];grind)
  ·exact .inl e
theorem NG {D E S':List V2}(hD:∀r∈D,nz r)(hE:Aj E)(hS':Fg E S'){t:Tr}{p x:V2}(nx:nz x)(hx:∀r∈D,cr r x≠0)(c1:Ee D (cS t p))(c2:Ee E (cS t p)) :
  ∃y∈S',jE t p y=jE t p x/\(jE t p x).2=true:=by
 obtain ⟨z,hz⟩:=Lt x nx (D++E) fun r hr=>by
  rcases List.mem_append.1 hr with h|h
  ·exact hD r h
  ·exact hE.nz r h
 have z1:∀r∈D,(cr r x>0->cr r z>0)/\(cr r x<0->cr r z<0):=fun r hr=>⟨(hz r (List.mem_append_left _ hr)).1,(hz r (List.mem_append_left _ hr)).2.1⟩
 have z2:∀r∈E,cr r z≠0:=fun r hr=>(hz r (List.mem_append_right _ hr)).2.2
 obtain ⟨y,hy,y1⟩:=I7 hE hS' z2
 have t1:=mI (c1.gen hx) (c1.same z1)
 have t2:=mI (c2.gen z2) (c2.same y1)
 exact ⟨y,hy,t2.1.trans t1.1,t1.2⟩
def anyS (t:Tr)(p:V2)(S:List V2):Bool:=S.any fun v=>(jE t p v).1
def jI (t:Tr)(p:V2)(S:List V2):Bool:=S.all fun v=>(jE t p v).1
theorem Lg {D S E S':List V2}(hD:Aj D)(hS:Fg D S)(hE:Aj E)(hS':Fg E S'){t:Tr}{p:V2}(c1:Ee D (cS t p))(c2:Ee E (cS t p)) :
  anyS t p S=anyS t p S'/\jI t p S=jI t p S':=by
 have a:∀x∈S,∃y∈S',jE t p y=jE t p x:=fun x hx=>by
  obtain ⟨y,hy,e,_⟩:=NG hD.nz hE hS' (Hh hD hS x hx) (tv hD hS x hx) c1 c2
  exact ⟨y,hy,e⟩
 have b:∀x∈S',∃y∈S,jE t p y=jE t p x:=fun x hx=>by
  obtain ⟨y,hy,e,_⟩:=NG hE.nz hD hS (Hh hE hS' x hx) (tv hE hS' x hx) c2 c1
  exact ⟨y,hy,e⟩
 unfold anyS jI
 constructor
 ·rw [Bool.eq_iff_iff,List.any_eq_true,List.any_eq_true]
  constructor
  ·rintro ⟨x,hx,h⟩;obtain ⟨y,hy,e⟩:=a x hx;exact ⟨y,hy,by rw [e];exact h⟩
  ·rintro ⟨x,hx,h⟩;obtain ⟨y,hy,e⟩:=b x hx;exact ⟨y,hy,by rw [e];exact h⟩
 ·rw [Bool.eq_iff_iff,List.all_eq_true,List.all_eq_true]
  constructor
  ·intro h x hx;obtain ⟨y,hy,e⟩:=b x hx;rw [←e];exact h y hy
  ·intro h x hx;obtain ⟨y,hy,e⟩:=a x hx;rw [←e];exact h y hy
theorem inv_mul {c:Rat}(h:c≠0)(a:Rat):a*c⁻¹*c=a:=by rw [Rat.mul_assoc,Rat.inv_mul_cancel _ h,Rat.mul_one]
end Go.Proofs.Tryz.aA
