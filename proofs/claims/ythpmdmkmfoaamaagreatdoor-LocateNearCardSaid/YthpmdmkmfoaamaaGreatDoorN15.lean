import Derived.Test.YthpmdmkmfoaamaaGreatDoorN14
import Derived.Test.YthpmdmkmfoaamaaGreatDoorN7
import Derived.Test.YthpmdmkmfoaamaaGreatDoorN13
import Derived.Test.YthpmdmkmfoaamaaGreatDoorN5
import Derived.Test.YthpmdmkmfoaamaaGreatDoorN10
set_option linter.unusedVariables false
open Go.IntKind (i64 u64 u32)
namespace Go.Proofs.Tryz
open Go.bL Go.fN
theorem iT {V:View}{v:Value}{q:Rat}(h:RQ V v q){k:Nat}(_s:Sz k q)(_hk:k<=1099511627776):ab prog 61 #[v] V fun r V'=>RQ V' r (-q):=by
 obtain ⟨p,n,c,p',n',c',rfl,h1,h2⟩:=h
 exact kv q h1 h2
theorem bf {V:View}{z:Int}{p:OA}{n c:Nat}(h:RD V p n c (ai z.natAbs)){k:Nat}(_s:Sz k (z:Rat))(_hk:k<=1099511627776) :
  ab prog 97 #[.agg #[.bool (decide (z<0)),.slice p n c]] V fun r V'=>RQ V' r (z:Rat):=EZ z h
theorem jz {V:View}{l:Value}{aK l_1 bX:Int}(hl:RL V l aK l_1 bX){k:Nat}(bG:Sz k ((aK:Int):Rat))(bJ:Sz k ((l_1:Int):Rat))(bK:Sz k ((bX:Int):Rat))(hk:1*k+1<274877906944) :
  ab prog 56 #[l] V fun r V'=>RP V' r (((l_1:Int):Rat)) (-(((aK:Int):Rat))):=by
 have hl0:=hl
 obtain ⟨l0,l1,l2,l3,l4,l5,l6,l7,l8,rfl,uM,uN,zF⟩:=hl
 refine At _ l0 l1 l2 _ l3 l4 l5 _ l6 l7 l8 V _ fun V1 l1=>(bf (uN.le (l1)) bJ (by omega)).mono ?_
 rintro r V2 l2 g1
 have g10:=g1
 obtain ⟨Ky,Kz,KA,VN,VO,VQ,rfl⟩:=g1.shape
 have bA:Sz (1*k+0) (((l_1:Int):Rat)):=Sz.mono (bJ) (by omega)
 refine ⟨_,_,_,_,_,_,_,rfl,fun V3 l3=>(bf (uM.le (l1.trans (l2.trans (l3)))) bG (by omega)).mono ?_⟩
 rintro r V4 l4 g2
 have g20:=g2
 obtain ⟨KB,KC,KD,TT,TU,TV,rfl⟩:=g2.shape
 have bP:Sz (1*k+0) (((aK:Int):Rat)):=Sz.mono (bG) (by omega)
 refine ⟨_,_,_,_,_,_,_,rfl,fun V5 l5=>(iT (g20.le (l5)) bP (by omega)).mono ?_⟩
 rintro r V6 l6 g3
 have Bk:=g3
 obtain ⟨MH,MI,MJ,TW,TX,TY,rfl⟩:=g3.shape
 have dG:Sz (1*k+0) (-(((aK:Int):Rat))):=Sz.mono (Sz.neg bP) (by omega)
 exact ⟨_,_,_,_,_,_,_,rfl,fun V7 l7=>⟨_,_,_,_,_,_,_,_,_,_,_,_,rfl,(g10.le (l3.trans (l4.trans (l5.trans (l6.trans (l7)))))),(Bk.le (l7))⟩⟩
theorem gH {aK:Int}{l_1:Int}{bX:Int}{k:Nat}(bG:Sz k ((aK:Int):Rat))(bJ:Sz k ((l_1:Int):Rat))(bK:Sz k ((bX:Int):Rat)):Sz (1*k+0) (((l_1:Int):Rat)):=by
 have bA:Sz (1*k+0) (((l_1:Int):Rat)):=Sz.mono (bJ) (by omega)
 have bP:Sz (1*k+0) (((aK:Int):Rat)):=Sz.mono (bG) (by omega)
 have dG:Sz (1*k+0) (-(((aK:Int):Rat))):=Sz.mono (Sz.neg bP) (by omega)
 exact Sz.mono bA (by omega)
theorem gI {aK:Int}{l_1:Int}{bX:Int}{k:Nat}(bG:Sz k ((aK:Int):Rat))(bJ:Sz k ((l_1:Int):Rat))(bK:Sz k ((bX:Int):Rat)):Sz (1*k+0) (-(((aK:Int):Rat))):=by
 have bA:Sz (1*k+0) (((l_1:Int):Rat)):=Sz.mono (bJ) (by omega)
 have bP:Sz (1*k+0) (((aK:Int):Rat)):=Sz.mono (bG) (by omega)
 have dG:Sz (1*k+0) (-(((aK:Int):Rat))):=Sz.mono (Sz.neg bP) (by omega)
 exact Sz.mono dG (by omega)
theorem A3 {V:View}{p:Value}{cO cN:Rat}{q:Value}{jL jM:Rat}(hp:RP V p cO cN)(hq:RP V q jL jM){k:Nat}(dB:Sz k cO)(cZ:Sz k cN)(j_:Sz k jL)(kb:Sz k jM)(hk:4*k+3<274877906944) :
  ab prog 117 #[p,q] V fun r V'=>RQ V' r (((cO)*(jL))+((cN)*(jM))):=by
 have hp0:=hp
 obtain ⟨p0,p1,p2,p3,p4,p5,p6,p7,p8,p9,Ie,LM,rfl,pT,pU⟩:=hp
 have hq0:=hq
 obtain ⟨q0,q1,q2,q3,q4,q5,q6,q7,q8,q9,LN,X5,rfl,Dc,Dd⟩:=hq
 refine Au _ p0 p1 p2 p3 p4 p5 _ p6 p7 p8 p9 Ie LM _ q0 q1 q2 q3 q4 q5 _ q6 q7 q8 q9 LN X5 V _ fun V1 l1=>(aO (pT.le (l1)) (Dc.le (l1)) dB j_ (by omega)).mono ?_
 rintro r V2 l2 g1
 have g10:=g1
 obtain ⟨Ky,Kz,KA,VN,VO,VQ,rfl⟩:=g1.shape
 have bA:Sz (2*k+1) ((cO)*(jL)):=Sz.mono (Sz.mul dB j_) (by omega)
 refine ⟨_,_,_,_,_,_,_,rfl,fun V3 l3=>(aO (pU.le (l1.trans (l2.trans (l3)))) (Dd.le (l1.trans (l2.trans (l3)))) cZ kb (by omega)).mono ?_⟩
 rintro r V4 l4 g2
 have g20:=g2
 obtain ⟨KB,KC,KD,TT,TU,TV,rfl⟩:=g2.shape
 have bP:Sz (2*k+1) ((cN)*(jM)):=Sz.mono (Sz.mul cZ kb) (by omega)
 refine ⟨_,_,_,_,_,_,_,rfl,fun V5 l5=>(eI (g10.le (l3.trans (l4.trans (l5)))) (g20.le (l5)) bA bP (by omega)).mono ?_⟩
 rintro r V6 l6 g3
 have Bk:=g3
 obtain ⟨MH,MI,MJ,TW,TX,TY,rfl⟩:=g3.shape
 have dG:Sz (4*k+3) (((cO)*(jL))+((cN)*(jM))):=Sz.mono (Sz.add bA bP) (by omega)
 exact ⟨_,_,_,_,_,_,_,rfl,fun V7 l7=>(Bk.le (l7))⟩
theorem kj {cO:Rat}{cN:Rat}{jL:Rat}{jM:Rat}{k:Nat}(dB:Sz k cO)(cZ:Sz k cN)(j_:Sz k jL)(kb:Sz k jM):Sz (4*k+3) (((cO)*(jL))+((cN)*(jM))):=by
 have bA:Sz (2*k+1) ((cO)*(jL)):=Sz.mono (Sz.mul dB j_) (by omega)
 have bP:Sz (2*k+1) ((cN)*(jM)):=Sz.mono (Sz.mul cZ kb) (by omega)
 have dG:Sz (4*k+3) (((cO)*(jL))+((cN)*(jM))):=Sz.mono (Sz.add bA bP) (by omega)
 exact Sz.mono dG (by omega)
theorem gz {V:View}{l:Value}{aK l_1 bX:Int}{p:Value}{cO cN:Rat}(hl:RL V l aK l_1 bX)(hp:RP V p cO cN){k:Nat}(bG:Sz k ((aK:Int):Rat))(bJ:Sz k ((l_1:Int):Rat))(bK:Sz k ((bX:Int):Rat))(dB:Sz k cO)(cZ:Sz k cN)(hk:5*k+4<274877906944) :
  ab prog 66 #[l,p] V fun r V'=>RQ V' r ((((((aK:Int):Rat))*(cO))+((((l_1:Int):Rat))*(cN)))+(((bX:Int):Rat))):=by
 have hl0:=hl
 obtain ⟨l0,l1,l2,l3,l4,l5,l6,l7,l8,rfl,uM,uN,zF⟩:=hl
 have hp0:=hp
 obtain ⟨p0,p1,p2,p3,p4,p5,p6,p7,p8,p9,Ie,LM,rfl,pT,pU⟩:=hp
 refine we _ l0 l1 l2 _ l3 l4 l5 _ l6 l7 l8 _ p0 p1 p2 p3 p4 p5 _ p6 p7 p8 p9 Ie LM V _ fun V1 l1=>(bf (uM.le (l1)) bG (by omega)).mono ?_
 rintro r V2 l2 g1
 have g10:=g1
 obtain ⟨Ky,Kz,KA,VN,VO,VQ,rfl⟩:=g1.shape
 have bA:Sz (1*k+0) (((aK:Int):Rat)):=Sz.mono (bG) (by omega)
 refine ⟨_,_,_,_,_,_,_,rfl,fun V3 l3=>(aO (g10.le (l3)) (pT.le (l1.trans (l2.trans (l3)))) bA dB (by omega)).mono ?_⟩
 rintro r V4 l4 g2
 have g20:=g2
 obtain ⟨KB,KC,KD,TT,TU,TV,rfl⟩:=g2.shape
 have bP:Sz (2*k+1) ((((aK:Int):Rat))*(cO)):=Sz.mono (Sz.mul bA dB) (by omega)
 refine ⟨_,_,_,_,_,_,_,rfl,fun V5 l5=>(bf (uN.le (l1.trans (l2.trans (l3.trans (l4.trans (l5)))))) bJ (by omega)).mono ?_⟩
 rintro r V6 l6 g3
 have Bk:=g3
 obtain ⟨MH,MI,MJ,TW,TX,TY,rfl⟩:=g3.shape
 have dG:Sz (1*k+0) (((l_1:Int):Rat)):=Sz.mono (bJ) (by omega)
 refine ⟨_,_,_,_,_,_,_,rfl,fun V7 l7=>(aO (Bk.le (l7)) (pU.le (l1.trans (l2.trans (l3.trans (l4.trans (l5.trans (l6.trans (l7)))))))) dG cZ (by omega)).mono ?_⟩
 rintro r V8 l8 g4
 have Q3:=g4
 obtain ⟨YK,YL,YM,YN,YO,YP,rfl⟩:=g4.shape
 have mj:Sz (2*k+1) ((((l_1:Int):Rat))*(cN)):=Sz.mono (Sz.mul dG cZ) (by omega)
 refine ⟨_,_,_,_,_,_,_,rfl,fun V9 l9=>(eI (g20.le (l5.trans (l6.trans (l7.trans (l8.trans (l9)))))) (Q3.le (l9)) bP mj (by omega)).mono ?_⟩
 rintro r ie l10 g5
 have PY:=g5
 obtain ⟨YQ,YR,YS,YT,YU,YV,rfl⟩:=g5.shape
 have nU:Sz (4*k+3) (((((aK:Int):Rat))*(cO))+((((l_1:Int):Rat))*(cN))):=Sz.mono (Sz.add bP mj) (by omega)
 refine ⟨_,_,_,_,_,_,_,rfl,fun gV bI=>(bf (zF.le (l1.trans (l2.trans (l3.trans (l4.trans (l5.trans (l6.trans (l7.trans (l8.trans (l9.trans (l10.trans (bI)))))))))))) bK (by omega)).mono ?_⟩
 rintro r lO cg g6
 have Q4:=g6
 obtain ⟨YW,YX,YY,YZ,Y0,Y1,rfl⟩:=g6.shape
 have AB:Sz (1*k+0) (((bX:Int):Rat)):=Sz.mono (bK) (by omega)
 refine ⟨_,_,_,_,_,_,_,rfl,fun me cp=>(eI (PY.le (bI.trans (cg.trans (cp)))) (Q4.le (cp)) nU AB (by omega)).mono ?_⟩
 rintro r pC dz g7
 have Q5:=g7
 obtain ⟨Y2,Y3,Y4,Y5,Y6,Y7,rfl⟩:=g7.shape
 have JP:Sz (5*k+4) ((((((aK:Int):Rat))*(cO))+((((l_1:Int):Rat))*(cN)))+(((bX:Int):Rat))):=Sz.mono (Sz.add nU AB) (by omega)
 exact ⟨_,_,_,_,_,_,_,rfl,fun nh dm=>(Q5.le (dm))⟩
theorem zj {V:View}{l:Value}{aK l_1 bX:Int}(hl:RL V l aK l_1 bX)(hd0:((((((l_1:Int):Rat)))*((((l_1:Int):Rat))))+(((-(((aK:Int):Rat))))*((-(((aK:Int):Rat)))))).num≠0){k:Nat}(bG:Sz k ((aK:Int):Rat))(bJ:Sz k ((l_1:Int):Rat))(bK:Sz k ((bX:Int):Rat))(hk:6*k+5<274877906944) :
  ab prog 72 #[l] V fun r V'=>RP V' r ((-((((bX:Int):Rat))*((((((l_1:Int):Rat)))*((((l_1:Int):Rat))))+(((-(((aK:Int):Rat))))*((-(((aK:Int):Rat))))))⁻¹))*(((aK:Int):Rat))) ((-((((bX:Int):Rat))*((((((l_1:Int):Rat)))*((((l_1:Int):Rat))))+(((-(((aK:Int):Rat))))*((-(((aK:Int):Rat))))))⁻¹))*(((l_1:Int):Rat))):=by
 have hl0:=hl
 obtain ⟨l0,l1,l2,l3,l4,l5,l6,l7,l8,rfl,uM,uN,zF⟩:=hl
 refine xp _ l0 l1 l2 _ l3 l4 l5 _ l6 l7 l8 V _ fun V1 l1=>(jz (hl0.le (l1)) (Sz.mono bG (by omega):Sz (1*k+0) _) (Sz.mono bJ (by omega):Sz (1*k+0) _) (Sz.mono bK (by omega):Sz (1*k+0) _) (by omega)).mono ?_
 rintro r V2 l2 g1
 have g10:=g1
 obtain ⟨Pn,Po,Pr,Ps,Pt,Pu,TO,TP,TQ,TR,Pp,Pq,rfl,Np,Nq⟩:=g1
 have bA:Sz (1*k+0) (((l_1:Int):Rat)):=Sz.mono ((gH (Sz.mono bG (by omega):Sz (1*k+0) _) (Sz.mono bJ (by omega):Sz (1*k+0) _) (Sz.mono bK (by omega):Sz (1*k+0) _))) (by omega)
 have dW:Sz (1*k+0) (-(((aK:Int):Rat))):=Sz.mono ((gI (Sz.mono bG (by omega):Sz (1*k+0) _) (Sz.mono bJ (by omega):Sz (1*k+0) _) (Sz.mono bK (by omega):Sz (1*k+0) _))) (by omega)
 refine ⟨_,_,_,_,_,_,_,_,_,_,_,_,_,_,rfl,fun V3 l3=>(bf (zF.le (l1.trans (l2.trans (l3)))) bK (by omega)).mono ?_⟩
 rintro r V4 l4 g2
 have g20:=g2
 obtain ⟨KB,KC,KD,TT,TU,TV,rfl⟩:=g2.shape
 have bP:Sz (1*k+0) (((bX:Int):Rat)):=Sz.mono (bK) (by omega)
 refine ⟨_,_,_,_,_,_,_,rfl,fun V5 l5=>(A3 (g10.le (l3.trans (l4.trans (l5)))) (g10.le (l3.trans (l4.trans (l5)))) (Sz.mono bA (by omega):Sz (1*k+0) _) (Sz.mono dW (by omega):Sz (1*k+0) _) (Sz.mono bA (by omega):Sz (1*k+0) _) (Sz.mono dW (by omega):Sz (1*k+0) _) (by omega)).mono ?_⟩
 rintro r V6 l6 g3
 have Bk:=g3
 obtain ⟨MH,MI,MJ,TW,TX,TY,rfl⟩:=g3.shape
 have dG:Sz (4*k+3) ((((((l_1:Int):Rat)))*((((l_1:Int):Rat))))+(((-(((aK:Int):Rat))))*((-(((aK:Int):Rat)))))):=Sz.mono ((kj (Sz.mono bA (by omega):Sz (1*k+0) _) (Sz.mono dW (by omega):Sz (1*k+0) _) (Sz.mono bA (by omega):Sz (1*k+0) _) (Sz.mono dW (by omega):Sz (1*k+0) _))) (by omega)
 refine ⟨_,_,_,_,_,_,_,rfl,fun V7 l7=>(iU (g20.le (l5.trans (l6.trans (l7)))) (Bk.le (l7)) hd0 bP dG (by omega)).mono ?_⟩
 rintro r V8 l8 g4
 have Q3:=g4
 obtain ⟨YK,YL,YM,YN,YO,YP,rfl⟩:=g4.shape
 have mj:Sz (5*k+4) ((((bX:Int):Rat))*((((((l_1:Int):Rat)))*((((l_1:Int):Rat))))+(((-(((aK:Int):Rat))))*((-(((aK:Int):Rat))))))⁻¹):=Sz.mono (Sz.mul bP (fX dG)) (by omega)
 refine ⟨_,_,_,_,_,_,_,rfl,fun V9 l9=>(iT (Q3.le (l9)) mj (by omega)).mono ?_⟩
 rintro r ie l10 g5
 have PY:=g5
 obtain ⟨YQ,YR,YS,YT,YU,YV,rfl⟩:=g5.shape
 have nU:Sz (5*k+4) (-((((bX:Int):Rat))*((((((l_1:Int):Rat)))*((((l_1:Int):Rat))))+(((-(((aK:Int):Rat))))*((-(((aK:Int):Rat))))))⁻¹)):=Sz.mono (Sz.neg mj) (by omega)
 refine ⟨_,_,_,_,_,_,_,rfl,fun gV bI=>(bf (uM.le (l1.trans (l2.trans (l3.trans (l4.trans (l5.trans (l6.trans (l7.trans (l8.trans (l9.trans (l10.trans (bI)))))))))))) bG (by omega)).mono ?_⟩
 rintro r lO cg g6
 have Q4:=g6
 obtain ⟨YW,YX,YY,YZ,Y0,Y1,rfl⟩:=g6.shape
 have AB:Sz (1*k+0) (((aK:Int):Rat)):=Sz.mono (bG) (by omega)
 refine ⟨_,_,_,_,_,_,_,rfl,fun me cp=>(aO (PY.le (bI.trans (cg.trans (cp)))) (Q4.le (cp)) nU AB (by omega)).mono ?_⟩
 rintro r pC dz g7
 have Q5:=g7
 obtain ⟨Y2,Y3,Y4,Y5,Y6,Y7,rfl⟩:=g7.shape
 have JP:Sz (6*k+5) ((-((((bX:Int):Rat))*((((((l_1:Int):Rat)))*((((l_1:Int):Rat))))+(((-(((aK:Int):Rat))))*((-(((aK:Int):Rat))))))⁻¹))*(((aK:Int):Rat))):=Sz.mono (Sz.mul nU AB) (by omega)
 refine ⟨_,_,_,_,_,_,_,rfl,fun nh dm=>(bf (uN.le (l1.trans (l2.trans (l3.trans (l4.trans (l5.trans (l6.trans (l7.trans (l8.trans (l9.trans (l10.trans (bI.trans (cg.trans (cp.trans (dz.trans (dm)))))))))))))))) bJ (by omega)).mono ?_⟩
 rintro r mr cS g8
 have WZ:=g8
 obtain ⟨ZO,ZP,ZQ,ZR,ZS,ZT,rfl⟩:=g8.shape
 have FH:Sz (1*k+0) (((l_1:Int):Rat)):=Sz.mono (bJ) (by omega)
 refine ⟨_,_,_,_,_,_,_,rfl,fun nN cP=>(aO (PY.le (bI.trans (cg.trans (cp.trans (dz.trans (dm.trans (cS.trans (cP)))))))) (WZ.le (cP)) nU FH (by omega)).mono ?_⟩
 rintro r pH df g9
 have W0:=g9
 obtain ⟨ZU,ZV,ZW,ZX,ZY,ZZ,rfl⟩:=g9.shape
 have Mn:Sz (6*k+5) ((-((((bX:Int):Rat))*((((((l_1:Int):Rat)))*((((l_1:Int):Rat))))+(((-(((aK:Int):Rat))))*((-(((aK:Int):Rat))))))⁻¹))*(((l_1:Int):Rat))):=Sz.mono (Sz.mul nU FH) (by omega)
 exact ⟨_,_,_,_,_,_,_,rfl,fun rP dA=>⟨_,_,_,_,_,_,_,_,_,_,_,_,rfl,(Q5.le (dm.trans (cS.trans (cP.trans (df.trans (dA)))))),(W0.le (dA))⟩⟩
theorem wu {aK:Int}{l_1:Int}{bX:Int}{k:Nat}(bG:Sz k ((aK:Int):Rat))(bJ:Sz k ((l_1:Int):Rat))(bK:Sz k ((bX:Int):Rat)):Sz (6*k+5) ((-((((bX:Int):Rat))*((((((l_1:Int):Rat)))*((((l_1:Int):Rat))))+(((-(((aK:Int):Rat))))*((-(((aK:Int):Rat))))))⁻¹))*(((aK:Int):Rat))):=by
 have bA:Sz (1*k+0) (((l_1:Int):Rat)):=Sz.mono ((gH (Sz.mono bG (by omega):Sz (1*k+0) _) (Sz.mono bJ (by omega):Sz (1*k+0) _) (Sz.mono bK (by omega):Sz (1*k+0) _))) (by omega)
 have dW:Sz (1*k+0) (-(((aK:Int):Rat))):=Sz.mono ((gI (Sz.mono bG (by omega):Sz (1*k+0) _) (Sz.mono bJ (by omega):Sz (1*k+0) _) (Sz.mono bK (by omega):Sz (1*k+0) _))) (by omega)
 have bP:Sz (1*k+0) (((bX:Int):Rat)):=Sz.mono (bK) (by omega)
 have dG:Sz (4*k+3) ((((((l_1:Int):Rat)))*((((l_1:Int):Rat))))+(((-(((aK:Int):Rat))))*((-(((aK:Int):Rat)))))):=Sz.mono ((kj (Sz.mono bA (by omega):Sz (1*k+0) _) (Sz.mono dW (by omega):Sz (1*k+0) _) (Sz.mono bA (by omega):Sz (1*k+0) _) (Sz.mono dW (by omega):Sz (1*k+0) _))) (by omega)
 have mj:Sz (5*k+4) ((((bX:Int):Rat))*((((((l_1:Int):Rat)))*((((l_1:Int):Rat))))+(((-(((aK:Int):Rat))))*((-(((aK:Int):Rat))))))⁻¹):=Sz.mono (Sz.mul bP (fX dG)) (by omega)
 have nU:Sz (5*k+4) (-((((bX:Int):Rat))*((((((l_1:Int):Rat)))*((((l_1:Int):Rat))))+(((-(((aK:Int):Rat))))*((-(((aK:Int):Rat))))))⁻¹)):=Sz.mono (Sz.neg mj) (by omega)
 have AB:Sz (1*k+0) (((aK:Int):Rat)):=Sz.mono (bG) (by omega)
 have JP:Sz (6*k+5) ((-((((bX:Int):Rat))*((((((l_1:Int):Rat)))*((((l_1:Int):Rat))))+(((-(((aK:Int):Rat))))*((-(((aK:Int):Rat))))))⁻¹))*(((aK:Int):Rat))):=Sz.mono (Sz.mul nU AB) (by omega)
 have FH:Sz (1*k+0) (((l_1:Int):Rat)):=Sz.mono (bJ) (by omega)
 have Mn:Sz (6*k+5) ((-((((bX:Int):Rat))*((((((l_1:Int):Rat)))*((((l_1:Int):Rat))))+(((-(((aK:Int):Rat))))*((-(((aK:Int):Rat))))))⁻¹))*(((l_1:Int):Rat))):=Sz.mono (Sz.mul nU FH) (by omega)
 exact Sz.mono JP (by omega)
theorem wz {aK:Int}{l_1:Int}{bX:Int}{k:Nat}(bG:Sz k ((aK:Int):Rat))(bJ:Sz k ((l_1:Int):Rat))(bK:Sz k ((bX:Int):Rat)):Sz (6*k+5) ((-((((bX:Int):Rat))*((((((l_1:Int):Rat)))*((((l_1:Int):Rat))))+(((-(((aK:Int):Rat))))*((-(((aK:Int):Rat))))))⁻¹))*(((l_1:Int):Rat))):=by
 have bA:Sz (1*k+0) (((l_1:Int):Rat)):=Sz.mono ((gH (Sz.mono bG (by omega):Sz (1*k+0) _) (Sz.mono bJ (by omega):Sz (1*k+0) _) (Sz.mono bK (by omega):Sz (1*k+0) _))) (by omega)
 have dW:Sz (1*k+0) (-(((aK:Int):Rat))):=Sz.mono ((gI (Sz.mono bG (by omega):Sz (1*k+0) _) (Sz.mono bJ (by omega):Sz (1*k+0) _) (Sz.mono bK (by omega):Sz (1*k+0) _))) (by omega)
 have bP:Sz (1*k+0) (((bX:Int):Rat)):=Sz.mono (bK) (by omega)
 have dG:Sz (4*k+3) ((((((l_1:Int):Rat)))*((((l_1:Int):Rat))))+(((-(((aK:Int):Rat))))*((-(((aK:Int):Rat)))))):=Sz.mono ((kj (Sz.mono bA (by omega):Sz (1*k+0) _) (Sz.mono dW (by omega):Sz (1*k+0) _) (Sz.mono bA (by omega):Sz (1*k+0) _) (Sz.mono dW (by omega):Sz (1*k+0) _))) (by omega)
 have mj:Sz (5*k+4) ((((bX:Int):Rat))*((((((l_1:Int):Rat)))*((((l_1:Int):Rat))))+(((-(((aK:Int):Rat))))*((-(((aK:Int):Rat))))))⁻¹):=Sz.mono (Sz.mul bP (fX dG)) (by omega)
 have nU:Sz (5*k+4) (-((((bX:Int):Rat))*((((((l_1:Int):Rat)))*((((l_1:Int):Rat))))+(((-(((aK:Int):Rat))))*((-(((aK:Int):Rat))))))⁻¹)):=Sz.mono (Sz.neg mj) (by omega)
 have AB:Sz (1*k+0) (((aK:Int):Rat)):=Sz.mono (bG) (by omega)
 have JP:Sz (6*k+5) ((-((((bX:Int):Rat))*((((((l_1:Int):Rat)))*((((l_1:Int):Rat))))+(((-(((aK:Int):Rat))))*((-(((aK:Int):Rat))))))⁻¹))*(((aK:Int):Rat))):=Sz.mono (Sz.mul nU AB) (by omega)
 have FH:Sz (1*k+0) (((l_1:Int):Rat)):=Sz.mono (bJ) (by omega)
 have Mn:Sz (6*k+5) ((-((((bX:Int):Rat))*((((((l_1:Int):Rat)))*((((l_1:Int):Rat))))+(((-(((aK:Int):Rat))))*((-(((aK:Int):Rat))))))⁻¹))*(((l_1:Int):Rat))):=Sz.mono (Sz.mul nU FH) (by omega)
 exact Sz.mono Mn (by omega)
theorem CY {V:View}{l:Value}{aK l_1 bX:Int}{t:Value}{yH:Rat}(hl:RL V l aK l_1 bX)(ht:RQ V t yH)(hd0:((((((l_1:Int):Rat)))*((((l_1:Int):Rat))))+(((-(((aK:Int):Rat))))*((-(((aK:Int):Rat)))))).num≠0){k:Nat}(bG:Sz k ((aK:Int):Rat))(bJ:Sz k ((l_1:Int):Rat))(bK:Sz k ((bX:Int):Rat))(Ad:Sz k yH)(hk:18*k+16<274877906944) :
  ab prog 23 #[l,t] V fun r V'=>RP V' r (((-((((bX:Int):Rat))*((((((l_1:Int):Rat)))*((((l_1:Int):Rat))))+(((-(((aK:Int):Rat))))*((-(((aK:Int):Rat))))))⁻¹))*(((aK:Int):Rat)))+(yH)*(((l_1:Int):Rat))) (((-((((bX:Int):Rat))*((((((l_1:Int):Rat)))*((((l_1:Int):Rat))))+(((-(((aK:Int):Rat))))*((-(((aK:Int):Rat))))))⁻¹))*(((l_1:Int):Rat)))+(yH)*(-(((aK:Int):Rat)))):=by
 have hl0:=hl
 obtain ⟨l0,l1,l2,l3,l4,l5,l6,l7,l8,rfl,uM,uN,zF⟩:=hl
 have ht0:=ht
 obtain ⟨t0,t1,t2,t3,t4,t5,rfl⟩:=ht.shape
 refine Cz _ l0 l1 l2 _ l3 l4 l5 _ l6 l7 l8 _ t0 t1 t2 t3 t4 t5 V _ fun V1 l1=>(zj (hl0.le (l1)) hd0 (Sz.mono bG (by omega):Sz (1*k+0) _) (Sz.mono bJ (by omega):Sz (1*k+0) _) (Sz.mono bK (by omega):Sz (1*k+0) _) (by omega)).mono ?_
 rintro r V2 l2 g1
 have g10:=g1
 obtain ⟨Pn,Po,Pr,Ps,Pt,Pu,TO,TP,TQ,TR,Pp,Pq,rfl,Np,Nq⟩:=g1
 have bA:Sz (6*k+5) ((-((((bX:Int):Rat))*((((((l_1:Int):Rat)))*((((l_1:Int):Rat))))+(((-(((aK:Int):Rat))))*((-(((aK:Int):Rat))))))⁻¹))*(((aK:Int):Rat))):=Sz.mono ((wu (Sz.mono bG (by omega):Sz (1*k+0) _) (Sz.mono bJ (by omega):Sz (1*k+0) _) (Sz.mono bK (by omega):Sz (1*k+0) _))) (by omega)
 have dW:Sz (6*k+5) ((-((((bX:Int):Rat))*((((((l_1:Int):Rat)))*((((l_1:Int):Rat))))+(((-(((aK:Int):Rat))))*((-(((aK:Int):Rat))))))⁻¹))*(((l_1:Int):Rat))):=Sz.mono ((wz (Sz.mono bG (by omega):Sz (1*k+0) _) (Sz.mono bJ (by omega):Sz (1*k+0) _) (Sz.mono bK (by omega):Sz (1*k+0) _))) (by omega)
 refine ⟨_,_,_,_,_,_,_,_,_,_,_,_,_,_,rfl,fun V3 l3=>(jz (hl0.le (l1.trans (l2.trans (l3)))) (Sz.mono bG (by omega):Sz (1*k+0) _) (Sz.mono bJ (by omega):Sz (1*k+0) _) (Sz.mono bK (by omega):Sz (1*k+0) _) (by omega)).mono ?_⟩
 rintro r V4 l4 g2
 have g20:=g2
 obtain ⟨Yq,Yr,Ys,Yt,Yu,Yv,Yw,Yx,Yy,Yz,VS,VT,rfl,WX,WY⟩:=g2
 have bP:Sz (1*k+0) (((l_1:Int):Rat)):=Sz.mono ((gH (Sz.mono bG (by omega):Sz (1*k+0) _) (Sz.mono bJ (by omega):Sz (1*k+0) _) (Sz.mono bK (by omega):Sz (1*k+0) _))) (by omega)
 have CB:Sz (1*k+0) (-(((aK:Int):Rat))):=Sz.mono ((gI (Sz.mono bG (by omega):Sz (1*k+0) _) (Sz.mono bJ (by omega):Sz (1*k+0) _) (Sz.mono bK (by omega):Sz (1*k+0) _))) (by omega)
 refine ⟨_,_,_,_,_,_,_,_,_,_,_,_,_,_,rfl,fun V5 l5=>(eO (g10.le (l3.trans (l4.trans (l5)))) (ht0.le (l1.trans (l2.trans (l3.trans (l4.trans (l5)))))) (g20.le (l5)) (Sz.mono bA (by omega):Sz (6*k+5) _) (Sz.mono dW (by omega):Sz (6*k+5) _) (Sz.mono Ad (by omega):Sz (6*k+5) _) (Sz.mono bP (by omega):Sz (6*k+5) _) (Sz.mono CB (by omega):Sz (6*k+5) _) (by omega)).mono ?_⟩
 rintro r V6 l6 g3
 have Bk:=g3
 obtain ⟨YA,YB,YC,YD,YE,YF,YG,YH,YI,YJ,VU,VV,rfl,Q1,Q2⟩:=g3
 have dG:Sz (18*k+17) (((-((((bX:Int):Rat))*((((((l_1:Int):Rat)))*((((l_1:Int):Rat))))+(((-(((aK:Int):Rat))))*((-(((aK:Int):Rat))))))⁻¹))*(((aK:Int):Rat)))+(yH)*(((l_1:Int):Rat))):=Sz.mono (Sz.add (Sz.mono bA (by omega):Sz (6*k+5) _) (Sz.mul (Sz.mono Ad (by omega):Sz (6*k+5) _) (Sz.mono bP (by omega):Sz (6*k+5) _))) (by omega)
 have FG:Sz (18*k+17) (((-((((bX:Int):Rat))*((((((l_1:Int):Rat)))*((((l_1:Int):Rat))))+(((-(((aK:Int):Rat))))*((-(((aK:Int):Rat))))))⁻¹))*(((l_1:Int):Rat)))+(yH)*(-(((aK:Int):Rat)))):=Sz.mono (Sz.add (Sz.mono dW (by omega):Sz (6*k+5) _) (Sz.mul (Sz.mono Ad (by omega):Sz (6*k+5) _) (Sz.mono CB (by omega):Sz (6*k+5) _))) (by omega)
 exact ⟨_,_,_,_,_,_,_,_,_,_,_,_,_,_,rfl,fun V7 l7=>⟨_,_,_,_,_,_,_,_,_,_,_,_,rfl,(Q1.le (l7)),(Q2.le (l7))⟩⟩
theorem RA.shape {V:View}{v:Value}{q:Rat}(h:RA V v q):∃b p n c p' n' c',v=.agg #[.bool b,.slice p n c,.slice p' n' c']:=by
 obtain ⟨p,n,c,p',n',c',e,-⟩:=h;exact ⟨_,_,_,_,_,_,_,e⟩
def KH (V:View)(v:Value)(x y:Rat):Prop:=∃b p n c p' n' c' d q m e q' m' e',v=.agg #[.bool b,.slice p n c,.slice p' n' c',.bool d,.slice q m e,.slice q' m' e'] /\
 RA V (.agg #[.bool b,.slice p n c,.slice p' n' c']) x/\RA V (.agg #[.bool d,.slice q m e,.slice q' m' e']) y
theorem KH.le {V V':View}{v:Value}{x y:Rat}(h:KH V v x y)(l:V.Le V'):KH V' v x y:=by
 obtain ⟨b,p,n,c,p',n',c',d,q,m,e,q',m',e',rfl,h1,h2⟩:=h
 exact ⟨_,_,_,_,_,_,_,_,_,_,_,_,_,_,rfl,h1.le l,h2.le l⟩
theorem CR {V:View}{v:Value}{x y:Rat}(h:KH V v x y){k:Nat}(s1:Sz k x)(s2:Sz k y)(hk:k<=1099511627776) :
  ab prog 47 #[v] V fun r V'=>mb V' r x y:=by
 obtain ⟨b,p,n,c,p',n',c',d,q,m,e,q',m',e',rfl,h1,h2⟩:=h
 refine sH b p n c p' n' c' d q m e q' m' e' V _ fun V1 l1=>(xS (h1.le l1) s1 hk).mono ?_
 rintro r V2 l2 g1
 have g10:=g1
 obtain ⟨u,v,w,rfl⟩:=g1.shape
 refine ⟨_,_,_,rfl,fun V3 l3=>(xS (h2.le (l1.trans (l2.trans l3))) s2 hk).mono ?_⟩
 rintro r V4 l4 g2
 have g20:=g2
 obtain ⟨u,v,w,rfl⟩:=g2.shape
 exact ⟨_,_,_,rfl,fun V5 l5=>⟨_,_,_,_,_,_,rfl,g10.le (l3.trans (l4.trans l5)),g20.le l5⟩⟩
theorem wF {V:View}{l p:Value}{aK l_1 bX cO cN:Rat}(hl:CC V l aK l_1 bX)(hp:mb V p cO cN){k:Nat}(s0:Sz k aK)(s1:Sz k l_1)(s2:Sz k bX)(s3:Sz k cO)(s4:Sz k cN)(hk:16*k+16<274877906944) :
  ab prog 125 #[l,p] V fun r V'=>r=.int .i64 (aK*cO+l_1*cN+bX).num.sign:=by
 have hl0:=hl
 have hp0:=hp
 obtain ⟨a0,a1,a2,a3,a4,a5,a6,a7,a8,rfl,-,-,-⟩:=hl
 obtain ⟨p0,p1,p2,p3,p4,p5,rfl,-,-⟩:=hp
 refine vO a0 a1 a2 a3 a4 a5 a6 a7 a8 p0 p1 p2 p3 p4 p5 V _ fun V1 l1=>(um (hl0.le l1) (hp0.le l1) s0 s1 s2 s3 s4 (by omega)).mono ?_
 rintro r V2 l2 g
 have g0:=g
 obtain ⟨u,v,w,rfl⟩:=g.shape
 refine ⟨_,_,_,rfl,fun V3 l3=>(fk (g0.le l3) (rO s0 s1 s2 s3 s4) (by omega)).mono ?_⟩
 rintro r V4 l4 rfl
 exact ⟨_,rfl,fun V5 l5=>rfl⟩
theorem rT {V:View}{v:Value}{q:Rat}(h:RQ V v q){k:Nat}(s:Sz k q)(hk:k<=1099511627776):ab prog 49 #[v] V fun r V'=>RA V' r q:=by
 obtain ⟨p,n,c,p',n',c',rfl,h1,h2⟩:=h
 have q1:=af s.1
 have q2:=af s.2
 refine Aq _ p n c p' n' c' V _ fun V1 l1=>(jy ⟨_,_,_,rfl,h1.le l1⟩ (by omega)).mono ?_
 rintro r V2 l2 ⟨p1,n1,c1,rfl,g1⟩
 refine ⟨_,_,_,_,rfl,fun V3 l3=>(bZ q _ (h2.le (l1.trans (l2.trans l3)))).mono ?_⟩
 rintro r V4 l4 ⟨p2,n2,c2,rfl,g2⟩
 refine ⟨_,_,_,rfl,fun V5 l5=>(rS (g2.le l5) (by omega)).mono ?_⟩
 rintro r V6 l6 ⟨p3,n3,c3,rfl,g3⟩
 exact ⟨_,_,_,rfl,fun V7 l7=>⟨_,_,_,_,_,_,rfl,g1.le (l3.trans (l4.trans (l5.trans (l6.trans l7)))),g3.le l7⟩⟩
theorem gK {V:View}{v:Value}{x y:Rat}(h:RP V v x y){k:Nat}(s1:Sz k x)(s2:Sz k y)(hk:k<=1099511627776):ab prog 15 #[v] V fun r V'=>KH V' r x y:=by
 obtain ⟨p1,n1,c1,p2,n2,c2,p3,n3,c3,p4,n4,c4,rfl,h1,h2⟩:=h
 refine Az _ p1 n1 c1 p2 n2 c2 _ p3 n3 c3 p4 n4 c4 V _ fun V1 l1=>(rT (h1.le l1) s1 hk).mono ?_
 rintro r V2 l2 g1
 have g10:=g1
 obtain ⟨_,_,_,_,_,_,_,rfl⟩:=g1.shape
 refine ⟨_,_,_,_,_,_,_,rfl,fun V3 l3=>(rT (h2.le (l1.trans (l2.trans l3))) s2 hk).mono ?_⟩
 rintro r V4 l4 g2
 have g20:=g2
 obtain ⟨_,_,_,_,_,_,_,rfl⟩:=g2.shape
 exact ⟨_,_,_,_,_,_,_,rfl,fun V5 l5=>⟨_,_,_,_,_,_,_,_,_,_,_,_,_,_,rfl,g10.le (l3.trans (l4.trans l5)),g20.le l5⟩⟩
theorem sk (q:Rat)(m:Nat):q*(((q.den*m:Nat):Int):Rat)=((q.num*m:Int):Rat):=by
 have e:q*(((q.den:Nat):Int):Rat)=((q.num:Int):Rat):=by
  have h:=q.den_nz
  have h1:mkRat q.num q.den*mkRat ((q.den:Nat):Int) 1=mkRat q.num 1:=by
   rw [Rat.mkRat_mul_mkRat,Rat.mkRat_eq_iff (by simpa using h) (by omega)]
   simp
  rwa [Rat.mkRat_self,Rat.mkRat_one,Rat.mkRat_one] at h1
 rw [Int.natCast_mul,Rat.intCast_mul,←Rat.mul_assoc,e,←Rat.intCast_mul]
theorem uu {V:View}(n:Int)(d:Nat)(h0:-1000<=n)(h1:n<=1000)(hd0:d≠0)(hd:d<=1000) :
  ab prog 79 #[.int .i64 n,.int .i64 (d:Int)] V fun r V'=>RQ V' r (mkRat n d):=by
 refine Cr n d V _ fun V1 l1=>(xX n (by omega) (by omega)).mono ?_
 rintro r V2 l2 ⟨p,m,c,rfl,g⟩
 rw [aL (by omega)]
 refine ⟨_,_,_,_,rfl,fun V3 l3=>(cY d (by omega)).mono ?_⟩
 rintro r V4 l4 ⟨p2,m2,c2,rfl,g2⟩
 refine ⟨_,_,_,rfl,fun V5 l5=>(k_ n (g.le (l3.trans (l4.trans l5))) (g2.le l5) (Nat.le_trans (af (k:=10) (by omega)) (by omega)) (Nat.le_trans (af (k:=10) (by omega)) (by omega)) hd0).mono ?_⟩
 rintro r V6 l6 h
 have h':=h
 obtain ⟨_,_,_,_,_,_,rfl⟩:=h.shape
 exact ⟨_,_,_,_,_,_,_,rfl,fun V7 l7=>h'.le l7⟩
theorem JF:∀x:Fin 9,Sz 10 (mkRat (2*((x.1:Int)-4)+1) 2)/\Sz 10 (mkRat (3*((x.1:Int)-4)+1) 3):=by unfold Sz;decide +kernel
theorem QU {V:View}{tb:Nat}{p:OA}{n c:Nat}{at_:Int}(hr:EI V p n)(hn:n<=400)(hw:mc V tb p n c at_)(hx:V.X tb)(h0:0<=at_) :
  ab prog 25 #[.pointer (some ⟨tb,0,none⟩)] V fun r V'=>∃(q:Rat)(at':Int),RQ V' r q/\Sz 10 q/\0<=at'/\mc V' tb p n c at':=by
 refine tA tb p n c at_ V _ hw hx fun V1 l1 bk1 e1 h1=>(jS (V:=V1.au [bk1]) 9 (hr.le fun b o h=>l1 b o h) hn e1 ⟨by simp,h1⟩ h0 (by omega) (by omega)).mono ?_
 rintro r V2 l2 ⟨x,F1,rfl,x0,x1,t1,hw1⟩
 refine ⟨_,rfl,_,_,_,_,hw1,fun V3 l3 M7 e3 h3=>(jS (V:=V3.au [M7]) 6 (hr.le fun b o h=>l3 b o (l2 b o (l1 b o h))) hn e3 ⟨by simp,h3⟩ t1 (by omega) (by omega)).mono ?_⟩
 rintro r V4 l4 ⟨y,at2,rfl,y0,y1,t2,hw2⟩
 obtain ⟨i,rfl⟩:∃i:Nat,x=i:=⟨x.toNat,by omega⟩
 obtain ⟨z1,z2⟩:=JF ⟨i,by omega⟩
 dsimp only at z1 z2
 have w1:i64.wrap ((i:Int)-4)=(i:Int)-4:=ar (by omega)
 have w2:i64.wrap (i64.wrap (2*((i:Int)-4))+1)=2*((i:Int)-4)+1:=by rw [ar (x:=2*((i:Int)-4)) (by omega),ar (by omega)]
 have w3:i64.wrap (i64.wrap (3*((i:Int)-4))+1)=3*((i:Int)-4)+1:=by rw [ar (x:=3*((i:Int)-4)) (by omega),ar (by omega)]
 rw [w1,w2,w3]
 refine ⟨_,rfl,_,_,_,_,hw2,fun _ V5 l5=>(uu (2*((i:Int)-4)+1) 2 (by omega) (by omega) (by omega) (by omega)).mono ?_,fun _=>⟨fun _ V8 l8=>(uu (3*((i:Int)-4)+1) 3 (by omega) (by omega) (by omega) (by omega)).mono ?_,fun _ gV bI=>(fm ((i:Int)-4) (by omega) (by omega)).mono ?_⟩⟩
 ·rintro r V6 l6 h
  have h':=h
  obtain ⟨_,_,_,_,_,_,rfl⟩:=h.shape
  exact ⟨_,_,_,_,_,_,_,rfl,fun V7 l7 e7=>⟨_,at2,h'.le l7,z1,t2,e7⟩⟩
 ·rintro r V6 l6 h
  have h':=h
  obtain ⟨_,_,_,_,_,_,rfl⟩:=h.shape
  exact ⟨_,_,_,_,_,_,_,rfl,fun V7 l7 e7=>⟨_,at2,h'.le l7,z2,t2,e7⟩⟩
 ·rintro r V6 l6 h
  have h':=h
  obtain ⟨_,_,_,_,_,_,rfl⟩:=h.shape
  exact ⟨_,_,_,_,_,_,_,rfl,fun V7 l7 e7=>⟨_,at2,h'.le l7,qv (by omega),t2,e7⟩⟩
theorem Iz {V:View}{tb:Nat}{p:OA}{n c:Nat}{at_:Int}(hr:EI V p n)(hn:n<=400)(hw:mc V tb p n c at_)(hx:V.X tb)(h0:0<=at_) :
  ab prog 43 #[.pointer (some ⟨tb,0,none⟩)] V fun r V'=>∃(x y:Rat)(at':Int),RP V' r x y/\Sz 10 x/\Sz 10 y/\0<=at'/\mc V' tb p n c at':=by
 refine nT tb p n c at_ V _ hw hx fun V1 l1 bk1 e1 h1=>(QU (V:=V1.au [bk1]) (hr.le fun b o h=>l1 b o h) hn e1 ⟨by simp,h1⟩ h0).mono ?_
 rintro r V2 l2 ⟨x,F1,hq,sx,t1,hw1⟩
 obtain ⟨p1,n1,c1,p2,n2,c2,rfl,hq1,hq2⟩:=hq
 refine ⟨_,_,_,_,_,_,_,rfl,_,_,_,_,hw1,fun V3 l3 WM e3 h3=>(QU (V:=V3.au [WM]) (hr.le fun b o h=>l3 b o (l2 b o (l1 b o h))) hn e3 ⟨by simp,h3⟩ t1).mono ?_⟩
 rintro r V4 l4 ⟨y,at2,hq',sy,t2,hw2⟩
 obtain ⟨p3,n3,c3,p4,n4,c4,rfl,hq3,hq4⟩:=hq'
 have gE:∀{V5:View},V4.shut.Le V5->V2.Le V5:=fun l5 b o h=>l5 b o (l4 b o (l3 b o h))
 exact ⟨_,_,_,_,_,_,_,rfl,_,_,_,_,hw2,fun V5 l5 e5=>⟨x,y,at2,⟨_,_,_,_,_,_,_,_,_,_,_,_,rfl,⟨_,_,_,_,_,_,rfl,hq1.le (gE l5),hq2.le (gE l5)⟩,⟨_,_,_,_,_,_,rfl,hq3.le fun b o h=>l5 b o h,hq4.le fun b o h=>l5 b o h⟩⟩,sx,sy,t2,e5⟩⟩
theorem zo {V:View}{l p:Value}{aK l_1 bX:Int}{cO cN:Rat}(hl:RL V l aK l_1 bX)(hp:RP V p cO cN){k:Nat}(s0:Sz k ((aK:Int):Rat))(s1:Sz k ((l_1:Int):Rat))(s2:Sz k ((bX:Int):Rat))(s3:Sz k cO)(s4:Sz k cN)(hk:16*k+16<274877906944) :
  ab prog 55 #[l,p] V fun r V'=>r=.int .i64 ((aK:Rat)*cO+(l_1:Rat)*cN+(bX:Rat)).num.sign:=by
 have hl0:=hl
 have hp0:=hp
 obtain ⟨a0,a1,a2,a3,a4,a5,a6,a7,a8,rfl,-,-,-⟩:=hl
 obtain ⟨p0,p1,p2,p3,p4,p5,p6,p7,p8,p9,Ie,LM,rfl,-,-⟩:=hp
 refine xw _ a0 a1 a2 _ a3 a4 a5 _ a6 a7 a8 _ p0 p1 p2 p3 p4 p5 _ p6 p7 p8 p9 Ie LM V _ fun V1 l1=>(gz (hl0.le l1) (hp0.le l1) s0 s1 s2 s3 s4 (by omega)).mono ?_
 rintro r V2 l2 ⟨u0,u1,u2,u3,u4,u5,rfl,g1,g2⟩
 refine ⟨_,_,_,_,_,_,_,rfl,fun V3 l3=>(tE _ (g1.le l3)).mono ?_⟩
 rintro r V4 l4 rfl
 exact ⟨_,rfl,fun V5 l5=>rfl⟩
theorem A5 {V:View}{l:Value}{a b c:Int}(hl:RL V l a b c):ab prog 158 #[l] V fun r V'=>RL V' r (-a) (-b) (-c):=by
 obtain ⟨a0,a1,a2,a3,a4,a5,a6,a7,a8,rfl,h1,h2,h3⟩:=hl
 refine Aw _ a0 a1 a2 _ a3 a4 a5 _ a6 a7 a8 V _ fun V1 l1=>(gJ a (h1.le l1)).mono ?_
 rintro r V2 l2 ⟨p1,n1,c1,rfl,g1⟩
 refine ⟨_,_,_,_,rfl,fun V3 l3=>(gJ b (h2.le (l1.trans (l2.trans l3)))).mono ?_⟩
 rintro r V4 l4 ⟨p2,n2,c2,rfl,g2⟩
 refine ⟨_,_,_,_,rfl,fun V5 l5=>(gJ c (h3.le (l1.trans (l2.trans (l3.trans (l4.trans l5)))))).mono ?_⟩
 rintro r V6 l6 ⟨p3,n3,c3,rfl,g3⟩
 exact ⟨_,_,_,_,rfl,fun V7 l7=>⟨_,_,_,_,_,_,_,_,_,rfl,g1.le (l3.trans (l4.trans (l5.trans (l6.trans l7)))),g2.le (l5.trans (l6.trans l7)),g3.le l7⟩⟩
end Go.Proofs.Tryz
namespace Go.bL
open Go.fN
theorem RR.zero (V:View):RR V (.agg #[.int .i64 0,.int .i64 0,.pointer none]) 0:=.inl ⟨rfl,by unfold Wd;decide⟩
end Go.bL
namespace Go.Proofs.Tryz
open Go.bL Go.fN
structure Sp where
 lo:Rat
 hi:Rat
 a:Bool
 b:Bool
def Sp.can (s:Sp):Prop:=(s.a=true->s.lo=0)/\(s.b=true->s.hi=0)
def Sp.sz (k:Nat)(s:Sp):Prop:=Sz k s.lo/\Sz k s.hi
def Sp.zero:Sp:=⟨0,0,false,false⟩
def yM (k:Nat)(l:L3):Prop:=Sz k (l.1:Rat)/\Sz k (l.2.1:Rat)/\Sz k (l.2.2:Rat)
def PI (V:View)(v:Value)(s:Sp):Prop:=∃(x1 x2:Int)(p:OA)(y1 y2:Int)(q:OA),v=.agg #[.int .i64 x1,.int .i64 x2,.pointer p,.int .i64 y1,.int .i64 y2,.pointer q,.bool s.a,.bool s.b] /\
 RR V (.agg #[.int .i64 x1,.int .i64 x2,.pointer p]) s.lo/\RR V (.agg #[.int .i64 y1,.int .i64 y2,.pointer q]) s.hi
theorem PI.le {V V':View}{v:Value}{s:Sp}(h:PI V v s)(l:V.Le V'):PI V' v s:=by
 obtain ⟨x1,x2,p,y1,y2,q,e,h1,h2⟩:=h
 exact ⟨x1,x2,p,y1,y2,q,e,h1.le l,h2.le l⟩
def Mr (V:View)(v:Value)(l:L3):Prop:=CC V v (l.1:Rat) (l.2.1:Rat) (l.2.2:Rat)
theorem Mr.le {V V':View}{v:Value}{l:L3}(h:Mr V v l)(e:V.Le V'):Mr V' v l:=CC.le h e
def Mq (V:View)(v:Value)(l:L3)(s:Sp):Prop:=∃(x1 x2:Int)(p:OA)(y1 y2:Int)(q:OA)(z1 z2:Int)(r:OA)(u1 u2:Int)(t:OA)(w1 w2:Int)(o:OA),
 v=.agg #[.int .i64 x1,.int .i64 x2,.pointer p,.int .i64 y1,.int .i64 y2,.pointer q,.int .i64 z1,.int .i64 z2,.pointer r,.int .i64 u1,.int .i64 u2,.pointer t,.int .i64 w1,.int .i64 w2,.pointer o,.bool s.a,.bool s.b] /\
 Mr V (.agg #[.int .i64 x1,.int .i64 x2,.pointer p,.int .i64 y1,.int .i64 y2,.pointer q,.int .i64 z1,.int .i64 z2,.pointer r]) l /\
 PI V (.agg #[.int .i64 u1,.int .i64 u2,.pointer t,.int .i64 w1,.int .i64 w2,.pointer o,.bool s.a,.bool s.b]) s
theorem Mq.le {V V':View}{v:Value}{l:L3}{s:Sp}(h:Mq V v l s)(e:V.Le V'):Mq V' v l s:=by
 obtain ⟨x1,x2,p,y1,y2,q,z1,z2,r,u1,u2,t,w1,w2,o,rfl,h1,h2⟩:=h
 exact ⟨x1,x2,p,y1,y2,q,z1,z2,r,u1,u2,t,w1,w2,o,rfl,h1.le e,h2.le e⟩
def Ik (V:View)(v:Value)(b:Bool)(xs ys:List Nat):Prop:=∃p n c p' n' c',v=.agg #[.bool b,.slice p n c,.slice p' n' c']/\RD V p n c xs/\RD V p' n' c' ys
theorem Ik.le {V V':View}{v:Value}{b:Bool}{xs ys:List Nat}(h:Ik V v b xs ys)(l:V.Le V'):Ik V' v b xs ys:=by
 obtain ⟨p,n,c,p',n',c',e,h1,h2⟩:=h;exact ⟨p,n,c,p',n',c',e,h1.le l,h2.le l⟩
theorem Ik.nil {V:View}:Ik V (.agg #[.bool false,.slice none 0 0,.slice none 0 0]) false [] []:=⟨_,_,_,_,_,_,rfl,RD.nil,RD.nil⟩
def RE (V:View)(v:Value)(q:Rat)(no:Bool):Prop:=(no=true->Ik V v false [] [])/\(no=false->RA V v q)
theorem RE.le {V V':View}{v:Value}{q:Rat}{no:Bool}(h:RE V v q no)(l:V.Le V'):RE V' v q no:=⟨fun e=>(h.1 e).le l,fun e=>(h.2 e).le l⟩
theorem RE.shape {V:View}{v:Value}{q:Rat}{no:Bool}(h:RE V v q no):∃b p n c p' n' c',v=.agg #[.bool b,.slice p n c,.slice p' n' c']:=by
 cases no with
 | true=>obtain ⟨_,_,_,_,_,_,e,-⟩:=h.1 rfl;exact ⟨_,_,_,_,_,_,_,e⟩
 | false=>exact (h.2 rfl).shape
def PK (V:View)(v:Value)(s:Sp):Prop:=∃b p n c p' n' c' d q m e q' m' e',v=.agg #[.bool b,.slice p n c,.slice p' n' c',.bool d,.slice q m e,.slice q' m' e',.bool s.a,.bool s.b] /\
 RE V (.agg #[.bool b,.slice p n c,.slice p' n' c']) s.lo s.a/\RE V (.agg #[.bool d,.slice q m e,.slice q' m' e']) s.hi s.b
theorem PK.le {V V':View}{v:Value}{s:Sp}(h:PK V v s)(l:V.Le V'):PK V' v s:=by
 obtain ⟨b,p,n,c,p',n',c',d,q,m,e,q',m',e',rfl,h1,h2⟩:=h
 exact ⟨_,_,_,_,_,_,_,_,_,_,_,_,_,_,rfl,h1.le l,h2.le l⟩
def Mp (V:View)(v:Value)(l:L3)(s:Sp):Prop:=∃b1 p1 n1 c1 b2 p2 n2 c2 b3 p3 n3 c3 b p n c p' n' c' d q m e q' m' e',
 v=.agg #[.bool b1,.slice p1 n1 c1,.bool b2,.slice p2 n2 c2,.bool b3,.slice p3 n3 c3,.bool b,.slice p n c,.slice p' n' c',.bool d,.slice q m e,.slice q' m' e',.bool s.a,.bool s.b] /\
 RL V (.agg #[.bool b1,.slice p1 n1 c1,.bool b2,.slice p2 n2 c2,.bool b3,.slice p3 n3 c3]) l.1 l.2.1 l.2.2/\PK V (.agg #[.bool b,.slice p n c,.slice p' n' c',.bool d,.slice q m e,.slice q' m' e',.bool s.a,.bool s.b]) s
theorem Mp.le {V V':View}{v:Value}{l:L3}{s:Sp}(h:Mp V v l s)(e:V.Le V'):Mp V' v l s:=by
 obtain ⟨b1,p1,n1,c1,b2,p2,n2,c2,b3,p3,n3,c3,b,p,n,c,p',n',c',d,q,m,f,q',m',f',rfl,h1,h2⟩:=h
 exact ⟨_,_,_,_,_,_,_,_,_,_,_,_,_,_,_,_,_,_,_,_,_,_,_,_,_,_,rfl,h1.le e,h2.le e⟩
def MP (V:View)(v:Value)(s:Sp):Prop:=∃b p n c p' n' c' d q m e q' m' e',v=.agg #[.bool b,.slice p n c,.slice p' n' c',.bool d,.slice q m e,.slice q' m' e',.bool s.a,.bool s.b] /\
 RQ V (.agg #[.bool b,.slice p n c,.slice p' n' c']) s.lo/\RQ V (.agg #[.bool d,.slice q m e,.slice q' m' e']) s.hi
theorem MP.le {V V':View}{v:Value}{s:Sp}(h:MP V v s)(l:V.Le V'):MP V' v s:=by
 obtain ⟨b,p,n,c,p',n',c',d,q,m,e,q',m',e',rfl,h1,h2⟩:=h
 exact ⟨_,_,_,_,_,_,_,_,_,_,_,_,_,_,rfl,h1.le l,h2.le l⟩
def RF (V:View)(v:Value)(l:L3)(s:Sp):Prop:=∃b1 p1 n1 c1 b2 p2 n2 c2 b3 p3 n3 c3 b p n c p' n' c' d q m e q' m' e',
 v=.agg #[.bool b1,.slice p1 n1 c1,.bool b2,.slice p2 n2 c2,.bool b3,.slice p3 n3 c3,.bool b,.slice p n c,.slice p' n' c',.bool d,.slice q m e,.slice q' m' e',.bool s.a,.bool s.b] /\
 RL V (.agg #[.bool b1,.slice p1 n1 c1,.bool b2,.slice p2 n2 c2,.bool b3,.slice p3 n3 c3]) l.1 l.2.1 l.2.2/\MP V (.agg #[.bool b,.slice p n c,.slice p' n' c',.bool d,.slice q m e,.slice q' m' e',.bool s.a,.bool s.b]) s
theorem RF.le {V V':View}{v:Value}{l:L3}{s:Sp}(h:RF V v l s)(e:V.Le V'):RF V' v l s:=by
 obtain ⟨b1,p1,n1,c1,b2,p2,n2,c2,b3,p3,n3,c3,b,p,n,c,p',n',c',d,q,m,f,q',m',f',rfl,h1,h2⟩:=h
 exact ⟨_,_,_,_,_,_,_,_,_,_,_,_,_,_,_,_,_,_,_,_,_,_,_,_,_,_,rfl,h1.le e,h2.le e⟩
def aT (l:L3)(x y:Rat):Rat:=(l.1:Rat)*x+(l.2.1:Rat)*y+(l.2.2:Rat)
def mJ (l:L3):Rat:=(l.1:Rat)*(l.1:Rat)+(l.2.1:Rat)*(l.2.1:Rat)
def KP (l:L3)(t:Rat):Rat:=(l.2.1:Rat)*t-(l.1:Rat)*(l.2.2:Rat)*(mJ l)⁻¹
def KQ (l:L3)(t:Rat):Rat:=-((l.1:Rat)*t)-(l.2.1:Rat)*(l.2.2:Rat)*(mJ l)⁻¹
def qk (l:L3):L3:=(-l.1,-l.2.1,-l.2.2)
def Sp.neg (s:Sp):Sp:=⟨if s.b then 0 else -s.hi,if s.a then 0 else -s.lo,s.b,s.a⟩
def Sp.emp (s:Sp):Bool:=!s.a&&!s.b&&decide (rf s.lo s.hi≥0)
def Nz (l:L3):Prop:=¬(l.1=0/\l.2.1=0)
theorem sq_nonneg (x:Int):0<=x*x:=by
 rw [←Int.natAbs_mul_self];exact Int.natCast_nonneg _
theorem G9 (l:L3):mJ l=((l.1*l.1+l.2.1*l.2.1:Int):Rat):=by unfold mJ;simp
theorem Nz.norm {l:L3}(h:Nz l):mJ l≠0:=by
 rw [G9]
 have h1:=sq_nonneg l.1
 have h2:=sq_nonneg l.2.1
 have h3:l.1*l.1+l.2.1*l.2.1≠0:=by
  intro e
  have e1:l.1*l.1=0:=by omega
  have e2:l.2.1*l.2.1=0:=by omega
  exact h ⟨(Int.mul_eq_zero.1 e1).elim id id,(Int.mul_eq_zero.1 e2).elim id id⟩
 exact_mod_cast h3
theorem He {q:Rat}(h:q≠0):q.num≠0:=fun e=>h (Rat.num_eq_zero.1 e)
theorem Mb {L:L3}{x:Rat}{k:Nat}(sl:yM k L)(s1:Sz k x):Sz (20*k+19) (KP L x):=by
 have e1:KP L x=((L.1:Rat)*((-(L.2.2:Rat))*((L.1:Rat)*(L.1:Rat)+(L.2.1:Rat)*(L.2.1:Rat))⁻¹))+((L.2.1:Rat)*x):=by unfold KP mJ;grind
 rw [e1];exact xC sl.1 sl.2.1 sl.2.2 s1
theorem Mc {L:L3}{x:Rat}{k:Nat}(sl:yM k L)(s1:Sz k x):Sz (20*k+19) (KQ L x):=by
 have e2:KQ L x=((L.2.1:Rat)*((-(L.2.2:Rat))*((L.1:Rat)*(L.1:Rat)+(L.2.1:Rat)*(L.2.1:Rat))⁻¹))+((-(L.1:Rat))*x):=by unfold KQ mJ;grind
 rw [e2];exact xD sl.1 sl.2.1 sl.2.2 s1
theorem qp (q:Rat):q.num.sign=0↔q=0:=by rw [Int.sign_eq_zero_iff_zero,Rat.num_eq_zero]
theorem GJ {V:View}{l p:Value}{L:L3}{x y:Rat}(hl:Mr V l L)(hp:mb V p x y){k:Nat}(sl:yM k L)(s1:Sz k x)(s2:Sz k y)(hk:16*k+16<274877906944) :
  ab prog 125 #[l,p] V fun r V'=>r=.int .i64 (aT L x y).num.sign:=wF hl hp sl.1 sl.2.1 sl.2.2 s1 s2 hk
theorem yM.rev {k:Nat}{L:L3}(h:yM k L):yM k (qk L):=by
 unfold yM qk
 simp only [Rat.intCast_neg]
 exact ⟨h.1.neg,h.2.1.neg,h.2.2.neg⟩
theorem LQ {L:L3}(h:Nz L):((((((L.2.1:Int):Rat)))*((((L.2.1:Int):Rat))))+(((-(((L.1:Int):Rat))))*((-(((L.1:Int):Rat)))))).num≠0:=by
 have:(((((L.2.1:Int):Rat)))*((((L.2.1:Int):Rat))))+(((-(((L.1:Int):Rat))))*((-(((L.1:Int):Rat)))))=mJ L:=by unfold mJ;grind
 rw [this]
 exact He h.norm
theorem Tp {V:View}{l t:Value}{L:L3}{x:Rat}(hl:RL V l L.1 L.2.1 L.2.2)(ht:RQ V t x)(hz:Nz L){k:Nat}(sl:yM k L)(s1:Sz k x)(hk:18*k+16<274877906944) :
  ab prog 23 #[l,t] V fun r V'=>RP V' r (KP L x) (KQ L x):=by
 refine (CY hl ht (LQ hz) sl.1 sl.2.1 sl.2.2 s1 hk).mono ?_
 rintro r V2 l2 g
 have e1:KP L x=(((-((((L.2.2:Int):Rat))*((((((L.2.1:Int):Rat)))*((((L.2.1:Int):Rat))))+(((-(((L.1:Int):Rat))))*((-(((L.1:Int):Rat))))))⁻¹))*(((L.1:Int):Rat)))+(x)*(((L.2.1:Int):Rat))):=by unfold KP mJ;grind
 have e2:KQ L x=(((-((((L.2.2:Int):Rat))*((((((L.2.1:Int):Rat)))*((((L.2.1:Int):Rat))))+(((-(((L.1:Int):Rat))))*((-(((L.1:Int):Rat))))))⁻¹))*(((L.2.1:Int):Rat)))+(x)*(-(((L.1:Int):Rat)))):=by unfold KQ mJ;grind
 rw [e1,e2];exact g
theorem Hy {V:View}{l p:Value}{L:L3}{x y:Rat}(hl:RL V l L.1 L.2.1 L.2.2)(hp:RP V p x y){k:Nat}(sl:yM k L)(s1:Sz k x)(s2:Sz k y)(hk:16*k+16<274877906944) :
  ab prog 55 #[l,p] V fun r V'=>r=.int .i64 (aT L x y).num.sign:=zo hl hp sl.1 sl.2.1 sl.2.2 s1 s2 hk
structure Qr (V:View) (vs:List Value) (i:Int) (f a b c:Rat):Prop where
 h0:0<=i
 h3:i<=3
 row:∃(x1 x2:Int)(p:OA)(y1 y2:Int)(q:OA)(z1 z2:Int)(r:OA),vs=[.int .i64 x1,.int .i64 x2,.pointer p,.int .i64 y1,.int .i64 y2,.pointer q,.int .i64 z1,.int .i64 z2,.pointer r] /\
  RR V (.agg #[.int .i64 x1,.int .i64 x2,.pointer p]) (if 0<i then a*f else a)/\RR V (.agg #[.int .i64 y1,.int .i64 y2,.pointer q]) (if 1<i then b*f else b)/\RR V (.agg #[.int .i64 z1,.int .i64 z2,.pointer r]) (if 2<i then c*f else c)
theorem Qr.le {V V':View}{vs:List Value}{i:Int}{f a b c:Rat}(h:Qr V vs i f a b c)(l:V.Le V'):Qr V' vs i f a b c:=by
 obtain ⟨h0,h3,x1,x2,p,y1,y2,q,z1,z2,r,e,g1,g2,g3⟩:=h
 exact ⟨h0,h3,x1,x2,p,y1,y2,q,z1,z2,r,e,g1.le l,g2.le l,g3.le l⟩
def LR (b:Bool)(xs ys:List Nat):Rat:=mkRat (aZ b xs) (val ys)
def LB (b:Bool)(xs ys:List Nat):Bool:=lZ b xs&&decide (ai (val ys)=ys)&&!decide (ys=[])&&decide (Nat.gcd (val xs) (val ys)=1)
def T0 (b:Bool)(xs ys:List Nat):Bool:=!b&&decide (xs=[])&&decide (ys=[])
def K0 (b:Bool)(xs ys:List Nat)(no:Bool):Rat:=if no then 0 else LR b xs ys
def Gp (b:Bool)(xs ys:List Nat)(no:Bool):Bool:=if no then T0 b xs ys else LB b xs ys
theorem Ep {q:Rat}:LB (decide (q.num<0)) (ai q.num.natAbs) (ai q.den)=true/\LR (decide (q.num<0)) (ai q.num.natAbs) (ai q.den)=q:=by
 constructor
 ·unfold LB
  have h1:lZ (decide (q.num<0)) (ai q.num.natAbs)=true:=by
   unfold lZ
   rw [ag]
   by_cases h:q.num<0
   ·have:ai q.num.natAbs≠[]:=fun e=>by have:=bD.1 e;omega
    simp [h,this]
   ·simp [h]
  have h2:ai q.den≠[]:=fun e=>q.den_nz (bD.1 e)
  rw [h1,ag,ag]
  simp [h2,q.reduced]
 ·unfold LR
  rw [aH,ag,Rat.mkRat_self]
def PL (V:View)(v:Value)(b1:Bool)(JL JN:List Nat)(b2:Bool)(JM JO:List Nat)(na nb:Bool):Prop:=∃p n c p' n' c' q m e q' m' e',v=.agg #[.bool b1,.slice p n c,.slice p' n' c',.bool b2,.slice q m e,.slice q' m' e',.bool na,.bool nb] /\
 Ik V (.agg #[.bool b1,.slice p n c,.slice p' n' c']) b1 JL JN/\Ik V (.agg #[.bool b2,.slice q m e,.slice q' m' e']) b2 JM JO
theorem PL.le {V V':View}{v:Value}{b1:Bool}{JL JN:List Nat}{b2:Bool}{JM JO:List Nat}{na nb:Bool}(h:PL V v b1 JL JN b2 JM JO na nb)(l:V.Le V'):PL V' v b1 JL JN b2 JM JO na nb:=by
 obtain ⟨p,n,c,p',n',c',q,m,e,q',m',e',rfl,h1,h2⟩:=h
 exact ⟨_,_,_,_,_,_,_,_,_,_,_,_,rfl,h1.le l,h2.le l⟩
def Pg (b1:Bool)(JL JN:List Nat)(b2:Bool)(JM JO:List Nat)(na nb:Bool):Sp:=⟨K0 b1 JL JN na,K0 b2 JM JO nb,na,nb⟩
def okW (b1:Bool)(JL JN:List Nat)(b2:Bool)(JM JO:List Nat)(na nb:Bool):Bool:=Gp b1 JL JN na&&Gp b2 JM JO nb&&!(Pg b1 JL JN b2 JM JO na nb).emp
def Wa (l:L3)(s:Sp):Prop:=kk l=true/\s.can/\s.emp=false
theorem RE.raw {V:View}{v:Value}{q:Rat}{no:Bool}(h:RE V v q no)(hc:no=true->q=0):∃b xs ys,Ik V v b xs ys/\Gp b xs ys no=true/\K0 b xs ys no=q/\(∀k,Sz k q->xs.length<=k/\ys.length<=k):=by
 cases no with
 | true=>
  exact ⟨false,[],[],h.1 rfl,rfl,by rw [hc rfl];rfl,fun k _=>⟨Nat.zero_le _,Nat.zero_le _⟩⟩
 | false=>
  obtain ⟨p,n,c,p',n',c',rfl,h1,h2⟩:=h.2 rfl
  exact ⟨_,_,_,⟨_,_,_,_,_,_,rfl,h1,h2⟩,Ep.1,Ep.2,fun k hk=>⟨af hk.1,af hk.2⟩⟩
theorem Mr.Zl {V:View}{r:Value}{l:L3}(h:RL V r ((l.1:Rat)).num ((l.2.1:Rat)).num ((l.2.2:Rat)).num):RL V r l.1 l.2.1 l.2.2:=by
 simpa [Rat.num_intCast] using h
theorem LG {l:L3}(h:kk l=true):Nz l:=by
 unfold kk at h
 intro e
 simp [e.1,e.2] at h
def jV (l m:L3):Rat:=((l.1:Rat)*(m.2.1:Rat))-((l.2.1:Rat)*(m.1:Rat))
def Qe (l m:L3):Rat:=(((l.2.1:Rat)*(m.2.2:Rat))-((l.2.2:Rat)*(m.2.1:Rat)))*(jV l m)⁻¹
def Qf (l m:L3):Rat:=(((l.2.2:Rat)*(m.1:Rat))-((l.1:Rat)*(m.2.2:Rat)))*(jV l m)⁻¹
theorem yM.ai {k:Nat}{l:L3}(h:yM k l)(hk:k<=1099511627776):(ai l.1.natAbs).length<=1099511627776/\(ai l.2.1.natAbs).length<=1099511627776/\(ai l.2.2.natAbs).length<=1099511627776:=by
 have d1:=af (show l.1.natAbs<2^k from h.1.1)
 have d2:=af (show l.2.1.natAbs<2^k from h.2.1.1)
 have d3:=af (show l.2.2.natAbs<2^k from h.2.2.1)
 exact ⟨by omega,by omega,by omega⟩
def PG (V:View)(ad:Addr)(l:L3)(s:Sp):Prop:=∃xs:List Value,Mp V (.agg xs.toArray) l s/\∀i x,xs[i]?=some x->V.at (ad.add i) x
theorem PG.le {V V':View}{ad:Addr}{l:L3}{s:Sp}(h:PG V ad l s)(e:V.Le V'):PG V' ad l s:=by
 obtain ⟨xs,h1,h2⟩:=h;exact ⟨xs,h1.le e,fun i x hx=>e.at (h2 i x hx)⟩
structure KJ (V:View) (p:OA) (n:Nat) (fs:List (L3×Sp)):Prop where
 len:n=fs.length
 at_:∀(i:Nat)(h:i<fs.length),∃ad,ah p (i*14)=some ad/\PG V ad fs[i].1 fs[i].2
theorem KJ.le {V V':View}{p:OA}{n:Nat}{fs:List (L3×Sp)}(h:KJ V p n fs)(e:V.Le V'):KJ V' p n fs:=⟨h.len,fun i hi=>by obtain ⟨ad,h1,h2⟩:=h.at_ i hi;exact ⟨ad,h1,h2.le e⟩⟩
theorem Bv {p:OA}{j:Nat}{ad:Addr}(h:ah p j=some ad):p.isSome=true:=by
 cases p with
 | none=>cases h
 | some a=>rfl
def PM (V:View)(ad:Addr)(s:Sp):Prop:=∃xs:List Value,MP V (.agg xs.toArray) s/\∀i x,xs[i]?=some x->V.at (ad.add i) x
theorem PM.le {V V':View}{ad:Addr}{s:Sp}(h:PM V ad s)(e:V.Le V'):PM V' ad s:=by
 obtain ⟨xs,h1,h2⟩:=h;exact ⟨xs,h1.le e,fun i x hx=>e.at (h2 i x hx)⟩
structure Qq (V:View) (p:OA) (n:Nat) (ss:List Sp):Prop where
 len:n=ss.length
 at_:∀(i:Nat)(h:i<ss.length),∃ad,ah p (i*8)=some ad/\PM V ad ss[i]
theorem Qq.le {V V':View}{p:OA}{n:Nat}{ss:List Sp}(h:Qq V p n ss)(e:V.Le V'):Qq V' p n ss:=⟨h.len,fun i hi=>by obtain ⟨ad,h1,h2⟩:=h.at_ i hi;exact ⟨ad,h1,h2.le e⟩⟩
def Sp.la (s:Sp)(t:Rat):Int:=if s.a then 1 else rf t s.lo
def Sp.lb (s:Sp)(t:Rat):Int:=if s.b then -1 else rf t s.hi
theorem CU {V:View}{v:Value}{q:Rat}(h:RQ V v q):ab prog 61 #[v] V fun r V'=>RQ V' r (-q):=by
 obtain ⟨p,n,c,p',n',c',rfl,h1,h2⟩:=h
 exact kv q h1 h2
theorem Wb.ex {V:View}{v:Value}{l:L3}{s:Sp}(h:Mq V v l s):∃(x1 x2:Int)(p:OA)(y1 y2:Int)(q:OA)(z1 z2:Int)(r:OA)(u1 u2:Int)(t:OA)(w1 w2:Int)(o:OA),
 v=.agg #[.int .i64 x1,.int .i64 x2,.pointer p,.int .i64 y1,.int .i64 y2,.pointer q,.int .i64 z1,.int .i64 z2,.pointer r,.int .i64 u1,.int .i64 u2,.pointer t,.int .i64 w1,.int .i64 w2,.pointer o,.bool s.a,.bool s.b]:=by
 obtain ⟨_,_,_,_,_,_,_,_,_,_,_,_,_,_,_,e,-⟩:=h;exact ⟨_,_,_,_,_,_,_,_,_,_,_,_,_,_,_,e⟩
structure CH (V:View) (p:OA) (n:Nat) (fs:List (L3×Sp)):Prop where
 len:n=fs.length
 at_:∀(i:Nat)(h:i<fs.length),∃ad,ah p (i*17)=some ad/\∃xs:List Value,Mq V (.agg xs.toArray) fs[i].1 fs[i].2/\∀j x,xs[j]?=some x->V.at (ad.add j) x
theorem CH.le {V V':View}{p:OA}{n:Nat}{fs:List (L3×Sp)}(h:CH V p n fs)(e:V.Le V'):CH V' p n fs:=⟨h.len,fun i hi=>by obtain ⟨ad,h1,xs,h2,h3⟩:=h.at_ i hi;exact ⟨ad,h1,xs,h2.le e,fun j x hx=>e.at (h3 j x hx)⟩⟩
theorem CH.nil {V:View}:CH V none 0 []:=⟨rfl,fun i hi=>by simp at hi⟩
theorem CH.one {V:View}{bk:Nat}{xs:List Value}{ty:TypeId}{l:L3}{s:Sp}(hb:V.bF bk (.cells xs.toArray ty (0,0)))(hf:Mq V (.agg xs.toArray) l s):CH V (some ⟨bk,0,none⟩) 1 [(l,s)]:=by
 refine ⟨rfl,fun i hi=>?_⟩
 obtain rfl:i=0:=by simpa using hi
 refine ⟨⟨bk,0,none⟩,by simp [ah,add_zero'],_,hf,fun j x hx=>?_⟩
 rw [add_zero']
 exact cW hb hx
end Go.Proofs.Tryz
namespace Go.Proofs.Tryz
open Go.bL
set_option maxRecDepth 100000
end Go.Proofs.Tryz
namespace Go.Proofs.Tryz
open Go.bL Go.fN
def PJ (V:View)(v:Value)(b1:Bool)(xs:List Nat)(b2:Bool)(ys:List Nat)(b3:Bool)(zs:List Nat):Prop:=∃p n c q m e s i j,v=.agg #[.bool b1,.slice p n c,.bool b2,.slice q m e,.bool b3,.slice s i j]/\RD V p n c xs/\RD V q m e ys/\RD V s i j zs
theorem PJ.le {V V':View}{v:Value}{b1:Bool}{xs:List Nat}{b2:Bool}{ys:List Nat}{b3:Bool}{zs:List Nat}(h:PJ V v b1 xs b2 ys b3 zs)(l:V.Le V'):PJ V' v b1 xs b2 ys b3 zs:=by
 obtain ⟨p,n,c,q,m,e,s,i,j,rfl,h1,h2,h3⟩:=h
 exact ⟨_,_,_,_,_,_,_,_,_,rfl,h1.le l,h2.le l,h3.le l⟩
def Vy (b1:Bool)(xs:List Nat)(b2:Bool)(ys:List Nat)(b3:Bool)(zs:List Nat):L3:=(aZ b1 xs,aZ b2 ys,aZ b3 zs)
structure FW where
 b1:Bool
 xs:List Nat
 b2:Bool
 ys:List Nat
 b3:Bool
 zs:List Nat
 c1:Bool
 us:List Nat
 vs:List Nat
 c2:Bool
 ws:List Nat
 ts:List Nat
 na:Bool
 nb:Bool
def FW.ln (f:FW):L3:=Vy f.b1 f.xs f.b2 f.ys f.b3 f.zs
def FW.sp (f:FW):Sp:=Pg f.c1 f.us f.vs f.c2 f.ws f.ts f.na f.nb
def FW.ok (f:FW):Bool:=vj f.b1 f.xs f.b2 f.ys f.b3 f.zs&&okW f.c1 f.us f.vs f.c2 f.ws f.ts f.na f.nb
structure FW.short (f:FW):Prop where
 x:f.xs.length<=1000000
 y:f.ys.length<=1000000
 z:f.zs.length<=1000000
 u:f.us.length<=1000000
 v:f.vs.length<=1000000
 w:f.ws.length<=1000000
 t:f.ts.length<=1000000
def PH (V:View)(v:Value)(f:FW):Prop:=∃p1 n1 d1 p2 n2 d2 p3 n3 d3 p n c p' n' c' q m e q' m' e',
 v=.agg #[.bool f.b1,.slice p1 n1 d1,.bool f.b2,.slice p2 n2 d2,.bool f.b3,.slice p3 n3 d3,.bool f.c1,.slice p n c,.slice p' n' c',.bool f.c2,.slice q m e,.slice q' m' e',.bool f.na,.bool f.nb] /\
 PJ V (.agg #[.bool f.b1,.slice p1 n1 d1,.bool f.b2,.slice p2 n2 d2,.bool f.b3,.slice p3 n3 d3]) f.b1 f.xs f.b2 f.ys f.b3 f.zs /\
 PL V (.agg #[.bool f.c1,.slice p n c,.slice p' n' c',.bool f.c2,.slice q m e,.slice q' m' e',.bool f.na,.bool f.nb]) f.c1 f.us f.vs f.c2 f.ws f.ts f.na f.nb
theorem PH.le {V V':View}{v:Value}{f:FW}(h:PH V v f)(l:V.Le V'):PH V' v f:=by
 obtain ⟨p1,n1,d1,p2,n2,d2,p3,n3,d3,p,n,c,p',n',c',q,m,e,q',m',e',rfl,h1,h2⟩:=h
 exact ⟨_,_,_,_,_,_,_,_,_,_,_,_,_,_,_,_,_,_,_,_,_,rfl,h1.le l,h2.le l⟩
theorem jT {V:View}(z w:Int){p q:OA}{n c m e:Nat}(ha:RD V p n c (ai z.natAbs))(hb:RD V q m e (ai w.natAbs))(hm:(ai z.natAbs).length<=1099511627776)(hn:(ai w.natAbs).length<=1099511627776) :
  ab prog 159 #[.agg #[.bool (decide (z<0)),.slice p n c],.agg #[.bool (decide (w<0)),.slice q m e]] V fun r V'=>r=.int .i64 (z-w).sign:=by
 refine vW _ p n c _ q m e V _ fun V1 l1=>(gJ w (hb.le l1)).mono ?_
 rintro r V2 l2 ⟨p1,n1,c1,rfl,g1⟩
 refine ⟨_,_,_,_,rfl,fun V3 l3=>(qW z (-w) (ha.le (l1.trans (l2.trans l3))) (g1.le l3) hm (by rw [Int.natAbs_neg];exact hn)).mono ?_⟩
 rintro r V4 l4 ⟨p2,n2,c2,rfl,g2⟩
 refine ⟨_,_,_,_,rfl,fun V5 l5=>(lf _ (g2.le l5)).mono ?_⟩
 rintro r V6 l6 rfl
 exact ⟨_,rfl,fun V7 l7=>by rw [Int.sub_eq_add_neg]⟩
def oH (l m:L3):Int:=if (l.1-m.1).sign≠0 then (l.1-m.1).sign else if (l.2.1-m.2.1).sign≠0 then (l.2.1-m.2.1).sign else (l.2.2-m.2.2).sign
theorem IF {l m:L3}:oH l m=0↔l=m:=by
 have e:∀{a b:Int},(a-b).sign=0↔a=b:=fun {a b}=>by rw [Int.sign_eq_zero_iff_zero];omega
 unfold oH
 constructor
 ·intro h
  by_cases h1:(l.1-m.1).sign=0
  ·rw [if_neg (by simpa using h1)] at h
   by_cases h2:(l.2.1-m.2.1).sign=0
   ·rw [if_neg (by simpa using h2)] at h
    exact Prod.ext (e.1 h1) (Prod.ext (e.1 h2) (e.1 h))
   ·rw [if_pos h2] at h;exact absurd h h2
  ·rw [if_pos h1] at h;exact absurd h h1
 ·rintro rfl
  simp
theorem rU {V:View}{v w:Value}{l m:L3}(hl:RL V v l.1 l.2.1 l.2.2)(hm:RL V w m.1 m.2.1 m.2.2){k:Nat}(sl:yM k l)(sm:yM k m)(hk:k<=1099511627776) :
  ab prog 109 #[v,w] V fun r V'=>r=.int .i64 (oH l m):=by
 obtain ⟨d1,d2,d3⟩:=sl.ai hk
 obtain ⟨e1,e2,e3⟩:=sm.ai hk
 obtain ⟨_,_,_,_,_,_,_,_,_,rfl,a1,a2,a3⟩:=hl
 obtain ⟨_,_,_,_,_,_,_,_,_,rfl,b1,b2,b3⟩:=hm
 refine As _ _ _ _ _ _ _ _ _ _ _ _ _ _ _ _ _ _ _ _ _ _ _ _ V _ fun V1 l1=>(jT _ _ (a1.le l1) (b1.le l1) d1 e1).mono ?_
 rintro r V2 l2 rfl
 unfold oH
 refine ⟨_,rfl,fun h V3 l3=>?_,fun h V4 l4=>(jT _ _ (a2.le (l1.trans (l2.trans l4))) (b2.le (l1.trans (l2.trans l4))) d2 e2).mono ?_⟩
 ·rw [bne_iff_ne] at h
  rw [if_pos h]
 ·rw [bne_eq_false_iff_eq] at h
  rw [if_neg (by rw [h];decide)]
  rintro r V5 l5 rfl
  refine ⟨_,rfl,fun h V6 l6=>?_,fun h V7 l7=>(jT _ _ (a3.le (l1.trans (l2.trans (l4.trans (l5.trans l7))))) (b3.le (l1.trans (l2.trans (l4.trans (l5.trans l7))))) d3 e3).mono ?_⟩
  ·rw [bne_iff_ne] at h
   rw [if_pos h]
  ·rw [bne_eq_false_iff_eq] at h
   rw [if_neg (by rw [h];decide)]
   rintro r V8 l8 rfl
   exact ⟨_,rfl,fun V9 l9=>rfl⟩
def JT (u:Value):Prop:=u=.agg #[.bool false,.slice none 0 0,.slice none 0 0,.bool false,.slice none 0 0,.slice none 0 0]
theorem LP {V:View}{v w:Value}{l m:L3}(hl:RL V v l.1 l.2.1 l.2.2)(hm:RL V w m.1 m.2.1 m.2.2){k:Nat}(sl:yM k l)(sm:yM k m)(hk:20*k+20<274877906944) :
  ab prog 44 #[v,w] V fun r V'=>∃u,r=.tuple #[u,.bool (decide (jV l m≠0))]/\(jV l m=0->JT u)/\(jV l m≠0->RP V' u (Qe l m) (Qf l m)):=by
 have e0:((l.1:Int):Rat)*((m.2.1:Int):Rat)-((m.1:Int):Rat)*((l.2.1:Int):Rat)=jV l m:=by unfold jV;grind
 have e1:((l.2.1:Int):Rat)*((m.2.2:Int):Rat)-((m.2.1:Int):Rat)*((l.2.2:Int):Rat)=((l.2.1:Rat)*(m.2.2:Rat))-((l.2.2:Rat)*(m.2.1:Rat)):=by grind
 have e2:((m.1:Int):Rat)*((l.2.2:Int):Rat)-((l.1:Int):Rat)*((m.2.2:Int):Rat)=((l.2.2:Rat)*(m.1:Rat))-((l.1:Rat)*(m.2.2:Rat)):=by grind
 obtain ⟨sl1,sl2,Kt⟩:=sl
 obtain ⟨Ku,Kv,Kw⟩:=sm
 obtain ⟨_,_,_,_,_,_,_,_,_,rfl,a1,a2,a3⟩:=hl
 obtain ⟨_,_,_,_,_,_,_,_,_,rfl,b1,b2,b3⟩:=hm
 refine xq _ _ _ _ _ _ _ _ _ _ _ _ _ _ _ _ _ _ _ _ _ _ _ _ V _ fun V1 l1=>(bf (a1.le l1) sl1 (by omega)).mono ?_
 rintro r V2 l2 UM
 have Q8:=UM
 obtain ⟨_,_,_,_,_,_,rfl⟩:=UM.shape
 refine ⟨_,_,_,_,_,_,_,rfl,fun V3 l3=>(bf (b2.le (l1.trans (l2.trans (l3)))) Kv (by omega)).mono ?_⟩
 rintro r V4 l4 UN
 have Q9:=UN
 obtain ⟨_,_,_,_,_,_,rfl⟩:=UN.shape
 refine ⟨_,_,_,_,_,_,_,rfl,fun V5 l5=>(aO (Q8.le (l3.trans (l4.trans (l5)))) (Q9.le l5) sl1 Kv (by omega)).mono ?_⟩
 rintro r V6 l6 UO
 have Q_:=UO
 obtain ⟨_,_,_,_,_,_,rfl⟩:=UO.shape
 refine ⟨_,_,_,_,_,_,_,rfl,fun V7 l7=>(bf (b1.le (l1.trans (l2.trans (l3.trans (l4.trans (l5.trans (l6.trans (l7)))))))) Ku (by omega)).mono ?_⟩
 rintro r V8 l8 UP
 have Ra:=UP
 obtain ⟨_,_,_,_,_,_,rfl⟩:=UP.shape
 refine ⟨_,_,_,_,_,_,_,rfl,fun V9 l9=>(bf (a2.le (l1.trans (l2.trans (l3.trans (l4.trans (l5.trans (l6.trans (l7.trans (l8.trans (l9)))))))))) sl2 (by omega)).mono ?_⟩
 rintro r ie l10 UQ
 have Rb:=UQ
 obtain ⟨_,_,_,_,_,_,rfl⟩:=UQ.shape
 refine ⟨_,_,_,_,_,_,_,rfl,fun gV bI=>(aO (Ra.le (l9.trans (l10.trans (bI)))) (Rb.le bI) Ku sl2 (by omega)).mono ?_⟩
 rintro r lO cg UR
 have Rc:=UR
 obtain ⟨_,_,_,_,_,_,rfl⟩:=UR.shape
 refine ⟨_,_,_,_,_,_,_,rfl,fun me cp=>(iH (Q_.le (l7.trans (l8.trans (l9.trans (l10.trans (bI.trans (cg.trans (cp)))))))) (Rc.le cp) (sl1.mul Kv) (Ku.mul sl2) (by omega)).mono ?_⟩
 rintro r pC dz Rd
 rw [e0] at Rd
 have Bm:=Rd
 obtain ⟨_,_,_,_,_,_,rfl,Re,-⟩:=Rd
 have sD:Sz (4*k+3) (((l.1:Int):Rat)*((m.2.1:Int):Rat)-((m.1:Int):Rat)*((l.2.1:Int):Rat)):=Sz.mono ((sl1.mul Kv).sub (Ku.mul sl2)) (by omega)
 rw [e0] at sD
 refine ⟨_,_,_,_,_,_,_,rfl,fun nh dm=>(tE _ (Re.le dm)).mono ?_⟩
 rintro r mr cS rfl
 refine ⟨_,rfl,fun hz nN cP=>?_,fun hz=>?_⟩
 ·rw [beq_iff_eq,qp] at hz
  rw [hz]
  exact ⟨_,rfl,fun _=>rfl,fun h=>absurd rfl h⟩
 ·rw [beq_eq_false_iff_ne,ne_eq,qp] at hz
  rw [decide_eq_true hz]
  have hz':¬(jV l m).num=0:=fun h=>hz (Rat.num_eq_zero.1 h)
  intro nN cP
  have M0:V.Le nN:=(l1.trans (l2.trans (l3.trans (l4.trans (l5.trans (l6.trans (l7.trans (l8.trans (l9.trans (l10.trans (bI.trans (cg.trans (cp.trans (dz.trans (dm.trans (cS.trans (cP)))))))))))))))))
  replace Bm:=Bm.le (dm.trans (cS.trans (cP)))
  refine (bf (a2.le M0) sl2 (by omega)).mono ?_
  rintro r pH df UT
  have Rl:=UT
  obtain ⟨_,_,_,_,_,_,rfl⟩:=UT.shape
  refine ⟨_,_,_,_,_,_,_,rfl,fun rP dA=>(bf (b3.le (M0.trans (df.trans (dA)))) Kw (by omega)).mono ?_⟩
  rintro r yN gZ UU
  have Rm:=UU
  obtain ⟨_,_,_,_,_,_,rfl⟩:=UU.shape
  refine ⟨_,_,_,_,_,_,_,rfl,fun sJ eo=>(aO (Rl.le (dA.trans (gZ.trans (eo)))) (Rm.le eo) sl2 Kw (by omega)).mono ?_⟩
  rintro r wB jE UW
  have Rn:=UW
  obtain ⟨_,_,_,_,_,_,rfl⟩:=UW.shape
  refine ⟨_,_,_,_,_,_,_,rfl,fun tD fa=>(bf (b2.le (M0.trans (df.trans (dA.trans (gZ.trans (eo.trans (jE.trans (fa)))))))) Kv (by omega)).mono ?_⟩
  rintro r CD oe UX
  have Ro:=UX
  obtain ⟨_,_,_,_,_,_,rfl⟩:=UX.shape
  refine ⟨_,_,_,_,_,_,_,rfl,fun D3 gE=>(bf (a3.le (M0.trans (df.trans (dA.trans (gZ.trans (eo.trans (jE.trans (fa.trans (oe.trans (gE)))))))))) Kt (by omega)).mono ?_⟩
  rintro r FR oN UY
  have Rq:=UY
  obtain ⟨_,_,_,_,_,_,rfl⟩:=UY.shape
  refine ⟨_,_,_,_,_,_,_,rfl,fun Il kC=>(aO (Ro.le (gE.trans (oN.trans (kC)))) (Rq.le kC) Kv Kt (by omega)).mono ?_⟩
  rintro r FT uU UZ
  have Rr:=UZ
  obtain ⟨_,_,_,_,_,_,rfl⟩:=UZ.shape
  refine ⟨_,_,_,_,_,_,_,rfl,fun KK rz=>(iH (Rn.le (fa.trans (oe.trans (gE.trans (oN.trans (kC.trans (uU.trans (rz)))))))) (Rr.le rz) (sl2.mul Kw) (Kv.mul Kt) (by omega)).mono ?_⟩
  rintro r FU uV Rs
  rw [e1] at Rs
  have K5:=Rs
  obtain ⟨_,_,_,_,_,_,rfl⟩:=Rs.shape
  have sX:Sz (4*k+3) (((l.2.1:Rat)*(m.2.2:Rat))-((l.2.2:Rat)*(m.2.1:Rat))):=by rw [←e1];exact Sz.mono ((sl2.mul Kw).sub (Kv.mul Kt)) (by omega)
  have M1:V.Le FU:=(M0.trans (df.trans (dA.trans (gZ.trans (eo.trans (jE.trans (fa.trans (oe.trans (gE.trans (oN.trans (kC.trans (uU.trans (rz.trans (uV))))))))))))))
  replace Bm:=Bm.le (df.trans (dA.trans (gZ.trans (eo.trans (jE.trans (fa.trans (oe.trans (gE.trans (oN.trans (kC.trans (uU.trans (rz.trans (uV)))))))))))))
  refine ⟨_,_,_,_,_,_,_,rfl,fun MT CF=>(bf (b1.le (M1.trans CF)) Ku (by omega)).mono ?_⟩
  rintro r Qu FO U0
  have Ru:=U0
  obtain ⟨_,_,_,_,_,_,rfl⟩:=U0.shape
  refine ⟨_,_,_,_,_,_,_,rfl,fun PN yn=>(bf (a3.le (M1.trans (CF.trans (FO.trans (yn))))) Kt (by omega)).mono ?_⟩
  rintro r T4 I_ U1
  have Rv:=U1
  obtain ⟨_,_,_,_,_,_,rfl⟩:=U1.shape
  refine ⟨_,_,_,_,_,_,_,rfl,fun Wf sQ=>(aO (Ru.le (yn.trans (I_.trans (sQ)))) (Rv.le sQ) Ku Kt (by omega)).mono ?_⟩
  rintro r Zb P8 U2
  have Rw:=U2
  obtain ⟨_,_,_,_,_,_,rfl⟩:=U2.shape
  refine ⟨_,_,_,_,_,_,_,rfl,fun Zc Kl=>(bf (a1.le (M1.trans (CF.trans (FO.trans (yn.trans (I_.trans (sQ.trans (P8.trans (Kl))))))))) sl1 (by omega)).mono ?_⟩
  rintro r Zd P9 U3
  have Rx:=U3
  obtain ⟨_,_,_,_,_,_,rfl⟩:=U3.shape
  refine ⟨_,_,_,_,_,_,_,rfl,fun Ze Ja=>(bf (b3.le (M1.trans (CF.trans (FO.trans (yn.trans (I_.trans (sQ.trans (P8.trans (Kl.trans (P9.trans (Ja))))))))))) Kw (by omega)).mono ?_⟩
  rintro r Zf P_ U4
  have Ry:=U4
  obtain ⟨_,_,_,_,_,_,rfl⟩:=U4.shape
  refine ⟨_,_,_,_,_,_,_,rfl,fun Zg Og=>(aO (Rx.le (Ja.trans (P_.trans (Og)))) (Ry.le Og) sl1 Kw (by omega)).mono ?_⟩
  rintro r Zh SH U5
  have Rz:=U5
  obtain ⟨_,_,_,_,_,_,rfl⟩:=U5.shape
  refine ⟨_,_,_,_,_,_,_,rfl,fun Zi Qa=>(iH (Rw.le (Kl.trans (P9.trans (Ja.trans (P_.trans (Og.trans (SH.trans (Qa)))))))) (Rz.le Qa) (Ku.mul Kt) (sl1.mul Kw) (by omega)).mono ?_⟩
  rintro r Zj Vs RB
  rw [e2] at RB
  have RC:=RB
  obtain ⟨_,_,_,_,_,_,rfl⟩:=RB.shape
  have sY:Sz (4*k+3) (((l.2.2:Rat)*(m.1:Rat))-((l.1:Rat)*(m.2.2:Rat))):=by rw [←e2];exact Sz.mono ((Ku.mul Kt).sub (sl1.mul Kw)) (by omega)
  replace Bm:=Bm.le (CF.trans (FO.trans (yn.trans (I_.trans (sQ.trans (P8.trans (Kl.trans (P9.trans (Ja.trans (P_.trans (Og.trans (SH.trans (Qa.trans (Vs))))))))))))))
  replace K5:=K5.le (CF.trans (FO.trans (yn.trans (I_.trans (sQ.trans (P8.trans (Kl.trans (P9.trans (Ja.trans (P_.trans (Og.trans (SH.trans (Qa.trans (Vs))))))))))))))
  refine ⟨_,_,_,_,_,_,_,rfl,fun Zk Qb=>(iU (K5.le Qb) (Bm.le Qb) hz' sX sD (by omega)).mono ?_⟩
  rintro r Qv l46 gr
  have Xd:=gr
  obtain ⟨_,_,_,_,_,_,rfl⟩:=gr.shape
  refine ⟨_,_,_,_,_,_,_,rfl,fun T5 Oh=>(iU (RC.le (Qb.trans (l46.trans (Oh)))) (Bm.le (Qb.trans (l46.trans (Oh)))) hz' sY sD (by omega)).mono ?_⟩
  rintro r Qw Lw gs
  have gs0:=gs
  obtain ⟨_,_,_,_,_,_,rfl⟩:=gs.shape
  exact ⟨_,_,_,_,_,_,_,rfl,fun T6 Vt=>⟨_,rfl,fun h=>absurd h hz,fun _=>⟨_,_,_,_,_,_,_,_,_,_,_,_,rfl,Xd.le (Oh.trans (Lw.trans (Vt))),gs0.le Vt⟩⟩⟩
def KY:L3:=(0,0,0)
theorem zw {a b:L3}:oH a b<0↔(a.1<b.1\/a.1=b.1/\(a.2.1<b.2.1\/a.2.1=b.2.1/\a.2.2<b.2.2)):=by
 have s:∀{x y:Int},(x<y/\(x-y).sign=-1)\/(x=y/\(x-y).sign=0)\/(y<x/\(x-y).sign=1):=by
  intro x y
  rcases Int.lt_trichotomy x y with h|h|h
  ·exact .inl ⟨h,Int.sign_eq_neg_one_of_neg (by omega)⟩
  ·exact .inr (.inl ⟨h,by rw [h,Int.sub_self];rfl⟩)
  ·exact .inr (.inr ⟨h,Int.sign_eq_one_of_pos (by omega)⟩)
 unfold oH
 rcases @s a.1 b.1 with ⟨h1,e1⟩|⟨h1,e1⟩|⟨h1,e1⟩<;>rcases @s a.2.1 b.2.1 with ⟨h2,e2⟩|⟨h2,e2⟩|⟨h2,e2⟩<;>rcases @s a.2.2 b.2.2 with ⟨h3,e3⟩|⟨h3,e3⟩|⟨h3,e3⟩<;>rw [e1,e2,e3]<;>simp<;>omega
def H8 (V:View)(v:Value)(c:L3):Prop:=CC V v c.1 c.2.1 c.2.2/\Bd c
theorem H8.le {V V':View}{v:Value}{c:L3}(h:H8 V v c)(l:V.Le V'):H8 V' v c:=⟨h.1.le l,h.2⟩
theorem H8.shape {V:View}{v:Value}{c:L3}(h:H8 V v c):∃(x y:Int)(p:OA)(xb yb:Int)(pb:OA)(xc yc:Int)(pc:OA),v=.agg #[.int .i64 x,.int .i64 y,.pointer p,.int .i64 xb,.int .i64 yb,.pointer pb,.int .i64 xc,.int .i64 yc,.pointer pc]:=by
 obtain ⟨⟨x1,x2,p,y1,y2,q,z1,z2,r,e,-⟩,-⟩:=h;exact ⟨_,_,_,_,_,_,_,_,_,e⟩
def eL (a b:L3):Bool:=decide (a=b)
end Go.Proofs.Tryz
namespace Go.Proofs.Tryz
open Go.fN
section
variable {α:Type} {c:α->α->Int} {d:α}
structure PQ (c:α->α->Int) (d:α) (l0 l:List α) (a0 b0 a b:Nat):Prop where
 JA:h_ d l0 l a0 b0
 ha:a0<=a
 nE:a<=b
 hb:b<=b0
 lo:pG c d l a0 a
 hi:pG c d l b b0
 s1:Sep c d l a0 a b0
 s2:Sep c d l a0 b b0
 pre:0<a->∀k,a<=k->k<b->¬c (l.getD k d) (l.getD (a-1) d)<0
variable {l0 l m:List α} {a0 b0 a b mid:Nat}
theorem PQ.start {l:List α}(h:a<=b)(hp:0<a->∀k,a<=k->k<b->¬c (l.getD k d) (l.getD (a-1) d)<0):PQ c d l l a b a b:=
 ⟨.refl _ _ _,Nat.le_refl _,h,Nat.le_refl _,.short (by omega),.short (by omega),fun p q h1 h2=>by omega,fun p q h1 h2 h3 h4=>by omega,hp⟩
theorem PQ.change (h:PQ c d l0 l a0 b0 a b)(hs:h_ d l m a b):PQ c d l0 m a0 b0 a b:=
 ⟨h.JA.trans (hs.wide h.ha h.hb),h.ha,h.nE,h.hb,hs.AE h.lo (.inl (Nat.le_refl _)),hs.AE h.hi (.inr (Nat.le_refl _)),hs.sep h.s1 (.inr (.inl ⟨Nat.le_refl _,h.hb⟩)),hs.sep h.s2 (.inl ⟨h.ha,Nat.le_refl _⟩),fun h0 k h1 h2=>by
  obtain ⟨k',h3,h4,e⟩:=hs.mem k h1 h2
  rw [e,hs.out (a-1) (by omega)]
  exact h.pre h0 k' h3 h4⟩
theorem PQ.fin (h:PQ c d l0 l a0 b0 a b)(hs:h_ d l m a b)(ha:pG c d m a b):h_ d l0 m a0 b0/\pG c d m a0 b0:=by
 have h':=h.change hs
 refine ⟨h'.JA,h'.lo.join (ha.join h'.hi fun p q h1 h2 h3 h4=>h'.s2 p q (by have:=h.ha;omega) h2 h3 h4) h'.s1⟩
theorem PQ.left (ho:Ord c)(h:PQ c d l0 l a0 b0 a b)(hm:a<=mid)(hm':mid<b)(h1:∀k,a<=k->k<mid->c (l.getD k d) (l.getD mid d)<0)(h2:∀k,mid<k->k<b->¬c (l.getD k d) (l.getD mid d)<0)
  (hs:h_ d l m a mid)(ha:pG c d m a mid):PQ c d l0 m a0 b0 (mid+1) b:=by
 have e0:=h.ha
 have e1:=h.hb
 have em:m.getD mid d=l.getD mid d:=hs.out mid (by omega)
 have below:∀k,a<=k->k<mid->¬c (m.getD mid d) (m.getD k d)<0:=fun k g1 g2=>by
  obtain ⟨k',g3,g4,e⟩:=hs.mem k g1 g2
  rw [em,e];exact ho.Iq _ _ (h1 k' g3 g4)
 have t1:=hs.sep h.s1 (.inr (.inl ⟨Nat.le_refl _,by omega⟩))
 have t2:=hs.sep h.s2 (.inl ⟨e0,by omega⟩)
 have up:∀q,mid<q->q<b->¬c (m.getD q d) (m.getD mid d)<0:=fun q g1 g2=>by rw [em,hs.out q (by omega)];exact h2 q g1 g2
 refine ⟨h.JA.trans (hs.wide e0 (by omega)),by omega,by omega,e1,(hs.AE h.lo (.inl (Nat.le_refl _))).join (m:=a) (fun p q g1 g2 g3=>?_) fun p q g1 g2 g3 g4=>t1 p q g1 g2 g3 (by omega),hs.AE h.hi (.inr (by omega)),fun p q g1 g2 g3 g4=>?_,t2,fun _ k g1 g2=>up k (by omega) g2⟩
 ·by_cases e:q=mid
  ·subst e;exact below p g1 g2
  ·exact ha p q g1 g2 (by omega)
 ·by_cases hq:b<=q
  ·exact t2 p q g1 (by omega) hq g4
  ·by_cases hp:p<a
   ·exact t1 p q g1 hp (by omega) g4
   ·have u:=up q (by omega) (by omega)
    by_cases e:p=mid
    ·subst e;exact u
    ·exact ho.tr _ _ _ u (below p (by omega) (by omega))
theorem PQ.right (ho:Ord c)(h:PQ c d l0 l a0 b0 a b)(hm:a<=mid)(hm':mid<b)(h1:∀k,a<=k->k<mid->c (l.getD k d) (l.getD mid d)<0)(h2:∀k,mid<k->k<b->¬c (l.getD k d) (l.getD mid d)<0)
  (hs:h_ d l m (mid+1) b)(ha:pG c d m (mid+1) b):PQ c d l0 m a0 b0 a mid:=by
 have e0:=h.ha
 have e1:=h.hb
 have em:m.getD mid d=l.getD mid d:=hs.out mid (by omega)
 have up:∀q,mid<q->q<b->¬c (m.getD q d) (m.getD mid d)<0:=fun q g1 g2=>by
  obtain ⟨k',g3,g4,e⟩:=hs.mem q (by omega) g2
  rw [em,e];exact h2 k' (by omega) g4
 have below:∀k,a<=k->k<mid->¬c (m.getD mid d) (m.getD k d)<0:=fun k g1 g2=>by
  rw [em,hs.out k (by omega)];exact ho.Iq _ _ (h1 k g1 g2)
 have t1:=hs.sep h.s1 (.inr (.inl ⟨by omega,e1⟩))
 have t2:=hs.sep h.s2 (.inl ⟨by omega,Nat.le_refl _⟩)
 have t3:=hs.AE h.hi (.inr (Nat.le_refl _))
 refine ⟨h.JA.trans (hs.wide (by omega) e1),e0,hm,by omega,hs.AE h.lo (.inl (by omega)),fun p q g1 g2 g3=>?_,t1,fun p q g1 g2 g3 g4=>?_,fun h0 k g1 g2=>?_⟩
 ·by_cases hq:q<b
  ·by_cases e:p=mid
   ·subst e;exact up q g2 hq
   ·exact ha p q (by omega) g2 hq
  ·by_cases hp:p<b
   ·exact t2 p q (by omega) hp (by omega) g3
   ·exact t3 p q (by omega) g2 g3
 ·by_cases hq:b<=q
  ·exact t2 p q g1 (by omega) hq g4
  ·by_cases hp:p<a
   ·exact t1 p q g1 hp (by omega) g4
   ·have u:=below p (by omega) g2
    by_cases e:q=mid
    ·subst e;exact u
    ·exact ho.tr _ _ _ (up q (by omega) (by omega)) u
 ·rw [hs.out k (by omega),hs.out (a-1) (by omega)];exact h.pre h0 k g1 (by omega)
theorem PQ.WW (ho:Ord c)(h:PQ c d l0 l a0 b0 a b)(h0:0<a)(hm:a<mid)(hm':mid<=b){x:α}(hx:¬c (l.getD (a-1) d) x<0)(hs:h_ d l m a b)
  (h1:∀k,a<=k->k<mid->¬c x (m.getD k d)<0)(h2:∀k,mid<=k->k<b->c x (m.getD k d)<0):PQ c d l0 m a0 b0 mid b:=by
 have h':=h.change hs
 have e0:=h.ha
 have e1:=h.hb
 have ex:¬c (m.getD (a-1) d) x<0:=by rw [hs.out (a-1) (by omega)];exact hx
 have pr:=h'.pre h0
 refine ⟨h'.JA,by omega,hm',e1,h'.lo.join (m:=a) (fun p q g1 g2 g3=>?_) fun p q g1 g2 g3 g4=>h'.s1 p q g1 g2 g3 (by omega),h'.hi,fun p q g1 g2 g3 g4=>?_,h'.s2,fun _ k g1 g2=>?_⟩
 ·exact ho.tr _ _ _ (pr q (by omega) (by omega)) (ho.tr _ _ _ ex (h1 p g1 (by omega)))
 ·by_cases hq:b<=q
  ·exact h'.s2 p q g1 (by omega) hq g4
  ·by_cases hp:p<a
   ·exact h'.s1 p q g1 hp (by omega) g4
   ·exact ho.tr _ _ _ (ho.Iq _ _ (h2 q g3 (by omega))) (h1 p (by omega) g2)
 ·exact ho.tr _ _ _ (ho.Iq _ _ (h2 k g1 g2)) (h1 (mid-1) (by omega) (by omega))
structure HQ (c:α->α->Int) (d:α) (l:List α) (f i n:Nat):Prop where
 hp:Hp c d l f 0 i none
 AE:pG c d l (f+i) (f+n)
 sep:Sep c d l f (f+i) (f+n)
theorem HQ.start {f n:Nat}(h:Hp c d l f 0 n none):HQ c d l f n n:=⟨h,.short (by omega),fun p q h1 h2 h3 h4=>by omega⟩
theorem HQ.step (ho:Ord c){f k n:Nat}(h:HQ c d l f (k+1) n)(hk:k+1<=n)(hl:f+n<=l.length)(hs:h_ d (jn d l f (f+k)) m f (f+k))(hm:Hp c d m f 0 k none):HQ c d m f k n:=by
 have ha:=fun x=>lM (d:=d) (l:=l) (i:=f) (j:=f+k) (k:=x) (by omega) (by omega)
 have out:∀q,f+k<q->m.getD q d=l.getD q d:=fun q hq=>by rw [hs.out q (by omega),ha,if_neg (by omega),if_neg (by omega)]
 have top:m.getD (f+k) d=l.getD f d:=by rw [hs.out (f+k) (by omega),ha,if_pos rfl]
 refine ⟨hm,fun p q g1 g2 g3=>?_,fun p q g1 g2 g3 g4=>?_⟩
 ·rw [out q (by omega)]
  by_cases e:p=f+k
  ·rw [e,top];exact h.sep f q (Nat.le_refl _) (by omega) (by omega) g3
  ·rw [out p (by omega)];exact h.AE p q (by omega) g2 g3
 ·have hp:∃j,j<k+1/\m.getD p d=l.getD (f+j) d:=by
   obtain ⟨p',e1,e2,e⟩:=hs.mem p g1 g2
   rw [e,ha,if_neg (by omega)]
   split
   ·exact ⟨k,by omega,rfl⟩
   ·exact ⟨p'-f,by omega,by rw [show f+(p'-f)=p' by omega]⟩
  obtain ⟨j,hj,e⟩:=hp
  rw [e]
  by_cases eq:q=f+k
  ·rw [eq,top];exact h.hp.top ho j hj
  ·rw [out q (by omega)];exact h.sep (f+j) q (by omega) (by omega) (by omega) g4
theorem HQ.fin {f n:Nat}(h:HQ c d l f 0 n):pG c d l f (f+n):=by have:=h.AE;simpa using this
structure PT (P:α->Prop) (d:α) (l:List α) (a b i j:Nat):Prop where
 hi:a<i
 wQ:i<=j+1
 hj:j<b
 lo:∀k,a<k->k<i->P (l.getD k d)
 up:∀k,j<k->k<b->¬P (l.getD k d)
variable {P:α->Prop} {i j:Nat}
theorem PT.start (h:a+1<b):PT P d l a b (a+1) (b-1):=⟨by omega,by omega,by omega,fun k h1 h2=>by omega,fun k h1 h2=>by omega⟩
theorem PT.Lm (h:PT P d l a b i j)(wQ:i<=j)(hp:P (l.getD i d)):PT P d l a b (i+1) j:=⟨by have:=h.hi;omega,by omega,h.hj,fun k h1 h2=>by
 by_cases e:k=i
 ·subst e;exact hp
 ·exact h.lo k h1 (by omega),h.up⟩
theorem PT.KZ (h:PT P d l a b i j)(wQ:i<=j)(hp:¬P (l.getD j d)):PT P d l a b i (j-1):=⟨h.hi,by omega,by have:=h.hj;omega,h.lo,fun k h1 h2=>by
 by_cases e:k=j
 ·subst e;exact hp
 ·exact h.up k (by have:=h.hi;omega) h2⟩
theorem PT.swap (h:PT P d l a b i j)(wQ:i<=j)(hl:b<=l.length)(h1:¬P (l.getD i d))(h2:P (l.getD j d)):PT P d (jn d l i j) a b (i+1) (j-1)/\(jn d l i j).getD a d=l.getD a d/\h_ d l (jn d l i j) a b:=by
 have e0:=h.hi
 have e1:=h.hj
 have ne:i≠j:=fun e=>h1 (e▸h2)
 have ha:=fun x=>lM (d:=d) (l:=l) (i:=i) (j:=j) (k:=x) (by omega) (by omega)
 refine ⟨⟨by omega,by omega,by omega,fun k g1 g2=>?_,fun k g1 g2=>?_⟩,by rw [ha,if_neg (by omega),if_neg (by omega)],h_.jn (by omega) (by omega) (by omega) e1 hl⟩
 ·rw [ha,if_neg (by omega)]
  by_cases e:k=i
  ·rw [if_pos e];exact h2
  ·rw [if_neg e];exact h.lo k g1 (by omega)
 ·rw [ha]
  by_cases e:k=j
  ·rw [if_pos e];exact h1
  ·rw [if_neg e,if_neg (by omega)];exact h.up k (by omega) g2
theorem PT.fin (ho:Ord c)(h:PT (fun x=>c x (l.getD a d)<0) d l a b i j)(wQ:¬i<=j)(hl:b<=l.length):h_ d l (jn d l j a) a b/\a<=j/\j<b /\
  (∀k,a<=k->k<j->c ((jn d l j a).getD k d) ((jn d l j a).getD j d)<0)/\(∀k,j<k->k<b->¬c ((jn d l j a).getD k d) ((jn d l j a).getD j d)<0):=by
 have e0:=h.hi
 have e1:=h.wQ
 have e2:=h.hj
 have ha:=fun x=>lM (d:=d) (l:=l) (i:=j) (j:=a) (k:=x) (by omega) (by omega)
 have ej:(jn d l j a).getD j d=l.getD a d:=by
  rw [ha]
  by_cases e:j=a
  ·rw [if_pos e,e]
  ·rw [if_neg e,if_pos rfl]
 refine ⟨h_.jn (by omega) e2 (Nat.le_refl _) (by omega) hl,by omega,e2,fun k g1 g2=>?_,fun k g1 g2=>?_⟩
 ·rw [ej,ha]
  by_cases e:k=a
  ·rw [if_pos e];exact h.lo j (by omega) (by omega)
  ·rw [if_neg e,if_neg (by omega)];exact h.lo k (by omega) (by omega)
 ·rw [ej,ha,if_neg (by omega),if_neg (by omega)];exact h.up k g1 g2
end
end Go.Proofs.Tryz
namespace Go.Proofs.Tryz
open Go.bL Go.fN
theorem gP (V:View):V.Le V.shut:=fun _ _ h=>h
set_option maxRecDepth 10000 in
theorem Ix {V:View}(x:Nat)(hx:x<256):ab prog 220 #[.int .u64 (x:Int)] V fun r V'=>r=.int .i64 (bj x:Int):=by
 refine pj _ V _ ⟨fun z _=>z=((x:Int),0),⟨fun h0=>absurd (of_decide_eq_true h0) (by omega),fun _=>⟨_,⟨rfl,rfl⟩,rfl⟩⟩,?_⟩
 rintro _ V1 l1 rfl
 refine ⟨rfl,fun z _=>z=((x:Int),0),⟨fun h0=>absurd (of_decide_eq_true h0) (by dsimp only;omega),fun _=>⟨_,⟨rfl,rfl⟩,rfl⟩⟩,?_⟩
 rintro _ V2 l2 rfl
 refine ⟨rfl,fun z _=>z=((x:Int),0),⟨fun h0=>absurd (of_decide_eq_true h0) (by dsimp only;omega),fun _=>⟨_,⟨rfl,rfl⟩,rfl⟩⟩,?_⟩
 rintro _ V3 l3 rfl
 have hw:IntKind.u8.wrap (x:Int)=x:=IntWalk.u8_in _ (by omega)
 have hsz:(BA.size:Int)=256:=rfl
 dsimp only
 rw [hw]
 refine ⟨rfl,⟨by omega,by show (x:Int)<(BA.size:Int);rw [hsz];omega⟩,fun V4 l4=>?_⟩
 show Value.int .i64 (i64.wrap (0+i64.wrap ((BA.data.toList.getD (x:Int).toNat 0).toNat:Int)))=_
 congr 1
 have key:∀y:Nat,y<256->(BA.data.toList.getD y 0).toNat=bj y:=by decide +kernel
 have hbl:bj x<=8:=gj.2 (by omega)
 have:=key x hx
 rw [Int.toNat_natCast,this]
 simp (disch:=omega) only [ar]
 omega
theorem kU {V:View}(x:Nat)(hx:x<256):ab prog 180 #[.int .u64 (x:Int)] V fun r V'=>r=.int .i64 (bj x:Int):=by
 refine rL _ V _ fun V1 l1=>(Ix x hx).mono ?_
 rintro r V2 l2 rfl
 exact ⟨_,rfl,fun V3 l3=>rfl⟩
theorem qV {V:View}(x:Nat)(h0:1<=x)(hx:x<50):ab prog 241 #[.int .i64 (x:Int)] V fun r V'=>∃m:Nat,r=.int .u64 m/\1<=m/\m<=2*x:=by
 have w:u64.wrap (x:Int)=x:=aL (by omega)
 refine ki _ V _ fun V1 l1=>?_
 rw [w]
 refine (kU x (by omega)).mono ?_
 rintro r V2 l2 rfl
 have key:∀y:Nat,y<50->1<=y->2^bj y<=2*y/\bj y<=6:=by decide +kernel
 obtain ⟨k1,k2⟩:=key x hx h0
 have e:min ((bj x:Nat):Int).toNat IntKind.u64.bits=bj x:=by
  show min ((bj x:Nat):Int).toNat 64=_
  rw [Int.toNat_natCast];omega
 have e2:((1:Int)*2^bj x)=((2^bj x:Nat):Int):=by rw [Int.one_mul];simp
 refine ⟨_,rfl,by omega,fun V3 l3=>⟨2^bj x,?_,Nat.one_le_two_pow,k1⟩⟩
 rw [e,e2]
 generalize 2^bj x=P at *
 rw [aL (by omega)]
theorem KN {x m:Int}(h0:0<=m)(h1:m<1000):0<=aS .and .u64 x m/\aS .and .u64 x m<=m:=by
 have hb:(BitVec.ofInt 64 m).toNat=m.toNat:=by rw [BitVec.toNat_ofInt];omega
 have h:((BitVec.ofInt 64 x &&& BitVec.ofInt 64 m).toNat)<=m.toNat:=by rw [BitVec.toNat_and,hb];exact Nat.and_le_right
 show 0<=u64.wrap ((BitVec.ofInt 64 x &&& BitVec.ofInt 64 m).toNat:Int)/\u64.wrap ((BitVec.ofInt 64 x &&& BitVec.ofInt 64 m).toNat:Int)<=m
 rw [aL (by omega)]
 omega
theorem CZ {V:View}{rb:Nat}{x:Int}(hw:V.w.heap[rb]?=some (.cells #[.int .u64 x] 302 (0,0)))(hx:V.X rb) :
  ab prog 242 #[.pointer (some ⟨rb,0,none⟩)] V fun r V'=>∃y:Int,r=.int .u64 y/\V'.w.heap[rb]?=some (.cells #[.int .u64 y] 302 (0,0)):=
 kP rb x V _ hw hx ⟨by decide,by decide,by decide,fun V1 l1 h=>⟨_,rfl,h⟩⟩
end Go.Proofs.Tryz
namespace Go.Proofs.Tryz
open Go.bL
set_option maxRecDepth 100000
end Go.Proofs.Tryz
namespace Go.Proofs.Tryz
open Go.bL Go.fN
structure JU (V:View) (n:Nat) (vs:List Value) (l:List L3):Prop where
 row:Row 9 H8 V vs l
 len:n=l.length
 nC:l.length<50
theorem JU.le {V V':View}{n:Nat}{vs:List Value}{l:List L3}(h:JU V n vs l)(e:V.Le V'):JU V' n vs l:=⟨h.row.le fun _ _ g=>H8.le g e,h.len,h.nC⟩
theorem JU.get {V:View}{n:Nat}{vs:List Value}{l:List L3}(h:JU V n vs l){k:Nat}(hk:k<l.length):∃(x y:Int)(p:OA)(xb yb:Int)(pb:OA)(xc yc:Int)(pc:OA),
  ((0+k*9)+9<=vs.length/\(vs.drop (0+k*9)).take 9=[.int .i64 x,.int .i64 y,.pointer p,.int .i64 xb,.int .i64 yb,.pointer pb,.int .i64 xc,.int .i64 yc,.pointer pc])/\H8 V (.agg #[.int .i64 x,.int .i64 y,.pointer p,.int .i64 xb,.int .i64 yb,.pointer pb,.int .i64 xc,.int .i64 yc,.pointer pc]) (l.getD k KY):=by
 obtain ⟨xs,-,h2,h3,h4⟩:=h.row.get (d:=KY) hk (by decide)
 have h20:=h2
 obtain ⟨x,y,p,xb,yb,pb,xc,yc,pc,e⟩:=h2.shape
 have e:=congrArg Array.toList (Value.agg.inj e)
 dsimp only at e
 subst e
 rw [Nat.zero_add]
 exact ⟨x,y,p,xb,yb,pb,xc,yc,pc,⟨h3,h4⟩,h20⟩
theorem JU.swap {V:View}{n:Nat}{vs:List Value}{l:List L3}(h:JU V n vs l){i j:Nat}(hi:i<l.length)(hj:j<l.length){x y:Int}{p:OA}{xb yb:Int}{pb:OA}{xc yc:Int}{pc:OA}{x' y':Int}{p':OA}{Ml Mm:Int}{pb':OA}{PD TZ:Int}{pc':OA}
  (h1:H8 V (.agg #[.int .i64 x,.int .i64 y,.pointer p,.int .i64 xb,.int .i64 yb,.pointer pb,.int .i64 xc,.int .i64 yc,.pointer pc]) (l.getD i KY))(h2:H8 V (.agg #[.int .i64 x',.int .i64 y',.pointer p',.int .i64 Ml,.int .i64 Mm,.pointer pb',.int .i64 PD,.int .i64 TZ,.pointer pc']) (l.getD j KY)) :
  (0+i*9)+9<=vs.length/\(0+j*9)+9<=(ae vs (0+i*9) [.int .i64 x',.int .i64 y',.pointer p',.int .i64 Ml,.int .i64 Mm,.pointer pb',.int .i64 PD,.int .i64 TZ,.pointer pc']).length /\
  JU V n (ae (ae vs (0+i*9) [.int .i64 x',.int .i64 y',.pointer p',.int .i64 Ml,.int .i64 Mm,.pointer pb',.int .i64 PD,.int .i64 TZ,.pointer pc']) (0+j*9) [.int .i64 x,.int .i64 y,.pointer p,.int .i64 xb,.int .i64 yb,.pointer pb,.int .i64 xc,.int .i64 yc,.pointer pc]) (jn KY l i j):=by
 obtain ⟨-,-,-,g1,-⟩:=h.row.get (d:=KY) hi (by decide)
 obtain ⟨-,-,-,g2,-⟩:=h.row.get (d:=KY) hj (by decide)
 rw [Nat.zero_add,Nat.zero_add]
 refine ⟨g1,by rw [jP (by exact g1)];exact g2,h.row.swap hi hj (by decide) rfl rfl h1 h2,by rw [nL];exact h.len,by rw [nL];exact h.nC⟩
end Go.Proofs.Tryz
namespace Go.Proofs.Tryz
open Go.bL
set_option maxRecDepth 100000
end Go.Proofs.Tryz
namespace Go.Proofs.Tryz
open Go.bL Go.fN
structure GR {α:Type} (sz:Nat) (R:View->Value->α->Prop) (V:View) (n c:Nat) (vs:List Value) (l:List α):Prop where
 len:n=l.length
 le:n<=c
 cap:c*sz<=vs.length
 row:Row sz R V vs l
theorem GR.nil {α:Type}{sz:Nat}{R:View->Value->α->Prop}{V:View}:GR sz R V 0 0 [] []:=⟨rfl,Nat.le_refl _,by simp,Row.nil⟩
theorem GR.mono {α:Type}{sz:Nat}{R:View->Value->α->Prop}{V V':View}{n c:Nat}{vs:List Value}{l:List α}(h:GR sz R V n c vs l)(m:∀v a,R V v a->R V' v a):GR sz R V' n c vs l:=⟨h.len,h.le,h.cap,h.row.le m⟩
theorem GR.snoc {α:Type}{sz:Nat}{R:View->Value->α->Prop}{V:View}{n c:Nat}{vs:List Value}{l:List α}(h:GR sz R V n c vs l){xs:List Value}{a:α}(hx:xs.length=sz)(ha:R V (.agg xs.toArray) a)(h0:0<sz){sp:List Value}{c':Nat}(h1:n+1<=c')(h2:c'*sz<=(n+1)*sz+sp.length) :
  GR sz R V (n+1) c' (vs.take (n*sz)++xs++sp) (l++[a]):=by
 have hn:=h.len
 have hc:=h.cap
 have hl:n*sz<=c*sz:=Nat.mul_le_mul_right _ h.le
 refine ⟨by rw [List.length_append,hn];rfl,h1,?_,?_⟩
 ·have ht:(vs.take (n*sz)).length=n*sz:=by rw [List.length_take];omega
  rw [List.length_append,List.length_append,ht,hx]
  rw [Nat.succ_mul] at h2
  exact h2
 ·have:=h.row.snoc (sp:=sp) hx ha h0
  rw [←hn] at this
  exact this
end Go.Proofs.Tryz
namespace Go.Proofs.Tryz
open Go.bL
set_option maxRecDepth 100000
end Go.Proofs.Tryz
namespace Go.Proofs.Tryz
open Go.bL Go.fN
def cJ (l:L3):L3:=if l.1<0\/l.1=0/\l.2.1<0 then qk l else l
def Tr.mq:Tr->List L3
 | .leaf _=>[]
 | .node l a b=>l::(a.mq++b.mq)
theorem lB:∀t:Tr,t.mq.length=t.size
 | .leaf _=>rfl
 | .node _ a b=>by simp only [Tr.mq,List.length_cons,List.length_append,lB a,lB b,Tr.size]
theorem jG {p:L3->Prop}:∀{t:Tr},t.lN p->∀x∈t.mq,p x
 | .leaf _,_,x,h=>by cases h
 | .node l a b,⟨h1,h2,h3⟩,x,h=>by
  rcases List.mem_cons.1 h with rfl|h
  ·exact h1
  ·rcases List.mem_append.1 h with h|h
   ·exact jG h2 x h
   ·exact jG h3 x h
theorem Bd.rev {l:L3}(h:Bd l):Bd (qk l):=by
 obtain ⟨h1,h2,h3⟩:=h
 unfold Bd qk
 simp only [Int.natAbs_neg]
 exact ⟨h1,h2,h3⟩
theorem Bd.can {l:L3}(h:Bd l):Bd (cJ l):=by
 unfold cJ;split
 ·exact h.rev
 ·exact h
theorem Bd.HY {l:L3}(h:Bd l):yM 1000 l:=⟨h.sz.1,h.sz.2.1,h.sz.2.2⟩
theorem GS {V:View}{P:Prop}{b:Nat}(h:P->V.H b):V.Le (V.shut.cf P b):=fun x o g=>⟨fun hh=>by
 rcases hh with hh|hh
 ·exact g.1 hh
 ·rw [hh.2.1] at g;exact g.1 (h hh.1),g.2⟩
theorem ab.Oz {f:FuncId}{args:Array Value}{V:View}{R R':Value->View->Prop}(h:ab prog f args V R)(hR:∀r V',V.Le V'->(∀b,V.H b->V'.H b)->R r V'->R' r V'):ab prog f args V R':=
 ⟨h.1,h.2.mono fun _ w' ⟨r,he,hx,hr⟩=>⟨r,he,hx,hR r _ (V.GU w' hx) (fun _ hb=>hb) hr⟩⟩
end Go.Proofs.Tryz
