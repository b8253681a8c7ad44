import Derived.Test.YthpmdmkmfoaamaaGreatDoorG14
import Derived.Test.YthpmdmkmfoaamaaGreatDoorG7
import Derived.Test.YthpmdmkmfoaamaaGreatDoorG13
import Derived.Test.YthpmdmkmfoaamaaGreatDoorG5
import Derived.Test.YthpmdmkmfoaamaaGreatDoorG10
set_option linter.unusedVariables false
open Go.IntKind (i64 u64 u32)
namespace Go.Proofs.Tryz
open Go.bK Go.fV
theorem iL {V:View}{v:Value}{q:Rat}(h:RQ V v q){k:Nat}(_s:Sz k q)(_hk:k<=1099511627776):ab prog 61 #[v] V fun r V'=>RQ V' r (-q):=by
 obtain ⟨p,n,c,p',n',c',rfl,h1,h2⟩:=h
 exact m_ q h1 h2
theorem a_ {V:View}{z:Int}{p:OA}{n c:Nat}(h:RD V p n c (ai z.natAbs)){k:Nat}(_s:Sz k (z:Rat))(_hk:k<=1099511627776) :
  ab prog 97 #[.agg #[.bool (decide (z<0)),.slice p n c]] V fun r V'=>RQ V' r (z:Rat):=EF z h
theorem jr {V:View}{l:Value}{aK l_1 bW:Int}(hl:RL V l aK l_1 bW){k:Nat}(bF:Sz k ((aK:Int):Rat))(bH:Sz k ((l_1:Int):Rat))(bJ:Sz k ((bW:Int):Rat))(hk:1*k+1<274877906944) :
  ab prog 56 #[l] V fun r V'=>RP V' r (((l_1:Int):Rat)) (-(((aK:Int):Rat))):=by
 have hl0:=hl
 obtain ⟨l0,l1,l2,l3,l4,l5,l6,l7,l8,rfl,uE,uF,zg⟩:=hl
 refine Ad _ l0 l1 l2 _ l3 l4 l5 _ l6 l7 l8 V _ fun V1 l1=>(a_ (uF.le (l1)) bH (by omega)).mono ?_
 rintro r V2 l2 g1
 have g10:=g1
 obtain ⟨J5,J6,J7,Vg,Vh,Vi,rfl⟩:=g1.shape
 have bz:Sz (1*k+0) (((l_1:Int):Rat)):=Sz.mono (bH) (by omega)
 refine ⟨_,_,_,_,_,_,_,rfl,fun V3 l3=>(a_ (uE.le (l1.trans (l2.trans (l3)))) bF (by omega)).mono ?_⟩
 rintro r V4 l4 g2
 have g20:=g2
 obtain ⟨J8,J9,J_,Ti,Tj,Tk,rfl⟩:=g2.shape
 have bO:Sz (1*k+0) (((aK:Int):Rat)):=Sz.mono (bF) (by omega)
 refine ⟨_,_,_,_,_,_,_,rfl,fun V5 l5=>(iL (g20.le (l5)) bO (by omega)).mono ?_⟩
 rintro r V6 l6 g3
 have A6:=g3
 obtain ⟨Mh,Mi,Mj,Tl,Tn,To,rfl⟩:=g3.shape
 have dC:Sz (1*k+0) (-(((aK:Int):Rat))):=Sz.mono (Sz.neg bO) (by omega)
 exact ⟨_,_,_,_,_,_,_,rfl,fun V7 l7=>⟨_,_,_,_,_,_,_,_,_,_,_,_,rfl,(g10.le (l3.trans (l4.trans (l5.trans (l6.trans (l7)))))),(A6.le (l7))⟩⟩
theorem gj {aK:Int}{l_1:Int}{bW:Int}{k:Nat}(bF:Sz k ((aK:Int):Rat))(bH:Sz k ((l_1:Int):Rat))(bJ:Sz k ((bW:Int):Rat)):Sz (1*k+0) (((l_1:Int):Rat)):=by
 have bz:Sz (1*k+0) (((l_1:Int):Rat)):=Sz.mono (bH) (by omega)
 have bO:Sz (1*k+0) (((aK:Int):Rat)):=Sz.mono (bF) (by omega)
 have dC:Sz (1*k+0) (-(((aK:Int):Rat))):=Sz.mono (Sz.neg bO) (by omega)
 exact Sz.mono bz (by omega)
theorem gk {aK:Int}{l_1:Int}{bW:Int}{k:Nat}(bF:Sz k ((aK:Int):Rat))(bH:Sz k ((l_1:Int):Rat))(bJ:Sz k ((bW:Int):Rat)):Sz (1*k+0) (-(((aK:Int):Rat))):=by
 have bz:Sz (1*k+0) (((l_1:Int):Rat)):=Sz.mono (bH) (by omega)
 have bO:Sz (1*k+0) (((aK:Int):Rat)):=Sz.mono (bF) (by omega)
 have dC:Sz (1*k+0) (-(((aK:Int):Rat))):=Sz.mono (Sz.neg bO) (by omega)
 exact Sz.mono dC (by omega)
theorem AL {V:View}{p:Value}{cL cK:Rat}{q:Value}{jC jD:Rat}(hp:RP V p cL cK)(hq:RP V q jC jD){k:Nat}(dv:Sz k cL)(cY:Sz k cK)(jT:Sz k jC)(jU:Sz k jD)(hk:4*k+3<274877906944) :
  ab prog 117 #[p,q] V fun r V'=>RQ V' r (((cL)*(jC))+((cK)*(jD))):=by
 have hp0:=hp
 obtain ⟨p0,p1,p2,p3,p4,p5,p6,p7,p8,p9,HK,Lh,rfl,pO,pP⟩:=hp
 have hq0:=hq
 obtain ⟨q0,q1,q2,q3,q4,q5,q6,q7,q8,q9,Li,Xs,rfl,CY,CZ⟩:=hq
 refine Ae _ p0 p1 p2 p3 p4 p5 _ p6 p7 p8 p9 HK Lh _ q0 q1 q2 q3 q4 q5 _ q6 q7 q8 q9 Li Xs V _ fun V1 l1=>(aO (pO.le (l1)) (CY.le (l1)) dv jT (by omega)).mono ?_
 rintro r V2 l2 g1
 have g10:=g1
 obtain ⟨J5,J6,J7,Vg,Vh,Vi,rfl⟩:=g1.shape
 have bz:Sz (2*k+1) ((cL)*(jC)):=Sz.mono (Sz.mul dv jT) (by omega)
 refine ⟨_,_,_,_,_,_,_,rfl,fun V3 l3=>(aO (pP.le (l1.trans (l2.trans (l3)))) (CZ.le (l1.trans (l2.trans (l3)))) cY jU (by omega)).mono ?_⟩
 rintro r V4 l4 g2
 have g20:=g2
 obtain ⟨J8,J9,J_,Ti,Tj,Tk,rfl⟩:=g2.shape
 have bO:Sz (2*k+1) ((cK)*(jD)):=Sz.mono (Sz.mul cY jU) (by omega)
 refine ⟨_,_,_,_,_,_,_,rfl,fun V5 l5=>(eH (g10.le (l3.trans (l4.trans (l5)))) (g20.le (l5)) bz bO (by omega)).mono ?_⟩
 rintro r V6 l6 g3
 have A6:=g3
 obtain ⟨Mh,Mi,Mj,Tl,Tn,To,rfl⟩:=g3.shape
 have dC:Sz (4*k+3) (((cL)*(jC))+((cK)*(jD))):=Sz.mono (Sz.add bz bO) (by omega)
 exact ⟨_,_,_,_,_,_,_,rfl,fun V7 l7=>(A6.le (l7))⟩
theorem j8 {cL:Rat}{cK:Rat}{jC:Rat}{jD:Rat}{k:Nat}(dv:Sz k cL)(cY:Sz k cK)(jT:Sz k jC)(jU:Sz k jD):Sz (4*k+3) (((cL)*(jC))+((cK)*(jD))):=by
 have bz:Sz (2*k+1) ((cL)*(jC)):=Sz.mono (Sz.mul dv jT) (by omega)
 have bO:Sz (2*k+1) ((cK)*(jD)):=Sz.mono (Sz.mul cY jU) (by omega)
 have dC:Sz (4*k+3) (((cL)*(jC))+((cK)*(jD))):=Sz.mono (Sz.add bz bO) (by omega)
 exact Sz.mono dC (by omega)
theorem wF {V:View}{l:Value}{aK l_1 bW:Int}{p:Value}{cL cK:Rat}(hl:RL V l aK l_1 bW)(hp:RP V p cL cK){k:Nat}(bF:Sz k ((aK:Int):Rat))(bH:Sz k ((l_1:Int):Rat))(bJ:Sz k ((bW:Int):Rat))(dv:Sz k cL)(cY:Sz k cK)(hk:5*k+4<274877906944) :
  ab prog 66 #[l,p] V fun r V'=>RQ V' r ((((((aK:Int):Rat))*(cL))+((((l_1:Int):Rat))*(cK)))+(((bW:Int):Rat))):=by
 have hl0:=hl
 obtain ⟨l0,l1,l2,l3,l4,l5,l6,l7,l8,rfl,uE,uF,zg⟩:=hl
 have hp0:=hp
 obtain ⟨p0,p1,p2,p3,p4,p5,p6,p7,p8,p9,HK,Lh,rfl,pO,pP⟩:=hp
 refine vV _ l0 l1 l2 _ l3 l4 l5 _ l6 l7 l8 _ p0 p1 p2 p3 p4 p5 _ p6 p7 p8 p9 HK Lh V _ fun V1 l1=>(a_ (uE.le (l1)) bF (by omega)).mono ?_
 rintro r V2 l2 g1
 have g10:=g1
 obtain ⟨J5,J6,J7,Vg,Vh,Vi,rfl⟩:=g1.shape
 have bz:Sz (1*k+0) (((aK:Int):Rat)):=Sz.mono (bF) (by omega)
 refine ⟨_,_,_,_,_,_,_,rfl,fun V3 l3=>(aO (g10.le (l3)) (pO.le (l1.trans (l2.trans (l3)))) bz dv (by omega)).mono ?_⟩
 rintro r V4 l4 g2
 have g20:=g2
 obtain ⟨J8,J9,J_,Ti,Tj,Tk,rfl⟩:=g2.shape
 have bO:Sz (2*k+1) ((((aK:Int):Rat))*(cL)):=Sz.mono (Sz.mul bz dv) (by omega)
 refine ⟨_,_,_,_,_,_,_,rfl,fun V5 l5=>(a_ (uF.le (l1.trans (l2.trans (l3.trans (l4.trans (l5)))))) bH (by omega)).mono ?_⟩
 rintro r V6 l6 g3
 have A6:=g3
 obtain ⟨Mh,Mi,Mj,Tl,Tn,To,rfl⟩:=g3.shape
 have dC:Sz (1*k+0) (((l_1:Int):Rat)):=Sz.mono (bH) (by omega)
 refine ⟨_,_,_,_,_,_,_,rfl,fun V7 l7=>(aO (A6.le (l7)) (pP.le (l1.trans (l2.trans (l3.trans (l4.trans (l5.trans (l6.trans (l7)))))))) dC cY (by omega)).mono ?_⟩
 rintro r V8 l8 g4
 have Qy:=g4
 obtain ⟨X6,X9,X_,Ya,Yb,Yc,rfl⟩:=g4.shape
 have mb:Sz (2*k+1) ((((l_1:Int):Rat))*(cK)):=Sz.mono (Sz.mul dC cY) (by omega)
 refine ⟨_,_,_,_,_,_,_,rfl,fun V9 l9=>(eH (g20.le (l5.trans (l6.trans (l7.trans (l8.trans (l9)))))) (Qy.le (l9)) bO mb (by omega)).mono ?_⟩
 rintro r g_ l10 g5
 have Ps:=g5
 obtain ⟨Yd,Ye,Yf,Yg,Yh,Yi,rfl⟩:=g5.shape
 have nM:Sz (4*k+3) (((((aK:Int):Rat))*(cL))+((((l_1:Int):Rat))*(cK))):=Sz.mono (Sz.add bO mb) (by omega)
 refine ⟨_,_,_,_,_,_,_,rfl,fun gW bI=>(a_ (zg.le (l1.trans (l2.trans (l3.trans (l4.trans (l5.trans (l6.trans (l7.trans (l8.trans (l9.trans (l10.trans (bI)))))))))))) bJ (by omega)).mono ?_⟩
 rintro r lH cw g6
 have Qz:=g6
 obtain ⟨Yj,Yk,Yl,Ym,Yn,Yp,rfl⟩:=g6.shape
 have Al:Sz (1*k+0) (((bW:Int):Rat)):=Sz.mono (bJ) (by omega)
 refine ⟨_,_,_,_,_,_,_,rfl,fun lU cd=>(eH (Ps.le (bI.trans (cw.trans (cd)))) (Qz.le (cd)) nM Al (by omega)).mono ?_⟩
 rintro r po dN g7
 have QA:=g7
 obtain ⟨Yq,Yr,Ys,Yt,Yu,Yv,rfl⟩:=g7.shape
 have Jm:Sz (5*k+4) ((((((aK:Int):Rat))*(cL))+((((l_1:Int):Rat))*(cK)))+(((bW:Int):Rat))):=Sz.mono (Sz.add nM Al) (by omega)
 exact ⟨_,_,_,_,_,_,_,rfl,fun nF dk=>(QA.le (dk))⟩
theorem yY {V:View}{l:Value}{aK l_1 bW:Int}(hl:RL V l aK l_1 bW)(hd0:((((((l_1:Int):Rat)))*((((l_1:Int):Rat))))+(((-(((aK:Int):Rat))))*((-(((aK:Int):Rat)))))).num≠0){k:Nat}(bF:Sz k ((aK:Int):Rat))(bH:Sz k ((l_1:Int):Rat))(bJ:Sz k ((bW:Int):Rat))(hk:6*k+5<274877906944) :
  ab prog 72 #[l] V fun r V'=>RP V' r ((-((((bW:Int):Rat))*((((((l_1:Int):Rat)))*((((l_1:Int):Rat))))+(((-(((aK:Int):Rat))))*((-(((aK:Int):Rat))))))⁻¹))*(((aK:Int):Rat))) ((-((((bW:Int):Rat))*((((((l_1:Int):Rat)))*((((l_1:Int):Rat))))+(((-(((aK:Int):Rat))))*((-(((aK:Int):Rat))))))⁻¹))*(((l_1:Int):Rat))):=by
 have hl0:=hl
 obtain ⟨l0,l1,l2,l3,l4,l5,l6,l7,l8,rfl,uE,uF,zg⟩:=hl
 refine xl _ l0 l1 l2 _ l3 l4 l5 _ l6 l7 l8 V _ fun V1 l1=>(jr (hl0.le (l1)) (Sz.mono bF (by omega):Sz (1*k+0) _) (Sz.mono bH (by omega):Sz (1*k+0) _) (Sz.mono bJ (by omega):Sz (1*k+0) _) (by omega)).mono ?_
 rintro r V2 l2 g1
 have g10:=g1
 obtain ⟨OS,OT,OW,OX,OY,OZ,Td,Te,Tf,Tg,OU,OV,rfl,MU,MV⟩:=g1
 have bz:Sz (1*k+0) (((l_1:Int):Rat)):=Sz.mono ((gj (Sz.mono bF (by omega):Sz (1*k+0) _) (Sz.mono bH (by omega):Sz (1*k+0) _) (Sz.mono bJ (by omega):Sz (1*k+0) _))) (by omega)
 have dW:Sz (1*k+0) (-(((aK:Int):Rat))):=Sz.mono ((gk (Sz.mono bF (by omega):Sz (1*k+0) _) (Sz.mono bH (by omega):Sz (1*k+0) _) (Sz.mono bJ (by omega):Sz (1*k+0) _))) (by omega)
 refine ⟨_,_,_,_,_,_,_,_,_,_,_,_,_,_,rfl,fun V3 l3=>(a_ (zg.le (l1.trans (l2.trans (l3)))) bJ (by omega)).mono ?_⟩
 rintro r V4 l4 g2
 have g20:=g2
 obtain ⟨J8,J9,J_,Ti,Tj,Tk,rfl⟩:=g2.shape
 have bO:Sz (1*k+0) (((bW:Int):Rat)):=Sz.mono (bJ) (by omega)
 refine ⟨_,_,_,_,_,_,_,rfl,fun V5 l5=>(AL (g10.le (l3.trans (l4.trans (l5)))) (g10.le (l3.trans (l4.trans (l5)))) (Sz.mono bz (by omega):Sz (1*k+0) _) (Sz.mono dW (by omega):Sz (1*k+0) _) (Sz.mono bz (by omega):Sz (1*k+0) _) (Sz.mono dW (by omega):Sz (1*k+0) _) (by omega)).mono ?_⟩
 rintro r V6 l6 g3
 have A6:=g3
 obtain ⟨Mh,Mi,Mj,Tl,Tn,To,rfl⟩:=g3.shape
 have dC:Sz (4*k+3) ((((((l_1:Int):Rat)))*((((l_1:Int):Rat))))+(((-(((aK:Int):Rat))))*((-(((aK:Int):Rat)))))):=Sz.mono ((j8 (Sz.mono bz (by omega):Sz (1*k+0) _) (Sz.mono dW (by omega):Sz (1*k+0) _) (Sz.mono bz (by omega):Sz (1*k+0) _) (Sz.mono dW (by omega):Sz (1*k+0) _))) (by omega)
 refine ⟨_,_,_,_,_,_,_,rfl,fun V7 l7=>(oz (g20.le (l5.trans (l6.trans (l7)))) (A6.le (l7)) hd0 bO dC (by omega)).mono ?_⟩
 rintro r V8 l8 g4
 have Qy:=g4
 obtain ⟨X6,X9,X_,Ya,Yb,Yc,rfl⟩:=g4.shape
 have mb:Sz (5*k+4) ((((bW:Int):Rat))*((((((l_1:Int):Rat)))*((((l_1:Int):Rat))))+(((-(((aK:Int):Rat))))*((-(((aK:Int):Rat))))))⁻¹):=Sz.mono (Sz.mul bO (iZ dC)) (by omega)
 refine ⟨_,_,_,_,_,_,_,rfl,fun V9 l9=>(iL (Qy.le (l9)) mb (by omega)).mono ?_⟩
 rintro r g_ l10 g5
 have Ps:=g5
 obtain ⟨Yd,Ye,Yf,Yg,Yh,Yi,rfl⟩:=g5.shape
 have nM:Sz (5*k+4) (-((((bW:Int):Rat))*((((((l_1:Int):Rat)))*((((l_1:Int):Rat))))+(((-(((aK:Int):Rat))))*((-(((aK:Int):Rat))))))⁻¹)):=Sz.mono (Sz.neg mb) (by omega)
 refine ⟨_,_,_,_,_,_,_,rfl,fun gW bI=>(a_ (uE.le (l1.trans (l2.trans (l3.trans (l4.trans (l5.trans (l6.trans (l7.trans (l8.trans (l9.trans (l10.trans (bI)))))))))))) bF (by omega)).mono ?_⟩
 rintro r lH cw g6
 have Qz:=g6
 obtain ⟨Yj,Yk,Yl,Ym,Yn,Yp,rfl⟩:=g6.shape
 have Al:Sz (1*k+0) (((aK:Int):Rat)):=Sz.mono (bF) (by omega)
 refine ⟨_,_,_,_,_,_,_,rfl,fun lU cd=>(aO (Ps.le (bI.trans (cw.trans (cd)))) (Qz.le (cd)) nM Al (by omega)).mono ?_⟩
 rintro r po dN g7
 have QA:=g7
 obtain ⟨Yq,Yr,Ys,Yt,Yu,Yv,rfl⟩:=g7.shape
 have Jm:Sz (6*k+5) ((-((((bW:Int):Rat))*((((((l_1:Int):Rat)))*((((l_1:Int):Rat))))+(((-(((aK:Int):Rat))))*((-(((aK:Int):Rat))))))⁻¹))*(((aK:Int):Rat))):=Sz.mono (Sz.mul nM Al) (by omega)
 refine ⟨_,_,_,_,_,_,_,rfl,fun nF dk=>(a_ (uF.le (l1.trans (l2.trans (l3.trans (l4.trans (l5.trans (l6.trans (l7.trans (l8.trans (l9.trans (l10.trans (bI.trans (cw.trans (cd.trans (dN.trans (dk)))))))))))))))) bH (by omega)).mono ?_⟩
 rintro r mW dm g8
 have Wq:=g8
 obtain ⟨Ze,Zf,Zg,Zh,Zi,Zj,rfl⟩:=g8.shape
 have Fl:Sz (1*k+0) (((l_1:Int):Rat)):=Sz.mono (bH) (by omega)
 refine ⟨_,_,_,_,_,_,_,rfl,fun nN cP=>(aO (Ps.le (bI.trans (cw.trans (cd.trans (dN.trans (dk.trans (dm.trans (cP)))))))) (Wq.le (cP)) nM Fl (by omega)).mono ?_⟩
 rintro r qI dZ g9
 have Wr:=g9
 obtain ⟨Zk,Zl,Zm,Zn,Zo,Zp,rfl⟩:=g9.shape
 have LR:Sz (6*k+5) ((-((((bW:Int):Rat))*((((((l_1:Int):Rat)))*((((l_1:Int):Rat))))+(((-(((aK:Int):Rat))))*((-(((aK:Int):Rat))))))⁻¹))*(((l_1:Int):Rat))):=Sz.mono (Sz.mul nM Fl) (by omega)
 exact ⟨_,_,_,_,_,_,_,rfl,fun tq dR=>⟨_,_,_,_,_,_,_,_,_,_,_,_,rfl,(QA.le (dk.trans (dm.trans (cP.trans (dZ.trans (dR)))))),(Wr.le (dR))⟩⟩
theorem vZ {aK:Int}{l_1:Int}{bW:Int}{k:Nat}(bF:Sz k ((aK:Int):Rat))(bH:Sz k ((l_1:Int):Rat))(bJ:Sz k ((bW:Int):Rat)):Sz (6*k+5) ((-((((bW:Int):Rat))*((((((l_1:Int):Rat)))*((((l_1:Int):Rat))))+(((-(((aK:Int):Rat))))*((-(((aK:Int):Rat))))))⁻¹))*(((aK:Int):Rat))):=by
 have bz:Sz (1*k+0) (((l_1:Int):Rat)):=Sz.mono ((gj (Sz.mono bF (by omega):Sz (1*k+0) _) (Sz.mono bH (by omega):Sz (1*k+0) _) (Sz.mono bJ (by omega):Sz (1*k+0) _))) (by omega)
 have dW:Sz (1*k+0) (-(((aK:Int):Rat))):=Sz.mono ((gk (Sz.mono bF (by omega):Sz (1*k+0) _) (Sz.mono bH (by omega):Sz (1*k+0) _) (Sz.mono bJ (by omega):Sz (1*k+0) _))) (by omega)
 have bO:Sz (1*k+0) (((bW:Int):Rat)):=Sz.mono (bJ) (by omega)
 have dC:Sz (4*k+3) ((((((l_1:Int):Rat)))*((((l_1:Int):Rat))))+(((-(((aK:Int):Rat))))*((-(((aK:Int):Rat)))))):=Sz.mono ((j8 (Sz.mono bz (by omega):Sz (1*k+0) _) (Sz.mono dW (by omega):Sz (1*k+0) _) (Sz.mono bz (by omega):Sz (1*k+0) _) (Sz.mono dW (by omega):Sz (1*k+0) _))) (by omega)
 have mb:Sz (5*k+4) ((((bW:Int):Rat))*((((((l_1:Int):Rat)))*((((l_1:Int):Rat))))+(((-(((aK:Int):Rat))))*((-(((aK:Int):Rat))))))⁻¹):=Sz.mono (Sz.mul bO (iZ dC)) (by omega)
 have nM:Sz (5*k+4) (-((((bW:Int):Rat))*((((((l_1:Int):Rat)))*((((l_1:Int):Rat))))+(((-(((aK:Int):Rat))))*((-(((aK:Int):Rat))))))⁻¹)):=Sz.mono (Sz.neg mb) (by omega)
 have Al:Sz (1*k+0) (((aK:Int):Rat)):=Sz.mono (bF) (by omega)
 have Jm:Sz (6*k+5) ((-((((bW:Int):Rat))*((((((l_1:Int):Rat)))*((((l_1:Int):Rat))))+(((-(((aK:Int):Rat))))*((-(((aK:Int):Rat))))))⁻¹))*(((aK:Int):Rat))):=Sz.mono (Sz.mul nM Al) (by omega)
 have Fl:Sz (1*k+0) (((l_1:Int):Rat)):=Sz.mono (bH) (by omega)
 have LR:Sz (6*k+5) ((-((((bW:Int):Rat))*((((((l_1:Int):Rat)))*((((l_1:Int):Rat))))+(((-(((aK:Int):Rat))))*((-(((aK:Int):Rat))))))⁻¹))*(((l_1:Int):Rat))):=Sz.mono (Sz.mul nM Fl) (by omega)
 exact Sz.mono Jm (by omega)
theorem v_ {aK:Int}{l_1:Int}{bW:Int}{k:Nat}(bF:Sz k ((aK:Int):Rat))(bH:Sz k ((l_1:Int):Rat))(bJ:Sz k ((bW:Int):Rat)):Sz (6*k+5) ((-((((bW:Int):Rat))*((((((l_1:Int):Rat)))*((((l_1:Int):Rat))))+(((-(((aK:Int):Rat))))*((-(((aK:Int):Rat))))))⁻¹))*(((l_1:Int):Rat))):=by
 have bz:Sz (1*k+0) (((l_1:Int):Rat)):=Sz.mono ((gj (Sz.mono bF (by omega):Sz (1*k+0) _) (Sz.mono bH (by omega):Sz (1*k+0) _) (Sz.mono bJ (by omega):Sz (1*k+0) _))) (by omega)
 have dW:Sz (1*k+0) (-(((aK:Int):Rat))):=Sz.mono ((gk (Sz.mono bF (by omega):Sz (1*k+0) _) (Sz.mono bH (by omega):Sz (1*k+0) _) (Sz.mono bJ (by omega):Sz (1*k+0) _))) (by omega)
 have bO:Sz (1*k+0) (((bW:Int):Rat)):=Sz.mono (bJ) (by omega)
 have dC:Sz (4*k+3) ((((((l_1:Int):Rat)))*((((l_1:Int):Rat))))+(((-(((aK:Int):Rat))))*((-(((aK:Int):Rat)))))):=Sz.mono ((j8 (Sz.mono bz (by omega):Sz (1*k+0) _) (Sz.mono dW (by omega):Sz (1*k+0) _) (Sz.mono bz (by omega):Sz (1*k+0) _) (Sz.mono dW (by omega):Sz (1*k+0) _))) (by omega)
 have mb:Sz (5*k+4) ((((bW:Int):Rat))*((((((l_1:Int):Rat)))*((((l_1:Int):Rat))))+(((-(((aK:Int):Rat))))*((-(((aK:Int):Rat))))))⁻¹):=Sz.mono (Sz.mul bO (iZ dC)) (by omega)
 have nM:Sz (5*k+4) (-((((bW:Int):Rat))*((((((l_1:Int):Rat)))*((((l_1:Int):Rat))))+(((-(((aK:Int):Rat))))*((-(((aK:Int):Rat))))))⁻¹)):=Sz.mono (Sz.neg mb) (by omega)
 have Al:Sz (1*k+0) (((aK:Int):Rat)):=Sz.mono (bF) (by omega)
 have Jm:Sz (6*k+5) ((-((((bW:Int):Rat))*((((((l_1:Int):Rat)))*((((l_1:Int):Rat))))+(((-(((aK:Int):Rat))))*((-(((aK:Int):Rat))))))⁻¹))*(((aK:Int):Rat))):=Sz.mono (Sz.mul nM Al) (by omega)
 have Fl:Sz (1*k+0) (((l_1:Int):Rat)):=Sz.mono (bH) (by omega)
 have LR:Sz (6*k+5) ((-((((bW:Int):Rat))*((((((l_1:Int):Rat)))*((((l_1:Int):Rat))))+(((-(((aK:Int):Rat))))*((-(((aK:Int):Rat))))))⁻¹))*(((l_1:Int):Rat))):=Sz.mono (Sz.mul nM Fl) (by omega)
 exact Sz.mono LR (by omega)
theorem CI {V:View}{l:Value}{aK l_1 bW:Int}{t:Value}{yB:Rat}(hl:RL V l aK l_1 bW)(ht:RQ V t yB)(hd0:((((((l_1:Int):Rat)))*((((l_1:Int):Rat))))+(((-(((aK:Int):Rat))))*((-(((aK:Int):Rat)))))).num≠0){k:Nat}(bF:Sz k ((aK:Int):Rat))(bH:Sz k ((l_1:Int):Rat))(bJ:Sz k ((bW:Int):Rat))(zO:Sz k yB)(hk:18*k+16<274877906944) :
  ab prog 23 #[l,t] V fun r V'=>RP V' r (((-((((bW:Int):Rat))*((((((l_1:Int):Rat)))*((((l_1:Int):Rat))))+(((-(((aK:Int):Rat))))*((-(((aK:Int):Rat))))))⁻¹))*(((aK:Int):Rat)))+(yB)*(((l_1:Int):Rat))) (((-((((bW:Int):Rat))*((((((l_1:Int):Rat)))*((((l_1:Int):Rat))))+(((-(((aK:Int):Rat))))*((-(((aK:Int):Rat))))))⁻¹))*(((l_1:Int):Rat)))+(yB)*(-(((aK:Int):Rat)))):=by
 have hl0:=hl
 obtain ⟨l0,l1,l2,l3,l4,l5,l6,l7,l8,rfl,uE,uF,zg⟩:=hl
 have ht0:=ht
 obtain ⟨t0,t1,t2,t3,t4,t5,rfl⟩:=ht.shape
 refine Ck _ l0 l1 l2 _ l3 l4 l5 _ l6 l7 l8 _ t0 t1 t2 t3 t4 t5 V _ fun V1 l1=>(yY (hl0.le (l1)) hd0 (Sz.mono bF (by omega):Sz (1*k+0) _) (Sz.mono bH (by omega):Sz (1*k+0) _) (Sz.mono bJ (by omega):Sz (1*k+0) _) (by omega)).mono ?_
 rintro r V2 l2 g1
 have g10:=g1
 obtain ⟨OS,OT,OW,OX,OY,OZ,Td,Te,Tf,Tg,OU,OV,rfl,MU,MV⟩:=g1
 have bz:Sz (6*k+5) ((-((((bW:Int):Rat))*((((((l_1:Int):Rat)))*((((l_1:Int):Rat))))+(((-(((aK:Int):Rat))))*((-(((aK:Int):Rat))))))⁻¹))*(((aK:Int):Rat))):=Sz.mono ((vZ (Sz.mono bF (by omega):Sz (1*k+0) _) (Sz.mono bH (by omega):Sz (1*k+0) _) (Sz.mono bJ (by omega):Sz (1*k+0) _))) (by omega)
 have dW:Sz (6*k+5) ((-((((bW:Int):Rat))*((((((l_1:Int):Rat)))*((((l_1:Int):Rat))))+(((-(((aK:Int):Rat))))*((-(((aK:Int):Rat))))))⁻¹))*(((l_1:Int):Rat))):=Sz.mono ((v_ (Sz.mono bF (by omega):Sz (1*k+0) _) (Sz.mono bH (by omega):Sz (1*k+0) _) (Sz.mono bJ (by omega):Sz (1*k+0) _))) (by omega)
 refine ⟨_,_,_,_,_,_,_,_,_,_,_,_,_,_,rfl,fun V3 l3=>(jr (hl0.le (l1.trans (l2.trans (l3)))) (Sz.mono bF (by omega):Sz (1*k+0) _) (Sz.mono bH (by omega):Sz (1*k+0) _) (Sz.mono bJ (by omega):Sz (1*k+0) _) (by omega)).mono ?_⟩
 rintro r V4 l4 g2
 have g20:=g2
 obtain ⟨XL,XM,XN,XO,XP,XQ,XR,XS,XT,XU,Vj,Vk,rfl,Wo,Wp⟩:=g2
 have bO:Sz (1*k+0) (((l_1:Int):Rat)):=Sz.mono ((gj (Sz.mono bF (by omega):Sz (1*k+0) _) (Sz.mono bH (by omega):Sz (1*k+0) _) (Sz.mono bJ (by omega):Sz (1*k+0) _))) (by omega)
 have Cm:Sz (1*k+0) (-(((aK:Int):Rat))):=Sz.mono ((gk (Sz.mono bF (by omega):Sz (1*k+0) _) (Sz.mono bH (by omega):Sz (1*k+0) _) (Sz.mono bJ (by omega):Sz (1*k+0) _))) (by omega)
 refine ⟨_,_,_,_,_,_,_,_,_,_,_,_,_,_,rfl,fun V5 l5=>(jq (g10.le (l3.trans (l4.trans (l5)))) (ht0.le (l1.trans (l2.trans (l3.trans (l4.trans (l5)))))) (g20.le (l5)) (Sz.mono bz (by omega):Sz (6*k+5) _) (Sz.mono dW (by omega):Sz (6*k+5) _) (Sz.mono zO (by omega):Sz (6*k+5) _) (Sz.mono bO (by omega):Sz (6*k+5) _) (Sz.mono Cm (by omega):Sz (6*k+5) _) (by omega)).mono ?_⟩
 rintro r V6 l6 g3
 have A6:=g3
 obtain ⟨XV,XW,XX,XY,XZ,X0,X1,X2,X4,X5,Vl,Vm,rfl,Qw,Qx⟩:=g3
 have dC:Sz (18*k+17) (((-((((bW:Int):Rat))*((((((l_1:Int):Rat)))*((((l_1:Int):Rat))))+(((-(((aK:Int):Rat))))*((-(((aK:Int):Rat))))))⁻¹))*(((aK:Int):Rat)))+(yB)*(((l_1:Int):Rat))):=Sz.mono (Sz.add (Sz.mono bz (by omega):Sz (6*k+5) _) (Sz.mul (Sz.mono zO (by omega):Sz (6*k+5) _) (Sz.mono bO (by omega):Sz (6*k+5) _))) (by omega)
 have Fk:Sz (18*k+17) (((-((((bW:Int):Rat))*((((((l_1:Int):Rat)))*((((l_1:Int):Rat))))+(((-(((aK:Int):Rat))))*((-(((aK:Int):Rat))))))⁻¹))*(((l_1:Int):Rat)))+(yB)*(-(((aK:Int):Rat)))):=Sz.mono (Sz.add (Sz.mono dW (by omega):Sz (6*k+5) _) (Sz.mul (Sz.mono zO (by omega):Sz (6*k+5) _) (Sz.mono Cm (by omega):Sz (6*k+5) _))) (by omega)
 exact ⟨_,_,_,_,_,_,_,_,_,_,_,_,_,_,rfl,fun V7 l7=>⟨_,_,_,_,_,_,_,_,_,_,_,_,rfl,(Qw.le (l7)),(Qx.le (l7))⟩⟩
theorem RA.shape {V:View}{v:Value}{q:Rat}(h:RA V v q):∃b p n c p' n' c',v=.agg #[.bool b,.slice p n c,.slice p' n' c']:=by
 obtain ⟨p,n,c,p',n',c',e,-⟩:=h;exact ⟨_,_,_,_,_,_,_,e⟩
def Kd (V:View)(v:Value)(x y:Rat):Prop:=∃b p n c p' n' c' d q m e q' m' e',v=.agg #[.bool b,.slice p n c,.slice p' n' c',.bool d,.slice q m e,.slice q' m' e'] /\
 RA V (.agg #[.bool b,.slice p n c,.slice p' n' c']) x/\RA V (.agg #[.bool d,.slice q m e,.slice q' m' e']) y
theorem Kd.le {V V':View}{v:Value}{x y:Rat}(h:Kd V v x y)(l:V.Le V'):Kd V' v x y:=by
 obtain ⟨b,p,n,c,p',n',c',d,q,m,e,q',m',e',rfl,h1,h2⟩:=h
 exact ⟨_,_,_,_,_,_,_,_,_,_,_,_,_,_,rfl,h1.le l,h2.le l⟩
theorem CC {V:View}{v:Value}{x y:Rat}(h:Kd V v x y){k:Nat}(s1:Sz k x)(s2:Sz k y)(hk:k<=1099511627776) :
  ab prog 47 #[v] V fun r V'=>lS V' r x y:=by
 obtain ⟨b,p,n,c,p',n',c',d,q,m,e,q',m',e',rfl,h1,h2⟩:=h
 refine sv b p n c p' n' c' d q m e q' m' e' V _ fun V1 l1=>(xO (h1.le l1) s1 hk).mono ?_
 rintro r V2 l2 g1
 have g10:=g1
 obtain ⟨u,v,w,rfl⟩:=g1.shape
 refine ⟨_,_,_,rfl,fun V3 l3=>(xO (h2.le (l1.trans (l2.trans l3))) s2 hk).mono ?_⟩
 rintro r V4 l4 g2
 have g20:=g2
 obtain ⟨u,v,w,rfl⟩:=g2.shape
 exact ⟨_,_,_,rfl,fun V5 l5=>⟨_,_,_,_,_,_,rfl,g10.le (l3.trans (l4.trans l5)),g20.le l5⟩⟩
theorem wu {V:View}{l p:Value}{aK l_1 bW cL cK:Rat}(hl:Cn V l aK l_1 bW)(hp:lS V p cL cK){k:Nat}(s0:Sz k aK)(s1:Sz k l_1)(s2:Sz k bW)(s3:Sz k cL)(s4:Sz k cK)(hk:16*k+16<274877906944) :
  ab prog 125 #[l,p] V fun r V'=>r=.int .i64 (aK*cL+l_1*cK+bW).num.sign:=by
 have hl0:=hl
 have hp0:=hp
 obtain ⟨a0,a1,a2,a3,a4,a5,a6,a7,a8,rfl,-,-,-⟩:=hl
 obtain ⟨p0,p1,p2,p3,p4,p5,rfl,-,-⟩:=hp
 refine vG a0 a1 a2 a3 a4 a5 a6 a7 a8 p0 p1 p2 p3 p4 p5 V _ fun V1 l1=>(ue (hl0.le l1) (hp0.le l1) s0 s1 s2 s3 s4 (by omega)).mono ?_
 rintro r V2 l2 g
 have g0:=g
 obtain ⟨u,v,w,rfl⟩:=g.shape
 refine ⟨_,_,_,rfl,fun V3 l3=>(fa (g0.le l3) (rJ s0 s1 s2 s3 s4) (by omega)).mono ?_⟩
 rintro r V4 l4 rfl
 exact ⟨_,rfl,fun V5 l5=>rfl⟩
theorem rN {V:View}{v:Value}{q:Rat}(h:RQ V v q){k:Nat}(s:Sz k q)(hk:k<=1099511627776):ab prog 49 #[v] V fun r V'=>RA V' r q:=by
 obtain ⟨p,n,c,p',n',c',rfl,h1,h2⟩:=h
 have q1:=af s.1
 have q2:=af s.2
 refine Aa _ p n c p' n' c' V _ fun V1 l1=>(jo ⟨_,_,_,rfl,h1.le l1⟩ (by omega)).mono ?_
 rintro r V2 l2 ⟨p1,n1,c1,rfl,g1⟩
 refine ⟨_,_,_,_,rfl,fun V3 l3=>(bY q _ (h2.le (l1.trans (l2.trans l3)))).mono ?_⟩
 rintro r V4 l4 ⟨p2,n2,c2,rfl,g2⟩
 refine ⟨_,_,_,rfl,fun V5 l5=>(rM (g2.le l5) (by omega)).mono ?_⟩
 rintro r V6 l6 ⟨p3,n3,c3,rfl,g3⟩
 exact ⟨_,_,_,rfl,fun V7 l7=>⟨_,_,_,_,_,_,rfl,g1.le (l3.trans (l4.trans (l5.trans (l6.trans l7)))),g3.le l7⟩⟩
theorem gv {V:View}{v:Value}{x y:Rat}(h:RP V v x y){k:Nat}(s1:Sz k x)(s2:Sz k y)(hk:k<=1099511627776):ab prog 15 #[v] V fun r V'=>Kd V' r x y:=by
 obtain ⟨p1,n1,c1,p2,n2,c2,p3,n3,c3,p4,n4,c4,rfl,h1,h2⟩:=h
 refine Aj _ p1 n1 c1 p2 n2 c2 _ p3 n3 c3 p4 n4 c4 V _ fun V1 l1=>(rN (h1.le l1) s1 hk).mono ?_
 rintro r V2 l2 g1
 have g10:=g1
 obtain ⟨_,_,_,_,_,_,_,rfl⟩:=g1.shape
 refine ⟨_,_,_,_,_,_,_,rfl,fun V3 l3=>(rN (h2.le (l1.trans (l2.trans l3))) s2 hk).mono ?_⟩
 rintro r V4 l4 g2
 have g20:=g2
 obtain ⟨_,_,_,_,_,_,_,rfl⟩:=g2.shape
 exact ⟨_,_,_,_,_,_,_,rfl,fun V5 l5=>⟨_,_,_,_,_,_,_,_,_,_,_,_,_,_,rfl,g10.le (l3.trans (l4.trans l5)),g20.le l5⟩⟩
theorem rZ (q:Rat)(m:Nat):q*(((q.den*m:Nat):Int):Rat)=((q.num*m:Int):Rat):=by
 have e:q*(((q.den:Nat):Int):Rat)=((q.num:Int):Rat):=by
  have h:=q.den_nz
  have h1:mkRat q.num q.den*mkRat ((q.den:Nat):Int) 1=mkRat q.num 1:=by
   rw [Rat.mkRat_mul_mkRat,Rat.mkRat_eq_iff (by simpa using h) (by omega)]
   simp
  rwa [Rat.mkRat_self,Rat.mkRat_one,Rat.mkRat_one] at h1
 rw [Int.natCast_mul,Rat.intCast_mul,←Rat.mul_assoc,e,←Rat.intCast_mul]
theorem uh {V:View}(n:Int)(d:Nat)(h0:-1000<=n)(h1:n<=1000)(hd0:d≠0)(hd:d<=1000) :
  ab prog 79 #[.int .i64 n,.int .i64 (d:Int)] V fun r V'=>RQ V' r (mkRat n d):=by
 refine Cc n d V _ fun V1 l1=>(xT n (by omega) (by omega)).mono ?_
 rintro r V2 l2 ⟨p,m,c,rfl,g⟩
 rw [aL (by omega)]
 refine ⟨_,_,_,_,rfl,fun V3 l3=>(cW d (by omega)).mono ?_⟩
 rintro r V4 l4 ⟨p2,m2,c2,rfl,g2⟩
 refine ⟨_,_,_,rfl,fun V5 l5=>(kS n (g.le (l3.trans (l4.trans l5))) (g2.le l5) (Nat.le_trans (af (k:=10) (by omega)) (by omega)) (Nat.le_trans (af (k:=10) (by omega)) (by omega)) hd0).mono ?_⟩
 rintro r V6 l6 h
 have h':=h
 obtain ⟨_,_,_,_,_,_,rfl⟩:=h.shape
 exact ⟨_,_,_,_,_,_,_,rfl,fun V7 l7=>h'.le l7⟩
theorem Jc:∀x:Fin 9,Sz 10 (mkRat (2*((x.1:Int)-4)+1) 2)/\Sz 10 (mkRat (3*((x.1:Int)-4)+1) 3):=by unfold Sz;decide +kernel
theorem Qq {V:View}{tb:Nat}{p:OA}{n c:Nat}{at_:Int}(hr:Ep V p n)(hn:n<=400)(hw:lT V tb p n c at_)(hx:V.X tb)(h0:0<=at_) :
  ab prog 25 #[.pointer (some ⟨tb,0,none⟩)] V fun r V'=>∃(q:Rat)(at':Int),RQ V' r q/\Sz 10 q/\0<=at'/\lT V' tb p n c at':=by
 refine th tb p n c at_ V _ hw hx fun V1 l1 bk1 e1 h1=>(jJ (V:=V1.au [bk1]) 9 (hr.le fun b o h=>l1 b o h) hn e1 ⟨by simp,h1⟩ h0 (by omega) (by omega)).mono ?_
 rintro r V2 l2 ⟨x,FD,rfl,x0,x1,t1,hw1⟩
 refine ⟨_,rfl,_,_,_,_,hw1,fun V3 l3 ME e3 h3=>(jJ (V:=V3.au [ME]) 6 (hr.le fun b o h=>l3 b o (l2 b o (l1 b o h))) hn e3 ⟨by simp,h3⟩ t1 (by omega) (by omega)).mono ?_⟩
 rintro r V4 l4 ⟨y,at2,rfl,y0,y1,t2,hw2⟩
 obtain ⟨i,rfl⟩:∃i:Nat,x=i:=⟨x.toNat,by omega⟩
 obtain ⟨z1,z2⟩:=Jc ⟨i,by omega⟩
 dsimp only at z1 z2
 have w1:i64.wrap ((i:Int)-4)=(i:Int)-4:=ar (by omega)
 have w2:i64.wrap (i64.wrap (2*((i:Int)-4))+1)=2*((i:Int)-4)+1:=by rw [ar (x:=2*((i:Int)-4)) (by omega),ar (by omega)]
 have w3:i64.wrap (i64.wrap (3*((i:Int)-4))+1)=3*((i:Int)-4)+1:=by rw [ar (x:=3*((i:Int)-4)) (by omega),ar (by omega)]
 rw [w1,w2,w3]
 refine ⟨_,rfl,_,_,_,_,hw2,fun _ V5 l5=>(uh (2*((i:Int)-4)+1) 2 (by omega) (by omega) (by omega) (by omega)).mono ?_,fun _=>⟨fun _ V8 l8=>(uh (3*((i:Int)-4)+1) 3 (by omega) (by omega) (by omega) (by omega)).mono ?_,fun _ gW bI=>(ki ((i:Int)-4) (by omega) (by omega)).mono ?_⟩⟩
 ·rintro r V6 l6 h
  have h':=h
  obtain ⟨_,_,_,_,_,_,rfl⟩:=h.shape
  exact ⟨_,_,_,_,_,_,_,rfl,fun V7 l7 e7=>⟨_,at2,h'.le l7,z1,t2,e7⟩⟩
 ·rintro r V6 l6 h
  have h':=h
  obtain ⟨_,_,_,_,_,_,rfl⟩:=h.shape
  exact ⟨_,_,_,_,_,_,_,rfl,fun V7 l7 e7=>⟨_,at2,h'.le l7,z2,t2,e7⟩⟩
 ·rintro r V6 l6 h
  have h':=h
  obtain ⟨_,_,_,_,_,_,rfl⟩:=h.shape
  exact ⟨_,_,_,_,_,_,_,rfl,fun V7 l7 e7=>⟨_,at2,h'.le l7,rz (by omega),t2,e7⟩⟩
theorem H4 {V:View}{tb:Nat}{p:OA}{n c:Nat}{at_:Int}(hr:Ep V p n)(hn:n<=400)(hw:lT V tb p n c at_)(hx:V.X tb)(h0:0<=at_) :
  ab prog 43 #[.pointer (some ⟨tb,0,none⟩)] V fun r V'=>∃(x y:Rat)(at':Int),RP V' r x y/\Sz 10 x/\Sz 10 y/\0<=at'/\lT V' tb p n c at':=by
 refine nL tb p n c at_ V _ hw hx fun V1 l1 bk1 e1 h1=>(Qq (V:=V1.au [bk1]) (hr.le fun b o h=>l1 b o h) hn e1 ⟨by simp,h1⟩ h0).mono ?_
 rintro r V2 l2 ⟨x,FD,hq,sx,t1,hw1⟩
 obtain ⟨p1,n1,c1,p2,n2,c2,rfl,hq1,hq2⟩:=hq
 refine ⟨_,_,_,_,_,_,_,rfl,_,_,_,_,hw1,fun V3 l3 We e3 h3=>(Qq (V:=V3.au [We]) (hr.le fun b o h=>l3 b o (l2 b o (l1 b o h))) hn e3 ⟨by simp,h3⟩ t1).mono ?_⟩
 rintro r V4 l4 ⟨y,at2,hq',sy,t2,hw2⟩
 obtain ⟨p3,n3,c3,p4,n4,c4,rfl,hq3,hq4⟩:=hq'
 have gF:∀{V5:View},V4.shut.Le V5->V2.Le V5:=fun l5 b o h=>l5 b o (l4 b o (l3 b o h))
 exact ⟨_,_,_,_,_,_,_,rfl,_,_,_,_,hw2,fun V5 l5 e5=>⟨x,y,at2,⟨_,_,_,_,_,_,_,_,_,_,_,_,rfl,⟨_,_,_,_,_,_,rfl,hq1.le (gF l5),hq2.le (gF l5)⟩,⟨_,_,_,_,_,_,rfl,hq3.le fun b o h=>l5 b o h,hq4.le fun b o h=>l5 b o h⟩⟩,sx,sy,t2,e5⟩⟩
theorem y_ {V:View}{l p:Value}{aK l_1 bW:Int}{cL cK:Rat}(hl:RL V l aK l_1 bW)(hp:RP V p cL cK){k:Nat}(s0:Sz k ((aK:Int):Rat))(s1:Sz k ((l_1:Int):Rat))(s2:Sz k ((bW:Int):Rat))(s3:Sz k cL)(s4:Sz k cK)(hk:16*k+16<274877906944) :
  ab prog 55 #[l,p] V fun r V'=>r=.int .i64 ((aK:Rat)*cL+(l_1:Rat)*cK+(bW:Rat)).num.sign:=by
 have hl0:=hl
 have hp0:=hp
 obtain ⟨a0,a1,a2,a3,a4,a5,a6,a7,a8,rfl,-,-,-⟩:=hl
 obtain ⟨p0,p1,p2,p3,p4,p5,p6,p7,p8,p9,HK,Lh,rfl,-,-⟩:=hp
 refine xo _ a0 a1 a2 _ a3 a4 a5 _ a6 a7 a8 _ p0 p1 p2 p3 p4 p5 _ p6 p7 p8 p9 HK Lh V _ fun V1 l1=>(wF (hl0.le l1) (hp0.le l1) s0 s1 s2 s3 s4 (by omega)).mono ?_
 rintro r V2 l2 ⟨u0,u1,u2,u3,u4,u5,rfl,g1,g2⟩
 refine ⟨_,_,_,_,_,_,_,rfl,fun V3 l3=>(tv _ (g1.le l3)).mono ?_⟩
 rintro r V4 l4 rfl
 exact ⟨_,rfl,fun V5 l5=>rfl⟩
theorem AO {V:View}{l:Value}{a b c:Int}(hl:RL V l a b c):ab prog 158 #[l] V fun r V'=>RL V' r (-a) (-b) (-c):=by
 obtain ⟨a0,a1,a2,a3,a4,a5,a6,a7,a8,rfl,h1,h2,h3⟩:=hl
 refine Ag _ a0 a1 a2 _ a3 a4 a5 _ a6 a7 a8 V _ fun V1 l1=>(gq a (h1.le l1)).mono ?_
 rintro r V2 l2 ⟨p1,n1,c1,rfl,g1⟩
 refine ⟨_,_,_,_,rfl,fun V3 l3=>(gq b (h2.le (l1.trans (l2.trans l3)))).mono ?_⟩
 rintro r V4 l4 ⟨p2,n2,c2,rfl,g2⟩
 refine ⟨_,_,_,_,rfl,fun V5 l5=>(gq c (h3.le (l1.trans (l2.trans (l3.trans (l4.trans l5)))))).mono ?_⟩
 rintro r V6 l6 ⟨p3,n3,c3,rfl,g3⟩
 exact ⟨_,_,_,_,rfl,fun V7 l7=>⟨_,_,_,_,_,_,_,_,_,rfl,g1.le (l3.trans (l4.trans (l5.trans (l6.trans l7)))),g2.le (l5.trans (l6.trans l7)),g3.le l7⟩⟩
end Go.Proofs.Tryz
namespace Go.bK
open Go.fV
theorem RR.zero (V:View):RR V (.agg #[.int .i64 0,.int .i64 0,.pointer none]) 0:=.inl ⟨rfl,by unfold Wd;decide⟩
end Go.bK
namespace Go.Proofs.Tryz
open Go.bK Go.fV
structure Sp where
 lo:Rat
 hi:Rat
 a:Bool
 b:Bool
def Sp.can (s:Sp):Prop:=(s.a=true->s.lo=0)/\(s.b=true->s.hi=0)
def Sp.sz (k:Nat)(s:Sp):Prop:=Sz k s.lo/\Sz k s.hi
def Sp.zero:Sp:=⟨0,0,false,false⟩
def yH (k:Nat)(l:L3):Prop:=Sz k (l.1:Rat)/\Sz k (l.2.1:Rat)/\Sz k (l.2.2:Rat)
def Pc (V:View)(v:Value)(s:Sp):Prop:=∃(x1 x2:Int)(p:OA)(y1 y2:Int)(q:OA),v=.agg #[.int .i64 x1,.int .i64 x2,.pointer p,.int .i64 y1,.int .i64 y2,.pointer q,.bool s.a,.bool s.b] /\
 RR V (.agg #[.int .i64 x1,.int .i64 x2,.pointer p]) s.lo/\RR V (.agg #[.int .i64 y1,.int .i64 y2,.pointer q]) s.hi
theorem Pc.le {V V':View}{v:Value}{s:Sp}(h:Pc V v s)(l:V.Le V'):Pc V' v s:=by
 obtain ⟨x1,x2,p,y1,y2,q,e,h1,h2⟩:=h
 exact ⟨x1,x2,p,y1,y2,q,e,h1.le l,h2.le l⟩
def LW (V:View)(v:Value)(l:L3):Prop:=Cn V v (l.1:Rat) (l.2.1:Rat) (l.2.2:Rat)
theorem LW.le {V V':View}{v:Value}{l:L3}(h:LW V v l)(e:V.Le V'):LW V' v l:=Cn.le h e
def LV (V:View)(v:Value)(l:L3)(s:Sp):Prop:=∃(x1 x2:Int)(p:OA)(y1 y2:Int)(q:OA)(z1 z2:Int)(r:OA)(u1 u2:Int)(t:OA)(w1 w2:Int)(o:OA),
 v=.agg #[.int .i64 x1,.int .i64 x2,.pointer p,.int .i64 y1,.int .i64 y2,.pointer q,.int .i64 z1,.int .i64 z2,.pointer r,.int .i64 u1,.int .i64 u2,.pointer t,.int .i64 w1,.int .i64 w2,.pointer o,.bool s.a,.bool s.b] /\
 LW V (.agg #[.int .i64 x1,.int .i64 x2,.pointer p,.int .i64 y1,.int .i64 y2,.pointer q,.int .i64 z1,.int .i64 z2,.pointer r]) l /\
 Pc V (.agg #[.int .i64 u1,.int .i64 u2,.pointer t,.int .i64 w1,.int .i64 w2,.pointer o,.bool s.a,.bool s.b]) s
theorem LV.le {V V':View}{v:Value}{l:L3}{s:Sp}(h:LV V v l s)(e:V.Le V'):LV V' v l s:=by
 obtain ⟨x1,x2,p,y1,y2,q,z1,z2,r,u1,u2,t,w1,w2,o,rfl,h1,h2⟩:=h
 exact ⟨x1,x2,p,y1,y2,q,z1,z2,r,u1,u2,t,w1,w2,o,rfl,h1.le e,h2.le e⟩
def HP (V:View)(v:Value)(b:Bool)(xs ys:List Nat):Prop:=∃p n c p' n' c',v=.agg #[.bool b,.slice p n c,.slice p' n' c']/\RD V p n c xs/\RD V p' n' c' ys
theorem HP.le {V V':View}{v:Value}{b:Bool}{xs ys:List Nat}(h:HP V v b xs ys)(l:V.Le V'):HP V' v b xs ys:=by
 obtain ⟨p,n,c,p',n',c',e,h1,h2⟩:=h;exact ⟨p,n,c,p',n',c',e,h1.le l,h2.le l⟩
theorem HP.nil {V:View}:HP V (.agg #[.bool false,.slice none 0 0,.slice none 0 0]) false [] []:=⟨_,_,_,_,_,_,rfl,RD.nil,RD.nil⟩
def RE (V:View)(v:Value)(q:Rat)(no:Bool):Prop:=(no=true->HP V v false [] [])/\(no=false->RA V v q)
theorem RE.le {V V':View}{v:Value}{q:Rat}{no:Bool}(h:RE V v q no)(l:V.Le V'):RE V' v q no:=⟨fun e=>(h.1 e).le l,fun e=>(h.2 e).le l⟩
theorem RE.shape {V:View}{v:Value}{q:Rat}{no:Bool}(h:RE V v q no):∃b p n c p' n' c',v=.agg #[.bool b,.slice p n c,.slice p' n' c']:=by
 cases no with
 | true=>obtain ⟨_,_,_,_,_,_,e,-⟩:=h.1 rfl;exact ⟨_,_,_,_,_,_,_,e⟩
 | false=>exact (h.2 rfl).shape
def Pg (V:View)(v:Value)(s:Sp):Prop:=∃b p n c p' n' c' d q m e q' m' e',v=.agg #[.bool b,.slice p n c,.slice p' n' c',.bool d,.slice q m e,.slice q' m' e',.bool s.a,.bool s.b] /\
 RE V (.agg #[.bool b,.slice p n c,.slice p' n' c']) s.lo s.a/\RE V (.agg #[.bool d,.slice q m e,.slice q' m' e']) s.hi s.b
theorem Pg.le {V V':View}{v:Value}{s:Sp}(h:Pg V v s)(l:V.Le V'):Pg V' v s:=by
 obtain ⟨b,p,n,c,p',n',c',d,q,m,e,q',m',e',rfl,h1,h2⟩:=h
 exact ⟨_,_,_,_,_,_,_,_,_,_,_,_,_,_,rfl,h1.le l,h2.le l⟩
def LU (V:View)(v:Value)(l:L3)(s:Sp):Prop:=∃b1 p1 n1 c1 b2 p2 n2 c2 b3 p3 n3 c3 b p n c p' n' c' d q m e q' m' e',
 v=.agg #[.bool b1,.slice p1 n1 c1,.bool b2,.slice p2 n2 c2,.bool b3,.slice p3 n3 c3,.bool b,.slice p n c,.slice p' n' c',.bool d,.slice q m e,.slice q' m' e',.bool s.a,.bool s.b] /\
 RL V (.agg #[.bool b1,.slice p1 n1 c1,.bool b2,.slice p2 n2 c2,.bool b3,.slice p3 n3 c3]) l.1 l.2.1 l.2.2/\Pg V (.agg #[.bool b,.slice p n c,.slice p' n' c',.bool d,.slice q m e,.slice q' m' e',.bool s.a,.bool s.b]) s
theorem LU.le {V V':View}{v:Value}{l:L3}{s:Sp}(h:LU V v l s)(e:V.Le V'):LU V' v l s:=by
 obtain ⟨b1,p1,n1,c1,b2,p2,n2,c2,b3,p3,n3,c3,b,p,n,c,p',n',c',d,q,m,f,q',m',f',rfl,h1,h2⟩:=h
 exact ⟨_,_,_,_,_,_,_,_,_,_,_,_,_,_,_,_,_,_,_,_,_,_,_,_,_,_,rfl,h1.le e,h2.le e⟩
def Mp (V:View)(v:Value)(s:Sp):Prop:=∃b p n c p' n' c' d q m e q' m' e',v=.agg #[.bool b,.slice p n c,.slice p' n' c',.bool d,.slice q m e,.slice q' m' e',.bool s.a,.bool s.b] /\
 RQ V (.agg #[.bool b,.slice p n c,.slice p' n' c']) s.lo/\RQ V (.agg #[.bool d,.slice q m e,.slice q' m' e']) s.hi
theorem Mp.le {V V':View}{v:Value}{s:Sp}(h:Mp V v s)(l:V.Le V'):Mp V' v s:=by
 obtain ⟨b,p,n,c,p',n',c',d,q,m,e,q',m',e',rfl,h1,h2⟩:=h
 exact ⟨_,_,_,_,_,_,_,_,_,_,_,_,_,_,rfl,h1.le l,h2.le l⟩
def RF (V:View)(v:Value)(l:L3)(s:Sp):Prop:=∃b1 p1 n1 c1 b2 p2 n2 c2 b3 p3 n3 c3 b p n c p' n' c' d q m e q' m' e',
 v=.agg #[.bool b1,.slice p1 n1 c1,.bool b2,.slice p2 n2 c2,.bool b3,.slice p3 n3 c3,.bool b,.slice p n c,.slice p' n' c',.bool d,.slice q m e,.slice q' m' e',.bool s.a,.bool s.b] /\
 RL V (.agg #[.bool b1,.slice p1 n1 c1,.bool b2,.slice p2 n2 c2,.bool b3,.slice p3 n3 c3]) l.1 l.2.1 l.2.2/\Mp V (.agg #[.bool b,.slice p n c,.slice p' n' c',.bool d,.slice q m e,.slice q' m' e',.bool s.a,.bool s.b]) s
theorem RF.le {V V':View}{v:Value}{l:L3}{s:Sp}(h:RF V v l s)(e:V.Le V'):RF V' v l s:=by
 obtain ⟨b1,p1,n1,c1,b2,p2,n2,c2,b3,p3,n3,c3,b,p,n,c,p',n',c',d,q,m,f,q',m',f',rfl,h1,h2⟩:=h
 exact ⟨_,_,_,_,_,_,_,_,_,_,_,_,_,_,_,_,_,_,_,_,_,_,_,_,_,_,rfl,h1.le e,h2.le e⟩
def cB (l:L3)(x y:Rat):Rat:=(l.1:Rat)*x+(l.2.1:Rat)*y+(l.2.2:Rat)
def mB (l:L3):Rat:=(l.1:Rat)*(l.1:Rat)+(l.2.1:Rat)*(l.2.1:Rat)
def Kk (l:L3)(t:Rat):Rat:=(l.2.1:Rat)*t-(l.1:Rat)*(l.2.2:Rat)*(mB l)⁻¹
def Kl (l:L3)(t:Rat):Rat:=-((l.1:Rat)*t)-(l.2.1:Rat)*(l.2.2:Rat)*(mB l)⁻¹
def wR (l:L3):L3:=(-l.1,-l.2.1,-l.2.2)
def Sp.neg (s:Sp):Sp:=⟨if s.b then 0 else -s.hi,if s.a then 0 else -s.lo,s.b,s.a⟩
def Sp.emp (s:Sp):Bool:=!s.a&&!s.b&&decide (sI s.lo s.hi≥0)
def Nz (l:L3):Prop:=¬(l.1=0/\l.2.1=0)
theorem sq_nonneg (x:Int):0<=x*x:=by
 rw [←Int.natAbs_mul_self];exact Int.natCast_nonneg _
theorem GJ (l:L3):mB l=((l.1*l.1+l.2.1*l.2.1:Int):Rat):=by unfold mB;simp
theorem Nz.norm {l:L3}(h:Nz l):mB l≠0:=by
 rw [GJ]
 have h1:=sq_nonneg l.1
 have h2:=sq_nonneg l.2.1
 have h3:l.1*l.1+l.2.1*l.2.1≠0:=by
  intro e
  have e1:l.1*l.1=0:=by omega
  have e2:l.2.1*l.2.1=0:=by omega
  exact h ⟨(Int.mul_eq_zero.1 e1).elim id id,(Int.mul_eq_zero.1 e2).elim id id⟩
 exact_mod_cast h3
theorem GO {q:Rat}(h:q≠0):q.num≠0:=fun e=>h (Rat.num_eq_zero.1 e)
theorem LC {L:L3}{x:Rat}{k:Nat}(sl:yH k L)(s1:Sz k x):Sz (20*k+19) (Kk L x):=by
 have e1:Kk L x=((L.1:Rat)*((-(L.2.2:Rat))*((L.1:Rat)*(L.1:Rat)+(L.2.1:Rat)*(L.2.1:Rat))⁻¹))+((L.2.1:Rat)*x):=by unfold Kk mB;grind
 rw [e1];exact xw sl.1 sl.2.1 sl.2.2 s1
theorem LD {L:L3}{x:Rat}{k:Nat}(sl:yH k L)(s1:Sz k x):Sz (20*k+19) (Kl L x):=by
 have e2:Kl L x=((L.2.1:Rat)*((-(L.2.2:Rat))*((L.1:Rat)*(L.1:Rat)+(L.2.1:Rat)*(L.2.1:Rat))⁻¹))+((-(L.1:Rat))*x):=by unfold Kl mB;grind
 rw [e2];exact xy sl.1 sl.2.1 sl.2.2 s1
theorem qk (q:Rat):q.num.sign=0↔q=0:=by rw [Int.sign_eq_zero_iff_zero,Rat.num_eq_zero]
theorem Gi {V:View}{l p:Value}{L:L3}{x y:Rat}(hl:LW V l L)(hp:lS V p x y){k:Nat}(sl:yH k L)(s1:Sz k x)(s2:Sz k y)(hk:16*k+16<274877906944) :
  ab prog 125 #[l,p] V fun r V'=>r=.int .i64 (cB L x y).num.sign:=wu hl hp sl.1 sl.2.1 sl.2.2 s1 s2 hk
theorem yH.rev {k:Nat}{L:L3}(h:yH k L):yH k (wR L):=by
 unfold yH wR
 simp only [Rat.intCast_neg]
 exact ⟨h.1.neg,h.2.1.neg,h.2.2.neg⟩
theorem Lm {L:L3}(h:Nz L):((((((L.2.1:Int):Rat)))*((((L.2.1:Int):Rat))))+(((-(((L.1:Int):Rat))))*((-(((L.1:Int):Rat)))))).num≠0:=by
 have:(((((L.2.1:Int):Rat)))*((((L.2.1:Int):Rat))))+(((-(((L.1:Int):Rat))))*((-(((L.1:Int):Rat)))))=mB L:=by unfold mB;grind
 rw [this]
 exact GO h.norm
theorem SU {V:View}{l t:Value}{L:L3}{x:Rat}(hl:RL V l L.1 L.2.1 L.2.2)(ht:RQ V t x)(hz:Nz L){k:Nat}(sl:yH k L)(s1:Sz k x)(hk:18*k+16<274877906944) :
  ab prog 23 #[l,t] V fun r V'=>RP V' r (Kk L x) (Kl L x):=by
 refine (CI hl ht (Lm hz) sl.1 sl.2.1 sl.2.2 s1 hk).mono ?_
 rintro r V2 l2 g
 have e1:Kk L x=(((-((((L.2.2:Int):Rat))*((((((L.2.1:Int):Rat)))*((((L.2.1:Int):Rat))))+(((-(((L.1:Int):Rat))))*((-(((L.1:Int):Rat))))))⁻¹))*(((L.1:Int):Rat)))+(x)*(((L.2.1:Int):Rat))):=by unfold Kk mB;grind
 have e2:Kl L x=(((-((((L.2.2:Int):Rat))*((((((L.2.1:Int):Rat)))*((((L.2.1:Int):Rat))))+(((-(((L.1:Int):Rat))))*((-(((L.1:Int):Rat))))))⁻¹))*(((L.2.1:Int):Rat)))+(x)*(-(((L.1:Int):Rat)))):=by unfold Kl mB;grind
 rw [e1,e2];exact g
theorem Ll {V:View}{l p:Value}{L:L3}{x y:Rat}(hl:RL V l L.1 L.2.1 L.2.2)(hp:RP V p x y){k:Nat}(sl:yH k L)(s1:Sz k x)(s2:Sz k y)(hk:16*k+16<274877906944) :
  ab prog 55 #[l,p] V fun r V'=>r=.int .i64 (cB L x y).num.sign:=y_ hl hp sl.1 sl.2.1 sl.2.2 s1 s2 hk
structure PY (V:View) (vs:List Value) (i:Int) (f a b c:Rat):Prop where
 h0:0<=i
 h3:i<=3
 row:∃(x1 x2:Int)(p:OA)(y1 y2:Int)(q:OA)(z1 z2:Int)(r:OA),vs=[.int .i64 x1,.int .i64 x2,.pointer p,.int .i64 y1,.int .i64 y2,.pointer q,.int .i64 z1,.int .i64 z2,.pointer r] /\
  RR V (.agg #[.int .i64 x1,.int .i64 x2,.pointer p]) (if 0<i then a*f else a)/\RR V (.agg #[.int .i64 y1,.int .i64 y2,.pointer q]) (if 1<i then b*f else b)/\RR V (.agg #[.int .i64 z1,.int .i64 z2,.pointer r]) (if 2<i then c*f else c)
theorem PY.le {V V':View}{vs:List Value}{i:Int}{f a b c:Rat}(h:PY V vs i f a b c)(l:V.Le V'):PY V' vs i f a b c:=by
 obtain ⟨h0,h3,x1,x2,p,y1,y2,q,z1,z2,r,e,g1,g2,g3⟩:=h
 exact ⟨h0,h3,x1,x2,p,y1,y2,q,z1,z2,r,e,g1.le l,g2.le l,g3.le l⟩
def Ln (b:Bool)(xs ys:List Nat):Rat:=mkRat (aY b xs) (val ys)
def K9 (b:Bool)(xs ys:List Nat):Bool:=lR b xs&&decide (ai (val ys)=ys)&&!decide (ys=[])&&decide (Nat.gcd (val xs) (val ys)=1)
def Tq (b:Bool)(xs ys:List Nat):Bool:=!b&&decide (xs=[])&&decide (ys=[])
def Kv (b:Bool)(xs ys:List Nat)(no:Bool):Rat:=if no then 0 else Ln b xs ys
def F3 (b:Bool)(xs ys:List Nat)(no:Bool):Bool:=if no then Tq b xs ys else K9 b xs ys
theorem D9 {q:Rat}:K9 (decide (q.num<0)) (ai q.num.natAbs) (ai q.den)=true/\Ln (decide (q.num<0)) (ai q.num.natAbs) (ai q.den)=q:=by
 constructor
 ·unfold K9
  have h1:lR (decide (q.num<0)) (ai q.num.natAbs)=true:=by
   unfold lR
   rw [ag]
   by_cases h:q.num<0
   ·have:ai q.num.natAbs≠[]:=fun e=>by have:=bC.1 e;omega
    simp [h,this]
   ·simp [h]
  have h2:ai q.den≠[]:=fun e=>q.den_nz (bC.1 e)
  rw [h1,ag,ag]
  simp [h2,q.reduced]
 ·unfold Ln
  rw [aH,ag,Rat.mkRat_self]
def Ph (V:View)(v:Value)(b1:Bool)(Ji Jk:List Nat)(b2:Bool)(Jj Jl:List Nat)(na nb:Bool):Prop:=∃p n c p' n' c' q m e q' m' e',v=.agg #[.bool b1,.slice p n c,.slice p' n' c',.bool b2,.slice q m e,.slice q' m' e',.bool na,.bool nb] /\
 HP V (.agg #[.bool b1,.slice p n c,.slice p' n' c']) b1 Ji Jk/\HP V (.agg #[.bool b2,.slice q m e,.slice q' m' e']) b2 Jj Jl
theorem Ph.le {V V':View}{v:Value}{b1:Bool}{Ji Jk:List Nat}{b2:Bool}{Jj Jl:List Nat}{na nb:Bool}(h:Ph V v b1 Ji Jk b2 Jj Jl na nb)(l:V.Le V'):Ph V' v b1 Ji Jk b2 Jj Jl na nb:=by
 obtain ⟨p,n,c,p',n',c',q,m,e,q',m',e',rfl,h1,h2⟩:=h
 exact ⟨_,_,_,_,_,_,_,_,_,_,_,_,rfl,h1.le l,h2.le l⟩
def ON (b1:Bool)(Ji Jk:List Nat)(b2:Bool)(Jj Jl:List Nat)(na nb:Bool):Sp:=⟨Kv b1 Ji Jk na,Kv b2 Jj Jl nb,na,nb⟩
def okW (b1:Bool)(Ji Jk:List Nat)(b2:Bool)(Jj Jl:List Nat)(na nb:Bool):Bool:=F3 b1 Ji Jk na&&F3 b2 Jj Jl nb&&!(ON b1 Ji Jk b2 Jj Jl na nb).emp
def Vt (l:L3)(s:Sp):Prop:=j9 l=true/\s.can/\s.emp=false
theorem RE.raw {V:View}{v:Value}{q:Rat}{no:Bool}(h:RE V v q no)(hc:no=true->q=0):∃b xs ys,HP V v b xs ys/\F3 b xs ys no=true/\Kv b xs ys no=q/\(∀k,Sz k q->xs.length<=k/\ys.length<=k):=by
 cases no with
 | true=>
  exact ⟨false,[],[],h.1 rfl,rfl,by rw [hc rfl];rfl,fun k _=>⟨Nat.zero_le _,Nat.zero_le _⟩⟩
 | false=>
  obtain ⟨p,n,c,p',n',c',rfl,h1,h2⟩:=h.2 rfl
  exact ⟨_,_,_,⟨_,_,_,_,_,_,rfl,h1,h2⟩,D9.1,D9.2,fun k hk=>⟨af hk.1,af hk.2⟩⟩
theorem LW.YK {V:View}{r:Value}{l:L3}(h:RL V r ((l.1:Rat)).num ((l.2.1:Rat)).num ((l.2.2:Rat)).num):RL V r l.1 l.2.1 l.2.2:=by
 simpa [Rat.num_intCast] using h
theorem Lb {l:L3}(h:j9 l=true):Nz l:=by
 unfold j9 at h
 intro e
 simp [e.1,e.2] at h
def jM (l m:L3):Rat:=((l.1:Rat)*(m.2.1:Rat))-((l.2.1:Rat)*(m.1:Rat))
def PJ (l m:L3):Rat:=(((l.2.1:Rat)*(m.2.2:Rat))-((l.2.2:Rat)*(m.2.1:Rat)))*(jM l m)⁻¹
def PK (l m:L3):Rat:=(((l.2.2:Rat)*(m.1:Rat))-((l.1:Rat)*(m.2.2:Rat)))*(jM l m)⁻¹
theorem yH.ai {k:Nat}{l:L3}(h:yH k l)(hk:k<=1099511627776):(ai l.1.natAbs).length<=1099511627776/\(ai l.2.1.natAbs).length<=1099511627776/\(ai l.2.2.natAbs).length<=1099511627776:=by
 have d1:=af (show l.1.natAbs<2^k from h.1.1)
 have d2:=af (show l.2.1.natAbs<2^k from h.2.1.1)
 have d3:=af (show l.2.2.natAbs<2^k from h.2.2.1)
 exact ⟨by omega,by omega,by omega⟩
def Pa (V:View)(ad:Addr)(l:L3)(s:Sp):Prop:=∃xs:List Value,LU V (.agg xs.toArray) l s/\∀i x,xs[i]?=some x->V.at (ad.add i) x
theorem Pa.le {V V':View}{ad:Addr}{l:L3}{s:Sp}(h:Pa V ad l s)(e:V.Le V'):Pa V' ad l s:=by
 obtain ⟨xs,h1,h2⟩:=h;exact ⟨xs,h1.le e,fun i x hx=>e.at (h2 i x hx)⟩
structure Kf (V:View) (p:OA) (n:Nat) (fs:List (L3×Sp)):Prop where
 len:n=fs.length
 at_:∀(i:Nat)(h:i<fs.length),∃ad,ah p (i*14)=some ad/\Pa V ad fs[i].1 fs[i].2
theorem Kf.le {V V':View}{p:OA}{n:Nat}{fs:List (L3×Sp)}(h:Kf V p n fs)(e:V.Le V'):Kf V' p n fs:=⟨h.len,fun i hi=>by obtain ⟨ad,h1,h2⟩:=h.at_ i hi;exact ⟨ad,h1,h2.le e⟩⟩
theorem Bh {p:OA}{j:Nat}{ad:Addr}(h:ah p j=some ad):p.isSome=true:=by
 cases p with
 | none=>cases h
 | some a=>rfl
def Pj (V:View)(ad:Addr)(s:Sp):Prop:=∃xs:List Value,Mp V (.agg xs.toArray) s/\∀i x,xs[i]?=some x->V.at (ad.add i) x
theorem Pj.le {V V':View}{ad:Addr}{s:Sp}(h:Pj V ad s)(e:V.Le V'):Pj V' ad s:=by
 obtain ⟨xs,h1,h2⟩:=h;exact ⟨xs,h1.le e,fun i x hx=>e.at (h2 i x hx)⟩
structure PX (V:View) (p:OA) (n:Nat) (ss:List Sp):Prop where
 len:n=ss.length
 at_:∀(i:Nat)(h:i<ss.length),∃ad,ah p (i*8)=some ad/\Pj V ad ss[i]
theorem PX.le {V V':View}{p:OA}{n:Nat}{ss:List Sp}(h:PX V p n ss)(e:V.Le V'):PX V' p n ss:=⟨h.len,fun i hi=>by obtain ⟨ad,h1,h2⟩:=h.at_ i hi;exact ⟨ad,h1,h2.le e⟩⟩
def Sp.la (s:Sp)(t:Rat):Int:=if s.a then 1 else sI t s.lo
def Sp.lb (s:Sp)(t:Rat):Int:=if s.b then -1 else sI t s.hi
theorem Vu.ex {V:View}{v:Value}{l:L3}{s:Sp}(h:LV V v l s):∃(x1 x2:Int)(p:OA)(y1 y2:Int)(q:OA)(z1 z2:Int)(r:OA)(u1 u2:Int)(t:OA)(w1 w2:Int)(o:OA),
 v=.agg #[.int .i64 x1,.int .i64 x2,.pointer p,.int .i64 y1,.int .i64 y2,.pointer q,.int .i64 z1,.int .i64 z2,.pointer r,.int .i64 u1,.int .i64 u2,.pointer t,.int .i64 w1,.int .i64 w2,.pointer o,.bool s.a,.bool s.b]:=by
 obtain ⟨_,_,_,_,_,_,_,_,_,_,_,_,_,_,_,e,-⟩:=h;exact ⟨_,_,_,_,_,_,_,_,_,_,_,_,_,_,_,e⟩
structure Cs (V:View) (p:OA) (n:Nat) (fs:List (L3×Sp)):Prop where
 len:n=fs.length
 at_:∀(i:Nat)(h:i<fs.length),∃ad,ah p (i*17)=some ad/\∃xs:List Value,LV V (.agg xs.toArray) fs[i].1 fs[i].2/\∀j x,xs[j]?=some x->V.at (ad.add j) x
theorem Cs.le {V V':View}{p:OA}{n:Nat}{fs:List (L3×Sp)}(h:Cs V p n fs)(e:V.Le V'):Cs V' p n fs:=⟨h.len,fun i hi=>by obtain ⟨ad,h1,xs,h2,h3⟩:=h.at_ i hi;exact ⟨ad,h1,xs,h2.le e,fun j x hx=>e.at (h3 j x hx)⟩⟩
theorem Cs.nil {V:View}:Cs V none 0 []:=⟨rfl,fun i hi=>by simp at hi⟩
theorem Cs.one {V:View}{bk:Nat}{xs:List Value}{ty:TypeId}{l:L3}{s:Sp}(hb:V.bE bk (.cells xs.toArray ty (0,0)))(hf:LV V (.agg xs.toArray) l s):Cs V (some ⟨bk,0,none⟩) 1 [(l,s)]:=by
 refine ⟨rfl,fun i hi=>?_⟩
 obtain rfl:i=0:=by simpa using hi
 refine ⟨⟨bk,0,none⟩,by simp [ah,add_zero'],_,hf,fun j x hx=>?_⟩
 rw [add_zero']
 exact cU hb hx
end Go.Proofs.Tryz
namespace Go.Proofs.Tryz
open Go.bK
set_option maxRecDepth 100000
end Go.Proofs.Tryz
namespace Go.Proofs.Tryz
open Go.bK Go.fV
def Pf (V:View)(v:Value)(b1:Bool)(xs:List Nat)(b2:Bool)(ys:List Nat)(b3:Bool)(zs:List Nat):Prop:=∃p n c q m e s i j,v=.agg #[.bool b1,.slice p n c,.bool b2,.slice q m e,.bool b3,.slice s i j]/\RD V p n c xs/\RD V q m e ys/\RD V s i j zs
theorem Pf.le {V V':View}{v:Value}{b1:Bool}{xs:List Nat}{b2:Bool}{ys:List Nat}{b3:Bool}{zs:List Nat}(h:Pf V v b1 xs b2 ys b3 zs)(l:V.Le V'):Pf V' v b1 xs b2 ys b3 zs:=by
 obtain ⟨p,n,c,q,m,e,s,i,j,rfl,h1,h2,h3⟩:=h
 exact ⟨_,_,_,_,_,_,_,_,_,rfl,h1.le l,h2.le l,h3.le l⟩
def U2 (b1:Bool)(xs:List Nat)(b2:Bool)(ys:List Nat)(b3:Bool)(zs:List Nat):L3:=(aY b1 xs,aY b2 ys,aY b3 zs)
structure FW where
 b1:Bool
 xs:List Nat
 b2:Bool
 ys:List Nat
 b3:Bool
 zs:List Nat
 c1:Bool
 us:List Nat
 vs:List Nat
 c2:Bool
 ws:List Nat
 ts:List Nat
 na:Bool
 nb:Bool
def FW.ln (f:FW):L3:=U2 f.b1 f.xs f.b2 f.ys f.b3 f.zs
def FW.sp (f:FW):Sp:=ON f.c1 f.us f.vs f.c2 f.ws f.ts f.na f.nb
def FW.ok (f:FW):Bool:=u_ f.b1 f.xs f.b2 f.ys f.b3 f.zs&&okW f.c1 f.us f.vs f.c2 f.ws f.ts f.na f.nb
structure FW.short (f:FW):Prop where
 x:f.xs.length<=1000000
 y:f.ys.length<=1000000
 z:f.zs.length<=1000000
 u:f.us.length<=1000000
 v:f.vs.length<=1000000
 w:f.ws.length<=1000000
 t:f.ts.length<=1000000
def Pb (V:View)(v:Value)(f:FW):Prop:=∃p1 n1 d1 p2 n2 d2 p3 n3 d3 p n c p' n' c' q m e q' m' e',
 v=.agg #[.bool f.b1,.slice p1 n1 d1,.bool f.b2,.slice p2 n2 d2,.bool f.b3,.slice p3 n3 d3,.bool f.c1,.slice p n c,.slice p' n' c',.bool f.c2,.slice q m e,.slice q' m' e',.bool f.na,.bool f.nb] /\
 Pf V (.agg #[.bool f.b1,.slice p1 n1 d1,.bool f.b2,.slice p2 n2 d2,.bool f.b3,.slice p3 n3 d3]) f.b1 f.xs f.b2 f.ys f.b3 f.zs /\
 Ph V (.agg #[.bool f.c1,.slice p n c,.slice p' n' c',.bool f.c2,.slice q m e,.slice q' m' e',.bool f.na,.bool f.nb]) f.c1 f.us f.vs f.c2 f.ws f.ts f.na f.nb
theorem Pb.le {V V':View}{v:Value}{f:FW}(h:Pb V v f)(l:V.Le V'):Pb V' v f:=by
 obtain ⟨p1,n1,d1,p2,n2,d2,p3,n3,d3,p,n,c,p',n',c',q,m,e,q',m',e',rfl,h1,h2⟩:=h
 exact ⟨_,_,_,_,_,_,_,_,_,_,_,_,_,_,_,_,_,_,_,_,_,rfl,h1.le l,h2.le l⟩
theorem jK {V:View}(z w:Int){p q:OA}{n c m e:Nat}(ha:RD V p n c (ai z.natAbs))(hb:RD V q m e (ai w.natAbs))(hm:(ai z.natAbs).length<=1099511627776)(hn:(ai w.natAbs).length<=1099511627776) :
  ab prog 159 #[.agg #[.bool (decide (z<0)),.slice p n c],.agg #[.bool (decide (w<0)),.slice q m e]] V fun r V'=>r=.int .i64 (z-w).sign:=by
 refine vP _ p n c _ q m e V _ fun V1 l1=>(gq w (hb.le l1)).mono ?_
 rintro r V2 l2 ⟨p1,n1,c1,rfl,g1⟩
 refine ⟨_,_,_,_,rfl,fun V3 l3=>(qQ z (-w) (ha.le (l1.trans (l2.trans l3))) (g1.le l3) hm (by rw [Int.natAbs_neg];exact hn)).mono ?_⟩
 rintro r V4 l4 ⟨p2,n2,c2,rfl,g2⟩
 refine ⟨_,_,_,_,rfl,fun V5 l5=>(kU _ (g2.le l5)).mono ?_⟩
 rintro r V6 l6 rfl
 exact ⟨_,rfl,fun V7 l7=>by rw [Int.sub_eq_add_neg]⟩
def oB (l m:L3):Int:=if (l.1-m.1).sign≠0 then (l.1-m.1).sign else if (l.2.1-m.2.1).sign≠0 then (l.2.1-m.2.1).sign else (l.2.2-m.2.2).sign
theorem H_ {l m:L3}:oB l m=0↔l=m:=by
 have e:∀{a b:Int},(a-b).sign=0↔a=b:=fun {a b}=>by rw [Int.sign_eq_zero_iff_zero];omega
 unfold oB
 constructor
 ·intro h
  by_cases h1:(l.1-m.1).sign=0
  ·rw [if_neg (by simpa using h1)] at h
   by_cases h2:(l.2.1-m.2.1).sign=0
   ·rw [if_neg (by simpa using h2)] at h
    exact Prod.ext (e.1 h1) (Prod.ext (e.1 h2) (e.1 h))
   ·rw [if_pos h2] at h;exact absurd h h2
  ·rw [if_pos h1] at h;exact absurd h h1
 ·rintro rfl
  simp
theorem rO {V:View}{v w:Value}{l m:L3}(hl:RL V v l.1 l.2.1 l.2.2)(hm:RL V w m.1 m.2.1 m.2.2){k:Nat}(sl:yH k l)(sm:yH k m)(hk:k<=1099511627776) :
  ab prog 109 #[v,w] V fun r V'=>r=.int .i64 (oB l m):=by
 obtain ⟨d1,d2,d3⟩:=sl.ai hk
 obtain ⟨e1,e2,e3⟩:=sm.ai hk
 obtain ⟨_,_,_,_,_,_,_,_,_,rfl,a1,a2,a3⟩:=hl
 obtain ⟨_,_,_,_,_,_,_,_,_,rfl,b1,b2,b3⟩:=hm
 refine Ac _ _ _ _ _ _ _ _ _ _ _ _ _ _ _ _ _ _ _ _ _ _ _ _ V _ fun V1 l1=>(jK _ _ (a1.le l1) (b1.le l1) d1 e1).mono ?_
 rintro r V2 l2 rfl
 unfold oB
 refine ⟨_,rfl,fun h V3 l3=>?_,fun h V4 l4=>(jK _ _ (a2.le (l1.trans (l2.trans l4))) (b2.le (l1.trans (l2.trans l4))) d2 e2).mono ?_⟩
 ·rw [bne_iff_ne] at h
  rw [if_pos h]
 ·rw [bne_eq_false_iff_eq] at h
  rw [if_neg (by rw [h];decide)]
  rintro r V5 l5 rfl
  refine ⟨_,rfl,fun h V6 l6=>?_,fun h V7 l7=>(jK _ _ (a3.le (l1.trans (l2.trans (l4.trans (l5.trans l7))))) (b3.le (l1.trans (l2.trans (l4.trans (l5.trans l7))))) d3 e3).mono ?_⟩
  ·rw [bne_iff_ne] at h
   rw [if_pos h]
  ·rw [bne_eq_false_iff_eq] at h
   rw [if_neg (by rw [h];decide)]
   rintro r V8 l8 rfl
   exact ⟨_,rfl,fun V9 l9=>rfl⟩
def Jq (u:Value):Prop:=u=.agg #[.bool false,.slice none 0 0,.slice none 0 0,.bool false,.slice none 0 0,.slice none 0 0]
theorem Lk {V:View}{v w:Value}{l m:L3}(hl:RL V v l.1 l.2.1 l.2.2)(hm:RL V w m.1 m.2.1 m.2.2){k:Nat}(sl:yH k l)(sm:yH k m)(hk:20*k+20<274877906944) :
  ab prog 44 #[v,w] V fun r V'=>∃u,r=.tuple #[u,.bool (decide (jM l m≠0))]/\(jM l m=0->Jq u)/\(jM l m≠0->RP V' u (PJ l m) (PK l m)):=by
 have e0:((l.1:Int):Rat)*((m.2.1:Int):Rat)-((m.1:Int):Rat)*((l.2.1:Int):Rat)=jM l m:=by unfold jM;grind
 have e1:((l.2.1:Int):Rat)*((m.2.2:Int):Rat)-((m.2.1:Int):Rat)*((l.2.2:Int):Rat)=((l.2.1:Rat)*(m.2.2:Rat))-((l.2.2:Rat)*(m.2.1:Rat)):=by grind
 have e2:((m.1:Int):Rat)*((l.2.2:Int):Rat)-((l.1:Int):Rat)*((m.2.2:Int):Rat)=((l.2.2:Rat)*(m.1:Rat))-((l.1:Rat)*(m.2.2:Rat)):=by grind
 obtain ⟨sl1,sl2,JZ⟩:=sl
 obtain ⟨J0,J1,J3⟩:=sm
 obtain ⟨_,_,_,_,_,_,_,_,_,rfl,a1,a2,a3⟩:=hl
 obtain ⟨_,_,_,_,_,_,_,_,_,rfl,b1,b2,b3⟩:=hm
 refine xm _ _ _ _ _ _ _ _ _ _ _ _ _ _ _ _ _ _ _ _ _ _ _ _ V _ fun V1 l1=>(a_ (a1.le l1) sl1 (by omega)).mono ?_
 rintro r V2 l2 Uf
 have QD:=Uf
 obtain ⟨_,_,_,_,_,_,rfl⟩:=Uf.shape
 refine ⟨_,_,_,_,_,_,_,rfl,fun V3 l3=>(a_ (b2.le (l1.trans (l2.trans (l3)))) J1 (by omega)).mono ?_⟩
 rintro r V4 l4 Ug
 have QE:=Ug
 obtain ⟨_,_,_,_,_,_,rfl⟩:=Ug.shape
 refine ⟨_,_,_,_,_,_,_,rfl,fun V5 l5=>(aO (QD.le (l3.trans (l4.trans (l5)))) (QE.le l5) sl1 J1 (by omega)).mono ?_⟩
 rintro r V6 l6 Uh
 have QF:=Uh
 obtain ⟨_,_,_,_,_,_,rfl⟩:=Uh.shape
 refine ⟨_,_,_,_,_,_,_,rfl,fun V7 l7=>(a_ (b1.le (l1.trans (l2.trans (l3.trans (l4.trans (l5.trans (l6.trans (l7)))))))) J0 (by omega)).mono ?_⟩
 rintro r V8 l8 Ui
 have QG:=Ui
 obtain ⟨_,_,_,_,_,_,rfl⟩:=Ui.shape
 refine ⟨_,_,_,_,_,_,_,rfl,fun V9 l9=>(a_ (a2.le (l1.trans (l2.trans (l3.trans (l4.trans (l5.trans (l6.trans (l7.trans (l8.trans (l9)))))))))) sl2 (by omega)).mono ?_⟩
 rintro r g_ l10 Uj
 have QH:=Uj
 obtain ⟨_,_,_,_,_,_,rfl⟩:=Uj.shape
 refine ⟨_,_,_,_,_,_,_,rfl,fun gW bI=>(aO (QG.le (l9.trans (l10.trans (bI)))) (QH.le bI) J0 sl2 (by omega)).mono ?_⟩
 rintro r lH cw Uk
 have QI:=Uk
 obtain ⟨_,_,_,_,_,_,rfl⟩:=Uk.shape
 refine ⟨_,_,_,_,_,_,_,rfl,fun lU cd=>(kj (QF.le (l7.trans (l8.trans (l9.trans (l10.trans (bI.trans (cw.trans (cd)))))))) (QI.le cd) (sl1.mul J1) (J0.mul sl2) (by omega)).mono ?_⟩
 rintro r po dN QJ
 rw [e0] at QJ
 have A8:=QJ
 obtain ⟨_,_,_,_,_,_,rfl,QK,-⟩:=QJ
 have sD:Sz (4*k+3) (((l.1:Int):Rat)*((m.2.1:Int):Rat)-((m.1:Int):Rat)*((l.2.1:Int):Rat)):=Sz.mono ((sl1.mul J1).sub (J0.mul sl2)) (by omega)
 rw [e0] at sD
 refine ⟨_,_,_,_,_,_,_,rfl,fun nF dk=>(tv _ (QK.le dk)).mono ?_⟩
 rintro r mW dm rfl
 refine ⟨_,rfl,fun hz nN cP=>?_,fun hz=>?_⟩
 ·rw [beq_iff_eq,qk] at hz
  rw [hz]
  exact ⟨_,rfl,fun _=>rfl,fun h=>absurd rfl h⟩
 ·rw [beq_eq_false_iff_ne,ne_eq,qk] at hz
  rw [decide_eq_true hz]
  have hz':¬(jM l m).num=0:=fun h=>hz (Rat.num_eq_zero.1 h)
  intro nN cP
  have M0:V.Le nN:=(l1.trans (l2.trans (l3.trans (l4.trans (l5.trans (l6.trans (l7.trans (l8.trans (l9.trans (l10.trans (bI.trans (cw.trans (cd.trans (dN.trans (dk.trans (dm.trans (cP)))))))))))))))))
  replace A8:=A8.le (dk.trans (dm.trans (cP)))
  refine (a_ (a2.le M0) sl2 (by omega)).mono ?_
  rintro r qI dZ Um
  have QS:=Um
  obtain ⟨_,_,_,_,_,_,rfl⟩:=Um.shape
  refine ⟨_,_,_,_,_,_,_,rfl,fun tq dR=>(a_ (b3.le (M0.trans (dZ.trans (dR)))) J3 (by omega)).mono ?_⟩
  rintro r An iQ Un
  have QT:=Un
  obtain ⟨_,_,_,_,_,_,rfl⟩:=Un.shape
  refine ⟨_,_,_,_,_,_,_,rfl,fun tu eh=>(aO (QS.le (dR.trans (iQ.trans (eh)))) (QT.le eh) sl2 J3 (by omega)).mono ?_⟩
  rintro r wi kq Uo
  have QU:=Uo
  obtain ⟨_,_,_,_,_,_,rfl⟩:=Uo.shape
  refine ⟨_,_,_,_,_,_,_,rfl,fun tM fB=>(a_ (b2.le (M0.trans (dZ.trans (dR.trans (iQ.trans (eh.trans (kq.trans (fB)))))))) J1 (by omega)).mono ?_⟩
  rintro r Cu pg Up
  have QV:=Up
  obtain ⟨_,_,_,_,_,_,rfl⟩:=Up.shape
  refine ⟨_,_,_,_,_,_,_,rfl,fun DN gF=>(a_ (a3.le (M0.trans (dZ.trans (dR.trans (iQ.trans (eh.trans (kq.trans (fB.trans (pg.trans (gF)))))))))) JZ (by omega)).mono ?_⟩
  rintro r Fv nV Uq
  have QW:=Uq
  obtain ⟨_,_,_,_,_,_,rfl⟩:=Uq.shape
  refine ⟨_,_,_,_,_,_,_,rfl,fun Js lY=>(aO (QV.le (gF.trans (nV.trans (lY)))) (QW.le lY) J1 JZ (by omega)).mono ?_⟩
  rintro r HR Bk Ur
  have QX:=Ur
  obtain ⟨_,_,_,_,_,_,rfl⟩:=Ur.shape
  refine ⟨_,_,_,_,_,_,_,rfl,fun LX tB=>(kj (QU.le (fB.trans (pg.trans (gF.trans (nV.trans (lY.trans (Bk.trans (tB)))))))) (QX.le tB) (sl2.mul J3) (J1.mul JZ) (by omega)).mono ?_⟩
  rintro r Fw uN QY
  rw [e1] at QY
  have KB:=QY
  obtain ⟨_,_,_,_,_,_,rfl⟩:=QY.shape
  have sX:Sz (4*k+3) (((l.2.1:Rat)*(m.2.2:Rat))-((l.2.2:Rat)*(m.2.1:Rat))):=by rw [←e1];exact Sz.mono ((sl2.mul J3).sub (J1.mul JZ)) (by omega)
  have M1:V.Le Fw:=(M0.trans (dZ.trans (dR.trans (iQ.trans (eh.trans (kq.trans (fB.trans (pg.trans (gF.trans (nV.trans (lY.trans (Bk.trans (tB.trans (uN))))))))))))))
  replace A8:=A8.le (dZ.trans (dR.trans (iQ.trans (eh.trans (kq.trans (fB.trans (pg.trans (gF.trans (nV.trans (lY.trans (Bk.trans (tB.trans (uN)))))))))))))
  refine ⟨_,_,_,_,_,_,_,rfl,fun Mt Cq=>(a_ (b1.le (M1.trans Cq)) J0 (by omega)).mono ?_⟩
  rintro r P1 IC Us
  have QZ:=Us
  obtain ⟨_,_,_,_,_,_,rfl⟩:=Us.shape
  refine ⟨_,_,_,_,_,_,_,rfl,fun P2 zj=>(a_ (a3.le (M1.trans (Cq.trans (IC.trans (zj))))) JZ (by omega)).mono ?_⟩
  rintro r Vx K4 Ut
  have Q1:=Ut
  obtain ⟨_,_,_,_,_,_,rfl⟩:=Ut.shape
  refine ⟨_,_,_,_,_,_,_,rfl,fun Vy wM=>(aO (QZ.le (zj.trans (K4.trans (wM)))) (Q1.le wM) J0 JZ (by omega)).mono ?_⟩
  rintro r YA PC Uu
  have Q2:=Uu
  obtain ⟨_,_,_,_,_,_,rfl⟩:=Uu.shape
  refine ⟨_,_,_,_,_,_,_,rfl,fun YB NK=>(a_ (a1.le (M1.trans (Cq.trans (IC.trans (zj.trans (K4.trans (wM.trans (PC.trans (NK))))))))) sl1 (by omega)).mono ?_⟩
  rintro r YC PD Uv
  have Q3:=Uv
  obtain ⟨_,_,_,_,_,_,rfl⟩:=Uv.shape
  refine ⟨_,_,_,_,_,_,_,rfl,fun YD NL=>(a_ (b3.le (M1.trans (Cq.trans (IC.trans (zj.trans (K4.trans (wM.trans (PC.trans (NK.trans (PD.trans (NL))))))))))) J3 (by omega)).mono ?_⟩
  rintro r YE PE Uw
  have Q4:=Uw
  obtain ⟨_,_,_,_,_,_,rfl⟩:=Uw.shape
  refine ⟨_,_,_,_,_,_,_,rfl,fun YF NM=>(aO (Q3.le (NL.trans (PE.trans (NM)))) (Q4.le NM) sl1 J3 (by omega)).mono ?_⟩
  rintro r YG R_ Ux
  have Q5:=Ux
  obtain ⟨_,_,_,_,_,_,rfl⟩:=Ux.shape
  refine ⟨_,_,_,_,_,_,_,rfl,fun YH PF=>(kj (Q2.le (NK.trans (PD.trans (NL.trans (PE.trans (NM.trans (R_.trans (PF)))))))) (Q5.le PF) (J0.mul JZ) (sl1.mul J3) (by omega)).mono ?_⟩
  rintro r YI UW Q6
  rw [e2] at Q6
  have Q7:=Q6
  obtain ⟨_,_,_,_,_,_,rfl⟩:=Q6.shape
  have sY:Sz (4*k+3) (((l.2.2:Rat)*(m.1:Rat))-((l.1:Rat)*(m.2.2:Rat))):=by rw [←e2];exact Sz.mono ((J0.mul JZ).sub (sl1.mul J3)) (by omega)
  replace A8:=A8.le (Cq.trans (IC.trans (zj.trans (K4.trans (wM.trans (PC.trans (NK.trans (PD.trans (NL.trans (PE.trans (NM.trans (R_.trans (PF.trans (UW))))))))))))))
  replace KB:=KB.le (Cq.trans (IC.trans (zj.trans (K4.trans (wM.trans (PC.trans (NK.trans (PD.trans (NL.trans (PE.trans (NM.trans (R_.trans (PF.trans (UW))))))))))))))
  refine ⟨_,_,_,_,_,_,_,rfl,fun YJ PG=>(oz (KB.le PG) (A8.le PG) hz' sX sD (by omega)).mono ?_⟩
  rintro r P3 l46 gr
  have Wy:=gr
  obtain ⟨_,_,_,_,_,_,rfl⟩:=gr.shape
  refine ⟨_,_,_,_,_,_,_,rfl,fun Tv NN=>(oz (Q7.le (PG.trans (l46.trans (NN)))) (A8.le (PG.trans (l46.trans (NN)))) hz' sY sD (by omega)).mono ?_⟩
  rintro r P4 K5 gs
  have gs0:=gs
  obtain ⟨_,_,_,_,_,_,rfl⟩:=gs.shape
  exact ⟨_,_,_,_,_,_,_,rfl,fun Tw UX=>⟨_,rfl,fun h=>absurd h hz,fun _=>⟨_,_,_,_,_,_,_,_,_,_,_,_,rfl,Wy.le (NN.trans (K5.trans (UX))),gs0.le UX⟩⟩⟩
def Kt:L3:=(0,0,0)
theorem zb {a b:L3}:oB a b<0↔(a.1<b.1\/a.1=b.1/\(a.2.1<b.2.1\/a.2.1=b.2.1/\a.2.2<b.2.2)):=by
 have s:∀{x y:Int},(x<y/\(x-y).sign=-1)\/(x=y/\(x-y).sign=0)\/(y<x/\(x-y).sign=1):=by
  intro x y
  rcases Int.lt_trichotomy x y with h|h|h
  ·exact .inl ⟨h,Int.sign_eq_neg_one_of_neg (by omega)⟩
  ·exact .inr (.inl ⟨h,by rw [h,Int.sub_self];rfl⟩)
  ·exact .inr (.inr ⟨h,Int.sign_eq_one_of_pos (by omega)⟩)
 unfold oB
 rcases @s a.1 b.1 with ⟨h1,e1⟩|⟨h1,e1⟩|⟨h1,e1⟩<;>rcases @s a.2.1 b.2.1 with ⟨h2,e2⟩|⟨h2,e2⟩|⟨h2,e2⟩<;>rcases @s a.2.2 b.2.2 with ⟨h3,e3⟩|⟨h3,e3⟩|⟨h3,e3⟩<;>rw [e1,e2,e3]<;>simp<;>omega
def HE (V:View)(v:Value)(c:L3):Prop:=Cn V v c.1 c.2.1 c.2.2/\Bd c
theorem HE.le {V V':View}{v:Value}{c:L3}(h:HE V v c)(l:V.Le V'):HE V' v c:=⟨h.1.le l,h.2⟩
theorem HE.shape {V:View}{v:Value}{c:L3}(h:HE V v c):∃(x y:Int)(p:OA)(xb yb:Int)(pb:OA)(xc yc:Int)(pc:OA),v=.agg #[.int .i64 x,.int .i64 y,.pointer p,.int .i64 xb,.int .i64 yb,.pointer pb,.int .i64 xc,.int .i64 yc,.pointer pc]:=by
 obtain ⟨⟨x1,x2,p,y1,y2,q,z1,z2,r,e,-⟩,-⟩:=h;exact ⟨_,_,_,_,_,_,_,_,_,e⟩
def eL (a b:L3):Bool:=decide (a=b)
end Go.Proofs.Tryz
namespace Go.Proofs.Tryz
open Go.fV
section
variable {α:Type} {c:α->α->Int} {d:α}
structure PQ (c:α->α->Int) (d:α) (l0 l:List α) (a0 b0 a b:Nat):Prop where
 I8:gV d l0 l a0 b0
 ha:a0<=a
 nk:a<=b
 hb:b<=b0
 lo:pk c d l a0 a
 hi:pk c d l b b0
 s1:Sep c d l a0 a b0
 s2:Sep c d l a0 b b0
 pre:0<a->∀k,a<=k->k<b->¬c (l.getD k d) (l.getD (a-1) d)<0
variable {l0 l m:List α} {a0 b0 a b mid:Nat}
theorem PQ.start {l:List α}(h:a<=b)(hp:0<a->∀k,a<=k->k<b->¬c (l.getD k d) (l.getD (a-1) d)<0):PQ c d l l a b a b:=
 ⟨.refl _ _ _,Nat.le_refl _,h,Nat.le_refl _,.short (by omega),.short (by omega),fun p q h1 h2=>by omega,fun p q h1 h2 h3 h4=>by omega,hp⟩
theorem PQ.change (h:PQ c d l0 l a0 b0 a b)(hs:gV d l m a b):PQ c d l0 m a0 b0 a b:=
 ⟨h.I8.trans (hs.wide h.ha h.hb),h.ha,h.nk,h.hb,hs.Ao h.lo (.inl (Nat.le_refl _)),hs.Ao h.hi (.inr (Nat.le_refl _)),hs.sep h.s1 (.inr (.inl ⟨Nat.le_refl _,h.hb⟩)),hs.sep h.s2 (.inl ⟨h.ha,Nat.le_refl _⟩),fun h0 k h1 h2=>by
  obtain ⟨k',h3,h4,e⟩:=hs.mem k h1 h2
  rw [e,hs.out (a-1) (by omega)]
  exact h.pre h0 k' h3 h4⟩
theorem PQ.fin (h:PQ c d l0 l a0 b0 a b)(hs:gV d l m a b)(ha:pk c d m a b):gV d l0 m a0 b0/\pk c d m a0 b0:=by
 have h':=h.change hs
 refine ⟨h'.I8,h'.lo.join (ha.join h'.hi fun p q h1 h2 h3 h4=>h'.s2 p q (by have:=h.ha;omega) h2 h3 h4) h'.s1⟩
theorem PQ.left (ho:Ord c)(h:PQ c d l0 l a0 b0 a b)(hm:a<=mid)(hm':mid<b)(h1:∀k,a<=k->k<mid->c (l.getD k d) (l.getD mid d)<0)(h2:∀k,mid<k->k<b->¬c (l.getD k d) (l.getD mid d)<0)
  (hs:gV d l m a mid)(ha:pk c d m a mid):PQ c d l0 m a0 b0 (mid+1) b:=by
 have e0:=h.ha
 have e1:=h.hb
 have em:m.getD mid d=l.getD mid d:=hs.out mid (by omega)
 have below:∀k,a<=k->k<mid->¬c (m.getD mid d) (m.getD k d)<0:=fun k g1 g2=>by
  obtain ⟨k',g3,g4,e⟩:=hs.mem k g1 g2
  rw [em,e];exact ho.HU _ _ (h1 k' g3 g4)
 have t1:=hs.sep h.s1 (.inr (.inl ⟨Nat.le_refl _,by omega⟩))
 have t2:=hs.sep h.s2 (.inl ⟨e0,by omega⟩)
 have up:∀q,mid<q->q<b->¬c (m.getD q d) (m.getD mid d)<0:=fun q g1 g2=>by rw [em,hs.out q (by omega)];exact h2 q g1 g2
 refine ⟨h.I8.trans (hs.wide e0 (by omega)),by omega,by omega,e1,(hs.Ao h.lo (.inl (Nat.le_refl _))).join (m:=a) (fun p q g1 g2 g3=>?_) fun p q g1 g2 g3 g4=>t1 p q g1 g2 g3 (by omega),hs.Ao h.hi (.inr (by omega)),fun p q g1 g2 g3 g4=>?_,t2,fun _ k g1 g2=>up k (by omega) g2⟩
 ·by_cases e:q=mid
  ·subst e;exact below p g1 g2
  ·exact ha p q g1 g2 (by omega)
 ·by_cases hq:b<=q
  ·exact t2 p q g1 (by omega) hq g4
  ·by_cases hp:p<a
   ·exact t1 p q g1 hp (by omega) g4
   ·have u:=up q (by omega) (by omega)
    by_cases e:p=mid
    ·subst e;exact u
    ·exact ho.tr _ _ _ u (below p (by omega) (by omega))
theorem PQ.right (ho:Ord c)(h:PQ c d l0 l a0 b0 a b)(hm:a<=mid)(hm':mid<b)(h1:∀k,a<=k->k<mid->c (l.getD k d) (l.getD mid d)<0)(h2:∀k,mid<k->k<b->¬c (l.getD k d) (l.getD mid d)<0)
  (hs:gV d l m (mid+1) b)(ha:pk c d m (mid+1) b):PQ c d l0 m a0 b0 a mid:=by
 have e0:=h.ha
 have e1:=h.hb
 have em:m.getD mid d=l.getD mid d:=hs.out mid (by omega)
 have up:∀q,mid<q->q<b->¬c (m.getD q d) (m.getD mid d)<0:=fun q g1 g2=>by
  obtain ⟨k',g3,g4,e⟩:=hs.mem q (by omega) g2
  rw [em,e];exact h2 k' (by omega) g4
 have below:∀k,a<=k->k<mid->¬c (m.getD mid d) (m.getD k d)<0:=fun k g1 g2=>by
  rw [em,hs.out k (by omega)];exact ho.HU _ _ (h1 k g1 g2)
 have t1:=hs.sep h.s1 (.inr (.inl ⟨by omega,e1⟩))
 have t2:=hs.sep h.s2 (.inl ⟨by omega,Nat.le_refl _⟩)
 have t3:=hs.Ao h.hi (.inr (Nat.le_refl _))
 refine ⟨h.I8.trans (hs.wide (by omega) e1),e0,hm,by omega,hs.Ao h.lo (.inl (by omega)),fun p q g1 g2 g3=>?_,t1,fun p q g1 g2 g3 g4=>?_,fun h0 k g1 g2=>?_⟩
 ·by_cases hq:q<b
  ·by_cases e:p=mid
   ·subst e;exact up q g2 hq
   ·exact ha p q (by omega) g2 hq
  ·by_cases hp:p<b
   ·exact t2 p q (by omega) hp (by omega) g3
   ·exact t3 p q (by omega) g2 g3
 ·by_cases hq:b<=q
  ·exact t2 p q g1 (by omega) hq g4
  ·by_cases hp:p<a
   ·exact t1 p q g1 hp (by omega) g4
   ·have u:=below p (by omega) g2
    by_cases e:q=mid
    ·subst e;exact u
    ·exact ho.tr _ _ _ (up q (by omega) (by omega)) u
 ·rw [hs.out k (by omega),hs.out (a-1) (by omega)];exact h.pre h0 k g1 (by omega)
theorem PQ.Wn (ho:Ord c)(h:PQ c d l0 l a0 b0 a b)(h0:0<a)(hm:a<mid)(hm':mid<=b){x:α}(hx:¬c (l.getD (a-1) d) x<0)(hs:gV d l m a b)
  (h1:∀k,a<=k->k<mid->¬c x (m.getD k d)<0)(h2:∀k,mid<=k->k<b->c x (m.getD k d)<0):PQ c d l0 m a0 b0 mid b:=by
 have h':=h.change hs
 have e0:=h.ha
 have e1:=h.hb
 have ex:¬c (m.getD (a-1) d) x<0:=by rw [hs.out (a-1) (by omega)];exact hx
 have pr:=h'.pre h0
 refine ⟨h'.I8,by omega,hm',e1,h'.lo.join (m:=a) (fun p q g1 g2 g3=>?_) fun p q g1 g2 g3 g4=>h'.s1 p q g1 g2 g3 (by omega),h'.hi,fun p q g1 g2 g3 g4=>?_,h'.s2,fun _ k g1 g2=>?_⟩
 ·exact ho.tr _ _ _ (pr q (by omega) (by omega)) (ho.tr _ _ _ ex (h1 p g1 (by omega)))
 ·by_cases hq:b<=q
  ·exact h'.s2 p q g1 (by omega) hq g4
  ·by_cases hp:p<a
   ·exact h'.s1 p q g1 hp (by omega) g4
   ·exact ho.tr _ _ _ (ho.HU _ _ (h2 q g3 (by omega))) (h1 p (by omega) g2)
 ·exact ho.tr _ _ _ (ho.HU _ _ (h2 k g1 g2)) (h1 (mid-1) (by omega) (by omega))
structure HQ (c:α->α->Int) (d:α) (l:List α) (f i n:Nat):Prop where
 hp:Hp c d l f 0 i none
 Ao:pk c d l (f+i) (f+n)
 sep:Sep c d l f (f+i) (f+n)
theorem HQ.start {f n:Nat}(h:Hp c d l f 0 n none):HQ c d l f n n:=⟨h,.short (by omega),fun p q h1 h2 h3 h4=>by omega⟩
theorem HQ.step (ho:Ord c){f k n:Nat}(h:HQ c d l f (k+1) n)(hk:k+1<=n)(hl:f+n<=l.length)(hs:gV d (jf d l f (f+k)) m f (f+k))(hm:Hp c d m f 0 k none):HQ c d m f k n:=by
 have ha:=fun x=>lF (d:=d) (l:=l) (i:=f) (j:=f+k) (k:=x) (by omega) (by omega)
 have out:∀q,f+k<q->m.getD q d=l.getD q d:=fun q hq=>by rw [hs.out q (by omega),ha,if_neg (by omega),if_neg (by omega)]
 have top:m.getD (f+k) d=l.getD f d:=by rw [hs.out (f+k) (by omega),ha,if_pos rfl]
 refine ⟨hm,fun p q g1 g2 g3=>?_,fun p q g1 g2 g3 g4=>?_⟩
 ·rw [out q (by omega)]
  by_cases e:p=f+k
  ·rw [e,top];exact h.sep f q (Nat.le_refl _) (by omega) (by omega) g3
  ·rw [out p (by omega)];exact h.Ao p q (by omega) g2 g3
 ·have hp:∃j,j<k+1/\m.getD p d=l.getD (f+j) d:=by
   obtain ⟨p',e1,e2,e⟩:=hs.mem p g1 g2
   rw [e,ha,if_neg (by omega)]
   split
   ·exact ⟨k,by omega,rfl⟩
   ·exact ⟨p'-f,by omega,by rw [show f+(p'-f)=p' by omega]⟩
  obtain ⟨j,hj,e⟩:=hp
  rw [e]
  by_cases eq:q=f+k
  ·rw [eq,top];exact h.hp.top ho j hj
  ·rw [out q (by omega)];exact h.sep (f+j) q (by omega) (by omega) (by omega) g4
theorem HQ.fin {f n:Nat}(h:HQ c d l f 0 n):pk c d l f (f+n):=by have:=h.Ao;simpa using this
structure PT (P:α->Prop) (d:α) (l:List α) (a b i j:Nat):Prop where
 hi:a<i
 wL:i<=j+1
 hj:j<b
 lo:∀k,a<k->k<i->P (l.getD k d)
 up:∀k,j<k->k<b->¬P (l.getD k d)
variable {P:α->Prop} {i j:Nat}
theorem PT.start (h:a+1<b):PT P d l a b (a+1) (b-1):=⟨by omega,by omega,by omega,fun k h1 h2=>by omega,fun k h1 h2=>by omega⟩
theorem PT.KT (h:PT P d l a b i j)(wL:i<=j)(hp:P (l.getD i d)):PT P d l a b (i+1) j:=⟨by have:=h.hi;omega,by omega,h.hj,fun k h1 h2=>by
 by_cases e:k=i
 ·subst e;exact hp
 ·exact h.lo k h1 (by omega),h.up⟩
theorem PT.Ku (h:PT P d l a b i j)(wL:i<=j)(hp:¬P (l.getD j d)):PT P d l a b i (j-1):=⟨h.hi,by omega,by have:=h.hj;omega,h.lo,fun k h1 h2=>by
 by_cases e:k=j
 ·subst e;exact hp
 ·exact h.up k (by have:=h.hi;omega) h2⟩
theorem PT.swap (h:PT P d l a b i j)(wL:i<=j)(hl:b<=l.length)(h1:¬P (l.getD i d))(h2:P (l.getD j d)):PT P d (jf d l i j) a b (i+1) (j-1)/\(jf d l i j).getD a d=l.getD a d/\gV d l (jf d l i j) a b:=by
 have e0:=h.hi
 have e1:=h.hj
 have ne:i≠j:=fun e=>h1 (e▸h2)
 have ha:=fun x=>lF (d:=d) (l:=l) (i:=i) (j:=j) (k:=x) (by omega) (by omega)
 refine ⟨⟨by omega,by omega,by omega,fun k g1 g2=>?_,fun k g1 g2=>?_⟩,by rw [ha,if_neg (by omega),if_neg (by omega)],gV.jf (by omega) (by omega) (by omega) e1 hl⟩
 ·rw [ha,if_neg (by omega)]
  by_cases e:k=i
  ·rw [if_pos e];exact h2
  ·rw [if_neg e];exact h.lo k g1 (by omega)
 ·rw [ha]
  by_cases e:k=j
  ·rw [if_pos e];exact h1
  ·rw [if_neg e,if_neg (by omega)];exact h.up k (by omega) g2
theorem PT.fin (ho:Ord c)(h:PT (fun x=>c x (l.getD a d)<0) d l a b i j)(wL:¬i<=j)(hl:b<=l.length):gV d l (jf d l j a) a b/\a<=j/\j<b /\
  (∀k,a<=k->k<j->c ((jf d l j a).getD k d) ((jf d l j a).getD j d)<0)/\(∀k,j<k->k<b->¬c ((jf d l j a).getD k d) ((jf d l j a).getD j d)<0):=by
 have e0:=h.hi
 have e1:=h.wL
 have e2:=h.hj
 have ha:=fun x=>lF (d:=d) (l:=l) (i:=j) (j:=a) (k:=x) (by omega) (by omega)
 have ej:(jf d l j a).getD j d=l.getD a d:=by
  rw [ha]
  by_cases e:j=a
  ·rw [if_pos e,e]
  ·rw [if_neg e,if_pos rfl]
 refine ⟨gV.jf (by omega) e2 (Nat.le_refl _) (by omega) hl,by omega,e2,fun k g1 g2=>?_,fun k g1 g2=>?_⟩
 ·rw [ej,ha]
  by_cases e:k=a
  ·rw [if_pos e];exact h.lo j (by omega) (by omega)
  ·rw [if_neg e,if_neg (by omega)];exact h.lo k (by omega) (by omega)
 ·rw [ej,ha,if_neg (by omega),if_neg (by omega)];exact h.up k g1 g2
end
end Go.Proofs.Tryz
namespace Go.Proofs.Tryz
open Go.bK Go.fV
theorem gG (V:View):V.Le V.shut:=fun _ _ h=>h
set_option maxRecDepth 10000 in
theorem H2 {V:View}(x:Nat)(hx:x<256):ab prog 220 #[.int .u64 (x:Int)] V fun r V'=>r=.int .i64 (bh x:Int):=by
 refine oX _ V _ ⟨fun z _=>z=((x:Int),0),⟨fun h0=>absurd (of_decide_eq_true h0) (by omega),fun _=>⟨_,⟨rfl,rfl⟩,rfl⟩⟩,?_⟩
 rintro _ V1 l1 rfl
 refine ⟨rfl,fun z _=>z=((x:Int),0),⟨fun h0=>absurd (of_decide_eq_true h0) (by dsimp only;omega),fun _=>⟨_,⟨rfl,rfl⟩,rfl⟩⟩,?_⟩
 rintro _ V2 l2 rfl
 refine ⟨rfl,fun z _=>z=((x:Int),0),⟨fun h0=>absurd (of_decide_eq_true h0) (by dsimp only;omega),fun _=>⟨_,⟨rfl,rfl⟩,rfl⟩⟩,?_⟩
 rintro _ V3 l3 rfl
 have hw:IntKind.u8.wrap (x:Int)=x:=IntWalk.u8_in _ (by omega)
 have hsz:(Bl.size:Int)=256:=rfl
 dsimp only
 rw [hw]
 refine ⟨rfl,⟨by omega,by show (x:Int)<(Bl.size:Int);rw [hsz];omega⟩,fun V4 l4=>?_⟩
 show Value.int .i64 (i64.wrap (0+i64.wrap ((Bl.data.toList.getD (x:Int).toNat 0).toNat:Int)))=_
 congr 1
 have key:∀y:Nat,y<256->(Bl.data.toList.getD y 0).toNat=bh y:=by decide +kernel
 have hbl:bh x<=8:=fX.2 (by omega)
 have:=key x hx
 rw [Int.toNat_natCast,this]
 simp (disch:=omega) only [ar]
 omega
theorem kM {V:View}(x:Nat)(hx:x<256):ab prog 180 #[.int .u64 (x:Int)] V fun r V'=>r=.int .i64 (bh x:Int):=by
 refine rG _ V _ fun V1 l1=>(H2 x hx).mono ?_
 rintro r V2 l2 rfl
 exact ⟨_,rfl,fun V3 l3=>rfl⟩
theorem qP {V:View}(x:Nat)(h0:1<=x)(hx:x<50):ab prog 241 #[.int .i64 (x:Int)] V fun r V'=>∃m:Nat,r=.int .u64 m/\1<=m/\m<=2*x:=by
 have w:u64.wrap (x:Int)=x:=aL (by omega)
 refine j7 _ V _ fun V1 l1=>?_
 rw [w]
 refine (kM x (by omega)).mono ?_
 rintro r V2 l2 rfl
 have key:∀y:Nat,y<50->1<=y->2^bh y<=2*y/\bh y<=6:=by decide +kernel
 obtain ⟨k1,k2⟩:=key x hx h0
 have e:min ((bh x:Nat):Int).toNat IntKind.u64.bits=bh x:=by
  show min ((bh x:Nat):Int).toNat 64=_
  rw [Int.toNat_natCast];omega
 have e2:((1:Int)*2^bh x)=((2^bh x:Nat):Int):=by rw [Int.one_mul];simp
 refine ⟨_,rfl,by omega,fun V3 l3=>⟨2^bh x,?_,Nat.one_le_two_pow,k1⟩⟩
 rw [e,e2]
 generalize 2^bh x=P at *
 rw [aL (by omega)]
theorem Ki {x m:Int}(h0:0<=m)(h1:m<1000):0<=aS .and .u64 x m/\aS .and .u64 x m<=m:=by
 have hb:(BitVec.ofInt 64 m).toNat=m.toNat:=by rw [BitVec.toNat_ofInt];omega
 have h:((BitVec.ofInt 64 x &&& BitVec.ofInt 64 m).toNat)<=m.toNat:=by rw [BitVec.toNat_and,hb];exact Nat.and_le_right
 show 0<=u64.wrap ((BitVec.ofInt 64 x &&& BitVec.ofInt 64 m).toNat:Int)/\u64.wrap ((BitVec.ofInt 64 x &&& BitVec.ofInt 64 m).toNat:Int)<=m
 rw [aL (by omega)]
 omega
theorem CJ {V:View}{rb:Nat}{x:Int}(hw:V.w.heap[rb]?=some (.cells #[.int .u64 x] 302 (0,0)))(hx:V.X rb) :
  ab prog 242 #[.pointer (some ⟨rb,0,none⟩)] V fun r V'=>∃y:Int,r=.int .u64 y/\V'.w.heap[rb]?=some (.cells #[.int .u64 y] 302 (0,0)):=
 kG rb x V _ hw hx ⟨by decide,by decide,by decide,fun V1 l1 h=>⟨_,rfl,h⟩⟩
end Go.Proofs.Tryz
namespace Go.Proofs.Tryz
open Go.bK
set_option maxRecDepth 100000
end Go.Proofs.Tryz
namespace Go.Proofs.Tryz
open Go.bK Go.fV
structure Jr (V:View) (n:Nat) (vs:List Value) (l:List L3):Prop where
 row:Row 9 HE V vs l
 len:n=l.length
 ni:l.length<50
theorem Jr.le {V V':View}{n:Nat}{vs:List Value}{l:List L3}(h:Jr V n vs l)(e:V.Le V'):Jr V' n vs l:=⟨h.row.le fun _ _ g=>HE.le g e,h.len,h.ni⟩
theorem Jr.get {V:View}{n:Nat}{vs:List Value}{l:List L3}(h:Jr V n vs l){k:Nat}(hk:k<l.length):∃(x y:Int)(p:OA)(xb yb:Int)(pb:OA)(xc yc:Int)(pc:OA),
  ((0+k*9)+9<=vs.length/\(vs.drop (0+k*9)).take 9=[.int .i64 x,.int .i64 y,.pointer p,.int .i64 xb,.int .i64 yb,.pointer pb,.int .i64 xc,.int .i64 yc,.pointer pc])/\HE V (.agg #[.int .i64 x,.int .i64 y,.pointer p,.int .i64 xb,.int .i64 yb,.pointer pb,.int .i64 xc,.int .i64 yc,.pointer pc]) (l.getD k Kt):=by
 obtain ⟨xs,-,h2,h3,h4⟩:=h.row.get (d:=Kt) hk (by decide)
 have h20:=h2
 obtain ⟨x,y,p,xb,yb,pb,xc,yc,pc,e⟩:=h2.shape
 have e:=congrArg Array.toList (Value.agg.inj e)
 dsimp only at e
 subst e
 rw [Nat.zero_add]
 exact ⟨x,y,p,xb,yb,pb,xc,yc,pc,⟨h3,h4⟩,h20⟩
theorem Jr.swap {V:View}{n:Nat}{vs:List Value}{l:List L3}(h:Jr V n vs l){i j:Nat}(hi:i<l.length)(hj:j<l.length){x y:Int}{p:OA}{xb yb:Int}{pb:OA}{xc yc:Int}{pc:OA}{x' y':Int}{p':OA}{LP LQ:Int}{pb':OA}{O8 Tp:Int}{pc':OA}
  (h1:HE V (.agg #[.int .i64 x,.int .i64 y,.pointer p,.int .i64 xb,.int .i64 yb,.pointer pb,.int .i64 xc,.int .i64 yc,.pointer pc]) (l.getD i Kt))(h2:HE V (.agg #[.int .i64 x',.int .i64 y',.pointer p',.int .i64 LP,.int .i64 LQ,.pointer pb',.int .i64 O8,.int .i64 Tp,.pointer pc']) (l.getD j Kt)) :
  (0+i*9)+9<=vs.length/\(0+j*9)+9<=(ae vs (0+i*9) [.int .i64 x',.int .i64 y',.pointer p',.int .i64 LP,.int .i64 LQ,.pointer pb',.int .i64 O8,.int .i64 Tp,.pointer pc']).length /\
  Jr V n (ae (ae vs (0+i*9) [.int .i64 x',.int .i64 y',.pointer p',.int .i64 LP,.int .i64 LQ,.pointer pb',.int .i64 O8,.int .i64 Tp,.pointer pc']) (0+j*9) [.int .i64 x,.int .i64 y,.pointer p,.int .i64 xb,.int .i64 yb,.pointer pb,.int .i64 xc,.int .i64 yc,.pointer pc]) (jf Kt l i j):=by
 obtain ⟨-,-,-,g1,-⟩:=h.row.get (d:=Kt) hi (by decide)
 obtain ⟨-,-,-,g2,-⟩:=h.row.get (d:=Kt) hj (by decide)
 rw [Nat.zero_add,Nat.zero_add]
 refine ⟨g1,by rw [jG (by exact g1)];exact g2,h.row.swap hi hj (by decide) rfl rfl h1 h2,by rw [nD];exact h.len,by rw [nD];exact h.ni⟩
end Go.Proofs.Tryz
namespace Go.Proofs.Tryz
open Go.bK
set_option maxRecDepth 100000
end Go.Proofs.Tryz
namespace Go.Proofs.Tryz
open Go.bK Go.fV
structure GR {α:Type} (sz:Nat) (R:View->Value->α->Prop) (V:View) (n c:Nat) (vs:List Value) (l:List α):Prop where
 len:n=l.length
 le:n<=c
 cap:c*sz<=vs.length
 row:Row sz R V vs l
theorem GR.nil {α:Type}{sz:Nat}{R:View->Value->α->Prop}{V:View}:GR sz R V 0 0 [] []:=⟨rfl,Nat.le_refl _,by simp,Row.nil⟩
theorem GR.mono {α:Type}{sz:Nat}{R:View->Value->α->Prop}{V V':View}{n c:Nat}{vs:List Value}{l:List α}(h:GR sz R V n c vs l)(m:∀v a,R V v a->R V' v a):GR sz R V' n c vs l:=⟨h.len,h.le,h.cap,h.row.le m⟩
theorem GR.snoc {α:Type}{sz:Nat}{R:View->Value->α->Prop}{V:View}{n c:Nat}{vs:List Value}{l:List α}(h:GR sz R V n c vs l){xs:List Value}{a:α}(hx:xs.length=sz)(ha:R V (.agg xs.toArray) a)(h0:0<sz){sp:List Value}{c':Nat}(h1:n+1<=c')(h2:c'*sz<=(n+1)*sz+sp.length) :
  GR sz R V (n+1) c' (vs.take (n*sz)++xs++sp) (l++[a]):=by
 have hn:=h.len
 have hc:=h.cap
 have hl:n*sz<=c*sz:=Nat.mul_le_mul_right _ h.le
 refine ⟨by rw [List.length_append,hn];rfl,h1,?_,?_⟩
 ·have ht:(vs.take (n*sz)).length=n*sz:=by rw [List.length_take];omega
  rw [List.length_append,List.length_append,ht,hx]
  rw [Nat.succ_mul] at h2
  exact h2
 ·have:=h.row.snoc (sp:=sp) hx ha h0
  rw [←hn] at this
  exact this
end Go.Proofs.Tryz
namespace Go.Proofs.Tryz
open Go.bK
set_option maxRecDepth 100000
end Go.Proofs.Tryz
namespace Go.Proofs.Tryz
open Go.bK Go.fV
def cJ (l:L3):L3:=if l.1<0\/l.1=0/\l.2.1<0 then wR l else l
def Tr.qF:Tr->List L3
 | .leaf _=>[]
 | .node l a b=>l::(a.qF++b.qF)
theorem lg:∀t:Tr,t.qF.length=t.size
 | .leaf _=>rfl
 | .node _ a b=>by simp only [Tr.qF,List.length_cons,List.length_append,lg a,lg b,Tr.size]
theorem jx {p:L3->Prop}:∀{t:Tr},t.lG p->∀x∈t.qF,p x
 | .leaf _,_,x,h=>by cases h
 | .node l a b,⟨h1,h2,h3⟩,x,h=>by
  rcases List.mem_cons.1 h with rfl|h
  ·exact h1
  ·rcases List.mem_append.1 h with h|h
   ·exact jx h2 x h
   ·exact jx h3 x h
theorem Bd.rev {l:L3}(h:Bd l):Bd (wR l):=by
 obtain ⟨h1,h2,h3⟩:=h
 unfold Bd wR
 simp only [Int.natAbs_neg]
 exact ⟨h1,h2,h3⟩
theorem Bd.can {l:L3}(h:Bd l):Bd (cJ l):=by
 unfold cJ;split
 ·exact h.rev
 ·exact h
theorem Bd.Jf {l:L3}(h:Bd l):yH 1000 l:=⟨h.sz.1,h.sz.2.1,h.sz.2.2⟩
theorem Gq {V:View}{P:Prop}{b:Nat}(h:P->V.H b):V.Le (V.shut.cf P b):=fun x o g=>⟨fun hh=>by
 rcases hh with hh|hh
 ·exact g.1 hh
 ·rw [hh.2.1] at g;exact g.1 (h hh.1),g.2⟩
theorem ab.N4 {f:FuncId}{args:Array Value}{V:View}{R R':Value->View->Prop}(h:ab prog f args V R)(hR:∀r V',V.Le V'->(∀b,V.H b->V'.H b)->R r V'->R' r V'):ab prog f args V R':=
 ⟨h.1,h.2.mono fun _ w' ⟨r,he,hx,hr⟩=>⟨r,he,hx,hR r _ (V.Gr w' hx) (fun _ hb=>hb) hr⟩⟩
end Go.Proofs.Tryz
namespace Go.Proofs.Tryz.ay
open Go.bK Go.fV
def nv (l:L3)(v:V2):Rat:=(l.1:Rat)*v.1+(l.2.1:Rat)*v.2
def cC (l:L3):V2:=((l.2.1:Rat),-(l.1:Rat))
theorem Oi (l:L3)(v:V2):nv l v=cr (cC l) v:=by unfold nv cr cC;grind
def wT (l:L3)(p v:V2):Int:=if (cB l p.1 p.2).num.sign=0 then (nv l v).num.sign else (cB l p.1 p.2).num.sign
def fC:Tr->V2->V2->Bool×Bool
 | .leaf i,_,_=>(i,true)
 | .node l a b,p,v=>if wT l p v=1 then fC a p v else if wT l p v=-1 then fC b p v else (false,false)
def cM:Tr->V2->List L3
 | .leaf _,_=>[]
 | .node l a b,p=>(if cB l p.1 p.2=0 then [l] else [])++((if cB l p.1 p.2≥0 then cM a p else [])++(if cB l p.1 p.2<=0 then cM b p else []))
theorem mz:∀{t:Tr} {p:V2} {l:L3},l∈cM t p->cB l p.1 p.2=0/\l∈t.qF
 | .leaf _,_,_,h=>by cases h
 | .node m a b,p,l,h=>by
  unfold cM at h
  simp only [List.mem_append] at h
  rcases h with h|h|h
  ·split at h
   ·rename_i e;rcases List.mem_singleton.1 h with rfl;exact ⟨e,List.mem_cons_self ..⟩
   ·cases h
  ·split at h
   ·have:=mz h;exact ⟨this.1,List.mem_cons_of_mem _ (List.mem_append_left _ this.2)⟩
   ·cases h
  ·split at h
   ·have:=mz h;exact ⟨this.1,List.mem_cons_of_mem _ (List.mem_append_right _ this.2)⟩
   ·cases h
theorem vl {q:Rat}:q.num.sign=-1↔q<0:=by
 rw [Int.sign_eq_neg_one_iff_neg,←Int.not_le,←Rat.not_le,Rat.num_nonneg]
theorem zM {q:Rat}:q.num.sign=1↔q>0:=by
 have h:=@vl (-q)
 rw [Rat.neg_num,Int.sign_neg] at h
 constructor
 ·intro e;have:=h.1 (by rw [e]);grind
 ·intro e;have:=h.2 (by grind);omega
theorem dT {q:Rat}:q.num.sign=0↔q=0:=by rw [Int.sign_eq_zero_iff_zero,Rat.num_eq_zero]
theorem kB:∀{t:Tr} {p v x:V2},(∀l∈cM t p,nv l v≠0)->(∀l∈cM t p,(nv l v>0->nv l x>0)/\(nv l v<0->nv l x<0)) ->
  fC t p x=fC t p v/\(fC t p v).2=true
 | .leaf _,_,_,_,_,_=>⟨rfl,rfl⟩
 | .node l a b,p,v,x,h0,h1=>by
  have ha:cB l p.1 p.2≥0->fC a p x=fC a p v/\(fC a p v).2=true:=fun e=>by
   have sub:∀m∈cM a p,m∈cM (.node l a b) p:=fun m hm=>by
    unfold cM
    rw [if_pos e]
    exact List.mem_append_right _ (List.mem_append_left _ hm)
   exact kB (fun m hm=>h0 m (sub m hm)) (fun m hm=>h1 m (sub m hm))
  have hb:cB l p.1 p.2<=0->fC b p x=fC b p v/\(fC b p v).2=true:=fun e=>by
   have sub:∀m∈cM b p,m∈cM (.node l a b) p:=fun m hm=>by
    unfold cM
    rw [if_pos e]
    exact List.mem_append_right _ (List.mem_append_right _ hm)
   exact kB (fun m hm=>h0 m (sub m hm)) (fun m hm=>h1 m (sub m hm))
  have hl:cB l p.1 p.2=0->l∈cM (.node l a b) p:=fun e=>by
   unfold cM
   rw [if_pos e]
   exact List.mem_append_left _ (List.mem_singleton.2 rfl)
  have key:wT l p x=wT l p v/\(wT l p v=1/\cB l p.1 p.2≥0\/wT l p v=-1/\cB l p.1 p.2<=0):=by
   unfold wT
   by_cases e:cB l p.1 p.2=0
   ·have hm:=hl e
    rw [if_pos (dT.2 e),if_pos (dT.2 e)]
    obtain ⟨q1,q2⟩:=h1 l hm
    have q0:=h0 l hm
    by_cases q:nv l v>0
    ·rw [zM.2 q,zM.2 (q1 q)];exact ⟨rfl,.inl ⟨rfl,by grind⟩⟩
    ·have q':nv l v<0:=by grind
     rw [vl.2 q',vl.2 (q2 q')];exact ⟨rfl,.inr ⟨rfl,by grind⟩⟩
   ·have e':¬(cB l p.1 p.2).num.sign=0:=fun h=>e (dT.1 h)
    rw [if_neg e',if_neg e']
    refine ⟨rfl,?_⟩
    by_cases q:cB l p.1 p.2>0
    ·exact .inl ⟨zM.2 q,by grind⟩
    ·exact .inr ⟨vl.2 (by grind),by grind⟩
  obtain ⟨k1,k2⟩:=key
  simp only [fC,k1]
  rcases k2 with ⟨e,g⟩|⟨e,g⟩
  ·rw [e,if_pos rfl,if_pos rfl];exact ha g
  ·rw [e,if_neg (by decide),if_pos rfl,if_neg (by decide),if_pos rfl];exact hb g
def En (D:List V2)(M:List L3):Prop:=∀l∈M,∃r∈D,∃c:Rat,c>0/\r=(c*(cC l).1,c*(cC l).2)
theorem CN {l:L3}{r:V2}{c:Rat}(c0:c>0)(e:r=(c*(cC l).1,c*(cC l).2))(v:V2):cr r v=c*nv l v:=by
 rw [Oi,e];unfold cr;grind
theorem D7 {c x:Rat}(c0:c>0):(c*x>0↔x>0)/\(c*x<0↔x<0)/\(c*x=0↔x=0):=by
 have p:x>0->c*x>0:=fun h=>mp c0 h
 have n:x<0->c*x<0:=fun h=>by have:=mp c0 (show -x>0 by grind);grind
 have z:x=0->c*x=0:=fun h=>by rw [h];grind
 refine ⟨⟨fun h=>?_,p⟩,⟨fun h=>?_,n⟩,⟨fun h=>?_,z⟩⟩
 ·by_cases q:x>0
  ·exact q
  ·by_cases q':x<0
   ·have:=n q';grind
   ·have:=z (by grind);grind
 ·by_cases q:x<0
  ·exact q
  ·by_cases q':x>0
   ·have:=p q';grind
   ·have:=z (by grind);grind
 ·rcases Rat.mul_eq_zero.1 h with h|h
  ·grind
  ·exact h
theorem En.gen {D:List V2}{M:List L3}(h:En D M){v:V2}(hv:∀r∈D,cr r v≠0):∀l∈M,nv l v≠0:=by
 intro l hl e
 obtain ⟨r,hr,c,c0,e'⟩:=h l hl
 exact hv r hr (by rw [CN c0 e',e];grind)
theorem En.same {D:List V2}{M:List L3}(h:En D M){v x:V2}(hv:∀r∈D,(cr r v>0->cr r x>0)/\(cr r v<0->cr r x<0)) :
  ∀l∈M,(nv l v>0->nv l x>0)/\(nv l v<0->nv l x<0):=by
 intro l hl
 obtain ⟨r,hr,c,c0,e'⟩:=h l hl
 have:=hv r hr
 rw [CN c0 e',CN c0 e'] at this
 obtain ⟨a1,a2,_⟩:=@D7 c (nv l v) c0
 obtain ⟨b1,b2,_⟩:=@D7 c (nv l x) c0
 exact ⟨fun h=>b1.1 (this.1 (a1.2 h)),fun h=>b2.1 (this.2 (a2.2 h))⟩
theorem Hn {D S:List V2}(h:Am D)(hS:Er D S):∀x∈S,nz x:=by
 intro x hx
 have g:=qm h hS x hx
 rcases hS with ⟨rfl,rfl⟩|⟨h0,_,_⟩
 ·rcases List.mem_singleton.1 hx with rfl;exact .inl (by decide)
 ·obtain ⟨d,hd⟩:=List.exists_mem_of_ne_nil D h0
  have:=g d hd
  unfold nz
  by_cases e:x.1=0
  ·right;intro e';exact this (by unfold cr;rw [e,e'];grind)
  ·exact .inl e
theorem NW {D E S':List V2}(hD:∀r∈D,nz r)(hE:Am E)(hS':Er E S'){t:Tr}{p x:V2}(nx:nz x)(hx:∀r∈D,cr r x≠0)(c1:En D (cM t p))(c2:En E (cM t p)) :
  ∃y∈S',fC t p y=fC t p x/\(fC t p x).2=true:=by
 obtain ⟨z,hz⟩:=LI x nx (D++E) fun r hr=>by
  rcases List.mem_append.1 hr with h|h
  ·exact hD r h
  ·exact hE.nz r h
 have z1:∀r∈D,(cr r x>0->cr r z>0)/\(cr r x<0->cr r z<0):=fun r hr=>⟨(hz r (List.mem_append_left _ hr)).1,(hz r (List.mem_append_left _ hr)).2.1⟩
 have z2:∀r∈E,cr r z≠0:=fun r hr=>(hz r (List.mem_append_right _ hr)).2.2
 obtain ⟨y,hy,y1⟩:=Ja hE hS' z2
 have t1:=kB (c1.gen hx) (c1.same z1)
 have t2:=kB (c2.gen z2) (c2.same y1)
 exact ⟨y,hy,t2.1.trans t1.1,t1.2⟩
def anyS (t:Tr)(p:V2)(S:List V2):Bool:=S.any fun v=>(fC t p v).1
def iD (t:Tr)(p:V2)(S:List V2):Bool:=S.all fun v=>(fC t p v).1
theorem Ls {D S E S':List V2}(hD:Am D)(hS:Er D S)(hE:Am E)(hS':Er E S'){t:Tr}{p:V2}(c1:En D (cM t p))(c2:En E (cM t p)) :
  anyS t p S=anyS t p S'/\iD t p S=iD t p S':=by
 have a:∀x∈S,∃y∈S',fC t p y=fC t p x:=fun x hx=>by
  obtain ⟨y,hy,e,_⟩:=NW hD.nz hE hS' (Hn hD hS x hx) (qm hD hS x hx) c1 c2
  exact ⟨y,hy,e⟩
 have b:∀x∈S',∃y∈S,fC t p y=fC t p x:=fun x hx=>by
  obtain ⟨y,hy,e,_⟩:=NW hE.nz hD hS (Hn hE hS' x hx) (qm hE hS' x hx) c2 c1
  exact ⟨y,hy,e⟩
 unfold anyS iD
 constructor
 ·rw [Bool.eq_iff_iff,List.any_eq_true,List.any_eq_true]
  constructor
  ·rintro ⟨x,hx,h⟩;obtain ⟨y,hy,e⟩:=a x hx;exact ⟨y,hy,by rw [e];exact h⟩
  ·rintro ⟨x,hx,h⟩;obtain ⟨y,hy,e⟩:=b x hx;exact ⟨y,hy,by rw [e];exact h⟩
 ·rw [Bool.eq_iff_iff,List.all_eq_true,List.all_eq_true]
  constructor
  ·intro h x hx;obtain ⟨y,hy,e⟩:=b x hx;rw [←e];exact h y hy
  ·intro h x hx;obtain ⟨y,hy,e⟩:=a x hx;rw [←e];exact h y hy
theorem inv_mul {c:Rat}(h:c≠0)(a:Rat):a*c⁻¹*c=a:=by rw [Rat.mul_assoc,Rat.inv_mul_cancel _ h,Rat.mul_one]
end Go.Proofs.Tryz.ay
