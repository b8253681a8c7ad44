import Derived.Test.YtdhlkpfmlimjfaaGreatDoorB14
import Derived.Test.YtdhlkpfmlimjfaaGreatDoorB8
import Derived.Test.YtdhlkpfmlimjfaaGreatDoorB13
import Derived.Test.YtdhlkpfmlimjfaaGreatDoorB6
import Derived.Test.YtdhlkpfmlimjfaaGreatDoorB10
set_option linter.unusedVariables false
open Go.IntKind (i64 u64 u32)
namespace Go.Proofs.Tryz
open Go.Eng Go.Big
theorem sJ {V:View}{v:Value}{q:Rat}(h:RQ V v q){k:Nat}(_s:Sz k q)(_hk:k<=1099511627776):Acts prog 64 #[v] V fun r V'=>RQ V' r (-q):=by
 obtain ⟨p,n,c,p',n',c',rfl,h1,h2⟩:=h
 exact lL q h1 h2
theorem aS {V:View}{z:Int}{p:OA}{n c:Nat}(h:RD V p n c (af z.natAbs)){k:Nat}(_s:Sz k (z:Rat))(_hk:k<=1099511627776) :
  Acts prog 84 #[.agg #[.bool (decide (z<0)),.slice p n c]] V fun r V'=>RQ V' r (z:Rat):=EO z h
theorem eK {V:View}{l:Value}{aD l_1 bO:Int}(hl:RL V l aD l_1 bO){k:Nat}(bj:Sz k ((aD:Int):Rat))(bu:Sz k ((l_1:Int):Rat))(br:Sz k ((bO:Int):Rat))(hk:1*k+1<274877906944) :
  Acts prog 99 #[l] V fun r V'=>RP V' r (((l_1:Int):Rat)) (-(((aD:Int):Rat))):=by
 have hl0:=hl
 obtain ⟨l0,l1,l2,l3,l4,l5,l6,l7,l8,rfl,mN,mO,nU⟩:=hl
 refine zC _ l0 l1 l2 _ l3 l4 l5 _ l6 l7 l8 V _ fun V1 l1=>(aS (mO.le (l1)) bu (by omega)).mono ?_
 rintro r V2 l2 g1
 have g10:=g1
 obtain ⟨KL,KM,KN,UR,US,UT,rfl⟩:=g1.shape
 have aW:Sz (1*k+0) (((l_1:Int):Rat)):=Sz.mono (bu) (by omega)
 refine ⟨_,_,_,_,_,_,_,rfl,fun V3 l3=>(aS (mN.le (l1.trans (l2.trans (l3)))) bj (by omega)).mono ?_⟩
 rintro r V4 l4 g2
 have g20:=g2
 obtain ⟨H9,H_,Ia,PU,PV,PW,rfl⟩:=g2.shape
 have bz:Sz (1*k+0) (((aD:Int):Rat)):=Sz.mono (bj) (by omega)
 refine ⟨_,_,_,_,_,_,_,rfl,fun V5 l5=>(sJ (g20.le (l5)) bz (by omega)).mono ?_⟩
 rintro r V6 l6 g3
 have oQ:=g3
 obtain ⟨JV,JW,JX,PX,PY,PZ,rfl⟩:=g3.shape
 have cF:Sz (1*k+0) (-(((aD:Int):Rat))):=Sz.mono (Sz.neg bz) (by omega)
 exact ⟨_,_,_,_,_,_,_,rfl,fun V7 l7=>⟨_,_,_,_,_,_,_,_,_,_,_,_,rfl,(g10.le (l3.trans (l4.trans (l5.trans (l6.trans (l7)))))),(oQ.le (l7))⟩⟩
theorem mz {aD:Int}{l_1:Int}{bO:Int}{k:Nat}(bj:Sz k ((aD:Int):Rat))(bu:Sz k ((l_1:Int):Rat))(br:Sz k ((bO:Int):Rat)):Sz (1*k+0) (((l_1:Int):Rat)):=by
 have aW:Sz (1*k+0) (((l_1:Int):Rat)):=Sz.mono (bu) (by omega)
 have bz:Sz (1*k+0) (((aD:Int):Rat)):=Sz.mono (bj) (by omega)
 have cF:Sz (1*k+0) (-(((aD:Int):Rat))):=Sz.mono (Sz.neg bz) (by omega)
 exact Sz.mono aW (by omega)
theorem mB {aD:Int}{l_1:Int}{bO:Int}{k:Nat}(bj:Sz k ((aD:Int):Rat))(bu:Sz k ((l_1:Int):Rat))(br:Sz k ((bO:Int):Rat)):Sz (1*k+0) (-(((aD:Int):Rat))):=by
 have aW:Sz (1*k+0) (((l_1:Int):Rat)):=Sz.mono (bu) (by omega)
 have bz:Sz (1*k+0) (((aD:Int):Rat)):=Sz.mono (bj) (by omega)
 have cF:Sz (1*k+0) (-(((aD:Int):Rat))):=Sz.mono (Sz.neg bz) (by omega)
 exact Sz.mono cF (by omega)
theorem kN {V:View}{p:Value}{cB cC:Rat}{q:Value}{iM iN:Rat}(hp:RP V p cB cC)(hq:RP V q iM iN){k:Nat}(cP:Sz k cB)(cQ:Sz k cC)(ja:Sz k iM)(jc:Sz k iN)(hk:4*k+3<274877906944) :
  Acts prog 128 #[p,q] V fun r V'=>RQ V' r (((cB)*(iM))+((cC)*(iN))):=by
 have hp0:=hp
 obtain ⟨p0,p1,p2,p3,p4,p5,p6,p7,p8,p9,FM,Jn,rfl,pD,pE⟩:=hp
 have hq0:=hq
 obtain ⟨q0,q1,q2,q3,q4,q5,q6,q7,q8,q9,Mb,Xj,rfl,CN,CO⟩:=hq
 refine zD _ p0 p1 p2 p3 p4 p5 _ p6 p7 p8 p9 FM Jn _ q0 q1 q2 q3 q4 q5 _ q6 q7 q8 q9 Mb Xj V _ fun V1 l1=>(aI (pD.le (l1)) (CN.le (l1)) cP ja (by omega)).mono ?_
 rintro r V2 l2 g1
 have g10:=g1
 obtain ⟨KL,KM,KN,UR,US,UT,rfl⟩:=g1.shape
 have aW:Sz (2*k+1) ((cB)*(iM)):=Sz.mono (Sz.mul cP ja) (by omega)
 refine ⟨_,_,_,_,_,_,_,rfl,fun V3 l3=>(aI (pE.le (l1.trans (l2.trans (l3)))) (CO.le (l1.trans (l2.trans (l3)))) cQ jc (by omega)).mono ?_⟩
 rintro r V4 l4 g2
 have g20:=g2
 obtain ⟨H9,H_,Ia,PU,PV,PW,rfl⟩:=g2.shape
 have bz:Sz (2*k+1) ((cC)*(iN)):=Sz.mono (Sz.mul cQ jc) (by omega)
 refine ⟨_,_,_,_,_,_,_,rfl,fun V5 l5=>(eF (g10.le (l3.trans (l4.trans (l5)))) (g20.le (l5)) aW bz (by omega)).mono ?_⟩
 rintro r V6 l6 g3
 have oQ:=g3
 obtain ⟨JV,JW,JX,PX,PY,PZ,rfl⟩:=g3.shape
 have cF:Sz (4*k+3) (((cB)*(iM))+((cC)*(iN))):=Sz.mono (Sz.add aW bz) (by omega)
 exact ⟨_,_,_,_,_,_,_,rfl,fun V7 l7=>(oQ.le (l7))⟩
theorem jh {cB:Rat}{cC:Rat}{iM:Rat}{iN:Rat}{k:Nat}(cP:Sz k cB)(cQ:Sz k cC)(ja:Sz k iM)(jc:Sz k iN):Sz (4*k+3) (((cB)*(iM))+((cC)*(iN))):=by
 have aW:Sz (2*k+1) ((cB)*(iM)):=Sz.mono (Sz.mul cP ja) (by omega)
 have bz:Sz (2*k+1) ((cC)*(iN)):=Sz.mono (Sz.mul cQ jc) (by omega)
 have cF:Sz (4*k+3) (((cB)*(iM))+((cC)*(iN))):=Sz.mono (Sz.add aW bz) (by omega)
 exact Sz.mono cF (by omega)
theorem vA {V:View}{l:Value}{aD l_1 bO:Int}{p:Value}{cB cC:Rat}(hl:RL V l aD l_1 bO)(hp:RP V p cB cC){k:Nat}(bj:Sz k ((aD:Int):Rat))(bu:Sz k ((l_1:Int):Rat))(br:Sz k ((bO:Int):Rat))(cP:Sz k cB)(cQ:Sz k cC)(hk:5*k+4<274877906944) :
  Acts prog 110 #[l,p] V fun r V'=>RQ V' r ((((((aD:Int):Rat))*(cB))+((((l_1:Int):Rat))*(cC)))+(((bO:Int):Rat))):=by
 have hl0:=hl
 obtain ⟨l0,l1,l2,l3,l4,l5,l6,l7,l8,rfl,mN,mO,nU⟩:=hl
 have hp0:=hp
 obtain ⟨p0,p1,p2,p3,p4,p5,p6,p7,p8,p9,FM,Jn,rfl,pD,pE⟩:=hp
 refine uW _ l0 l1 l2 _ l3 l4 l5 _ l6 l7 l8 _ p0 p1 p2 p3 p4 p5 _ p6 p7 p8 p9 FM Jn V _ fun V1 l1=>(aS (mN.le (l1)) bj (by omega)).mono ?_
 rintro r V2 l2 g1
 have g10:=g1
 obtain ⟨KL,KM,KN,UR,US,UT,rfl⟩:=g1.shape
 have aW:Sz (1*k+0) (((aD:Int):Rat)):=Sz.mono (bj) (by omega)
 refine ⟨_,_,_,_,_,_,_,rfl,fun V3 l3=>(aI (g10.le (l3)) (pD.le (l1.trans (l2.trans (l3)))) aW cP (by omega)).mono ?_⟩
 rintro r V4 l4 g2
 have g20:=g2
 obtain ⟨H9,H_,Ia,PU,PV,PW,rfl⟩:=g2.shape
 have bz:Sz (2*k+1) ((((aD:Int):Rat))*(cB)):=Sz.mono (Sz.mul aW cP) (by omega)
 refine ⟨_,_,_,_,_,_,_,rfl,fun V5 l5=>(aS (mO.le (l1.trans (l2.trans (l3.trans (l4.trans (l5)))))) bu (by omega)).mono ?_⟩
 rintro r V6 l6 g3
 have oQ:=g3
 obtain ⟨JV,JW,JX,PX,PY,PZ,rfl⟩:=g3.shape
 have cF:Sz (1*k+0) (((l_1:Int):Rat)):=Sz.mono (bu) (by omega)
 refine ⟨_,_,_,_,_,_,_,rfl,fun V7 l7=>(aI (oQ.le (l7)) (pE.le (l1.trans (l2.trans (l3.trans (l4.trans (l5.trans (l6.trans (l7)))))))) cF cQ (by omega)).mono ?_⟩
 rintro r V8 l8 g4
 have Il:=g4
 obtain ⟨SR,SS,SU,UU,UW,UX,rfl⟩:=g4.shape
 have jN:Sz (2*k+1) ((((l_1:Int):Rat))*(cC)):=Sz.mono (Sz.mul cF cQ) (by omega)
 refine ⟨_,_,_,_,_,_,_,rfl,fun V9 l9=>(eF (g20.le (l5.trans (l6.trans (l7.trans (l8.trans (l9)))))) (Il.le (l9)) bz jN (by omega)).mono ?_⟩
 rintro r V10 l10 g5
 have IU:=g5
 obtain ⟨XV,XW,XX,XY,XZ,X0,rfl⟩:=g5.shape
 have va:Sz (4*k+3) (((((aD:Int):Rat))*(cB))+((((l_1:Int):Rat))*(cC))):=Sz.mono (Sz.add bz jN) (by omega)
 refine ⟨_,_,_,_,_,_,_,rfl,fun V11 l11=>(aS (nU.le (l1.trans (l2.trans (l3.trans (l4.trans (l5.trans (l6.trans (l7.trans (l8.trans (l9.trans (l10.trans (l11)))))))))))) br (by omega)).mono ?_⟩
 rintro r V12 l12 g6
 have Lg:=g6
 obtain ⟨X1,X2,X4,X5,X6,X9,rfl⟩:=g6.shape
 have Ic:Sz (1*k+0) (((bO:Int):Rat)):=Sz.mono (br) (by omega)
 refine ⟨_,_,_,_,_,_,_,rfl,fun V13 l13=>(eF (IU.le (l11.trans (l12.trans (l13)))) (Lg.le (l13)) va Ic (by omega)).mono ?_⟩
 rintro r V14 dA g7
 have Lh:=g7
 obtain ⟨X_,Ya,Yb,Yc,Yd,Ye,rfl⟩:=g7.shape
 have SX:Sz (5*k+4) ((((((aD:Int):Rat))*(cB))+((((l_1:Int):Rat))*(cC)))+(((bO:Int):Rat))):=Sz.mono (Sz.add va Ic) (by omega)
 exact ⟨_,_,_,_,_,_,_,rfl,fun V15 dS=>(Lh.le (dS))⟩
theorem vx {V:View}{l:Value}{aD l_1 bO:Int}{p:Value}{cB cC:Rat}(hl:RL V l aD l_1 bO)(hp:RP V p cB cC)(hd0:((((((l_1:Int):Rat)))*((((l_1:Int):Rat))))+(((-(((aD:Int):Rat))))*((-(((aD:Int):Rat)))))).num≠0){k:Nat}(bj:Sz k ((aD:Int):Rat))(bu:Sz k ((l_1:Int):Rat))(br:Sz k ((bO:Int):Rat))(cP:Sz k cB)(cQ:Sz k cC)(hk:8*k+7<274877906944) :
  Acts prog 140 #[l,p] V fun r V'=>RQ V' r ((((cB)*((((l_1:Int):Rat))))+((cC)*((-(((aD:Int):Rat))))))*((((((l_1:Int):Rat)))*((((l_1:Int):Rat))))+(((-(((aD:Int):Rat))))*((-(((aD:Int):Rat))))))⁻¹):=by
 have hl0:=hl
 obtain ⟨l0,l1,l2,l3,l4,l5,l6,l7,l8,rfl,mN,mO,nU⟩:=hl
 have hp0:=hp
 obtain ⟨p0,p1,p2,p3,p4,p5,p6,p7,p8,p9,FM,Jn,rfl,pD,pE⟩:=hp
 refine uS _ l0 l1 l2 _ l3 l4 l5 _ l6 l7 l8 _ p0 p1 p2 p3 p4 p5 _ p6 p7 p8 p9 FM Jn V _ fun V1 l1=>(eK (hl0.le (l1)) (Sz.mono bj (by omega):Sz (1*k+0) _) (Sz.mono bu (by omega):Sz (1*k+0) _) (Sz.mono br (by omega):Sz (1*k+0) _) (by omega)).mono ?_
 rintro r V2 l2 g1
 have g10:=g1
 obtain ⟨JP,JQ,JR,JS,JT,JU,SM,SN,SO,SP,Pg,Ph,rfl,IP,IQ⟩:=g1
 have aW:Sz (1*k+0) (((l_1:Int):Rat)):=Sz.mono ((mz (Sz.mono bj (by omega):Sz (1*k+0) _) (Sz.mono bu (by omega):Sz (1*k+0) _) (Sz.mono br (by omega):Sz (1*k+0) _))) (by omega)
 have cx:Sz (1*k+0) (-(((aD:Int):Rat))):=Sz.mono ((mB (Sz.mono bj (by omega):Sz (1*k+0) _) (Sz.mono bu (by omega):Sz (1*k+0) _) (Sz.mono br (by omega):Sz (1*k+0) _))) (by omega)
 refine ⟨_,_,_,_,_,_,_,_,_,_,_,_,_,_,rfl,fun V3 l3=>(kN (hp0.le (l1.trans (l2.trans (l3)))) (g10.le (l3)) (Sz.mono cP (by omega):Sz (1*k+0) _) (Sz.mono cQ (by omega):Sz (1*k+0) _) (Sz.mono aW (by omega):Sz (1*k+0) _) (Sz.mono cx (by omega):Sz (1*k+0) _) (by omega)).mono ?_⟩
 rintro r V4 l4 g2
 have g20:=g2
 obtain ⟨H9,H_,Ia,PU,PV,PW,rfl⟩:=g2.shape
 have bz:Sz (4*k+3) (((cB)*((((l_1:Int):Rat))))+((cC)*((-(((aD:Int):Rat)))))):=Sz.mono ((jh (Sz.mono cP (by omega):Sz (1*k+0) _) (Sz.mono cQ (by omega):Sz (1*k+0) _) (Sz.mono aW (by omega):Sz (1*k+0) _) (Sz.mono cx (by omega):Sz (1*k+0) _))) (by omega)
 refine ⟨_,_,_,_,_,_,_,rfl,fun V5 l5=>(kN (g10.le (l3.trans (l4.trans (l5)))) (g10.le (l3.trans (l4.trans (l5)))) (Sz.mono aW (by omega):Sz (1*k+0) _) (Sz.mono cx (by omega):Sz (1*k+0) _) (Sz.mono aW (by omega):Sz (1*k+0) _) (Sz.mono cx (by omega):Sz (1*k+0) _) (by omega)).mono ?_⟩
 rintro r V6 l6 g3
 have oQ:=g3
 obtain ⟨JV,JW,JX,PX,PY,PZ,rfl⟩:=g3.shape
 have cF:Sz (4*k+3) ((((((l_1:Int):Rat)))*((((l_1:Int):Rat))))+(((-(((aD:Int):Rat))))*((-(((aD:Int):Rat)))))):=Sz.mono ((jh (Sz.mono aW (by omega):Sz (1*k+0) _) (Sz.mono cx (by omega):Sz (1*k+0) _) (Sz.mono aW (by omega):Sz (1*k+0) _) (Sz.mono cx (by omega):Sz (1*k+0) _))) (by omega)
 refine ⟨_,_,_,_,_,_,_,rfl,fun V7 l7=>(j9 (g20.le (l5.trans (l6.trans (l7)))) (oQ.le (l7)) hd0 bz cF (by omega)).mono ?_⟩
 rintro r V8 l8 g4
 have Il:=g4
 obtain ⟨SR,SS,SU,UU,UW,UX,rfl⟩:=g4.shape
 have jN:Sz (8*k+7) ((((cB)*((((l_1:Int):Rat))))+((cC)*((-(((aD:Int):Rat))))))*((((((l_1:Int):Rat)))*((((l_1:Int):Rat))))+(((-(((aD:Int):Rat))))*((-(((aD:Int):Rat))))))⁻¹):=Sz.mono (Sz.mul bz (fq cF)) (by omega)
 exact ⟨_,_,_,_,_,_,_,rfl,fun V9 l9=>(Il.le (l9))⟩
theorem yl {V:View}{l:Value}{aD l_1 bO:Int}(hl:RL V l aD l_1 bO)(hd0:((((((l_1:Int):Rat)))*((((l_1:Int):Rat))))+(((-(((aD:Int):Rat))))*((-(((aD:Int):Rat)))))).num≠0){k:Nat}(bj:Sz k ((aD:Int):Rat))(bu:Sz k ((l_1:Int):Rat))(br:Sz k ((bO:Int):Rat))(hk:6*k+5<274877906944) :
  Acts prog 80 #[l] V fun r V'=>RP V' r ((-((((bO:Int):Rat))*((((((l_1:Int):Rat)))*((((l_1:Int):Rat))))+(((-(((aD:Int):Rat))))*((-(((aD:Int):Rat))))))⁻¹))*(((aD:Int):Rat))) ((-((((bO:Int):Rat))*((((((l_1:Int):Rat)))*((((l_1:Int):Rat))))+(((-(((aD:Int):Rat))))*((-(((aD:Int):Rat))))))⁻¹))*(((l_1:Int):Rat))):=by
 have hl0:=hl
 obtain ⟨l0,l1,l2,l3,l4,l5,l6,l7,l8,rfl,mN,mO,nU⟩:=hl
 refine wc _ l0 l1 l2 _ l3 l4 l5 _ l6 l7 l8 V _ fun V1 l1=>(eK (hl0.le (l1)) (Sz.mono bj (by omega):Sz (1*k+0) _) (Sz.mono bu (by omega):Sz (1*k+0) _) (Sz.mono br (by omega):Sz (1*k+0) _) (by omega)).mono ?_
 rintro r V2 l2 g1
 have g10:=g1
 obtain ⟨JP,JQ,JR,JS,JT,JU,SM,SN,SO,SP,Pg,Ph,rfl,IP,IQ⟩:=g1
 have aW:Sz (1*k+0) (((l_1:Int):Rat)):=Sz.mono ((mz (Sz.mono bj (by omega):Sz (1*k+0) _) (Sz.mono bu (by omega):Sz (1*k+0) _) (Sz.mono br (by omega):Sz (1*k+0) _))) (by omega)
 have cx:Sz (1*k+0) (-(((aD:Int):Rat))):=Sz.mono ((mB (Sz.mono bj (by omega):Sz (1*k+0) _) (Sz.mono bu (by omega):Sz (1*k+0) _) (Sz.mono br (by omega):Sz (1*k+0) _))) (by omega)
 refine ⟨_,_,_,_,_,_,_,_,_,_,_,_,_,_,rfl,fun V3 l3=>(aS (nU.le (l1.trans (l2.trans (l3)))) br (by omega)).mono ?_⟩
 rintro r V4 l4 g2
 have g20:=g2
 obtain ⟨H9,H_,Ia,PU,PV,PW,rfl⟩:=g2.shape
 have bz:Sz (1*k+0) (((bO:Int):Rat)):=Sz.mono (br) (by omega)
 refine ⟨_,_,_,_,_,_,_,rfl,fun V5 l5=>(kN (g10.le (l3.trans (l4.trans (l5)))) (g10.le (l3.trans (l4.trans (l5)))) (Sz.mono aW (by omega):Sz (1*k+0) _) (Sz.mono cx (by omega):Sz (1*k+0) _) (Sz.mono aW (by omega):Sz (1*k+0) _) (Sz.mono cx (by omega):Sz (1*k+0) _) (by omega)).mono ?_⟩
 rintro r V6 l6 g3
 have oQ:=g3
 obtain ⟨JV,JW,JX,PX,PY,PZ,rfl⟩:=g3.shape
 have cF:Sz (4*k+3) ((((((l_1:Int):Rat)))*((((l_1:Int):Rat))))+(((-(((aD:Int):Rat))))*((-(((aD:Int):Rat)))))):=Sz.mono ((jh (Sz.mono aW (by omega):Sz (1*k+0) _) (Sz.mono cx (by omega):Sz (1*k+0) _) (Sz.mono aW (by omega):Sz (1*k+0) _) (Sz.mono cx (by omega):Sz (1*k+0) _))) (by omega)
 refine ⟨_,_,_,_,_,_,_,rfl,fun V7 l7=>(j9 (g20.le (l5.trans (l6.trans (l7)))) (oQ.le (l7)) hd0 bz cF (by omega)).mono ?_⟩
 rintro r V8 l8 g4
 have Il:=g4
 obtain ⟨SR,SS,SU,UU,UW,UX,rfl⟩:=g4.shape
 have jN:Sz (5*k+4) ((((bO:Int):Rat))*((((((l_1:Int):Rat)))*((((l_1:Int):Rat))))+(((-(((aD:Int):Rat))))*((-(((aD:Int):Rat))))))⁻¹):=Sz.mono (Sz.mul bz (fq cF)) (by omega)
 refine ⟨_,_,_,_,_,_,_,rfl,fun V9 l9=>(sJ (Il.le (l9)) jN (by omega)).mono ?_⟩
 rintro r V10 l10 g5
 have IU:=g5
 obtain ⟨XV,XW,XX,XY,XZ,X0,rfl⟩:=g5.shape
 have va:Sz (5*k+4) (-((((bO:Int):Rat))*((((((l_1:Int):Rat)))*((((l_1:Int):Rat))))+(((-(((aD:Int):Rat))))*((-(((aD:Int):Rat))))))⁻¹)):=Sz.mono (Sz.neg jN) (by omega)
 refine ⟨_,_,_,_,_,_,_,rfl,fun V11 l11=>(aS (mN.le (l1.trans (l2.trans (l3.trans (l4.trans (l5.trans (l6.trans (l7.trans (l8.trans (l9.trans (l10.trans (l11)))))))))))) bj (by omega)).mono ?_⟩
 rintro r V12 l12 g6
 have Lg:=g6
 obtain ⟨X1,X2,X4,X5,X6,X9,rfl⟩:=g6.shape
 have Ic:Sz (1*k+0) (((aD:Int):Rat)):=Sz.mono (bj) (by omega)
 refine ⟨_,_,_,_,_,_,_,rfl,fun V13 l13=>(aI (IU.le (l11.trans (l12.trans (l13)))) (Lg.le (l13)) va Ic (by omega)).mono ?_⟩
 rintro r V14 dA g7
 have Lh:=g7
 obtain ⟨X_,Ya,Yb,Yc,Yd,Ye,rfl⟩:=g7.shape
 have SX:Sz (6*k+5) ((-((((bO:Int):Rat))*((((((l_1:Int):Rat)))*((((l_1:Int):Rat))))+(((-(((aD:Int):Rat))))*((-(((aD:Int):Rat))))))⁻¹))*(((aD:Int):Rat))):=Sz.mono (Sz.mul va Ic) (by omega)
 refine ⟨_,_,_,_,_,_,_,rfl,fun V15 dS=>(aS (mO.le (l1.trans (l2.trans (l3.trans (l4.trans (l5.trans (l6.trans (l7.trans (l8.trans (l9.trans (l10.trans (l11.trans (l12.trans (l13.trans (dA.trans (dS)))))))))))))))) bu (by omega)).mono ?_⟩
 rintro r kG dB g8
 have Nu:=g8
 obtain ⟨YX,YY,YZ,Y0,Y1,Y2,rfl⟩:=g8.shape
 have Pr:Sz (1*k+0) (((l_1:Int):Rat)):=Sz.mono (bu) (by omega)
 refine ⟨_,_,_,_,_,_,_,rfl,fun nD cU=>(aI (IU.le (l11.trans (l12.trans (l13.trans (dA.trans (dS.trans (dB.trans (cU)))))))) (Nu.le (cU)) va Pr (by omega)).mono ?_⟩
 rintro r qN dW g9
 have VZ:=g9
 obtain ⟨Y3,Y4,Y5,Y6,Y7,Y8,rfl⟩:=g9.shape
 have Yg:Sz (6*k+5) ((-((((bO:Int):Rat))*((((((l_1:Int):Rat)))*((((l_1:Int):Rat))))+(((-(((aD:Int):Rat))))*((-(((aD:Int):Rat))))))⁻¹))*(((l_1:Int):Rat))):=Sz.mono (Sz.mul va Pr) (by omega)
 exact ⟨_,_,_,_,_,_,_,rfl,fun rG dX=>⟨_,_,_,_,_,_,_,_,_,_,_,_,rfl,(Lh.le (dS.trans (dB.trans (cU.trans (dW.trans (dX)))))),(VZ.le (dX))⟩⟩
theorem RA.shape {V:View}{v:Value}{q:Rat}(h:RA V v q):∃b p n c p' n' c',v=.agg #[.bool b,.slice p n c,.slice p' n' c']:=by
 obtain ⟨p,n,c,p',n',c',e,-⟩:=h;exact ⟨_,_,_,_,_,_,_,e⟩
def KR (V:View)(v:Value)(x y:Rat):Prop:=∃b p n c p' n' c' d q m e q' m' e',v=.agg #[.bool b,.slice p n c,.slice p' n' c',.bool d,.slice q m e,.slice q' m' e'] /\
 RA V (.agg #[.bool b,.slice p n c,.slice p' n' c']) x/\RA V (.agg #[.bool d,.slice q m e,.slice q' m' e']) y
theorem KR.le {V V':View}{v:Value}{x y:Rat}(h:KR V v x y)(l:V.Le V'):KR V' v x y:=by
 obtain ⟨b,p,n,c,p',n',c',d,q,m,e,q',m',e',rfl,h1,h2⟩:=h
 exact ⟨_,_,_,_,_,_,_,_,_,_,_,_,_,_,rfl,h1.le l,h2.le l⟩
theorem Cq {V:View}{v:Value}{x y:Rat}(h:KR V v x y){k:Nat}(s1:Sz k x)(s2:Sz k y)(hk:k<=1099511627776) :
  Acts prog 51 #[v] V fun r V'=>RPt V' r x y:=by
 obtain ⟨b,p,n,c,p',n',c',d,q,m,e,q',m',e',rfl,h1,h2⟩:=h
 refine qK b p n c p' n' c' d q m e q' m' e' V _ fun V1 l1=>(wT (h1.le l1) s1 hk).mono ?_
 rintro r V2 l2 g1
 have g10:=g1
 obtain ⟨u,v,w,rfl⟩:=g1.shape
 refine ⟨_,_,_,rfl,fun V3 l3=>(wT (h2.le (l1.trans (l2.trans l3))) s2 hk).mono ?_⟩
 rintro r V4 l4 g2
 have g20:=g2
 obtain ⟨u,v,w,rfl⟩:=g2.shape
 exact ⟨_,_,_,rfl,fun V5 l5=>⟨_,_,_,_,_,_,rfl,g10.le (l3.trans (l4.trans l5)),g20.le l5⟩⟩
theorem vk {V:View}{l p:Value}{aD l_1 bO cB cC:Rat}(hl:qM V l aD l_1 bO)(hp:RPt V p cB cC){k:Nat}(s0:Sz k aD)(s1:Sz k l_1)(s2:Sz k bO)(s3:Sz k cB)(s4:Sz k cC)(hk:16*k+16<274877906944) :
  Acts prog 106 #[l,p] V fun r V'=>r=.int .i64 (aD*cB+l_1*cC+bO).num.sign:=by
 have hl0:=hl
 have hp0:=hp
 obtain ⟨a0,a1,a2,a3,a4,a5,a6,a7,a8,rfl,-,-,-⟩:=hl
 obtain ⟨p0,p1,p2,p3,p4,p5,rfl,-,-⟩:=hp
 refine uE a0 a1 a2 a3 a4 a5 a6 a7 a8 p0 p1 p2 p3 p4 p5 V _ fun V1 l1=>(kJ (hl0.le l1) (hp0.le l1) s0 s1 s2 s3 s4 (by omega)).mono ?_
 rintro r V2 l2 g
 have g0:=g
 obtain ⟨u,v,w,rfl⟩:=g.shape
 refine ⟨_,_,_,rfl,fun V3 l3=>(fa (g0.le l3) (jO s0 s1 s2 s3 s4) (by omega)).mono ?_⟩
 rintro r V4 l4 rfl
 exact ⟨_,rfl,fun V5 l5=>rfl⟩
end Go.Proofs.Tryz
namespace Go.Proofs.Tryz
open Go.Eng
set_option maxRecDepth 100000
end Go.Proofs.Tryz
namespace Go.Proofs.Tryz
open Go.Eng Go.Big
theorem yr {V:View}{l p:Value}{aD l_1 bO:Int}{cB cC:Rat}(hl:RL V l aD l_1 bO)(hp:RP V p cB cC){k:Nat}(s0:Sz k ((aD:Int):Rat))(s1:Sz k ((l_1:Int):Rat))(s2:Sz k ((bO:Int):Rat))(s3:Sz k cB)(s4:Sz k cC)(hk:16*k+16<274877906944) :
  Acts prog 58 #[l,p] V fun r V'=>r=.int .i64 ((aD:Rat)*cB+(l_1:Rat)*cC+(bO:Rat)).num.sign:=by
 have hl0:=hl
 have hp0:=hp
 obtain ⟨a0,a1,a2,a3,a4,a5,a6,a7,a8,rfl,-,-,-⟩:=hl
 obtain ⟨p0,p1,p2,p3,p4,p5,p6,p7,p8,p9,FM,Jn,rfl,-,-⟩:=hp
 refine wh _ a0 a1 a2 _ a3 a4 a5 _ a6 a7 a8 _ p0 p1 p2 p3 p4 p5 _ p6 p7 p8 p9 FM Jn V _ fun V1 l1=>(vA (hl0.le l1) (hp0.le l1) s0 s1 s2 s3 s4 (by omega)).mono ?_
 rintro r V2 l2 ⟨u0,u1,u2,u3,u4,u5,rfl,g1,g2⟩
 refine ⟨_,_,_,_,_,_,_,rfl,fun V3 l3=>(rI _ (g1.le l3)).mono ?_⟩
 rintro r V4 l4 rfl
 exact ⟨_,rfl,fun V5 l5=>rfl⟩
theorem c_ref04_Rev {V:View}{l:Value}{a b c:Int}(hl:RL V l a b c):Acts prog 44 #[l] V fun r V'=>RL V' r (-a) (-b) (-c):=by
 obtain ⟨a0,a1,a2,a3,a4,a5,a6,a7,a8,rfl,h1,h2,h3⟩:=hl
 refine zF _ a0 a1 a2 _ a3 a4 a5 _ a6 a7 a8 V _ fun V1 l1=>(fP a (h1.le l1)).mono ?_
 rintro r V2 l2 ⟨p1,n1,c1,rfl,g1⟩
 refine ⟨_,_,_,_,rfl,fun V3 l3=>(fP b (h2.le (l1.trans (l2.trans l3)))).mono ?_⟩
 rintro r V4 l4 ⟨p2,n2,c2,rfl,g2⟩
 refine ⟨_,_,_,_,rfl,fun V5 l5=>(fP c (h3.le (l1.trans (l2.trans (l3.trans (l4.trans l5)))))).mono ?_⟩
 rintro r V6 l6 ⟨p3,n3,c3,rfl,g3⟩
 exact ⟨_,_,_,_,rfl,fun V7 l7=>⟨_,_,_,_,_,_,_,_,_,rfl,g1.le (l3.trans (l4.trans (l5.trans (l6.trans l7)))),g2.le (l5.trans (l6.trans l7)),g3.le l7⟩⟩
end Go.Proofs.Tryz
namespace Go.Eng
open Go.Big
theorem RR.zero (V:View):RR V (.agg #[.int .i64 0,.int .i64 0,.pointer none]) 0:=.inl ⟨rfl,by unfold Wd;decide⟩
end Go.Eng
namespace Go.Proofs.Tryz
open Go.Eng Go.Big
structure Sp where
 lo:Rat
 hi:Rat
 a:Bool
 b:Bool
def Sp.can (s:Sp):Prop:=(s.a=true->s.lo=0)/\(s.b=true->s.hi=0)
def Sp.sz (k:Nat)(s:Sp):Prop:=Sz k s.lo/\Sz k s.hi
def Sp.zero:Sp:=⟨0,0,false,false⟩
def kE (k:Nat)(l:L3):Prop:=Sz k (l.1:Rat)/\Sz k (l.2.1:Rat)/\Sz k (l.2.2:Rat)
def DH (V:View)(v:Value)(s:Sp):Prop:=∃(x1 x2:Int)(p:OA)(y1 y2:Int)(q:OA),v=.agg #[.int .i64 x1,.int .i64 x2,.pointer p,.int .i64 y1,.int .i64 y2,.pointer q,.bool s.a,.bool s.b] /\
 RR V (.agg #[.int .i64 x1,.int .i64 x2,.pointer p]) s.lo/\RR V (.agg #[.int .i64 y1,.int .i64 y2,.pointer q]) s.hi
theorem DH.le {V V':View}{v:Value}{s:Sp}(h:DH V v s)(l:V.Le V'):DH V' v s:=by
 obtain ⟨x1,x2,p,y1,y2,q,e,h1,h2⟩:=h
 exact ⟨x1,x2,p,y1,y2,q,e,h1.le l,h2.le l⟩
def RLi (V:View)(v:Value)(l:L3):Prop:=qM V v (l.1:Rat) (l.2.1:Rat) (l.2.2:Rat)
theorem RLi.le {V V':View}{v:Value}{l:L3}(h:RLi V v l)(e:V.Le V'):RLi V' v l:=qM.le h e
def KU (V:View)(v:Value)(l:L3)(s:Sp):Prop:=∃(x1 x2:Int)(p:OA)(y1 y2:Int)(q:OA)(z1 z2:Int)(r:OA)(u1 u2:Int)(t:OA)(w1 w2:Int)(o:OA),
 v=.agg #[.int .i64 x1,.int .i64 x2,.pointer p,.int .i64 y1,.int .i64 y2,.pointer q,.int .i64 z1,.int .i64 z2,.pointer r,.int .i64 u1,.int .i64 u2,.pointer t,.int .i64 w1,.int .i64 w2,.pointer o,.bool s.a,.bool s.b] /\
 RLi V (.agg #[.int .i64 x1,.int .i64 x2,.pointer p,.int .i64 y1,.int .i64 y2,.pointer q,.int .i64 z1,.int .i64 z2,.pointer r]) l /\
 DH V (.agg #[.int .i64 u1,.int .i64 u2,.pointer t,.int .i64 w1,.int .i64 w2,.pointer o,.bool s.a,.bool s.b]) s
theorem KU.le {V V':View}{v:Value}{l:L3}{s:Sp}(h:KU V v l s)(e:V.Le V'):KU V' v l s:=by
 obtain ⟨x1,x2,p,y1,y2,q,z1,z2,r,u1,u2,t,w1,w2,o,rfl,h1,h2⟩:=h
 exact ⟨x1,x2,p,y1,y2,q,z1,z2,r,u1,u2,t,w1,w2,o,rfl,h1.le e,h2.le e⟩
def Iu (V:View)(v:Value)(b:Bool)(xs ys:List Nat):Prop:=∃p n c p' n' c',v=.agg #[.bool b,.slice p n c,.slice p' n' c']/\RD V p n c xs/\RD V p' n' c' ys
theorem Iu.le {V V':View}{v:Value}{b:Bool}{xs ys:List Nat}(h:Iu V v b xs ys)(l:V.Le V'):Iu V' v b xs ys:=by
 obtain ⟨p,n,c,p',n',c',e,h1,h2⟩:=h;exact ⟨p,n,c,p',n',c',e,h1.le l,h2.le l⟩
theorem Iu.nil {V:View}:Iu V (.agg #[.bool false,.slice none 0 0,.slice none 0 0]) false [] []:=⟨_,_,_,_,_,_,rfl,RD.nil,RD.nil⟩
def RE (V:View)(v:Value)(q:Rat)(no:Bool):Prop:=(no=true->Iu V v false [] [])/\(no=false->RA V v q)
theorem RE.le {V V':View}{v:Value}{q:Rat}{no:Bool}(h:RE V v q no)(l:V.Le V'):RE V' v q no:=⟨fun e=>(h.1 e).le l,fun e=>(h.2 e).le l⟩
theorem RE.shape {V:View}{v:Value}{q:Rat}{no:Bool}(h:RE V v q no):∃b p n c p' n' c',v=.agg #[.bool b,.slice p n c,.slice p' n' c']:=by
 cases no with
 | true=>obtain ⟨_,_,_,_,_,_,e,-⟩:=h.1 rfl;exact ⟨_,_,_,_,_,_,_,e⟩
 | false=>exact (h.2 rfl).shape
def Pv (V:View)(v:Value)(s:Sp):Prop:=∃b p n c p' n' c' d q m e q' m' e',v=.agg #[.bool b,.slice p n c,.slice p' n' c',.bool d,.slice q m e,.slice q' m' e',.bool s.a,.bool s.b] /\
 RE V (.agg #[.bool b,.slice p n c,.slice p' n' c']) s.lo s.a/\RE V (.agg #[.bool d,.slice q m e,.slice q' m' e']) s.hi s.b
theorem Pv.le {V V':View}{v:Value}{s:Sp}(h:Pv V v s)(l:V.Le V'):Pv V' v s:=by
 obtain ⟨b,p,n,c,p',n',c',d,q,m,e,q',m',e',rfl,h1,h2⟩:=h
 exact ⟨_,_,_,_,_,_,_,_,_,_,_,_,_,_,rfl,h1.le l,h2.le l⟩
def Mx (V:View)(v:Value)(l:L3)(s:Sp):Prop:=∃b1 p1 n1 c1 b2 p2 n2 c2 b3 p3 n3 c3 b p n c p' n' c' d q m e q' m' e',
 v=.agg #[.bool b1,.slice p1 n1 c1,.bool b2,.slice p2 n2 c2,.bool b3,.slice p3 n3 c3,.bool b,.slice p n c,.slice p' n' c',.bool d,.slice q m e,.slice q' m' e',.bool s.a,.bool s.b] /\
 RL V (.agg #[.bool b1,.slice p1 n1 c1,.bool b2,.slice p2 n2 c2,.bool b3,.slice p3 n3 c3]) l.1 l.2.1 l.2.2/\Pv V (.agg #[.bool b,.slice p n c,.slice p' n' c',.bool d,.slice q m e,.slice q' m' e',.bool s.a,.bool s.b]) s
theorem Mx.le {V V':View}{v:Value}{l:L3}{s:Sp}(h:Mx V v l s)(e:V.Le V'):Mx V' v l s:=by
 obtain ⟨b1,p1,n1,c1,b2,p2,n2,c2,b3,p3,n3,c3,b,p,n,c,p',n',c',d,q,m,f,q',m',f',rfl,h1,h2⟩:=h
 exact ⟨_,_,_,_,_,_,_,_,_,_,_,_,_,_,_,_,_,_,_,_,_,_,_,_,_,_,rfl,h1.le e,h2.le e⟩
def DI (V:View)(v:Value)(s:Sp):Prop:=∃b p n c p' n' c' d q m e q' m' e',v=.agg #[.bool b,.slice p n c,.slice p' n' c',.bool d,.slice q m e,.slice q' m' e',.bool s.a,.bool s.b] /\
 RQ V (.agg #[.bool b,.slice p n c,.slice p' n' c']) s.lo/\RQ V (.agg #[.bool d,.slice q m e,.slice q' m' e']) s.hi
theorem DI.le {V V':View}{v:Value}{s:Sp}(h:DI V v s)(l:V.Le V'):DI V' v s:=by
 obtain ⟨b,p,n,c,p',n',c',d,q,m,e,q',m',e',rfl,h1,h2⟩:=h
 exact ⟨_,_,_,_,_,_,_,_,_,_,_,_,_,_,rfl,h1.le l,h2.le l⟩
def RF (V:View)(v:Value)(l:L3)(s:Sp):Prop:=∃b1 p1 n1 c1 b2 p2 n2 c2 b3 p3 n3 c3 b p n c p' n' c' d q m e q' m' e',
 v=.agg #[.bool b1,.slice p1 n1 c1,.bool b2,.slice p2 n2 c2,.bool b3,.slice p3 n3 c3,.bool b,.slice p n c,.slice p' n' c',.bool d,.slice q m e,.slice q' m' e',.bool s.a,.bool s.b] /\
 RL V (.agg #[.bool b1,.slice p1 n1 c1,.bool b2,.slice p2 n2 c2,.bool b3,.slice p3 n3 c3]) l.1 l.2.1 l.2.2/\DI V (.agg #[.bool b,.slice p n c,.slice p' n' c',.bool d,.slice q m e,.slice q' m' e',.bool s.a,.bool s.b]) s
theorem RF.le {V V':View}{v:Value}{l:L3}{s:Sp}(h:RF V v l s)(e:V.Le V'):RF V' v l s:=by
 obtain ⟨b1,p1,n1,c1,b2,p2,n2,c2,b3,p3,n3,c3,b,p,n,c,p',n',c',d,q,m,f,q',m',f',rfl,h1,h2⟩:=h
 exact ⟨_,_,_,_,_,_,_,_,_,_,_,_,_,_,_,_,_,_,_,_,_,_,_,_,_,_,rfl,h1.le e,h2.le e⟩
def aj (l:L3)(x y:Rat):Rat:=(l.1:Rat)*x+(l.2.1:Rat)*y+(l.2.2:Rat)
def fB (l:L3):Rat:=(l.1:Rat)*(l.1:Rat)+(l.2.1:Rat)*(l.2.1:Rat)
def yS (l:L3)(x y:Rat):Rat:=((l.2.1:Rat)*x-(l.1:Rat)*y)*(fB l)⁻¹
def gM (l:L3)(t:Rat):Rat:=(l.2.1:Rat)*t-(l.1:Rat)*(l.2.2:Rat)*(fB l)⁻¹
def im (l:L3)(t:Rat):Rat:=-((l.1:Rat)*t)-(l.2.1:Rat)*(l.2.2:Rat)*(fB l)⁻¹
def revL (l:L3):L3:=(-l.1,-l.2.1,-l.2.2)
def Sp.neg (s:Sp):Sp:=⟨if s.b then 0 else -s.hi,if s.a then 0 else -s.lo,s.b,s.a⟩
def Sp.emp (s:Sp):Bool:=!s.a&&!s.b&&decide (eG s.lo s.hi≥0)
def Nz (l:L3):Prop:=¬(l.1=0/\l.2.1=0)
theorem sq_nonneg (x:Int):0<=x*x:=by
 rw [←Int.natAbs_mul_self];exact Int.natCast_nonneg _
theorem Hf (l:L3):fB l=((l.1*l.1+l.2.1*l.2.1:Int):Rat):=by unfold fB;simp
theorem Nz.norm {l:L3}(h:Nz l):fB l≠0:=by
 rw [Hf]
 have h1:=sq_nonneg l.1
 have h2:=sq_nonneg l.2.1
 have h3:l.1*l.1+l.2.1*l.2.1≠0:=by
  intro e
  have e1:l.1*l.1=0:=by omega
  have e2:l.2.1*l.2.1=0:=by omega
  exact h ⟨(Int.mul_eq_zero.1 e1).elim id id,(Int.mul_eq_zero.1 e2).elim id id⟩
 exact_mod_cast h3
theorem Hh {q:Rat}(h:q≠0):q.num≠0:=fun e=>h (Rat.num_eq_zero.1 e)
theorem Ru {V:View}{l t:Value}{L:L3}{x:Rat}(hl:RLi V l L)(ht:RR V t x){k:Nat}(sl:kE k L)(s1:Sz k x)(hk:20*k+19<274877906944) :
  Acts prog 210 #[l,t] V fun r V'=>RPt V' r (gM L x) (im L x):=by
 refine (Ad hl ht sl.1 sl.2.1 sl.2.2 s1 hk).mono ?_
 rintro r V2 l2 g
 have e1:gM L x=((L.1:Rat)*((-(L.2.2:Rat))*((L.1:Rat)*(L.1:Rat)+(L.2.1:Rat)*(L.2.1:Rat))⁻¹))+((L.2.1:Rat)*x):=by unfold gM fB;grind
 have e2:im L x=((L.2.1:Rat)*((-(L.2.2:Rat))*((L.1:Rat)*(L.1:Rat)+(L.2.1:Rat)*(L.2.1:Rat))⁻¹))+((-(L.1:Rat))*x):=by unfold im fB;grind
 rw [e1,e2];exact g
theorem H0 {L:L3}{x:Rat}{k:Nat}(sl:kE k L)(s1:Sz k x):Sz (20*k+19) (gM L x):=by
 have e1:gM L x=((L.1:Rat)*((-(L.2.2:Rat))*((L.1:Rat)*(L.1:Rat)+(L.2.1:Rat)*(L.2.1:Rat))⁻¹))+((L.2.1:Rat)*x):=by unfold gM fB;grind
 rw [e1];exact wA sl.1 sl.2.1 sl.2.2 s1
theorem H2 {L:L3}{x:Rat}{k:Nat}(sl:kE k L)(s1:Sz k x):Sz (20*k+19) (im L x):=by
 have e2:im L x=((L.2.1:Rat)*((-(L.2.2:Rat))*((L.1:Rat)*(L.1:Rat)+(L.2.1:Rat)*(L.2.1:Rat))⁻¹))+((-(L.1:Rat))*x):=by unfold im fB;grind
 rw [e2];exact wB sl.1 sl.2.1 sl.2.2 s1
theorem oA (q:Rat):q.num.sign=0↔q=0:=by rw [Int.sign_eq_zero_iff_zero,Rat.num_eq_zero]
theorem LH {V:View}{l p:Value}{L:L3}{x y:Rat}(hl:RLi V l L)(hp:RPt V p x y){k:Nat}(sl:kE k L)(s1:Sz k x)(s2:Sz k y)(hk:16*k+16<274877906944) :
  Acts prog 106 #[l,p] V fun r V'=>r=.int .i64 (aj L x y).num.sign:=vk hl hp sl.1 sl.2.1 sl.2.2 s1 s2 hk
theorem k_Reverse {V:View}{l:Value}{L:L3}(hl:RLi V l L){k:Nat}(sl:kE k L)(hk:1*k+1<274877906944) :
  Acts prog 198 #[l] V fun r V'=>RLi V' r (revL L):=by
 refine (oX hl sl.1 sl.2.1 sl.2.2 hk).mono ?_
 rintro r V2 l2 g
 unfold RLi revL
 simpa using g
theorem kE.rev {k:Nat}{L:L3}(h:kE k L):kE k (revL L):=by
 unfold kE revL
 simp only [Rat.intCast_neg]
 exact ⟨h.1.neg,h.2.1.neg,h.2.2.neg⟩
theorem HE {L:L3}(h:Nz L):((((((L.2.1:Int):Rat)))*((((L.2.1:Int):Rat))))+(((-(((L.1:Int):Rat))))*((-(((L.1:Int):Rat)))))).num≠0:=by
 have:(((((L.2.1:Int):Rat)))*((((L.2.1:Int):Rat))))+(((-(((L.1:Int):Rat))))*((-(((L.1:Int):Rat)))))=fB L:=by unfold fB;grind
 rw [this]
 exact Hh h.norm
theorem Jt {V:View}{l p:Value}{L:L3}{x y:Rat}(hl:RL V l L.1 L.2.1 L.2.2)(hp:RP V p x y)(hz:Nz L){k:Nat}(sl:kE k L)(s1:Sz k x)(s2:Sz k y)(hk:8*k+7<274877906944) :
  Acts prog 140 #[l,p] V fun r V'=>RQ V' r (yS L x y):=by
 refine (vx hl hp (HE hz) sl.1 sl.2.1 sl.2.2 s1 s2 hk).mono ?_
 rintro r V2 l2 g
 have e:yS L x y=((((x)*((((L.2.1:Int):Rat))))+((y)*((-(((L.1:Int):Rat))))))*((((((L.2.1:Int):Rat)))*((((L.2.1:Int):Rat))))+(((-(((L.1:Int):Rat))))*((-(((L.1:Int):Rat))))))⁻¹):=by
  unfold yS fB;grind
 rw [e];exact g
theorem Me {V:View}{l p:Value}{L:L3}{x y:Rat}(hl:RL V l L.1 L.2.1 L.2.2)(hp:RP V p x y){k:Nat}(sl:kE k L)(s1:Sz k x)(s2:Sz k y)(hk:16*k+16<274877906944) :
  Acts prog 58 #[l,p] V fun r V'=>r=.int .i64 (aj L x y).num.sign:=yr hl hp sl.1 sl.2.1 sl.2.2 s1 s2 hk
structure P8 (V:View) (vs:List Value) (i:Int) (f a b c:Rat):Prop where
 h0:0<=i
 h3:i<=3
 row:∃(x1 x2:Int)(p:OA)(y1 y2:Int)(q:OA)(z1 z2:Int)(r:OA),vs=[.int .i64 x1,.int .i64 x2,.pointer p,.int .i64 y1,.int .i64 y2,.pointer q,.int .i64 z1,.int .i64 z2,.pointer r] /\
  RR V (.agg #[.int .i64 x1,.int .i64 x2,.pointer p]) (if 0<i then a*f else a)/\RR V (.agg #[.int .i64 y1,.int .i64 y2,.pointer q]) (if 1<i then b*f else b)/\RR V (.agg #[.int .i64 z1,.int .i64 z2,.pointer r]) (if 2<i then c*f else c)
theorem P8.le {V V':View}{vs:List Value}{i:Int}{f a b c:Rat}(h:P8 V vs i f a b c)(l:V.Le V'):P8 V' vs i f a b c:=by
 obtain ⟨h0,h3,x1,x2,p,y1,y2,q,z1,z2,r,e,g1,g2,g3⟩:=h
 exact ⟨h0,h3,x1,x2,p,y1,y2,q,z1,z2,r,e,g1.le l,g2.le l,g3.le l⟩
def Mf (b:Bool)(xs ys:List Nat):Rat:=mkRat (aQ b xs) (val ys)
def LS (b:Bool)(xs ys:List Nat):Bool:=kz b xs&&decide (af (val ys)=ys)&&!decide (ys=[])&&decide (Nat.gcd (val xs) (val ys)=1)
def SY (b:Bool)(xs ys:List Nat):Bool:=!b&&decide (xs=[])&&decide (ys=[])
def La (b:Bool)(xs ys:List Nat)(no:Bool):Rat:=if no then 0 else Mf b xs ys
def Gr (b:Bool)(xs ys:List Nat)(no:Bool):Bool:=if no then SY b xs ys else LS b xs ys
theorem D9 {q:Rat}:LS (decide (q.num<0)) (af q.num.natAbs) (af q.den)=true/\Mf (decide (q.num<0)) (af q.num.natAbs) (af q.den)=q:=by
 constructor
 ·unfold LS
  have h1:kz (decide (q.num<0)) (af q.num.natAbs)=true:=by
   unfold kz
   rw [ab]
   by_cases h:q.num<0
   ·have:af q.num.natAbs≠[]:=fun e=>by have:=bo.1 e;omega
    simp [h,this]
   ·simp [h]
  have h2:af q.den≠[]:=fun e=>q.den_nz (bo.1 e)
  rw [h1,ab,ab]
  simp [h2,q.reduced]
 ·unfold Mf
  rw [aA,ab,Rat.mkRat_self]
theorem Cm {V:View}{v:Value}{s:Sp}(h:DH V v s){k:Nat}(hs:s.sz k)(hk:2*k<1099511627776) :
  Acts prog 202 #[v] V fun r V'=>r=.bool s.emp:=by
 obtain ⟨x1,x2,p,y1,y2,q,rfl,h1,h2⟩:=h
 refine qZ x1 x2 p y1 y2 q s.a s.b V _ ⟨fun ha=>⟨fun hb V1 l1=>(jT (h1.le l1) (h2.le l1) hs.1 hs.2 (by omega)).mono ?_,fun hb V4 l4=>?_⟩,fun ha V5 l5=>?_⟩
 ·rintro r V2 l2 rfl
  exact ⟨_,rfl,fun V3 l3=>by rw [Bool.not_eq_true'] at ha hb;simp [Sp.emp,ha,hb]⟩
 ·rw [Bool.not_eq_false'] at hb;simp [Sp.emp,hb]
 ·rw [Bool.not_eq_false'] at ha;simp [Sp.emp,ha]
def Pw (V:View)(v:Value)(b1:Bool)(JZ J1:List Nat)(b2:Bool)(J0 J3:List Nat)(na nb:Bool):Prop:=∃p n c p' n' c' q m e q' m' e',v=.agg #[.bool b1,.slice p n c,.slice p' n' c',.bool b2,.slice q m e,.slice q' m' e',.bool na,.bool nb] /\
 Iu V (.agg #[.bool b1,.slice p n c,.slice p' n' c']) b1 JZ J1/\Iu V (.agg #[.bool b2,.slice q m e,.slice q' m' e']) b2 J0 J3
theorem Pw.le {V V':View}{v:Value}{b1:Bool}{JZ J1:List Nat}{b2:Bool}{J0 J3:List Nat}{na nb:Bool}(h:Pw V v b1 JZ J1 b2 J0 J3 na nb)(l:V.Le V'):Pw V' v b1 JZ J1 b2 J0 J3 na nb:=by
 obtain ⟨p,n,c,p',n',c',q,m,e,q',m',e',rfl,h1,h2⟩:=h
 exact ⟨_,_,_,_,_,_,_,_,_,_,_,_,rfl,h1.le l,h2.le l⟩
def O_ (b1:Bool)(JZ J1:List Nat)(b2:Bool)(J0 J3:List Nat)(na nb:Bool):Sp:=⟨La b1 JZ J1 na,La b2 J0 J3 nb,na,nb⟩
def okW (b1:Bool)(JZ J1:List Nat)(b2:Bool)(J0 J3:List Nat)(na nb:Bool):Bool:=Gr b1 JZ J1 na&&Gr b2 J0 J3 nb&&!(O_ b1 JZ J1 b2 J0 J3 na nb).emp
def U3 (l:L3)(s:Sp):Prop:=okL l=true/\s.can/\s.emp=false
theorem RE.raw {V:View}{v:Value}{q:Rat}{no:Bool}(h:RE V v q no)(hc:no=true->q=0):∃b xs ys,Iu V v b xs ys/\Gr b xs ys no=true/\La b xs ys no=q/\(∀k,Sz k q->xs.length<=k/\ys.length<=k):=by
 cases no with
 | true=>
  exact ⟨false,[],[],h.1 rfl,rfl,by rw [hc rfl];rfl,fun k _=>⟨Nat.zero_le _,Nat.zero_le _⟩⟩
 | false=>
  obtain ⟨p,n,c,p',n',c',rfl,h1,h2⟩:=h.2 rfl
  exact ⟨_,_,_,⟨_,_,_,_,_,_,rfl,h1,h2⟩,D9.1,D9.2,fun k hk=>⟨ae hk.1,ae hk.2⟩⟩
theorem RLi.api {V:View}{r:Value}{l:L3}(h:RL V r ((l.1:Rat)).num ((l.2.1:Rat)).num ((l.2.2:Rat)).num):RL V r l.1 l.2.1 l.2.2:=by
 simpa [Rat.num_intCast] using h
theorem LZ {l:L3}(h:okL l=true):Nz l:=by
 unfold okL at h
 intro e
 simp [e.1,e.2] at h
def AR (x y:Rat):Rat:=if 0<eG y x then y else x
def AW (x y:Rat):Rat:=if eG y x<0 then y else x
theorem lN (x y:Rat):(x<y/\eG x y=-1)\/(x=y/\eG x y=0)\/(y<x/\eG x y=1):=by
 by_cases h1:x<y
 ·exact .inl ⟨h1,yy.1 h1⟩
 ·by_cases h2:x=y
  ·exact .inr (.inl ⟨h2,iD.1 h2⟩)
  ·have h3:y<x:=by grind
   exact .inr (.inr ⟨h3,rJ.1 h3⟩)
theorem Sp.kc {s:Sp}:s.emp=false↔(s.a=true\/s.b=true\/s.lo<s.hi):=by
 unfold Sp.emp
 rcases lN s.lo s.hi with ⟨h,e⟩|⟨h,e⟩|⟨h,e⟩<;>rw [e]<;>cases s.a<;>cases s.b<;>simp<;>grind
def Sp.meet (v w:Sp):Sp:=⟨if v.a then w.lo else if w.a then v.lo else AR v.lo w.lo,if v.b then w.hi else if w.b then v.hi else AW v.hi w.hi,if v.a then w.a else false,if v.b then w.b else false⟩
theorem Sp.AU {v w:Sp}(h1:v.can)(h2:w.can):(v.meet w).can:=by
 unfold Sp.meet
 constructor<;>dsimp only
 ·cases hv:v.a with
  | false=>intro h;cases h
  | true=>exact fun h=>h2.1 h
 ·cases hv:v.b with
  | false=>intro h;cases h
  | true=>exact fun h=>h2.2 h
def Sp.df (s:Sp):Rat:=if s.a then (if s.b then 0 else s.hi-((1:Int):Rat)) else if s.b then s.lo+((1:Int):Rat) else (s.lo+s.hi)*((2:Int):Rat)⁻¹
theorem Sp.Eh {s:Sp}(h:s.emp=false):(s.a=false->s.lo<s.df)/\(s.b=false->s.df<s.hi):=by
 rw [Sp.kc] at h
 unfold Sp.df
 cases ha:s.a<;>cases hb:s.b<;>simp [ha,hb] at h⊢<;> grind
def dw (m l:L3):Rat:=((m.1:Rat)*(l.2.1:Rat))+((m.2.1:Rat)*(-(l.1:Rat)))
def jn (m l:L3):Rat:=aj m (gM l 0) (im l 0)
theorem uy (m l:L3)(t:Rat):aj m (gM l t) (im l t)=jn m l+dw m l*t:=by
 unfold jn aj dw gM im;grind
def dv (m l:L3):Rat:=-(jn m l*(dw m l)⁻¹)
def cM (l:L3)(s:Sp)(m:L3):Sp:=
 if (dw m l).num.sign==0 then s else if (dw m l).num.sign==1 then s.meet ⟨dv m l,0,false,true⟩ else s.meet ⟨0,dv m l,true,false⟩
def dh (l:L3)(s:Sp)(m:L3):Bool:=
 if (dw m l).num.sign==0 then decide ((jn m l).num.sign>0) else !(cM l s m).emp
theorem lU (q:Rat):(q=0/\q.num.sign=0)\/(0<q/\q.num.sign=1)\/(q<0/\q.num.sign=-1):=by
 have h1:=@A6 q
 have h2:=@A7 q
 have h3:=@Rat.num_eq_zero q
 rcases Int.lt_trichotomy q.num 0 with h|h|h
 ·exact .inr (.inr ⟨h1.1 h,Int.sign_eq_neg_one_of_neg h⟩)
 ·exact .inl ⟨h3.1 h,by rw [h];rfl⟩
 ·exact .inr (.inl ⟨h2.1 h,Int.sign_eq_one_of_pos h⟩)
theorem Gj {l:L3}{s:Sp}{m:L3}(he:s.emp=false)(hb:dh l s m=true):(cM l s m).emp=false:=by
 unfold dh at hb
 split at hb
 ·rename_i h
  unfold cM
  rw [if_pos h];exact he
 ·simpa using hb
theorem Gk {l:L3}{s:Sp}{m:L3}(hc:s.can):(cM l s m).can:=by
 unfold cM
 split
 ·exact hc
 ·split
  ·exact Sp.AU hc ⟨(fun h=>nomatch h),fun _=>rfl⟩
  ·exact Sp.AU hc ⟨fun _=>rfl,(fun h=>nomatch h)⟩
theorem val_rev (m:L3)(x y:Rat):aj (revL m) x y=-aj m x y:=by
 unfold aj revL;simp only [Rat.intCast_neg];grind
def bq (l m:L3):Rat:=((l.1:Rat)*(m.2.1:Rat))-((l.2.1:Rat)*(m.1:Rat))
def LO (l m:L3):Rat:=(((l.2.1:Rat)*(m.2.2:Rat))-((l.2.2:Rat)*(m.2.1:Rat)))*(bq l m)⁻¹
def LP (l m:L3):Rat:=(((l.2.2:Rat)*(m.1:Rat))-((l.1:Rat)*(m.2.2:Rat)))*(bq l m)⁻¹
theorem kE.af {k:Nat}{l:L3}(h:kE k l)(hk:k<=1099511627776):(af l.1.natAbs).length<=1099511627776/\(af l.2.1.natAbs).length<=1099511627776/\(af l.2.2.natAbs).length<=1099511627776:=by
 have d1:=ae (show l.1.natAbs<2^k from h.1.1)
 have d2:=ae (show l.2.1.natAbs<2^k from h.2.1.1)
 have d3:=ae (show l.2.2.natAbs<2^k from h.2.2.1)
 exact ⟨by omega,by omega,by omega⟩
def Ps (V:View)(ad:Addr)(l:L3)(s:Sp):Prop:=∃xs:List Value,Mx V (.agg xs.toArray) l s/\∀i x,xs[i]?=some x->V.at (ad.add i) x
theorem Ps.le {V V':View}{ad:Addr}{l:L3}{s:Sp}(h:Ps V ad l s)(e:V.Le V'):Ps V' ad l s:=by
 obtain ⟨xs,h1,h2⟩:=h;exact ⟨xs,h1.le e,fun i x hx=>e.at (h2 i x hx)⟩
structure KT (V:View) (p:OA) (n:Nat) (fs:List (L3×Sp)):Prop where
 len:n=fs.length
 at_:∀(i:Nat)(h:i<fs.length),∃ad,addrAdd p (i*14)=some ad/\Ps V ad fs[i].1 fs[i].2
theorem KT.le {V V':View}{p:OA}{n:Nat}{fs:List (L3×Sp)}(h:KT V p n fs)(e:V.Le V'):KT V' p n fs:=⟨h.len,fun i hi=>by obtain ⟨ad,h1,h2⟩:=h.at_ i hi;exact ⟨ad,h1,h2.le e⟩⟩
theorem iH {p:OA}{j:Nat}{ad:Addr}(h:addrAdd p j=some ad):p.isSome=true:=by
 cases p with
 | none=>cases h
 | some a=>rfl
def Px (V:View)(ad:Addr)(s:Sp):Prop:=∃xs:List Value,DI V (.agg xs.toArray) s/\∀i x,xs[i]?=some x->V.at (ad.add i) x
theorem Px.le {V V':View}{ad:Addr}{s:Sp}(h:Px V ad s)(e:V.Le V'):Px V' ad s:=by
 obtain ⟨xs,h1,h2⟩:=h;exact ⟨xs,h1.le e,fun i x hx=>e.at (h2 i x hx)⟩
structure P7 (V:View) (p:OA) (n:Nat) (ss:List Sp):Prop where
 len:n=ss.length
 at_:∀(i:Nat)(h:i<ss.length),∃ad,addrAdd p (i*8)=some ad/\Px V ad ss[i]
theorem P7.le {V V':View}{p:OA}{n:Nat}{ss:List Sp}(h:P7 V p n ss)(e:V.Le V'):P7 V' p n ss:=⟨h.len,fun i hi=>by obtain ⟨ad,h1,h2⟩:=h.at_ i hi;exact ⟨ad,h1,h2.le e⟩⟩
def Sp.la (s:Sp)(t:Rat):Int:=if s.a then 1 else eG t s.lo
def Sp.lb (s:Sp)(t:Rat):Int:=if s.b then -1 else eG t s.hi
theorem U4.ex {V:View}{v:Value}{l:L3}{s:Sp}(h:KU V v l s):∃(x1 x2:Int)(p:OA)(y1 y2:Int)(q:OA)(z1 z2:Int)(r:OA)(u1 u2:Int)(t:OA)(w1 w2:Int)(o:OA),
 v=.agg #[.int .i64 x1,.int .i64 x2,.pointer p,.int .i64 y1,.int .i64 y2,.pointer q,.int .i64 z1,.int .i64 z2,.pointer r,.int .i64 u1,.int .i64 u2,.pointer t,.int .i64 w1,.int .i64 w2,.pointer o,.bool s.a,.bool s.b]:=by
 obtain ⟨_,_,_,_,_,_,_,_,_,_,_,_,_,_,_,e,-⟩:=h;exact ⟨_,_,_,_,_,_,_,_,_,_,_,_,_,_,_,e⟩
theorem Co {V:View}{v w:Value}{x y:Rat}(hx:RR V v x)(hy:RR V w y){k:Nat}(sx:Sz k x)(sy:Sz k y)(hk:2*k<1099511627776) :
  Acts prog 200 #[v,w] V fun r V'=>RR V' r (AR x y):=by
 have hx0:=hx
 have hy0:=hy
 obtain ⟨a,b,c,rfl⟩:=hx.shape
 obtain ⟨d,e,f,rfl⟩:=hy.shape
 refine BH a b c d e f V _ fun V1 l1=>(jT (hy0.le l1) (hx0.le l1) sy sx (by omega)).mono ?_
 rintro r V2 l2 rfl
 unfold AR
 exact ⟨_,rfl,fun h V3 l3=>by rw [if_pos (of_decide_eq_true h)];exact hy0.le (l1.trans (l2.trans l3)),fun h V4 l4=>by rw [if_neg (of_decide_eq_false h)];exact hx0.le (l1.trans (l2.trans l4))⟩
theorem Cp {V:View}{v w:Value}{x y:Rat}(hx:RR V v x)(hy:RR V w y){k:Nat}(sx:Sz k x)(sy:Sz k y)(hk:2*k<1099511627776) :
  Acts prog 201 #[v,w] V fun r V'=>RR V' r (AW x y):=by
 have hx0:=hx
 have hy0:=hy
 obtain ⟨a,b,c,rfl⟩:=hx.shape
 obtain ⟨d,e,f,rfl⟩:=hy.shape
 refine BI a b c d e f V _ fun V1 l1=>(jT (hy0.le l1) (hx0.le l1) sy sx (by omega)).mono ?_
 rintro r V2 l2 rfl
 unfold AW
 exact ⟨_,rfl,fun h V3 l3=>by rw [if_pos (of_decide_eq_true h)];exact hy0.le (l1.trans (l2.trans l3)),fun h V4 l4=>by rw [if_neg (of_decide_eq_false h)];exact hx0.le (l1.trans (l2.trans l4))⟩
theorem Sp.yM {v w:Sp}{k:Nat}(h1:v.sz k)(h2:w.sz k):(v.meet w).sz k:=by
 unfold Sp.meet Sp.sz AR AW
 constructor<;>dsimp only
 ·split
  ·exact h2.1
  ·split
   ·exact h1.1
   ·split
    ·exact h2.1
    ·exact h1.1
 ·split
  ·exact h2.2
  ·split
   ·exact h1.2
   ·split
    ·exact h2.2
    ·exact h1.2
theorem wQ {V:View}{v w:Value}{s t:Sp}(h:DH V v s)(h':DH V w t){k:Nat}(hs:s.sz k)(ht:t.sz k)(hk:2*k<1099511627776) :
  Acts prog 157 #[v,w] V fun r V'=>∃u,r=.tuple #[u,.bool (!(s.meet t).emp)]/\DH V' u (s.meet t):=by
 obtain ⟨x1,x2,p,y1,y2,q,rfl,h1,h2⟩:=h
 obtain ⟨u1,u2,o,w1,w2,j,rfl,g1,g2⟩:=h'
 have RH:s.a=true->(s.meet t).lo=t.lo/\(s.meet t).a=t.a:=fun e=>by simp [Sp.meet,e]
 have lo2:s.a=false->t.a=false->(s.meet t).lo=AR s.lo t.lo:=fun e e'=>by simp [Sp.meet,e,e']
 have lo3:s.a=false->t.a=true->(s.meet t).lo=s.lo:=fun e e'=>by simp [Sp.meet,e,e']
 have UB:s.a=false->(s.meet t).a=s.a:=fun e=>by simp [Sp.meet,e]
 have hi1:s.b=true->(s.meet t).hi=t.hi/\(s.meet t).b=t.b:=fun e=>by simp [Sp.meet,e]
 have hi2:s.b=false->t.b=false->(s.meet t).hi=AW s.hi t.hi:=fun e e'=>by simp [Sp.meet,e,e']
 have hi3:s.b=false->t.b=true->(s.meet t).hi=s.hi:=fun e e'=>by simp [Sp.meet,e,e']
 have hi4:s.b=false->(s.meet t).b=s.b:=fun e=>by simp [Sp.meet,e]
 refine uC x1 x2 p y1 y2 q s.a s.b u1 u2 o w1 w2 j t.a t.b V _ ⟨fun z V1=>RR V1 (.agg #[.int .i64 z.1,.int .i64 z.2.1,.pointer z.2.2.1]) (s.meet t).lo/\RR V1 (.agg #[.int .i64 z.2.2.2.1,.int .i64 z.2.2.2.2.1,.pointer z.2.2.2.2.2.1]) s.hi/\z.2.2.2.2.2.2.1=(s.meet t).a/\z.2.2.2.2.2.2.2=s.b,⟨fun ha=>?_,fun ha=>⟨fun hb V1 l1=>(Co (h1.le l1) (g1.le l1) hs.1 ht.1 hk).mono ?_,fun hb=>?_⟩⟩,?_⟩
 ·refine ⟨(u1,u2,o,y1,y2,q,t.a,s.b),by and_intros<;>rfl,?_,h2,(RH ha).2.symm,rfl⟩
  rw [(RH ha).1];exact g1
 ·rintro r V2 l2 g
  rw [Bool.not_eq_true'] at hb
  have g0:=g
  obtain ⟨a1,a2,a3,rfl⟩:=g.shape
  refine ⟨_,_,_,rfl,(a1,a2,a3,y1,y2,q,s.a,s.b),by and_intros<;>rfl,?_,h2.le (l1.trans l2),(UB ha).symm,rfl⟩
  rw [lo2 ha hb];exact g0
 ·rw [Bool.not_eq_false'] at hb
  refine ⟨(x1,x2,p,y1,y2,q,s.a,s.b),by and_intros<;>rfl,?_,h2,(UB ha).symm,rfl⟩
  rw [lo3 ha hb];exact h1
 ·rintro ⟨z1,z2,z3,z4,z5,z6,z7,z8⟩ V3 l3 ⟨k1,k2,k3,k4⟩
  dsimp only at k1 k2 k3 k4
  subst k3 k4
  refine ⟨rfl,fun z V1=>RR V1 (.agg #[.int .i64 z.1,.int .i64 z.2.1,.pointer z.2.2.1]) (s.meet t).lo/\RR V1 (.agg #[.int .i64 z.2.2.2.1,.int .i64 z.2.2.2.2.1,.pointer z.2.2.2.2.2.1]) (s.meet t).hi/\z.2.2.2.2.2.2.1=(s.meet t).a/\z.2.2.2.2.2.2.2=(s.meet t).b,⟨fun ha=>?_,fun ha=>⟨fun hb V4 l4=>(Cp (h2.le (l3.trans l4)) (g2.le (l3.trans l4)) hs.2 ht.2 hk).mono ?_,fun hb=>?_⟩⟩,?_⟩
  ·refine ⟨(z1,z2,z3,w1,w2,j,(s.meet t).a,t.b),by and_intros<;>rfl,k1,?_,rfl,(hi1 ha).2.symm⟩
   rw [(hi1 ha).1];exact g2.le l3
  ·rintro r V5 l5 g
   rw [Bool.not_eq_true'] at hb
   have g0:=g
   obtain ⟨a1,a2,a3,rfl⟩:=g.shape
   refine ⟨_,_,_,rfl,(z1,z2,z3,a1,a2,a3,(s.meet t).a,s.b),by and_intros<;>rfl,k1.le (l4.trans l5),?_,rfl,(hi4 ha).symm⟩
   rw [hi2 ha hb];exact g0
  ·rw [Bool.not_eq_false'] at hb
   refine ⟨(z1,z2,z3,z4,z5,z6,(s.meet t).a,s.b),by and_intros<;>rfl,k1,?_,rfl,(hi4 ha).symm⟩
   rw [hi3 ha hb];exact k2
  ·rintro ⟨y1,y2,y3,y4,y5,y6,y7,y8⟩ V6 l6 ⟨j1,j2,j3,j4⟩
   dsimp only at j1 j2 j3 j4
   subst j3 j4
   refine ⟨rfl,fun V7 l7=>(Cm ⟨_,_,_,_,_,_,rfl,j1.le l7,j2.le l7⟩ (Sp.yM hs ht) hk).mono ?_⟩
   rintro r V8 l8 rfl
   exact ⟨_,rfl,fun V9 l9=>⟨_,rfl,_,_,_,_,_,_,rfl,j1.le (l7.trans (l8.trans l9)),j2.le (l7.trans (l8.trans l9))⟩⟩
theorem lZ {L M:L3}{k:Nat}(sl:kE k L)(sm:kE k M):Sz (4*k+3) (dw M L):=cL sm.1 sm.2.1 sl.2.1 sl.1.neg
theorem FZ {L M:L3}:(((M.1:Rat)*((L.1:Rat)*(((-(L.2.2:Rat))*(((L.1:Rat)*(L.1:Rat))+((L.2.1:Rat)*(L.2.1:Rat)))⁻¹))))+((M.2.1:Rat)*((L.2.1:Rat)*(((-(L.2.2:Rat))*(((L.1:Rat)*(L.1:Rat))+((L.2.1:Rat)*(L.2.1:Rat)))⁻¹)))))+(M.2.2:Rat)=jn M L:=by
 unfold jn aj gM im fB;grind
theorem lY {L M:L3}{k:Nat}(sl:kE k L)(sm:kE k M):Sz (50*k+49) (jn M L):=by
 rw [←FZ]
 exact Sz.mono (jO (k:=10*k+9) (sm.1.mono (by omega)) (sm.2.1.mono (by omega)) (sm.2.2.mono (by omega)) (cY sl.1 sl.2.1 sl.2.2) (cZ sl.1 sl.2.1 sl.2.2)) (by omega)
theorem rS {L M:L3}{k:Nat}(sl:kE k L)(sm:kE k M):Sz (60*k+60) (dv M L):=Sz.mono ((lY sl sm).mul (fq (lZ sl sm))).neg (by omega)
theorem KJ (k:Nat)(hk:0<k):Sz k (0:Rat):=⟨by show (0:Int).natAbs<_;exact Nat.lt_of_lt_of_le (by decide) (Nat.one_le_two_pow),Nat.one_lt_two_pow (by omega)⟩
theorem zZ {V:View}{l v m:Value}{L:L3}{s:Sp}{M:L3}(hl:RLi V l L)(hv:DH V v s)(hm:RLi V m M){k:Nat}(sl:kE k L)(hs:s.sz k)(sm:kE k M)(hk:200*k+200<274877906944) :
  Acts prog 167 #[l,v,m] V fun r V'=>∃w,r=.tuple #[w,.bool (dh L s M)]/\DH V' w (cM L s M):=by
 have hl0:=hl
 have hv0:=hv
 have hm0:=hm
 obtain ⟨_,_,_,_,_,_,_,_,_,rfl,-,-,-⟩:=hl
 obtain ⟨_,_,_,_,_,_,rfl,-,-⟩:=hv
 obtain ⟨_,_,_,_,_,_,_,_,_,rfl,-,-,-⟩:=hm
 have hs':s.sz (60*k+60):=⟨hs.1.mono (by omega),hs.2.mono (by omega)⟩
 have z:=KJ (60*k+60) (by omega)
 refine vT _ _ _ _ _ _ _ _ _ _ _ _ _ _ _ _ _ _ _ _ _ _ _ _ _ _ V _ fun V1 l1=>(fW (hm0.le l1) sm.1 sm.2.1 sm.2.2 (by omega)).mono ?_
 rintro r V2 l2 g1
 have g10:=g1
 obtain ⟨_,_,_,_,_,_,rfl,-,-⟩:=g1
 refine ⟨_,_,_,_,_,_,rfl,fun V3 l3=>(jW (hl0.le (l1.trans (l2.trans l3))) sl.1 sl.2.1 sl.2.2 (by omega)).mono ?_⟩
 rintro r V4 l4 g2
 have g20:=g2
 obtain ⟨_,_,_,_,_,_,rfl,-,-⟩:=g2
 refine ⟨_,_,_,_,_,_,rfl,fun V5 l5=>(jX (g10.le (l3.trans (l4.trans l5))) (g20.le l5) sm.1 sm.2.1 sl.2.1 sl.1.neg (by omega)).mono ?_⟩
 rintro r V6 l6 g3
 have oQ:RR V6 r (dw M L):=g3
 obtain ⟨_,_,_,rfl⟩:=g3.shape
 have L6:V.Le V6:=l1.trans (l2.trans (l3.trans (l4.trans (l5.trans l6))))
 refine ⟨_,_,_,rfl,fun V7 l7=>(me (hl0.le (L6.trans l7)) sl.1 sl.2.1 sl.2.2 (by omega)).mono ?_⟩
 rintro r V8 l8 g4
 have Il:=g4
 obtain ⟨_,_,_,_,_,_,rfl,-,-⟩:=g4
 refine ⟨_,_,_,_,_,_,rfl,fun V9 l9=>(kJ (k:=10*k+9) (hm0.le (L6.trans (l7.trans (l8.trans l9)))) (Il.le l9) (sm.1.mono (by omega)) (sm.2.1.mono (by omega)) (sm.2.2.mono (by omega)) (cY sl.1 sl.2.1 sl.2.2) (cZ sl.1 sl.2.1 sl.2.2) (by omega)).mono ?_⟩
 rintro r V10 l10 g5
 rw [FZ] at g5
 have IU:=g5
 obtain ⟨_,_,_,rfl⟩:=g5.shape
 have wC:V6.Le V10:=l7.trans (l8.trans (l9.trans l10))
 refine ⟨_,_,_,rfl,fun V11 l11=>(fa (oQ.le (wC.trans l11)) (lZ sl sm) (by omega)).mono ?_⟩
 rintro r V12 l12 rfl
 have FO:V10.Le V12:=l11.trans l12
 refine ⟨_,rfl,fun hz V13 l13=>(fa (IU.le (FO.trans l13)) (lY sl sm) (by omega)).mono ?_,fun hz=>⟨fun h1 kG dB=>(yf (IU.le (FO.trans dB)) (oQ.le (wC.trans (FO.trans dB))) (lY sl sm) (lZ sl sm) (by omega)).mono ?_,fun h1 wF iq=>(yf (IU.le (FO.trans iq)) (oQ.le (wC.trans (FO.trans iq))) (lY sl sm) (lZ sl sm) (by omega)).mono ?_⟩⟩
 ·rintro r V14 dA rfl
  have eB:dh L s M=decide ((jn M L).num.sign>0):=by unfold dh;rw [if_pos hz]
  have eS:cM L s M=s:=by unfold cM;rw [if_pos hz]
  rw [eB,eS]
  exact ⟨_,rfl,fun V15 dS=>⟨_,rfl,hv0.le (L6.trans (wC.trans (FO.trans (l13.trans (dA.trans dS)))))⟩⟩
 ·have eS:cM L s M=s.meet ⟨dv M L,0,false,true⟩:=by unfold cM;rw [if_neg (by rw [hz];exact Bool.false_ne_true),if_pos h1]
  have eB:dh L s M=!(s.meet ⟨dv M L,0,false,true⟩).emp:=by rw [←eS];unfold dh;rw [if_neg (by rw [hz];exact Bool.false_ne_true)]
  rw [eB,eS]
  rintro r nD cU g6
  have Lg:=g6
  obtain ⟨_,_,_,rfl⟩:=g6.shape
  refine ⟨_,_,_,rfl,fun qN dW=>(iA (Lg.le dW) ((lY sl sm).mul (fq (lZ sl sm))) (by omega)).mono ?_⟩
  rintro r rG dX g7
  have Lh:RR rG r (dv M L):=g7
  obtain ⟨_,_,_,rfl⟩:=g7.shape
  refine ⟨_,_,_,rfl,fun Cg iI=>(wQ (t:=⟨dv M L,0,false,true⟩) (hv0.le (L6.trans (wC.trans (FO.trans (dB.trans (cU.trans (dW.trans (dX.trans iI)))))))) ⟨_,_,_,_,_,_,rfl,Lh.le iI,RR.zero _⟩ hs' ⟨rS sl sm,z⟩ (by omega)).mono ?_⟩
  rintro r rX fA ⟨w,rfl,g8⟩
  have Nu:=g8
  obtain ⟨_,_,_,_,_,_,rfl,-,-⟩:=g8
  exact ⟨_,_,_,_,_,_,_,_,_,rfl,fun wE jA=>⟨_,rfl,Nu.le jA⟩⟩
 ·have eS:cM L s M=s.meet ⟨0,dv M L,true,false⟩:=by unfold cM;rw [if_neg (by rw [hz];exact Bool.false_ne_true),if_neg (by rw [h1];exact Bool.false_ne_true)]
  have eB:dh L s M=!(s.meet ⟨0,dv M L,true,false⟩).emp:=by rw [←eS];unfold dh;rw [if_neg (by rw [hz];exact Bool.false_ne_true)]
  rw [eB,eS]
  rintro r nD cU g6
  have Lg:=g6
  obtain ⟨_,_,_,rfl⟩:=g6.shape
  refine ⟨_,_,_,rfl,fun qN dW=>(iA (Lg.le dW) ((lY sl sm).mul (fq (lZ sl sm))) (by omega)).mono ?_⟩
  rintro r rG dX g7
  have Lh:RR rG r (dv M L):=g7
  obtain ⟨_,_,_,rfl⟩:=g7.shape
  refine ⟨_,_,_,rfl,fun Cg iI=>(wQ (t:=⟨0,dv M L,true,false⟩) (hv0.le (L6.trans (wC.trans (FO.trans (iq.trans (cU.trans (dW.trans (dX.trans iI)))))))) ⟨_,_,_,_,_,_,rfl,RR.zero _,Lh.le iI⟩ hs' ⟨z,rS sl sm⟩ (by omega)).mono ?_⟩
  rintro r rX fA ⟨w,rfl,g8⟩
  have Nu:=g8
  obtain ⟨_,_,_,_,_,_,rfl,-,-⟩:=g8
  exact ⟨_,_,_,_,_,_,_,_,_,rfl,fun wE jA=>⟨_,rfl,Nu.le jA⟩⟩
structure Cf (V:View) (p:OA) (n:Nat) (fs:List (L3×Sp)):Prop where
 len:n=fs.length
 at_:∀(i:Nat)(h:i<fs.length),∃ad,addrAdd p (i*17)=some ad/\∃xs:List Value,KU V (.agg xs.toArray) fs[i].1 fs[i].2/\∀j x,xs[j]?=some x->V.at (ad.add j) x
theorem Cf.le {V V':View}{p:OA}{n:Nat}{fs:List (L3×Sp)}(h:Cf V p n fs)(e:V.Le V'):Cf V' p n fs:=⟨h.len,fun i hi=>by obtain ⟨ad,h1,xs,h2,h3⟩:=h.at_ i hi;exact ⟨ad,h1,xs,h2.le e,fun j x hx=>e.at (h3 j x hx)⟩⟩
theorem Cf.nil {V:View}:Cf V none 0 []:=⟨rfl,fun i hi=>by simp at hi⟩
theorem Cf.one {V:View}{bk:Nat}{xs:List Value}{ty:TypeId}{l:L3}{s:Sp}(hb:V.aZ bk (.cells xs.toArray ty (0,0)))(hf:KU V (.agg xs.toArray) l s):Cf V (some ⟨bk,0,none⟩) 1 [(l,s)]:=by
 refine ⟨rfl,fun i hi=>?_⟩
 obtain rfl:i=0:=by simpa using hi
 refine ⟨⟨bk,0,none⟩,by simp [addrAdd,add_zero'],_,hf,fun j x hx=>?_⟩
 rw [add_zero']
 exact blk_at hb hx
theorem IJ {L M:L3}:((L.1:Rat)=(M.1:Rat)/\(L.2.1:Rat)=(M.2.1:Rat)/\(L.2.2:Rat)=(M.2.2:Rat))↔L=M:=by
 constructor
 ·rintro ⟨h1,h2,h3⟩
  exact Prod.ext (Rat.intCast_inj.1 h1) (Prod.ext (Rat.intCast_inj.1 h2) (Rat.intCast_inj.1 h3))
 ·rintro rfl
  exact ⟨rfl,rfl,rfl⟩
theorem I_ {V:View}{v w:Value}{L M:L3}(hl:RLi V v L)(hm:RLi V w M){k:Nat}(sl:kE k L)(sm:kE k M)(hk:k+k<1099511627776) :
  Acts prog 197 #[v,w] V fun r V'=>r=.bool (decide (L=M)):=by
 refine (Ab hl hm sl.1 sl.2.1 sl.2.2 sm.1 sm.2.1 sm.2.2 hk).mono ?_
 rintro r V' l rfl
 rw [decide_eq_decide.2 IJ]
theorem UM (V:View):RQ V (.agg #[.bool false,.slice none 0 0,.slice none 0 0]) 0:=by have:=RQ.zero (V:=V);simpa using this
theorem yv {V:View}:Acts prog 75 #[] V fun r V'=>DI V' r ⟨0,0,true,true⟩:=
 wo V _ fun V1 l1=>⟨_,_,_,_,_,_,_,_,_,_,_,_,_,_,rfl,UM _,UM _⟩
theorem Br {V:View}{v:Value}{s:Sp}(h:DI V v s):∃b p n c p' n' c' d q m e q' m' e',v=.agg #[.bool b,.slice p n c,.slice p' n' c',.bool d,.slice q m e,.slice q' m' e',.bool s.a,.bool s.b]:=by
 obtain ⟨_,_,_,_,_,_,_,_,_,_,_,_,_,_,e,-⟩:=h;exact ⟨_,_,_,_,_,_,_,_,_,_,_,_,_,_,e⟩
end Go.Proofs.Tryz
namespace Go.Proofs.Tryz
open Go.Eng
set_option maxRecDepth 100000
end Go.Proofs.Tryz
namespace Go.Proofs.Tryz
open Go.Eng Go.Big
def Pu (V:View)(v:Value)(b1:Bool)(xs:List Nat)(b2:Bool)(ys:List Nat)(b3:Bool)(zs:List Nat):Prop:=∃p n c q m e s i j,v=.agg #[.bool b1,.slice p n c,.bool b2,.slice q m e,.bool b3,.slice s i j]/\RD V p n c xs/\RD V q m e ys/\RD V s i j zs
theorem Pu.le {V V':View}{v:Value}{b1:Bool}{xs:List Nat}{b2:Bool}{ys:List Nat}{b3:Bool}{zs:List Nat}(h:Pu V v b1 xs b2 ys b3 zs)(l:V.Le V'):Pu V' v b1 xs b2 ys b3 zs:=by
 obtain ⟨p,n,c,q,m,e,s,i,j,rfl,h1,h2,h3⟩:=h
 exact ⟨_,_,_,_,_,_,_,_,_,rfl,h1.le l,h2.le l,h3.le l⟩
def UA (b1:Bool)(xs:List Nat)(b2:Bool)(ys:List Nat)(b3:Bool)(zs:List Nat):L3:=(aQ b1 xs,aQ b2 ys,aQ b3 zs)
structure FW where
 b1:Bool
 xs:List Nat
 b2:Bool
 ys:List Nat
 b3:Bool
 zs:List Nat
 c1:Bool
 us:List Nat
 vs:List Nat
 c2:Bool
 ws:List Nat
 ts:List Nat
 na:Bool
 nb:Bool
def FW.ln (f:FW):L3:=UA f.b1 f.xs f.b2 f.ys f.b3 f.zs
def FW.sp (f:FW):Sp:=O_ f.c1 f.us f.vs f.c2 f.ws f.ts f.na f.nb
def FW.ok (f:FW):Bool:=tW f.b1 f.xs f.b2 f.ys f.b3 f.zs&&okW f.c1 f.us f.vs f.c2 f.ws f.ts f.na f.nb
structure FW.short (f:FW):Prop where
 x:f.xs.length<=1000000
 y:f.ys.length<=1000000
 z:f.zs.length<=1000000
 u:f.us.length<=1000000
 v:f.vs.length<=1000000
 w:f.ws.length<=1000000
 t:f.ts.length<=1000000
def Pt (V:View)(v:Value)(f:FW):Prop:=∃p1 n1 d1 p2 n2 d2 p3 n3 d3 p n c p' n' c' q m e q' m' e',
 v=.agg #[.bool f.b1,.slice p1 n1 d1,.bool f.b2,.slice p2 n2 d2,.bool f.b3,.slice p3 n3 d3,.bool f.c1,.slice p n c,.slice p' n' c',.bool f.c2,.slice q m e,.slice q' m' e',.bool f.na,.bool f.nb] /\
 Pu V (.agg #[.bool f.b1,.slice p1 n1 d1,.bool f.b2,.slice p2 n2 d2,.bool f.b3,.slice p3 n3 d3]) f.b1 f.xs f.b2 f.ys f.b3 f.zs /\
 Pw V (.agg #[.bool f.c1,.slice p n c,.slice p' n' c',.bool f.c2,.slice q m e,.slice q' m' e',.bool f.na,.bool f.nb]) f.c1 f.us f.vs f.c2 f.ws f.ts f.na f.nb
theorem Pt.le {V V':View}{v:Value}{f:FW}(h:Pt V v f)(l:V.Le V'):Pt V' v f:=by
 obtain ⟨p1,n1,d1,p2,n2,d2,p3,n3,d3,p,n,c,p',n',c',q,m,e,q',m',e',rfl,h1,h2⟩:=h
 exact ⟨_,_,_,_,_,_,_,_,_,_,_,_,_,_,_,_,_,_,_,_,_,rfl,h1.le l,h2.le l⟩
theorem iU {V:View}(z w:Int){p q:OA}{n c m e:Nat}(ha:RD V p n c (af z.natAbs))(hb:RD V q m e (af w.natAbs))(hm:(af z.natAbs).length<=1099511627776)(hn:(af w.natAbs).length<=1099511627776) :
  Acts prog 122 #[.agg #[.bool (decide (z<0)),.slice p n c],.agg #[.bool (decide (w<0)),.slice q m e]] V fun r V'=>r=.int .i64 (z-w).sign:=by
 refine uL _ p n c _ q m e V _ fun V1 l1=>(fP w (hb.le l1)).mono ?_
 rintro r V2 l2 ⟨p1,n1,c1,rfl,g1⟩
 refine ⟨_,_,_,_,rfl,fun V3 l3=>(oY z (-w) (ha.le (l1.trans (l2.trans l3))) (g1.le l3) hm (by rw [Int.natAbs_neg];exact hn)).mono ?_⟩
 rintro r V4 l4 ⟨p2,n2,c2,rfl,g2⟩
 refine ⟨_,_,_,_,rfl,fun V5 l5=>(sK _ (g2.le l5)).mono ?_⟩
 rintro r V6 l6 rfl
 exact ⟨_,rfl,fun V7 l7=>by rw [Int.sub_eq_add_neg]⟩
def Cx (l m:L3):Int:=if (l.1-m.1).sign≠0 then (l.1-m.1).sign else if (l.2.1-m.2.1).sign≠0 then (l.2.1-m.2.1).sign else (l.2.2-m.2.2).sign
theorem DR {l m:L3}:Cx l m=0↔l=m:=by
 have e:∀{a b:Int},(a-b).sign=0↔a=b:=fun {a b}=>by rw [Int.sign_eq_zero_iff_zero];omega
 unfold Cx
 constructor
 ·intro h
  by_cases h1:(l.1-m.1).sign=0
  ·rw [if_neg (by simpa using h1)] at h
   by_cases h2:(l.2.1-m.2.1).sign=0
   ·rw [if_neg (by simpa using h2)] at h
    exact Prod.ext (e.1 h1) (Prod.ext (e.1 h2) (e.1 h))
   ·rw [if_pos h2] at h;exact absurd h h2
  ·rw [if_pos h1] at h;exact absurd h h1
 ·rintro rfl
  simp
theorem qg {V:View}{v w:Value}{l m:L3}(hl:RL V v l.1 l.2.1 l.2.2)(hm:RL V w m.1 m.2.1 m.2.2){k:Nat}(sl:kE k l)(sm:kE k m)(hk:k<=1099511627776) :
  Acts prog 74 #[v,w] V fun r V'=>r=.int .i64 (Cx l m):=by
 obtain ⟨d1,d2,d3⟩:=sl.af hk
 obtain ⟨e1,e2,e3⟩:=sm.af hk
 obtain ⟨_,_,_,_,_,_,_,_,_,rfl,a1,a2,a3⟩:=hl
 obtain ⟨_,_,_,_,_,_,_,_,_,rfl,b1,b2,b3⟩:=hm
 refine zB _ _ _ _ _ _ _ _ _ _ _ _ _ _ _ _ _ _ _ _ _ _ _ _ V _ fun V1 l1=>(iU _ _ (a1.le l1) (b1.le l1) d1 e1).mono ?_
 rintro r V2 l2 rfl
 unfold Cx
 refine ⟨_,rfl,fun h V3 l3=>?_,fun h V4 l4=>(iU _ _ (a2.le (l1.trans (l2.trans l4))) (b2.le (l1.trans (l2.trans l4))) d2 e2).mono ?_⟩
 ·rw [bne_iff_ne] at h
  rw [if_pos h]
 ·rw [bne_eq_false_iff_eq] at h
  rw [if_neg (by rw [h];decide)]
  rintro r V5 l5 rfl
  refine ⟨_,rfl,fun h V6 l6=>?_,fun h V7 l7=>(iU _ _ (a3.le (l1.trans (l2.trans (l4.trans (l5.trans l7))))) (b3.le (l1.trans (l2.trans (l4.trans (l5.trans l7))))) d3 e3).mono ?_⟩
  ·rw [bne_iff_ne] at h
   rw [if_pos h]
  ·rw [bne_eq_false_iff_eq] at h
   rw [if_neg (by rw [h];decide)]
   rintro r V8 l8 rfl
   exact ⟨_,rfl,fun V9 l9=>rfl⟩
theorem Ak {l m:L3}:(Cx l m==(0:Int))=decide (l=m):=by
 by_cases h:l=m
 ·rw [decide_eq_true h,beq_iff_eq];exact DR.2 h
 ·rw [decide_eq_false h,beq_eq_false_iff_ne];exact fun e=>h (DR.1 e)
def J6 (u:Value):Prop:=u=.agg #[.bool false,.slice none 0 0,.slice none 0 0,.bool false,.slice none 0 0,.slice none 0 0]
theorem Md {V:View}{v w:Value}{l m:L3}(hl:RL V v l.1 l.2.1 l.2.2)(hm:RL V w m.1 m.2.1 m.2.2){k:Nat}(sl:kE k l)(sm:kE k m)(hk:20*k+20<274877906944) :
  Acts prog 48 #[v,w] V fun r V'=>∃u,r=.tuple #[u,.bool (decide (bq l m≠0))]/\(bq l m=0->J6 u)/\(bq l m≠0->RP V' u (LO l m) (LP l m)):=by
 have e0:((l.1:Int):Rat)*((m.2.1:Int):Rat)-((m.1:Int):Rat)*((l.2.1:Int):Rat)=bq l m:=by unfold bq;grind
 have e1:((l.2.1:Int):Rat)*((m.2.2:Int):Rat)-((m.2.1:Int):Rat)*((l.2.2:Int):Rat)=((l.2.1:Rat)*(m.2.2:Rat))-((l.2.2:Rat)*(m.2.1:Rat)):=by grind
 have e2:((m.1:Int):Rat)*((l.2.2:Int):Rat)-((l.1:Int):Rat)*((m.2.2:Int):Rat)=((l.2.2:Rat)*(m.1:Rat))-((l.1:Rat)*(m.2.2:Rat)):=by grind
 obtain ⟨sl1,sl2,KE⟩:=sl
 obtain ⟨KF,KG,KH⟩:=sm
 obtain ⟨_,_,_,_,_,_,_,_,_,rfl,a1,a2,a3⟩:=hl
 obtain ⟨_,_,_,_,_,_,_,_,_,rfl,b1,b2,b3⟩:=hm
 refine we _ _ _ _ _ _ _ _ _ _ _ _ _ _ _ _ _ _ _ _ _ _ _ _ V _ fun V1 l1=>(aS (a1.le l1) sl1 (by omega)).mono ?_
 rintro r V2 l2 TN
 have QA:=TN
 obtain ⟨_,_,_,_,_,_,rfl⟩:=TN.shape
 refine ⟨_,_,_,_,_,_,_,rfl,fun V3 l3=>(aS (b2.le (l1.trans (l2.trans (l3)))) KG (by omega)).mono ?_⟩
 rintro r V4 l4 TO
 have QB:=TO
 obtain ⟨_,_,_,_,_,_,rfl⟩:=TO.shape
 refine ⟨_,_,_,_,_,_,_,rfl,fun V5 l5=>(aI (QA.le (l3.trans (l4.trans (l5)))) (QB.le l5) sl1 KG (by omega)).mono ?_⟩
 rintro r V6 l6 TP
 have QC:=TP
 obtain ⟨_,_,_,_,_,_,rfl⟩:=TP.shape
 refine ⟨_,_,_,_,_,_,_,rfl,fun V7 l7=>(aS (b1.le (l1.trans (l2.trans (l3.trans (l4.trans (l5.trans (l6.trans (l7)))))))) KF (by omega)).mono ?_⟩
 rintro r V8 l8 TQ
 have QD:=TQ
 obtain ⟨_,_,_,_,_,_,rfl⟩:=TQ.shape
 refine ⟨_,_,_,_,_,_,_,rfl,fun V9 l9=>(aS (a2.le (l1.trans (l2.trans (l3.trans (l4.trans (l5.trans (l6.trans (l7.trans (l8.trans (l9)))))))))) sl2 (by omega)).mono ?_⟩
 rintro r V10 l10 TR
 have QE:=TR
 obtain ⟨_,_,_,_,_,_,rfl⟩:=TR.shape
 refine ⟨_,_,_,_,_,_,_,rfl,fun V11 l11=>(aI (QD.le (l9.trans (l10.trans (l11)))) (QE.le l11) KF sl2 (by omega)).mono ?_⟩
 rintro r V12 l12 TS
 have QF:=TS
 obtain ⟨_,_,_,_,_,_,rfl⟩:=TS.shape
 refine ⟨_,_,_,_,_,_,_,rfl,fun V13 l13=>(jt (QC.le (l7.trans (l8.trans (l9.trans (l10.trans (l11.trans (l12.trans (l13)))))))) (QF.le l13) (sl1.mul KG) (KF.mul sl2) (by omega)).mono ?_⟩
 rintro r V14 dA QG
 rw [e0] at QG
 have Av:=QG
 obtain ⟨_,_,_,_,_,_,rfl,QH,-⟩:=QG
 have sD:Sz (4*k+3) (((l.1:Int):Rat)*((m.2.1:Int):Rat)-((m.1:Int):Rat)*((l.2.1:Int):Rat)):=Sz.mono ((sl1.mul KG).sub (KF.mul sl2)) (by omega)
 rw [e0] at sD
 refine ⟨_,_,_,_,_,_,_,rfl,fun V15 dS=>(rI _ (QH.le dS)).mono ?_⟩
 rintro r kG dB rfl
 refine ⟨_,rfl,fun hz nD cU=>?_,fun hz=>?_⟩
 ·rw [beq_iff_eq,oA] at hz
  rw [hz]
  exact ⟨_,rfl,fun _=>rfl,fun h=>absurd rfl h⟩
 ·rw [beq_eq_false_iff_ne,ne_eq,oA] at hz
  rw [decide_eq_true hz]
  have hz':¬(bq l m).num=0:=fun h=>hz (Rat.num_eq_zero.1 h)
  intro nD cU
  have M0:V.Le nD:=(l1.trans (l2.trans (l3.trans (l4.trans (l5.trans (l6.trans (l7.trans (l8.trans (l9.trans (l10.trans (l11.trans (l12.trans (l13.trans (dA.trans (dS.trans (dB.trans (cU)))))))))))))))))
  replace Av:=Av.le (dS.trans (dB.trans (cU)))
  refine (aS (a2.le M0) sl2 (by omega)).mono ?_
  rintro r qN dW TV
  have QI:=TV
  obtain ⟨_,_,_,_,_,_,rfl⟩:=TV.shape
  refine ⟨_,_,_,_,_,_,_,rfl,fun rG dX=>(aS (b3.le (M0.trans (dW.trans (dX)))) KH (by omega)).mono ?_⟩
  rintro r Cg iI TW
  have QJ:=TW
  obtain ⟨_,_,_,_,_,_,rfl⟩:=TW.shape
  refine ⟨_,_,_,_,_,_,_,rfl,fun rX fA=>(aI (QI.le (dX.trans (iI.trans (fA)))) (QJ.le fA) sl2 KH (by omega)).mono ?_⟩
  rintro r wE jA TX
  have QK:=TX
  obtain ⟨_,_,_,_,_,_,rfl⟩:=TX.shape
  refine ⟨_,_,_,_,_,_,_,rfl,fun wF iq=>(aS (b2.le (M0.trans (dW.trans (dX.trans (iI.trans (fA.trans (jA.trans (iq)))))))) KG (by omega)).mono ?_⟩
  rintro r FR tH TY
  have QL:=TY
  obtain ⟨_,_,_,_,_,_,rfl⟩:=TY.shape
  refine ⟨_,_,_,_,_,_,_,rfl,fun FE l25=>(aS (a3.le (M0.trans (dW.trans (dX.trans (iI.trans (fA.trans (jA.trans (iq.trans (tH.trans (l25)))))))))) KE (by omega)).mono ?_⟩
  rintro r Ka l26 TZ
  have QM:=TZ
  obtain ⟨_,_,_,_,_,_,rfl⟩:=TZ.shape
  refine ⟨_,_,_,_,_,_,_,rfl,fun Mz l27=>(aI (QL.le (l25.trans (l26.trans (l27)))) (QM.le l27) KG KE (by omega)).mono ?_⟩
  rintro r MA E5 T0
  have QN:=T0
  obtain ⟨_,_,_,_,_,_,rfl⟩:=T0.shape
  refine ⟨_,_,_,_,_,_,_,rfl,fun Qb GW=>(jt (QK.le (iq.trans (tH.trans (l25.trans (l26.trans (l27.trans (E5.trans (GW)))))))) (QN.le GW) (sl2.mul KH) (KG.mul KE) (by omega)).mono ?_⟩
  rintro r KV Cd QO
  rw [e1] at QO
  have Li:=QO
  obtain ⟨_,_,_,_,_,_,rfl⟩:=QO.shape
  have sX:Sz (4*k+3) (((l.2.1:Rat)*(m.2.2:Rat))-((l.2.2:Rat)*(m.2.1:Rat))):=by rw [←e1];exact Sz.mono ((sl2.mul KH).sub (KG.mul KE)) (by omega)
  have M1:V.Le KV:=(M0.trans (dW.trans (dX.trans (iI.trans (fA.trans (jA.trans (iq.trans (tH.trans (l25.trans (l26.trans (l27.trans (E5.trans (GW.trans (Cd))))))))))))))
  replace Av:=Av.le (dW.trans (dX.trans (iI.trans (fA.trans (jA.trans (iq.trans (tH.trans (l25.trans (l26.trans (l27.trans (E5.trans (GW.trans (Cd)))))))))))))
  refine ⟨_,_,_,_,_,_,_,rfl,fun S3 E6=>(aS (b1.le (M1.trans E6)) KF (by omega)).mono ?_⟩
  rintro r Qc Iq T1
  have QP:=T1
  obtain ⟨_,_,_,_,_,_,rfl⟩:=T1.shape
  refine ⟨_,_,_,_,_,_,_,rfl,fun Pz zM=>(aS (a3.le (M1.trans (E6.trans (Iq.trans (zM))))) KE (by omega)).mono ?_⟩
  rintro r S4 Kx T2
  have QQ:=T2
  obtain ⟨_,_,_,_,_,_,rfl⟩:=T2.shape
  refine ⟨_,_,_,_,_,_,_,rfl,fun U6 Ky=>(aI (QP.le (zM.trans (Kx.trans (Ky)))) (QQ.le Ky) KF KE (by omega)).mono ?_⟩
  rintro r Yj PG T3
  have QR:=T3
  obtain ⟨_,_,_,_,_,_,rfl⟩:=T3.shape
  refine ⟨_,_,_,_,_,_,_,rfl,fun Yk Of=>(aS (a1.le (M1.trans (E6.trans (Iq.trans (zM.trans (Kx.trans (Ky.trans (PG.trans (Of))))))))) sl1 (by omega)).mono ?_⟩
  rintro r Yl Jc T4
  have QS:=T4
  obtain ⟨_,_,_,_,_,_,rfl⟩:=T4.shape
  refine ⟨_,_,_,_,_,_,_,rfl,fun Ym Og=>(aS (b3.le (M1.trans (E6.trans (Iq.trans (zM.trans (Kx.trans (Ky.trans (PG.trans (Of.trans (Jc.trans (Og))))))))))) KH (by omega)).mono ?_⟩
  rintro r Yn PH T5
  have QT:=T5
  obtain ⟨_,_,_,_,_,_,rfl⟩:=T5.shape
  refine ⟨_,_,_,_,_,_,_,rfl,fun Yp Oh=>(aI (QS.le (Og.trans (PH.trans (Oh)))) (QT.le Oh) sl1 KH (by omega)).mono ?_⟩
  rintro r Yq RB T6
  have QU:=T6
  obtain ⟨_,_,_,_,_,_,rfl⟩:=T6.shape
  refine ⟨_,_,_,_,_,_,_,rfl,fun Yr PI=>(jt (QR.le (Of.trans (Jc.trans (Og.trans (PH.trans (Oh.trans (RB.trans (PI)))))))) (QU.le PI) (KF.mul KE) (sl1.mul KH) (by omega)).mono ?_⟩
  rintro r Ys Uv QV
  rw [e2] at QV
  have QW:=QV
  obtain ⟨_,_,_,_,_,_,rfl⟩:=QV.shape
  have sY:Sz (4*k+3) (((l.2.2:Rat)*(m.1:Rat))-((l.1:Rat)*(m.2.2:Rat))):=by rw [←e2];exact Sz.mono ((KF.mul KE).sub (sl1.mul KH)) (by omega)
  replace Av:=Av.le (E6.trans (Iq.trans (zM.trans (Kx.trans (Ky.trans (PG.trans (Of.trans (Jc.trans (Og.trans (PH.trans (Oh.trans (RB.trans (PI.trans (Uv))))))))))))))
  replace Li:=Li.le (E6.trans (Iq.trans (zM.trans (Kx.trans (Ky.trans (PG.trans (Of.trans (Jc.trans (Og.trans (PH.trans (Oh.trans (RB.trans (PI.trans (Uv))))))))))))))
  refine ⟨_,_,_,_,_,_,_,rfl,fun Yt l45=>(j9 (Li.le l45) (Av.le l45) hz' sX sD (by omega)).mono ?_⟩
  rintro r Qd l46 gr
  have gr0:=gr
  obtain ⟨_,_,_,_,_,_,rfl⟩:=gr.shape
  refine ⟨_,_,_,_,_,_,_,rfl,fun S5 Oi=>(j9 (QW.le (l45.trans (l46.trans (Oi)))) (Av.le (l45.trans (l46.trans (Oi)))) hz' sY sD (by omega)).mono ?_⟩
  rintro r Qe PJ gs
  have gs0:=gs
  obtain ⟨_,_,_,_,_,_,rfl⟩:=gs.shape
  exact ⟨_,_,_,_,_,_,_,rfl,fun S6 Uw=>⟨_,rfl,fun h=>absurd h hz,fun _=>⟨_,_,_,_,_,_,_,_,_,_,_,_,rfl,gr0.le (Oi.trans (PJ.trans (Uw))),gs0.le Uw⟩⟩⟩
def K9:L3:=(0,0,0)
def Ie (V:View)(v:Value)(c:L3):Prop:=qM V v c.1 c.2.1 c.2.2/\Bd c
theorem Ie.le {V V':View}{v:Value}{c:L3}(h:Ie V v c)(l:V.Le V'):Ie V' v c:=⟨h.1.le l,h.2⟩
theorem Ie.shape {V:View}{v:Value}{c:L3}(h:Ie V v c):∃(x y:Int)(p:OA)(xb yb:Int)(pb:OA)(xc yc:Int)(pc:OA),v=.agg #[.int .i64 x,.int .i64 y,.pointer p,.int .i64 xb,.int .i64 yb,.pointer pb,.int .i64 xc,.int .i64 yc,.pointer pc]:=by
 obtain ⟨⟨x1,x2,p,y1,y2,q,z1,z2,r,e,-⟩,-⟩:=h;exact ⟨_,_,_,_,_,_,_,_,_,e⟩
end Go.Proofs.Tryz
namespace Go.Proofs.Tryz
open Go.Big
section
variable {α:Type} {c:α->α->Int} {d:α}
structure PQ (c:α->α->Int) (d:α) (l0 l:List α) (a0 b0 a b:Nat):Prop where
 PM:pY d l0 l a0 b0
 ha:a0<=a
 hab:a<=b
 hb:b<=b0
 lo:vi c d l a0 a
 hi:vi c d l b b0
 s1:Sep c d l a0 a b0
 s2:Sep c d l a0 b b0
 pre:0<a->∀k,a<=k->k<b->¬c (l.getD k d) (l.getD (a-1) d)<0
variable {l0 l m:List α} {a0 b0 a b mid:Nat}
theorem PQ.start {l:List α}(h:a<=b)(hp:0<a->∀k,a<=k->k<b->¬c (l.getD k d) (l.getD (a-1) d)<0):PQ c d l l a b a b:=
 ⟨.refl _ _ _,Nat.le_refl _,h,Nat.le_refl _,.short (by omega),.short (by omega),fun p q h1 h2=>by omega,fun p q h1 h2 h3 h4=>by omega,hp⟩
theorem PQ.change (h:PQ c d l0 l a0 b0 a b)(hs:pY d l m a b):PQ c d l0 m a0 b0 a b:=
 ⟨h.PM.trans (hs.wide h.ha h.hb),h.ha,h.hab,h.hb,hs.asc h.lo (.inl (Nat.le_refl _)),hs.asc h.hi (.inr (Nat.le_refl _)),hs.sep h.s1 (.inr (.inl ⟨Nat.le_refl _,h.hb⟩)),hs.sep h.s2 (.inl ⟨h.ha,Nat.le_refl _⟩),fun h0 k h1 h2=>by
  obtain ⟨k',h3,h4,e⟩:=hs.mem k h1 h2
  rw [e,hs.out (a-1) (by omega)]
  exact h.pre h0 k' h3 h4⟩
theorem PQ.fin (h:PQ c d l0 l a0 b0 a b)(hs:pY d l m a b)(ha:vi c d m a b):pY d l0 m a0 b0/\vi c d m a0 b0:=by
 have h':=h.change hs
 refine ⟨h'.PM,h'.lo.join (ha.join h'.hi fun p q h1 h2 h3 h4=>h'.s2 p q (by have:=h.ha;omega) h2 h3 h4) h'.s1⟩
theorem PQ.left (ho:Ord c)(h:PQ c d l0 l a0 b0 a b)(hm:a<=mid)(hm':mid<b)(h1:∀k,a<=k->k<mid->c (l.getD k d) (l.getD mid d)<0)(h2:∀k,mid<k->k<b->¬c (l.getD k d) (l.getD mid d)<0)
  (hs:pY d l m a mid)(ha:vi c d m a mid):PQ c d l0 m a0 b0 (mid+1) b:=by
 have e0:=h.ha
 have e1:=h.hb
 have em:m.getD mid d=l.getD mid d:=hs.out mid (by omega)
 have below:∀k,a<=k->k<mid->¬c (m.getD mid d) (m.getD k d)<0:=fun k g1 g2=>by
  obtain ⟨k',g3,g4,e⟩:=hs.mem k g1 g2
  rw [em,e];exact ho.MB _ _ (h1 k' g3 g4)
 have t1:=hs.sep h.s1 (.inr (.inl ⟨Nat.le_refl _,by omega⟩))
 have t2:=hs.sep h.s2 (.inl ⟨e0,by omega⟩)
 have up:∀q,mid<q->q<b->¬c (m.getD q d) (m.getD mid d)<0:=fun q g1 g2=>by rw [em,hs.out q (by omega)];exact h2 q g1 g2
 refine ⟨h.PM.trans (hs.wide e0 (by omega)),by omega,by omega,e1,(hs.asc h.lo (.inl (Nat.le_refl _))).join (m:=a) (fun p q g1 g2 g3=>?_) fun p q g1 g2 g3 g4=>t1 p q g1 g2 g3 (by omega),hs.asc h.hi (.inr (by omega)),fun p q g1 g2 g3 g4=>?_,t2,fun _ k g1 g2=>up k (by omega) g2⟩
 ·by_cases e:q=mid
  ·subst e;exact below p g1 g2
  ·exact ha p q g1 g2 (by omega)
 ·by_cases hq:b<=q
  ·exact t2 p q g1 (by omega) hq g4
  ·by_cases hp:p<a
   ·exact t1 p q g1 hp (by omega) g4
   ·have u:=up q (by omega) (by omega)
    by_cases e:p=mid
    ·subst e;exact u
    ·exact ho.tr _ _ _ u (below p (by omega) (by omega))
theorem PQ.right (ho:Ord c)(h:PQ c d l0 l a0 b0 a b)(hm:a<=mid)(hm':mid<b)(h1:∀k,a<=k->k<mid->c (l.getD k d) (l.getD mid d)<0)(h2:∀k,mid<k->k<b->¬c (l.getD k d) (l.getD mid d)<0)
  (hs:pY d l m (mid+1) b)(ha:vi c d m (mid+1) b):PQ c d l0 m a0 b0 a mid:=by
 have e0:=h.ha
 have e1:=h.hb
 have em:m.getD mid d=l.getD mid d:=hs.out mid (by omega)
 have up:∀q,mid<q->q<b->¬c (m.getD q d) (m.getD mid d)<0:=fun q g1 g2=>by
  obtain ⟨k',g3,g4,e⟩:=hs.mem q (by omega) g2
  rw [em,e];exact h2 k' (by omega) g4
 have below:∀k,a<=k->k<mid->¬c (m.getD mid d) (m.getD k d)<0:=fun k g1 g2=>by
  rw [em,hs.out k (by omega)];exact ho.MB _ _ (h1 k g1 g2)
 have t1:=hs.sep h.s1 (.inr (.inl ⟨by omega,e1⟩))
 have t2:=hs.sep h.s2 (.inl ⟨by omega,Nat.le_refl _⟩)
 have t3:=hs.asc h.hi (.inr (Nat.le_refl _))
 refine ⟨h.PM.trans (hs.wide (by omega) e1),e0,hm,by omega,hs.asc h.lo (.inl (by omega)),fun p q g1 g2 g3=>?_,t1,fun p q g1 g2 g3 g4=>?_,fun h0 k g1 g2=>?_⟩
 ·by_cases hq:q<b
  ·by_cases e:p=mid
   ·subst e;exact up q g2 hq
   ·exact ha p q (by omega) g2 hq
  ·by_cases hp:p<b
   ·exact t2 p q (by omega) hp (by omega) g3
   ·exact t3 p q (by omega) g2 g3
 ·by_cases hq:b<=q
  ·exact t2 p q g1 (by omega) hq g4
  ·by_cases hp:p<a
   ·exact t1 p q g1 hp (by omega) g4
   ·have u:=below p (by omega) g2
    by_cases e:q=mid
    ·subst e;exact u
    ·exact ho.tr _ _ _ (up q (by omega) (by omega)) u
 ·rw [hs.out k (by omega),hs.out (a-1) (by omega)];exact h.pre h0 k g1 (by omega)
structure HQ (c:α->α->Int) (d:α) (l:List α) (f i n:Nat):Prop where
 hp:Hp c d l f 0 i none
 asc:vi c d l (f+i) (f+n)
 sep:Sep c d l f (f+i) (f+n)
theorem HQ.start {f n:Nat}(h:Hp c d l f 0 n none):HQ c d l f n n:=⟨h,.short (by omega),fun p q h1 h2 h3 h4=>by omega⟩
theorem HQ.step (ho:Ord c){f k n:Nat}(h:HQ c d l f (k+1) n)(hk:k+1<=n)(hl:f+n<=l.length)(hs:pY d (qD d l f (f+k)) m f (f+k))(hm:Hp c d m f 0 k none):HQ c d m f k n:=by
 have ha:=fun x=>mW (d:=d) (l:=l) (i:=f) (j:=f+k) (k:=x) (by omega) (by omega)
 have out:∀q,f+k<q->m.getD q d=l.getD q d:=fun q hq=>by rw [hs.out q (by omega),ha,if_neg (by omega),if_neg (by omega)]
 have top:m.getD (f+k) d=l.getD f d:=by rw [hs.out (f+k) (by omega),ha,if_pos rfl]
 refine ⟨hm,fun p q g1 g2 g3=>?_,fun p q g1 g2 g3 g4=>?_⟩
 ·rw [out q (by omega)]
  by_cases e:p=f+k
  ·rw [e,top];exact h.sep f q (Nat.le_refl _) (by omega) (by omega) g3
  ·rw [out p (by omega)];exact h.asc p q (by omega) g2 g3
 ·have hp:∃j,j<k+1/\m.getD p d=l.getD (f+j) d:=by
   obtain ⟨p',e1,e2,e⟩:=hs.mem p g1 g2
   rw [e,ha,if_neg (by omega)]
   split
   ·exact ⟨k,by omega,rfl⟩
   ·exact ⟨p'-f,by omega,by rw [show f+(p'-f)=p' by omega]⟩
  obtain ⟨j,hj,e⟩:=hp
  rw [e]
  by_cases eq:q=f+k
  ·rw [eq,top];exact h.hp.top ho j hj
  ·rw [out q (by omega)];exact h.sep (f+j) q (by omega) (by omega) (by omega) g4
theorem HQ.fin {f n:Nat}(h:HQ c d l f 0 n):vi c d l f (f+n):=by have:=h.asc;simpa using this
structure PT (P:α->Prop) (d:α) (l:List α) (a b i j:Nat):Prop where
 hi:a<i
 I3:i<=j+1
 hj:j<b
 lo:∀k,a<k->k<i->P (l.getD k d)
 up:∀k,j<k->k<b->¬P (l.getD k d)
variable {P:α->Prop} {i j:Nat}
theorem PT.start (h:a+1<b):PT P d l a b (a+1) (b-1):=⟨by omega,by omega,by omega,fun k h1 h2=>by omega,fun k h1 h2=>by omega⟩
theorem PT.swap (h:PT P d l a b i j)(I3:i<=j)(hl:b<=l.length)(h1:¬P (l.getD i d))(h2:P (l.getD j d)):PT P d (qD d l i j) a b (i+1) (j-1)/\(qD d l i j).getD a d=l.getD a d/\pY d l (qD d l i j) a b:=by
 have e0:=h.hi
 have e1:=h.hj
 have ne:i≠j:=fun e=>h1 (e▸h2)
 have ha:=fun x=>mW (d:=d) (l:=l) (i:=i) (j:=j) (k:=x) (by omega) (by omega)
 refine ⟨⟨by omega,by omega,by omega,fun k g1 g2=>?_,fun k g1 g2=>?_⟩,by rw [ha,if_neg (by omega),if_neg (by omega)],pY.qD (by omega) (by omega) (by omega) e1 hl⟩
 ·rw [ha,if_neg (by omega)]
  by_cases e:k=i
  ·rw [if_pos e];exact h2
  ·rw [if_neg e];exact h.lo k g1 (by omega)
 ·rw [ha]
  by_cases e:k=j
  ·rw [if_pos e];exact h1
  ·rw [if_neg e,if_neg (by omega)];exact h.up k (by omega) g2
theorem PT.fin (ho:Ord c)(h:PT (fun x=>c x (l.getD a d)<0) d l a b i j)(I3:¬i<=j)(hl:b<=l.length):pY d l (qD d l j a) a b/\a<=j/\j<b /\
  (∀k,a<=k->k<j->c ((qD d l j a).getD k d) ((qD d l j a).getD j d)<0)/\(∀k,j<k->k<b->¬c ((qD d l j a).getD k d) ((qD d l j a).getD j d)<0):=by
 have e0:=h.hi
 have e1:=h.I3
 have e2:=h.hj
 have ha:=fun x=>mW (d:=d) (l:=l) (i:=j) (j:=a) (k:=x) (by omega) (by omega)
 have ej:(qD d l j a).getD j d=l.getD a d:=by
  rw [ha]
  by_cases e:j=a
  ·rw [if_pos e,e]
  ·rw [if_neg e,if_pos rfl]
 refine ⟨pY.qD (by omega) e2 (Nat.le_refl _) (by omega) hl,by omega,e2,fun k g1 g2=>?_,fun k g1 g2=>?_⟩
 ·rw [ej,ha]
  by_cases e:k=a
  ·rw [if_pos e];exact h.lo j (by omega) (by omega)
  ·rw [if_neg e,if_neg (by omega)];exact h.lo k (by omega) (by omega)
 ·rw [ej,ha,if_neg (by omega),if_neg (by omega)];exact h.up k g1 g2
end
end Go.Proofs.Tryz
namespace Go.Proofs.Tryz
open Go.Eng Go.Big
structure J8 (V:View) (n:Nat) (vs:List Value) (l:List L3):Prop where
 row:Row 9 Ie V vs l
 len:n=l.length
 Nr:l.length<50
theorem J8.le {V V':View}{n:Nat}{vs:List Value}{l:List L3}(h:J8 V n vs l)(e:V.Le V'):J8 V' n vs l:=⟨h.row.le fun _ _ g=>Ie.le g e,h.len,h.Nr⟩
theorem J8.get {V:View}{n:Nat}{vs:List Value}{l:List L3}(h:J8 V n vs l){k:Nat}(hk:k<l.length):∃(x y:Int)(p:OA)(xb yb:Int)(pb:OA)(xc yc:Int)(pc:OA),
  ((0+k*9)+9<=vs.length/\(vs.drop (0+k*9)).take 9=[.int .i64 x,.int .i64 y,.pointer p,.int .i64 xb,.int .i64 yb,.pointer pb,.int .i64 xc,.int .i64 yc,.pointer pc])/\Ie V (.agg #[.int .i64 x,.int .i64 y,.pointer p,.int .i64 xb,.int .i64 yb,.pointer pb,.int .i64 xc,.int .i64 yc,.pointer pc]) (l.getD k K9):=by
 obtain ⟨xs,-,h2,h3,h4⟩:=h.row.get (d:=K9) hk (by decide)
 have h20:=h2
 obtain ⟨x,y,p,xb,yb,pb,xc,yc,pc,e⟩:=h2.shape
 have e:=congrArg Array.toList (Value.agg.inj e)
 dsimp only at e
 subst e
 rw [Nat.zero_add]
 exact ⟨x,y,p,xb,yb,pb,xc,yc,pc,⟨h3,h4⟩,h20⟩
theorem J8.swap {V:View}{n:Nat}{vs:List Value}{l:List L3}(h:J8 V n vs l){i j:Nat}(hi:i<l.length)(hj:j<l.length){x y:Int}{p:OA}{xb yb:Int}{pb:OA}{xc yc:Int}{pc:OA}{x' y':Int}{p':OA}{Ms Mt:Int}{pb':OA}{JY SW:Int}{pc':OA}
  (h1:Ie V (.agg #[.int .i64 x,.int .i64 y,.pointer p,.int .i64 xb,.int .i64 yb,.pointer pb,.int .i64 xc,.int .i64 yc,.pointer pc]) (l.getD i K9))(h2:Ie V (.agg #[.int .i64 x',.int .i64 y',.pointer p',.int .i64 Ms,.int .i64 Mt,.pointer pb',.int .i64 JY,.int .i64 SW,.pointer pc']) (l.getD j K9)) :
  (0+i*9)+9<=vs.length/\(0+j*9)+9<=(cG vs (0+i*9) [.int .i64 x',.int .i64 y',.pointer p',.int .i64 Ms,.int .i64 Mt,.pointer pb',.int .i64 JY,.int .i64 SW,.pointer pc']).length /\
  J8 V n (cG (cG vs (0+i*9) [.int .i64 x',.int .i64 y',.pointer p',.int .i64 Ms,.int .i64 Mt,.pointer pb',.int .i64 JY,.int .i64 SW,.pointer pc']) (0+j*9) [.int .i64 x,.int .i64 y,.pointer p,.int .i64 xb,.int .i64 yb,.pointer pb,.int .i64 xc,.int .i64 yc,.pointer pc]) (qD K9 l i j):=by
 obtain ⟨-,-,-,g1,-⟩:=h.row.get (d:=K9) hi (by decide)
 obtain ⟨-,-,-,g2,-⟩:=h.row.get (d:=K9) hj (by decide)
 rw [Nat.zero_add,Nat.zero_add]
 refine ⟨g1,by rw [qC (by exact g1)];exact g2,h.row.swap hi hj (by decide) rfl rfl h1 h2,by rw [oC];exact h.len,by rw [oC];exact h.Nr⟩
structure GR {α:Type} (sz:Nat) (R:View->Value->α->Prop) (V:View) (n c:Nat) (vs:List Value) (l:List α):Prop where
 len:n=l.length
 le:n<=c
 cap:c*sz<=vs.length
 row:Row sz R V vs l
theorem GR.nil {α:Type}{sz:Nat}{R:View->Value->α->Prop}{V:View}:GR sz R V 0 0 [] []:=⟨rfl,Nat.le_refl _,by simp,Row.nil⟩
theorem GR.mono {α:Type}{sz:Nat}{R:View->Value->α->Prop}{V V':View}{n c:Nat}{vs:List Value}{l:List α}(h:GR sz R V n c vs l)(m:∀v a,R V v a->R V' v a):GR sz R V' n c vs l:=⟨h.len,h.le,h.cap,h.row.le m⟩
theorem GR.snoc {α:Type}{sz:Nat}{R:View->Value->α->Prop}{V:View}{n c:Nat}{vs:List Value}{l:List α}(h:GR sz R V n c vs l){xs:List Value}{a:α}(hx:xs.length=sz)(ha:R V (.agg xs.toArray) a)(h0:0<sz){sp:List Value}{c':Nat}(h1:n+1<=c')(h2:c'*sz<=(n+1)*sz+sp.length) :
  GR sz R V (n+1) c' (vs.take (n*sz)++xs++sp) (l++[a]):=by
 have hn:=h.len
 have hc:=h.cap
 have hl:n*sz<=c*sz:=Nat.mul_le_mul_right _ h.le
 refine ⟨by rw [List.length_append,hn];rfl,h1,?_,?_⟩
 ·have ht:(vs.take (n*sz)).length=n*sz:=by rw [List.length_take];omega
  rw [List.length_append,List.length_append,ht,hx]
  rw [Nat.succ_mul] at h2
  exact h2
 ·have:=h.row.snoc (sp:=sp) hx ha h0
  rw [←hn] at this
  exact this
def ka (l:L3):L3:=if l.1<0\/l.1=0/\l.2.1<0 then revL l else l
def Tr.Ov:Tr->List L3
 | .leaf _=>[]
 | .node l a b=>l::(a.Ov++b.Ov)
theorem yL {p:L3->Prop}:∀{t:Tr},t.All p->∀x∈t.Ov,p x
 | .leaf _,_,x,h=>by cases h
 | .node l a b,⟨h1,h2,h3⟩,x,h=>by
  rcases List.mem_cons.1 h with rfl|h
  ·exact h1
  ·rcases List.mem_append.1 h with h|h
   ·exact yL h2 x h
   ·exact yL h3 x h
theorem Bd.rev {l:L3}(h:Bd l):Bd (revL l):=by
 obtain ⟨h1,h2,h3⟩:=h
 unfold Bd revL
 simp only [Int.natAbs_neg]
 exact ⟨h1,h2,h3⟩
theorem Bd.can {l:L3}(h:Bd l):Bd (ka l):=by
 unfold ka;split
 ·exact h.rev
 ·exact h
theorem Bd.szl {l:L3}(h:Bd l):kE 1000 l:=⟨h.sz.1,h.sz.2.1,h.sz.2.2⟩
def lnS:List Tr->List L3
 | []=>[]
 | t::r=>t.Ov.map ka++lnS r
end Go.Proofs.Tryz
namespace Go.Proofs.Tryz.Sec
open Go.Eng Go.Big
def nv (l:L3)(v:V2):Rat:=(l.1:Rat)*v.1+(l.2.1:Rat)*v.2
def dirL (l:L3):V2:=((l.2.1:Rat),-(l.1:Rat))
theorem D_ (l:L3)(v:V2):nv l v=cr (dirL l) v:=by unfold nv cr dirL;grind
def Mk (l:L3)(p v:V2):Int:=if (aj l p.1 p.2).num.sign=0 then (nv l v).num.sign else (aj l p.1 p.2).num.sign
def BA:Tr->V2->V2->Bool×Bool
 | .leaf i,_,_=>(i,true)
 | .node l a b,p,v=>if Mk l p v=1 then BA a p v else if Mk l p v=-1 then BA b p v else (false,false)
def jE:Tr->V2->List L3
 | .leaf _,_=>[]
 | .node l a b,p=>(if aj l p.1 p.2=0 then [l] else [])++((if aj l p.1 p.2≥0 then jE a p else [])++(if aj l p.1 p.2<=0 then jE b p else []))
theorem tR:∀{t:Tr} {p:V2} {l:L3},l∈jE t p->aj l p.1 p.2=0/\l∈t.Ov
 | .leaf _,_,_,h=>by cases h
 | .node m a b,p,l,h=>by
  unfold jE at h
  simp only [List.mem_append] at h
  rcases h with h|h|h
  ·split at h
   ·rename_i e;rcases List.mem_singleton.1 h with rfl;exact ⟨e,List.mem_cons_self ..⟩
   ·cases h
  ·split at h
   ·have:=tR h;exact ⟨this.1,List.mem_cons_of_mem _ (List.mem_append_left _ this.2)⟩
   ·cases h
  ·split at h
   ·have:=tR h;exact ⟨this.1,List.mem_cons_of_mem _ (List.mem_append_right _ this.2)⟩
   ·cases h
theorem ui {q:Rat}:q.num.sign=-1↔q<0:=by
 rw [Int.sign_eq_neg_one_iff_neg,←Int.not_le,←Rat.not_le,Rat.num_nonneg]
theorem zg {q:Rat}:q.num.sign=1↔q>0:=by
 have h:=@ui (-q)
 rw [Rat.neg_num,Int.sign_neg] at h
 constructor
 ·intro e;have:=h.1 (by rw [e]);grind
 ·intro e;have:=h.2 (by grind);omega
theorem iQ {q:Rat}:q.num.sign=0↔q=0:=by rw [Int.sign_eq_zero_iff_zero,Rat.num_eq_zero]
theorem ux:∀{t:Tr} {p v x:V2},(∀l∈jE t p,nv l v≠0)->(∀l∈jE t p,(nv l v>0->nv l x>0)/\(nv l v<0->nv l x<0)) ->
  BA t p x=BA t p v/\(BA t p v).2=true
 | .leaf _,_,_,_,_,_=>⟨rfl,rfl⟩
 | .node l a b,p,v,x,h0,h1=>by
  have ha:aj l p.1 p.2≥0->BA a p x=BA a p v/\(BA a p v).2=true:=fun e=>by
   have sub:∀m∈jE a p,m∈jE (.node l a b) p:=fun m hm=>by
    unfold jE
    rw [if_pos e]
    exact List.mem_append_right _ (List.mem_append_left _ hm)
   exact ux (fun m hm=>h0 m (sub m hm)) (fun m hm=>h1 m (sub m hm))
  have hb:aj l p.1 p.2<=0->BA b p x=BA b p v/\(BA b p v).2=true:=fun e=>by
   have sub:∀m∈jE b p,m∈jE (.node l a b) p:=fun m hm=>by
    unfold jE
    rw [if_pos e]
    exact List.mem_append_right _ (List.mem_append_right _ hm)
   exact ux (fun m hm=>h0 m (sub m hm)) (fun m hm=>h1 m (sub m hm))
  have hl:aj l p.1 p.2=0->l∈jE (.node l a b) p:=fun e=>by
   unfold jE
   rw [if_pos e]
   exact List.mem_append_left _ (List.mem_singleton.2 rfl)
  have key:Mk l p x=Mk l p v/\(Mk l p v=1/\aj l p.1 p.2≥0\/Mk l p v=-1/\aj l p.1 p.2<=0):=by
   unfold Mk
   by_cases e:aj l p.1 p.2=0
   ·have hm:=hl e
    rw [if_pos (iQ.2 e),if_pos (iQ.2 e)]
    obtain ⟨q1,q2⟩:=h1 l hm
    have q0:=h0 l hm
    by_cases q:nv l v>0
    ·rw [zg.2 q,zg.2 (q1 q)];exact ⟨rfl,.inl ⟨rfl,by grind⟩⟩
    ·have q':nv l v<0:=by grind
     rw [ui.2 q',ui.2 (q2 q')];exact ⟨rfl,.inr ⟨rfl,by grind⟩⟩
   ·have e':¬(aj l p.1 p.2).num.sign=0:=fun h=>e (iQ.1 h)
    rw [if_neg e',if_neg e']
    refine ⟨rfl,?_⟩
    by_cases q:aj l p.1 p.2>0
    ·exact .inl ⟨zg.2 q,by grind⟩
    ·exact .inr ⟨ui.2 (by grind),by grind⟩
  obtain ⟨k1,k2⟩:=key
  simp only [BA,k1]
  rcases k2 with ⟨e,g⟩|⟨e,g⟩
  ·rw [e,if_pos rfl,if_pos rfl];exact ha g
  ·rw [e,if_neg (by decide),if_pos rfl,if_neg (by decide),if_pos rfl];exact hb g
def Mw (D:List V2)(M:List L3):Prop:=∀l∈M,∃r∈D,∃c:Rat,c>0/\r=(c*(dirL l).1,c*(dirL l).2)
theorem Cz {l:L3}{r:V2}{c:Rat}(c0:c>0)(e:r=(c*(dirL l).1,c*(dirL l).2))(v:V2):cr r v=c*nv l v:=by
 rw [D_,e];unfold cr;grind
theorem D6 {c x:Rat}(c0:c>0):(c*x>0↔x>0)/\(c*x<0↔x<0)/\(c*x=0↔x=0):=by
 have p:x>0->c*x>0:=fun h=>mp c0 h
 have n:x<0->c*x<0:=fun h=>by have:=mp c0 (show -x>0 by grind);grind
 have z:x=0->c*x=0:=fun h=>by rw [h];grind
 refine ⟨⟨fun h=>?_,p⟩,⟨fun h=>?_,n⟩,⟨fun h=>?_,z⟩⟩
 ·by_cases q:x>0
  ·exact q
  ·by_cases q':x<0
   ·have:=n q';grind
   ·have:=z (by grind);grind
 ·by_cases q:x<0
  ·exact q
  ·by_cases q':x>0
   ·have:=p q';grind
   ·have:=z (by grind);grind
 ·rcases Rat.mul_eq_zero.1 h with h|h
  ·grind
  ·exact h
theorem Mw.gen {D:List V2}{M:List L3}(h:Mw D M){v:V2}(hv:∀r∈D,cr r v≠0):∀l∈M,nv l v≠0:=by
 intro l hl e
 obtain ⟨r,hr,c,c0,e'⟩:=h l hl
 exact hv r hr (by rw [Cz c0 e',e];grind)
theorem Mw.same {D:List V2}{M:List L3}(h:Mw D M){v x:V2}(hv:∀r∈D,(cr r v>0->cr r x>0)/\(cr r v<0->cr r x<0)) :
  ∀l∈M,(nv l v>0->nv l x>0)/\(nv l v<0->nv l x<0):=by
 intro l hl
 obtain ⟨r,hr,c,c0,e'⟩:=h l hl
 have:=hv r hr
 rw [Cz c0 e',Cz c0 e'] at this
 obtain ⟨a1,a2,_⟩:=@D6 c (nv l v) c0
 obtain ⟨b1,b2,_⟩:=@D6 c (nv l x) c0
 exact ⟨fun h=>b1.1 (this.1 (a1.2 h)),fun h=>b2.1 (this.2 (a2.2 h))⟩
def anyS (t:Tr)(p:V2)(S:List V2):Bool:=S.any fun v=>(BA t p v).1
def Iw (t:Tr)(p:V2)(S:List V2):Bool:=S.all fun v=>(BA t p v).1
theorem fy (l:L3)(p v:V2)(s:Rat):aj l (p.1+s*v.1) (p.2+s*v.2)=aj l p.1 p.2+s*nv l v:=by unfold aj nv;grind
theorem inv_mul {c:Rat}(h:c≠0)(a:Rat):a*c⁻¹*c=a:=by rw [Rat.mul_assoc,Rat.inv_mul_cancel _ h,Rat.mul_one]
end Go.Proofs.Tryz.Sec
