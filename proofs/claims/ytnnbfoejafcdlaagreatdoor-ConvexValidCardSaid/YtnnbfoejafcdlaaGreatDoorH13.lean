import Derived.Test.YtnnbfoejafcdlaaGreatDoorH12
import Derived.Test.YtnnbfoejafcdlaaGreatDoorH7
import Derived.Test.YtnnbfoejafcdlaaGreatDoorH5
import Derived.Test.YtnnbfoejafcdlaaGreatDoorH11
import Derived.Test.YtnnbfoejafcdlaaGreatDoorH9
set_option linter.unusedVariables false
open Go.IntKind (i64 u64 u32)
namespace Go.Proofs.Tryz
open Go.bE Go.dP
theorem oa {V:View}{v:Value}{q:Rat}(h:RQ V v q){k:Nat}(_s:Sz k q)(_hk:k<=1099511627776):ab prog 57 #[v] V fun r V'=>RQ V' r (-q):=by
 obtain ⟨p,n,c,p',n',c',rfl,h1,h2⟩:=h
 exact kg q h1 h2
theorem aZ {V:View}{z:Int}{p:OA}{n c:Nat}(h:RD V p n c (ag z.natAbs)){k:Nat}(_s:Sz k (z:Rat))(_hk:k<=1099511627776) :
  ab prog 156 #[.agg #[.bool (decide (z<0)),.slice p n c]] V fun r V'=>RQ V' r (z:Rat):=HH z h
theorem fq {V:View}{l:Value}{aA l_1 bH:Int}(hl:RL V l aA l_1 bH){k:Nat}(bj:Sz k ((aA:Int):Rat))(br:Sz k ((l_1:Int):Rat))(bo:Sz k ((bH:Int):Rat))(hk:1*k+1<274877906944) :
  ab prog 87 #[l] V fun r V'=>RP V' r (((l_1:Int):Rat)) (-(((aA:Int):Rat))):=by
 have hl0:=hl
 obtain ⟨l0,l1,l2,l3,l4,l5,l6,l7,l8,rfl,pE,pF,qT⟩:=hl
 refine BW _ l0 l1 l2 _ l3 l4 l5 _ l6 l7 l8 V _ fun V1 l1=>(aZ (pF.le (l1)) br (by omega)).mono ?_
 rintro r V2 l2 g1
 have g10:=g1
 obtain ⟨Pk,Pm,Pn,Yb,Yc,Yd,rfl⟩:=g1.shape
 have aW:Sz (1*k+0) (((l_1:Int):Rat)):=Sz.mono (br) (by omega)
 refine ⟨_,_,_,_,_,_,_,rfl,fun V3 l3=>(aZ (pE.le (l1.trans (l2.trans (l3)))) bj (by omega)).mono ?_⟩
 rintro r V4 l4 g2
 have g20:=g2
 obtain ⟨Lo,Lp,Lq,S5,S6,S7,rfl⟩:=g2.shape
 have bF:Sz (1*k+0) (((aA:Int):Rat)):=Sz.mono (bj) (by omega)
 refine ⟨_,_,_,_,_,_,_,rfl,fun V5 l5=>(oa (g20.le (l5)) bF (by omega)).mono ?_⟩
 rintro r V6 l6 g3
 have kD:=g3
 obtain ⟨NU,NV,NW,S8,S9,S_,rfl⟩:=g3.shape
 have cE:Sz (1*k+0) (-(((aA:Int):Rat))):=Sz.mono (Sz.neg bF) (by omega)
 exact ⟨_,_,_,_,_,_,_,rfl,fun V7 l7=>⟨_,_,_,_,_,_,_,_,_,_,_,_,rfl,(g10.le (l3.trans (l4.trans (l5.trans (l6.trans (l7)))))),(kD.le (l7))⟩⟩
theorem eY {aA:Int}{l_1:Int}{bH:Int}{k:Nat}(bj:Sz k ((aA:Int):Rat))(br:Sz k ((l_1:Int):Rat))(bo:Sz k ((bH:Int):Rat)):Sz (1*k+0) (((l_1:Int):Rat)):=by
 have aW:Sz (1*k+0) (((l_1:Int):Rat)):=Sz.mono (br) (by omega)
 have bF:Sz (1*k+0) (((aA:Int):Rat)):=Sz.mono (bj) (by omega)
 have cE:Sz (1*k+0) (-(((aA:Int):Rat))):=Sz.mono (Sz.neg bF) (by omega)
 exact Sz.mono aW (by omega)
theorem eZ {aA:Int}{l_1:Int}{bH:Int}{k:Nat}(bj:Sz k ((aA:Int):Rat))(br:Sz k ((l_1:Int):Rat))(bo:Sz k ((bH:Int):Rat)):Sz (1*k+0) (-(((aA:Int):Rat))):=by
 have aW:Sz (1*k+0) (((l_1:Int):Rat)):=Sz.mono (br) (by omega)
 have bF:Sz (1*k+0) (((aA:Int):Rat)):=Sz.mono (bj) (by omega)
 have cE:Sz (1*k+0) (-(((aA:Int):Rat))):=Sz.mono (Sz.neg bF) (by omega)
 exact Sz.mono cE (by omega)
theorem l_ {V:View}{p:Value}{cS cU:Rat}{q:Value}{jA jB:Rat}(hp:RP V p cS cU)(hq:RP V q jA jB){k:Nat}(dB:Sz k cS)(dC:Sz k cU)(jQ:Sz k jA)(jR:Sz k jB)(hk:4*k+3<274877906944) :
  ab prog 194 #[p,q] V fun r V'=>RQ V' r (((cS)*(jA))+((cU)*(jB))):=by
 have hp0:=hp
 obtain ⟨p0,p1,p2,p3,p4,p5,p6,p7,p8,p9,G5,My,rfl,qU,qV⟩:=hp
 have hq0:=hq
 obtain ⟨q0,q1,q2,q3,q4,q5,q6,q7,q8,q9,MC,q11,rfl,Fe,Ff⟩:=hq
 refine BX _ p0 p1 p2 p3 p4 p5 _ p6 p7 p8 p9 G5 My _ q0 q1 q2 q3 q4 q5 _ q6 q7 q8 q9 MC q11 V _ fun V1 l1=>(aM (qU.le (l1)) (Fe.le (l1)) dB jQ (by omega)).mono ?_
 rintro r V2 l2 g1
 have g10:=g1
 obtain ⟨Pk,Pm,Pn,Yb,Yc,Yd,rfl⟩:=g1.shape
 have aW:Sz (2*k+1) ((cS)*(jA)):=Sz.mono (Sz.mul dB jQ) (by omega)
 refine ⟨_,_,_,_,_,_,_,rfl,fun V3 l3=>(aM (qV.le (l1.trans (l2.trans (l3)))) (Ff.le (l1.trans (l2.trans (l3)))) dC jR (by omega)).mono ?_⟩
 rintro r V4 l4 g2
 have g20:=g2
 obtain ⟨Lo,Lp,Lq,S5,S6,S7,rfl⟩:=g2.shape
 have bF:Sz (2*k+1) ((cU)*(jB)):=Sz.mono (Sz.mul dC jR) (by omega)
 refine ⟨_,_,_,_,_,_,_,rfl,fun V5 l5=>(dz (g10.le (l3.trans (l4.trans (l5)))) (g20.le (l5)) aW bF (by omega)).mono ?_⟩
 rintro r V6 l6 g3
 have kD:=g3
 obtain ⟨NU,NV,NW,S8,S9,S_,rfl⟩:=g3.shape
 have cE:Sz (4*k+3) (((cS)*(jA))+((cU)*(jB))):=Sz.mono (Sz.add aW bF) (by omega)
 exact ⟨_,_,_,_,_,_,_,rfl,fun V7 l7=>(kD.le (l7))⟩
theorem e_ {cS:Rat}{cU:Rat}{jA:Rat}{jB:Rat}{k:Nat}(dB:Sz k cS)(dC:Sz k cU)(jQ:Sz k jA)(jR:Sz k jB):Sz (4*k+3) (((cS)*(jA))+((cU)*(jB))):=by
 have aW:Sz (2*k+1) ((cS)*(jA)):=Sz.mono (Sz.mul dB jQ) (by omega)
 have bF:Sz (2*k+1) ((cU)*(jB)):=Sz.mono (Sz.mul dC jR) (by omega)
 have cE:Sz (4*k+3) (((cS)*(jA))+((cU)*(jB))):=Sz.mono (Sz.add aW bF) (by omega)
 exact Sz.mono cE (by omega)
theorem gM {V:View}{l:Value}{aA l_1 bH:Int}{p:Value}{cS cU:Rat}(hl:RL V l aA l_1 bH)(hp:RP V p cS cU){k:Nat}(bj:Sz k ((aA:Int):Rat))(br:Sz k ((l_1:Int):Rat))(bo:Sz k ((bH:Int):Rat))(dB:Sz k cS)(dC:Sz k cU)(hk:5*k+4<274877906944) :
  ab prog 129 #[l,p] V fun r V'=>RQ V' r ((((((aA:Int):Rat))*(cS))+((((l_1:Int):Rat))*(cU)))+(((bH:Int):Rat))):=by
 have hl0:=hl
 obtain ⟨l0,l1,l2,l3,l4,l5,l6,l7,l8,rfl,pE,pF,qT⟩:=hl
 have hp0:=hp
 obtain ⟨p0,p1,p2,p3,p4,p5,p6,p7,p8,p9,G5,My,rfl,qU,qV⟩:=hp
 refine wW _ l0 l1 l2 _ l3 l4 l5 _ l6 l7 l8 _ p0 p1 p2 p3 p4 p5 _ p6 p7 p8 p9 G5 My V _ fun V1 l1=>(aZ (pE.le (l1)) bj (by omega)).mono ?_
 rintro r V2 l2 g1
 have g10:=g1
 obtain ⟨Pk,Pm,Pn,Yb,Yc,Yd,rfl⟩:=g1.shape
 have aW:Sz (1*k+0) (((aA:Int):Rat)):=Sz.mono (bj) (by omega)
 refine ⟨_,_,_,_,_,_,_,rfl,fun V3 l3=>(aM (g10.le (l3)) (qU.le (l1.trans (l2.trans (l3)))) aW dB (by omega)).mono ?_⟩
 rintro r V4 l4 g2
 have g20:=g2
 obtain ⟨Lo,Lp,Lq,S5,S6,S7,rfl⟩:=g2.shape
 have bF:Sz (2*k+1) ((((aA:Int):Rat))*(cS)):=Sz.mono (Sz.mul aW dB) (by omega)
 refine ⟨_,_,_,_,_,_,_,rfl,fun V5 l5=>(aZ (pF.le (l1.trans (l2.trans (l3.trans (l4.trans (l5)))))) br (by omega)).mono ?_⟩
 rintro r V6 l6 g3
 have kD:=g3
 obtain ⟨NU,NV,NW,S8,S9,S_,rfl⟩:=g3.shape
 have cE:Sz (1*k+0) (((l_1:Int):Rat)):=Sz.mono (br) (by omega)
 refine ⟨_,_,_,_,_,_,_,rfl,fun V7 l7=>(aM (kD.le (l7)) (qV.le (l1.trans (l2.trans (l3.trans (l4.trans (l5.trans (l6.trans (l7)))))))) cE dC (by omega)).mono ?_⟩
 rintro r V8 l8 g4
 have E6:=g4
 obtain ⟨Wi,Wj,Wk,Yj,Yk,Yl,rfl⟩:=g4.shape
 have iF:Sz (2*k+1) ((((l_1:Int):Rat))*(cU)):=Sz.mono (Sz.mul cE dC) (by omega)
 refine ⟨_,_,_,_,_,_,_,rfl,fun V9 l9=>(dz (g20.le (l5.trans (l6.trans (l7.trans (l8.trans (l9)))))) (E6.le (l9)) bF iF (by omega)).mono ?_⟩
 rintro r jG l10 g5
 have JA:=g5
 obtain ⟨w4a,w4b,w4c,w4d,w4e,w4f,rfl⟩:=g5.shape
 have mO:Sz (4*k+3) (((((aA:Int):Rat))*(cS))+((((l_1:Int):Rat))*(cU))):=Sz.mono (Sz.add bF iF) (by omega)
 refine ⟨_,_,_,_,_,_,_,rfl,fun jZ bI=>(aZ (qT.le (l1.trans (l2.trans (l3.trans (l4.trans (l5.trans (l6.trans (l7.trans (l8.trans (l9.trans (l10.trans (bI)))))))))))) bo (by omega)).mono ?_⟩
 rintro r mQ bV g6
 have Om:=g6
 obtain ⟨w5a,w5b,w5c,w5d,w5e,w5f,rfl⟩:=g6.shape
 have B6:Sz (1*k+0) (((bH:Int):Rat)):=Sz.mono (bo) (by omega)
 refine ⟨_,_,_,_,_,_,_,rfl,fun qv cC=>(dz (JA.le (bI.trans (bV.trans (cC)))) (Om.le (cC)) mO B6 (by omega)).mono ?_⟩
 rintro r mS du g7
 have LS:=g7
 obtain ⟨w6a,w6b,w6c,w6d,w6e,w6f,rfl⟩:=g7.shape
 have M7:Sz (5*k+4) ((((((aA:Int):Rat))*(cS))+((((l_1:Int):Rat))*(cU)))+(((bH:Int):Rat))):=Sz.mono (Sz.add mO B6) (by omega)
 exact ⟨_,_,_,_,_,_,_,rfl,fun lH dv=>(LS.le (dv))⟩
theorem xG {V:View}{l:Value}{aA l_1 bH:Int}{p:Value}{cS cU:Rat}(hl:RL V l aA l_1 bH)(hp:RP V p cS cU)(hd0:((((((l_1:Int):Rat)))*((((l_1:Int):Rat))))+(((-(((aA:Int):Rat))))*((-(((aA:Int):Rat)))))).num≠0){k:Nat}(bj:Sz k ((aA:Int):Rat))(br:Sz k ((l_1:Int):Rat))(bo:Sz k ((bH:Int):Rat))(dB:Sz k cS)(dC:Sz k cU)(hk:8*k+7<274877906944) :
  ab prog 154 #[l,p] V fun r V'=>RQ V' r ((((cS)*((((l_1:Int):Rat))))+((cU)*((-(((aA:Int):Rat))))))*((((((l_1:Int):Rat)))*((((l_1:Int):Rat))))+(((-(((aA:Int):Rat))))*((-(((aA:Int):Rat))))))⁻¹):=by
 have hl0:=hl
 obtain ⟨l0,l1,l2,l3,l4,l5,l6,l7,l8,rfl,pE,pF,qT⟩:=hl
 have hp0:=hp
 obtain ⟨p0,p1,p2,p3,p4,p5,p6,p7,p8,p9,G5,My,rfl,qU,qV⟩:=hp
 refine wT _ l0 l1 l2 _ l3 l4 l5 _ l6 l7 l8 _ p0 p1 p2 p3 p4 p5 _ p6 p7 p8 p9 G5 My V _ fun V1 l1=>(fq (hl0.le (l1)) (Sz.mono bj (by omega):Sz (1*k+0) _) (Sz.mono br (by omega):Sz (1*k+0) _) (Sz.mono bo (by omega):Sz (1*k+0) _) (by omega)).mono ?_
 rintro r V2 l2 g1
 have g10:=g1
 obtain ⟨K5,K6,K7,K8,K9,K_,Sg,Si,Sj,Sk,NQ,NT,rfl,Jy,Jz⟩:=g1
 have aW:Sz (1*k+0) (((l_1:Int):Rat)):=Sz.mono ((eY (Sz.mono bj (by omega):Sz (1*k+0) _) (Sz.mono br (by omega):Sz (1*k+0) _) (Sz.mono bo (by omega):Sz (1*k+0) _))) (by omega)
 have bU:Sz (1*k+0) (-(((aA:Int):Rat))):=Sz.mono ((eZ (Sz.mono bj (by omega):Sz (1*k+0) _) (Sz.mono br (by omega):Sz (1*k+0) _) (Sz.mono bo (by omega):Sz (1*k+0) _))) (by omega)
 refine ⟨_,_,_,_,_,_,_,_,_,_,_,_,_,_,rfl,fun V3 l3=>(l_ (hp0.le (l1.trans (l2.trans (l3)))) (g10.le (l3)) (Sz.mono dB (by omega):Sz (1*k+0) _) (Sz.mono dC (by omega):Sz (1*k+0) _) (Sz.mono aW (by omega):Sz (1*k+0) _) (Sz.mono bU (by omega):Sz (1*k+0) _) (by omega)).mono ?_⟩
 rintro r V4 l4 g2
 have g20:=g2
 obtain ⟨Lo,Lp,Lq,S5,S6,S7,rfl⟩:=g2.shape
 have bF:Sz (4*k+3) (((cS)*((((l_1:Int):Rat))))+((cU)*((-(((aA:Int):Rat)))))):=Sz.mono ((e_ (Sz.mono dB (by omega):Sz (1*k+0) _) (Sz.mono dC (by omega):Sz (1*k+0) _) (Sz.mono aW (by omega):Sz (1*k+0) _) (Sz.mono bU (by omega):Sz (1*k+0) _))) (by omega)
 refine ⟨_,_,_,_,_,_,_,rfl,fun V5 l5=>(l_ (g10.le (l3.trans (l4.trans (l5)))) (g10.le (l3.trans (l4.trans (l5)))) (Sz.mono aW (by omega):Sz (1*k+0) _) (Sz.mono bU (by omega):Sz (1*k+0) _) (Sz.mono aW (by omega):Sz (1*k+0) _) (Sz.mono bU (by omega):Sz (1*k+0) _) (by omega)).mono ?_⟩
 rintro r V6 l6 g3
 have kD:=g3
 obtain ⟨NU,NV,NW,S8,S9,S_,rfl⟩:=g3.shape
 have cE:Sz (4*k+3) ((((((l_1:Int):Rat)))*((((l_1:Int):Rat))))+(((-(((aA:Int):Rat))))*((-(((aA:Int):Rat)))))):=Sz.mono ((e_ (Sz.mono aW (by omega):Sz (1*k+0) _) (Sz.mono bU (by omega):Sz (1*k+0) _) (Sz.mono aW (by omega):Sz (1*k+0) _) (Sz.mono bU (by omega):Sz (1*k+0) _))) (by omega)
 refine ⟨_,_,_,_,_,_,_,rfl,fun V7 l7=>(gC (g20.le (l5.trans (l6.trans (l7)))) (kD.le (l7)) hd0 bF cE (by omega)).mono ?_⟩
 rintro r V8 l8 g4
 have E6:=g4
 obtain ⟨Wi,Wj,Wk,Yj,Yk,Yl,rfl⟩:=g4.shape
 have iF:Sz (8*k+7) ((((cS)*((((l_1:Int):Rat))))+((cU)*((-(((aA:Int):Rat))))))*((((((l_1:Int):Rat)))*((((l_1:Int):Rat))))+(((-(((aA:Int):Rat))))*((-(((aA:Int):Rat))))))⁻¹):=Sz.mono (Sz.mul bF (cY cE)) (by omega)
 exact ⟨_,_,_,_,_,_,_,rfl,fun V9 l9=>(E6.le (l9))⟩
theorem o_ {V:View}{l:Value}{aA l_1 bH:Int}(hl:RL V l aA l_1 bH)(hd0:((((((l_1:Int):Rat)))*((((l_1:Int):Rat))))+(((-(((aA:Int):Rat))))*((-(((aA:Int):Rat)))))).num≠0){k:Nat}(bj:Sz k ((aA:Int):Rat))(br:Sz k ((l_1:Int):Rat))(bo:Sz k ((bH:Int):Rat))(hk:6*k+5<274877906944) :
  ab prog 153 #[l] V fun r V'=>RP V' r ((-((((bH:Int):Rat))*((((((l_1:Int):Rat)))*((((l_1:Int):Rat))))+(((-(((aA:Int):Rat))))*((-(((aA:Int):Rat))))))⁻¹))*(((aA:Int):Rat))) ((-((((bH:Int):Rat))*((((((l_1:Int):Rat)))*((((l_1:Int):Rat))))+(((-(((aA:Int):Rat))))*((-(((aA:Int):Rat))))))⁻¹))*(((l_1:Int):Rat))):=by
 have hl0:=hl
 obtain ⟨l0,l1,l2,l3,l4,l5,l6,l7,l8,rfl,pE,pF,qT⟩:=hl
 refine yD _ l0 l1 l2 _ l3 l4 l5 _ l6 l7 l8 V _ fun V1 l1=>(fq (hl0.le (l1)) (Sz.mono bj (by omega):Sz (1*k+0) _) (Sz.mono br (by omega):Sz (1*k+0) _) (Sz.mono bo (by omega):Sz (1*k+0) _) (by omega)).mono ?_
 rintro r V2 l2 g1
 have g10:=g1
 obtain ⟨K5,K6,K7,K8,K9,K_,Sg,Si,Sj,Sk,NQ,NT,rfl,Jy,Jz⟩:=g1
 have aW:Sz (1*k+0) (((l_1:Int):Rat)):=Sz.mono ((eY (Sz.mono bj (by omega):Sz (1*k+0) _) (Sz.mono br (by omega):Sz (1*k+0) _) (Sz.mono bo (by omega):Sz (1*k+0) _))) (by omega)
 have bU:Sz (1*k+0) (-(((aA:Int):Rat))):=Sz.mono ((eZ (Sz.mono bj (by omega):Sz (1*k+0) _) (Sz.mono br (by omega):Sz (1*k+0) _) (Sz.mono bo (by omega):Sz (1*k+0) _))) (by omega)
 refine ⟨_,_,_,_,_,_,_,_,_,_,_,_,_,_,rfl,fun V3 l3=>(aZ (qT.le (l1.trans (l2.trans (l3)))) bo (by omega)).mono ?_⟩
 rintro r V4 l4 g2
 have g20:=g2
 obtain ⟨Lo,Lp,Lq,S5,S6,S7,rfl⟩:=g2.shape
 have bF:Sz (1*k+0) (((bH:Int):Rat)):=Sz.mono (bo) (by omega)
 refine ⟨_,_,_,_,_,_,_,rfl,fun V5 l5=>(l_ (g10.le (l3.trans (l4.trans (l5)))) (g10.le (l3.trans (l4.trans (l5)))) (Sz.mono aW (by omega):Sz (1*k+0) _) (Sz.mono bU (by omega):Sz (1*k+0) _) (Sz.mono aW (by omega):Sz (1*k+0) _) (Sz.mono bU (by omega):Sz (1*k+0) _) (by omega)).mono ?_⟩
 rintro r V6 l6 g3
 have kD:=g3
 obtain ⟨NU,NV,NW,S8,S9,S_,rfl⟩:=g3.shape
 have cE:Sz (4*k+3) ((((((l_1:Int):Rat)))*((((l_1:Int):Rat))))+(((-(((aA:Int):Rat))))*((-(((aA:Int):Rat)))))):=Sz.mono ((e_ (Sz.mono aW (by omega):Sz (1*k+0) _) (Sz.mono bU (by omega):Sz (1*k+0) _) (Sz.mono aW (by omega):Sz (1*k+0) _) (Sz.mono bU (by omega):Sz (1*k+0) _))) (by omega)
 refine ⟨_,_,_,_,_,_,_,rfl,fun V7 l7=>(gC (g20.le (l5.trans (l6.trans (l7)))) (kD.le (l7)) hd0 bF cE (by omega)).mono ?_⟩
 rintro r V8 l8 g4
 have E6:=g4
 obtain ⟨Wi,Wj,Wk,Yj,Yk,Yl,rfl⟩:=g4.shape
 have iF:Sz (5*k+4) ((((bH:Int):Rat))*((((((l_1:Int):Rat)))*((((l_1:Int):Rat))))+(((-(((aA:Int):Rat))))*((-(((aA:Int):Rat))))))⁻¹):=Sz.mono (Sz.mul bF (cY cE)) (by omega)
 refine ⟨_,_,_,_,_,_,_,rfl,fun V9 l9=>(oa (E6.le (l9)) iF (by omega)).mono ?_⟩
 rintro r jG l10 g5
 have JA:=g5
 obtain ⟨w4a,w4b,w4c,w4d,w4e,w4f,rfl⟩:=g5.shape
 have mO:Sz (5*k+4) (-((((bH:Int):Rat))*((((((l_1:Int):Rat)))*((((l_1:Int):Rat))))+(((-(((aA:Int):Rat))))*((-(((aA:Int):Rat))))))⁻¹)):=Sz.mono (Sz.neg iF) (by omega)
 refine ⟨_,_,_,_,_,_,_,rfl,fun jZ bI=>(aZ (pE.le (l1.trans (l2.trans (l3.trans (l4.trans (l5.trans (l6.trans (l7.trans (l8.trans (l9.trans (l10.trans (bI)))))))))))) bj (by omega)).mono ?_⟩
 rintro r mQ bV g6
 have Om:=g6
 obtain ⟨w5a,w5b,w5c,w5d,w5e,w5f,rfl⟩:=g6.shape
 have B6:Sz (1*k+0) (((aA:Int):Rat)):=Sz.mono (bj) (by omega)
 refine ⟨_,_,_,_,_,_,_,rfl,fun qv cC=>(aM (JA.le (bI.trans (bV.trans (cC)))) (Om.le (cC)) mO B6 (by omega)).mono ?_⟩
 rintro r mS du g7
 have LS:=g7
 obtain ⟨w6a,w6b,w6c,w6d,w6e,w6f,rfl⟩:=g7.shape
 have M7:Sz (6*k+5) ((-((((bH:Int):Rat))*((((((l_1:Int):Rat)))*((((l_1:Int):Rat))))+(((-(((aA:Int):Rat))))*((-(((aA:Int):Rat))))))⁻¹))*(((aA:Int):Rat))):=Sz.mono (Sz.mul mO B6) (by omega)
 refine ⟨_,_,_,_,_,_,_,rfl,fun lH dv=>(aZ (pF.le (l1.trans (l2.trans (l3.trans (l4.trans (l5.trans (l6.trans (l7.trans (l8.trans (l9.trans (l10.trans (bI.trans (bV.trans (cC.trans (du.trans (dv)))))))))))))))) br (by omega)).mono ?_⟩
 rintro r lP cX g8
 have Qr:=g8
 obtain ⟨w7a,w7b,w7c,w7d,w7e,w7f,rfl⟩:=g8.shape
 have IJ:Sz (1*k+0) (((l_1:Int):Rat)):=Sz.mono (br) (by omega)
 refine ⟨_,_,_,_,_,_,_,rfl,fun mT c_=>(aM (JA.le (bI.trans (bV.trans (cC.trans (du.trans (dv.trans (cX.trans (c_)))))))) (Qr.le (c_)) mO IJ (by omega)).mono ?_⟩
 rintro r qt cR g9
 have Zg:=g9
 obtain ⟨w8a,w8b,w8c,w8d,w8e,w8f,rfl⟩:=g9.shape
 have Pt:Sz (6*k+5) ((-((((bH:Int):Rat))*((((((l_1:Int):Rat)))*((((l_1:Int):Rat))))+(((-(((aA:Int):Rat))))*((-(((aA:Int):Rat))))))⁻¹))*(((l_1:Int):Rat))):=Sz.mono (Sz.mul mO IJ) (by omega)
 exact ⟨_,_,_,_,_,_,_,rfl,fun rK dA=>⟨_,_,_,_,_,_,_,_,_,_,_,_,rfl,(LS.le (dv.trans (cX.trans (c_.trans (cR.trans (dA)))))),(Zg.le (dA))⟩⟩
theorem xf {aA:Int}{l_1:Int}{bH:Int}{k:Nat}(bj:Sz k ((aA:Int):Rat))(br:Sz k ((l_1:Int):Rat))(bo:Sz k ((bH:Int):Rat)):Sz (6*k+5) ((-((((bH:Int):Rat))*((((((l_1:Int):Rat)))*((((l_1:Int):Rat))))+(((-(((aA:Int):Rat))))*((-(((aA:Int):Rat))))))⁻¹))*(((aA:Int):Rat))):=by
 have aW:Sz (1*k+0) (((l_1:Int):Rat)):=Sz.mono ((eY (Sz.mono bj (by omega):Sz (1*k+0) _) (Sz.mono br (by omega):Sz (1*k+0) _) (Sz.mono bo (by omega):Sz (1*k+0) _))) (by omega)
 have bU:Sz (1*k+0) (-(((aA:Int):Rat))):=Sz.mono ((eZ (Sz.mono bj (by omega):Sz (1*k+0) _) (Sz.mono br (by omega):Sz (1*k+0) _) (Sz.mono bo (by omega):Sz (1*k+0) _))) (by omega)
 have bF:Sz (1*k+0) (((bH:Int):Rat)):=Sz.mono (bo) (by omega)
 have cE:Sz (4*k+3) ((((((l_1:Int):Rat)))*((((l_1:Int):Rat))))+(((-(((aA:Int):Rat))))*((-(((aA:Int):Rat)))))):=Sz.mono ((e_ (Sz.mono aW (by omega):Sz (1*k+0) _) (Sz.mono bU (by omega):Sz (1*k+0) _) (Sz.mono aW (by omega):Sz (1*k+0) _) (Sz.mono bU (by omega):Sz (1*k+0) _))) (by omega)
 have iF:Sz (5*k+4) ((((bH:Int):Rat))*((((((l_1:Int):Rat)))*((((l_1:Int):Rat))))+(((-(((aA:Int):Rat))))*((-(((aA:Int):Rat))))))⁻¹):=Sz.mono (Sz.mul bF (cY cE)) (by omega)
 have mO:Sz (5*k+4) (-((((bH:Int):Rat))*((((((l_1:Int):Rat)))*((((l_1:Int):Rat))))+(((-(((aA:Int):Rat))))*((-(((aA:Int):Rat))))))⁻¹)):=Sz.mono (Sz.neg iF) (by omega)
 have B6:Sz (1*k+0) (((aA:Int):Rat)):=Sz.mono (bj) (by omega)
 have M7:Sz (6*k+5) ((-((((bH:Int):Rat))*((((((l_1:Int):Rat)))*((((l_1:Int):Rat))))+(((-(((aA:Int):Rat))))*((-(((aA:Int):Rat))))))⁻¹))*(((aA:Int):Rat))):=Sz.mono (Sz.mul mO B6) (by omega)
 have IJ:Sz (1*k+0) (((l_1:Int):Rat)):=Sz.mono (br) (by omega)
 have Pt:Sz (6*k+5) ((-((((bH:Int):Rat))*((((((l_1:Int):Rat)))*((((l_1:Int):Rat))))+(((-(((aA:Int):Rat))))*((-(((aA:Int):Rat))))))⁻¹))*(((l_1:Int):Rat))):=Sz.mono (Sz.mul mO IJ) (by omega)
 exact Sz.mono M7 (by omega)
theorem xg {aA:Int}{l_1:Int}{bH:Int}{k:Nat}(bj:Sz k ((aA:Int):Rat))(br:Sz k ((l_1:Int):Rat))(bo:Sz k ((bH:Int):Rat)):Sz (6*k+5) ((-((((bH:Int):Rat))*((((((l_1:Int):Rat)))*((((l_1:Int):Rat))))+(((-(((aA:Int):Rat))))*((-(((aA:Int):Rat))))))⁻¹))*(((l_1:Int):Rat))):=by
 have aW:Sz (1*k+0) (((l_1:Int):Rat)):=Sz.mono ((eY (Sz.mono bj (by omega):Sz (1*k+0) _) (Sz.mono br (by omega):Sz (1*k+0) _) (Sz.mono bo (by omega):Sz (1*k+0) _))) (by omega)
 have bU:Sz (1*k+0) (-(((aA:Int):Rat))):=Sz.mono ((eZ (Sz.mono bj (by omega):Sz (1*k+0) _) (Sz.mono br (by omega):Sz (1*k+0) _) (Sz.mono bo (by omega):Sz (1*k+0) _))) (by omega)
 have bF:Sz (1*k+0) (((bH:Int):Rat)):=Sz.mono (bo) (by omega)
 have cE:Sz (4*k+3) ((((((l_1:Int):Rat)))*((((l_1:Int):Rat))))+(((-(((aA:Int):Rat))))*((-(((aA:Int):Rat)))))):=Sz.mono ((e_ (Sz.mono aW (by omega):Sz (1*k+0) _) (Sz.mono bU (by omega):Sz (1*k+0) _) (Sz.mono aW (by omega):Sz (1*k+0) _) (Sz.mono bU (by omega):Sz (1*k+0) _))) (by omega)
 have iF:Sz (5*k+4) ((((bH:Int):Rat))*((((((l_1:Int):Rat)))*((((l_1:Int):Rat))))+(((-(((aA:Int):Rat))))*((-(((aA:Int):Rat))))))⁻¹):=Sz.mono (Sz.mul bF (cY cE)) (by omega)
 have mO:Sz (5*k+4) (-((((bH:Int):Rat))*((((((l_1:Int):Rat)))*((((l_1:Int):Rat))))+(((-(((aA:Int):Rat))))*((-(((aA:Int):Rat))))))⁻¹)):=Sz.mono (Sz.neg iF) (by omega)
 have B6:Sz (1*k+0) (((aA:Int):Rat)):=Sz.mono (bj) (by omega)
 have M7:Sz (6*k+5) ((-((((bH:Int):Rat))*((((((l_1:Int):Rat)))*((((l_1:Int):Rat))))+(((-(((aA:Int):Rat))))*((-(((aA:Int):Rat))))))⁻¹))*(((aA:Int):Rat))):=Sz.mono (Sz.mul mO B6) (by omega)
 have IJ:Sz (1*k+0) (((l_1:Int):Rat)):=Sz.mono (br) (by omega)
 have Pt:Sz (6*k+5) ((-((((bH:Int):Rat))*((((((l_1:Int):Rat)))*((((l_1:Int):Rat))))+(((-(((aA:Int):Rat))))*((-(((aA:Int):Rat))))))⁻¹))*(((l_1:Int):Rat))):=Sz.mono (Sz.mul mO IJ) (by omega)
 exact Sz.mono Pt (by omega)
theorem EV {V:View}{l:Value}{aA l_1 bH:Int}{t:Value}{qb:Rat}(hl:RL V l aA l_1 bH)(ht:RQ V t qb)(hd0:((((((l_1:Int):Rat)))*((((l_1:Int):Rat))))+(((-(((aA:Int):Rat))))*((-(((aA:Int):Rat)))))).num≠0){k:Nat}(bj:Sz k ((aA:Int):Rat))(br:Sz k ((l_1:Int):Rat))(bo:Sz k ((bH:Int):Rat))(rj:Sz k qb)(hk:18*k+16<274877906944) :
  ab prog 119 #[l,t] V fun r V'=>RP V' r (((-((((bH:Int):Rat))*((((((l_1:Int):Rat)))*((((l_1:Int):Rat))))+(((-(((aA:Int):Rat))))*((-(((aA:Int):Rat))))))⁻¹))*(((aA:Int):Rat)))+(qb)*(((l_1:Int):Rat))) (((-((((bH:Int):Rat))*((((((l_1:Int):Rat)))*((((l_1:Int):Rat))))+(((-(((aA:Int):Rat))))*((-(((aA:Int):Rat))))))⁻¹))*(((l_1:Int):Rat)))+(qb)*(-(((aA:Int):Rat)))):=by
 have hl0:=hl
 obtain ⟨l0,l1,l2,l3,l4,l5,l6,l7,l8,rfl,pE,pF,qT⟩:=hl
 have ht0:=ht
 obtain ⟨t0,t1,t2,t3,t4,t5,rfl⟩:=ht.shape
 refine Em _ l0 l1 l2 _ l3 l4 l5 _ l6 l7 l8 _ t0 t1 t2 t3 t4 t5 V _ fun V1 l1=>(o_ (hl0.le (l1)) hd0 (Sz.mono bj (by omega):Sz (1*k+0) _) (Sz.mono br (by omega):Sz (1*k+0) _) (Sz.mono bo (by omega):Sz (1*k+0) _) (by omega)).mono ?_
 rintro r V2 l2 g1
 have g10:=g1
 obtain ⟨K5,K6,K7,K8,K9,K_,Sg,Si,Sj,Sk,NQ,NT,rfl,Jy,Jz⟩:=g1
 have aW:Sz (6*k+5) ((-((((bH:Int):Rat))*((((((l_1:Int):Rat)))*((((l_1:Int):Rat))))+(((-(((aA:Int):Rat))))*((-(((aA:Int):Rat))))))⁻¹))*(((aA:Int):Rat))):=Sz.mono ((xf (Sz.mono bj (by omega):Sz (1*k+0) _) (Sz.mono br (by omega):Sz (1*k+0) _) (Sz.mono bo (by omega):Sz (1*k+0) _))) (by omega)
 have bU:Sz (6*k+5) ((-((((bH:Int):Rat))*((((((l_1:Int):Rat)))*((((l_1:Int):Rat))))+(((-(((aA:Int):Rat))))*((-(((aA:Int):Rat))))))⁻¹))*(((l_1:Int):Rat))):=Sz.mono ((xg (Sz.mono bj (by omega):Sz (1*k+0) _) (Sz.mono br (by omega):Sz (1*k+0) _) (Sz.mono bo (by omega):Sz (1*k+0) _))) (by omega)
 refine ⟨_,_,_,_,_,_,_,_,_,_,_,_,_,_,rfl,fun V3 l3=>(fq (hl0.le (l1.trans (l2.trans (l3)))) (Sz.mono bj (by omega):Sz (1*k+0) _) (Sz.mono br (by omega):Sz (1*k+0) _) (Sz.mono bo (by omega):Sz (1*k+0) _) (by omega)).mono ?_⟩
 rintro r V4 l4 g2
 have g20:=g2
 obtain ⟨VW,VX,VY,VZ,V_,Wa,w1_6,w1_7,w1_8,w1_9,Yf,Yg,rfl,TE,TF⟩:=g2
 have bF:Sz (1*k+0) (((l_1:Int):Rat)):=Sz.mono ((eY (Sz.mono bj (by omega):Sz (1*k+0) _) (Sz.mono br (by omega):Sz (1*k+0) _) (Sz.mono bo (by omega):Sz (1*k+0) _))) (by omega)
 have tN:Sz (1*k+0) (-(((aA:Int):Rat))):=Sz.mono ((eZ (Sz.mono bj (by omega):Sz (1*k+0) _) (Sz.mono br (by omega):Sz (1*k+0) _) (Sz.mono bo (by omega):Sz (1*k+0) _))) (by omega)
 refine ⟨_,_,_,_,_,_,_,_,_,_,_,_,_,_,rfl,fun V5 l5=>(jq (g10.le (l3.trans (l4.trans (l5)))) (ht0.le (l1.trans (l2.trans (l3.trans (l4.trans (l5)))))) (g20.le (l5)) (Sz.mono aW (by omega):Sz (6*k+5) _) (Sz.mono bU (by omega):Sz (6*k+5) _) (Sz.mono rj (by omega):Sz (6*k+5) _) (Sz.mono bF (by omega):Sz (6*k+5) _) (Sz.mono tN (by omega):Sz (6*k+5) _) (by omega)).mono ?_⟩
 rintro r V6 l6 g3
 have kD:=g3
 obtain ⟨Wb,Wc,We,Wf,Wg,Wh,w2_6,w2_7,w2_8,w2_9,Yh,Yi,rfl,Qp,Qq⟩:=g3
 have cE:Sz (18*k+17) (((-((((bH:Int):Rat))*((((((l_1:Int):Rat)))*((((l_1:Int):Rat))))+(((-(((aA:Int):Rat))))*((-(((aA:Int):Rat))))))⁻¹))*(((aA:Int):Rat)))+(qb)*(((l_1:Int):Rat))):=Sz.mono (Sz.add (Sz.mono aW (by omega):Sz (6*k+5) _) (Sz.mul (Sz.mono rj (by omega):Sz (6*k+5) _) (Sz.mono bF (by omega):Sz (6*k+5) _))) (by omega)
 have yQ:Sz (18*k+17) (((-((((bH:Int):Rat))*((((((l_1:Int):Rat)))*((((l_1:Int):Rat))))+(((-(((aA:Int):Rat))))*((-(((aA:Int):Rat))))))⁻¹))*(((l_1:Int):Rat)))+(qb)*(-(((aA:Int):Rat)))):=Sz.mono (Sz.add (Sz.mono bU (by omega):Sz (6*k+5) _) (Sz.mul (Sz.mono rj (by omega):Sz (6*k+5) _) (Sz.mono tN (by omega):Sz (6*k+5) _))) (by omega)
 exact ⟨_,_,_,_,_,_,_,_,_,_,_,_,_,_,rfl,fun V7 l7=>⟨_,_,_,_,_,_,_,_,_,_,_,_,rfl,(Qp.le (l7)),(Qq.le (l7))⟩⟩
theorem RA.shape {V:View}{v:Value}{q:Rat}(h:RA V v q):∃b p n c p' n' c',v=.agg #[.bool b,.slice p n c,.slice p' n' c']:=by
 obtain ⟨p,n,c,p',n',c',e,-⟩:=h;exact ⟨_,_,_,_,_,_,_,e⟩
def IY (V:View)(v:Value)(x y:Rat):Prop:=∃b p n c p' n' c' d q m e q' m' e',v=.agg #[.bool b,.slice p n c,.slice p' n' c',.bool d,.slice q m e,.slice q' m' e'] /\
 RA V (.agg #[.bool b,.slice p n c,.slice p' n' c']) x/\RA V (.agg #[.bool d,.slice q m e,.slice q' m' e']) y
theorem IY.le {V V':View}{v:Value}{x y:Rat}(h:IY V v x y)(l:V.Le V'):IY V' v x y:=by
 obtain ⟨b,p,n,c,p',n',c',d,q,m,e,q',m',e',rfl,h1,h2⟩:=h
 exact ⟨_,_,_,_,_,_,_,_,_,_,_,_,_,_,rfl,h1.le l,h2.le l⟩
theorem EO {V:View}{v:Value}{x y:Rat}(h:IY V v x y){k:Nat}(s1:Sz k x)(s2:Sz k y)(hk:k<=1099511627776) :
  ab prog 115 #[v] V fun r V'=>nG V' r x y:=by
 obtain ⟨b,p,n,c,p',n',c',d,q,m,e,q',m',e',rfl,h1,h2⟩:=h
 refine sL b p n c p' n' c' d q m e q' m' e' V _ fun V1 l1=>(zw (h1.le l1) s1 hk).mono ?_
 rintro r V2 l2 g1
 have g10:=g1
 obtain ⟨u,v,w,rfl⟩:=g1.shape
 refine ⟨_,_,_,rfl,fun V3 l3=>(zw (h2.le (l1.trans (l2.trans l3))) s2 hk).mono ?_⟩
 rintro r V4 l4 g2
 have g20:=g2
 obtain ⟨u,v,w,rfl⟩:=g2.shape
 exact ⟨_,_,_,rfl,fun V5 l5=>⟨_,_,_,_,_,_,rfl,g10.le (l3.trans (l4.trans l5)),g20.le l5⟩⟩
theorem AB {V:View}{v:Value}{x y:Rat}(h:nG V v x y){k:Nat}(s1:Sz k x)(s2:Sz k y)(hk:k<=1099511627776) :
  ab prog 80 #[v] V fun r V'=>IY V' r x y:=by
 obtain ⟨p0,p1,p2,p3,p4,p5,rfl,h1,h2⟩:=h
 refine yv p0 p1 p2 p3 p4 p5 V _ fun V1 l1=>(Az (h1.le l1) s1 hk).mono ?_
 rintro r V2 l2 g1
 have g10:=g1
 obtain ⟨_,_,_,_,_,_,_,rfl⟩:=g1.shape
 refine ⟨_,_,_,_,_,_,_,rfl,fun V3 l3=>(Az (h2.le (l1.trans (l2.trans l3))) s2 hk).mono ?_⟩
 rintro r V4 l4 g2
 have g20:=g2
 obtain ⟨_,_,_,_,_,_,_,rfl⟩:=g2.shape
 exact ⟨_,_,_,_,_,_,_,rfl,fun V5 l5=>⟨_,_,_,_,_,_,_,_,_,_,_,_,_,_,rfl,g10.le (l3.trans (l4.trans l5)),g20.le l5⟩⟩
theorem xA {V:View}{l p:Value}{aA l_1 bH cS cU:Rat}(hl:xr V l aA l_1 bH)(hp:nG V p cS cU){k:Nat}(s0:Sz k aA)(s1:Sz k l_1)(s2:Sz k bH)(s3:Sz k cS)(s4:Sz k cU)(hk:16*k+16<274877906944) :
  ab prog 131 #[l,p] V fun r V'=>r=.int .i64 (aA*cS+l_1*cU+bH).num.sign:=by
 have hl0:=hl
 have hp0:=hp
 obtain ⟨a0,a1,a2,a3,a4,a5,a6,a7,a8,rfl,-,-,-⟩:=hl
 obtain ⟨p0,p1,p2,p3,p4,p5,rfl,-,-⟩:=hp
 refine wG a0 a1 a2 a3 a4 a5 a6 a7 a8 p0 p1 p2 p3 p4 p5 V _ fun V1 l1=>(lX (hl0.le l1) (hp0.le l1) s0 s1 s2 s3 s4 (by omega)).mono ?_
 rintro r V2 l2 g
 have g0:=g
 obtain ⟨u,v,w,rfl⟩:=g.shape
 refine ⟨_,_,_,rfl,fun V3 l3=>(eO (g0.le l3) (kB s0 s1 s2 s3 s4) (by omega)).mono ?_⟩
 rintro r V4 l4 rfl
 exact ⟨_,rfl,fun V5 l5=>rfl⟩
theorem rS {V:View}{v:Value}{q:Rat}(h:RQ V v q){k:Nat}(s:Sz k q)(hk:k<=1099511627776):ab prog 36 #[v] V fun r V'=>RA V' r q:=by
 obtain ⟨p,n,c,p',n',c',rfl,h1,h2⟩:=h
 have q1:=af s.1
 have q2:=af s.2
 refine BT _ p n c p' n' c' V _ fun V1 l1=>(jo ⟨_,_,_,rfl,h1.le l1⟩ (by omega)).mono ?_
 rintro r V2 l2 ⟨p1,n1,c1,rfl,g1⟩
 refine ⟨_,_,_,_,rfl,fun V3 l3=>(cJ q _ (h2.le (l1.trans (l2.trans l3)))).mono ?_⟩
 rintro r V4 l4 ⟨p2,n2,c2,rfl,g2⟩
 refine ⟨_,_,_,rfl,fun V5 l5=>(rR (g2.le l5) (by omega)).mono ?_⟩
 rintro r V6 l6 ⟨p3,n3,c3,rfl,g3⟩
 exact ⟨_,_,_,rfl,fun V7 l7=>⟨_,_,_,_,_,_,rfl,g1.le (l3.trans (l4.trans (l5.trans (l6.trans l7)))),g3.le l7⟩⟩
theorem Cz {V:View}{v:Value}{x y:Rat}(h:RP V v x y){k:Nat}(s1:Sz k x)(s2:Sz k y)(hk:k<=1099511627776):ab prog 53 #[v] V fun r V'=>IY V' r x y:=by
 obtain ⟨p1,n1,c1,p2,n2,c2,p3,n3,c3,p4,n4,c4,rfl,h1,h2⟩:=h
 refine B4 _ p1 n1 c1 p2 n2 c2 _ p3 n3 c3 p4 n4 c4 V _ fun V1 l1=>(rS (h1.le l1) s1 hk).mono ?_
 rintro r V2 l2 g1
 have g10:=g1
 obtain ⟨_,_,_,_,_,_,_,rfl⟩:=g1.shape
 refine ⟨_,_,_,_,_,_,_,rfl,fun V3 l3=>(rS (h2.le (l1.trans (l2.trans l3))) s2 hk).mono ?_⟩
 rintro r V4 l4 g2
 have g20:=g2
 obtain ⟨_,_,_,_,_,_,_,rfl⟩:=g2.shape
 exact ⟨_,_,_,_,_,_,_,rfl,fun V5 l5=>⟨_,_,_,_,_,_,_,_,_,_,_,_,_,_,rfl,g10.le (l3.trans (l4.trans l5)),g20.le l5⟩⟩
theorem nL {V:View}{v w:Value}{x y:Rat}(hx:RA V v x)(hy:RA V w y){k:Nat}(s:Sz k x)(hk:k<=1099511627776) :
  ab prog 35 #[v,w] V fun r V'=>r=.bool (decide (x=y)):=by
 obtain ⟨p,n,c,p',n',c',rfl,h1,h2⟩:=hx
 obtain ⟨q,m,e,q',m',e',rfl,h3,h4⟩:=hy
 have q1:=af s.1
 have q2:=af s.2
 refine wQ _ p n c p' n' c' _ q m e q' m' e' V _ fun V1 l1=>(gL (h1.le l1) (h3.le l1) (by omega)).mono ?_
 rintro r V2 l2 rfl
 refine ⟨_,rfl,fun g V3 l3=>(nK (h2.le (l1.trans (l2.trans l3))) (h4.le (l1.trans (l2.trans l3))) (by omega)).mono ?_,fun g V6 l6=>?_⟩
 ·have g:=of_decide_eq_true g
  rintro r V4 l4 rfl
  refine ⟨_,rfl,fun V5 l5=>?_⟩
  have e:ag x.den=ag y.den↔x=y:=⟨fun h=>Rat.ext g (by have:=congrArg val h;rwa [ae,ae] at this),fun h=>by rw [h]⟩
  rw [show decide (ag x.den=ag y.den)=decide (x=y) from by rw [decide_eq_decide];exact e]
 ·have g:=of_decide_eq_false g
  rw [decide_eq_false (fun h=>g (by rw [h]))]
theorem xI {V:View}{v w:Value}{x y x' y':Rat}(h:IY V v x y)(h':IY V w x' y'){k:Nat}(s1:Sz k x)(s2:Sz k y)(hk:k<=1099511627776) :
  ab prog 89 #[v,w] V fun r V'=>r=.bool (decide (x=x'/\y=y')):=by
 obtain ⟨b,p,n,c,p',n',c',d,q,m,e,q',m',e',rfl,h1,h2⟩:=h
 obtain ⟨b1,p1,n1,c1,RB,n1',c1',d1,q1,m1,e1,q1',m1',Zc,rfl,h3,h4⟩:=h'
 refine wV b p n c p' n' c' d q m e q' m' e' b1 p1 n1 c1 RB n1' c1' d1 q1 m1 e1 q1' m1' Zc V _ fun V1 l1=>(nL (h1.le l1) (h3.le l1) s1 hk).mono ?_
 rintro r V2 l2 rfl
 refine ⟨_,rfl,fun g V3 l3=>(nL (h2.le (l1.trans (l2.trans l3))) (h4.le (l1.trans (l2.trans l3))) s2 hk).mono ?_,fun g V6 l6=>?_⟩
 ·have g:=of_decide_eq_true g
  rintro r V4 l4 rfl
  exact ⟨_,rfl,fun V5 l5=>by simp [g]⟩
 ·have g:=of_decide_eq_false g
  simp [g]
abbrev L3:=Int×Int×Int
def dO (x:L3):Bool:=decide (¬(x.1=0/\x.2.1=0))&&decide (gW x.1 x.2.1 x.2.2=1)
def Bd (x:L3):Prop:=x.1.natAbs<2^1000/\x.2.1.natAbs<2^1000/\x.2.2.natAbs<2^1000
inductive Tr where
 | leaf (i:Bool)|node (l:L3) (a b:Tr)
 deriving DecidableEq
structure Nd where
 ln:L3
 left:Int
 right:Int
 deriving DecidableEq
def Tr.size:Tr->Nat
 | .leaf _=>0
 | .node _ a b=>a.size+b.size+1
def Tr.Lb (p:L3->Prop):Tr->Prop
 | .leaf _=>True
 | .node l a b=>p l/\a.Lb p/\b.Lb p
theorem Tr.Lb.imp {p q:L3->Prop}(h:∀x,p x->q x):∀{t:Tr},t.Lb p->t.Lb q
 | .leaf _,_=>trivial
 | .node _ _ _,⟨h1,h2,h3⟩=>⟨h _ h1,Tr.Lb.imp h h2,Tr.Lb.imp h h3⟩
def rt (k:Nat):Tr->Int
 | .leaf i=>if i then -2 else -1
 | .node ..=>(k:Int)
def wr:Nat->Tr->List Nd
 | _,.leaf _=>[]
 | k,.node l a b=>⟨l,rt (k+1) a,rt (k+1+a.size) b⟩::(wr (k+1) a++wr (k+1+a.size) b)
structure RS where
 seen:List Bool
 cnt:Nat
 bad:Bool
def mvN (n Tz i:Nat):Nat:=n-1-(i+Tz)%n
def mv (n Tz:Nat)(i:Int):Int:=if i<0 then i else (mvN n Tz i.toNat:Int)
theorem N6 (a:Addr)(i j:Nat):(a.add i).add j=a.add (i+j):=by
 unfold Addr.add
 by_cases h1:i=0
 ·subst h1;simp
 ·by_cases h2:j=0
  ·subst h2;simp [h1]
  ·simp [h1,h2,Nat.add_assoc]
theorem pP {a b c:Int}:iA (decide (a<0)) (ag a.natAbs) (decide (b<0)) (ag b.natAbs) (decide (c<0)) (ag c.natAbs)=dO (a,b,c):=by
 have hn:∀z:Int,fH (decide (z<0)) (ag z.natAbs)=true:=by
  intro z
  unfold fH
  rw [ae]
  simp only [decide_true,Bool.true_and]
  by_cases h:z<0
  ·simp only [h,decide_true,Bool.not_true,Bool.false_or,decide_eq_true_eq]
   intro e
   have:=bg.1 e
   omega
  ·simp [h]
 have hg:ia (ia (a:Rat) (b:Rat)) (c:Rat)=((gW a b c:Nat):Int):=by
  have g2:∀x y:Int,ia (x:Rat) (y:Rat)=((Nat.gcd x.natAbs y.natAbs:Nat):Int):=by
   intro x y
   unfold ia
   have e1:((x:Rat)).num=x:=rfl
   have e2:((y:Rat)).num=y:=rfl
   have e3:((x:Rat)).den=1:=rfl
   have e4:((y:Rat)).den=1:=rfl
   rw [e1,e2,e3,e4]
   simp only [Nat.mul_one]
   exact Rat.mkRat_one _
  rw [g2,g2]
  rfl
 unfold iA dO
 rw [hn,hn,hn,az,az,az,hg]
 have h0:∀z:Int,((z:Rat)=0)↔z=0:=fun z=>by exact Rat.intCast_eq_zero_iff
 simp only [Bool.true_and,h0]
 rw [Bool.eq_iff_iff]
 simp only [Bool.and_eq_true,Bool.not_eq_true',Bool.and_eq_false_iff,decide_eq_false_iff_not,decide_eq_true_eq]
 have h1:(((gW a b c:Nat):Int):Rat)=((1:Int):Rat)↔gW a b c=1:=by
  rw [Rat.intCast_inj];omega
 rw [h1]
 constructor
 ·rintro ⟨h,h'⟩;exact ⟨fun e=>by rcases h with h|h;exact h e.1;exact h e.2,h'⟩
 ·rintro ⟨h,h'⟩
  refine ⟨?_,h'⟩
  by_cases ha:a=0
  ·exact .inr fun hb=>h ⟨ha,hb⟩
  ·exact .inl ha
theorem jS {z:Int}{k:Nat}(h:z.natAbs<2^k)(hk:0<k):Sz k (z:Rat):=⟨h,Nat.one_lt_two_pow (by omega)⟩
theorem Bd.ag {x:L3}(h:Bd x):(ag x.1.natAbs).length<=1000/\(ag x.2.1.natAbs).length<=1000/\(ag x.2.2.natAbs).length<=1000:=⟨af h.1,af h.2.1,af h.2.2⟩
theorem Bd.sz {x:L3}(h:Bd x):Sz 1000 (x.1:Rat)/\Sz 1000 (x.2.1:Rat)/\Sz 1000 (x.2.2:Rat):=⟨jS h.1 (by omega),jS h.2.1 (by omega),jS h.2.2 (by omega)⟩
theorem Cs {V:View}{v:Value}{x:L3}(h:RL V v x.1 x.2.1 x.2.2)(hb:Bd x) :
  ab prog 127 #[v] V fun r V'=>∃w,r=.tuple #[w,.bool (dO x)]/\Ls w/\(dO x=true->xr V' w x.1 x.2.1 x.2.2):=by
 obtain ⟨p,n,s,p',n',s',q,m,e,rfl,h1,h2,h3⟩:=h
 obtain ⟨d1,d2,d3⟩:=hb.ag
 obtain ⟨s1,s2,s3⟩:=hb.sz
 have hc:=uF (V:=V) (decide (x.1<0)) (decide (x.2.1<0)) (decide (x.2.2<0)) h1 h2 h3 (by omega) (by omega) (by omega) (k:=1000) (by rw [az];exact s1) (by rw [az];exact s2) (by rw [az];exact s3) (by omega)
 rw [pP,az,az,az] at hc
 exact hc
end Go.Proofs.Tryz
namespace Go.Proofs.Tryz
open Go.bE
set_option maxRecDepth 100000
end Go.Proofs.Tryz
namespace Go.Proofs.Tryz
open Go.bE Go.dP
def Rc (a b c:Int):L3:=(a / (gW a b c:Int),b / (gW a b c:Int),c / (gW a b c:Int))
def small (z:Int)(k:Nat):Bool:=decide (z.natAbs<=k)
def Rf (a b c:Rat):L3:=
 let f:Nat:=a.den*b.den*c.den
 Rc (a*((f:Int):Rat)).num (b*((f:Int):Rat)).num (c*((f:Int):Rat)).num
def Th (V:View)(p:OA)(n:Nat):Prop:=∀i,i<n->∃(a:Addr)(x:Int),ah p (i*1)=some a/\V.at a (.int .i64 x)
theorem Th.le {V V':View}{p:OA}{n:Nat}(h:Th V p n)(l:V.Le V'):Th V' p n:=fun i hi=>by
 obtain ⟨a,x,e,hx⟩:=h i hi;exact ⟨a,x,e,l.at hx⟩
theorem RQ.zero {V:View}:RQ V (.agg #[.bool false,.slice none 0 0,.slice none 0 0]) ((0:Int):Rat):=⟨none,0,0,none,0,0,rfl,RD.nil,RD.nil⟩
theorem RP.zero {V:View}:RP V (.agg #[.bool false,.slice none 0 0,.slice none 0 0,.bool false,.slice none 0 0,.slice none 0 0]) ((0:Int):Rat) ((0:Int):Rat):=
 ⟨none,0,0,none,0,0,none,0,0,none,0,0,rfl,RQ.zero,RQ.zero⟩
theorem X7 {z:Int}(h:-40<=z/\z<=40):Sz 10 (z:Rat):=jS (by omega) (by omega)
end Go.Proofs.Tryz
namespace Go.Proofs.Tryz
open Go.bE
set_option maxRecDepth 100000
end Go.Proofs.Tryz
namespace Go.Proofs.Tryz
open Go.bE Go.dP
theorem AG {V:View}{l p:Value}{aA l_1 bH:Int}{cS cU:Rat}(hl:RL V l aA l_1 bH)(hp:RP V p cS cU){k:Nat}(s0:Sz k ((aA:Int):Rat))(s1:Sz k ((l_1:Int):Rat))(s2:Sz k ((bH:Int):Rat))(s3:Sz k cS)(s4:Sz k cU)(hk:16*k+16<274877906944) :
  ab prog 76 #[l,p] V fun r V'=>r=.int .i64 ((aA:Rat)*cS+(l_1:Rat)*cU+(bH:Rat)).num.sign:=by
 have hl0:=hl
 have hp0:=hp
 obtain ⟨a0,a1,a2,a3,a4,a5,a6,a7,a8,rfl,-,-,-⟩:=hl
 obtain ⟨p0,p1,p2,p3,p4,p5,p6,p7,p8,p9,G5,My,rfl,-,-⟩:=hp
 refine yH _ a0 a1 a2 _ a3 a4 a5 _ a6 a7 a8 _ p0 p1 p2 p3 p4 p5 _ p6 p7 p8 p9 G5 My V _ fun V1 l1=>(gM (hl0.le l1) (hp0.le l1) s0 s1 s2 s3 s4 (by omega)).mono ?_
 rintro r V2 l2 ⟨u0,u1,u2,u3,u4,u5,rfl,g1,g2⟩
 refine ⟨_,_,_,_,_,_,_,rfl,fun V3 l3=>(tQ _ (g1.le l3)).mono ?_⟩
 rintro r V4 l4 rfl
 exact ⟨_,rfl,fun V5 l5=>rfl⟩
end Go.Proofs.Tryz
namespace Go.bE
open Go.dP
theorem RR.zero (V:View):RR V (.agg #[.int .i64 0,.int .i64 0,.pointer none]) 0:=.inl ⟨rfl,by unfold Wd;decide⟩
end Go.bE
namespace Go.Proofs.Tryz
open Go.bE Go.dP
structure Sp where
 lo:Rat
 hi:Rat
 a:Bool
 b:Bool
def Sp.can (s:Sp):Prop:=(s.a=true->s.lo=0)/\(s.b=true->s.hi=0)
def Sp.sz (k:Nat)(s:Sp):Prop:=Sz k s.lo/\Sz k s.hi
def Sp.zero:Sp:=⟨0,0,false,false⟩
def jX (k:Nat)(l:L3):Prop:=Sz k (l.1:Rat)/\Sz k (l.2.1:Rat)/\Sz k (l.2.2:Rat)
def Gn (V:View)(v:Value)(s:Sp):Prop:=∃(x1 x2:Int)(p:OA)(y1 y2:Int)(q:OA),v=.agg #[.int .i64 x1,.int .i64 x2,.pointer p,.int .i64 y1,.int .i64 y2,.pointer q,.bool s.a,.bool s.b] /\
 RR V (.agg #[.int .i64 x1,.int .i64 x2,.pointer p]) s.lo/\RR V (.agg #[.int .i64 y1,.int .i64 y2,.pointer q]) s.hi
theorem Gn.le {V V':View}{v:Value}{s:Sp}(h:Gn V v s)(l:V.Le V'):Gn V' v s:=by
 obtain ⟨x1,x2,p,y1,y2,q,e,h1,h2⟩:=h
 exact ⟨x1,x2,p,y1,y2,q,e,h1.le l,h2.le l⟩
def xh (V:View)(v:Value)(l:L3):Prop:=xr V v (l.1:Rat) (l.2.1:Rat) (l.2.2:Rat)
theorem xh.le {V V':View}{v:Value}{l:L3}(h:xh V v l)(e:V.Le V'):xh V' v l:=xr.le h e
def N5 (V:View)(v:Value)(l:L3)(s:Sp):Prop:=∃(x1 x2:Int)(p:OA)(y1 y2:Int)(q:OA)(z1 z2:Int)(r:OA)(u1 u2:Int)(t:OA)(w1 w2:Int)(o:OA),
 v=.agg #[.int .i64 x1,.int .i64 x2,.pointer p,.int .i64 y1,.int .i64 y2,.pointer q,.int .i64 z1,.int .i64 z2,.pointer r,.int .i64 u1,.int .i64 u2,.pointer t,.int .i64 w1,.int .i64 w2,.pointer o,.bool s.a,.bool s.b] /\
 xh V (.agg #[.int .i64 x1,.int .i64 x2,.pointer p,.int .i64 y1,.int .i64 y2,.pointer q,.int .i64 z1,.int .i64 z2,.pointer r]) l /\
 Gn V (.agg #[.int .i64 u1,.int .i64 u2,.pointer t,.int .i64 w1,.int .i64 w2,.pointer o,.bool s.a,.bool s.b]) s
theorem N5.le {V V':View}{v:Value}{l:L3}{s:Sp}(h:N5 V v l s)(e:V.Le V'):N5 V' v l s:=by
 obtain ⟨x1,x2,p,y1,y2,q,z1,z2,r,u1,u2,t,w1,w2,o,rfl,h1,h2⟩:=h
 exact ⟨x1,x2,p,y1,y2,q,z1,z2,r,u1,u2,t,w1,w2,o,rfl,h1.le e,h2.le e⟩
def EB (V:View)(v:Value)(b:Bool)(xs ys:List Nat):Prop:=∃p n c p' n' c',v=.agg #[.bool b,.slice p n c,.slice p' n' c']/\RD V p n c xs/\RD V p' n' c' ys
theorem EB.le {V V':View}{v:Value}{b:Bool}{xs ys:List Nat}(h:EB V v b xs ys)(l:V.Le V'):EB V' v b xs ys:=by
 obtain ⟨p,n,c,p',n',c',e,h1,h2⟩:=h;exact ⟨p,n,c,p',n',c',e,h1.le l,h2.le l⟩
theorem EB.nil {V:View}:EB V (.agg #[.bool false,.slice none 0 0,.slice none 0 0]) false [] []:=⟨_,_,_,_,_,_,rfl,RD.nil,RD.nil⟩
def RE (V:View)(v:Value)(q:Rat)(no:Bool):Prop:=(no=true->EB V v false [] [])/\(no=false->RA V v q)
theorem RE.le {V V':View}{v:Value}{q:Rat}{no:Bool}(h:RE V v q no)(l:V.Le V'):RE V' v q no:=⟨fun e=>(h.1 e).le l,fun e=>(h.2 e).le l⟩
theorem RE.shape {V:View}{v:Value}{q:Rat}{no:Bool}(h:RE V v q no):∃b p n c p' n' c',v=.agg #[.bool b,.slice p n c,.slice p' n' c']:=by
 cases no with
 | true=>obtain ⟨_,_,_,_,_,_,e,-⟩:=h.1 rfl;exact ⟨_,_,_,_,_,_,_,e⟩
 | false=>exact (h.2 rfl).shape
def Sy (V:View)(v:Value)(s:Sp):Prop:=∃b p n c p' n' c' d q m e q' m' e',v=.agg #[.bool b,.slice p n c,.slice p' n' c',.bool d,.slice q m e,.slice q' m' e',.bool s.a,.bool s.b] /\
 RE V (.agg #[.bool b,.slice p n c,.slice p' n' c']) s.lo s.a/\RE V (.agg #[.bool d,.slice q m e,.slice q' m' e']) s.hi s.b
theorem Sy.le {V V':View}{v:Value}{s:Sp}(h:Sy V v s)(l:V.Le V'):Sy V' v s:=by
 obtain ⟨b,p,n,c,p',n',c',d,q,m,e,q',m',e',rfl,h1,h2⟩:=h
 exact ⟨_,_,_,_,_,_,_,_,_,_,_,_,_,_,rfl,h1.le l,h2.le l⟩
def Pv (V:View)(v:Value)(l:L3)(s:Sp):Prop:=∃b1 p1 n1 c1 b2 p2 n2 c2 b3 p3 n3 c3 b p n c p' n' c' d q m e q' m' e',
 v=.agg #[.bool b1,.slice p1 n1 c1,.bool b2,.slice p2 n2 c2,.bool b3,.slice p3 n3 c3,.bool b,.slice p n c,.slice p' n' c',.bool d,.slice q m e,.slice q' m' e',.bool s.a,.bool s.b] /\
 RL V (.agg #[.bool b1,.slice p1 n1 c1,.bool b2,.slice p2 n2 c2,.bool b3,.slice p3 n3 c3]) l.1 l.2.1 l.2.2/\Sy V (.agg #[.bool b,.slice p n c,.slice p' n' c',.bool d,.slice q m e,.slice q' m' e',.bool s.a,.bool s.b]) s
theorem Pv.le {V V':View}{v:Value}{l:L3}{s:Sp}(h:Pv V v l s)(e:V.Le V'):Pv V' v l s:=by
 obtain ⟨b1,p1,n1,c1,b2,p2,n2,c2,b3,p3,n3,c3,b,p,n,c,p',n',c',d,q,m,f,q',m',f',rfl,h1,h2⟩:=h
 exact ⟨_,_,_,_,_,_,_,_,_,_,_,_,_,_,_,_,_,_,_,_,_,_,_,_,_,_,rfl,h1.le e,h2.le e⟩
def EC (V:View)(v:Value)(s:Sp):Prop:=∃b p n c p' n' c' d q m e q' m' e',v=.agg #[.bool b,.slice p n c,.slice p' n' c',.bool d,.slice q m e,.slice q' m' e',.bool s.a,.bool s.b] /\
 RQ V (.agg #[.bool b,.slice p n c,.slice p' n' c']) s.lo/\RQ V (.agg #[.bool d,.slice q m e,.slice q' m' e']) s.hi
theorem EC.le {V V':View}{v:Value}{s:Sp}(h:EC V v s)(l:V.Le V'):EC V' v s:=by
 obtain ⟨b,p,n,c,p',n',c',d,q,m,e,q',m',e',rfl,h1,h2⟩:=h
 exact ⟨_,_,_,_,_,_,_,_,_,_,_,_,_,_,rfl,h1.le l,h2.le l⟩
def RF (V:View)(v:Value)(l:L3)(s:Sp):Prop:=∃b1 p1 n1 c1 b2 p2 n2 c2 b3 p3 n3 c3 b p n c p' n' c' d q m e q' m' e',
 v=.agg #[.bool b1,.slice p1 n1 c1,.bool b2,.slice p2 n2 c2,.bool b3,.slice p3 n3 c3,.bool b,.slice p n c,.slice p' n' c',.bool d,.slice q m e,.slice q' m' e',.bool s.a,.bool s.b] /\
 RL V (.agg #[.bool b1,.slice p1 n1 c1,.bool b2,.slice p2 n2 c2,.bool b3,.slice p3 n3 c3]) l.1 l.2.1 l.2.2/\EC V (.agg #[.bool b,.slice p n c,.slice p' n' c',.bool d,.slice q m e,.slice q' m' e',.bool s.a,.bool s.b]) s
theorem RF.le {V V':View}{v:Value}{l:L3}{s:Sp}(h:RF V v l s)(e:V.Le V'):RF V' v l s:=by
 obtain ⟨b1,p1,n1,c1,b2,p2,n2,c2,b3,p3,n3,c3,b,p,n,c,p',n',c',d,q,m,f,q',m',f',rfl,h1,h2⟩:=h
 exact ⟨_,_,_,_,_,_,_,_,_,_,_,_,_,_,_,_,_,_,_,_,_,_,_,_,_,_,rfl,h1.le e,h2.le e⟩
def ar (l:L3)(x y:Rat):Rat:=(l.1:Rat)*x+(l.2.1:Rat)*y+(l.2.2:Rat)
def fx (l:L3):Rat:=(l.1:Rat)*(l.1:Rat)+(l.2.1:Rat)*(l.2.1:Rat)
def Bq (l:L3)(x y:Rat):Rat:=((l.2.1:Rat)*x-(l.1:Rat)*y)*(fx l)⁻¹
def ij (l:L3)(t:Rat):Rat:=(l.2.1:Rat)*t-(l.1:Rat)*(l.2.2:Rat)*(fx l)⁻¹
def il (l:L3)(t:Rat):Rat:=-((l.1:Rat)*t)-(l.2.1:Rat)*(l.2.2:Rat)*(fx l)⁻¹
def ll (l:L3):L3:=(-l.1,-l.2.1,-l.2.2)
def Sp.neg (s:Sp):Sp:=⟨if s.b then 0 else -s.hi,if s.a then 0 else -s.lo,s.b,s.a⟩
def Sp.emp (s:Sp):Bool:=!s.a&&!s.b&&decide (eR s.lo s.hi≥0)
def Nz (l:L3):Prop:=¬(l.1=0/\l.2.1=0)
theorem sq_nonneg (x:Int):0<=x*x:=by
 rw [←Int.natAbs_mul_self];exact Int.natCast_nonneg _
theorem Ka (l:L3):fx l=((l.1*l.1+l.2.1*l.2.1:Int):Rat):=by unfold fx;simp
theorem Nz.norm {l:L3}(h:Nz l):fx l≠0:=by
 rw [Ka]
 have h1:=sq_nonneg l.1
 have h2:=sq_nonneg l.2.1
 have h3:l.1*l.1+l.2.1*l.2.1≠0:=by
  intro e
  have e1:l.1*l.1=0:=by omega
  have e2:l.2.1*l.2.1=0:=by omega
  exact h ⟨(Int.mul_eq_zero.1 e1).elim id id,(Int.mul_eq_zero.1 e2).elim id id⟩
 exact_mod_cast h3
theorem Kd {q:Rat}(h:q≠0):q.num≠0:=fun e=>h (Rat.num_eq_zero.1 e)
theorem UL {V:View}{l t:Value}{L:L3}{x:Rat}(hl:xh V l L)(ht:RR V t x){k:Nat}(sl:jX k L)(s1:Sz k x)(hk:20*k+19<274877906944) :
  ab prog 132 #[l,t] V fun r V'=>nG V' r (ij L x) (il L x):=by
 refine (Ct hl ht sl.1 sl.2.1 sl.2.2 s1 hk).mono ?_
 rintro r V2 l2 g
 have e1:ij L x=((L.1:Rat)*((-(L.2.2:Rat))*((L.1:Rat)*(L.1:Rat)+(L.2.1:Rat)*(L.2.1:Rat))⁻¹))+((L.2.1:Rat)*x):=by unfold ij fx;grind
 have e2:il L x=((L.2.1:Rat)*((-(L.2.2:Rat))*((L.1:Rat)*(L.1:Rat)+(L.2.1:Rat)*(L.2.1:Rat))⁻¹))+((-(L.1:Rat))*x):=by unfold il fx;grind
 rw [e1,e2];exact g
theorem FO {L:L3}{x:Rat}{k:Nat}(sl:jX k L)(s1:Sz k x):Sz (20*k+19) (ij L x):=by
 have e1:ij L x=((L.1:Rat)*((-(L.2.2:Rat))*((L.1:Rat)*(L.1:Rat)+(L.2.1:Rat)*(L.2.1:Rat))⁻¹))+((L.2.1:Rat)*x):=by unfold ij fx;grind
 rw [e1];exact yR sl.1 sl.2.1 sl.2.2 s1
theorem FP {L:L3}{x:Rat}{k:Nat}(sl:jX k L)(s1:Sz k x):Sz (20*k+19) (il L x):=by
 have e2:il L x=((L.2.1:Rat)*((-(L.2.2:Rat))*((L.1:Rat)*(L.1:Rat)+(L.2.1:Rat)*(L.2.1:Rat))⁻¹))+((-(L.1:Rat))*x):=by unfold il fx;grind
 rw [e2];exact yS sl.1 sl.2.1 sl.2.2 s1
theorem pY (q:Rat):q.num.sign=0↔q=0:=by rw [Int.sign_eq_zero_iff_zero,Rat.num_eq_zero]
theorem Fk {V:View}{l p:Value}{L:L3}{x y:Rat}(hl:xh V l L)(hp:nG V p x y){k:Nat}(sl:jX k L)(s1:Sz k x)(s2:Sz k y)(hk:16*k+16<274877906944) :
  ab prog 131 #[l,p] V fun r V'=>r=.int .i64 (ar L x y).num.sign:=xA hl hp sl.1 sl.2.1 sl.2.2 s1 s2 hk
theorem jX.rev {k:Nat}{L:L3}(h:jX k L):jX k (ll L):=by
 unfold jX ll
 simp only [Rat.intCast_neg]
 exact ⟨h.1.neg,h.2.1.neg,h.2.2.neg⟩
theorem FG {L:L3}(h:Nz L):((((((L.2.1:Int):Rat)))*((((L.2.1:Int):Rat))))+(((-(((L.1:Int):Rat))))*((-(((L.1:Int):Rat)))))).num≠0:=by
 have:(((((L.2.1:Int):Rat)))*((((L.2.1:Int):Rat))))+(((-(((L.1:Int):Rat))))*((-(((L.1:Int):Rat)))))=fx L:=by unfold fx;grind
 rw [this]
 exact Kd h.norm
theorem MG {V:View}{l p:Value}{L:L3}{x y:Rat}(hl:RL V l L.1 L.2.1 L.2.2)(hp:RP V p x y)(hz:Nz L){k:Nat}(sl:jX k L)(s1:Sz k x)(s2:Sz k y)(hk:8*k+7<274877906944) :
  ab prog 154 #[l,p] V fun r V'=>RQ V' r (Bq L x y):=by
 refine (xG hl hp (FG hz) sl.1 sl.2.1 sl.2.2 s1 s2 hk).mono ?_
 rintro r V2 l2 g
 have e:Bq L x y=((((x)*((((L.2.1:Int):Rat))))+((y)*((-(((L.1:Int):Rat))))))*((((((L.2.1:Int):Rat)))*((((L.2.1:Int):Rat))))+(((-(((L.1:Int):Rat))))*((-(((L.1:Int):Rat))))))⁻¹):=by
  unfold Bq fx;grind
 rw [e];exact g
theorem VC {V:View}{l t:Value}{L:L3}{x:Rat}(hl:RL V l L.1 L.2.1 L.2.2)(ht:RQ V t x)(hz:Nz L){k:Nat}(sl:jX k L)(s1:Sz k x)(hk:18*k+16<274877906944) :
  ab prog 119 #[l,t] V fun r V'=>RP V' r (ij L x) (il L x):=by
 refine (EV hl ht (FG hz) sl.1 sl.2.1 sl.2.2 s1 hk).mono ?_
 rintro r V2 l2 g
 have e1:ij L x=(((-((((L.2.2:Int):Rat))*((((((L.2.1:Int):Rat)))*((((L.2.1:Int):Rat))))+(((-(((L.1:Int):Rat))))*((-(((L.1:Int):Rat))))))⁻¹))*(((L.1:Int):Rat)))+(x)*(((L.2.1:Int):Rat))):=by unfold ij fx;grind
 have e2:il L x=(((-((((L.2.2:Int):Rat))*((((((L.2.1:Int):Rat)))*((((L.2.1:Int):Rat))))+(((-(((L.1:Int):Rat))))*((-(((L.1:Int):Rat))))))⁻¹))*(((L.2.1:Int):Rat)))+(x)*(-(((L.1:Int):Rat)))):=by unfold il fx;grind
 rw [e1,e2];exact g
theorem FF {V:View}{l p:Value}{L:L3}{x y:Rat}(hl:RL V l L.1 L.2.1 L.2.2)(hp:RP V p x y){k:Nat}(sl:jX k L)(s1:Sz k x)(s2:Sz k y)(hk:16*k+16<274877906944) :
  ab prog 76 #[l,p] V fun r V'=>r=.int .i64 (ar L x y).num.sign:=AG hl hp sl.1 sl.2.1 sl.2.2 s1 s2 hk
structure Ti (V:View) (vs:List Value) (i:Int) (f a b c:Rat):Prop where
 h0:0<=i
 h3:i<=3
 row:∃(x1 x2:Int)(p:OA)(y1 y2:Int)(q:OA)(z1 z2:Int)(r:OA),vs=[.int .i64 x1,.int .i64 x2,.pointer p,.int .i64 y1,.int .i64 y2,.pointer q,.int .i64 z1,.int .i64 z2,.pointer r] /\
  RR V (.agg #[.int .i64 x1,.int .i64 x2,.pointer p]) (if 0<i then a*f else a)/\RR V (.agg #[.int .i64 y1,.int .i64 y2,.pointer q]) (if 1<i then b*f else b)/\RR V (.agg #[.int .i64 z1,.int .i64 z2,.pointer r]) (if 2<i then c*f else c)
theorem Ti.le {V V':View}{vs:List Value}{i:Int}{f a b c:Rat}(h:Ti V vs i f a b c)(l:V.Le V'):Ti V' vs i f a b c:=by
 obtain ⟨h0,h3,x1,x2,p,y1,y2,q,z1,z2,r,e,g1,g2,g3⟩:=h
 exact ⟨h0,h3,x1,x2,p,y1,y2,q,z1,z2,r,e,g1.le l,g2.le l,g3.le l⟩
def FR (px py qx qy:Rat):L3:=Rf (-(qy-py)) (qx-px) (-(-(qy-py)*px+(qx-px)*py))
theorem M4 {px py qx qy:Rat}:(px=qx/\py=qy)↔(-(qy-py)=0/\qx-px=0):=⟨fun ⟨h1,h2⟩=>⟨by grind,by grind⟩,fun ⟨h1,h2⟩=>⟨by grind,by grind⟩⟩
def sS (b:Bool)(xs ys:List Nat):Rat:=mkRat (ay b xs) (val ys)
def OV (b:Bool)(xs ys:List Nat):Bool:=fH b xs&&decide (ag (val ys)=ys)&&!decide (ys=[])&&decide (Nat.gcd (val xs) (val ys)=1)
def Wm (b:Bool)(xs ys:List Nat):Bool:=!b&&decide (xs=[])&&decide (ys=[])
def Oi (b:Bool)(xs ys:List Nat)(no:Bool):Rat:=if no then 0 else sS b xs ys
def Ju (b:Bool)(xs ys:List Nat)(no:Bool):Bool:=if no then Wm b xs ys else OV b xs ys
theorem G1 {q:Rat}:OV (decide (q.num<0)) (ag q.num.natAbs) (ag q.den)=true/\sS (decide (q.num<0)) (ag q.num.natAbs) (ag q.den)=q:=by
 constructor
 ·unfold OV
  have h1:fH (decide (q.num<0)) (ag q.num.natAbs)=true:=by
   unfold fH
   rw [ae]
   by_cases h:q.num<0
   ·have:ag q.num.natAbs≠[]:=fun e=>by have:=bg.1 e;omega
    simp [h,this]
   ·simp [h]
  have h2:ag q.den≠[]:=fun e=>q.den_nz (bg.1 e)
  rw [h1,ae,ae]
  simp [h2,q.reduced]
 ·unfold sS
  rw [az,ae,Rat.mkRat_self]
theorem EK {V:View}{v:Value}{s:Sp}(h:Gn V v s){k:Nat}(hs:s.sz k)(hk:2*k<1099511627776) :
  ab prog 223 #[v] V fun r V'=>r=.bool s.emp:=by
 obtain ⟨x1,x2,p,y1,y2,q,rfl,h1,h2⟩:=h
 refine tu x1 x2 p y1 y2 q s.a s.b V _ ⟨fun ha=>⟨fun hb V1 l1=>(kG (h1.le l1) (h2.le l1) hs.1 hs.2 (by omega)).mono ?_,fun hb V4 l4=>?_⟩,fun ha V5 l5=>?_⟩
 ·rintro r V2 l2 rfl
  exact ⟨_,rfl,fun V3 l3=>by rw [Bool.not_eq_true'] at ha hb;simp [Sp.emp,ha,hb]⟩
 ·rw [Bool.not_eq_false'] at hb;simp [Sp.emp,hb]
 ·rw [Bool.not_eq_false'] at ha;simp [Sp.emp,ha]
def SA (V:View)(v:Value)(b1:Bool)(IF IH:List Nat)(b2:Bool)(IG II:List Nat)(na nb:Bool):Prop:=∃p n c p' n' c' q m e q' m' e',v=.agg #[.bool b1,.slice p n c,.slice p' n' c',.bool b2,.slice q m e,.slice q' m' e',.bool na,.bool nb] /\
 EB V (.agg #[.bool b1,.slice p n c,.slice p' n' c']) b1 IF IH/\EB V (.agg #[.bool b2,.slice q m e,.slice q' m' e']) b2 IG II
theorem SA.le {V V':View}{v:Value}{b1:Bool}{IF IH:List Nat}{b2:Bool}{IG II:List Nat}{na nb:Bool}(h:SA V v b1 IF IH b2 IG II na nb)(l:V.Le V'):SA V' v b1 IF IH b2 IG II na nb:=by
 obtain ⟨p,n,c,p',n',c',q,m,e,q',m',e',rfl,h1,h2⟩:=h
 exact ⟨_,_,_,_,_,_,_,_,_,_,_,_,rfl,h1.le l,h2.le l⟩
def R8 (b1:Bool)(IF IH:List Nat)(b2:Bool)(IG II:List Nat)(na nb:Bool):Sp:=⟨Oi b1 IF IH na,Oi b2 IG II nb,na,nb⟩
def okW (b1:Bool)(IF IH:List Nat)(b2:Bool)(IG II:List Nat)(na nb:Bool):Bool:=Ju b1 IF IH na&&Ju b2 IG II nb&&!(R8 b1 IF IH b2 IG II na nb).emp
def Ys (l:L3)(s:Sp):Prop:=dO l=true/\s.can/\s.emp=false
theorem RE.raw {V:View}{v:Value}{q:Rat}{no:Bool}(h:RE V v q no)(hc:no=true->q=0):∃b xs ys,EB V v b xs ys/\Ju b xs ys no=true/\Oi b xs ys no=q/\(∀k,Sz k q->xs.length<=k/\ys.length<=k):=by
 cases no with
 | true=>
  exact ⟨false,[],[],h.1 rfl,rfl,by rw [hc rfl];rfl,fun k _=>⟨Nat.zero_le _,Nat.zero_le _⟩⟩
 | false=>
  obtain ⟨p,n,c,p',n',c',rfl,h1,h2⟩:=h.2 rfl
  exact ⟨_,_,_,⟨_,_,_,_,_,_,rfl,h1,h2⟩,G1.1,G1.2,fun k hk=>⟨af hk.1,af hk.2⟩⟩
theorem xh.WW {V:View}{r:Value}{l:L3}(h:RL V r ((l.1:Rat)).num ((l.2.1:Rat)).num ((l.2.2:Rat)).num):RL V r l.1 l.2.1 l.2.2:=by
 simpa [Rat.num_intCast] using h
theorem Bl {l:L3}(h:dO l=true):Nz l:=by
 unfold dO at h
 intro e
 simp [e.1,e.2] at h
theorem jX.ag {k:Nat}{l:L3}(h:jX k l)(hk:k<=1099511627776):(ag l.1.natAbs).length<=1099511627776/\(ag l.2.1.natAbs).length<=1099511627776/\(ag l.2.2.natAbs).length<=1099511627776:=by
 have d1:=af (show l.1.natAbs<2^k from h.1.1)
 have d2:=af (show l.2.1.natAbs<2^k from h.2.1.1)
 have d3:=af (show l.2.2.natAbs<2^k from h.2.2.1)
 exact ⟨by omega,by omega,by omega⟩
def Sw (V:View)(ad:Addr)(l:L3)(s:Sp):Prop:=∃xs:List Value,Pv V (.agg xs.toArray) l s/\∀i x,xs[i]?=some x->V.at (ad.add i) x
theorem Sw.le {V V':View}{ad:Addr}{l:L3}{s:Sp}(h:Sw V ad l s)(e:V.Le V'):Sw V' ad l s:=by
 obtain ⟨xs,h1,h2⟩:=h;exact ⟨xs,h1.le e,fun i x hx=>e.at (h2 i x hx)⟩
structure N4 (V:View) (p:OA) (n:Nat) (fs:List (L3×Sp)):Prop where
 len:n=fs.length
 at_:∀(i:Nat)(h:i<fs.length),∃ad,ah p (i*14)=some ad/\Sw V ad fs[i].1 fs[i].2
theorem N4.le {V V':View}{p:OA}{n:Nat}{fs:List (L3×Sp)}(h:N4 V p n fs)(e:V.Le V'):N4 V' p n fs:=⟨h.len,fun i hi=>by obtain ⟨ad,h1,h2⟩:=h.at_ i hi;exact ⟨ad,h1,h2.le e⟩⟩
theorem gX {p:OA}{j:Nat}{ad:Addr}(h:ah p j=some ad):p.isSome=true:=by
 cases p with
 | none=>cases h
 | some a=>rfl
def SB (V:View)(ad:Addr)(s:Sp):Prop:=∃xs:List Value,EC V (.agg xs.toArray) s/\∀i x,xs[i]?=some x->V.at (ad.add i) x
theorem SB.le {V V':View}{ad:Addr}{s:Sp}(h:SB V ad s)(e:V.Le V'):SB V' ad s:=by
 obtain ⟨xs,h1,h2⟩:=h;exact ⟨xs,h1.le e,fun i x hx=>e.at (h2 i x hx)⟩
structure Tg (V:View) (p:OA) (n:Nat) (ss:List Sp):Prop where
 len:n=ss.length
 at_:∀(i:Nat)(h:i<ss.length),∃ad,ah p (i*8)=some ad/\SB V ad ss[i]
theorem Tg.le {V V':View}{p:OA}{n:Nat}{ss:List Sp}(h:Tg V p n ss)(e:V.Le V'):Tg V' p n ss:=⟨h.len,fun i hi=>by obtain ⟨ad,h1,h2⟩:=h.at_ i hi;exact ⟨ad,h1,h2.le e⟩⟩
def Sp.la (s:Sp)(t:Rat):Int:=if s.a then 1 else eR t s.lo
def Sp.lb (s:Sp)(t:Rat):Int:=if s.b then -1 else eR t s.hi
theorem ES {V:View}{v:Value}{q:Rat}(h:RQ V v q):ab prog 57 #[v] V fun r V'=>RQ V' r (-q):=by
 obtain ⟨p,n,c,p',n',c',rfl,h1,h2⟩:=h
 exact kg q h1 h2
theorem KW {px py qx qy:Rat}:((nD px py qx qy).1.num / (gW (nD px py qx qy).1.num (nD px py qx qy).2.1.num (nD px py qx qy).2.2.num:Int),(nD px py qx qy).2.1.num / (gW (nD px py qx qy).1.num (nD px py qx qy).2.1.num (nD px py qx qy).2.2.num:Int),(nD px py qx qy).2.2.num / (gW (nD px py qx qy).1.num (nD px py qx qy).2.1.num (nD px py qx qy).2.2.num:Int))=FR px py qx qy:=by
 unfold nD FR Rf Rc
 have e:∀x:Rat,(-x).den=x.den:=fun x=>rfl
 rw [e (-(qy-py)*px+(qx-px)*py)]
 rfl
theorem KX {px py qx qy:Rat}:((nD px py qx qy).1.num=0/\(nD px py qx qy).2.1.num=0)↔(px=qx/\py=qy):=by
 unfold nD
 dsimp only
 generalize hf:(-(qy-py)).den*(qx-px).den*(-(-(qy-py)*px+(qx-px)*py)).den=f
 have hf0:f≠0:=by rw [←hf];exact Nat.mul_ne_zero (Nat.mul_ne_zero (Rat.den_nz _) (Rat.den_nz _)) (Rat.den_nz _)
 have hf1:((f:Int):Rat)≠0:=by exact_mod_cast hf0
 rw [Rat.num_eq_zero,Rat.num_eq_zero,Rat.mul_eq_zero,Rat.mul_eq_zero,or_iff_left hf1,or_iff_left hf1]
 exact M4.symm
theorem Ip {V:View}{u w:Value}{px py qx qy:Rat}(hp:RP V u px py)(hq:RP V w qx qy){k:Nat}(s1:Sz k px)(s2:Sz k py)(s3:Sz k qx)(s4:Sz k qy)(hk1:1<=k)(hk:64*k+64<274877906944) :
  ab prog 11 #[u,w] V fun r V'=>(px=qx/\py=qy->∃l,r=.tuple #[l,.bool false]/\RL V' l 0 0 0)/\(¬(px=qx/\py=qy)->∃l,r=.tuple #[l,.bool true]/\RL V' l (FR px py qx qy).1 (FR px py qx qy).2.1 (FR px py qx qy).2.2):=by
 refine (sP hp hq s1 s2 s3 s4 hk1 hk).mono ?_
 rintro r V2 l2 ⟨m1,m2⟩
 have e:=KW (px:=px) (py:=py) (qx:=qx) (qy:=qy)
 rw [KX] at m1 m2
 refine ⟨m1,fun h=>?_⟩
 obtain ⟨l,hl,g⟩:=m2 h
 rw [←e]
 exact ⟨l,hl,g⟩
theorem zD {V:View}{p:OA}{n c:Nat}{ds:List Nat}(h:RD V p n c ds)(hm:ds.length<=1099511627776) :
  ab prog 105 #[.slice p n c] V fun r V'=>∃p1 n1 c1,r=.slice p1 n1 c1/\RN V' p1 n1 c1 (val ds):=by
 have hl:=h.len
 refine Gh p n c V _ ⟨aG ds,h.sl,by simp [hl],by omega,by omega,by simp,by simp [hl],?_,?_⟩
 ·intro v hv
  simp only [aG,List.mem_map] at hv
  obtain ⟨d,-,rfl⟩:=hv
  rfl
 ·intro bk J sp c' h1 h2 V1 l1 b hb
  simp only [Nat.zero_add,Nat.zero_mul,List.take_zero,List.nil_append] at hb h1 ⊢
  refine (cW (copied h.cZ hl h1 hb) (by omega)).mono ?_
  rintro r V2 l2 ⟨k,rfl,g⟩
  rw [aN h.cZ] at g
  exact ⟨_,_,_,rfl,fun J' V3 l3=>⟨_,_,_,rfl,g.le l3⟩⟩
theorem mV {V:View}(b:Bool){p:OA}{n c:Nat}{ds:List Nat}(h:RD V p n c ds)(hm:ds.length<=1099511627776) :
  ab prog 107 #[.agg #[.bool b,.slice p n c]] V fun r V'=>RI V' r (ay b ds):=by
 refine Gg b p n c V _ fun V1 l1=>(zD (h.le l1) hm).mono ?_
 rintro r V2 l2 ⟨p1,n1,c1,rfl,g⟩
 refine ⟨_,_,_,rfl,fun V3 l3=>(dS b (g.le l3)).mono ?_⟩
 rintro r V4 l4 ⟨p2,n2,c2,rfl,g2⟩
 exact ⟨_,_,_,_,rfl,fun V5 l5=>⟨_,_,_,rfl,g2.le l5⟩⟩
theorem pJ {b:Bool}{ds:List Nat}(h:bN ds):(ag (ay b ds).natAbs).length<=ds.length:=by
 rw [cK];exact bh h
theorem qG {V:View}{v:Value}{b:Bool}{xs ys:List Nat}(h:EB V v b xs ys)(m1:xs.length<=274877906944)(m2:ys.length<=274877906944) :
  ab prog 43 #[v] V fun r V'=>RQ V' r (sS b xs ys):=by
 obtain ⟨p,n,c,q,m,e,rfl,hx,hy⟩:=h
 have d1:=pJ (b:=b) hx.cZ
 have d2:=bh hy.cZ
 refine Gi b p n c q m e V _ fun V1 l1=>(zD (hy.le l1) (by omega)).mono ?_
 rintro r V2 l2 ⟨p1,n1,c1,rfl,g⟩
 have gl:=g.len
 refine ⟨_,_,_,rfl,fun h0 V3 l3=>?_,fun h0 V4 l4=>(mV b (hx.le (l1.trans (l2.trans l4))) (by omega)).mono ?_⟩
 ·have h0:((n1:Nat):Int)=0:=by simpa using h0
  have:ag (val ys)=[]:=List.length_eq_zero_iff.1 (by omega)
  have:val ys=0:=bg.1 this
  unfold sS
  rw [this,Rat.mkRat_zero]
  have:=RQ.zero (V:=V3)
  simpa using this
 ·have hd:val ys≠0:=fun e=>by
   rw [e] at gl
   have h0:¬((n1:Nat):Int)=0:=by simpa using h0
   exact h0 (by rw [gl];rfl)
  rintro r V5 l5 ⟨p2,n2,c2,rfl,g2⟩
  refine ⟨_,_,_,_,rfl,fun V6 l6=>(kO _ (g2.le l6) (g.le (l4.trans (l5.trans l6))) (by omega) (by omega) hd).mono ?_⟩
  rintro r V7 l7 k
  have k0:=k
  obtain ⟨_,_,_,_,_,_,rfl⟩:=k.shape
  exact ⟨_,_,_,_,_,_,_,rfl,fun V8 l8=>k0.le l8⟩
theorem sO {V:View}{p:OA}{n c:Nat}{ds:List Nat}(h:RD V p n c ds)(hm:ds.length<=1099511627776) :
  ab prog 202 #[.slice p n c] V fun r V'=>r=.bool (decide (ag (val ds)=ds)):=by
 have hl:=h.len
 refine rG p n c V _ ⟨fun h0 V1 l1=>?_,fun h0=>?_⟩
 ·have:ds=[]:=List.length_eq_zero_iff.1 (by simp at h0;omega)
  subst this;rfl
 ·have h0:0<n:=by simp at h0;omega
  simp (disch:=omega) only [aB]
  refine h.rd (n-1) (by omega) (by omega) fun V1 l1=>?_
  congr 1
  rw [Bool.eq_iff_iff]
  simp only [bne_iff_ne,ne_eq,decide_eq_true_eq]
  subst hl
  constructor
  ·intro hz
   exact pj h.cZ (sr fun _=>by simpa using hz)
  ·intro he hz
   have:rI ds:=by rw [←he];exact gZ _
   exact this.last (by omega) (by simpa using hz)
theorem hZ {V:View}(b:Bool){p:OA}{n c:Nat}{ds:List Nat}(h:RD V p n c ds)(hm:ds.length<=1099511627776) :
  ab prog 169 #[.agg #[.bool b,.slice p n c]] V fun r V'=>r=.bool (fH b ds):=by
 have hl:=h.len
 refine rF b p n c V _ fun V1 l1=>(sO (h.le l1) hm).mono ?_
 rintro r V2 l2 rfl
 refine ⟨_,rfl,fun h1=>⟨fun h2 V3 l3=>?_,fun h2 V4 l4=>?_⟩,fun h1 V5 l5=>?_⟩
 ·rw [Bool.not_eq_true'] at h2
  simp [fH,h1,h2]
 ·rw [Bool.not_eq_false'] at h2
  have e:decide (((n:Nat):Int)>0)=!decide (ds=[]):=by
   rw [Bool.eq_iff_iff,decide_eq_true_eq,Bool.not_eq_true',decide_eq_false_iff_not,←List.length_eq_zero_iff];omega
  rw [e]
  simp [fH,h1,h2]
 ·simp [fH,h1]
theorem Am {b:Bool}{xs ys:List Nat}(hx:bN xs)(hy:bN ys){k:Nat}(h1:xs.length<=k)(h2:ys.length<=k):Sz (32*k+1) (sS b xs ys):=by
 have b1:∀{ds:List Nat},bN ds->ds.length<=k->val ds<2^(32*k):=by
  intro ds hd hl
  have:=eL hd
  refine Nat.lt_of_lt_of_le this ?_
  have e:(4294967296:Nat)^ds.length<=4294967296^k:=Nat.pow_le_pow_right (by omega) hl
  refine Nat.le_trans e ?_
  rw [show (4294967296:Nat)=2^32 from rfl,←Nat.pow_mul]
  exact Nat.le_refl _
 have c1:=b1 hx h1
 have c2:=b1 hy h2
 have up:(2:Nat)^(32*k)<=2^(32*k+1):=Nat.pow_le_pow_right (by omega) (by omega)
 have one:1<2^(32*k+1):=Nat.one_lt_two_pow (by omega)
 unfold sS
 by_cases h0:val ys=0
 ·rw [h0,Rat.mkRat_zero]
  exact ⟨by show (0:Int).natAbs<_;omega,one⟩
 ·unfold Sz
  rw [Rat.num_mkRat,Rat.den_mkRat,if_neg h0,if_neg h0]
  constructor
  ·refine Nat.lt_of_le_of_lt ?_ (Nat.lt_of_lt_of_le c1 up)
   refine Nat.le_trans (Int.natAbs_ediv_le_natAbs _ _) ?_
   rw [cK]
   exact Nat.le_refl _
  ·exact Nat.lt_of_le_of_lt (Nat.div_le_self _ _) (Nat.lt_of_lt_of_le c2 up)
theorem EW {V:View}{v:Value}{b1:Bool}{IF IH:List Nat}{b2:Bool}{IG II:List Nat}{p n c p' n' c' q m e q' m' e'}(hv:v=.agg #[.bool b1,.slice p n c,.slice p' n' c',.bool b2,.slice q m e,.slice q' m' e'])
  (h1:EB V (.agg #[.bool b1,.slice p n c,.slice p' n' c']) b1 IF IH)(h2:EB V (.agg #[.bool b2,.slice q m e,.slice q' m' e']) b2 IG II)(m1:IF.length<=1000000)(m2:IH.length<=1000000)(m3:IG.length<=1000000)(m4:II.length<=1000000) :
  ab prog 34 #[v] V fun r V'=>RP V' r (sS b1 IF IH) (sS b2 IG II):=by
 subst hv
 refine Eo _ _ _ _ _ _ _ _ _ _ _ _ _ _ V _ fun V1 l1=>(qG (h1.le l1) (by omega) (by omega)).mono ?_
 rintro r V2 l2 g
 have g0:=g
 obtain ⟨_,_,_,_,_,_,rfl⟩:=g.shape
 refine ⟨_,_,_,_,_,_,_,rfl,fun V3 l3=>(qG (h2.le (l1.trans (l2.trans l3))) (by omega) (by omega)).mono ?_⟩
 rintro r V4 l4 k
 have k0:=k
 obtain ⟨_,_,_,_,_,_,rfl⟩:=k.shape
 exact ⟨_,_,_,_,_,_,_,rfl,fun V5 l5=>⟨_,_,_,_,_,_,_,_,_,_,_,_,rfl,g0.le (l3.trans (l4.trans l5)),k0.le l5⟩⟩
def Na (V:View)(v:Value)(b1:Bool)(xs:List Nat)(b2:Bool)(ys:List Nat)(b3:Bool)(zs:List Nat):Prop:=∃p n c q m e s i j,v=.agg #[.bool b1,.slice p n c,.bool b2,.slice q m e,.bool b3,.slice s i j]/\RD V p n c xs/\RD V q m e ys/\RD V s i j zs
theorem Na.le {V V':View}{v:Value}{b1:Bool}{xs:List Nat}{b2:Bool}{ys:List Nat}{b3:Bool}{zs:List Nat}(h:Na V v b1 xs b2 ys b3 zs)(l:V.Le V'):Na V' v b1 xs b2 ys b3 zs:=by
 obtain ⟨p,n,c,q,m,e,s,i,j,rfl,h1,h2,h3⟩:=h
 exact ⟨_,_,_,_,_,_,_,_,_,rfl,h1.le l,h2.le l,h3.le l⟩
def Te (v:Value):Prop:=∃b1 p1 n1 c1 b2 p2 n2 c2 b3 p3 n3 c3,v=.agg #[.bool b1,.slice p1 n1 c1,.bool b2,.slice p2 n2 c2,.bool b3,.slice p3 n3 c3]
def Dc (b1:Bool)(xs:List Nat)(b2:Bool)(ys:List Nat)(b3:Bool)(zs:List Nat):L3:=(ay b1 xs,ay b2 ys,ay b3 zs)
theorem ml {b1:Bool}{xs:List Nat}{b2:Bool}{ys:List Nat}{b3:Bool}{zs:List Nat}:iA b1 xs b2 ys b3 zs=(fH b1 xs&&fH b2 ys&&fH b3 zs&&dO (Dc b1 xs b2 ys b3 zs)):=by
 have e:=pP (a:=ay b1 xs) (b:=ay b2 ys) (c:=ay b3 zs)
 have hn:∀z:Int,fH (decide (z<0)) (ag z.natAbs)=true:=by
  intro z
  unfold fH
  rw [ae]
  by_cases h:z<0
  ·have:ag z.natAbs≠[]:=fun e=>by have:=bg.1 e;omega
   simp [h,this]
  ·simp [h]
 unfold iA at e ⊢
 rw [hn,hn,hn,az,az,az] at e
 simp only [Bool.true_and] at e
 unfold Dc
 rw [←e]
 simp only [Bool.and_assoc]
theorem uK {V:View}{v:Value}{b1:Bool}{xs:List Nat}{b2:Bool}{ys:List Nat}{b3:Bool}{zs:List Nat}(h:Na V v b1 xs b2 ys b3 zs)(m1:xs.length<=1000000)(m2:ys.length<=1000000)(m3:zs.length<=1000000) :
  ab prog 114 #[v] V fun r V'=>∃w,r=.tuple #[w,.bool (iA b1 xs b2 ys b3 zs)]/\Te w/\(iA b1 xs b2 ys b3 zs=true->RL V' w (ay b1 xs) (ay b2 ys) (ay b3 zs)):=by
 obtain ⟨p,n,c,q,m,e,s,i,j,rfl,hx,hy,hz⟩:=h
 have d1:=pJ (b:=b1) hx.cZ
 have d2:=pJ (b:=b2) hy.cZ
 have d3:=pJ (b:=b3) hz.cZ
 have bad:∀{V':View},iA b1 xs b2 ys b3 zs=false->∃w,Value.tuple #[.agg #[.bool false,.slice none 0 0,.bool false,.slice none 0 0,.bool false,.slice none 0 0],.bool false]=.tuple #[w,.bool (iA b1 xs b2 ys b3 zs)]/\Te w/\(iA b1 xs b2 ys b3 zs=true->RL V' w (ay b1 xs) (ay b2 ys) (ay b3 zs)):=fun h=>by
  rw [h];exact ⟨_,rfl,⟨_,_,_,_,_,_,_,_,_,_,_,_,rfl⟩,(fun h=>nomatch h)⟩
 refine En b1 p n c b2 q m e b3 s i j V _ fun V1 l1=>(hZ b1 (hx.le l1) (by omega)).mono ?_
 rintro r V2 l2 rfl
 refine ⟨_,rfl,fun h1 V3 l3=>bad (by rw [Bool.not_eq_true'] at h1;rw [ml];simp [h1]),fun h1 V4 l4=>(hZ b2 (hy.le (l1.trans (l2.trans l4))) (by omega)).mono ?_⟩
 rintro r V5 l5 rfl
 refine ⟨_,rfl,fun h2 V6 l6=>bad (by rw [Bool.not_eq_true'] at h2;rw [ml];simp [h2]),fun h2 V7 l7=>?_⟩
 have L7:V.Le V7:=l1.trans (l2.trans (l4.trans (l5.trans l7)))
 refine (hZ b3 (hz.le L7) (by omega)).mono ?_
 rintro r V8 l8 rfl
 refine ⟨_,rfl,fun h3 V9 l9=>bad (by rw [Bool.not_eq_true'] at h3;rw [ml];simp [h3]),fun h3 jG l10=>?_⟩
 rw [Bool.not_eq_false'] at h1 h2 h3
 have Lc:V.Le jG:=L7.trans (l8.trans l10)
 refine (mV b1 (hx.le Lc) (by omega)).mono ?_
 rintro r jZ bI ⟨pa,na,ca,rfl,ga⟩
 refine ⟨_,_,_,_,rfl,fun mQ bV=>(mV b2 (hy.le (Lc.trans (bI.trans bV))) (by omega)).mono ?_⟩
 rintro r qv cC ⟨pb,nb,cb,rfl,gb⟩
 refine ⟨_,_,_,_,rfl,fun mS du=>(mV b3 (hz.le (Lc.trans (bI.trans (bV.trans (cC.trans du))))) (by omega)).mono ?_⟩
 rintro r lH dv ⟨pc,nc,cc,rfl,gc⟩
 refine ⟨_,_,_,_,rfl,fun lP cX=>(fM (x:=(ay b1 xs).natAbs) (y:=(ay b2 ys).natAbs) (ga.le (bV.trans (cC.trans (du.trans (dv.trans cX))))) (gb.le (du.trans (dv.trans cX))) (by omega) (by omega)).mono ?_⟩
 rintro r mT c_ ⟨pg,ng,cg,rfl,gg⟩
 have hg:=gg.len
 have lgl:(ag (Nat.gcd (ay b1 xs).natAbs (ay b2 ys).natAbs)).length<=274877906944:=by
  by_cases h0:(ay b1 xs).natAbs=0
  ·rw [h0,Nat.gcd_zero_left];omega
  ·have:=aD (Nat.gcd_le_left (ay b2 ys).natAbs (Nat.pos_of_ne_zero h0));omega
 have ok:iA b1 xs b2 ys b3 zs=dO (Dc b1 xs b2 ys b3 zs):=by rw [ml,h1,h2,h3];rfl
 have rl:∀V':View,mT.Le V'->RL V' (.agg #[.bool (decide (ay b1 xs<0)),.slice pa na ca,.bool (decide (ay b2 ys<0)),.slice pb nb cb,.bool (decide (ay b3 zs<0)),.slice pc nc cc]) (ay b1 xs) (ay b2 ys) (ay b3 zs):=fun V' l'=>
  ⟨_,_,_,_,_,_,_,_,_,rfl,ga.le (bV.trans (cC.trans (du.trans (dv.trans (cX.trans (c_.trans l')))))),gb.le (du.trans (dv.trans (cX.trans (c_.trans l')))),gc.le (cX.trans (c_.trans l'))⟩
 have zg:(Nat.gcd (ay b1 xs).natAbs (ay b2 ys).natAbs=0)↔(ay b1 xs=0/\ay b2 ys=0):=by rw [Nat.gcd_eq_zero_iff];omega
 have Ra:ng=0↔(ay b1 xs=0/\ay b2 ys=0):=by
  rw [←zg,←@bg (Nat.gcd (ay b1 xs).natAbs (ay b2 ys).natAbs),←List.length_eq_zero_iff];omega
 refine ⟨_,_,_,rfl,fun hp qt cR=>?_,fun hp Gq lQ=>?_⟩
 ·have hp:¬ng=0:=by have:=of_decide_eq_true hp;omega
  rw [Ra] at hp
  refine (fM (x:=Nat.gcd (ay b1 xs).natAbs (ay b2 ys).natAbs) (y:=(ay b3 zs).natAbs) (gg.le cR) (gc.le (cX.trans (c_.trans cR))) lgl (by omega)).mono ?_
  rintro r rK dA ⟨ph,nh,ch,rfl,gh⟩
  refine ⟨_,_,_,rfl,fun yV fG=>kf.mono ?_⟩
  rintro r ui fv ⟨po,no,co,rfl,go⟩
  have lg3:(ag (Nat.gcd (Nat.gcd (ay b1 xs).natAbs (ay b2 ys).natAbs) (ay b3 zs).natAbs)).length<=1099511627776:=by
   have:=aD (Nat.gcd_le_left (ay b3 zs).natAbs (Nat.pos_of_ne_zero fun e=>hp (zg.1 e)));omega
  refine ⟨_,_,_,rfl,fun uj gF=>(gy (x:=Nat.gcd (Nat.gcd (ay b1 xs).natAbs (ay b2 ys).natAbs) (ay b3 zs).natAbs) (y:=1) (gh.le (fG.trans (fv.trans gF))) (go.le gF) lg3 (by decide)).mono ?_⟩
  rintro r xu gY rfl
  have e1:(jK (Nat.gcd (Nat.gcd (ay b1 xs).natAbs (ay b2 ys).natAbs) (ay b3 zs).natAbs) 1==0)=dO (Dc b1 xs b2 ys b3 zs):=by
   unfold dO Dc gW
   dsimp only
   rw [decide_eq_true hp,Bool.true_and]
   rw [Bool.eq_iff_iff,beq_iff_eq,decide_eq_true_eq]
   exact iH
  refine ⟨_,rfl,fun Gp lN=>⟨_,by rw [ok,←e1],⟨_,_,_,_,_,_,_,_,_,_,_,_,rfl⟩,fun _=>rl Gp (cR.trans (dA.trans (fG.trans (fv.trans (gF.trans (gY.trans lN))))))⟩⟩
 ·have hp:ng=0:=by have:=of_decide_eq_false hp;omega
  rw [Ra] at hp
  have e1:dO (Dc b1 xs b2 ys b3 zs)=false:=by unfold dO Dc;simp [hp.1,hp.2]
  exact ⟨_,by rw [ok,e1],⟨_,_,_,_,_,_,_,_,_,_,_,_,rfl⟩,fun h=>by rw [ok,e1] at h;cases h⟩
structure FW where
 b1:Bool
 xs:List Nat
 b2:Bool
 ys:List Nat
 b3:Bool
 zs:List Nat
 c1:Bool
 us:List Nat
 vs:List Nat
 c2:Bool
 ws:List Nat
 ts:List Nat
 na:Bool
 nb:Bool
def FW.ln (f:FW):L3:=Dc f.b1 f.xs f.b2 f.ys f.b3 f.zs
def FW.sp (f:FW):Sp:=R8 f.c1 f.us f.vs f.c2 f.ws f.ts f.na f.nb
def FW.ok (f:FW):Bool:=iA f.b1 f.xs f.b2 f.ys f.b3 f.zs&&okW f.c1 f.us f.vs f.c2 f.ws f.ts f.na f.nb
structure FW.short (f:FW):Prop where
 x:f.xs.length<=1000000
 y:f.ys.length<=1000000
 z:f.zs.length<=1000000
 u:f.us.length<=1000000
 v:f.vs.length<=1000000
 w:f.ws.length<=1000000
 t:f.ts.length<=1000000
def Sx (V:View)(v:Value)(f:FW):Prop:=∃p1 n1 d1 p2 n2 d2 p3 n3 d3 p n c p' n' c' q m e q' m' e',
 v=.agg #[.bool f.b1,.slice p1 n1 d1,.bool f.b2,.slice p2 n2 d2,.bool f.b3,.slice p3 n3 d3,.bool f.c1,.slice p n c,.slice p' n' c',.bool f.c2,.slice q m e,.slice q' m' e',.bool f.na,.bool f.nb] /\
 Na V (.agg #[.bool f.b1,.slice p1 n1 d1,.bool f.b2,.slice p2 n2 d2,.bool f.b3,.slice p3 n3 d3]) f.b1 f.xs f.b2 f.ys f.b3 f.zs /\
 SA V (.agg #[.bool f.c1,.slice p n c,.slice p' n' c',.bool f.c2,.slice q m e,.slice q' m' e',.bool f.na,.bool f.nb]) f.c1 f.us f.vs f.c2 f.ws f.ts f.na f.nb
theorem Sx.le {V V':View}{v:Value}{f:FW}(h:Sx V v f)(l:V.Le V'):Sx V' v f:=by
 obtain ⟨p1,n1,d1,p2,n2,d2,p3,n3,d3,p,n,c,p',n',c',q,m,e,q',m',e',rfl,h1,h2⟩:=h
 exact ⟨_,_,_,_,_,_,_,_,_,_,_,_,_,_,_,_,_,_,_,_,_,rfl,h1.le l,h2.le l⟩
theorem Bj {b:Bool}{xs:List Nat}(h:fH b xs=true):b=decide (ay b xs<0)/\xs=ag (ay b xs).natAbs:=by
 unfold fH at h
 simp only [Bool.and_eq_true,decide_eq_true_eq,Bool.or_eq_true,Bool.not_eq_true'] at h
 obtain ⟨h1,h2⟩:=h
 refine ⟨?_,by rw [cK,h1]⟩
 cases b with
 | false=>simp [ay]
 | true=>
  have:xs≠[]:=by simpa using h2
  have:val xs≠0:=fun e=>this (by rw [←h1,e];rfl)
  simp [ay]
  omega
structure PR (V:View) (p:OA) (n:Nat) (l:List Nat):Prop where
 len:n=l.length
 at_:∀(i:Nat)(h:i<l.length),∃ad q e,ah p (i*1)=some ad/\V.at ad (.slice q l[i] e)
theorem PR.le {V V':View}{p:OA}{n:Nat}{l:List Nat}(h:PR V p n l)(e:V.Le V'):PR V' p n l:=⟨h.len,fun i hi=>by obtain ⟨ad,q,c,h1,h2⟩:=h.at_ i hi;exact ⟨ad,q,c,h1,e.at h2⟩⟩
theorem LD {V:View}{p:OA}{n c:Nat}{l:List Nat}(N:Int)(h:PR V p n l)(hn:l.length<1000000) :
  ab prog 112 #[.int .i64 N,.slice p n c] V fun r V'=>∃b,r=.bool b/\(b=true->∀m∈l,(m:Int)<=N):=by
 obtain rfl:=h.len
 refine w_ N p _ c V _ ⟨fun z _=>0<=z/\z<=l.length/\∀i (hi:i<l.length),(i:Int)<z->((l[i]:Nat):Int)<=N,fun z=>(l.length-z).toNat,⟨0,by and_intros<;>rfl,by omega,by omega,fun i hi h=>by omega⟩,?_⟩
 rintro z V1 l1 ⟨z0,z1,z2⟩
 refine ⟨rfl,fun hz=>?_,fun hz V3 l3=>⟨true,rfl,fun _ m hm=>?_⟩⟩
 ·have hz:z<l.length:=of_decide_eq_true hz
  obtain ⟨i,rfl⟩:∃i:Nat,z=i:=⟨z.toNat,by omega⟩
  have hi:i<l.length:=by omega
  rw [Int.toNat_natCast]
  have w:i64.wrap ((i:Int)+1)=(i:Int)+1:=aB (by omega)
  rw [w]
  obtain ⟨ad,q,e,ha,hx⟩:=(h.le l1).at_ i hi
  refine ⟨gX ha,⟨by omega,hz⟩,q,l[i],e,⟨ad,ha,hx⟩,fun hb V2 l2=>⟨false,rfl,(fun h=>nomatch h)⟩,fun hb=>⟨(i:Int)+1,by dsimp only;omega,by and_intros<;>rfl,by omega,by omega,fun j hj hlt=>?_⟩⟩
  have hb:¬((l[i]:Nat):Int)>N:=of_decide_eq_false hb
  by_cases e:j=i
  ·subst e;omega
  ·exact z2 j hj (by omega)
 ·have hz:¬z<l.length:=of_decide_eq_false hz
  obtain ⟨i,hi,rfl⟩:=List.mem_iff_getElem.1 hm
  exact z2 i hi (by omega)
structure IX (V:View) (p:OA) (n:Nat) (l:List (Nat×Nat)):Prop where
 len:n=l.length
 at_:∀(i:Nat)(h:i<l.length),∃ad b q e q' e',ah p (i*3)=some ad/\V.at (ad.add 0) (.bool b)/\V.at (ad.add 1) (.slice q l[i].1 e)/\V.at (ad.add 2) (.slice q' l[i].2 e')
theorem IX.le {V V':View}{p:OA}{n:Nat}{l:List (Nat×Nat)}(h:IX V p n l)(e:V.Le V'):IX V' p n l:=⟨h.len,fun i hi=>by obtain ⟨ad,b,q,c,q',c',h1,h2,h3,h4⟩:=h.at_ i hi;exact ⟨ad,b,q,c,q',c',h1,e.at h2,e.at h3,e.at h4⟩⟩
theorem Jh {V:View}{p:OA}{n c:Nat}{l:List (Nat×Nat)}(N:Int)(h:IX V p n l)(hn:l.length<1000000) :
  ab prog 113 #[.int .i64 N,.slice p n c] V fun r V'=>∃b,r=.bool b/\(b=true->∀m∈l,(m.1:Int)<=N/\(m.2:Int)<=N):=by
 obtain rfl:=h.len
 refine tL N p _ c V _ ⟨fun z _=>0<=z/\z<=l.length/\∀i (hi:i<l.length),(i:Int)<z->((l[i].1:Nat):Int)<=N/\((l[i].2:Nat):Int)<=N,fun z=>(l.length-z).toNat,⟨0,by and_intros<;>rfl,by omega,by omega,fun i hi h=>by omega⟩,?_⟩
 rintro z V1 l1 ⟨z0,z1,z2⟩
 refine ⟨rfl,fun hz=>?_,fun hz V3 l3=>⟨true,rfl,fun _ m hm=>?_⟩⟩
 ·have hz:z<l.length:=of_decide_eq_true hz
  obtain ⟨i,rfl⟩:∃i:Nat,z=i:=⟨z.toNat,by omega⟩
  have hi:i<l.length:=by omega
  rw [Int.toNat_natCast]
  have w:i64.wrap ((i:Int)+1)=(i:Int)+1:=aB (by omega)
  rw [w]
  obtain ⟨ad,b,q,e,q',e',ha,hx,hy,hw⟩:=(h.le l1).at_ i hi
  refine ⟨gX ha,⟨by omega,hz⟩,b,q,l[i].1,e,q',l[i].2,e',ad,ha,hx,hy,hw,fun hb V2 l2=>⟨false,rfl,(fun h=>nomatch h)⟩,fun hb=>⟨fun hc V2 l2=>⟨false,rfl,(fun h=>nomatch h)⟩,fun hc=>⟨(i:Int)+1,by dsimp only;omega,by and_intros<;>rfl,by omega,by omega,fun j hj hlt=>?_⟩⟩⟩
  have hb:¬((l[i].1:Nat):Int)>N:=of_decide_eq_false hb
  have hc:¬((l[i].2:Nat):Int)>N:=of_decide_eq_false hc
  by_cases e:j=i
  ·subst e;exact ⟨by omega,by omega⟩
  ·exact z2 j hj (by omega)
 ·have hz:¬z<l.length:=of_decide_eq_false hz
  obtain ⟨i,hi,rfl⟩:=List.mem_iff_getElem.1 hm
  exact z2 i hi (by omega)
theorem Rd {V:View}{bk:Nat}{b1 p1 n1 c1 p2 n2 c2 b2 p3 n3 c3 p4 n4 c4}{ty:TypeId}(h:V.bG bk (.cells #[.bool b1,.slice p1 n1 c1,.slice p2 n2 c2,.bool b2,.slice p3 n3 c3,.slice p4 n4 c4] ty (0,0))):IX V (some ⟨bk,0,none⟩) 2 [(n1,n2),(n3,n4)]:=by
 refine ⟨rfl,fun i hi=>?_⟩
 have hv:=fun i x hx=>eH (i:=i) (v:=x) (xs:=[Value.bool b1,.slice p1 n1 c1,.slice p2 n2 c2,.bool b2,.slice p3 n3 c3,.slice p4 n4 c4]) h hx
 have ha:ah (some ⟨bk,0,none⟩) (i*3)=some ⟨bk,i*3,none⟩:=by simp [ah,add_zero']
 have hi:i=0\/i=1:=by have:i<2:=hi;omega
 have hj:∀j,(⟨bk,i*3,none⟩:Addr).add j=⟨bk,i*3+j,none⟩:=fun j=>by rw [←add_zero',oS,add_zero']
 rcases hi with rfl|rfl
 ·exact ⟨_,_,_,_,_,_,ha,by rw [hj];exact hv 0 _ rfl,by rw [hj];exact hv 1 _ rfl,by rw [hj];exact hv 2 _ rfl⟩
 ·exact ⟨_,_,_,_,_,_,ha,by rw [hj];exact hv 3 _ rfl,by rw [hj];exact hv 4 _ rfl,by rw [hj];exact hv 5 _ rfl⟩
theorem Jg {V:View}{bk c:Nat}{b1 p1 n1 c1 p2 n2 c2 b2 p3 n3 c3 p4 n4 c4}{ty:TypeId}(N:Int)(h:V.bG bk (.cells #[.bool b1,.slice p1 n1 c1,.slice p2 n2 c2,.bool b2,.slice p3 n3 c3,.slice p4 n4 c4] ty (0,0))) :
  ab prog 48 #[.int .i64 N,.slice (some ⟨bk,0,none⟩) 1 c] V fun r V'=>∃b,r=.bool b/\(b=true->(n1:Int)<=N/\(n2:Int)<=N/\(n3:Int)<=N/\(n4:Int)<=N):=by
 have hat:∀{V1:View},V.Le V1->∀(i:Nat)(x:Value),([Value.bool b1,.slice p1 n1 c1,.slice p2 n2 c2,.bool b2,.slice p3 n3 c3,.slice p4 n4 c4]:List Value)[i]?=some x->V1.at ((⟨bk,0,none⟩:Addr).add i) x:=fun l i x hx=>by rw [add_zero'];exact l.at (eH (xs:=[Value.bool b1,.slice p1 n1 c1,.slice p2 n2 c2,.bool b2,.slice p3 n3 c3,.slice p4 n4 c4]) h hx)
 refine tK N _ 1 c V _ ⟨fun z _=>z=0\/(z=1/\((n1:Int)<=N/\(n2:Int)<=N/\(n3:Int)<=N/\(n4:Int)<=N)),fun z=>(1-z).toNat,⟨0,by and_intros<;>rfl,.inl rfl⟩,?_⟩
 rintro z V1 l1 hz
 refine ⟨rfl,fun hlt=>?_,fun hlt V5 l5=>⟨true,rfl,fun _=>?_⟩⟩
 ·have hlt:z<1:=of_decide_eq_true hlt
  obtain rfl:z=0:=by rcases hz with h|h<;>omega
  have w:i64.wrap ((0:Int)+1)=1:=aB (by omega)
  rw [w]
  refine ⟨rfl,⟨by omega,by omega⟩,_,_,_,_,_,_,_,_,_,_,_,_,_,_,(⟨bk,0,none⟩:Addr),by rfl,hat l1 0 _ rfl,hat l1 1 _ rfl,hat l1 2 _ rfl,hat l1 3 _ rfl,hat l1 4 _ rfl,hat l1 5 _ rfl,fun V2 l2 bk2 hb2=>?_⟩
  refine (Jh N (Rd hb2) (by simp)).mono ?_
  rintro r V3 l3 ⟨b,rfl,hb⟩
  refine ⟨_,rfl,fun J=>⟨fun h V4 l4=>⟨false,rfl,(fun h=>nomatch h)⟩,fun h=>⟨1,by dsimp only;omega,by and_intros<;>rfl,.inr ⟨rfl,?_⟩⟩⟩⟩
  rw [Bool.not_eq_false'] at h
  have:=hb h
  have k1:=this (n1,n2) (by simp)
  have k2:=this (n3,n4) (by simp)
  exact ⟨k1.1,k1.2,k2.1,k2.2⟩
 ·have hlt:¬z<1:=of_decide_eq_false hlt
  rcases hz with h|h
  ·omega
  ·exact h.2
def lG (V:View)(v:Value)(l:L3):Prop:=RL V v l.1 l.2.1 l.2.2\/dO l=false/\∃b1 p n c xs b2 q m e ys b3 s i j zs,v=.agg #[.bool b1,.slice p n c,.bool b2,.slice q m e,.bool b3,.slice s i j]/\RD V p n c xs/\RD V q m e ys/\RD V s i j zs /\
 iA b1 xs b2 ys b3 zs=false/\(xs.length<=1000000/\ys.length<=1000000/\zs.length<=1000000)/\Sz 1000000 (ay b1 xs:Rat)/\Sz 1000000 (ay b2 ys:Rat)/\Sz 1000000 (ay b3 zs:Rat)
theorem lG.le {V V':View}{v:Value}{l:L3}(h:lG V v l)(e:V.Le V'):lG V' v l:=by
 rcases h with h|⟨ho,b1,p,n,c,xs,b2,q,m,e',ys,b3,s,i,j,zs,hv,h1,h2,h3,h4⟩
 ·exact .inl (h.le e)
 ·exact .inr ⟨ho,b1,p,n,c,xs,b2,q,m,e',ys,b3,s,i,j,zs,hv,h1.le e,h2.le e,h3.le e,h4⟩
theorem lG.ok {V:View}{v:Value}{l:L3}(h:lG V v l)(ho:dO l=true):RL V v l.1 l.2.1 l.2.2:=by
 rcases h with h|⟨h,-⟩
 ·exact h
 ·rw [ho] at h;cases h
theorem AA {V:View}{v:Value}{x:L3}(h:lG V v x)(hb:Bd x) :
  ab prog 127 #[v] V fun r V'=>∃w,r=.tuple #[w,.bool (dO x)]/\Ls w/\(dO x=true->xr V' w x.1 x.2.1 x.2.2):=by
 rcases h with h|⟨ho,b1,p,n,c,xs,b2,q,m,e',ys,b3,s,i,j,zs,rfl,h1,h2,h3,h4,⟨m1,m2,m3⟩,s1,s2,s3⟩
 ·exact Cs h hb
 ·refine (uF b1 b2 b3 h1 h2 h3 (by omega) (by omega) (by omega) s1 s2 s3 (by omega)).mono ?_
  rintro r V2 l2 ⟨w,rfl,g1,g2⟩
  rw [h4] at g2 ⊢
  rw [ho]
  exact ⟨w,rfl,g1,fun h=>by cases h⟩
def NR (V:View)(vs:List Value)(l:List Nd):Prop:=∀(i:Nat)(d:Nd),l[i]?=some d->∃(b1:Bool)(p1:OA)(n1 c1:Nat)(b2:Bool)(p2:OA)(n2 c2:Nat)(b3:Bool)(p3:OA)(n3 c3:Nat),
 (∀j v,([.bool b1,.slice p1 n1 c1,.bool b2,.slice p2 n2 c2,.bool b3,.slice p3 n3 c3,.int .i64 d.left,.int .i64 d.right]:List Value)[j]?=some v->vs[i*8+j]?=some v) /\
 lG V (.agg #[.bool b1,.slice p1 n1 c1,.bool b2,.slice p2 n2 c2,.bool b3,.slice p3 n3 c3]) d.ln
theorem NR.le {V V':View}{vs:List Value}{l:List Nd}(h:NR V vs l)(hl:V.Le V'):NR V' vs l:=fun i d hd=>by
 obtain ⟨b1,p1,n1,c1,b2,p2,n2,c2,b3,p3,n3,c3,h1,h2⟩:=h i d hd
 exact ⟨b1,p1,n1,c1,b2,p2,n2,c2,b3,p3,n3,c3,h1,h2.le hl⟩
structure NS (V:View) (p:OA) (n c:Nat) (l:List Nd):Prop where
 len:n=l.length
 cap:n<=c
 row:∃vs,V.sl p vs/\NR V vs l
 J_:p.isNone=true->c=0
theorem NS.le {V V':View}{p:OA}{n c:Nat}{l:List Nd}(h:NS V p n c l)(hl:V.Le V'):NS V' p n c l:=by
 obtain ⟨h1,h2,⟨vs,h3,h4⟩,h5⟩:=h
 exact ⟨h1,h2,⟨vs,hl.sl h3,h4.le hl⟩,h5⟩
theorem NS.nil {V:View}:NS V none 0 0 []:=⟨rfl,Nat.le_refl _,⟨[],fun i v h=>by simp at h,fun i d h=>by simp at h⟩,fun _=>rfl⟩
theorem NS.rd {V:View}{p:OA}{n c:Nat}{l:List Nd}(h:NS V p n c l){k:Nat}{d:Nd}(hd:l[k]?=some d) :
  ∃(b1:Bool)(p1:OA)(n1 c1:Nat)(b2:Bool)(p2:OA)(n2 c2:Nat)(b3:Bool)(p3:OA)(n3 c3:Nat)(a:Addr),ah p (k*8)=some a /\
   V.at (a.add 0) (.bool b1)/\V.at (a.add 1) (.slice p1 n1 c1)/\V.at (a.add 2) (.bool b2)/\V.at (a.add 3) (.slice p2 n2 c2)/\V.at (a.add 4) (.bool b3)/\V.at (a.add 5) (.slice p3 n3 c3)/\V.at (a.add 6) (.int .i64 d.left)/\V.at (a.add 7) (.int .i64 d.right) /\
   lG V (.agg #[.bool b1,.slice p1 n1 c1,.bool b2,.slice p2 n2 c2,.bool b3,.slice p3 n3 c3]) d.ln:=by
 obtain ⟨vs,hs,hr⟩:=h.row
 obtain ⟨b1,p1,n1,c1,b2,p2,n2,c2,b3,p3,n3,c3,h1,h2⟩:=hr k d hd
 obtain ⟨ad,rfl,-⟩:=hs _ _ (h1 0 _ rfl)
 have key:∀j v,([.bool b1,.slice p1 n1 c1,.bool b2,.slice p2 n2 c2,.bool b3,.slice p3 n3 c3,.int .i64 d.left,.int .i64 d.right]:List Value)[j]?=some v->V.at ((ad.add (k*8)).add j) v:=by
  intro j v hv
  obtain ⟨Tv,e,ha⟩:=hs _ _ (h1 j v hv)
  cases e
  rw [N6]
  exact ha
 exact ⟨b1,p1,n1,c1,b2,p2,n2,c2,b3,p3,n3,c3,_,rfl,key 0 _ rfl,key 1 _ rfl,key 2 _ rfl,key 3 _ rfl,key 4 _ rfl,key 5 _ rfl,key 6 _ rfl,key 7 _ rfl,h2⟩
theorem NP {vs:List Value}{n b:Nat}(h:vs≠[]):vb vs n b=b:=by cases vs with|nil=>exact absurd rfl h|cons v r=>rfl
theorem NR.push {V:View}{vs sp:List Value}{l:List Nd}(h:NR V vs l)(hl:l.length*8<=vs.length){ln:L3}{x y:Int}{b1:Bool}{p1:OA}{n1 c1:Nat}{b2:Bool}{p2:OA}{n2 c2:Nat}{b3:Bool}{p3:OA}{n3 c3:Nat}
  (hL:RL V (.agg #[.bool b1,.slice p1 n1 c1,.bool b2,.slice p2 n2 c2,.bool b3,.slice p3 n3 c3]) ln.1 ln.2.1 ln.2.2) :
  NR V (vs.take (l.length*8)++[.bool b1,.slice p1 n1 c1,.bool b2,.slice p2 n2 c2,.bool b3,.slice p3 n3 c3,.int .i64 x,.int .i64 y]++sp) (l++[⟨ln,x,y⟩]):=by
 intro i d hd
 rcases Nat.lt_or_ge i l.length with hi|hi
 ·rw [List.getElem?_append_left hi] at hd
  obtain ⟨b1',RB,n1',c1',b2',Vb,U5,c2',b3',Vc,U6,c3',h1,h2⟩:=h i d hd
  refine ⟨b1',RB,n1',c1',b2',Vb,U5,c2',b3',Vc,U6,c3',fun j v hv=>?_,h2⟩
  have hj:j<8:=by
   rcases Nat.lt_or_ge j 8 with hj|hj
   ·exact hj
   ·rw [List.getElem?_eq_none (by simpa using hj)] at hv;cases hv
  have:=h1 j v hv
  rw [List.append_assoc,List.getElem?_append_left (by rw [List.length_take];omega),List.getElem?_take,if_pos (by omega)]
  exact this
 ·rw [List.getElem?_append_right hi] at hd
  have hi':i=l.length:=by
   rcases Nat.lt_or_ge (i-l.length) 1 with h'|h'
   ·omega
   ·rw [List.getElem?_eq_none (by simpa using h')] at hd;cases hd
  subst hi'
  simp only [Nat.sub_self,List.getElem?_cons_zero,Option.some.injEq] at hd
  subst hd
  refine ⟨b1,p1,n1,c1,b2,p2,n2,c2,b3,p3,n3,c3,fun j v hv=>?_,.inl hL⟩
  have hj:j<8:=by
   rcases Nat.lt_or_ge j 8 with hj|hj
   ·exact hj
   ·rw [List.getElem?_eq_none (by simpa using hj)] at hv;cases hv
  rw [List.append_assoc,List.getElem?_append_right (by rw [List.length_take];omega),List.length_take,Nat.min_eq_left hl,Nat.add_sub_cancel_left,List.getElem?_append_left (by simpa using hj)]
  exact hv
theorem NR.take {V:View}{vs:List Value}{l:List Nd}(h:NR V vs l):NR V (vs.take (l.length*8)) l:=by
 intro i d hd
 obtain ⟨b1,p1,n1,c1,b2,p2,n2,c2,b3,p3,n3,c3,h1,h2⟩:=h i d hd
 refine ⟨b1,p1,n1,c1,b2,p2,n2,c2,b3,p3,n3,c3,fun j v hv=>?_,h2⟩
 have hj:j<8:=by
  rcases Nat.lt_or_ge j 8 with hj|hj
  ·exact hj
  ·rw [List.getElem?_eq_none (by simpa using hj)] at hv;cases hv
 have hi:i<l.length:=by
  rcases Nat.lt_or_ge i l.length with h|h
  ·exact h
  ·rw [List.getElem?_eq_none h] at hd;cases hd
 rw [List.getElem?_take,if_pos (by omega)]
 exact h1 j v hv
end Go.Proofs.Tryz
namespace Go.Proofs.Tryz
open Go.bE
def B_ (V:View)(g:Nat)(y:Value):Prop:=V.at ⟨g,0,none⟩ y
theorem B_.le {V V':View}{g:Nat}{y:Value}(h:B_ V g y)(l:V.Le V'):B_ V' g y:=l.at h
def ED (y:Value):Prop:=∃a:Addr,y=.iface 294 (.pointer (some a))
end Go.Proofs.Tryz
namespace Go.Proofs.Tryz
open Go.bE Go.dP
def AT (V:View)(v:Value)(root:Int)(l:List Nd):Prop:=∃q n c,v=.agg #[.int .i64 root,.slice q n c]/\NS V q n c l
theorem AT.le {V V':View}{v:Value}{root:Int}{l:List Nd}(h:AT V v root l)(hl:V.Le V'):AT V' v root l:=by
 obtain ⟨q,n,c,e,h⟩:=h;exact ⟨q,n,c,e,h.le hl⟩
theorem AT.zero {V:View}:AT V (.agg #[.int .i64 0,.slice none 0 0]) 0 []:=⟨_,_,_,rfl,NS.nil⟩
theorem AF {V:View}{v:Value}{x:L3}(h:lG V v x)(hb:Bd x) :
  ab prog 114 #[v] V fun r V'=>∃w,r=.tuple #[w,.bool (dO x)]/\Te w/\(dO x=true->RL V' w x.1 x.2.1 x.2.2):=by
 rcases h with h|⟨ho,b1,p,n,c,xs,b2,q,m,e',ys,b3,s,i,j,zs,rfl,h1,h2,h3,h4,⟨m1,m2,m3⟩,s1,s2,s3⟩
 ·obtain ⟨p,n,s,p',n',s',q,m,e,rfl,h1,h2,h3⟩:=h
  obtain ⟨d1,d2,d3⟩:=hb.ag
  have hc:=uK (V:=V) (b1:=decide (x.1<0)) (b2:=decide (x.2.1<0)) (b3:=decide (x.2.2<0)) ⟨p,n,s,p',n',s',q,m,e,rfl,h1,h2,h3⟩ (by omega) (by omega) (by omega)
  rw [pP,az,az,az] at hc
  exact hc
 ·refine (uK ⟨p,n,c,q,m,e',s,i,j,rfl,h1,h2,h3⟩ m1 m2 m3).mono ?_
  rintro r V2 l2 ⟨w,rfl,g1,g2⟩
  rw [h4] at g2 ⊢
  rw [ho]
  exact ⟨w,rfl,g1,fun h=>by cases h⟩
theorem row_one {α:Type}{sz:Nat}{R:View->Value->α->Prop}{V:View}{xs:List Value}{a:α}(hx:xs.length=sz)(ha:R V (.agg xs.toArray) a):Row sz R V xs [a]:=by
 refine ⟨fun i hi=>?_⟩
 obtain rfl:i=0:=by simpa using hi
 exact ⟨xs,hx,ha,fun j x hj=>by rw [Nat.zero_mul,Nat.zero_add];exact hj⟩
theorem FL {α:Type}{sz:Nat}{R:View->Value->α->Prop}{V:View}{vs:List Value}{ls:List α}(h:Row sz R V vs ls){k:Nat}(hk:k<=ls.length){xs sp:List Value}{a:α}(hx:xs.length=sz)(ha:R V (.agg xs.toArray) a)(hs:0<sz) :
  Row sz R V (vs.take (k*sz)++(xs++(vs.take (ls.length*sz)).drop (k*sz))++sp) (ls.take k++a::ls.drop k):=by
 have hl:=h.kW hs
 have hks:k*sz<=ls.length*sz:=Nat.mul_le_mul_right _ hk
 have t1:(vs.take (k*sz)).length=k*sz:=by rw [List.length_take];omega
 have t2:((vs.take (ls.length*sz)).drop (k*sz)).length=ls.length*sz-k*sz:=by rw [List.length_drop,List.length_take];omega
 have a1:(ls.take k).length=k:=by rw [List.length_take];omega
 refine ⟨fun i hi=>?_⟩
 rw [List.append_assoc]
 by_cases c1:i<k
 ·have hi':i<ls.length:=by omega
  obtain ⟨ys,y1,y2,y3⟩:=h.at_ i hi'
  have e:(ls.take k++a::ls.drop k)[i]=ls[i]:=by rw [List.getElem_append_left (by omega),List.getElem_take]
  refine ⟨ys,y1,by rw [e];exact y2,fun j x hj=>?_⟩
  have hj':=(List.getElem?_eq_some_iff.1 hj).1
  have hlt:i*sz+j<k*sz:=by
   have:(i+1)*sz<=k*sz:=Nat.mul_le_mul_right _ c1
   rw [Nat.succ_mul] at this
   omega
  rw [List.getElem?_append_left (by omega),List.getElem?_take,if_pos hlt]
  exact y3 j x hj
 ·by_cases c2:i=k
  ·subst c2
   have e:(ls.take i++a::ls.drop i)[i]=a:=by
    rw [List.getElem_append_right (by omega)]
    simp [a1]
   refine ⟨xs,hx,by rw [e];exact ha,fun j x hj=>?_⟩
   have hj':=(List.getElem?_eq_some_iff.1 hj).1
   rw [List.getElem?_append_right (by omega),t1,Nat.add_sub_cancel_left,List.append_assoc,List.getElem?_append_left hj']
   exact hj
  ·have hi':i-1<ls.length:=by
    rw [List.length_append,a1,List.length_cons,List.length_drop] at hi
    omega
   obtain ⟨ys,y1,y2,y3⟩:=h.at_ (i-1) hi'
   have e:(ls.take k++a::ls.drop k)[i]=ls[i-1]:=by
    rw [List.getElem_append_right (by omega)]
    obtain ⟨m,hm⟩:∃m,i=k+(m+1):=⟨i-k-1,by omega⟩
    subst hm
    simp only [a1,Nat.add_sub_cancel_left,List.getElem_cons_succ,List.getElem_drop]
    congr 1
   refine ⟨ys,y1,by rw [e];exact y2,fun j x hj=>?_⟩
   have hj':=(List.getElem?_eq_some_iff.1 hj).1
   obtain ⟨m,hm⟩:∃m,i=k+1+m:=⟨i-k-1,by omega⟩
   subst hm
   have e1:(k+1+m)*sz=k*sz+sz+m*sz:=by rw [Nat.add_mul,Nat.add_mul,Nat.one_mul]
   have e2:(k+1+m-1)*sz=k*sz+m*sz:=by rw [show k+1+m-1=k+m by omega,Nat.add_mul]
   have:=y3 j x hj
   rw [e2] at this
   have hlt:k*sz+m*sz+j<ls.length*sz:=by
    have:(k+m+1)*sz<=ls.length*sz:=Nat.mul_le_mul_right _ (by omega)
    rw [Nat.add_mul,Nat.add_mul,Nat.one_mul] at this
    omega
   rw [List.getElem?_append_right (by omega),t1,List.append_assoc,List.getElem?_append_right (by omega),hx,List.getElem?_append_left (by omega),List.getElem?_drop,List.getElem?_take,if_pos (by omega)]
   rw [show k*sz+((k+1+m)*sz+j-k*sz-sz)=k*sz+m*sz+j by omega]
   exact this
theorem ow {α:Type}{sz:Nat}{R:View->Value->α->Prop}{V:View}{vs xs sp:List Value}{ls ms:List α}(h:Row sz R V vs ls)(h':Row sz R V xs ms)(hs:0<sz):Row sz R V (vs.take (ls.length*sz)++xs++sp) (ls++ms):=by
 have hl:=h.kW hs
 have hl':=h'.kW hs
 have ht:(vs.take (ls.length*sz)).length=ls.length*sz:=by rw [List.length_take];omega
 refine ⟨fun i hi=>?_⟩
 by_cases c:i<ls.length
 ·obtain ⟨ys,y1,y2,y3⟩:=h.at_ i c
  refine ⟨ys,y1,by rw [List.getElem_append_left c];exact y2,fun j x hj=>?_⟩
  have hj':=(List.getElem?_eq_some_iff.1 hj).1
  have hlt:i*sz+j<ls.length*sz:=by
   have:(i+1)*sz<=ls.length*sz:=Nat.mul_le_mul_right _ c
   rw [Nat.succ_mul] at this
   omega
  rw [List.append_assoc,List.getElem?_append_left (by omega),List.getElem?_take,if_pos hlt]
  exact y3 j x hj
 ·rw [List.length_append] at hi
  obtain ⟨m,rfl⟩:∃m,i=ls.length+m:=⟨i-ls.length,by omega⟩
  have hm:m<ms.length:=by omega
  obtain ⟨ys,y1,y2,y3⟩:=h'.at_ m hm
  refine ⟨ys,y1,?_,fun j x hj=>?_⟩
  ·have e:(ls++ms)[ls.length+m]=ms[m]:=by rw [List.getElem_append_right (by omega)];simp
   rw [e];exact y2
  ·have hj':=(List.getElem?_eq_some_iff.1 hj).1
   have hlt:m*sz+j<xs.length:=by
    have:(m+1)*sz<=ms.length*sz:=Nat.mul_le_mul_right _ hm
    rw [Nat.succ_mul] at this
    omega
   rw [List.append_assoc,List.getElem?_append_right (by rw [ht,Nat.add_mul];omega),ht,Nat.add_mul,List.getElem?_append_left (by omega)]
   rw [show ls.length*sz+m*sz+j-ls.length*sz=m*sz+j by omega]
   exact y3 j x hj
theorem BC {α:Type}{sz:Nat}{R:View->Value->α->Prop}{V:View}{vs:List Value}{al:List α}(h:Row sz R V vs al)(hs:0<sz)(hc:∀xs a,R V (.agg (List.toArray xs)) a->∀v∈xs,v.oneCell'=true){m:Nat}(hm:m<al.length*sz){v:Value}(hv:vs[m]?=some v):v.oneCell'=true:=by
 have hi:m / sz<al.length:=Nat.div_lt_of_lt_mul (by rw [Nat.mul_comm];exact hm)
 obtain ⟨xs,hl,hx,hat⟩:=h.at_ (m / sz) hi
 have hlt:m%sz<xs.length:=by rw [hl];exact Nat.mod_lt _ hs
 have e3:m=m / sz*sz+m%sz:=by rw [Nat.mul_comm];exact (Nat.div_add_mod m sz).symm
 have:=hat (m%sz) _ (List.getElem?_eq_getElem hlt)
 rw [←e3,hv] at this
 obtain rfl:=Option.some.inj this
 exact hc xs _ hx _ (List.getElem_mem hlt)
end Go.Proofs.Tryz
