import Derived.Test.YtnnbfoejafcdlaaGreatDoorB12
import Derived.Test.YtnnbfoejafcdlaaGreatDoorB7
import Derived.Test.YtnnbfoejafcdlaaGreatDoorB5
import Derived.Test.YtnnbfoejafcdlaaGreatDoorB9
set_option linter.unusedVariables false
open Go.IntKind (i64 u64 u32)
namespace Go.Proofs.Tryz
open Go.bu Go.eQ
def mT (V:View)(v:Value)(x y:Rat):Prop:=∃(x1 x2:Int)(p:OA)(y1 y2:Int)(q:OA),v=.agg #[.int .i64 x1,.int .i64 x2,.pointer p,.int .i64 y1,.int .i64 y2,.pointer q] /\
 RR V (.agg #[.int .i64 x1,.int .i64 x2,.pointer p]) x/\RR V (.agg #[.int .i64 y1,.int .i64 y2,.pointer q]) y
theorem mT.le {V V':View}{v:Value}{x y:Rat}(h:mT V v x y)(l:V.Le V'):mT V' v x y:=by
 obtain ⟨x1,x2,p,y1,y2,q,e,h1,h2⟩:=h
 exact ⟨x1,x2,p,y1,y2,q,e,h1.le l,h2.le l⟩
theorem xl {V:View}{p:Value}{dF dG:Rat}{q:Value}{lJ lK:Rat}(hp:mT V p dF dG)(hq:mT V q lJ lK){k:Nat}(eG:Sz k dF)(eH:Sz k dG)(lL:Sz k lJ)(lN:Sz k lK)(hk:2*k+1<274877906944) :
  ab prog 149 #[p,q] V fun r V'=>mT V' r ((dF)+(lJ)) ((dG)+(lK)):=by
 have hp0:=hp
 obtain ⟨p0,p1,p2,p3,p4,p5,rfl,uF,uG⟩:=hp
 have hq0:=hq
 obtain ⟨q0,q1,q2,q3,q4,q5,rfl,FL,FM⟩:=hq
 refine vd p0 p1 p2 p3 p4 p5 q0 q1 q2 q3 q4 q5 V _ fun V1 l1=>(il (uF.le (l1)) (FL.le (l1)) eG lL (by omega)).mono ?_
 rintro r V2 l2 g1
 have g10:=g1
 obtain ⟨M1,M3,M4,rfl⟩:=g1.shape
 have bC:Sz (2*k+1) ((dF)+(lJ)):=Sz.mono (Sz.add eG lL) (by omega)
 refine ⟨_,_,_,rfl,fun V3 l3=>(il (uG.le (l1.trans (l2.trans (l3)))) (FM.le (l1.trans (l2.trans (l3)))) eH lN (by omega)).mono ?_⟩
 rintro r V4 l4 g2
 have g20:=g2
 obtain ⟨KL,KM,KN,rfl⟩:=g2.shape
 have cJ:Sz (2*k+1) ((dG)+(lK)):=Sz.mono (Sz.add eH lN) (by omega)
 exact ⟨_,_,_,rfl,fun V5 l5=>⟨_,_,_,_,_,_,rfl,(g10.le (l3.trans (l4.trans (l5)))),(g20.le (l5))⟩⟩
theorem ib {dF dG lJ lK:Rat}{k:Nat}(eG:Sz k dF)(eH:Sz k dG)(lL:Sz k lJ)(lN:Sz k lK):Sz (2*k+1) ((dF)+(lJ)):=by
 have bC:Sz (2*k+1) ((dF)+(lJ)):=Sz.mono (Sz.add eG lL) (by omega)
 have cJ:Sz (2*k+1) ((dG)+(lK)):=Sz.mono (Sz.add eH lN) (by omega)
 exact Sz.mono bC (by omega)
theorem ic {dF dG lJ lK:Rat}{k:Nat}(eG:Sz k dF)(eH:Sz k dG)(lL:Sz k lJ)(lN:Sz k lK):Sz (2*k+1) ((dG)+(lK)):=by
 have bC:Sz (2*k+1) ((dF)+(lJ)):=Sz.mono (Sz.add eG lL) (by omega)
 have cJ:Sz (2*k+1) ((dG)+(lK)):=Sz.mono (Sz.add eH lN) (by omega)
 exact Sz.mono cJ (by omega)
theorem kA {V:View}{p:Value}{dF dG:Rat}{c:Value}{Bm:Rat}(hp:mT V p dF dG)(hc:RR V c Bm){k:Nat}(eG:Sz k dF)(eH:Sz k dG)(uM:Sz k Bm)(hk:2*k+1<274877906944) :
  ab prog 150 #[p,c] V fun r V'=>mT V' r ((dF)*(Bm)) ((dG)*(Bm)):=by
 have hp0:=hp
 obtain ⟨p0,p1,p2,p3,p4,p5,rfl,uF,uG⟩:=hp
 have hc0:=hc
 obtain ⟨c0,c1,c2,rfl⟩:=hc.shape
 refine qC p0 p1 p2 p3 p4 p5 c0 c1 c2 V _ fun V1 l1=>(eh (uF.le (l1)) (hc0.le (l1)) eG uM (by omega)).mono ?_
 rintro r V2 l2 g1
 have g10:=g1
 obtain ⟨M1,M3,M4,rfl⟩:=g1.shape
 have bC:Sz (2*k+1) ((dF)*(Bm)):=Sz.mono (Sz.mul eG uM) (by omega)
 refine ⟨_,_,_,rfl,fun V3 l3=>(eh (uG.le (l1.trans (l2.trans (l3)))) (hc0.le (l1.trans (l2.trans (l3)))) eH uM (by omega)).mono ?_⟩
 rintro r V4 l4 g2
 have g20:=g2
 obtain ⟨KL,KM,KN,rfl⟩:=g2.shape
 have cJ:Sz (2*k+1) ((dG)*(Bm)):=Sz.mono (Sz.mul eH uM) (by omega)
 exact ⟨_,_,_,rfl,fun V5 l5=>⟨_,_,_,_,_,_,rfl,(g10.le (l3.trans (l4.trans (l5)))),(g20.le (l5))⟩⟩
theorem bY {dF dG Bm:Rat}{k:Nat}(eG:Sz k dF)(eH:Sz k dG)(uM:Sz k Bm):Sz (2*k+1) ((dF)*(Bm)):=by
 have bC:Sz (2*k+1) ((dF)*(Bm)):=Sz.mono (Sz.mul eG uM) (by omega)
 have cJ:Sz (2*k+1) ((dG)*(Bm)):=Sz.mono (Sz.mul eH uM) (by omega)
 exact Sz.mono bC (by omega)
theorem bZ {dF dG Bm:Rat}{k:Nat}(eG:Sz k dF)(eH:Sz k dG)(uM:Sz k Bm):Sz (2*k+1) ((dG)*(Bm)):=by
 have bC:Sz (2*k+1) ((dF)*(Bm)):=Sz.mono (Sz.mul eG uM) (by omega)
 have cJ:Sz (2*k+1) ((dG)*(Bm)):=Sz.mono (Sz.mul eH uM) (by omega)
 exact Sz.mono cJ (by omega)
theorem jC {V:View}{p:Value}{dF dG:Rat}{q:Value}{lJ lK:Rat}(hp:mT V p dF dG)(hq:mT V q lJ lK){k:Nat}(eG:Sz k dF)(eH:Sz k dG)(lL:Sz k lJ)(lN:Sz k lK)(hk:4*k+3<274877906944) :
  ab prog 144 #[p,q] V fun r V'=>RR V' r (((dF)*(lJ))+((dG)*(lK))):=by
 have hp0:=hp
 obtain ⟨p0,p1,p2,p3,p4,p5,rfl,uF,uG⟩:=hp
 have hq0:=hq
 obtain ⟨q0,q1,q2,q3,q4,q5,rfl,FL,FM⟩:=hq
 refine ve p0 p1 p2 p3 p4 p5 q0 q1 q2 q3 q4 q5 V _ fun V1 l1=>(eh (uF.le (l1)) (FL.le (l1)) eG lL (by omega)).mono ?_
 rintro r V2 l2 g1
 have g10:=g1
 obtain ⟨M1,M3,M4,rfl⟩:=g1.shape
 have bC:Sz (2*k+1) ((dF)*(lJ)):=Sz.mono (Sz.mul eG lL) (by omega)
 refine ⟨_,_,_,rfl,fun V3 l3=>(eh (uG.le (l1.trans (l2.trans (l3)))) (FM.le (l1.trans (l2.trans (l3)))) eH lN (by omega)).mono ?_⟩
 rintro r V4 l4 g2
 have g20:=g2
 obtain ⟨KL,KM,KN,rfl⟩:=g2.shape
 have cJ:Sz (2*k+1) ((dG)*(lK)):=Sz.mono (Sz.mul eH lN) (by omega)
 refine ⟨_,_,_,rfl,fun V5 l5=>(il (g10.le (l3.trans (l4.trans (l5)))) (g20.le (l5)) bC cJ (by omega)).mono ?_⟩
 rintro r V6 l6 g3
 have mq:=g3
 obtain ⟨NN,NO,NP,rfl⟩:=g3.shape
 have fp:Sz (4*k+3) (((dF)*(lJ))+((dG)*(lK))):=Sz.mono (Sz.add bC cJ) (by omega)
 exact ⟨_,_,_,rfl,fun V7 l7=>(mq.le (l7))⟩
theorem cO {dF dG lJ lK:Rat}{k:Nat}(eG:Sz k dF)(eH:Sz k dG)(lL:Sz k lJ)(lN:Sz k lK):Sz (4*k+3) (((dF)*(lJ))+((dG)*(lK))):=by
 have bC:Sz (2*k+1) ((dF)*(lJ)):=Sz.mono (Sz.mul eG lL) (by omega)
 have cJ:Sz (2*k+1) ((dG)*(lK)):=Sz.mono (Sz.mul eH lN) (by omega)
 have fp:Sz (4*k+3) (((dF)*(lJ))+((dG)*(lK))):=Sz.mono (Sz.add bC cJ) (by omega)
 exact Sz.mono fp (by omega)
theorem eY {V:View}{p:Value}{dF dG:Rat}{q:Value}{lJ lK:Rat}(hp:mT V p dF dG)(hq:mT V q lJ lK){k:Nat}(eG:Sz k dF)(eH:Sz k dG)(lL:Sz k lJ)(lN:Sz k lK)(hk:4*k+3<274877906944) :
  ab prog 136 #[p,q] V fun r V'=>RR V' r (((dF)*(lK))-((dG)*(lJ))):=by
 have hp0:=hp
 obtain ⟨p0,p1,p2,p3,p4,p5,rfl,uF,uG⟩:=hp
 have hq0:=hq
 obtain ⟨q0,q1,q2,q3,q4,q5,rfl,FL,FM⟩:=hq
 refine qB p0 p1 p2 p3 p4 p5 q0 q1 q2 q3 q4 q5 V _ fun V1 l1=>(eh (uF.le (l1)) (FM.le (l1)) eG lN (by omega)).mono ?_
 rintro r V2 l2 g1
 have g10:=g1
 obtain ⟨M1,M3,M4,rfl⟩:=g1.shape
 have bC:Sz (2*k+1) ((dF)*(lK)):=Sz.mono (Sz.mul eG lN) (by omega)
 refine ⟨_,_,_,rfl,fun V3 l3=>(eh (uG.le (l1.trans (l2.trans (l3)))) (FL.le (l1.trans (l2.trans (l3)))) eH lL (by omega)).mono ?_⟩
 rintro r V4 l4 g2
 have g20:=g2
 obtain ⟨KL,KM,KN,rfl⟩:=g2.shape
 have cJ:Sz (2*k+1) ((dG)*(lJ)):=Sz.mono (Sz.mul eH lL) (by omega)
 refine ⟨_,_,_,rfl,fun V5 l5=>(nh (g10.le (l3.trans (l4.trans (l5)))) (g20.le (l5)) bC cJ (by omega)).mono ?_⟩
 rintro r V6 l6 g3
 have mq:=g3
 obtain ⟨NN,NO,NP,rfl⟩:=g3.shape
 have fp:Sz (4*k+3) (((dF)*(lK))-((dG)*(lJ))):=Sz.mono (Sz.sub bC cJ) (by omega)
 exact ⟨_,_,_,rfl,fun V7 l7=>(mq.le (l7))⟩
theorem jw {dF dG lJ lK:Rat}{k:Nat}(eG:Sz k dF)(eH:Sz k dG)(lL:Sz k lJ)(lN:Sz k lK):Sz (4*k+3) (((dF)*(lK))-((dG)*(lJ))):=by
 have bC:Sz (2*k+1) ((dF)*(lK)):=Sz.mono (Sz.mul eG lN) (by omega)
 have cJ:Sz (2*k+1) ((dG)*(lJ)):=Sz.mono (Sz.mul eH lL) (by omega)
 have fp:Sz (4*k+3) (((dF)*(lK))-((dG)*(lJ))):=Sz.mono (Sz.sub bC cJ) (by omega)
 exact Sz.mono fp (by omega)
theorem jB {V:View}{l:Value}{aZ l_1 cP:Rat}(hl:qO V l aZ l_1 cP){k:Nat}(cj:Sz k aZ)(cA:Sz k l_1)(bU:Sz k cP)(hk:1*k+1<274877906944) :
  ab prog 135 #[l] V fun r V'=>mT V' r (l_1) (-(aZ)):=by
 have hl0:=hl
 obtain ⟨l0,l1,l2,l3,l4,l5,l6,l7,l8,rfl,zP,zQ,zR⟩:=hl
 refine u_ l0 l1 l2 l3 l4 l5 l6 l7 l8 V _ fun V1 l1=>(nf (zP.le (l1)) cj (by omega)).mono ?_
 rintro r V2 l2 g1
 have g10:=g1
 obtain ⟨M1,M3,M4,rfl⟩:=g1.shape
 have bC:Sz (1*k+0) (-(aZ)):=Sz.mono (Sz.neg cj) (by omega)
 exact ⟨_,_,_,rfl,fun V3 l3=>⟨_,_,_,_,_,_,rfl,(zQ.le (l1.trans (l2.trans (l3)))),(g10.le (l3))⟩⟩
theorem h_ {aZ l_1 cP:Rat}{k:Nat}(cj:Sz k aZ)(cA:Sz k l_1)(bU:Sz k cP):Sz (1*k+0) (l_1):=by
 have bC:Sz (1*k+0) (-(aZ)):=Sz.mono (Sz.neg cj) (by omega)
 exact Sz.mono cA (by omega)
theorem ia {aZ l_1 cP:Rat}{k:Nat}(cj:Sz k aZ)(cA:Sz k l_1)(bU:Sz k cP):Sz (1*k+0) (-(aZ)):=by
 have bC:Sz (1*k+0) (-(aZ)):=Sz.mono (Sz.neg cj) (by omega)
 exact Sz.mono bC (by omega)
theorem cZ {V:View}{l:Value}{aZ l_1 cP:Rat}(hl:qO V l aZ l_1 cP){k:Nat}(cj:Sz k aZ)(cA:Sz k l_1)(bU:Sz k cP)(hk:1*k+1<274877906944) :
  ab prog 142 #[l] V fun r V'=>mT V' r (aZ) (l_1):=by
 have hl0:=hl
 obtain ⟨l0,l1,l2,l3,l4,l5,l6,l7,l8,rfl,zP,zQ,zR⟩:=hl
 exact pv l0 l1 l2 l3 l4 l5 l6 l7 l8 V _ fun V1 l1=>⟨_,_,_,_,_,_,rfl,(zP.le (l1)),(zQ.le (l1))⟩
theorem cD {aZ l_1 cP:Rat}{k:Nat}(cj:Sz k aZ)(cA:Sz k l_1)(bU:Sz k cP):Sz (1*k+0) (aZ):=by
 exact Sz.mono cj (by omega)
theorem cE {aZ l_1 cP:Rat}{k:Nat}(cj:Sz k aZ)(cA:Sz k l_1)(bU:Sz k cP):Sz (1*k+0) (l_1):=by
 exact Sz.mono cA (by omega)
theorem kz {V:View}{l:Value}{aZ l_1 cP:Rat}{p:Value}{dF dG:Rat}(hl:qO V l aZ l_1 cP)(hp:mT V p dF dG){k:Nat}(cj:Sz k aZ)(cA:Sz k l_1)(bU:Sz k cP)(eG:Sz k dF)(eH:Sz k dG)(hk:5*k+4<274877906944) :
  ab prog 146 #[l,p] V fun r V'=>RR V' r ((((aZ)*(dF))+((l_1)*(dG)))+(cP)):=by
 have hl0:=hl
 obtain ⟨l0,l1,l2,l3,l4,l5,l6,l7,l8,rfl,zP,zQ,zR⟩:=hl
 have hp0:=hp
 obtain ⟨p0,p1,p2,p3,p4,p5,rfl,uF,uG⟩:=hp
 refine qA l0 l1 l2 l3 l4 l5 l6 l7 l8 p0 p1 p2 p3 p4 p5 V _ fun V1 l1=>(cZ (hl0.le (l1)) (Sz.mono cj (by omega):Sz (1*k+0) _) (Sz.mono cA (by omega):Sz (1*k+0) _) (Sz.mono bU (by omega):Sz (1*k+0) _) (by omega)).mono ?_
 rintro r V2 l2 g1
 have g10:=g1
 obtain ⟨MV,MW,MX,MY,MZ,M0,rfl,Lm,Ln⟩:=g1
 have bC:Sz (1*k+0) (aZ):=Sz.mono ((cD (Sz.mono cj (by omega):Sz (1*k+0) _) (Sz.mono cA (by omega):Sz (1*k+0) _) (Sz.mono bU (by omega):Sz (1*k+0) _))) (by omega)
 have eg:Sz (1*k+0) (l_1):=Sz.mono ((cE (Sz.mono cj (by omega):Sz (1*k+0) _) (Sz.mono cA (by omega):Sz (1*k+0) _) (Sz.mono bU (by omega):Sz (1*k+0) _))) (by omega)
 refine ⟨_,_,_,_,_,_,rfl,fun V3 l3=>(jC (g10.le (l3)) (hp0.le (l1.trans (l2.trans (l3)))) (Sz.mono bC (by omega):Sz (1*k+0) _) (Sz.mono eg (by omega):Sz (1*k+0) _) (Sz.mono eG (by omega):Sz (1*k+0) _) (Sz.mono eH (by omega):Sz (1*k+0) _) (by omega)).mono ?_⟩
 rintro r V4 l4 g2
 have g20:=g2
 obtain ⟨KL,KM,KN,rfl⟩:=g2.shape
 have cJ:Sz (4*k+3) (((aZ)*(dF))+((l_1)*(dG))):=Sz.mono ((cO (Sz.mono bC (by omega):Sz (1*k+0) _) (Sz.mono eg (by omega):Sz (1*k+0) _) (Sz.mono eG (by omega):Sz (1*k+0) _) (Sz.mono eH (by omega):Sz (1*k+0) _))) (by omega)
 refine ⟨_,_,_,rfl,fun V5 l5=>(il (g20.le (l5)) (zR.le (l1.trans (l2.trans (l3.trans (l4.trans (l5)))))) cJ bU (by omega)).mono ?_⟩
 rintro r V6 l6 g3
 have mq:=g3
 obtain ⟨NN,NO,NP,rfl⟩:=g3.shape
 have fp:Sz (5*k+4) ((((aZ)*(dF))+((l_1)*(dG)))+(cP)):=Sz.mono (Sz.add cJ bU) (by omega)
 exact ⟨_,_,_,rfl,fun V7 l7=>(mq.le (l7))⟩
theorem jv {aZ l_1 cP dF dG:Rat}{k:Nat}(cj:Sz k aZ)(cA:Sz k l_1)(bU:Sz k cP)(eG:Sz k dF)(eH:Sz k dG):Sz (5*k+4) ((((aZ)*(dF))+((l_1)*(dG)))+(cP)):=by
 have bC:Sz (1*k+0) (aZ):=Sz.mono ((cD (Sz.mono cj (by omega):Sz (1*k+0) _) (Sz.mono cA (by omega):Sz (1*k+0) _) (Sz.mono bU (by omega):Sz (1*k+0) _))) (by omega)
 have eg:Sz (1*k+0) (l_1):=Sz.mono ((cE (Sz.mono cj (by omega):Sz (1*k+0) _) (Sz.mono cA (by omega):Sz (1*k+0) _) (Sz.mono bU (by omega):Sz (1*k+0) _))) (by omega)
 have cJ:Sz (4*k+3) (((aZ)*(dF))+((l_1)*(dG))):=Sz.mono ((cO (Sz.mono bC (by omega):Sz (1*k+0) _) (Sz.mono eg (by omega):Sz (1*k+0) _) (Sz.mono eG (by omega):Sz (1*k+0) _) (Sz.mono eH (by omega):Sz (1*k+0) _))) (by omega)
 have fp:Sz (5*k+4) ((((aZ)*(dF))+((l_1)*(dG)))+(cP)):=Sz.mono (Sz.add cJ bU) (by omega)
 exact Sz.mono fp (by omega)
theorem lS {V:View}{l:Value}{aZ l_1 cP:Rat}(hl:qO V l aZ l_1 cP){k:Nat}(cj:Sz k aZ)(cA:Sz k l_1)(bU:Sz k cP)(hk:10*k+9<274877906944) :
  ab prog 180 #[l] V fun r V'=>mT V' r ((aZ)*(((-(cP))*(((aZ)*(aZ))+((l_1)*(l_1)))⁻¹))) ((l_1)*(((-(cP))*(((aZ)*(aZ))+((l_1)*(l_1)))⁻¹))):=by
 have hl0:=hl
 obtain ⟨l0,l1,l2,l3,l4,l5,l6,l7,l8,rfl,zP,zQ,zR⟩:=hl
 refine tN l0 l1 l2 l3 l4 l5 l6 l7 l8 V _ fun V1 l1=>(cZ (hl0.le (l1)) (Sz.mono cj (by omega):Sz (1*k+0) _) (Sz.mono cA (by omega):Sz (1*k+0) _) (Sz.mono bU (by omega):Sz (1*k+0) _) (by omega)).mono ?_
 rintro r V2 l2 g1
 have g10:=g1
 obtain ⟨MV,MW,MX,MY,MZ,M0,rfl,Lm,Ln⟩:=g1
 have bC:Sz (1*k+0) (aZ):=Sz.mono ((cD (Sz.mono cj (by omega):Sz (1*k+0) _) (Sz.mono cA (by omega):Sz (1*k+0) _) (Sz.mono bU (by omega):Sz (1*k+0) _))) (by omega)
 have eg:Sz (1*k+0) (l_1):=Sz.mono ((cE (Sz.mono cj (by omega):Sz (1*k+0) _) (Sz.mono cA (by omega):Sz (1*k+0) _) (Sz.mono bU (by omega):Sz (1*k+0) _))) (by omega)
 refine ⟨_,_,_,_,_,_,rfl,fun V3 l3=>(nf (zR.le (l1.trans (l2.trans (l3)))) bU (by omega)).mono ?_⟩
 rintro r V4 l4 g2
 have g20:=g2
 obtain ⟨KL,KM,KN,rfl⟩:=g2.shape
 have cJ:Sz (1*k+0) (-(cP)):=Sz.mono (Sz.neg bU) (by omega)
 refine ⟨_,_,_,rfl,fun V5 l5=>(jC (g10.le (l3.trans (l4.trans (l5)))) (g10.le (l3.trans (l4.trans (l5)))) (Sz.mono bC (by omega):Sz (1*k+0) _) (Sz.mono eg (by omega):Sz (1*k+0) _) (Sz.mono bC (by omega):Sz (1*k+0) _) (Sz.mono eg (by omega):Sz (1*k+0) _) (by omega)).mono ?_⟩
 rintro r V6 l6 g3
 have mq:=g3
 obtain ⟨NN,NO,NP,rfl⟩:=g3.shape
 have fp:Sz (4*k+3) (((aZ)*(aZ))+((l_1)*(l_1))):=Sz.mono ((cO (Sz.mono bC (by omega):Sz (1*k+0) _) (Sz.mono eg (by omega):Sz (1*k+0) _) (Sz.mono bC (by omega):Sz (1*k+0) _) (Sz.mono eg (by omega):Sz (1*k+0) _))) (by omega)
 refine ⟨_,_,_,rfl,fun V7 l7=>(ng (g20.le (l5.trans (l6.trans (l7)))) (mq.le (l7)) cJ fp (by omega)).mono ?_⟩
 rintro r V8 l8 g4
 have Fy:=g4
 obtain ⟨UF,UG,UH,rfl⟩:=g4.shape
 have lQ:Sz (5*k+4) ((-(cP))*(((aZ)*(aZ))+((l_1)*(l_1)))⁻¹):=Sz.mono (Sz.mul cJ (fZ fp)) (by omega)
 refine ⟨_,_,_,rfl,fun V9 l9=>(kA (g10.le (l3.trans (l4.trans (l5.trans (l6.trans (l7.trans (l8.trans (l9)))))))) (Fy.le (l9)) (Sz.mono bC (by omega):Sz (5*k+4) _) (Sz.mono eg (by omega):Sz (5*k+4) _) (Sz.mono lQ (by omega):Sz (5*k+4) _) (by omega)).mono ?_⟩
 rintro r kn l10 g5
 have IQ:=g5
 obtain ⟨UI,UJ,UK,UL,UM,UN,rfl,Oo,Oq⟩:=g5
 have ER:Sz (10*k+9) ((aZ)*(((-(cP))*(((aZ)*(aZ))+((l_1)*(l_1)))⁻¹))):=Sz.mono ((bY (Sz.mono bC (by omega):Sz (5*k+4) _) (Sz.mono eg (by omega):Sz (5*k+4) _) (Sz.mono lQ (by omega):Sz (5*k+4) _))) (by omega)
 have Ky:Sz (10*k+9) ((l_1)*(((-(cP))*(((aZ)*(aZ))+((l_1)*(l_1)))⁻¹))):=Sz.mono ((bZ (Sz.mono bC (by omega):Sz (5*k+4) _) (Sz.mono eg (by omega):Sz (5*k+4) _) (Sz.mono lQ (by omega):Sz (5*k+4) _))) (by omega)
 exact ⟨_,_,_,_,_,_,rfl,fun ko bR=>⟨_,_,_,_,_,_,rfl,(Oo.le (bR)),(Oq.le (bR))⟩⟩
theorem dg {aZ l_1 cP:Rat}{k:Nat}(cj:Sz k aZ)(cA:Sz k l_1)(bU:Sz k cP):Sz (10*k+9) ((aZ)*(((-(cP))*(((aZ)*(aZ))+((l_1)*(l_1)))⁻¹))):=by
 have bC:Sz (1*k+0) (aZ):=Sz.mono ((cD (Sz.mono cj (by omega):Sz (1*k+0) _) (Sz.mono cA (by omega):Sz (1*k+0) _) (Sz.mono bU (by omega):Sz (1*k+0) _))) (by omega)
 have eg:Sz (1*k+0) (l_1):=Sz.mono ((cE (Sz.mono cj (by omega):Sz (1*k+0) _) (Sz.mono cA (by omega):Sz (1*k+0) _) (Sz.mono bU (by omega):Sz (1*k+0) _))) (by omega)
 have cJ:Sz (1*k+0) (-(cP)):=Sz.mono (Sz.neg bU) (by omega)
 have fp:Sz (4*k+3) (((aZ)*(aZ))+((l_1)*(l_1))):=Sz.mono ((cO (Sz.mono bC (by omega):Sz (1*k+0) _) (Sz.mono eg (by omega):Sz (1*k+0) _) (Sz.mono bC (by omega):Sz (1*k+0) _) (Sz.mono eg (by omega):Sz (1*k+0) _))) (by omega)
 have lQ:Sz (5*k+4) ((-(cP))*(((aZ)*(aZ))+((l_1)*(l_1)))⁻¹):=Sz.mono (Sz.mul cJ (fZ fp)) (by omega)
 have ER:Sz (10*k+9) ((aZ)*(((-(cP))*(((aZ)*(aZ))+((l_1)*(l_1)))⁻¹))):=Sz.mono ((bY (Sz.mono bC (by omega):Sz (5*k+4) _) (Sz.mono eg (by omega):Sz (5*k+4) _) (Sz.mono lQ (by omega):Sz (5*k+4) _))) (by omega)
 have Ky:Sz (10*k+9) ((l_1)*(((-(cP))*(((aZ)*(aZ))+((l_1)*(l_1)))⁻¹))):=Sz.mono ((bZ (Sz.mono bC (by omega):Sz (5*k+4) _) (Sz.mono eg (by omega):Sz (5*k+4) _) (Sz.mono lQ (by omega):Sz (5*k+4) _))) (by omega)
 exact Sz.mono ER (by omega)
theorem dh {aZ l_1 cP:Rat}{k:Nat}(cj:Sz k aZ)(cA:Sz k l_1)(bU:Sz k cP):Sz (10*k+9) ((l_1)*(((-(cP))*(((aZ)*(aZ))+((l_1)*(l_1)))⁻¹))):=by
 have bC:Sz (1*k+0) (aZ):=Sz.mono ((cD (Sz.mono cj (by omega):Sz (1*k+0) _) (Sz.mono cA (by omega):Sz (1*k+0) _) (Sz.mono bU (by omega):Sz (1*k+0) _))) (by omega)
 have eg:Sz (1*k+0) (l_1):=Sz.mono ((cE (Sz.mono cj (by omega):Sz (1*k+0) _) (Sz.mono cA (by omega):Sz (1*k+0) _) (Sz.mono bU (by omega):Sz (1*k+0) _))) (by omega)
 have cJ:Sz (1*k+0) (-(cP)):=Sz.mono (Sz.neg bU) (by omega)
 have fp:Sz (4*k+3) (((aZ)*(aZ))+((l_1)*(l_1))):=Sz.mono ((cO (Sz.mono bC (by omega):Sz (1*k+0) _) (Sz.mono eg (by omega):Sz (1*k+0) _) (Sz.mono bC (by omega):Sz (1*k+0) _) (Sz.mono eg (by omega):Sz (1*k+0) _))) (by omega)
 have lQ:Sz (5*k+4) ((-(cP))*(((aZ)*(aZ))+((l_1)*(l_1)))⁻¹):=Sz.mono (Sz.mul cJ (fZ fp)) (by omega)
 have ER:Sz (10*k+9) ((aZ)*(((-(cP))*(((aZ)*(aZ))+((l_1)*(l_1)))⁻¹))):=Sz.mono ((bY (Sz.mono bC (by omega):Sz (5*k+4) _) (Sz.mono eg (by omega):Sz (5*k+4) _) (Sz.mono lQ (by omega):Sz (5*k+4) _))) (by omega)
 have Ky:Sz (10*k+9) ((l_1)*(((-(cP))*(((aZ)*(aZ))+((l_1)*(l_1)))⁻¹))):=Sz.mono ((bZ (Sz.mono bC (by omega):Sz (5*k+4) _) (Sz.mono eg (by omega):Sz (5*k+4) _) (Sz.mono lQ (by omega):Sz (5*k+4) _))) (by omega)
 exact Sz.mono Ky (by omega)
theorem zm {V:View}{l:Value}{aZ l_1 cP:Rat}{t:Value}{ui:Rat}(hl:qO V l aZ l_1 cP)(ht:RR V t ui){k:Nat}(cj:Sz k aZ)(cA:Sz k l_1)(bU:Sz k cP)(x_:Sz k ui)(hk:20*k+19<274877906944) :
  ab prog 132 #[l,t] V fun r V'=>mT V' r ((((aZ)*(((-(cP))*(((aZ)*(aZ))+((l_1)*(l_1)))⁻¹))))+(((l_1)*(ui)))) ((((l_1)*(((-(cP))*(((aZ)*(aZ))+((l_1)*(l_1)))⁻¹))))+((((-(aZ)))*(ui)))):=by
 have hl0:=hl
 obtain ⟨l0,l1,l2,l3,l4,l5,l6,l7,l8,rfl,zP,zQ,zR⟩:=hl
 have ht0:=ht
 obtain ⟨t0,t1,t2,rfl⟩:=ht.shape
 refine yq l0 l1 l2 l3 l4 l5 l6 l7 l8 t0 t1 t2 V _ fun V1 l1=>(lS (hl0.le (l1)) (Sz.mono cj (by omega):Sz (1*k+0) _) (Sz.mono cA (by omega):Sz (1*k+0) _) (Sz.mono bU (by omega):Sz (1*k+0) _) (by omega)).mono ?_
 rintro r V2 l2 g1
 have g10:=g1
 obtain ⟨MV,MW,MX,MY,MZ,M0,rfl,Lm,Ln⟩:=g1
 have bC:Sz (10*k+9) ((aZ)*(((-(cP))*(((aZ)*(aZ))+((l_1)*(l_1)))⁻¹))):=Sz.mono ((dg (Sz.mono cj (by omega):Sz (1*k+0) _) (Sz.mono cA (by omega):Sz (1*k+0) _) (Sz.mono bU (by omega):Sz (1*k+0) _))) (by omega)
 have eg:Sz (10*k+9) ((l_1)*(((-(cP))*(((aZ)*(aZ))+((l_1)*(l_1)))⁻¹))):=Sz.mono ((dh (Sz.mono cj (by omega):Sz (1*k+0) _) (Sz.mono cA (by omega):Sz (1*k+0) _) (Sz.mono bU (by omega):Sz (1*k+0) _))) (by omega)
 refine ⟨_,_,_,_,_,_,rfl,fun V3 l3=>(jB (hl0.le (l1.trans (l2.trans (l3)))) (Sz.mono cj (by omega):Sz (1*k+0) _) (Sz.mono cA (by omega):Sz (1*k+0) _) (Sz.mono bU (by omega):Sz (1*k+0) _) (by omega)).mono ?_⟩
 rintro r V4 l4 g2
 have g20:=g2
 obtain ⟨Un,Uo,Up,Uq,Ur,Us,rfl,SY,SZ⟩:=g2
 have cJ:Sz (1*k+0) (l_1):=Sz.mono ((h_ (Sz.mono cj (by omega):Sz (1*k+0) _) (Sz.mono cA (by omega):Sz (1*k+0) _) (Sz.mono bU (by omega):Sz (1*k+0) _))) (by omega)
 have yJ:Sz (1*k+0) (-(aZ)):=Sz.mono ((ia (Sz.mono cj (by omega):Sz (1*k+0) _) (Sz.mono cA (by omega):Sz (1*k+0) _) (Sz.mono bU (by omega):Sz (1*k+0) _))) (by omega)
 refine ⟨_,_,_,_,_,_,rfl,fun V5 l5=>(kA (g20.le (l5)) (ht0.le (l1.trans (l2.trans (l3.trans (l4.trans (l5)))))) (Sz.mono cJ (by omega):Sz (1*k+0) _) (Sz.mono yJ (by omega):Sz (1*k+0) _) (Sz.mono x_ (by omega):Sz (1*k+0) _) (by omega)).mono ?_⟩
 rintro r V6 l6 g3
 have mq:=g3
 obtain ⟨Ut,Uu,Uv,Uw,Ux,Uy,rfl,S0,S1⟩:=g3
 have fp:Sz (2*k+1) ((l_1)*(ui)):=Sz.mono ((bY (Sz.mono cJ (by omega):Sz (1*k+0) _) (Sz.mono yJ (by omega):Sz (1*k+0) _) (Sz.mono x_ (by omega):Sz (1*k+0) _))) (by omega)
 have yK:Sz (2*k+1) (((-(aZ)))*(ui)):=Sz.mono ((bZ (Sz.mono cJ (by omega):Sz (1*k+0) _) (Sz.mono yJ (by omega):Sz (1*k+0) _) (Sz.mono x_ (by omega):Sz (1*k+0) _))) (by omega)
 refine ⟨_,_,_,_,_,_,rfl,fun V7 l7=>(xl (g10.le (l3.trans (l4.trans (l5.trans (l6.trans (l7)))))) (mq.le (l7)) (Sz.mono bC (by omega):Sz (10*k+9) _) (Sz.mono eg (by omega):Sz (10*k+9) _) (Sz.mono fp (by omega):Sz (10*k+9) _) (Sz.mono yK (by omega):Sz (10*k+9) _) (by omega)).mono ?_⟩
 rintro r V8 l8 g4
 have Fy:=g4
 obtain ⟨Uz,UA,UB,UC,UD,UE,rfl,Om,On⟩:=g4
 have lQ:Sz (20*k+19) ((((aZ)*(((-(cP))*(((aZ)*(aZ))+((l_1)*(l_1)))⁻¹))))+(((l_1)*(ui)))):=Sz.mono ((ib (Sz.mono bC (by omega):Sz (10*k+9) _) (Sz.mono eg (by omega):Sz (10*k+9) _) (Sz.mono fp (by omega):Sz (10*k+9) _) (Sz.mono yK (by omega):Sz (10*k+9) _))) (by omega)
 have Kx:Sz (20*k+19) ((((l_1)*(((-(cP))*(((aZ)*(aZ))+((l_1)*(l_1)))⁻¹))))+((((-(aZ)))*(ui)))):=Sz.mono ((ic (Sz.mono bC (by omega):Sz (10*k+9) _) (Sz.mono eg (by omega):Sz (10*k+9) _) (Sz.mono fp (by omega):Sz (10*k+9) _) (Sz.mono yK (by omega):Sz (10*k+9) _))) (by omega)
 exact ⟨_,_,_,_,_,_,rfl,fun V9 l9=>⟨_,_,_,_,_,_,rfl,(Om.le (l9)),(On.le (l9))⟩⟩
theorem vy {aZ l_1 cP ui:Rat}{k:Nat}(cj:Sz k aZ)(cA:Sz k l_1)(bU:Sz k cP)(x_:Sz k ui):Sz (20*k+19) ((((aZ)*(((-(cP))*(((aZ)*(aZ))+((l_1)*(l_1)))⁻¹))))+(((l_1)*(ui)))):=by
 have bC:Sz (10*k+9) ((aZ)*(((-(cP))*(((aZ)*(aZ))+((l_1)*(l_1)))⁻¹))):=Sz.mono ((dg (Sz.mono cj (by omega):Sz (1*k+0) _) (Sz.mono cA (by omega):Sz (1*k+0) _) (Sz.mono bU (by omega):Sz (1*k+0) _))) (by omega)
 have eg:Sz (10*k+9) ((l_1)*(((-(cP))*(((aZ)*(aZ))+((l_1)*(l_1)))⁻¹))):=Sz.mono ((dh (Sz.mono cj (by omega):Sz (1*k+0) _) (Sz.mono cA (by omega):Sz (1*k+0) _) (Sz.mono bU (by omega):Sz (1*k+0) _))) (by omega)
 have cJ:Sz (1*k+0) (l_1):=Sz.mono ((h_ (Sz.mono cj (by omega):Sz (1*k+0) _) (Sz.mono cA (by omega):Sz (1*k+0) _) (Sz.mono bU (by omega):Sz (1*k+0) _))) (by omega)
 have yJ:Sz (1*k+0) (-(aZ)):=Sz.mono ((ia (Sz.mono cj (by omega):Sz (1*k+0) _) (Sz.mono cA (by omega):Sz (1*k+0) _) (Sz.mono bU (by omega):Sz (1*k+0) _))) (by omega)
 have fp:Sz (2*k+1) ((l_1)*(ui)):=Sz.mono ((bY (Sz.mono cJ (by omega):Sz (1*k+0) _) (Sz.mono yJ (by omega):Sz (1*k+0) _) (Sz.mono x_ (by omega):Sz (1*k+0) _))) (by omega)
 have yK:Sz (2*k+1) (((-(aZ)))*(ui)):=Sz.mono ((bZ (Sz.mono cJ (by omega):Sz (1*k+0) _) (Sz.mono yJ (by omega):Sz (1*k+0) _) (Sz.mono x_ (by omega):Sz (1*k+0) _))) (by omega)
 have lQ:Sz (20*k+19) ((((aZ)*(((-(cP))*(((aZ)*(aZ))+((l_1)*(l_1)))⁻¹))))+(((l_1)*(ui)))):=Sz.mono ((ib (Sz.mono bC (by omega):Sz (10*k+9) _) (Sz.mono eg (by omega):Sz (10*k+9) _) (Sz.mono fp (by omega):Sz (10*k+9) _) (Sz.mono yK (by omega):Sz (10*k+9) _))) (by omega)
 have Kx:Sz (20*k+19) ((((l_1)*(((-(cP))*(((aZ)*(aZ))+((l_1)*(l_1)))⁻¹))))+((((-(aZ)))*(ui)))):=Sz.mono ((ic (Sz.mono bC (by omega):Sz (10*k+9) _) (Sz.mono eg (by omega):Sz (10*k+9) _) (Sz.mono fp (by omega):Sz (10*k+9) _) (Sz.mono yK (by omega):Sz (10*k+9) _))) (by omega)
 exact Sz.mono lQ (by omega)
theorem vA {aZ l_1 cP ui:Rat}{k:Nat}(cj:Sz k aZ)(cA:Sz k l_1)(bU:Sz k cP)(x_:Sz k ui):Sz (20*k+19) ((((l_1)*(((-(cP))*(((aZ)*(aZ))+((l_1)*(l_1)))⁻¹))))+((((-(aZ)))*(ui)))):=by
 have bC:Sz (10*k+9) ((aZ)*(((-(cP))*(((aZ)*(aZ))+((l_1)*(l_1)))⁻¹))):=Sz.mono ((dg (Sz.mono cj (by omega):Sz (1*k+0) _) (Sz.mono cA (by omega):Sz (1*k+0) _) (Sz.mono bU (by omega):Sz (1*k+0) _))) (by omega)
 have eg:Sz (10*k+9) ((l_1)*(((-(cP))*(((aZ)*(aZ))+((l_1)*(l_1)))⁻¹))):=Sz.mono ((dh (Sz.mono cj (by omega):Sz (1*k+0) _) (Sz.mono cA (by omega):Sz (1*k+0) _) (Sz.mono bU (by omega):Sz (1*k+0) _))) (by omega)
 have cJ:Sz (1*k+0) (l_1):=Sz.mono ((h_ (Sz.mono cj (by omega):Sz (1*k+0) _) (Sz.mono cA (by omega):Sz (1*k+0) _) (Sz.mono bU (by omega):Sz (1*k+0) _))) (by omega)
 have yJ:Sz (1*k+0) (-(aZ)):=Sz.mono ((ia (Sz.mono cj (by omega):Sz (1*k+0) _) (Sz.mono cA (by omega):Sz (1*k+0) _) (Sz.mono bU (by omega):Sz (1*k+0) _))) (by omega)
 have fp:Sz (2*k+1) ((l_1)*(ui)):=Sz.mono ((bY (Sz.mono cJ (by omega):Sz (1*k+0) _) (Sz.mono yJ (by omega):Sz (1*k+0) _) (Sz.mono x_ (by omega):Sz (1*k+0) _))) (by omega)
 have yK:Sz (2*k+1) (((-(aZ)))*(ui)):=Sz.mono ((bZ (Sz.mono cJ (by omega):Sz (1*k+0) _) (Sz.mono yJ (by omega):Sz (1*k+0) _) (Sz.mono x_ (by omega):Sz (1*k+0) _))) (by omega)
 have lQ:Sz (20*k+19) ((((aZ)*(((-(cP))*(((aZ)*(aZ))+((l_1)*(l_1)))⁻¹))))+(((l_1)*(ui)))):=Sz.mono ((ib (Sz.mono bC (by omega):Sz (10*k+9) _) (Sz.mono eg (by omega):Sz (10*k+9) _) (Sz.mono fp (by omega):Sz (10*k+9) _) (Sz.mono yK (by omega):Sz (10*k+9) _))) (by omega)
 have Kx:Sz (20*k+19) ((((l_1)*(((-(cP))*(((aZ)*(aZ))+((l_1)*(l_1)))⁻¹))))+((((-(aZ)))*(ui)))):=Sz.mono ((ic (Sz.mono bC (by omega):Sz (10*k+9) _) (Sz.mono eg (by omega):Sz (10*k+9) _) (Sz.mono fp (by omega):Sz (10*k+9) _) (Sz.mono yK (by omega):Sz (10*k+9) _))) (by omega)
 exact Sz.mono Kx (by omega)
theorem D3 {V:View}(z:Int){p:OA}{n c:Nat}(h:RD V p n c (ag z.natAbs)) :
  ab prog 156 #[.agg #[.bool (decide (z<0)),.slice p n c]] V fun r V'=>RQ V' r (z:Rat):=
 CV _ p n c V _ fun V1 l1=>l_ (z:=z) (d:=1) rfl rfl (h.le l1) RD.nil rfl
theorem mj {V:View}{z:Int}{p:OA}{n c:Nat}(h:RD V p n c (ag z.natAbs)){k:Nat}(_s:Sz k (z:Rat))(_hk:k<=1099511627776) :
  ab prog 156 #[.agg #[.bool (decide (z<0)),.slice p n c]] V fun r V'=>RQ V' r (z:Rat):=D3 z h
theorem uy {V:View}{l:Value}{aZ l_1 cP:Int}{p:Value}{dF dG:Rat}(hl:RL V l aZ l_1 cP)(hp:RP V p dF dG){k:Nat}(cj:Sz k ((aZ:Int):Rat))(cA:Sz k ((l_1:Int):Rat))(bU:Sz k ((cP:Int):Rat))(eG:Sz k dF)(eH:Sz k dG)(hk:5*k+4<274877906944) :
  ab prog 129 #[l,p] V fun r V'=>RQ V' r ((((((aZ:Int):Rat))*(dF))+((((l_1:Int):Rat))*(dG)))+(((cP:Int):Rat))):=by
 have hl0:=hl
 obtain ⟨l0,l1,l2,l3,l4,l5,l6,l7,l8,rfl,zP,zQ,zR⟩:=hl
 have hp0:=hp
 obtain ⟨p0,p1,p2,p3,p4,p5,p6,p7,p8,p9,Ia,Mx,rfl,uF,uG⟩:=hp
 refine uc _ l0 l1 l2 _ l3 l4 l5 _ l6 l7 l8 _ p0 p1 p2 p3 p4 p5 _ p6 p7 p8 p9 Ia Mx V _ fun V1 l1=>(mj (zP.le (l1)) cj (by omega)).mono ?_
 rintro r V2 l2 g1
 have g10:=g1
 obtain ⟨M1,M3,M4,Vs,Vt,Vu,rfl⟩:=g1.shape
 have bC:Sz (1*k+0) (((aZ:Int):Rat)):=Sz.mono (cj) (by omega)
 refine ⟨_,_,_,_,_,_,_,rfl,fun V3 l3=>(cw (g10.le (l3)) (uF.le (l1.trans (l2.trans (l3)))) bC eG (by omega)).mono ?_⟩
 rintro r V4 l4 g2
 have g20:=g2
 obtain ⟨KL,KM,KN,Vv,Vw,Vx,rfl⟩:=g2.shape
 have cJ:Sz (2*k+1) ((((aZ:Int):Rat))*(dF)):=Sz.mono (Sz.mul bC eG) (by omega)
 refine ⟨_,_,_,_,_,_,_,rfl,fun V5 l5=>(mj (zQ.le (l1.trans (l2.trans (l3.trans (l4.trans (l5)))))) cA (by omega)).mono ?_⟩
 rintro r V6 l6 g3
 have mq:=g3
 obtain ⟨NN,NO,NP,Vy,Vz,VA,rfl⟩:=g3.shape
 have fp:Sz (1*k+0) (((l_1:Int):Rat)):=Sz.mono (cA) (by omega)
 refine ⟨_,_,_,_,_,_,_,rfl,fun V7 l7=>(cw (mq.le (l7)) (uG.le (l1.trans (l2.trans (l3.trans (l4.trans (l5.trans (l6.trans (l7)))))))) fp eH (by omega)).mono ?_⟩
 rintro r V8 l8 g4
 have Fy:=g4
 obtain ⟨UF,UG,UH,VB,VC,VD,rfl⟩:=g4.shape
 have lQ:Sz (2*k+1) ((((l_1:Int):Rat))*(dG)):=Sz.mono (Sz.mul fp eH) (by omega)
 refine ⟨_,_,_,_,_,_,_,rfl,fun V9 l9=>(dA (g20.le (l5.trans (l6.trans (l7.trans (l8.trans (l9)))))) (Fy.le (l9)) cJ lQ (by omega)).mono ?_⟩
 rintro r kn l10 g5
 have IQ:=g5
 obtain ⟨VE,VF,VG,VH,VI,VJ,rfl⟩:=g5.shape
 have ER:Sz (4*k+3) (((((aZ:Int):Rat))*(dF))+((((l_1:Int):Rat))*(dG))):=Sz.mono (Sz.add cJ lQ) (by omega)
 refine ⟨_,_,_,_,_,_,_,rfl,fun ko bR=>(mj (zR.le (l1.trans (l2.trans (l3.trans (l4.trans (l5.trans (l6.trans (l7.trans (l8.trans (l9.trans (l10.trans (bR)))))))))))) bU (by omega)).mono ?_⟩
 rintro r oo cU g6
 have Lo:=g6
 obtain ⟨VK,VL,VM,VN,VO,VQ,rfl⟩:=g6.shape
 have Nf:Sz (1*k+0) (((cP:Int):Rat)):=Sz.mono (bU) (by omega)
 refine ⟨_,_,_,_,_,_,_,rfl,fun rk dq=>(dA (IQ.le (bR.trans (cU.trans (dq)))) (Lo.le (dq)) ER Nf (by omega)).mono ?_⟩
 rintro r ow fh g7
 have HG:=g7
 obtain ⟨VS,VT,VU,VV,VW,VX,rfl⟩:=g7.shape
 have UP:Sz (5*k+4) ((((((aZ:Int):Rat))*(dF))+((((l_1:Int):Rat))*(dG)))+(((cP:Int):Rat))):=Sz.mono (Sz.add ER Nf) (by omega)
 exact ⟨_,_,_,_,_,_,_,rfl,fun mU eC=>(HG.le (eC))⟩
theorem RA.shape {V:View}{v:Value}{q:Rat}(h:RA V v q):∃b p n c p' n' c',v=.agg #[.bool b,.slice p n c,.slice p' n' c']:=by
 obtain ⟨p,n,c,p',n',c',e,-⟩:=h;exact ⟨_,_,_,_,_,_,_,e⟩
def E2 (V:View)(v:Value)(x y:Rat):Prop:=∃b p n c p' n' c' d q m e q' m' e',v=.agg #[.bool b,.slice p n c,.slice p' n' c',.bool d,.slice q m e,.slice q' m' e'] /\
 RA V (.agg #[.bool b,.slice p n c,.slice p' n' c']) x/\RA V (.agg #[.bool d,.slice q m e,.slice q' m' e']) y
theorem E2.le {V V':View}{v:Value}{x y:Rat}(h:E2 V v x y)(l:V.Le V'):E2 V' v x y:=by
 obtain ⟨b,p,n,c,p',n',c',d,q,m,e,q',m',e',rfl,h1,h2⟩:=h
 exact ⟨_,_,_,_,_,_,_,_,_,_,_,_,_,_,rfl,h1.le l,h2.le l⟩
theorem BE {V:View}{v:Value}{x y:Rat}(h:E2 V v x y){k:Nat}(s1:Sz k x)(s2:Sz k y)(hk:k<=1099511627776) :
  ab prog 115 #[v] V fun r V'=>mT V' r x y:=by
 obtain ⟨b,p,n,c,p',n',c',d,q,m,e,q',m',e',rfl,h1,h2⟩:=h
 refine qf b p n c p' n' c' d q m e q' m' e' V _ fun V1 l1=>(vT (h1.le l1) s1 hk).mono ?_
 rintro r V2 l2 g1
 have g10:=g1
 obtain ⟨u,v,w,rfl⟩:=g1.shape
 refine ⟨_,_,_,rfl,fun V3 l3=>(vT (h2.le (l1.trans (l2.trans l3))) s2 hk).mono ?_⟩
 rintro r V4 l4 g2
 have g20:=g2
 obtain ⟨u,v,w,rfl⟩:=g2.shape
 exact ⟨_,_,_,rfl,fun V5 l5=>⟨_,_,_,_,_,_,rfl,g10.le (l3.trans (l4.trans l5)),g20.le l5⟩⟩
theorem xk {V:View}{v:Value}{x y:Rat}(h:mT V v x y){k:Nat}(s1:Sz k x)(s2:Sz k y)(hk:k<=1099511627776) :
  ab prog 80 #[v] V fun r V'=>E2 V' r x y:=by
 obtain ⟨p0,p1,p2,p3,p4,p5,rfl,h1,h2⟩:=h
 refine va p0 p1 p2 p3 p4 p5 V _ fun V1 l1=>(xh (h1.le l1) s1 hk).mono ?_
 rintro r V2 l2 g1
 have g10:=g1
 obtain ⟨_,_,_,_,_,_,_,rfl⟩:=g1.shape
 refine ⟨_,_,_,_,_,_,_,rfl,fun V3 l3=>(xh (h2.le (l1.trans (l2.trans l3))) s2 hk).mono ?_⟩
 rintro r V4 l4 g2
 have g20:=g2
 obtain ⟨_,_,_,_,_,_,_,rfl⟩:=g2.shape
 exact ⟨_,_,_,_,_,_,_,rfl,fun V5 l5=>⟨_,_,_,_,_,_,_,_,_,_,_,_,_,_,rfl,g10.le (l3.trans (l4.trans l5)),g20.le l5⟩⟩
theorem uq {V:View}{l p:Value}{aZ l_1 cP dF dG:Rat}(hl:qO V l aZ l_1 cP)(hp:mT V p dF dG){k:Nat}(s0:Sz k aZ)(s1:Sz k l_1)(s2:Sz k cP)(s3:Sz k dF)(s4:Sz k dG)(hk:16*k+16<274877906944) :
  ab prog 131 #[l,p] V fun r V'=>r=.int .i64 (aZ*dF+l_1*dG+cP).num.sign:=by
 have hl0:=hl
 have hp0:=hp
 obtain ⟨a0,a1,a2,a3,a4,a5,a6,a7,a8,rfl,-,-,-⟩:=hl
 obtain ⟨p0,p1,p2,p3,p4,p5,rfl,-,-⟩:=hp
 refine tP a0 a1 a2 a3 a4 a5 a6 a7 a8 p0 p1 p2 p3 p4 p5 V _ fun V1 l1=>(kz (hl0.le l1) (hp0.le l1) s0 s1 s2 s3 s4 (by omega)).mono ?_
 rintro r V2 l2 g
 have g0:=g
 obtain ⟨u,v,w,rfl⟩:=g.shape
 refine ⟨_,_,_,rfl,fun V3 l3=>(dY (g0.le l3) (jv s0 s1 s2 s3 s4) (by omega)).mono ?_⟩
 rintro r V4 l4 rfl
 exact ⟨_,rfl,fun V5 l5=>rfl⟩
theorem pJ {V:View}{v:Value}{q:Rat}(h:RQ V v q){k:Nat}(s:Sz k q)(hk:k<=1099511627776):ab prog 36 #[v] V fun r V'=>RA V' r q:=by
 obtain ⟨p,n,c,p',n',c',rfl,h1,h2⟩:=h
 have q1:=af s.1
 have q2:=af s.2
 refine yB _ p n c p' n' c' V _ fun V1 l1=>(ir ⟨_,_,_,rfl,h1.le l1⟩ (by omega)).mono ?_
 rintro r V2 l2 ⟨p1,n1,c1,rfl,g1⟩
 refine ⟨_,_,_,_,rfl,fun V3 l3=>(dj q _ (h2.le (l1.trans (l2.trans l3)))).mono ?_⟩
 rintro r V4 l4 ⟨p2,n2,c2,rfl,g2⟩
 refine ⟨_,_,_,rfl,fun V5 l5=>(pI (g2.le l5) (by omega)).mono ?_⟩
 rintro r V6 l6 ⟨p3,n3,c3,rfl,g3⟩
 exact ⟨_,_,_,rfl,fun V7 l7=>⟨_,_,_,_,_,_,rfl,g1.le (l3.trans (l4.trans (l5.trans (l6.trans l7)))),g3.le l7⟩⟩
theorem zw {V:View}{v:Value}{x y:Rat}(h:RP V v x y){k:Nat}(s1:Sz k x)(s2:Sz k y)(hk:k<=1099511627776):ab prog 53 #[v] V fun r V'=>E2 V' r x y:=by
 obtain ⟨p1,n1,c1,p2,n2,c2,p3,n3,c3,p4,n4,c4,rfl,h1,h2⟩:=h
 refine yG _ p1 n1 c1 p2 n2 c2 _ p3 n3 c3 p4 n4 c4 V _ fun V1 l1=>(pJ (h1.le l1) s1 hk).mono ?_
 rintro r V2 l2 g1
 have g10:=g1
 obtain ⟨_,_,_,_,_,_,_,rfl⟩:=g1.shape
 refine ⟨_,_,_,_,_,_,_,rfl,fun V3 l3=>(pJ (h2.le (l1.trans (l2.trans l3))) s2 hk).mono ?_⟩
 rintro r V4 l4 g2
 have g20:=g2
 obtain ⟨_,_,_,_,_,_,_,rfl⟩:=g2.shape
 exact ⟨_,_,_,_,_,_,_,rfl,fun V5 l5=>⟨_,_,_,_,_,_,_,_,_,_,_,_,_,_,rfl,g10.le (l3.trans (l4.trans l5)),g20.le l5⟩⟩
theorem lV {V:View}{v w:Value}{x y:Rat}(hx:RA V v x)(hy:RA V w y){k:Nat}(s:Sz k x)(hk:k<=1099511627776) :
  ab prog 35 #[v,w] V fun r V'=>r=.bool (decide (x=y)):=by
 obtain ⟨p,n,c,p',n',c',rfl,h1,h2⟩:=hx
 obtain ⟨q,m,e,q',m',e',rfl,h3,h4⟩:=hy
 have q1:=af s.1
 have q2:=af s.2
 refine tZ _ p n c p' n' c' _ q m e q' m' e' V _ fun V1 l1=>(fH (h1.le l1) (h3.le l1) (by omega)).mono ?_
 rintro r V2 l2 rfl
 refine ⟨_,rfl,fun g V3 l3=>(lU (h2.le (l1.trans (l2.trans l3))) (h4.le (l1.trans (l2.trans l3))) (by omega)).mono ?_,fun g V6 l6=>?_⟩
 ·have g:=of_decide_eq_true g
  rintro r V4 l4 rfl
  refine ⟨_,rfl,fun V5 l5=>?_⟩
  have e:ag x.den=ag y.den↔x=y:=⟨fun h=>Rat.ext g (by have:=congrArg val h;rwa [ae,ae] at this),fun h=>by rw [h]⟩
  rw [show decide (ag x.den=ag y.den)=decide (x=y) from by rw [decide_eq_decide];exact e]
 ·have g:=of_decide_eq_false g
  rw [decide_eq_false (fun h=>g (by rw [h]))]
theorem ux {V:View}{v w:Value}{x y x' y':Rat}(h:E2 V v x y)(h':E2 V w x' y'){k:Nat}(s1:Sz k x)(s2:Sz k y)(hk:k<=1099511627776) :
  ab prog 89 #[v,w] V fun r V'=>r=.bool (decide (x=x'/\y=y')):=by
 obtain ⟨b,p,n,c,p',n',c',d,q,m,e,q',m',e',rfl,h1,h2⟩:=h
 obtain ⟨b1,p1,n1,c1,Mw,n1',c1',d1,q1,m1,e1,q1',TY,Nr,rfl,h3,h4⟩:=h'
 refine ub b p n c p' n' c' d q m e q' m' e' b1 p1 n1 c1 Mw n1' c1' d1 q1 m1 e1 q1' TY Nr V _ fun V1 l1=>(lV (h1.le l1) (h3.le l1) s1 hk).mono ?_
 rintro r V2 l2 rfl
 refine ⟨_,rfl,fun g V3 l3=>(lV (h2.le (l1.trans (l2.trans l3))) (h4.le (l1.trans (l2.trans l3))) s2 hk).mono ?_,fun g V6 l6=>?_⟩
 ·have g:=of_decide_eq_true g
  rintro r V4 l4 rfl
  exact ⟨_,rfl,fun V5 l5=>by simp [g]⟩
 ·have g:=of_decide_eq_false g
  simp [g]
def Mf (a b c:Rat):L3:=
 let f:Nat:=a.den*b.den*c.den
 xL (a*((f:Int):Rat)).num (b*((f:Int):Rat)).num (c*((f:Int):Rat)).num
theorem jI {V:View}(n:Int)(d:Nat)(h0:-1000<=n)(h1:n<=1000)(hd0:d≠0)(hd:d<=1000) :
  ab prog 75 #[.int .i64 n,.int .i64 (d:Int)] V fun r V'=>RQ V' r (mkRat n d):=by
 refine A9 n d V _ fun V1 l1=>(v_ n (by omega) (by omega)).mono ?_
 rintro r V2 l2 ⟨p,m,c,rfl,g⟩
 rw [aL (by omega)]
 refine ⟨_,_,_,_,rfl,fun V3 l3=>(cR d (by omega)).mono ?_⟩
 rintro r V4 l4 ⟨p2,m2,c2,rfl,g2⟩
 refine ⟨_,_,_,rfl,fun V5 l5=>(jG n (g.le (l3.trans (l4.trans l5))) (g2.le l5) (Nat.le_trans (af (k:=10) (by omega)) (by omega)) (Nat.le_trans (af (k:=10) (by omega)) (by omega)) hd0).mono ?_⟩
 rintro r V6 l6 h
 have h':=h
 obtain ⟨_,_,_,_,_,_,rfl⟩:=h.shape
 exact ⟨_,_,_,_,_,_,_,rfl,fun V7 l7=>h'.le l7⟩
theorem Iw:∀x:Fin 9,Sz 10 (mkRat (2*((x.1:Int)-4)+1) 2)/\Sz 10 (mkRat (3*((x.1:Int)-4)+1) 3):=by unfold Sz;decide +kernel
theorem QM {V:View}{tb:Nat}{p:OA}{n c:Nat}{at_:Int}(hr:ES V p n)(hn:n<=400)(hw:mX V tb p n c at_)(hx:V.X tb)(h0:0<=at_) :
  ab prog 74 #[.pointer (some ⟨tb,0,none⟩)] V fun r V'=>∃(q:Rat)(at':Int),RQ V' r q/\Sz 10 q/\0<=at'/\mX V' tb p n c at':=by
 refine qL tb p n c at_ V _ hw hx fun V1 l1 bk1 e1 h1=>(oG (V:=V1.bf [bk1]) 9 (hr.le fun b o h=>l1 b o h) hn e1 ⟨by simp,h1⟩ h0 (by omega) (by omega)).mono ?_
 rintro r V2 l2 ⟨x,E9,rfl,x0,x1,t1,hw1⟩
 refine ⟨_,rfl,_,_,_,_,hw1,fun V3 l3 Oc e3 h3=>(oG (V:=V3.bf [Oc]) 6 (hr.le fun b o h=>l3 b o (l2 b o (l1 b o h))) hn e3 ⟨by simp,h3⟩ t1 (by omega) (by omega)).mono ?_⟩
 rintro r V4 l4 ⟨y,at2,rfl,y0,y1,t2,hw2⟩
 obtain ⟨i,rfl⟩:∃i:Nat,x=i:=⟨x.toNat,by omega⟩
 obtain ⟨z1,z2⟩:=Iw ⟨i,by omega⟩
 dsimp only at z1 z2
 have w1:i64.wrap ((i:Int)-4)=(i:Int)-4:=aw (by omega)
 have w2:i64.wrap (i64.wrap (2*((i:Int)-4))+1)=2*((i:Int)-4)+1:=by rw [aw (x:=2*((i:Int)-4)) (by omega),aw (by omega)]
 have w3:i64.wrap (i64.wrap (3*((i:Int)-4))+1)=3*((i:Int)-4)+1:=by rw [aw (x:=3*((i:Int)-4)) (by omega),aw (by omega)]
 rw [w1,w2,w3]
 refine ⟨_,rfl,_,_,_,_,hw2,fun _ V5 l5=>(jI (2*((i:Int)-4)+1) 2 (by omega) (by omega) (by omega) (by omega)).mono ?_,fun _=>⟨fun _ V8 l8=>(jI (3*((i:Int)-4)+1) 3 (by omega) (by omega) (by omega) (by omega)).mono ?_,fun _ ko bR=>(jd ((i:Int)-4) (by omega) (by omega)).mono ?_⟩⟩
 ·rintro r V6 l6 h
  have h':=h
  obtain ⟨_,_,_,_,_,_,rfl⟩:=h.shape
  exact ⟨_,_,_,_,_,_,_,rfl,fun V7 l7 e7=>⟨_,at2,h'.le l7,z1,t2,e7⟩⟩
 ·rintro r V6 l6 h
  have h':=h
  obtain ⟨_,_,_,_,_,_,rfl⟩:=h.shape
  exact ⟨_,_,_,_,_,_,_,rfl,fun V7 l7 e7=>⟨_,at2,h'.le l7,z2,t2,e7⟩⟩
 ·rintro r V6 l6 h
  have h':=h
  obtain ⟨_,_,_,_,_,_,rfl⟩:=h.shape
  exact ⟨_,_,_,_,_,_,_,rfl,fun V7 l7 e7=>⟨_,at2,h'.le l7,DD (by omega),t2,e7⟩⟩
theorem xp {V:View}{l p:Value}{aZ l_1 cP:Int}{dF dG:Rat}(hl:RL V l aZ l_1 cP)(hp:RP V p dF dG){k:Nat}(s0:Sz k ((aZ:Int):Rat))(s1:Sz k ((l_1:Int):Rat))(s2:Sz k ((cP:Int):Rat))(s3:Sz k dF)(s4:Sz k dG)(hk:16*k+16<274877906944) :
  ab prog 76 #[l,p] V fun r V'=>r=.int .i64 ((aZ:Rat)*dF+(l_1:Rat)*dG+(cP:Rat)).num.sign:=by
 have hl0:=hl
 have hp0:=hp
 obtain ⟨a0,a1,a2,a3,a4,a5,a6,a7,a8,rfl,-,-,-⟩:=hl
 obtain ⟨p0,p1,p2,p3,p4,p5,p6,p7,p8,p9,Ia,Mx,rfl,-,-⟩:=hp
 refine vo _ a0 a1 a2 _ a3 a4 a5 _ a6 a7 a8 _ p0 p1 p2 p3 p4 p5 _ p6 p7 p8 p9 Ia Mx V _ fun V1 l1=>(uy (hl0.le l1) (hp0.le l1) s0 s1 s2 s3 s4 (by omega)).mono ?_
 rintro r V2 l2 ⟨u0,u1,u2,u3,u4,u5,rfl,g1,g2⟩
 refine ⟨_,_,_,_,_,_,_,rfl,fun V3 l3=>(C4 _ (g1.le l3)).mono ?_⟩
 rintro r V4 l4 rfl
 exact ⟨_,rfl,fun V5 l5=>rfl⟩
theorem zt {V:View}{l:Value}{a b c:Int}(hl:RL V l a b c):ab prog 41 #[l] V fun r V'=>RL V' r (-a) (-b) (-c):=by
 obtain ⟨a0,a1,a2,a3,a4,a5,a6,a7,a8,rfl,h1,h2,h3⟩:=hl
 refine yD _ a0 a1 a2 _ a3 a4 a5 _ a6 a7 a8 V _ fun V1 l1=>(iq a (h1.le l1)).mono ?_
 rintro r V2 l2 ⟨p1,n1,c1,rfl,g1⟩
 refine ⟨_,_,_,_,rfl,fun V3 l3=>(iq b (h2.le (l1.trans (l2.trans l3)))).mono ?_⟩
 rintro r V4 l4 ⟨p2,n2,c2,rfl,g2⟩
 refine ⟨_,_,_,_,rfl,fun V5 l5=>(iq c (h3.le (l1.trans (l2.trans (l3.trans (l4.trans l5)))))).mono ?_⟩
 rintro r V6 l6 ⟨p3,n3,c3,rfl,g3⟩
 exact ⟨_,_,_,_,rfl,fun V7 l7=>⟨_,_,_,_,_,_,_,_,_,rfl,g1.le (l3.trans (l4.trans (l5.trans (l6.trans l7)))),g2.le (l5.trans (l6.trans l7)),g3.le l7⟩⟩
end Go.Proofs.Tryz
namespace Go.bu
open Go.eQ
theorem RR.zero (V:View):RR V (.agg #[.int .i64 0,.int .i64 0,.pointer none]) 0:=.inl ⟨rfl,by unfold Wd;decide⟩
end Go.bu
namespace Go.Proofs.Tryz
open Go.bu Go.eQ
structure Sp where
 lo:Rat
 hi:Rat
 a:Bool
 b:Bool
def Sp.can (s:Sp):Prop:=(s.a=true->s.lo=0)/\(s.b=true->s.hi=0)
def Sp.sz (k:Nat)(s:Sp):Prop:=Sz k s.lo/\Sz k s.hi
def Sp.zero:Sp:=⟨0,0,false,false⟩
def lh (k:Nat)(l:L3):Prop:=Sz k (l.1:Rat)/\Sz k (l.2.1:Rat)/\Sz k (l.2.2:Rat)
def CX (V:View)(v:Value)(s:Sp):Prop:=∃(x1 x2:Int)(p:OA)(y1 y2:Int)(q:OA),v=.agg #[.int .i64 x1,.int .i64 x2,.pointer p,.int .i64 y1,.int .i64 y2,.pointer q,.bool s.a,.bool s.b] /\
 RR V (.agg #[.int .i64 x1,.int .i64 x2,.pointer p]) s.lo/\RR V (.agg #[.int .i64 y1,.int .i64 y2,.pointer q]) s.hi
theorem CX.le {V V':View}{v:Value}{s:Sp}(h:CX V v s)(l:V.Le V'):CX V' v s:=by
 obtain ⟨x1,x2,p,y1,y2,q,e,h1,h2⟩:=h
 exact ⟨x1,x2,p,y1,y2,q,e,h1.le l,h2.le l⟩
def rf (V:View)(v:Value)(l:L3):Prop:=qO V v (l.1:Rat) (l.2.1:Rat) (l.2.2:Rat)
theorem rf.le {V V':View}{v:Value}{l:L3}(h:rf V v l)(e:V.Le V'):rf V' v l:=qO.le h e
def Jj (V:View)(v:Value)(l:L3)(s:Sp):Prop:=∃(x1 x2:Int)(p:OA)(y1 y2:Int)(q:OA)(z1 z2:Int)(r:OA)(u1 u2:Int)(t:OA)(w1 w2:Int)(o:OA),
 v=.agg #[.int .i64 x1,.int .i64 x2,.pointer p,.int .i64 y1,.int .i64 y2,.pointer q,.int .i64 z1,.int .i64 z2,.pointer r,.int .i64 u1,.int .i64 u2,.pointer t,.int .i64 w1,.int .i64 w2,.pointer o,.bool s.a,.bool s.b] /\
 rf V (.agg #[.int .i64 x1,.int .i64 x2,.pointer p,.int .i64 y1,.int .i64 y2,.pointer q,.int .i64 z1,.int .i64 z2,.pointer r]) l /\
 CX V (.agg #[.int .i64 u1,.int .i64 u2,.pointer t,.int .i64 w1,.int .i64 w2,.pointer o,.bool s.a,.bool s.b]) s
theorem Jj.le {V V':View}{v:Value}{l:L3}{s:Sp}(h:Jj V v l s)(e:V.Le V'):Jj V' v l s:=by
 obtain ⟨x1,x2,p,y1,y2,q,z1,z2,r,u1,u2,t,w1,w2,o,rfl,h1,h2⟩:=h
 exact ⟨x1,x2,p,y1,y2,q,z1,z2,r,u1,u2,t,w1,w2,o,rfl,h1.le e,h2.le e⟩
def Hh (V:View)(v:Value)(b:Bool)(xs ys:List Nat):Prop:=∃p n c p' n' c',v=.agg #[.bool b,.slice p n c,.slice p' n' c']/\RD V p n c xs/\RD V p' n' c' ys
theorem Hh.le {V V':View}{v:Value}{b:Bool}{xs ys:List Nat}(h:Hh V v b xs ys)(l:V.Le V'):Hh V' v b xs ys:=by
 obtain ⟨p,n,c,p',n',c',e,h1,h2⟩:=h;exact ⟨p,n,c,p',n',c',e,h1.le l,h2.le l⟩
theorem Hh.nil {V:View}:Hh V (.agg #[.bool false,.slice none 0 0,.slice none 0 0]) false [] []:=⟨_,_,_,_,_,_,rfl,RD.nil,RD.nil⟩
def RE (V:View)(v:Value)(q:Rat)(no:Bool):Prop:=(no=true->Hh V v false [] [])/\(no=false->RA V v q)
theorem RE.le {V V':View}{v:Value}{q:Rat}{no:Bool}(h:RE V v q no)(l:V.Le V'):RE V' v q no:=⟨fun e=>(h.1 e).le l,fun e=>(h.2 e).le l⟩
theorem RE.shape {V:View}{v:Value}{q:Rat}{no:Bool}(h:RE V v q no):∃b p n c p' n' c',v=.agg #[.bool b,.slice p n c,.slice p' n' c']:=by
 cases no with
 | true=>obtain ⟨_,_,_,_,_,_,e,-⟩:=h.1 rfl;exact ⟨_,_,_,_,_,_,_,e⟩
 | false=>exact (h.2 rfl).shape
def Nl (V:View)(v:Value)(s:Sp):Prop:=∃b p n c p' n' c' d q m e q' m' e',v=.agg #[.bool b,.slice p n c,.slice p' n' c',.bool d,.slice q m e,.slice q' m' e',.bool s.a,.bool s.b] /\
 RE V (.agg #[.bool b,.slice p n c,.slice p' n' c']) s.lo s.a/\RE V (.agg #[.bool d,.slice q m e,.slice q' m' e']) s.hi s.b
theorem Nl.le {V V':View}{v:Value}{s:Sp}(h:Nl V v s)(l:V.Le V'):Nl V' v s:=by
 obtain ⟨b,p,n,c,p',n',c',d,q,m,e,q',m',e',rfl,h1,h2⟩:=h
 exact ⟨_,_,_,_,_,_,_,_,_,_,_,_,_,_,rfl,h1.le l,h2.le l⟩
def Kz (V:View)(v:Value)(l:L3)(s:Sp):Prop:=∃b1 p1 n1 c1 b2 p2 n2 c2 b3 p3 n3 c3 b p n c p' n' c' d q m e q' m' e',
 v=.agg #[.bool b1,.slice p1 n1 c1,.bool b2,.slice p2 n2 c2,.bool b3,.slice p3 n3 c3,.bool b,.slice p n c,.slice p' n' c',.bool d,.slice q m e,.slice q' m' e',.bool s.a,.bool s.b] /\
 RL V (.agg #[.bool b1,.slice p1 n1 c1,.bool b2,.slice p2 n2 c2,.bool b3,.slice p3 n3 c3]) l.1 l.2.1 l.2.2/\Nl V (.agg #[.bool b,.slice p n c,.slice p' n' c',.bool d,.slice q m e,.slice q' m' e',.bool s.a,.bool s.b]) s
theorem Kz.le {V V':View}{v:Value}{l:L3}{s:Sp}(h:Kz V v l s)(e:V.Le V'):Kz V' v l s:=by
 obtain ⟨b1,p1,n1,c1,b2,p2,n2,c2,b3,p3,n3,c3,b,p,n,c,p',n',c',d,q,m,f,q',m',f',rfl,h1,h2⟩:=h
 exact ⟨_,_,_,_,_,_,_,_,_,_,_,_,_,_,_,_,_,_,_,_,_,_,_,_,_,_,rfl,h1.le e,h2.le e⟩
def KQ (V:View)(v:Value)(s:Sp):Prop:=∃b p n c p' n' c' d q m e q' m' e',v=.agg #[.bool b,.slice p n c,.slice p' n' c',.bool d,.slice q m e,.slice q' m' e',.bool s.a,.bool s.b] /\
 RQ V (.agg #[.bool b,.slice p n c,.slice p' n' c']) s.lo/\RQ V (.agg #[.bool d,.slice q m e,.slice q' m' e']) s.hi
theorem KQ.le {V V':View}{v:Value}{s:Sp}(h:KQ V v s)(l:V.Le V'):KQ V' v s:=by
 obtain ⟨b,p,n,c,p',n',c',d,q,m,e,q',m',e',rfl,h1,h2⟩:=h
 exact ⟨_,_,_,_,_,_,_,_,_,_,_,_,_,_,rfl,h1.le l,h2.le l⟩
def RF (V:View)(v:Value)(l:L3)(s:Sp):Prop:=∃b1 p1 n1 c1 b2 p2 n2 c2 b3 p3 n3 c3 b p n c p' n' c' d q m e q' m' e',
 v=.agg #[.bool b1,.slice p1 n1 c1,.bool b2,.slice p2 n2 c2,.bool b3,.slice p3 n3 c3,.bool b,.slice p n c,.slice p' n' c',.bool d,.slice q m e,.slice q' m' e',.bool s.a,.bool s.b] /\
 RL V (.agg #[.bool b1,.slice p1 n1 c1,.bool b2,.slice p2 n2 c2,.bool b3,.slice p3 n3 c3]) l.1 l.2.1 l.2.2/\KQ V (.agg #[.bool b,.slice p n c,.slice p' n' c',.bool d,.slice q m e,.slice q' m' e',.bool s.a,.bool s.b]) s
theorem RF.le {V V':View}{v:Value}{l:L3}{s:Sp}(h:RF V v l s)(e:V.Le V'):RF V' v l s:=by
 obtain ⟨b1,p1,n1,c1,b2,p2,n2,c2,b3,p3,n3,c3,b,p,n,c,p',n',c',d,q,m,f,q',m',f',rfl,h1,h2⟩:=h
 exact ⟨_,_,_,_,_,_,_,_,_,_,_,_,_,_,_,_,_,_,_,_,_,_,_,_,_,_,rfl,h1.le e,h2.le e⟩
def au (l:L3)(x y:Rat):Rat:=(l.1:Rat)*x+(l.2.1:Rat)*y+(l.2.2:Rat)
def iE (l:L3):Rat:=(l.1:Rat)*(l.1:Rat)+(l.2.1:Rat)*(l.2.1:Rat)
def Gv (l:L3)(x y:Rat):Rat:=((l.2.1:Rat)*x-(l.1:Rat)*y)*(iE l)⁻¹
def ka (l:L3)(t:Rat):Rat:=(l.2.1:Rat)*t-(l.1:Rat)*(l.2.2:Rat)*(iE l)⁻¹
def kb (l:L3)(t:Rat):Rat:=-((l.1:Rat)*t)-(l.2.1:Rat)*(l.2.2:Rat)*(iE l)⁻¹
def gB (l:L3):L3:=(-l.1,-l.2.1,-l.2.2)
def Sp.neg (s:Sp):Sp:=⟨if s.b then 0 else -s.hi,if s.a then 0 else -s.lo,s.b,s.a⟩
def Sp.emp (s:Sp):Bool:=!s.a&&!s.b&&decide (fy s.lo s.hi≥0)
def Nz (l:L3):Prop:=¬(l.1=0/\l.2.1=0)
theorem sq_nonneg (x:Int):0<=x*x:=by
 rw [←Int.natAbs_mul_self];exact Int.natCast_nonneg _
theorem Gh (l:L3):iE l=((l.1*l.1+l.2.1*l.2.1:Int):Rat):=by unfold iE;simp
theorem Nz.norm {l:L3}(h:Nz l):iE l≠0:=by
 rw [Gh]
 have h1:=sq_nonneg l.1
 have h2:=sq_nonneg l.2.1
 have h3:l.1*l.1+l.2.1*l.2.1≠0:=by
  intro e
  have e1:l.1*l.1=0:=by omega
  have e2:l.2.1*l.2.1=0:=by omega
  exact h ⟨(Int.mul_eq_zero.1 e1).elim id id,(Int.mul_eq_zero.1 e2).elim id id⟩
 exact_mod_cast h3
theorem O8 {V:View}{l t:Value}{L:L3}{x:Rat}(hl:rf V l L)(ht:RR V t x){k:Nat}(sl:lh k L)(s1:Sz k x)(hk:20*k+19<274877906944) :
  ab prog 132 #[l,t] V fun r V'=>mT V' r (ka L x) (kb L x):=by
 refine (zm hl ht sl.1 sl.2.1 sl.2.2 s1 hk).mono ?_
 rintro r V2 l2 g
 have e1:ka L x=((L.1:Rat)*((-(L.2.2:Rat))*((L.1:Rat)*(L.1:Rat)+(L.2.1:Rat)*(L.2.1:Rat))⁻¹))+((L.2.1:Rat)*x):=by unfold ka iE;grind
 have e2:kb L x=((L.2.1:Rat)*((-(L.2.2:Rat))*((L.1:Rat)*(L.1:Rat)+(L.2.1:Rat)*(L.2.1:Rat))⁻¹))+((-(L.1:Rat))*x):=by unfold kb iE;grind
 rw [e1,e2];exact g
theorem Kr {L:L3}{x:Rat}{k:Nat}(sl:lh k L)(s1:Sz k x):Sz (20*k+19) (ka L x):=by
 have e1:ka L x=((L.1:Rat)*((-(L.2.2:Rat))*((L.1:Rat)*(L.1:Rat)+(L.2.1:Rat)*(L.2.1:Rat))⁻¹))+((L.2.1:Rat)*x):=by unfold ka iE;grind
 rw [e1];exact vy sl.1 sl.2.1 sl.2.2 s1
theorem Ks {L:L3}{x:Rat}{k:Nat}(sl:lh k L)(s1:Sz k x):Sz (20*k+19) (kb L x):=by
 have e2:kb L x=((L.2.1:Rat)*((-(L.2.2:Rat))*((L.1:Rat)*(L.1:Rat)+(L.2.1:Rat)*(L.2.1:Rat))⁻¹))+((-(L.1:Rat))*x):=by unfold kb iE;grind
 rw [e2];exact vA sl.1 sl.2.1 sl.2.2 s1
theorem JZ {V:View}{l p:Value}{L:L3}{x y:Rat}(hl:rf V l L)(hp:mT V p x y){k:Nat}(sl:lh k L)(s1:Sz k x)(s2:Sz k y)(hk:16*k+16<274877906944) :
  ab prog 131 #[l,p] V fun r V'=>r=.int .i64 (au L x y).num.sign:=uq hl hp sl.1 sl.2.1 sl.2.2 s1 s2 hk
theorem lh.rev {k:Nat}{L:L3}(h:lh k L):lh k (gB L):=by
 unfold lh gB
 simp only [Rat.intCast_neg]
 exact ⟨h.1.neg,h.2.1.neg,h.2.2.neg⟩
theorem Kh {V:View}{l p:Value}{L:L3}{x y:Rat}(hl:RL V l L.1 L.2.1 L.2.2)(hp:RP V p x y){k:Nat}(sl:lh k L)(s1:Sz k x)(s2:Sz k y)(hk:16*k+16<274877906944) :
  ab prog 76 #[l,p] V fun r V'=>r=.int .i64 (au L x y).num.sign:=xp hl hp sl.1 sl.2.1 sl.2.2 s1 s2 hk
structure NY (V:View) (vs:List Value) (i:Int) (f a b c:Rat):Prop where
 h0:0<=i
 h3:i<=3
 row:∃(x1 x2:Int)(p:OA)(y1 y2:Int)(q:OA)(z1 z2:Int)(r:OA),vs=[.int .i64 x1,.int .i64 x2,.pointer p,.int .i64 y1,.int .i64 y2,.pointer q,.int .i64 z1,.int .i64 z2,.pointer r] /\
  RR V (.agg #[.int .i64 x1,.int .i64 x2,.pointer p]) (if 0<i then a*f else a)/\RR V (.agg #[.int .i64 y1,.int .i64 y2,.pointer q]) (if 1<i then b*f else b)/\RR V (.agg #[.int .i64 z1,.int .i64 z2,.pointer r]) (if 2<i then c*f else c)
theorem NY.le {V V':View}{vs:List Value}{i:Int}{f a b c:Rat}(h:NY V vs i f a b c)(l:V.Le V'):NY V' vs i f a b c:=by
 obtain ⟨h0,h3,x1,x2,p,y1,y2,q,z1,z2,r,e,g1,g2,g3⟩:=h
 exact ⟨h0,h3,x1,x2,p,y1,y2,q,z1,z2,r,e,g1.le l,g2.le l,g3.le l⟩
def Cv (px py qx qy:Rat):L3:=Mf (-(qy-py)) (qx-px) (-(-(qy-py)*px+(qx-px)*py))
theorem Iz {px py qx qy:Rat}:(px=qx/\py=qy)↔(-(qy-py)=0/\qx-px=0):=⟨fun ⟨h1,h2⟩=>⟨by grind,by grind⟩,fun ⟨h1,h2⟩=>⟨by grind,by grind⟩⟩
def EC (b:Bool)(xs ys:List Nat):Rat:=mkRat (aS b xs) (val ys)
def J9 (b:Bool)(xs ys:List Nat):Bool:=kh b xs&&decide (ag (val ys)=ys)&&!decide (ys=[])&&decide (Nat.gcd (val xs) (val ys)=1)
def Qg (b:Bool)(xs ys:List Nat):Bool:=!b&&decide (xs=[])&&decide (ys=[])
def JA (b:Bool)(xs ys:List Nat)(no:Bool):Rat:=if no then 0 else EC b xs ys
def Fu (b:Bool)(xs ys:List Nat)(no:Bool):Bool:=if no then Qg b xs ys else J9 b xs ys
theorem Dp {q:Rat}:J9 (decide (q.num<0)) (ag q.num.natAbs) (ag q.den)=true/\EC (decide (q.num<0)) (ag q.num.natAbs) (ag q.den)=q:=by
 constructor
 ·unfold J9
  have h1:kh (decide (q.num<0)) (ag q.num.natAbs)=true:=by
   unfold kh
   rw [ae]
   by_cases h:q.num<0
   ·have:ag q.num.natAbs≠[]:=fun e=>by have:=bh.1 e;omega
    simp [h,this]
   ·simp [h]
  have h2:ag q.den≠[]:=fun e=>q.den_nz (bh.1 e)
  rw [h1,ae,ae]
  simp [h2,q.reduced]
 ·unfold EC
  rw [aE,ae,Rat.mkRat_self]
theorem BA {V:View}{v:Value}{s:Sp}(h:CX V v s){k:Nat}(hs:s.sz k)(hk:2*k<1099511627776) :
  ab prog 223 #[v] V fun r V'=>r=.bool s.emp:=by
 obtain ⟨x1,x2,p,y1,y2,q,rfl,h1,h2⟩:=h
 refine qw x1 x2 p y1 y2 q s.a s.b V _ ⟨fun ha=>⟨fun hb V1 l1=>(jy (h1.le l1) (h2.le l1) hs.1 hs.2 (by omega)).mono ?_,fun hb V4 l4=>?_⟩,fun ha V5 l5=>?_⟩
 ·rintro r V2 l2 rfl
  exact ⟨_,rfl,fun V3 l3=>by rw [Bool.not_eq_true'] at ha hb;simp [Sp.emp,ha,hb]⟩
 ·rw [Bool.not_eq_false'] at hb;simp [Sp.emp,hb]
 ·rw [Bool.not_eq_false'] at ha;simp [Sp.emp,ha]
def Nm (V:View)(v:Value)(b1:Bool)(ID IF:List Nat)(b2:Bool)(IE IG:List Nat)(na nb:Bool):Prop:=∃p n c p' n' c' q m e q' m' e',v=.agg #[.bool b1,.slice p n c,.slice p' n' c',.bool b2,.slice q m e,.slice q' m' e',.bool na,.bool nb] /\
 Hh V (.agg #[.bool b1,.slice p n c,.slice p' n' c']) b1 ID IF/\Hh V (.agg #[.bool b2,.slice q m e,.slice q' m' e']) b2 IE IG
theorem Nm.le {V V':View}{v:Value}{b1:Bool}{ID IF:List Nat}{b2:Bool}{IE IG:List Nat}{na nb:Bool}(h:Nm V v b1 ID IF b2 IE IG na nb)(l:V.Le V'):Nm V' v b1 ID IF b2 IE IG na nb:=by
 obtain ⟨p,n,c,p',n',c',q,m,e,q',m',e',rfl,h1,h2⟩:=h
 exact ⟨_,_,_,_,_,_,_,_,_,_,_,_,rfl,h1.le l,h2.le l⟩
def MP (b1:Bool)(ID IF:List Nat)(b2:Bool)(IE IG:List Nat)(na nb:Bool):Sp:=⟨JA b1 ID IF na,JA b2 IE IG nb,na,nb⟩
def okW (b1:Bool)(ID IF:List Nat)(b2:Bool)(IE IG:List Nat)(na nb:Bool):Bool:=Fu b1 ID IF na&&Fu b2 IE IG nb&&!(MP b1 ID IF b2 IE IG na nb).emp
def RU (l:L3)(s:Sp):Prop:=du l=true/\s.can/\s.emp=false
theorem RE.raw {V:View}{v:Value}{q:Rat}{no:Bool}(h:RE V v q no)(hc:no=true->q=0):∃b xs ys,Hh V v b xs ys/\Fu b xs ys no=true/\JA b xs ys no=q/\(∀k,Sz k q->xs.length<=k/\ys.length<=k):=by
 cases no with
 | true=>
  exact ⟨false,[],[],h.1 rfl,rfl,by rw [hc rfl];rfl,fun k _=>⟨Nat.zero_le _,Nat.zero_le _⟩⟩
 | false=>
  obtain ⟨p,n,c,p',n',c',rfl,h1,h2⟩:=h.2 rfl
  exact ⟨_,_,_,⟨_,_,_,_,_,_,rfl,h1,h2⟩,Dp.1,Dp.2,fun k hk=>⟨af hk.1,af hk.2⟩⟩
theorem rf.SG {V:View}{r:Value}{l:L3}(h:RL V r ((l.1:Rat)).num ((l.2.1:Rat)).num ((l.2.2:Rat)).num):RL V r l.1 l.2.1 l.2.2:=by
 simpa [Rat.num_intCast] using h
def B5 (x y:Rat):Rat:=if 0<fy y x then y else x
def B8 (x y:Rat):Rat:=if fy y x<0 then y else x
theorem xw (x y:Rat):(x<y/\fy x y=-1)\/(x=y/\fy x y=0)\/(y<x/\fy x y=1):=by
 by_cases h1:x<y
 ·exact .inl ⟨h1,C9.1 h1⟩
 ·by_cases h2:x=y
  ·exact .inr (.inl ⟨h2,iw.1 h2⟩)
  ·have h3:y<x:=by grind
   exact .inr (.inr ⟨h3,C8.1 h3⟩)
theorem Sp.ns {s:Sp}:s.emp=false↔(s.a=true\/s.b=true\/s.lo<s.hi):=by
 unfold Sp.emp
 rcases xw s.lo s.hi with ⟨h,e⟩|⟨h,e⟩|⟨h,e⟩<;>rw [e]<;>cases s.a<;>cases s.b<;>simp<;>grind
def Sp.meet (v w:Sp):Sp:=⟨if v.a then w.lo else if w.a then v.lo else B5 v.lo w.lo,if v.b then w.hi else if w.b then v.hi else B8 v.hi w.hi,if v.a then w.a else false,if v.b then w.b else false⟩
theorem Sp.Ac {v w:Sp}(h1:v.can)(h2:w.can):(v.meet w).can:=by
 unfold Sp.meet
 constructor<;>dsimp only
 ·cases hv:v.a with
  | false=>intro h;cases h
  | true=>exact fun h=>h2.1 h
 ·cases hv:v.b with
  | false=>intro h;cases h
  | true=>exact fun h=>h2.2 h
def Sp.dm (s:Sp):Rat:=if s.a then (if s.b then 0 else s.hi-((1:Int):Rat)) else if s.b then s.lo+((1:Int):Rat) else (s.lo+s.hi)*((2:Int):Rat)⁻¹
theorem Sp.Dw {s:Sp}(h:s.emp=false):(s.a=false->s.lo<s.dm)/\(s.b=false->s.dm<s.hi):=by
 rw [Sp.ns] at h
 unfold Sp.dm
 cases ha:s.a<;>cases hb:s.b<;>simp [ha,hb] at h⊢<;> grind
def jN (m l:L3):Rat:=((m.1:Rat)*(l.2.1:Rat))+((m.2.1:Rat)*(-(l.1:Rat)))
def ku (m l:L3):Rat:=au m (ka l 0) (kb l 0)
theorem yj (m l:L3)(t:Rat):au m (ka l t) (kb l t)=ku m l+jN m l*t:=by
 unfold ku au jN ka kb;grind
def fV (m l:L3):Rat:=-(ku m l*(jN m l)⁻¹)
def fc (l:L3)(s:Sp)(m:L3):Sp:=
 if (jN m l).num.sign==0 then s else if (jN m l).num.sign==1 then s.meet ⟨fV m l,0,false,true⟩ else s.meet ⟨0,fV m l,true,false⟩
def fa (l:L3)(s:Sp)(m:L3):Bool:=
 if (jN m l).num.sign==0 then decide ((ku m l).num.sign>0) else !(fc l s m).emp
theorem q_ (q:Rat):(q=0/\q.num.sign=0)\/(0<q/\q.num.sign=1)\/(q<0/\q.num.sign=-1):=by
 have h1:=@Ah q
 have h2:=@Ai q
 have h3:=@Rat.num_eq_zero q
 rcases Int.lt_trichotomy q.num 0 with h|h|h
 ·exact .inr (.inr ⟨h1.1 h,Int.sign_eq_neg_one_of_neg h⟩)
 ·exact .inl ⟨h3.1 h,by rw [h];rfl⟩
 ·exact .inr (.inl ⟨h2.1 h,Int.sign_eq_one_of_pos h⟩)
theorem Fp {l:L3}{s:Sp}{m:L3}(he:s.emp=false)(hb:fa l s m=true):(fc l s m).emp=false:=by
 unfold fa at hb
 split at hb
 ·rename_i h
  unfold fc
  rw [if_pos h];exact he
 ·simpa using hb
theorem Fq {l:L3}{s:Sp}{m:L3}(hc:s.can):(fc l s m).can:=by
 unfold fc
 split
 ·exact hc
 ·split
  ·exact Sp.Ac hc ⟨(fun h=>nomatch h),fun _=>rfl⟩
  ·exact Sp.Ac hc ⟨fun _=>rfl,(fun h=>nomatch h)⟩
theorem val_rev (m:L3)(x y:Rat):au (gB m) x y=-au m x y:=by
 unfold au gB;simp only [Rat.intCast_neg];grind
def e_ (l m:L3):Rat:=((l.1:Rat)*(m.2.1:Rat))-((l.2.1:Rat)*(m.1:Rat))
def J5 (l m:L3):Rat:=(((l.2.1:Rat)*(m.2.2:Rat))-((l.2.2:Rat)*(m.2.1:Rat)))*(e_ l m)⁻¹
def J6 (l m:L3):Rat:=(((l.2.2:Rat)*(m.1:Rat))-((l.1:Rat)*(m.2.2:Rat)))*(e_ l m)⁻¹
theorem lh.ag {k:Nat}{l:L3}(h:lh k l)(hk:k<=1099511627776):(ag l.1.natAbs).length<=1099511627776/\(ag l.2.1.natAbs).length<=1099511627776/\(ag l.2.2.natAbs).length<=1099511627776:=by
 have d1:=af (show l.1.natAbs<2^k from h.1.1)
 have d2:=af (show l.2.1.natAbs<2^k from h.2.1.1)
 have d3:=af (show l.2.2.natAbs<2^k from h.2.2.1)
 exact ⟨by omega,by omega,by omega⟩
def Nh (V:View)(ad:Addr)(l:L3)(s:Sp):Prop:=∃xs:List Value,Kz V (.agg xs.toArray) l s/\∀i x,xs[i]?=some x->V.at (ad.add i) x
theorem Nh.le {V V':View}{ad:Addr}{l:L3}{s:Sp}(h:Nh V ad l s)(e:V.Le V'):Nh V' ad l s:=by
 obtain ⟨xs,h1,h2⟩:=h;exact ⟨xs,h1.le e,fun i x hx=>e.at (h2 i x hx)⟩
structure Ji (V:View) (p:OA) (n:Nat) (fs:List (L3×Sp)):Prop where
 len:n=fs.length
 at_:∀(i:Nat)(h:i<fs.length),∃ad,ah p (i*14)=some ad/\Nh V ad fs[i].1 fs[i].2
theorem Ji.le {V V':View}{p:OA}{n:Nat}{fs:List (L3×Sp)}(h:Ji V p n fs)(e:V.Le V'):Ji V' p n fs:=⟨h.len,fun i hi=>by obtain ⟨ad,h1,h2⟩:=h.at_ i hi;exact ⟨ad,h1,h2.le e⟩⟩
theorem kJ {p:OA}{j:Nat}{ad:Addr}(h:ah p j=some ad):p.isSome=true:=by
 cases p with
 | none=>cases h
 | some a=>rfl
def Np (V:View)(ad:Addr)(s:Sp):Prop:=∃xs:List Value,KQ V (.agg xs.toArray) s/\∀i x,xs[i]?=some x->V.at (ad.add i) x
theorem Np.le {V V':View}{ad:Addr}{s:Sp}(h:Np V ad s)(e:V.Le V'):Np V' ad s:=by
 obtain ⟨xs,h1,h2⟩:=h;exact ⟨xs,h1.le e,fun i x hx=>e.at (h2 i x hx)⟩
structure NX (V:View) (p:OA) (n:Nat) (ss:List Sp):Prop where
 len:n=ss.length
 at_:∀(i:Nat)(h:i<ss.length),∃ad,ah p (i*8)=some ad/\Np V ad ss[i]
theorem NX.le {V V':View}{p:OA}{n:Nat}{ss:List Sp}(h:NX V p n ss)(e:V.Le V'):NX V' p n ss:=⟨h.len,fun i hi=>by obtain ⟨ad,h1,h2⟩:=h.at_ i hi;exact ⟨ad,h1,h2.le e⟩⟩
def Sp.la (s:Sp)(t:Rat):Int:=if s.a then 1 else fy t s.lo
def Sp.lb (s:Sp)(t:Rat):Int:=if s.b then -1 else fy t s.hi
theorem G8 {px py qx qy:Rat}:((kV px py qx qy).1.num / (fS (kV px py qx qy).1.num (kV px py qx qy).2.1.num (kV px py qx qy).2.2.num:Int),(kV px py qx qy).2.1.num / (fS (kV px py qx qy).1.num (kV px py qx qy).2.1.num (kV px py qx qy).2.2.num:Int),(kV px py qx qy).2.2.num / (fS (kV px py qx qy).1.num (kV px py qx qy).2.1.num (kV px py qx qy).2.2.num:Int))=Cv px py qx qy:=by
 unfold kV Cv Mf xL
 have e:∀x:Rat,(-x).den=x.den:=fun x=>rfl
 rw [e (-(qy-py)*px+(qx-px)*py)]
 rfl
theorem G9 {px py qx qy:Rat}:((kV px py qx qy).1.num=0/\(kV px py qx qy).2.1.num=0)↔(px=qx/\py=qy):=by
 unfold kV
 dsimp only
 generalize hf:(-(qy-py)).den*(qx-px).den*(-(-(qy-py)*px+(qx-px)*py)).den=f
 have hf0:f≠0:=by rw [←hf];exact Nat.mul_ne_zero (Nat.mul_ne_zero (Rat.den_nz _) (Rat.den_nz _)) (Rat.den_nz _)
 have hf1:((f:Int):Rat)≠0:=by exact_mod_cast hf0
 rw [Rat.num_eq_zero,Rat.num_eq_zero,Rat.mul_eq_zero,Rat.mul_eq_zero,or_iff_left hf1,or_iff_left hf1]
 exact Iz.symm
theorem EA {V:View}{u w:Value}{px py qx qy:Rat}(hp:RP V u px py)(hq:RP V w qx qy){k:Nat}(s1:Sz k px)(s2:Sz k py)(s3:Sz k qx)(s4:Sz k qy)(hk1:1<=k)(hk:64*k+64<274877906944) :
  ab prog 11 #[u,w] V fun r V'=>(px=qx/\py=qy->∃l,r=.tuple #[l,.bool false]/\RL V' l 0 0 0)/\(¬(px=qx/\py=qy)->∃l,r=.tuple #[l,.bool true]/\RL V' l (Cv px py qx qy).1 (Cv px py qx qy).2.1 (Cv px py qx qy).2.2):=by
 refine (ke hp hq s1 s2 s3 s4 hk1 hk).mono ?_
 rintro r V2 l2 ⟨m1,m2⟩
 have e:=G8 (px:=px) (py:=py) (qx:=qx) (qy:=qy)
 rw [G9] at m1 m2
 refine ⟨m1,fun h=>?_⟩
 obtain ⟨l,hl,g⟩:=m2 h
 rw [←e]
 exact ⟨l,hl,g⟩
theorem RV.ex {V:View}{v:Value}{l:L3}{s:Sp}(h:Jj V v l s):∃(x1 x2:Int)(p:OA)(y1 y2:Int)(q:OA)(z1 z2:Int)(r:OA)(u1 u2:Int)(t:OA)(w1 w2:Int)(o:OA),
 v=.agg #[.int .i64 x1,.int .i64 x2,.pointer p,.int .i64 y1,.int .i64 y2,.pointer q,.int .i64 z1,.int .i64 z2,.pointer r,.int .i64 u1,.int .i64 u2,.pointer t,.int .i64 w1,.int .i64 w2,.pointer o,.bool s.a,.bool s.b]:=by
 obtain ⟨_,_,_,_,_,_,_,_,_,_,_,_,_,_,_,e,-⟩:=h;exact ⟨_,_,_,_,_,_,_,_,_,_,_,_,_,_,_,e⟩
theorem BB {V:View}{v w:Value}{x y:Rat}(hx:RR V v x)(hy:RR V w y){k:Nat}(sx:Sz k x)(sy:Sz k y)(hk:2*k<1099511627776) :
  ab prog 222 #[v,w] V fun r V'=>RR V' r (B5 x y):=by
 have hx0:=hx
 have hy0:=hy
 obtain ⟨a,b,c,rfl⟩:=hx.shape
 obtain ⟨d,e,f,rfl⟩:=hy.shape
 refine AR a b c d e f V _ fun V1 l1=>(jy (hy0.le l1) (hx0.le l1) sy sx (by omega)).mono ?_
 rintro r V2 l2 rfl
 unfold B5
 exact ⟨_,rfl,fun h V3 l3=>by rw [if_pos (of_decide_eq_true h)];exact hy0.le (l1.trans (l2.trans l3)),fun h V4 l4=>by rw [if_neg (of_decide_eq_false h)];exact hx0.le (l1.trans (l2.trans l4))⟩
theorem BC {V:View}{v w:Value}{x y:Rat}(hx:RR V v x)(hy:RR V w y){k:Nat}(sx:Sz k x)(sy:Sz k y)(hk:2*k<1099511627776) :
  ab prog 145 #[v,w] V fun r V'=>RR V' r (B8 x y):=by
 have hx0:=hx
 have hy0:=hy
 obtain ⟨a,b,c,rfl⟩:=hx.shape
 obtain ⟨d,e,f,rfl⟩:=hy.shape
 refine AU a b c d e f V _ fun V1 l1=>(jy (hy0.le l1) (hx0.le l1) sy sx (by omega)).mono ?_
 rintro r V2 l2 rfl
 unfold B8
 exact ⟨_,rfl,fun h V3 l3=>by rw [if_pos (of_decide_eq_true h)];exact hy0.le (l1.trans (l2.trans l3)),fun h V4 l4=>by rw [if_neg (of_decide_eq_false h)];exact hx0.le (l1.trans (l2.trans l4))⟩
theorem Sp.xM {v w:Sp}{k:Nat}(h1:v.sz k)(h2:w.sz k):(v.meet w).sz k:=by
 unfold Sp.meet Sp.sz B5 B8
 constructor<;>dsimp only
 ·split
  ·exact h2.1
  ·split
   ·exact h1.1
   ·split
    ·exact h2.1
    ·exact h1.1
 ·split
  ·exact h2.2
  ·split
   ·exact h1.2
   ·split
    ·exact h2.2
    ·exact h1.2
theorem vQ {V:View}{v w:Value}{s t:Sp}(h:CX V v s)(h':CX V w t){k:Nat}(hs:s.sz k)(ht:t.sz k)(hk:2*k<1099511627776) :
  ab prog 195 #[v,w] V fun r V'=>∃u,r=.tuple #[u,.bool (!(s.meet t).emp)]/\CX V' u (s.meet t):=by
 obtain ⟨x1,x2,p,y1,y2,q,rfl,h1,h2⟩:=h
 obtain ⟨u1,u2,o,w1,w2,j,rfl,g1,g2⟩:=h'
 have Pj:s.a=true->(s.meet t).lo=t.lo/\(s.meet t).a=t.a:=fun e=>by simp [Sp.meet,e]
 have lo2:s.a=false->t.a=false->(s.meet t).lo=B5 s.lo t.lo:=fun e e'=>by simp [Sp.meet,e,e']
 have lo3:s.a=false->t.a=true->(s.meet t).lo=s.lo:=fun e e'=>by simp [Sp.meet,e,e']
 have Rr:s.a=false->(s.meet t).a=s.a:=fun e=>by simp [Sp.meet,e]
 have hi1:s.b=true->(s.meet t).hi=t.hi/\(s.meet t).b=t.b:=fun e=>by simp [Sp.meet,e]
 have hi2:s.b=false->t.b=false->(s.meet t).hi=B8 s.hi t.hi:=fun e e'=>by simp [Sp.meet,e,e']
 have hi3:s.b=false->t.b=true->(s.meet t).hi=s.hi:=fun e e'=>by simp [Sp.meet,e,e']
 have hi4:s.b=false->(s.meet t).b=s.b:=fun e=>by simp [Sp.meet,e]
 refine tL x1 x2 p y1 y2 q s.a s.b u1 u2 o w1 w2 j t.a t.b V _ ⟨fun z V1=>RR V1 (.agg #[.int .i64 z.1,.int .i64 z.2.1,.pointer z.2.2.1]) (s.meet t).lo/\RR V1 (.agg #[.int .i64 z.2.2.2.1,.int .i64 z.2.2.2.2.1,.pointer z.2.2.2.2.2.1]) s.hi/\z.2.2.2.2.2.2.1=(s.meet t).a/\z.2.2.2.2.2.2.2=s.b,⟨fun ha=>?_,fun ha=>⟨fun hb V1 l1=>(BB (h1.le l1) (g1.le l1) hs.1 ht.1 hk).mono ?_,fun hb=>?_⟩⟩,?_⟩
 ·refine ⟨(u1,u2,o,y1,y2,q,t.a,s.b),by and_intros<;>rfl,?_,h2,(Pj ha).2.symm,rfl⟩
  rw [(Pj ha).1];exact g1
 ·rintro r V2 l2 g
  rw [Bool.not_eq_true'] at hb
  have g0:=g
  obtain ⟨a1,a2,a3,rfl⟩:=g.shape
  refine ⟨_,_,_,rfl,(a1,a2,a3,y1,y2,q,s.a,s.b),by and_intros<;>rfl,?_,h2.le (l1.trans l2),(Rr ha).symm,rfl⟩
  rw [lo2 ha hb];exact g0
 ·rw [Bool.not_eq_false'] at hb
  refine ⟨(x1,x2,p,y1,y2,q,s.a,s.b),by and_intros<;>rfl,?_,h2,(Rr ha).symm,rfl⟩
  rw [lo3 ha hb];exact h1
 ·rintro ⟨z1,z2,z3,z4,z5,z6,z7,z8⟩ V3 l3 ⟨k1,k2,k3,k4⟩
  dsimp only at k1 k2 k3 k4
  subst k3 k4
  refine ⟨rfl,fun z V1=>RR V1 (.agg #[.int .i64 z.1,.int .i64 z.2.1,.pointer z.2.2.1]) (s.meet t).lo/\RR V1 (.agg #[.int .i64 z.2.2.2.1,.int .i64 z.2.2.2.2.1,.pointer z.2.2.2.2.2.1]) (s.meet t).hi/\z.2.2.2.2.2.2.1=(s.meet t).a/\z.2.2.2.2.2.2.2=(s.meet t).b,⟨fun ha=>?_,fun ha=>⟨fun hb V4 l4=>(BC (h2.le (l3.trans l4)) (g2.le (l3.trans l4)) hs.2 ht.2 hk).mono ?_,fun hb=>?_⟩⟩,?_⟩
  ·refine ⟨(z1,z2,z3,w1,w2,j,(s.meet t).a,t.b),by and_intros<;>rfl,k1,?_,rfl,(hi1 ha).2.symm⟩
   rw [(hi1 ha).1];exact g2.le l3
  ·rintro r V5 l5 g
   rw [Bool.not_eq_true'] at hb
   have g0:=g
   obtain ⟨a1,a2,a3,rfl⟩:=g.shape
   refine ⟨_,_,_,rfl,(z1,z2,z3,a1,a2,a3,(s.meet t).a,s.b),by and_intros<;>rfl,k1.le (l4.trans l5),?_,rfl,(hi4 ha).symm⟩
   rw [hi2 ha hb];exact g0
  ·rw [Bool.not_eq_false'] at hb
   refine ⟨(z1,z2,z3,z4,z5,z6,(s.meet t).a,s.b),by and_intros<;>rfl,k1,?_,rfl,(hi4 ha).symm⟩
   rw [hi3 ha hb];exact k2
  ·rintro ⟨y1,y2,y3,y4,y5,y6,y7,y8⟩ V6 l6 ⟨j1,j2,j3,j4⟩
   dsimp only at j1 j2 j3 j4
   subst j3 j4
   refine ⟨rfl,fun V7 l7=>(BA ⟨_,_,_,_,_,_,rfl,j1.le l7,j2.le l7⟩ (Sp.xM hs ht) hk).mono ?_⟩
   rintro r V8 l8 rfl
   exact ⟨_,rfl,fun V9 l9=>⟨_,rfl,_,_,_,_,_,_,rfl,j1.le (l7.trans (l8.trans l9)),j2.le (l7.trans (l8.trans l9))⟩⟩
theorem lG {L M:L3}{k:Nat}(sl:lh k L)(sm:lh k M):Sz (4*k+3) (jN M L):=cO sm.1 sm.2.1 sl.2.1 sl.1.neg
theorem Fa {L M:L3}:(((M.1:Rat)*((L.1:Rat)*(((-(L.2.2:Rat))*(((L.1:Rat)*(L.1:Rat))+((L.2.1:Rat)*(L.2.1:Rat)))⁻¹))))+((M.2.1:Rat)*((L.2.1:Rat)*(((-(L.2.2:Rat))*(((L.1:Rat)*(L.1:Rat))+((L.2.1:Rat)*(L.2.1:Rat)))⁻¹)))))+(M.2.2:Rat)=ku M L:=by
 unfold ku au ka kb iE;grind
theorem lF {L M:L3}{k:Nat}(sl:lh k L)(sm:lh k M):Sz (50*k+49) (ku M L):=by
 rw [←Fa]
 exact Sz.mono (jv (k:=10*k+9) (sm.1.mono (by omega)) (sm.2.1.mono (by omega)) (sm.2.2.mono (by omega)) (dg sl.1 sl.2.1 sl.2.2) (dh sl.1 sl.2.1 sl.2.2)) (by omega)
theorem yf {L M:L3}{k:Nat}(sl:lh k L)(sm:lh k M):Sz (60*k+60) (fV M L):=Sz.mono ((lF sl sm).mul (fZ (lG sl sm))).neg (by omega)
theorem Ku (k:Nat)(hk:0<k):Sz k (0:Rat):=⟨by show (0:Int).natAbs<_;exact Nat.lt_of_lt_of_le (by decide) (Nat.one_le_two_pow),Nat.one_lt_two_pow (by omega)⟩
theorem zg {V:View}{l v m:Value}{L:L3}{s:Sp}{M:L3}(hl:rf V l L)(hv:CX V v s)(hm:rf V m M){k:Nat}(sl:lh k L)(hs:s.sz k)(sm:lh k M)(hk:200*k+200<274877906944) :
  ab prog 160 #[l,v,m] V fun r V'=>∃w,r=.tuple #[w,.bool (fa L s M)]/\CX V' w (fc L s M):=by
 have hl0:=hl
 have hv0:=hv
 have hm0:=hm
 obtain ⟨_,_,_,_,_,_,_,_,_,rfl,-,-,-⟩:=hl
 obtain ⟨_,_,_,_,_,_,rfl,-,-⟩:=hv
 obtain ⟨_,_,_,_,_,_,_,_,_,rfl,-,-,-⟩:=hm
 have hs':s.sz (60*k+60):=⟨hs.1.mono (by omega),hs.2.mono (by omega)⟩
 have z:=Ku (60*k+60) (by omega)
 refine uZ _ _ _ _ _ _ _ _ _ _ _ _ _ _ _ _ _ _ _ _ _ _ _ _ _ _ V _ fun V1 l1=>(cZ (hm0.le l1) sm.1 sm.2.1 sm.2.2 (by omega)).mono ?_
 rintro r V2 l2 g1
 have g10:=g1
 obtain ⟨_,_,_,_,_,_,rfl,-,-⟩:=g1
 refine ⟨_,_,_,_,_,_,rfl,fun V3 l3=>(jB (hl0.le (l1.trans (l2.trans l3))) sl.1 sl.2.1 sl.2.2 (by omega)).mono ?_⟩
 rintro r V4 l4 g2
 have g20:=g2
 obtain ⟨_,_,_,_,_,_,rfl,-,-⟩:=g2
 refine ⟨_,_,_,_,_,_,rfl,fun V5 l5=>(jC (g10.le (l3.trans (l4.trans l5))) (g20.le l5) sm.1 sm.2.1 sl.2.1 sl.1.neg (by omega)).mono ?_⟩
 rintro r V6 l6 g3
 have mq:RR V6 r (jN M L):=g3
 obtain ⟨_,_,_,rfl⟩:=g3.shape
 have L6:V.Le V6:=l1.trans (l2.trans (l3.trans (l4.trans (l5.trans l6))))
 refine ⟨_,_,_,rfl,fun V7 l7=>(lS (hl0.le (L6.trans l7)) sl.1 sl.2.1 sl.2.2 (by omega)).mono ?_⟩
 rintro r V8 l8 g4
 have Fy:=g4
 obtain ⟨_,_,_,_,_,_,rfl,-,-⟩:=g4
 refine ⟨_,_,_,_,_,_,rfl,fun V9 l9=>(kz (k:=10*k+9) (hm0.le (L6.trans (l7.trans (l8.trans l9)))) (Fy.le l9) (sm.1.mono (by omega)) (sm.2.1.mono (by omega)) (sm.2.2.mono (by omega)) (dg sl.1 sl.2.1 sl.2.2) (dh sl.1 sl.2.1 sl.2.2) (by omega)).mono ?_⟩
 rintro r kn l10 g5
 rw [Fa] at g5
 have IQ:=g5
 obtain ⟨_,_,_,rfl⟩:=g5.shape
 have vB:V6.Le kn:=l7.trans (l8.trans (l9.trans l10))
 refine ⟨_,_,_,rfl,fun ko bR=>(dY (mq.le (vB.trans bR)) (lG sl sm) (by omega)).mono ?_⟩
 rintro r oo cU rfl
 have E0:kn.Le oo:=bR.trans cU
 refine ⟨_,rfl,fun hz rk dq=>(dY (IQ.le (E0.trans dq)) (lF sl sm) (by omega)).mono ?_,fun hz=>⟨fun h1 lk dO=>(ng (IQ.le (E0.trans dO)) (mq.le (vB.trans (E0.trans dO))) (lF sl sm) (lG sl sm) (by omega)).mono ?_,fun h1 Br jR=>(ng (IQ.le (E0.trans jR)) (mq.le (vB.trans (E0.trans jR))) (lF sl sm) (lG sl sm) (by omega)).mono ?_⟩⟩
 ·rintro r ow fh rfl
  have eB:fa L s M=decide ((ku M L).num.sign>0):=by unfold fa;rw [if_pos hz]
  have eS:fc L s M=s:=by unfold fc;rw [if_pos hz]
  rw [eB,eS]
  exact ⟨_,rfl,fun mU eC=>⟨_,rfl,hv0.le (L6.trans (vB.trans (E0.trans (dq.trans (fh.trans eC)))))⟩⟩
 ·have eS:fc L s M=s.meet ⟨fV M L,0,false,true⟩:=by unfold fc;rw [if_neg (by rw [hz];exact Bool.false_ne_true),if_pos h1]
  have eB:fa L s M=!(s.meet ⟨fV M L,0,false,true⟩).emp:=by rw [←eS];unfold fa;rw [if_neg (by rw [hz];exact Bool.false_ne_true)]
  rw [eB,eS]
  rintro r oz dR g6
  have Lo:=g6
  obtain ⟨_,_,_,rfl⟩:=g6.shape
  refine ⟨_,_,_,rfl,fun qQ eu=>(nf (Lo.le eu) ((lF sl sm).mul (fZ (lG sl sm))) (by omega)).mono ?_⟩
  rintro r vD eT g7
  have HG:RR vD r (fV M L):=g7
  obtain ⟨_,_,_,rfl⟩:=g7.shape
  refine ⟨_,_,_,rfl,fun Bl jh=>(vQ (t:=⟨fV M L,0,false,true⟩) (hv0.le (L6.trans (vB.trans (E0.trans (dO.trans (dR.trans (eu.trans (eT.trans jh)))))))) ⟨_,_,_,_,_,_,rfl,HG.le jh,RR.zero _⟩ hs' ⟨yf sl sm,z⟩ (by omega)).mono ?_⟩
  rintro r yM gJ ⟨w,rfl,g8⟩
  have Ot:=g8
  obtain ⟨_,_,_,_,_,_,rfl,-,-⟩:=g8
  exact ⟨_,_,_,_,_,_,_,_,_,rfl,fun vE kq=>⟨_,rfl,Ot.le kq⟩⟩
 ·have eS:fc L s M=s.meet ⟨0,fV M L,true,false⟩:=by unfold fc;rw [if_neg (by rw [hz];exact Bool.false_ne_true),if_neg (by rw [h1];exact Bool.false_ne_true)]
  have eB:fa L s M=!(s.meet ⟨0,fV M L,true,false⟩).emp:=by rw [←eS];unfold fa;rw [if_neg (by rw [hz];exact Bool.false_ne_true)]
  rw [eB,eS]
  rintro r oz dR g6
  have Lo:=g6
  obtain ⟨_,_,_,rfl⟩:=g6.shape
  refine ⟨_,_,_,rfl,fun qQ eu=>(nf (Lo.le eu) ((lF sl sm).mul (fZ (lG sl sm))) (by omega)).mono ?_⟩
  rintro r vD eT g7
  have HG:RR vD r (fV M L):=g7
  obtain ⟨_,_,_,rfl⟩:=g7.shape
  refine ⟨_,_,_,rfl,fun Bl jh=>(vQ (t:=⟨0,fV M L,true,false⟩) (hv0.le (L6.trans (vB.trans (E0.trans (jR.trans (dR.trans (eu.trans (eT.trans jh)))))))) ⟨_,_,_,_,_,_,rfl,RR.zero _,HG.le jh⟩ hs' ⟨z,yf sl sm⟩ (by omega)).mono ?_⟩
  rintro r yM gJ ⟨w,rfl,g8⟩
  have Ot:=g8
  obtain ⟨_,_,_,_,_,_,rfl,-,-⟩:=g8
  exact ⟨_,_,_,_,_,_,_,_,_,rfl,fun vE kq=>⟨_,rfl,Ot.le kq⟩⟩
structure Bp (V:View) (p:OA) (n:Nat) (fs:List (L3×Sp)):Prop where
 len:n=fs.length
 at_:∀(i:Nat)(h:i<fs.length),∃ad,ah p (i*17)=some ad/\∃xs:List Value,Jj V (.agg xs.toArray) fs[i].1 fs[i].2/\∀j x,xs[j]?=some x->V.at (ad.add j) x
theorem Bp.le {V V':View}{p:OA}{n:Nat}{fs:List (L3×Sp)}(h:Bp V p n fs)(e:V.Le V'):Bp V' p n fs:=⟨h.len,fun i hi=>by obtain ⟨ad,h1,xs,h2,h3⟩:=h.at_ i hi;exact ⟨ad,h1,xs,h2.le e,fun j x hx=>e.at (h3 j x hx)⟩⟩
theorem Bp.nil {V:View}:Bp V none 0 []:=⟨rfl,fun i hi=>by simp at hi⟩
theorem Bp.one {V:View}{bk:Nat}{xs:List Value}{ty:TypeId}{l:L3}{s:Sp}(hb:V.bq bk (.cells xs.toArray ty (0,0)))(hf:Jj V (.agg xs.toArray) l s):Bp V (some ⟨bk,0,none⟩) 1 [(l,s)]:=by
 refine ⟨rfl,fun i hi=>?_⟩
 obtain rfl:i=0:=by simpa using hi
 refine ⟨⟨bk,0,none⟩,by simp [ah,add_zero'],_,hf,fun j x hx=>?_⟩
 rw [add_zero']
 exact fu hb hx
theorem Hz {L M:L3}:((L.1:Rat)=(M.1:Rat)/\(L.2.1:Rat)=(M.2.1:Rat)/\(L.2.2:Rat)=(M.2.2:Rat))↔L=M:=by
 constructor
 ·rintro ⟨h1,h2,h3⟩
  exact Prod.ext (Rat.intCast_inj.1 h1) (Prod.ext (Rat.intCast_inj.1 h2) (Rat.intCast_inj.1 h3))
 ·rintro rfl
  exact ⟨rfl,rfl,rfl⟩
theorem HU {V:View}{v w:Value}{L M:L3}(hl:rf V v L)(hm:rf V w M){k:Nat}(sl:lh k L)(sm:lh k M)(hk:k+k<1099511627776) :
  ab prog 134 #[v,w] V fun r V'=>r=.bool (decide (L=M)):=by
 refine (zk hl hm sl.1 sl.2.1 sl.2.2 sm.1 sm.2.1 sm.2.2 hk).mono ?_
 rintro r V' l rfl
 rw [decide_eq_decide.2 Hz]
def NW (u:Value):Prop:=∃(x1 x2:Int)(p:OA)(y1 y2:Int)(q:OA),u=.agg #[.int .i64 x1,.int .i64 x2,.pointer p,.int .i64 y1,.int .i64 y2,.pointer q]
theorem nU {L M:L3}{k:Nat}(sl:lh k L)(sm:lh k M):Sz (4*k+3) (e_ L M):=jw sl.1 sl.2.1 sm.1 sm.2.1
theorem MQ {L M:L3}{k:Nat}(sl:lh k L)(sm:lh k M):Sz (10*k+10) (J5 L M)/\Sz (10*k+10) (J6 L M):=
 ⟨Sz.mono (((sl.2.1.mul sm.2.2).sub (sl.2.2.mul sm.2.1)).mul (fZ (nU sl sm))) (by omega),Sz.mono (((sl.2.2.mul sm.1).sub (sl.1.mul sm.2.2)).mul (fZ (nU sl sm))) (by omega)⟩
theorem DU {V:View}{l m:Value}{L M:L3}(hl:rf V l L)(hm:rf V m M){k:Nat}(sl:lh k L)(sm:lh k M)(hk:20*k+20<274877906944) :
  ab prog 138 #[l,m] V fun r V'=>∃w,r=.tuple #[w,.bool (decide (e_ L M≠0))]/\NW w/\(e_ L M≠0->mT V' w (J5 L M) (J6 L M)):=by
 have hl0:=hl
 have hm0:=hm
 obtain ⟨_,_,_,_,_,_,_,_,_,rfl,a1,a2,a3⟩:=hl
 obtain ⟨_,_,_,_,_,_,_,_,_,rfl,b1,b2,b3⟩:=hm
 have sd:=nU sl sm
 refine tO _ _ _ _ _ _ _ _ _ _ _ _ _ _ _ _ _ _ V _ fun V1 l1=>(cZ (hl0.le l1) sl.1 sl.2.1 sl.2.2 (by omega)).mono ?_
 rintro r V2 l2 g1
 have g10:=g1
 obtain ⟨_,_,_,_,_,_,rfl,-,-⟩:=g1
 refine ⟨_,_,_,_,_,_,rfl,fun V3 l3=>(cZ (hm0.le (l1.trans (l2.trans l3))) sm.1 sm.2.1 sm.2.2 (by omega)).mono ?_⟩
 rintro r V4 l4 g2
 have g20:=g2
 obtain ⟨_,_,_,_,_,_,rfl,-,-⟩:=g2
 refine ⟨_,_,_,_,_,_,rfl,fun V5 l5=>(eY (g10.le (l3.trans (l4.trans l5))) (g20.le l5) sl.1 sl.2.1 sm.1 sm.2.1 (by omega)).mono ?_⟩
 rintro r V6 l6 g3
 have mq:RR V6 r (e_ L M):=g3
 obtain ⟨_,_,_,rfl⟩:=g3.shape
 have L6:V.Le V6:=l1.trans (l2.trans (l3.trans (l4.trans (l5.trans l6))))
 refine ⟨_,_,_,rfl,fun V7 l7=>(rI (mq.le l7)).mono ?_⟩
 rintro r V8 l8 rfl
 have L8:=l7.trans l8
 refine ⟨_,rfl,fun h V9 l9=>?_,fun h kn l10=>(eh (a2.le (L6.trans (L8.trans l10))) (b3.le (L6.trans (L8.trans l10))) sl.2.1 sm.2.2 (by omega)).mono ?_⟩
 ·have h:=of_decide_eq_true h
  have e:decide (e_ L M≠0)=false:=by simp [h]
  rw [e]
  exact ⟨_,rfl,⟨_,_,_,_,_,_,rfl⟩,fun h'=>absurd h h'⟩
 ·have h:=of_decide_eq_false h
  have e:decide (e_ L M≠0)=true:=by simp [h]
  rw [e]
  have NV:=L6.trans (L8.trans l10)
  rintro r ko bR q1
  have Kf:=q1
  obtain ⟨_,_,_,rfl⟩:=q1.shape
  refine ⟨_,_,_,rfl,fun oo cU=>(eh (a3.le (NV.trans (bR.trans cU))) (b2.le (NV.trans (bR.trans cU))) sl.2.2 sm.2.1 (by omega)).mono ?_⟩
  rintro r rk dq q2
  have T8:=q2
  obtain ⟨_,_,_,rfl⟩:=q2.shape
  refine ⟨_,_,_,rfl,fun ow fh=>(nh (Kf.le (cU.trans (dq.trans fh))) (T8.le fh) (sl.2.1.mul sm.2.2) (sl.2.2.mul sm.2.1) (by omega)).mono ?_⟩
  rintro r mU eC q3
  have T9:=q3
  obtain ⟨_,_,_,rfl⟩:=q3.shape
  have Jg:kn.Le mU:=bR.trans (cU.trans (dq.trans (fh.trans eC)))
  refine ⟨_,_,_,rfl,fun lk dO=>(ng (T9.le dO) (mq.le (L8.trans (l10.trans (Jg.trans dO)))) ((sl.2.1.mul sm.2.2).sub (sl.2.2.mul sm.2.1)) sd (by omega)).mono ?_⟩
  rintro r oz dR q4
  have T_:RR oz r (J5 L M):=q4
  obtain ⟨_,_,_,rfl⟩:=q4.shape
  have Ni:V.Le oz:=NV.trans (Jg.trans (dO.trans dR))
  refine ⟨_,_,_,rfl,fun qQ eu=>(eh (a3.le (Ni.trans eu)) (b1.le (Ni.trans eu)) sl.2.2 sm.1 (by omega)).mono ?_⟩
  rintro r vD eT p1
  have Ia:=p1
  obtain ⟨_,_,_,rfl⟩:=p1.shape
  refine ⟨_,_,_,rfl,fun Bl jh=>(eh (a1.le (Ni.trans (eu.trans (eT.trans jh)))) (b3.le (Ni.trans (eu.trans (eT.trans jh)))) sl.1 sm.2.2 (by omega)).mono ?_⟩
  rintro r yM gJ p2
  have T4:=p2
  obtain ⟨_,_,_,rfl⟩:=p2.shape
  refine ⟨_,_,_,rfl,fun vE kq=>(nh (Ia.le (jh.trans (gJ.trans kq))) (T4.le kq) (sl.2.2.mul sm.1) (sl.1.mul sm.2.2) (by omega)).mono ?_⟩
  rintro r Br jR p3
  have p30:=p3
  obtain ⟨_,_,_,rfl⟩:=p3.shape
  have Qk:oz.Le Br:=eu.trans (eT.trans (jh.trans (gJ.trans (kq.trans jR))))
  refine ⟨_,_,_,rfl,fun II B3=>(ng (p30.le B3) (mq.le (L8.trans (l10.trans (Jg.trans (dO.trans (dR.trans (Qk.trans B3))))))) ((sl.2.2.mul sm.1).sub (sl.1.mul sm.2.2)) sd (by omega)).mono ?_⟩
  rintro r Ho uh p4
  have p40:RR Ho r (J6 L M):=p4
  obtain ⟨_,_,_,rfl⟩:=p4.shape
  exact ⟨_,_,_,rfl,fun Jk zZ=>⟨_,rfl,⟨_,_,_,_,_,_,rfl⟩,fun _=>⟨_,_,_,_,_,_,rfl,T_.le (Qk.trans (B3.trans (uh.trans zZ))),p40.le zZ⟩⟩⟩
theorem wb {V:View}{p:OA}{n c:Nat}{ds:List Nat}(h:RD V p n c ds)(hm:ds.length<=1099511627776) :
  ab prog 105 #[.slice p n c] V fun r V'=>∃p1 n1 c1,r=.slice p1 n1 c1/\RN V' p1 n1 c1 (val ds):=by
 have hl:=h.len
 refine CT p n c V _ ⟨aB ds,h.sl,by simp [hl],by omega,by omega,by simp,by simp [hl],?_,?_⟩
 ·intro v hv
  simp only [aB,List.mem_map] at hv
  obtain ⟨d,-,rfl⟩:=hv
  rfl
 ·intro bk J sp c' h1 h2 V1 l1 b hb
  simp only [Nat.zero_add,Nat.zero_mul,List.take_zero,List.nil_append] at hb h1 ⊢
  refine (cH (copied h.dV hl h1 hb) (by omega)).mono ?_
  rintro r V2 l2 ⟨k,rfl,g⟩
  rw [aM h.dV] at g
  exact ⟨_,_,_,rfl,fun J' V3 l3=>⟨_,_,_,rfl,g.le l3⟩⟩
theorem D1 {V:View}(b:Bool){p:OA}{n c:Nat}{ds:List Nat}(h:RD V p n c ds)(hm:ds.length<=1099511627776) :
  ab prog 107 #[.agg #[.bool b,.slice p n c]] V fun r V'=>RI V' r (aS b ds):=by
 refine CS b p n c V _ fun V1 l1=>(wb (h.le l1) hm).mono ?_
 rintro r V2 l2 ⟨p1,n1,c1,rfl,g⟩
 refine ⟨_,_,_,rfl,fun V3 l3=>(eA b (g.le l3)).mono ?_⟩
 rintro r V4 l4 ⟨p2,n2,c2,rfl,g2⟩
 exact ⟨_,_,_,_,rfl,fun V5 l5=>⟨_,_,_,rfl,g2.le l5⟩⟩
theorem FO {b:Bool}{ds:List Nat}(h:bH ds):(ag (aS b ds).natAbs).length<=ds.length:=by
 rw [dC];exact aX h
theorem D2 {V:View}{v:Value}{b:Bool}{xs ys:List Nat}(h:Hh V v b xs ys)(m1:xs.length<=274877906944)(m2:ys.length<=274877906944) :
  ab prog 43 #[v] V fun r V'=>RQ V' r (EC b xs ys):=by
 obtain ⟨p,n,c,q,m,e,rfl,hx,hy⟩:=h
 have d1:=FO (b:=b) hx.dV
 have d2:=aX hy.dV
 refine CU b p n c q m e V _ fun V1 l1=>(wb (hy.le l1) (by omega)).mono ?_
 rintro r V2 l2 ⟨p1,n1,c1,rfl,g⟩
 have gl:=g.len
 refine ⟨_,_,_,rfl,fun h0 V3 l3=>?_,fun h0 V4 l4=>(D1 b (hx.le (l1.trans (l2.trans l4))) (by omega)).mono ?_⟩
 ·have h0:((n1:Nat):Int)=0:=by simpa using h0
  have:ag (val ys)=[]:=List.length_eq_zero_iff.1 (by omega)
  have:val ys=0:=bh.1 this
  unfold EC
  rw [this,Rat.mkRat_zero]
  have:=RQ.zero (V:=V3)
  simpa using this
 ·have hd:val ys≠0:=fun e=>by
   rw [e] at gl
   have h0:¬((n1:Nat):Int)=0:=by simpa using h0
   exact h0 (by rw [gl];rfl)
  rintro r V5 l5 ⟨p2,n2,c2,rfl,g2⟩
  refine ⟨_,_,_,_,rfl,fun V6 l6=>(jG _ (g2.le l6) (g.le (l4.trans (l5.trans l6))) (by omega) (by omega) hd).mono ?_⟩
  rintro r V7 l7 k
  have k0:=k
  obtain ⟨_,_,_,_,_,_,rfl⟩:=k.shape
  exact ⟨_,_,_,_,_,_,_,rfl,fun V8 l8=>k0.le l8⟩
def Nk (V:View)(v:Value)(b1:Bool)(xs:List Nat)(b2:Bool)(ys:List Nat)(b3:Bool)(zs:List Nat):Prop:=∃p n c q m e s i j,v=.agg #[.bool b1,.slice p n c,.bool b2,.slice q m e,.bool b3,.slice s i j]/\RD V p n c xs/\RD V q m e ys/\RD V s i j zs
theorem Nk.le {V V':View}{v:Value}{b1:Bool}{xs:List Nat}{b2:Bool}{ys:List Nat}{b3:Bool}{zs:List Nat}(h:Nk V v b1 xs b2 ys b3 zs)(l:V.Le V'):Nk V' v b1 xs b2 ys b3 zs:=by
 obtain ⟨p,n,c,q,m,e,s,i,j,rfl,h1,h2,h3⟩:=h
 exact ⟨_,_,_,_,_,_,_,_,_,rfl,h1.le l,h2.le l,h3.le l⟩
def Rq (b1:Bool)(xs:List Nat)(b2:Bool)(ys:List Nat)(b3:Bool)(zs:List Nat):L3:=(aS b1 xs,aS b2 ys,aS b3 zs)
structure FW where
 b1:Bool
 xs:List Nat
 b2:Bool
 ys:List Nat
 b3:Bool
 zs:List Nat
 c1:Bool
 us:List Nat
 vs:List Nat
 c2:Bool
 ws:List Nat
 ts:List Nat
 na:Bool
 nb:Bool
def FW.ln (f:FW):L3:=Rq f.b1 f.xs f.b2 f.ys f.b3 f.zs
def FW.sp (f:FW):Sp:=MP f.c1 f.us f.vs f.c2 f.ws f.ts f.na f.nb
def FW.ok (f:FW):Bool:=sX f.b1 f.xs f.b2 f.ys f.b3 f.zs&&okW f.c1 f.us f.vs f.c2 f.ws f.ts f.na f.nb
structure FW.short (f:FW):Prop where
 x:f.xs.length<=1000000
 y:f.ys.length<=1000000
 z:f.zs.length<=1000000
 u:f.us.length<=1000000
 v:f.vs.length<=1000000
 w:f.ws.length<=1000000
 t:f.ts.length<=1000000
def Nj (V:View)(v:Value)(f:FW):Prop:=∃p1 n1 d1 p2 n2 d2 p3 n3 d3 p n c p' n' c' q m e q' m' e',
 v=.agg #[.bool f.b1,.slice p1 n1 d1,.bool f.b2,.slice p2 n2 d2,.bool f.b3,.slice p3 n3 d3,.bool f.c1,.slice p n c,.slice p' n' c',.bool f.c2,.slice q m e,.slice q' m' e',.bool f.na,.bool f.nb] /\
 Nk V (.agg #[.bool f.b1,.slice p1 n1 d1,.bool f.b2,.slice p2 n2 d2,.bool f.b3,.slice p3 n3 d3]) f.b1 f.xs f.b2 f.ys f.b3 f.zs /\
 Nm V (.agg #[.bool f.c1,.slice p n c,.slice p' n' c',.bool f.c2,.slice q m e,.slice q' m' e',.bool f.na,.bool f.nb]) f.c1 f.us f.vs f.c2 f.ws f.ts f.na f.nb
theorem Nj.le {V V':View}{v:Value}{f:FW}(h:Nj V v f)(l:V.Le V'):Nj V' v f:=by
 obtain ⟨p1,n1,d1,p2,n2,d2,p3,n3,d3,p,n,c,p',n',c',q,m,e,q',m',e',rfl,h1,h2⟩:=h
 exact ⟨_,_,_,_,_,_,_,_,_,_,_,_,_,_,_,_,_,_,_,_,_,rfl,h1.le l,h2.le l⟩
end Go.Proofs.Tryz
namespace Go.Proofs.Tryz
open Go.bu
set_option maxRecDepth 100000
end Go.Proofs.Tryz
namespace Go.Proofs.Tryz
open Go.bu Go.eQ
def Jy:L3:=(0,0,0)
def wW (V:View)(v:Value)(c:L3):Prop:=qO V v c.1 c.2.1 c.2.2/\Bd c
theorem wW.le {V V':View}{v:Value}{c:L3}(h:wW V v c)(l:V.Le V'):wW V' v c:=⟨h.1.le l,h.2⟩
theorem wW.shape {V:View}{v:Value}{c:L3}(h:wW V v c):∃(x y:Int)(p:OA)(xb yb:Int)(pb:OA)(xc yc:Int)(pc:OA),v=.agg #[.int .i64 x,.int .i64 y,.pointer p,.int .i64 xb,.int .i64 yb,.pointer pb,.int .i64 xc,.int .i64 yc,.pointer pc]:=by
 obtain ⟨⟨x1,x2,p,y1,y2,q,z1,z2,r,e,-⟩,-⟩:=h;exact ⟨_,_,_,_,_,_,_,_,_,e⟩
end Go.Proofs.Tryz
namespace Go.Proofs.Tryz
open Go.eQ
section
variable {α:Type} {c:α->α->Int} {d:α}
structure PQ (c:α->α->Int) (d:α) (l0 l:List α) (a0 b0 a b:Nat):Prop where
 NH:pD d l0 l a0 b0
 ha:a0<=a
 uE:a<=b
 hb:b<=b0
 lo:uk c d l a0 a
 hi:uk c d l b b0
 s1:Sep c d l a0 a b0
 s2:Sep c d l a0 b b0
 pre:0<a->∀k,a<=k->k<b->¬c (l.getD k d) (l.getD (a-1) d)<0
variable {l0 l m:List α} {a0 b0 a b mid:Nat}
theorem PQ.start {l:List α}(h:a<=b)(hp:0<a->∀k,a<=k->k<b->¬c (l.getD k d) (l.getD (a-1) d)<0):PQ c d l l a b a b:=
 ⟨.refl _ _ _,Nat.le_refl _,h,Nat.le_refl _,.short (by omega),.short (by omega),fun p q h1 h2=>by omega,fun p q h1 h2 h3 h4=>by omega,hp⟩
theorem PQ.change (h:PQ c d l0 l a0 b0 a b)(hs:pD d l m a b):PQ c d l0 m a0 b0 a b:=
 ⟨h.NH.trans (hs.wide h.ha h.hb),h.ha,h.uE,h.hb,hs.qh h.lo (.inl (Nat.le_refl _)),hs.qh h.hi (.inr (Nat.le_refl _)),hs.sep h.s1 (.inr (.inl ⟨Nat.le_refl _,h.hb⟩)),hs.sep h.s2 (.inl ⟨h.ha,Nat.le_refl _⟩),fun h0 k h1 h2=>by
  obtain ⟨k',h3,h4,e⟩:=hs.mem k h1 h2
  rw [e,hs.out (a-1) (by omega)]
  exact h.pre h0 k' h3 h4⟩
theorem PQ.fin (h:PQ c d l0 l a0 b0 a b)(hs:pD d l m a b)(ha:uk c d m a b):pD d l0 m a0 b0/\uk c d m a0 b0:=by
 have h':=h.change hs
 refine ⟨h'.NH,h'.lo.join (ha.join h'.hi fun p q h1 h2 h3 h4=>h'.s2 p q (by have:=h.ha;omega) h2 h3 h4) h'.s1⟩
theorem PQ.left (ho:Ord c)(h:PQ c d l0 l a0 b0 a b)(hm:a<=mid)(hm':mid<b)(h1:∀k,a<=k->k<mid->c (l.getD k d) (l.getD mid d)<0)(h2:∀k,mid<k->k<b->¬c (l.getD k d) (l.getD mid d)<0)
  (hs:pD d l m a mid)(ha:uk c d m a mid):PQ c d l0 m a0 b0 (mid+1) b:=by
 have e0:=h.ha
 have e1:=h.hb
 have em:m.getD mid d=l.getD mid d:=hs.out mid (by omega)
 have below:∀k,a<=k->k<mid->¬c (m.getD mid d) (m.getD k d)<0:=fun k g1 g2=>by
  obtain ⟨k',g3,g4,e⟩:=hs.mem k g1 g2
  rw [em,e];exact ho.KB _ _ (h1 k' g3 g4)
 have t1:=hs.sep h.s1 (.inr (.inl ⟨Nat.le_refl _,by omega⟩))
 have t2:=hs.sep h.s2 (.inl ⟨e0,by omega⟩)
 have up:∀q,mid<q->q<b->¬c (m.getD q d) (m.getD mid d)<0:=fun q g1 g2=>by rw [em,hs.out q (by omega)];exact h2 q g1 g2
 refine ⟨h.NH.trans (hs.wide e0 (by omega)),by omega,by omega,e1,(hs.qh h.lo (.inl (Nat.le_refl _))).join (m:=a) (fun p q g1 g2 g3=>?_) fun p q g1 g2 g3 g4=>t1 p q g1 g2 g3 (by omega),hs.qh h.hi (.inr (by omega)),fun p q g1 g2 g3 g4=>?_,t2,fun _ k g1 g2=>up k (by omega) g2⟩
 ·by_cases e:q=mid
  ·subst e;exact below p g1 g2
  ·exact ha p q g1 g2 (by omega)
 ·by_cases hq:b<=q
  ·exact t2 p q g1 (by omega) hq g4
  ·by_cases hp:p<a
   ·exact t1 p q g1 hp (by omega) g4
   ·have u:=up q (by omega) (by omega)
    by_cases e:p=mid
    ·subst e;exact u
    ·exact ho.tr _ _ _ u (below p (by omega) (by omega))
theorem PQ.right (ho:Ord c)(h:PQ c d l0 l a0 b0 a b)(hm:a<=mid)(hm':mid<b)(h1:∀k,a<=k->k<mid->c (l.getD k d) (l.getD mid d)<0)(h2:∀k,mid<k->k<b->¬c (l.getD k d) (l.getD mid d)<0)
  (hs:pD d l m (mid+1) b)(ha:uk c d m (mid+1) b):PQ c d l0 m a0 b0 a mid:=by
 have e0:=h.ha
 have e1:=h.hb
 have em:m.getD mid d=l.getD mid d:=hs.out mid (by omega)
 have up:∀q,mid<q->q<b->¬c (m.getD q d) (m.getD mid d)<0:=fun q g1 g2=>by
  obtain ⟨k',g3,g4,e⟩:=hs.mem q (by omega) g2
  rw [em,e];exact h2 k' (by omega) g4
 have below:∀k,a<=k->k<mid->¬c (m.getD mid d) (m.getD k d)<0:=fun k g1 g2=>by
  rw [em,hs.out k (by omega)];exact ho.KB _ _ (h1 k g1 g2)
 have t1:=hs.sep h.s1 (.inr (.inl ⟨by omega,e1⟩))
 have t2:=hs.sep h.s2 (.inl ⟨by omega,Nat.le_refl _⟩)
 have t3:=hs.qh h.hi (.inr (Nat.le_refl _))
 refine ⟨h.NH.trans (hs.wide (by omega) e1),e0,hm,by omega,hs.qh h.lo (.inl (by omega)),fun p q g1 g2 g3=>?_,t1,fun p q g1 g2 g3 g4=>?_,fun h0 k g1 g2=>?_⟩
 ·by_cases hq:q<b
  ·by_cases e:p=mid
   ·subst e;exact up q g2 hq
   ·exact ha p q (by omega) g2 hq
  ·by_cases hp:p<b
   ·exact t2 p q (by omega) hp (by omega) g3
   ·exact t3 p q (by omega) g2 g3
 ·by_cases hq:b<=q
  ·exact t2 p q g1 (by omega) hq g4
  ·by_cases hp:p<a
   ·exact t1 p q g1 hp (by omega) g4
   ·have u:=below p (by omega) g2
    by_cases e:q=mid
    ·subst e;exact u
    ·exact ho.tr _ _ _ (up q (by omega) (by omega)) u
 ·rw [hs.out k (by omega),hs.out (a-1) (by omega)];exact h.pre h0 k g1 (by omega)
structure HQ (c:α->α->Int) (d:α) (l:List α) (f i n:Nat):Prop where
 hp:Hp c d l f 0 i none
 qh:uk c d l (f+i) (f+n)
 sep:Sep c d l f (f+i) (f+n)
theorem HQ.start {f n:Nat}(h:Hp c d l f 0 n none):HQ c d l f n n:=⟨h,.short (by omega),fun p q h1 h2 h3 h4=>by omega⟩
theorem HQ.step (ho:Ord c){f k n:Nat}(h:HQ c d l f (k+1) n)(hk:k+1<=n)(hl:f+n<=l.length)(hs:pD d (qm d l f (f+k)) m f (f+k))(hm:Hp c d m f 0 k none):HQ c d m f k n:=by
 have ha:=fun x=>mC (d:=d) (l:=l) (i:=f) (j:=f+k) (k:=x) (by omega) (by omega)
 have out:∀q,f+k<q->m.getD q d=l.getD q d:=fun q hq=>by rw [hs.out q (by omega),ha,if_neg (by omega),if_neg (by omega)]
 have top:m.getD (f+k) d=l.getD f d:=by rw [hs.out (f+k) (by omega),ha,if_pos rfl]
 refine ⟨hm,fun p q g1 g2 g3=>?_,fun p q g1 g2 g3 g4=>?_⟩
 ·rw [out q (by omega)]
  by_cases e:p=f+k
  ·rw [e,top];exact h.sep f q (Nat.le_refl _) (by omega) (by omega) g3
  ·rw [out p (by omega)];exact h.qh p q (by omega) g2 g3
 ·have hp:∃j,j<k+1/\m.getD p d=l.getD (f+j) d:=by
   obtain ⟨p',e1,e2,e⟩:=hs.mem p g1 g2
   rw [e,ha,if_neg (by omega)]
   split
   ·exact ⟨k,by omega,rfl⟩
   ·exact ⟨p'-f,by omega,by rw [show f+(p'-f)=p' by omega]⟩
  obtain ⟨j,hj,e⟩:=hp
  rw [e]
  by_cases eq:q=f+k
  ·rw [eq,top];exact h.hp.top ho j hj
  ·rw [out q (by omega)];exact h.sep (f+j) q (by omega) (by omega) (by omega) g4
theorem HQ.fin {f n:Nat}(h:HQ c d l f 0 n):uk c d l f (f+n):=by have:=h.qh;simpa using this
structure PT (P:α->Prop) (d:α) (l:List α) (a b i j:Nat):Prop where
 hi:a<i
 JI:i<=j+1
 hj:j<b
 lo:∀k,a<k->k<i->P (l.getD k d)
 up:∀k,j<k->k<b->¬P (l.getD k d)
variable {P:α->Prop} {i j:Nat}
theorem PT.start (h:a+1<b):PT P d l a b (a+1) (b-1):=⟨by omega,by omega,by omega,fun k h1 h2=>by omega,fun k h1 h2=>by omega⟩
theorem PT.swap (h:PT P d l a b i j)(JI:i<=j)(hl:b<=l.length)(h1:¬P (l.getD i d))(h2:P (l.getD j d)):PT P d (qm d l i j) a b (i+1) (j-1)/\(qm d l i j).getD a d=l.getD a d/\pD d l (qm d l i j) a b:=by
 have e0:=h.hi
 have e1:=h.hj
 have ne:i≠j:=fun e=>h1 (e▸h2)
 have ha:=fun x=>mC (d:=d) (l:=l) (i:=i) (j:=j) (k:=x) (by omega) (by omega)
 refine ⟨⟨by omega,by omega,by omega,fun k g1 g2=>?_,fun k g1 g2=>?_⟩,by rw [ha,if_neg (by omega),if_neg (by omega)],pD.qm (by omega) (by omega) (by omega) e1 hl⟩
 ·rw [ha,if_neg (by omega)]
  by_cases e:k=i
  ·rw [if_pos e];exact h2
  ·rw [if_neg e];exact h.lo k g1 (by omega)
 ·rw [ha]
  by_cases e:k=j
  ·rw [if_pos e];exact h1
  ·rw [if_neg e,if_neg (by omega)];exact h.up k (by omega) g2
theorem PT.fin (ho:Ord c)(h:PT (fun x=>c x (l.getD a d)<0) d l a b i j)(JI:¬i<=j)(hl:b<=l.length):pD d l (qm d l j a) a b/\a<=j/\j<b /\
  (∀k,a<=k->k<j->c ((qm d l j a).getD k d) ((qm d l j a).getD j d)<0)/\(∀k,j<k->k<b->¬c ((qm d l j a).getD k d) ((qm d l j a).getD j d)<0):=by
 have e0:=h.hi
 have e1:=h.JI
 have e2:=h.hj
 have ha:=fun x=>mC (d:=d) (l:=l) (i:=j) (j:=a) (k:=x) (by omega) (by omega)
 have ej:(qm d l j a).getD j d=l.getD a d:=by
  rw [ha]
  by_cases e:j=a
  ·rw [if_pos e,e]
  ·rw [if_neg e,if_pos rfl]
 refine ⟨pD.qm (by omega) e2 (Nat.le_refl _) (by omega) hl,by omega,e2,fun k g1 g2=>?_,fun k g1 g2=>?_⟩
 ·rw [ej,ha]
  by_cases e:k=a
  ·rw [if_pos e];exact h.lo j (by omega) (by omega)
  ·rw [if_neg e,if_neg (by omega)];exact h.lo k (by omega) (by omega)
 ·rw [ej,ha,if_neg (by omega),if_neg (by omega)];exact h.up k g1 g2
end
end Go.Proofs.Tryz
namespace Go.Proofs.Tryz
open Go.bu Go.eQ
structure IH (V:View) (n:Nat) (vs:List Value) (l:List L3):Prop where
 row:Row 9 wW V vs l
 len:n=l.length
 QR:l.length<50
theorem IH.le {V V':View}{n:Nat}{vs:List Value}{l:List L3}(h:IH V n vs l)(e:V.Le V'):IH V' n vs l:=⟨h.row.le fun _ _ g=>wW.le g e,h.len,h.QR⟩
theorem IH.get {V:View}{n:Nat}{vs:List Value}{l:List L3}(h:IH V n vs l){k:Nat}(hk:k<l.length):∃(x y:Int)(p:OA)(xb yb:Int)(pb:OA)(xc yc:Int)(pc:OA),
  ((0+k*9)+9<=vs.length/\(vs.drop (0+k*9)).take 9=[.int .i64 x,.int .i64 y,.pointer p,.int .i64 xb,.int .i64 yb,.pointer pb,.int .i64 xc,.int .i64 yc,.pointer pc])/\wW V (.agg #[.int .i64 x,.int .i64 y,.pointer p,.int .i64 xb,.int .i64 yb,.pointer pb,.int .i64 xc,.int .i64 yc,.pointer pc]) (l.getD k Jy):=by
 obtain ⟨xs,-,h2,h3,h4⟩:=h.row.get (d:=Jy) hk (by decide)
 have h20:=h2
 obtain ⟨x,y,p,xb,yb,pb,xc,yc,pc,e⟩:=h2.shape
 have e:=congrArg Array.toList (Value.agg.inj e)
 dsimp only at e
 subst e
 rw [Nat.zero_add]
 exact ⟨x,y,p,xb,yb,pb,xc,yc,pc,⟨h3,h4⟩,h20⟩
theorem IH.swap {V:View}{n:Nat}{vs:List Value}{l:List L3}(h:IH V n vs l){i j:Nat}(hi:i<l.length)(hj:j<l.length){x y:Int}{p:OA}{xb yb:Int}{pb:OA}{xc yc:Int}{pc:OA}{x' y':Int}{p':OA}{Qd Qe:Int}{pb':OA}{Nc Qf:Int}{pc':OA}
  (h1:wW V (.agg #[.int .i64 x,.int .i64 y,.pointer p,.int .i64 xb,.int .i64 yb,.pointer pb,.int .i64 xc,.int .i64 yc,.pointer pc]) (l.getD i Jy))(h2:wW V (.agg #[.int .i64 x',.int .i64 y',.pointer p',.int .i64 Qd,.int .i64 Qe,.pointer pb',.int .i64 Nc,.int .i64 Qf,.pointer pc']) (l.getD j Jy)) :
  (0+i*9)+9<=vs.length/\(0+j*9)+9<=(cW vs (0+i*9) [.int .i64 x',.int .i64 y',.pointer p',.int .i64 Qd,.int .i64 Qe,.pointer pb',.int .i64 Nc,.int .i64 Qf,.pointer pc']).length /\
  IH V n (cW (cW vs (0+i*9) [.int .i64 x',.int .i64 y',.pointer p',.int .i64 Qd,.int .i64 Qe,.pointer pb',.int .i64 Nc,.int .i64 Qf,.pointer pc']) (0+j*9) [.int .i64 x,.int .i64 y,.pointer p,.int .i64 xb,.int .i64 yb,.pointer pb,.int .i64 xc,.int .i64 yc,.pointer pc]) (qm Jy l i j):=by
 obtain ⟨-,-,-,g1,-⟩:=h.row.get (d:=Jy) hi (by decide)
 obtain ⟨-,-,-,g2,-⟩:=h.row.get (d:=Jy) hj (by decide)
 rw [Nat.zero_add,Nat.zero_add]
 refine ⟨g1,by rw [pW (by exact g1)];exact g2,h.row.swap hi hj (by decide) rfl rfl h1 h2,by rw [yd];exact h.len,by rw [yd];exact h.QR⟩
end Go.Proofs.Tryz
