import Derived.Test.YtnnbfoejafcdlaaGreatDoorD12
import Derived.Test.YtnnbfoejafcdlaaGreatDoorD7
import Derived.Test.YtnnbfoejafcdlaaGreatDoorD5
import Derived.Test.YtnnbfoejafcdlaaGreatDoorD9
set_option linter.unusedVariables false
open Go.IntKind (i64 u64 u32)
namespace Go.Proofs.Tryz
open Go.bF Go.eK
def nY (V:View)(v:Value)(x y:Rat):Prop:=∃(x1 x2:Int)(p:OA)(y1 y2:Int)(q:OA),v=.agg #[.int .i64 x1,.int .i64 x2,.pointer p,.int .i64 y1,.int .i64 y2,.pointer q] /\
 RR V (.agg #[.int .i64 x1,.int .i64 x2,.pointer p]) x/\RR V (.agg #[.int .i64 y1,.int .i64 y2,.pointer q]) y
theorem nY.le {V V':View}{v:Value}{x y:Rat}(h:nY V v x y)(l:V.Le V'):nY V' v x y:=by
 obtain ⟨x1,x2,p,y1,y2,q,e,h1,h2⟩:=h
 exact ⟨x1,x2,p,y1,y2,q,e,h1.le l,h2.le l⟩
theorem yU {V:View}{p:Value}{dO dP:Rat}{q:Value}{mD mE:Rat}(hp:nY V p dO dP)(hq:nY V q mD mE){k:Nat}(eU:Sz k dO)(eV:Sz k dP)(mG:Sz k mD)(mH:Sz k mE)(hk:2*k+1<274877906944) :
  ab prog 149 #[p,q] V fun r V'=>nY V' r ((dO)+(mD)) ((dP)+(mE)):=by
 have hp0:=hp
 obtain ⟨p0,p1,p2,p3,p4,p5,rfl,wj,wk⟩:=hp
 have hq0:=hq
 obtain ⟨q0,q1,q2,q3,q4,q5,rfl,Hr,Hs⟩:=hq
 refine wN p0 p1 p2 p3 p4 p5 q0 q1 q2 q3 q4 q5 V _ fun V1 l1=>(iT (wj.le (l1)) (Hr.le (l1)) eU mG (by omega)).mono ?_
 rintro r V2 l2 g1
 have g10:=g1
 obtain ⟨O3,O4,O5,rfl⟩:=g1.shape
 have bK:Sz (2*k+1) ((dO)+(mD)):=Sz.mono (Sz.add eU mG) (by omega)
 refine ⟨_,_,_,rfl,fun V3 l3=>(iT (wk.le (l1.trans (l2.trans (l3)))) (Hs.le (l1.trans (l2.trans (l3)))) eV mH (by omega)).mono ?_⟩
 rintro r V4 l4 g2
 have g20:=g2
 obtain ⟨MK,ML,MM,rfl⟩:=g2.shape
 have cX:Sz (2*k+1) ((dP)+(mE)):=Sz.mono (Sz.add eV mH) (by omega)
 exact ⟨_,_,_,rfl,fun V5 l5=>⟨_,_,_,_,_,_,rfl,(g10.le (l3.trans (l4.trans (l5)))),(g20.le (l5))⟩⟩
theorem iJ {dO dP mD mE:Rat}{k:Nat}(eU:Sz k dO)(eV:Sz k dP)(mG:Sz k mD)(mH:Sz k mE):Sz (2*k+1) ((dO)+(mD)):=by
 have bK:Sz (2*k+1) ((dO)+(mD)):=Sz.mono (Sz.add eU mG) (by omega)
 have cX:Sz (2*k+1) ((dP)+(mE)):=Sz.mono (Sz.add eV mH) (by omega)
 exact Sz.mono bK (by omega)
theorem iK {dO dP mD mE:Rat}{k:Nat}(eU:Sz k dO)(eV:Sz k dP)(mG:Sz k mD)(mH:Sz k mE):Sz (2*k+1) ((dP)+(mE)):=by
 have bK:Sz (2*k+1) ((dO)+(mD)):=Sz.mono (Sz.add eU mG) (by omega)
 have cX:Sz (2*k+1) ((dP)+(mE)):=Sz.mono (Sz.add eV mH) (by omega)
 exact Sz.mono cX (by omega)
theorem lg {V:View}{p:Value}{dO dP:Rat}{c:Value}{CH:Rat}(hp:nY V p dO dP)(hc:RR V c CH){k:Nat}(eU:Sz k dO)(eV:Sz k dP)(wv:Sz k CH)(hk:2*k+1<274877906944) :
  ab prog 150 #[p,c] V fun r V'=>nY V' r ((dO)*(CH)) ((dP)*(CH)):=by
 have hp0:=hp
 obtain ⟨p0,p1,p2,p3,p4,p5,rfl,wj,wk⟩:=hp
 have hc0:=hc
 obtain ⟨c0,c1,c2,rfl⟩:=hc.shape
 refine rU p0 p1 p2 p3 p4 p5 c0 c1 c2 V _ fun V1 l1=>(eL (wj.le (l1)) (hc0.le (l1)) eU wv (by omega)).mono ?_
 rintro r V2 l2 g1
 have g10:=g1
 obtain ⟨O3,O4,O5,rfl⟩:=g1.shape
 have bK:Sz (2*k+1) ((dO)*(CH)):=Sz.mono (Sz.mul eU wv) (by omega)
 refine ⟨_,_,_,rfl,fun V3 l3=>(eL (wk.le (l1.trans (l2.trans (l3)))) (hc0.le (l1.trans (l2.trans (l3)))) eV wv (by omega)).mono ?_⟩
 rintro r V4 l4 g2
 have g20:=g2
 obtain ⟨MK,ML,MM,rfl⟩:=g2.shape
 have cX:Sz (2*k+1) ((dP)*(CH)):=Sz.mono (Sz.mul eV wv) (by omega)
 exact ⟨_,_,_,rfl,fun V5 l5=>⟨_,_,_,_,_,_,rfl,(g10.le (l3.trans (l4.trans (l5)))),(g20.le (l5))⟩⟩
theorem ch {dO dP CH:Rat}{k:Nat}(eU:Sz k dO)(eV:Sz k dP)(wv:Sz k CH):Sz (2*k+1) ((dO)*(CH)):=by
 have bK:Sz (2*k+1) ((dO)*(CH)):=Sz.mono (Sz.mul eU wv) (by omega)
 have cX:Sz (2*k+1) ((dP)*(CH)):=Sz.mono (Sz.mul eV wv) (by omega)
 exact Sz.mono bK (by omega)
theorem cj {dO dP CH:Rat}{k:Nat}(eU:Sz k dO)(eV:Sz k dP)(wv:Sz k CH):Sz (2*k+1) ((dP)*(CH)):=by
 have bK:Sz (2*k+1) ((dO)*(CH)):=Sz.mono (Sz.mul eU wv) (by omega)
 have cX:Sz (2*k+1) ((dP)*(CH)):=Sz.mono (Sz.mul eV wv) (by omega)
 exact Sz.mono cX (by omega)
theorem ke {V:View}{p:Value}{dO dP:Rat}{q:Value}{mD mE:Rat}(hp:nY V p dO dP)(hq:nY V q mD mE){k:Nat}(eU:Sz k dO)(eV:Sz k dP)(mG:Sz k mD)(mH:Sz k mE)(hk:4*k+3<274877906944) :
  ab prog 144 #[p,q] V fun r V'=>RR V' r (((dO)*(mD))+((dP)*(mE))):=by
 have hp0:=hp
 obtain ⟨p0,p1,p2,p3,p4,p5,rfl,wj,wk⟩:=hp
 have hq0:=hq
 obtain ⟨q0,q1,q2,q3,q4,q5,rfl,Hr,Hs⟩:=hq
 refine wO p0 p1 p2 p3 p4 p5 q0 q1 q2 q3 q4 q5 V _ fun V1 l1=>(eL (wj.le (l1)) (Hr.le (l1)) eU mG (by omega)).mono ?_
 rintro r V2 l2 g1
 have g10:=g1
 obtain ⟨O3,O4,O5,rfl⟩:=g1.shape
 have bK:Sz (2*k+1) ((dO)*(mD)):=Sz.mono (Sz.mul eU mG) (by omega)
 refine ⟨_,_,_,rfl,fun V3 l3=>(eL (wk.le (l1.trans (l2.trans (l3)))) (Hs.le (l1.trans (l2.trans (l3)))) eV mH (by omega)).mono ?_⟩
 rintro r V4 l4 g2
 have g20:=g2
 obtain ⟨MK,ML,MM,rfl⟩:=g2.shape
 have cX:Sz (2*k+1) ((dP)*(mE)):=Sz.mono (Sz.mul eV mH) (by omega)
 refine ⟨_,_,_,rfl,fun V5 l5=>(iT (g10.le (l3.trans (l4.trans (l5)))) (g20.le (l5)) bK cX (by omega)).mono ?_⟩
 rintro r V6 l6 g3
 have nw:=g3
 obtain ⟨PM,PN,PO,rfl⟩:=g3.shape
 have fK:Sz (4*k+3) (((dO)*(mD))+((dP)*(mE))):=Sz.mono (Sz.add bK cX) (by omega)
 exact ⟨_,_,_,rfl,fun V7 l7=>(nw.le (l7))⟩
theorem df {dO dP mD mE:Rat}{k:Nat}(eU:Sz k dO)(eV:Sz k dP)(mG:Sz k mD)(mH:Sz k mE):Sz (4*k+3) (((dO)*(mD))+((dP)*(mE))):=by
 have bK:Sz (2*k+1) ((dO)*(mD)):=Sz.mono (Sz.mul eU mG) (by omega)
 have cX:Sz (2*k+1) ((dP)*(mE)):=Sz.mono (Sz.mul eV mH) (by omega)
 have fK:Sz (4*k+3) (((dO)*(mD))+((dP)*(mE))):=Sz.mono (Sz.add bK cX) (by omega)
 exact Sz.mono fK (by omega)
theorem fu {V:View}{p:Value}{dO dP:Rat}{q:Value}{mD mE:Rat}(hp:nY V p dO dP)(hq:nY V q mD mE){k:Nat}(eU:Sz k dO)(eV:Sz k dP)(mG:Sz k mD)(mH:Sz k mE)(hk:4*k+3<274877906944) :
  ab prog 136 #[p,q] V fun r V'=>RR V' r (((dO)*(mE))-((dP)*(mD))):=by
 have hp0:=hp
 obtain ⟨p0,p1,p2,p3,p4,p5,rfl,wj,wk⟩:=hp
 have hq0:=hq
 obtain ⟨q0,q1,q2,q3,q4,q5,rfl,Hr,Hs⟩:=hq
 refine rT p0 p1 p2 p3 p4 p5 q0 q1 q2 q3 q4 q5 V _ fun V1 l1=>(eL (wj.le (l1)) (Hs.le (l1)) eU mH (by omega)).mono ?_
 rintro r V2 l2 g1
 have g10:=g1
 obtain ⟨O3,O4,O5,rfl⟩:=g1.shape
 have bK:Sz (2*k+1) ((dO)*(mE)):=Sz.mono (Sz.mul eU mH) (by omega)
 refine ⟨_,_,_,rfl,fun V3 l3=>(eL (wk.le (l1.trans (l2.trans (l3)))) (Hr.le (l1.trans (l2.trans (l3)))) eV mG (by omega)).mono ?_⟩
 rintro r V4 l4 g2
 have g20:=g2
 obtain ⟨MK,ML,MM,rfl⟩:=g2.shape
 have cX:Sz (2*k+1) ((dP)*(mD)):=Sz.mono (Sz.mul eV mG) (by omega)
 refine ⟨_,_,_,rfl,fun V5 l5=>(oA (g10.le (l3.trans (l4.trans (l5)))) (g20.le (l5)) bK cX (by omega)).mono ?_⟩
 rintro r V6 l6 g3
 have nw:=g3
 obtain ⟨PM,PN,PO,rfl⟩:=g3.shape
 have fK:Sz (4*k+3) (((dO)*(mE))-((dP)*(mD))):=Sz.mono (Sz.sub bK cX) (by omega)
 exact ⟨_,_,_,rfl,fun V7 l7=>(nw.le (l7))⟩
theorem j9 {dO dP mD mE:Rat}{k:Nat}(eU:Sz k dO)(eV:Sz k dP)(mG:Sz k mD)(mH:Sz k mE):Sz (4*k+3) (((dO)*(mE))-((dP)*(mD))):=by
 have bK:Sz (2*k+1) ((dO)*(mE)):=Sz.mono (Sz.mul eU mH) (by omega)
 have cX:Sz (2*k+1) ((dP)*(mD)):=Sz.mono (Sz.mul eV mG) (by omega)
 have fK:Sz (4*k+3) (((dO)*(mE))-((dP)*(mD))):=Sz.mono (Sz.sub bK cX) (by omega)
 exact Sz.mono fK (by omega)
theorem kd {V:View}{l:Value}{bf l_1 dg:Rat}(hl:sC V l bf l_1 dg){k:Nat}(cz:Sz k bf)(cK:Sz k l_1)(b_:Sz k dg)(hk:1*k+1<274877906944) :
  ab prog 135 #[l] V fun r V'=>nY V' r (l_1) (-(bf)):=by
 have hl0:=hl
 obtain ⟨l0,l1,l2,l3,l4,l5,l6,l7,l8,rfl,Bj,Bk,Bl⟩:=hl
 refine wL l0 l1 l2 l3 l4 l5 l6 l7 l8 V _ fun V1 l1=>(ow (Bj.le (l1)) cz (by omega)).mono ?_
 rintro r V2 l2 g1
 have g10:=g1
 obtain ⟨O3,O4,O5,rfl⟩:=g1.shape
 have bK:Sz (1*k+0) (-(bf)):=Sz.mono (Sz.neg cz) (by omega)
 exact ⟨_,_,_,rfl,fun V3 l3=>⟨_,_,_,_,_,_,rfl,(Bk.le (l1.trans (l2.trans (l3)))),(g10.le (l3))⟩⟩
theorem iH {bf l_1 dg:Rat}{k:Nat}(cz:Sz k bf)(cK:Sz k l_1)(b_:Sz k dg):Sz (1*k+0) (l_1):=by
 have bK:Sz (1*k+0) (-(bf)):=Sz.mono (Sz.neg cz) (by omega)
 exact Sz.mono cK (by omega)
theorem iI {bf l_1 dg:Rat}{k:Nat}(cz:Sz k bf)(cK:Sz k l_1)(b_:Sz k dg):Sz (1*k+0) (-(bf)):=by
 have bK:Sz (1*k+0) (-(bf)):=Sz.mono (Sz.neg cz) (by omega)
 exact Sz.mono bK (by omega)
theorem dw {V:View}{l:Value}{bf l_1 dg:Rat}(hl:sC V l bf l_1 dg){k:Nat}(cz:Sz k bf)(cK:Sz k l_1)(b_:Sz k dg)(hk:1*k+1<274877906944) :
  ab prog 142 #[l] V fun r V'=>nY V' r (bf) (l_1):=by
 have hl0:=hl
 obtain ⟨l0,l1,l2,l3,l4,l5,l6,l7,l8,rfl,Bj,Bk,Bl⟩:=hl
 exact qC l0 l1 l2 l3 l4 l5 l6 l7 l8 V _ fun V1 l1=>⟨_,_,_,_,_,_,rfl,(Bj.le (l1)),(Bk.le (l1))⟩
theorem cN {bf l_1 dg:Rat}{k:Nat}(cz:Sz k bf)(cK:Sz k l_1)(b_:Sz k dg):Sz (1*k+0) (bf):=by
 exact Sz.mono cz (by omega)
theorem cO {bf l_1 dg:Rat}{k:Nat}(cz:Sz k bf)(cK:Sz k l_1)(b_:Sz k dg):Sz (1*k+0) (l_1):=by
 exact Sz.mono cK (by omega)
theorem lf {V:View}{l:Value}{bf l_1 dg:Rat}{p:Value}{dO dP:Rat}(hl:sC V l bf l_1 dg)(hp:nY V p dO dP){k:Nat}(cz:Sz k bf)(cK:Sz k l_1)(b_:Sz k dg)(eU:Sz k dO)(eV:Sz k dP)(hk:5*k+4<274877906944) :
  ab prog 146 #[l,p] V fun r V'=>RR V' r ((((bf)*(dO))+((l_1)*(dP)))+(dg)):=by
 have hl0:=hl
 obtain ⟨l0,l1,l2,l3,l4,l5,l6,l7,l8,rfl,Bj,Bk,Bl⟩:=hl
 have hp0:=hp
 obtain ⟨p0,p1,p2,p3,p4,p5,rfl,wj,wk⟩:=hp
 refine rS l0 l1 l2 l3 l4 l5 l6 l7 l8 p0 p1 p2 p3 p4 p5 V _ fun V1 l1=>(dw (hl0.le (l1)) (Sz.mono cz (by omega):Sz (1*k+0) _) (Sz.mono cK (by omega):Sz (1*k+0) _) (Sz.mono b_ (by omega):Sz (1*k+0) _) (by omega)).mono ?_
 rintro r V2 l2 g1
 have g10:=g1
 obtain ⟨OX,OY,OZ,O0,O1,O2,rfl,Nh,Ni⟩:=g1
 have bK:Sz (1*k+0) (bf):=Sz.mono ((cN (Sz.mono cz (by omega):Sz (1*k+0) _) (Sz.mono cK (by omega):Sz (1*k+0) _) (Sz.mono b_ (by omega):Sz (1*k+0) _))) (by omega)
 have eJ:Sz (1*k+0) (l_1):=Sz.mono ((cO (Sz.mono cz (by omega):Sz (1*k+0) _) (Sz.mono cK (by omega):Sz (1*k+0) _) (Sz.mono b_ (by omega):Sz (1*k+0) _))) (by omega)
 refine ⟨_,_,_,_,_,_,rfl,fun V3 l3=>(ke (g10.le (l3)) (hp0.le (l1.trans (l2.trans (l3)))) (Sz.mono bK (by omega):Sz (1*k+0) _) (Sz.mono eJ (by omega):Sz (1*k+0) _) (Sz.mono eU (by omega):Sz (1*k+0) _) (Sz.mono eV (by omega):Sz (1*k+0) _) (by omega)).mono ?_⟩
 rintro r V4 l4 g2
 have g20:=g2
 obtain ⟨MK,ML,MM,rfl⟩:=g2.shape
 have cX:Sz (4*k+3) (((bf)*(dO))+((l_1)*(dP))):=Sz.mono ((df (Sz.mono bK (by omega):Sz (1*k+0) _) (Sz.mono eJ (by omega):Sz (1*k+0) _) (Sz.mono eU (by omega):Sz (1*k+0) _) (Sz.mono eV (by omega):Sz (1*k+0) _))) (by omega)
 refine ⟨_,_,_,rfl,fun V5 l5=>(iT (g20.le (l5)) (Bl.le (l1.trans (l2.trans (l3.trans (l4.trans (l5)))))) cX b_ (by omega)).mono ?_⟩
 rintro r V6 l6 g3
 have nw:=g3
 obtain ⟨PM,PN,PO,rfl⟩:=g3.shape
 have fK:Sz (5*k+4) ((((bf)*(dO))+((l_1)*(dP)))+(dg)):=Sz.mono (Sz.add cX b_) (by omega)
 exact ⟨_,_,_,rfl,fun V7 l7=>(nw.le (l7))⟩
theorem j8 {bf l_1 dg dO dP:Rat}{k:Nat}(cz:Sz k bf)(cK:Sz k l_1)(b_:Sz k dg)(eU:Sz k dO)(eV:Sz k dP):Sz (5*k+4) ((((bf)*(dO))+((l_1)*(dP)))+(dg)):=by
 have bK:Sz (1*k+0) (bf):=Sz.mono ((cN (Sz.mono cz (by omega):Sz (1*k+0) _) (Sz.mono cK (by omega):Sz (1*k+0) _) (Sz.mono b_ (by omega):Sz (1*k+0) _))) (by omega)
 have eJ:Sz (1*k+0) (l_1):=Sz.mono ((cO (Sz.mono cz (by omega):Sz (1*k+0) _) (Sz.mono cK (by omega):Sz (1*k+0) _) (Sz.mono b_ (by omega):Sz (1*k+0) _))) (by omega)
 have cX:Sz (4*k+3) (((bf)*(dO))+((l_1)*(dP))):=Sz.mono ((df (Sz.mono bK (by omega):Sz (1*k+0) _) (Sz.mono eJ (by omega):Sz (1*k+0) _) (Sz.mono eU (by omega):Sz (1*k+0) _) (Sz.mono eV (by omega):Sz (1*k+0) _))) (by omega)
 have fK:Sz (5*k+4) ((((bf)*(dO))+((l_1)*(dP)))+(dg)):=Sz.mono (Sz.add cX b_) (by omega)
 exact Sz.mono fK (by omega)
theorem mO {V:View}{l:Value}{bf l_1 dg:Rat}(hl:sC V l bf l_1 dg){k:Nat}(cz:Sz k bf)(cK:Sz k l_1)(b_:Sz k dg)(hk:10*k+9<274877906944) :
  ab prog 180 #[l] V fun r V'=>nY V' r ((bf)*(((-(dg))*(((bf)*(bf))+((l_1)*(l_1)))⁻¹))) ((l_1)*(((-(dg))*(((bf)*(bf))+((l_1)*(l_1)))⁻¹))):=by
 have hl0:=hl
 obtain ⟨l0,l1,l2,l3,l4,l5,l6,l7,l8,rfl,Bj,Bk,Bl⟩:=hl
 refine vq l0 l1 l2 l3 l4 l5 l6 l7 l8 V _ fun V1 l1=>(dw (hl0.le (l1)) (Sz.mono cz (by omega):Sz (1*k+0) _) (Sz.mono cK (by omega):Sz (1*k+0) _) (Sz.mono b_ (by omega):Sz (1*k+0) _) (by omega)).mono ?_
 rintro r V2 l2 g1
 have g10:=g1
 obtain ⟨OX,OY,OZ,O0,O1,O2,rfl,Nh,Ni⟩:=g1
 have bK:Sz (1*k+0) (bf):=Sz.mono ((cN (Sz.mono cz (by omega):Sz (1*k+0) _) (Sz.mono cK (by omega):Sz (1*k+0) _) (Sz.mono b_ (by omega):Sz (1*k+0) _))) (by omega)
 have eJ:Sz (1*k+0) (l_1):=Sz.mono ((cO (Sz.mono cz (by omega):Sz (1*k+0) _) (Sz.mono cK (by omega):Sz (1*k+0) _) (Sz.mono b_ (by omega):Sz (1*k+0) _))) (by omega)
 refine ⟨_,_,_,_,_,_,rfl,fun V3 l3=>(ow (Bl.le (l1.trans (l2.trans (l3)))) b_ (by omega)).mono ?_⟩
 rintro r V4 l4 g2
 have g20:=g2
 obtain ⟨MK,ML,MM,rfl⟩:=g2.shape
 have cX:Sz (1*k+0) (-(dg)):=Sz.mono (Sz.neg b_) (by omega)
 refine ⟨_,_,_,rfl,fun V5 l5=>(ke (g10.le (l3.trans (l4.trans (l5)))) (g10.le (l3.trans (l4.trans (l5)))) (Sz.mono bK (by omega):Sz (1*k+0) _) (Sz.mono eJ (by omega):Sz (1*k+0) _) (Sz.mono bK (by omega):Sz (1*k+0) _) (Sz.mono eJ (by omega):Sz (1*k+0) _) (by omega)).mono ?_⟩
 rintro r V6 l6 g3
 have nw:=g3
 obtain ⟨PM,PN,PO,rfl⟩:=g3.shape
 have fK:Sz (4*k+3) (((bf)*(bf))+((l_1)*(l_1))):=Sz.mono ((df (Sz.mono bK (by omega):Sz (1*k+0) _) (Sz.mono eJ (by omega):Sz (1*k+0) _) (Sz.mono bK (by omega):Sz (1*k+0) _) (Sz.mono eJ (by omega):Sz (1*k+0) _))) (by omega)
 refine ⟨_,_,_,rfl,fun V7 l7=>(oz (g20.le (l5.trans (l6.trans (l7)))) (nw.le (l7)) cX fK (by omega)).mono ?_⟩
 rintro r V8 l8 g4
 have He:=g4
 obtain ⟨Xg,Xi,Xj,rfl⟩:=g4.shape
 have mJ:Sz (5*k+4) ((-(dg))*(((bf)*(bf))+((l_1)*(l_1)))⁻¹):=Sz.mono (Sz.mul cX (gK fK)) (by omega)
 refine ⟨_,_,_,rfl,fun V9 l9=>(lg (g10.le (l3.trans (l4.trans (l5.trans (l6.trans (l7.trans (l8.trans (l9)))))))) (He.le (l9)) (Sz.mono bK (by omega):Sz (5*k+4) _) (Sz.mono eJ (by omega):Sz (5*k+4) _) (Sz.mono mJ (by omega):Sz (5*k+4) _) (by omega)).mono ?_⟩
 rintro r jm l10 g5
 have KD:=g5
 obtain ⟨Xk,Xl,Xm,Xn,Xo,Xp,rfl,Qy,Qz⟩:=g5
 have Gm:Sz (10*k+9) ((bf)*(((-(dg))*(((bf)*(bf))+((l_1)*(l_1)))⁻¹))):=Sz.mono ((ch (Sz.mono bK (by omega):Sz (5*k+4) _) (Sz.mono eJ (by omega):Sz (5*k+4) _) (Sz.mono mJ (by omega):Sz (5*k+4) _))) (by omega)
 have Mu:Sz (10*k+9) ((l_1)*(((-(dg))*(((bf)*(bf))+((l_1)*(l_1)))⁻¹))):=Sz.mono ((cj (Sz.mono bK (by omega):Sz (5*k+4) _) (Sz.mono eJ (by omega):Sz (5*k+4) _) (Sz.mono mJ (by omega):Sz (5*k+4) _))) (by omega)
 exact ⟨_,_,_,_,_,_,rfl,fun kR bW=>⟨_,_,_,_,_,_,rfl,(Qy.le (bW)),(Qz.le (bW))⟩⟩
theorem dB {bf l_1 dg:Rat}{k:Nat}(cz:Sz k bf)(cK:Sz k l_1)(b_:Sz k dg):Sz (10*k+9) ((bf)*(((-(dg))*(((bf)*(bf))+((l_1)*(l_1)))⁻¹))):=by
 have bK:Sz (1*k+0) (bf):=Sz.mono ((cN (Sz.mono cz (by omega):Sz (1*k+0) _) (Sz.mono cK (by omega):Sz (1*k+0) _) (Sz.mono b_ (by omega):Sz (1*k+0) _))) (by omega)
 have eJ:Sz (1*k+0) (l_1):=Sz.mono ((cO (Sz.mono cz (by omega):Sz (1*k+0) _) (Sz.mono cK (by omega):Sz (1*k+0) _) (Sz.mono b_ (by omega):Sz (1*k+0) _))) (by omega)
 have cX:Sz (1*k+0) (-(dg)):=Sz.mono (Sz.neg b_) (by omega)
 have fK:Sz (4*k+3) (((bf)*(bf))+((l_1)*(l_1))):=Sz.mono ((df (Sz.mono bK (by omega):Sz (1*k+0) _) (Sz.mono eJ (by omega):Sz (1*k+0) _) (Sz.mono bK (by omega):Sz (1*k+0) _) (Sz.mono eJ (by omega):Sz (1*k+0) _))) (by omega)
 have mJ:Sz (5*k+4) ((-(dg))*(((bf)*(bf))+((l_1)*(l_1)))⁻¹):=Sz.mono (Sz.mul cX (gK fK)) (by omega)
 have Gm:Sz (10*k+9) ((bf)*(((-(dg))*(((bf)*(bf))+((l_1)*(l_1)))⁻¹))):=Sz.mono ((ch (Sz.mono bK (by omega):Sz (5*k+4) _) (Sz.mono eJ (by omega):Sz (5*k+4) _) (Sz.mono mJ (by omega):Sz (5*k+4) _))) (by omega)
 have Mu:Sz (10*k+9) ((l_1)*(((-(dg))*(((bf)*(bf))+((l_1)*(l_1)))⁻¹))):=Sz.mono ((cj (Sz.mono bK (by omega):Sz (5*k+4) _) (Sz.mono eJ (by omega):Sz (5*k+4) _) (Sz.mono mJ (by omega):Sz (5*k+4) _))) (by omega)
 exact Sz.mono Gm (by omega)
theorem dC {bf l_1 dg:Rat}{k:Nat}(cz:Sz k bf)(cK:Sz k l_1)(b_:Sz k dg):Sz (10*k+9) ((l_1)*(((-(dg))*(((bf)*(bf))+((l_1)*(l_1)))⁻¹))):=by
 have bK:Sz (1*k+0) (bf):=Sz.mono ((cN (Sz.mono cz (by omega):Sz (1*k+0) _) (Sz.mono cK (by omega):Sz (1*k+0) _) (Sz.mono b_ (by omega):Sz (1*k+0) _))) (by omega)
 have eJ:Sz (1*k+0) (l_1):=Sz.mono ((cO (Sz.mono cz (by omega):Sz (1*k+0) _) (Sz.mono cK (by omega):Sz (1*k+0) _) (Sz.mono b_ (by omega):Sz (1*k+0) _))) (by omega)
 have cX:Sz (1*k+0) (-(dg)):=Sz.mono (Sz.neg b_) (by omega)
 have fK:Sz (4*k+3) (((bf)*(bf))+((l_1)*(l_1))):=Sz.mono ((df (Sz.mono bK (by omega):Sz (1*k+0) _) (Sz.mono eJ (by omega):Sz (1*k+0) _) (Sz.mono bK (by omega):Sz (1*k+0) _) (Sz.mono eJ (by omega):Sz (1*k+0) _))) (by omega)
 have mJ:Sz (5*k+4) ((-(dg))*(((bf)*(bf))+((l_1)*(l_1)))⁻¹):=Sz.mono (Sz.mul cX (gK fK)) (by omega)
 have Gm:Sz (10*k+9) ((bf)*(((-(dg))*(((bf)*(bf))+((l_1)*(l_1)))⁻¹))):=Sz.mono ((ch (Sz.mono bK (by omega):Sz (5*k+4) _) (Sz.mono eJ (by omega):Sz (5*k+4) _) (Sz.mono mJ (by omega):Sz (5*k+4) _))) (by omega)
 have Mu:Sz (10*k+9) ((l_1)*(((-(dg))*(((bf)*(bf))+((l_1)*(l_1)))⁻¹))):=Sz.mono ((cj (Sz.mono bK (by omega):Sz (5*k+4) _) (Sz.mono eJ (by omega):Sz (5*k+4) _) (Sz.mono mJ (by omega):Sz (5*k+4) _))) (by omega)
 exact Sz.mono Mu (by omega)
theorem AV {V:View}{l:Value}{bf l_1 dg:Rat}{t:Value}{vQ:Rat}(hl:sC V l bf l_1 dg)(ht:RR V t vQ){k:Nat}(cz:Sz k bf)(cK:Sz k l_1)(b_:Sz k dg)(zS:Sz k vQ)(hk:20*k+19<274877906944) :
  ab prog 132 #[l,t] V fun r V'=>nY V' r ((((bf)*(((-(dg))*(((bf)*(bf))+((l_1)*(l_1)))⁻¹))))+(((l_1)*(vQ)))) ((((l_1)*(((-(dg))*(((bf)*(bf))+((l_1)*(l_1)))⁻¹))))+((((-(bf)))*(vQ)))):=by
 have hl0:=hl
 obtain ⟨l0,l1,l2,l3,l4,l5,l6,l7,l8,rfl,Bj,Bk,Bl⟩:=hl
 have ht0:=ht
 obtain ⟨t0,t1,t2,rfl⟩:=ht.shape
 refine Ae l0 l1 l2 l3 l4 l5 l6 l7 l8 t0 t1 t2 V _ fun V1 l1=>(mO (hl0.le (l1)) (Sz.mono cz (by omega):Sz (1*k+0) _) (Sz.mono cK (by omega):Sz (1*k+0) _) (Sz.mono b_ (by omega):Sz (1*k+0) _) (by omega)).mono ?_
 rintro r V2 l2 g1
 have g10:=g1
 obtain ⟨OX,OY,OZ,O0,O1,O2,rfl,Nh,Ni⟩:=g1
 have bK:Sz (10*k+9) ((bf)*(((-(dg))*(((bf)*(bf))+((l_1)*(l_1)))⁻¹))):=Sz.mono ((dB (Sz.mono cz (by omega):Sz (1*k+0) _) (Sz.mono cK (by omega):Sz (1*k+0) _) (Sz.mono b_ (by omega):Sz (1*k+0) _))) (by omega)
 have eJ:Sz (10*k+9) ((l_1)*(((-(dg))*(((bf)*(bf))+((l_1)*(l_1)))⁻¹))):=Sz.mono ((dC (Sz.mono cz (by omega):Sz (1*k+0) _) (Sz.mono cK (by omega):Sz (1*k+0) _) (Sz.mono b_ (by omega):Sz (1*k+0) _))) (by omega)
 refine ⟨_,_,_,_,_,_,rfl,fun V3 l3=>(kd (hl0.le (l1.trans (l2.trans (l3)))) (Sz.mono cz (by omega):Sz (1*k+0) _) (Sz.mono cK (by omega):Sz (1*k+0) _) (Sz.mono b_ (by omega):Sz (1*k+0) _) (by omega)).mono ?_⟩
 rintro r V4 l4 g2
 have g20:=g2
 obtain ⟨WX,WY,WZ,W0,W3,W4,rfl,Ve,Vf⟩:=g2
 have cX:Sz (1*k+0) (l_1):=Sz.mono ((iH (Sz.mono cz (by omega):Sz (1*k+0) _) (Sz.mono cK (by omega):Sz (1*k+0) _) (Sz.mono b_ (by omega):Sz (1*k+0) _))) (by omega)
 have At:Sz (1*k+0) (-(bf)):=Sz.mono ((iI (Sz.mono cz (by omega):Sz (1*k+0) _) (Sz.mono cK (by omega):Sz (1*k+0) _) (Sz.mono b_ (by omega):Sz (1*k+0) _))) (by omega)
 refine ⟨_,_,_,_,_,_,rfl,fun V5 l5=>(lg (g20.le (l5)) (ht0.le (l1.trans (l2.trans (l3.trans (l4.trans (l5)))))) (Sz.mono cX (by omega):Sz (1*k+0) _) (Sz.mono At (by omega):Sz (1*k+0) _) (Sz.mono zS (by omega):Sz (1*k+0) _) (by omega)).mono ?_⟩
 rintro r V6 l6 g3
 have nw:=g3
 obtain ⟨W5,W6,W7,W8,W9,W_,rfl,Vg,Vh⟩:=g3
 have fK:Sz (2*k+1) ((l_1)*(vQ)):=Sz.mono ((ch (Sz.mono cX (by omega):Sz (1*k+0) _) (Sz.mono At (by omega):Sz (1*k+0) _) (Sz.mono zS (by omega):Sz (1*k+0) _))) (by omega)
 have Au:Sz (2*k+1) (((-(bf)))*(vQ)):=Sz.mono ((cj (Sz.mono cX (by omega):Sz (1*k+0) _) (Sz.mono At (by omega):Sz (1*k+0) _) (Sz.mono zS (by omega):Sz (1*k+0) _))) (by omega)
 refine ⟨_,_,_,_,_,_,rfl,fun V7 l7=>(yU (g10.le (l3.trans (l4.trans (l5.trans (l6.trans (l7)))))) (nw.le (l7)) (Sz.mono bK (by omega):Sz (10*k+9) _) (Sz.mono eJ (by omega):Sz (10*k+9) _) (Sz.mono fK (by omega):Sz (10*k+9) _) (Sz.mono Au (by omega):Sz (10*k+9) _) (by omega)).mono ?_⟩
 rintro r V8 l8 g4
 have He:=g4
 obtain ⟨Xa,Xb,Xc,Xd,Xe,Xf,rfl,Qw,Qx⟩:=g4
 have mJ:Sz (20*k+19) ((((bf)*(((-(dg))*(((bf)*(bf))+((l_1)*(l_1)))⁻¹))))+(((l_1)*(vQ)))):=Sz.mono ((iJ (Sz.mono bK (by omega):Sz (10*k+9) _) (Sz.mono eJ (by omega):Sz (10*k+9) _) (Sz.mono fK (by omega):Sz (10*k+9) _) (Sz.mono Au (by omega):Sz (10*k+9) _))) (by omega)
 have Mt:Sz (20*k+19) ((((l_1)*(((-(dg))*(((bf)*(bf))+((l_1)*(l_1)))⁻¹))))+((((-(bf)))*(vQ)))):=Sz.mono ((iK (Sz.mono bK (by omega):Sz (10*k+9) _) (Sz.mono eJ (by omega):Sz (10*k+9) _) (Sz.mono fK (by omega):Sz (10*k+9) _) (Sz.mono Au (by omega):Sz (10*k+9) _))) (by omega)
 exact ⟨_,_,_,_,_,_,rfl,fun V9 l9=>⟨_,_,_,_,_,_,rfl,(Qw.le (l9)),(Qx.le (l9))⟩⟩
theorem xd {bf l_1 dg vQ:Rat}{k:Nat}(cz:Sz k bf)(cK:Sz k l_1)(b_:Sz k dg)(zS:Sz k vQ):Sz (20*k+19) ((((bf)*(((-(dg))*(((bf)*(bf))+((l_1)*(l_1)))⁻¹))))+(((l_1)*(vQ)))):=by
 have bK:Sz (10*k+9) ((bf)*(((-(dg))*(((bf)*(bf))+((l_1)*(l_1)))⁻¹))):=Sz.mono ((dB (Sz.mono cz (by omega):Sz (1*k+0) _) (Sz.mono cK (by omega):Sz (1*k+0) _) (Sz.mono b_ (by omega):Sz (1*k+0) _))) (by omega)
 have eJ:Sz (10*k+9) ((l_1)*(((-(dg))*(((bf)*(bf))+((l_1)*(l_1)))⁻¹))):=Sz.mono ((dC (Sz.mono cz (by omega):Sz (1*k+0) _) (Sz.mono cK (by omega):Sz (1*k+0) _) (Sz.mono b_ (by omega):Sz (1*k+0) _))) (by omega)
 have cX:Sz (1*k+0) (l_1):=Sz.mono ((iH (Sz.mono cz (by omega):Sz (1*k+0) _) (Sz.mono cK (by omega):Sz (1*k+0) _) (Sz.mono b_ (by omega):Sz (1*k+0) _))) (by omega)
 have At:Sz (1*k+0) (-(bf)):=Sz.mono ((iI (Sz.mono cz (by omega):Sz (1*k+0) _) (Sz.mono cK (by omega):Sz (1*k+0) _) (Sz.mono b_ (by omega):Sz (1*k+0) _))) (by omega)
 have fK:Sz (2*k+1) ((l_1)*(vQ)):=Sz.mono ((ch (Sz.mono cX (by omega):Sz (1*k+0) _) (Sz.mono At (by omega):Sz (1*k+0) _) (Sz.mono zS (by omega):Sz (1*k+0) _))) (by omega)
 have Au:Sz (2*k+1) (((-(bf)))*(vQ)):=Sz.mono ((cj (Sz.mono cX (by omega):Sz (1*k+0) _) (Sz.mono At (by omega):Sz (1*k+0) _) (Sz.mono zS (by omega):Sz (1*k+0) _))) (by omega)
 have mJ:Sz (20*k+19) ((((bf)*(((-(dg))*(((bf)*(bf))+((l_1)*(l_1)))⁻¹))))+(((l_1)*(vQ)))):=Sz.mono ((iJ (Sz.mono bK (by omega):Sz (10*k+9) _) (Sz.mono eJ (by omega):Sz (10*k+9) _) (Sz.mono fK (by omega):Sz (10*k+9) _) (Sz.mono Au (by omega):Sz (10*k+9) _))) (by omega)
 have Mt:Sz (20*k+19) ((((l_1)*(((-(dg))*(((bf)*(bf))+((l_1)*(l_1)))⁻¹))))+((((-(bf)))*(vQ)))):=Sz.mono ((iK (Sz.mono bK (by omega):Sz (10*k+9) _) (Sz.mono eJ (by omega):Sz (10*k+9) _) (Sz.mono fK (by omega):Sz (10*k+9) _) (Sz.mono Au (by omega):Sz (10*k+9) _))) (by omega)
 exact Sz.mono mJ (by omega)
theorem xe {bf l_1 dg vQ:Rat}{k:Nat}(cz:Sz k bf)(cK:Sz k l_1)(b_:Sz k dg)(zS:Sz k vQ):Sz (20*k+19) ((((l_1)*(((-(dg))*(((bf)*(bf))+((l_1)*(l_1)))⁻¹))))+((((-(bf)))*(vQ)))):=by
 have bK:Sz (10*k+9) ((bf)*(((-(dg))*(((bf)*(bf))+((l_1)*(l_1)))⁻¹))):=Sz.mono ((dB (Sz.mono cz (by omega):Sz (1*k+0) _) (Sz.mono cK (by omega):Sz (1*k+0) _) (Sz.mono b_ (by omega):Sz (1*k+0) _))) (by omega)
 have eJ:Sz (10*k+9) ((l_1)*(((-(dg))*(((bf)*(bf))+((l_1)*(l_1)))⁻¹))):=Sz.mono ((dC (Sz.mono cz (by omega):Sz (1*k+0) _) (Sz.mono cK (by omega):Sz (1*k+0) _) (Sz.mono b_ (by omega):Sz (1*k+0) _))) (by omega)
 have cX:Sz (1*k+0) (l_1):=Sz.mono ((iH (Sz.mono cz (by omega):Sz (1*k+0) _) (Sz.mono cK (by omega):Sz (1*k+0) _) (Sz.mono b_ (by omega):Sz (1*k+0) _))) (by omega)
 have At:Sz (1*k+0) (-(bf)):=Sz.mono ((iI (Sz.mono cz (by omega):Sz (1*k+0) _) (Sz.mono cK (by omega):Sz (1*k+0) _) (Sz.mono b_ (by omega):Sz (1*k+0) _))) (by omega)
 have fK:Sz (2*k+1) ((l_1)*(vQ)):=Sz.mono ((ch (Sz.mono cX (by omega):Sz (1*k+0) _) (Sz.mono At (by omega):Sz (1*k+0) _) (Sz.mono zS (by omega):Sz (1*k+0) _))) (by omega)
 have Au:Sz (2*k+1) (((-(bf)))*(vQ)):=Sz.mono ((cj (Sz.mono cX (by omega):Sz (1*k+0) _) (Sz.mono At (by omega):Sz (1*k+0) _) (Sz.mono zS (by omega):Sz (1*k+0) _))) (by omega)
 have mJ:Sz (20*k+19) ((((bf)*(((-(dg))*(((bf)*(bf))+((l_1)*(l_1)))⁻¹))))+(((l_1)*(vQ)))):=Sz.mono ((iJ (Sz.mono bK (by omega):Sz (10*k+9) _) (Sz.mono eJ (by omega):Sz (10*k+9) _) (Sz.mono fK (by omega):Sz (10*k+9) _) (Sz.mono Au (by omega):Sz (10*k+9) _))) (by omega)
 have Mt:Sz (20*k+19) ((((l_1)*(((-(dg))*(((bf)*(bf))+((l_1)*(l_1)))⁻¹))))+((((-(bf)))*(vQ)))):=Sz.mono ((iK (Sz.mono bK (by omega):Sz (10*k+9) _) (Sz.mono eJ (by omega):Sz (10*k+9) _) (Sz.mono fK (by omega):Sz (10*k+9) _) (Sz.mono Au (by omega):Sz (10*k+9) _))) (by omega)
 exact Sz.mono Mt (by omega)
theorem Fw {V:View}(z:Int){p:OA}{n c:Nat}(h:RD V p n c (ag z.natAbs)) :
  ab prog 156 #[.agg #[.bool (decide (z<0)),.slice p n c]] V fun r V'=>RQ V' r (z:Rat):=
 Ej _ p n c V _ fun V1 l1=>mX (z:=z) (d:=1) rfl rfl (h.le l1) RD.nil rfl
theorem nq {V:View}{z:Int}{p:OA}{n c:Nat}(h:RD V p n c (ag z.natAbs)){k:Nat}(_s:Sz k (z:Rat))(_hk:k<=1099511627776) :
  ab prog 156 #[.agg #[.bool (decide (z<0)),.slice p n c]] V fun r V'=>RQ V' r (z:Rat):=Fw z h
theorem v_ {V:View}{l:Value}{bf l_1 dg:Int}{p:Value}{dO dP:Rat}(hl:RL V l bf l_1 dg)(hp:RP V p dO dP){k:Nat}(cz:Sz k ((bf:Int):Rat))(cK:Sz k ((l_1:Int):Rat))(b_:Sz k ((dg:Int):Rat))(eU:Sz k dO)(eV:Sz k dP)(hk:5*k+4<274877906944) :
  ab prog 129 #[l,p] V fun r V'=>RQ V' r ((((((bf:Int):Rat))*(dO))+((((l_1:Int):Rat))*(dP)))+(((dg:Int):Rat))):=by
 have hl0:=hl
 obtain ⟨l0,l1,l2,l3,l4,l5,l6,l7,l8,rfl,Bj,Bk,Bl⟩:=hl
 have hp0:=hp
 obtain ⟨p0,p1,p2,p3,p4,p5,p6,p7,p8,p9,J1,Ou,rfl,wj,wk⟩:=hp
 refine vK _ l0 l1 l2 _ l3 l4 l5 _ l6 l7 l8 _ p0 p1 p2 p3 p4 p5 _ p6 p7 p8 p9 J1 Ou V _ fun V1 l1=>(nq (Bj.le (l1)) cz (by omega)).mono ?_
 rintro r V2 l2 g1
 have g10:=g1
 obtain ⟨O3,O4,O5,Ye,Yf,Yg,rfl⟩:=g1.shape
 have bK:Sz (1*k+0) (((bf:Int):Rat)):=Sz.mono (cz) (by omega)
 refine ⟨_,_,_,_,_,_,_,rfl,fun V3 l3=>(cG (g10.le (l3)) (wj.le (l1.trans (l2.trans (l3)))) bK eU (by omega)).mono ?_⟩
 rintro r V4 l4 g2
 have g20:=g2
 obtain ⟨MK,ML,MM,Yh,Yi,Yj,rfl⟩:=g2.shape
 have cX:Sz (2*k+1) ((((bf:Int):Rat))*(dO)):=Sz.mono (Sz.mul bK eU) (by omega)
 refine ⟨_,_,_,_,_,_,_,rfl,fun V5 l5=>(nq (Bk.le (l1.trans (l2.trans (l3.trans (l4.trans (l5)))))) cK (by omega)).mono ?_⟩
 rintro r V6 l6 g3
 have nw:=g3
 obtain ⟨PM,PN,PO,Yk,Yl,Ym,rfl⟩:=g3.shape
 have fK:Sz (1*k+0) (((l_1:Int):Rat)):=Sz.mono (cK) (by omega)
 refine ⟨_,_,_,_,_,_,_,rfl,fun V7 l7=>(cG (nw.le (l7)) (wk.le (l1.trans (l2.trans (l3.trans (l4.trans (l5.trans (l6.trans (l7)))))))) fK eV (by omega)).mono ?_⟩
 rintro r V8 l8 g4
 have He:=g4
 obtain ⟨Xg,Xi,Xj,Yn,Yp,Yq,rfl⟩:=g4.shape
 have mJ:Sz (2*k+1) ((((l_1:Int):Rat))*(dP)):=Sz.mono (Sz.mul fK eV) (by omega)
 refine ⟨_,_,_,_,_,_,_,rfl,fun V9 l9=>(dj (g20.le (l5.trans (l6.trans (l7.trans (l8.trans (l9)))))) (He.le (l9)) cX mJ (by omega)).mono ?_⟩
 rintro r jm l10 g5
 have KD:=g5
 obtain ⟨Yr,Ys,Yt,Yu,Yv,Yw,rfl⟩:=g5.shape
 have Gm:Sz (4*k+3) (((((bf:Int):Rat))*(dO))+((((l_1:Int):Rat))*(dP))):=Sz.mono (Sz.add cX mJ) (by omega)
 refine ⟨_,_,_,_,_,_,_,rfl,fun kR bW=>(nq (Bl.le (l1.trans (l2.trans (l3.trans (l4.trans (l5.trans (l6.trans (l7.trans (l8.trans (l9.trans (l10.trans (bW)))))))))))) b_ (by omega)).mono ?_⟩
 rintro r nZ dh g6
 have Nj:=g6
 obtain ⟨Yx,Yy,Yz,YA,YB,YC,rfl⟩:=g6.shape
 have Pg:Sz (1*k+0) (((dg:Int):Rat)):=Sz.mono (b_) (by omega)
 refine ⟨_,_,_,_,_,_,_,rfl,fun sY dL=>(dj (KD.le (bW.trans (dh.trans (dL)))) (Nj.le (dL)) Gm Pg (by omega)).mono ?_⟩
 rintro r pF fk g7
 have JA:=g7
 obtain ⟨YD,YE,YF,YG,YH,YI,rfl⟩:=g7.shape
 have Xr:Sz (5*k+4) ((((((bf:Int):Rat))*(dO))+((((l_1:Int):Rat))*(dP)))+(((dg:Int):Rat))):=Sz.mono (Sz.add Gm Pg) (by omega)
 exact ⟨_,_,_,_,_,_,_,rfl,fun n_ eZ=>(JA.le (eZ))⟩
theorem RA.shape {V:View}{v:Value}{q:Rat}(h:RA V v q):∃b p n c p' n' c',v=.agg #[.bool b,.slice p n c,.slice p' n' c']:=by
 obtain ⟨p,n,c,p',n',c',e,-⟩:=h;exact ⟨_,_,_,_,_,_,_,e⟩
def Gy (V:View)(v:Value)(x y:Rat):Prop:=∃b p n c p' n' c' d q m e q' m' e',v=.agg #[.bool b,.slice p n c,.slice p' n' c',.bool d,.slice q m e,.slice q' m' e'] /\
 RA V (.agg #[.bool b,.slice p n c,.slice p' n' c']) x/\RA V (.agg #[.bool d,.slice q m e,.slice q' m' e']) y
theorem Gy.le {V V':View}{v:Value}{x y:Rat}(h:Gy V v x y)(l:V.Le V'):Gy V' v x y:=by
 obtain ⟨b,p,n,c,p',n',c',d,q,m,e,q',m',e',rfl,h1,h2⟩:=h
 exact ⟨_,_,_,_,_,_,_,_,_,_,_,_,_,_,rfl,h1.le l,h2.le l⟩
theorem CZ {V:View}{v:Value}{x y:Rat}(h:Gy V v x y){k:Nat}(s1:Sz k x)(s2:Sz k y)(hk:k<=1099511627776) :
  ab prog 115 #[v] V fun r V'=>nY V' r x y:=by
 obtain ⟨b,p,n,c,p',n',c',d,q,m,e,q',m',e',rfl,h1,h2⟩:=h
 refine rC b p n c p' n' c' d q m e q' m' e' V _ fun V1 l1=>(xC (h1.le l1) s1 hk).mono ?_
 rintro r V2 l2 g1
 have g10:=g1
 obtain ⟨u,v,w,rfl⟩:=g1.shape
 refine ⟨_,_,_,rfl,fun V3 l3=>(xC (h2.le (l1.trans (l2.trans l3))) s2 hk).mono ?_⟩
 rintro r V4 l4 g2
 have g20:=g2
 obtain ⟨u,v,w,rfl⟩:=g2.shape
 exact ⟨_,_,_,rfl,fun V5 l5=>⟨_,_,_,_,_,_,rfl,g10.le (l3.trans (l4.trans l5)),g20.le l5⟩⟩
theorem yT {V:View}{v:Value}{x y:Rat}(h:nY V v x y){k:Nat}(s1:Sz k x)(s2:Sz k y)(hk:k<=1099511627776) :
  ab prog 80 #[v] V fun r V'=>Gy V' r x y:=by
 obtain ⟨p0,p1,p2,p3,p4,p5,rfl,h1,h2⟩:=h
 refine wM p0 p1 p2 p3 p4 p5 V _ fun V1 l1=>(yQ (h1.le l1) s1 hk).mono ?_
 rintro r V2 l2 g1
 have g10:=g1
 obtain ⟨_,_,_,_,_,_,_,rfl⟩:=g1.shape
 refine ⟨_,_,_,_,_,_,_,rfl,fun V3 l3=>(yQ (h2.le (l1.trans (l2.trans l3))) s2 hk).mono ?_⟩
 rintro r V4 l4 g2
 have g20:=g2
 obtain ⟨_,_,_,_,_,_,_,rfl⟩:=g2.shape
 exact ⟨_,_,_,_,_,_,_,rfl,fun V5 l5=>⟨_,_,_,_,_,_,_,_,_,_,_,_,_,_,rfl,g10.le (l3.trans (l4.trans l5)),g20.le l5⟩⟩
theorem vT {V:View}{l p:Value}{bf l_1 dg dO dP:Rat}(hl:sC V l bf l_1 dg)(hp:nY V p dO dP){k:Nat}(s0:Sz k bf)(s1:Sz k l_1)(s2:Sz k dg)(s3:Sz k dO)(s4:Sz k dP)(hk:16*k+16<274877906944) :
  ab prog 131 #[l,p] V fun r V'=>r=.int .i64 (bf*dO+l_1*dP+dg).num.sign:=by
 have hl0:=hl
 have hp0:=hp
 obtain ⟨a0,a1,a2,a3,a4,a5,a6,a7,a8,rfl,-,-,-⟩:=hl
 obtain ⟨p0,p1,p2,p3,p4,p5,rfl,-,-⟩:=hp
 refine vv a0 a1 a2 a3 a4 a5 a6 a7 a8 p0 p1 p2 p3 p4 p5 V _ fun V1 l1=>(lf (hl0.le l1) (hp0.le l1) s0 s1 s2 s3 s4 (by omega)).mono ?_
 rintro r V2 l2 g
 have g0:=g
 obtain ⟨u,v,w,rfl⟩:=g.shape
 refine ⟨_,_,_,rfl,fun V3 l3=>(eE (g0.le l3) (j8 s0 s1 s2 s3 s4) (by omega)).mono ?_⟩
 rintro r V4 l4 rfl
 exact ⟨_,rfl,fun V5 l5=>rfl⟩
theorem qO {V:View}{v:Value}{q:Rat}(h:RQ V v q){k:Nat}(s:Sz k q)(hk:k<=1099511627776):ab prog 36 #[v] V fun r V'=>RA V' r q:=by
 obtain ⟨p,n,c,p',n',c',rfl,h1,h2⟩:=h
 have q1:=af s.1
 have q2:=af s.2
 refine Al _ p n c p' n' c' V _ fun V1 l1=>(iW ⟨_,_,_,rfl,h1.le l1⟩ (by omega)).mono ?_
 rintro r V2 l2 ⟨p1,n1,c1,rfl,g1⟩
 refine ⟨_,_,_,_,rfl,fun V3 l3=>(dD q _ (h2.le (l1.trans (l2.trans l3)))).mono ?_⟩
 rintro r V4 l4 ⟨p2,n2,c2,rfl,g2⟩
 refine ⟨_,_,_,rfl,fun V5 l5=>(qN (g2.le l5) (by omega)).mono ?_⟩
 rintro r V6 l6 ⟨p3,n3,c3,rfl,g3⟩
 exact ⟨_,_,_,rfl,fun V7 l7=>⟨_,_,_,_,_,_,rfl,g1.le (l3.trans (l4.trans (l5.trans (l6.trans l7)))),g3.le l7⟩⟩
theorem AZ {V:View}{v:Value}{x y:Rat}(h:RP V v x y){k:Nat}(s1:Sz k x)(s2:Sz k y)(hk:k<=1099511627776):ab prog 53 #[v] V fun r V'=>Gy V' r x y:=by
 obtain ⟨p1,n1,c1,p2,n2,c2,p3,n3,c3,p4,n4,c4,rfl,h1,h2⟩:=h
 refine Aq _ p1 n1 c1 p2 n2 c2 _ p3 n3 c3 p4 n4 c4 V _ fun V1 l1=>(qO (h1.le l1) s1 hk).mono ?_
 rintro r V2 l2 g1
 have g10:=g1
 obtain ⟨_,_,_,_,_,_,_,rfl⟩:=g1.shape
 refine ⟨_,_,_,_,_,_,_,rfl,fun V3 l3=>(qO (h2.le (l1.trans (l2.trans l3))) s2 hk).mono ?_⟩
 rintro r V4 l4 g2
 have g20:=g2
 obtain ⟨_,_,_,_,_,_,_,rfl⟩:=g2.shape
 exact ⟨_,_,_,_,_,_,_,rfl,fun V5 l5=>⟨_,_,_,_,_,_,_,_,_,_,_,_,_,_,rfl,g10.le (l3.trans (l4.trans l5)),g20.le l5⟩⟩
theorem mS {V:View}{v w:Value}{x y:Rat}(hx:RA V v x)(hy:RA V w y){k:Nat}(s:Sz k x)(hk:k<=1099511627776) :
  ab prog 35 #[v,w] V fun r V'=>r=.bool (decide (x=y)):=by
 obtain ⟨p,n,c,p',n',c',rfl,h1,h2⟩:=hx
 obtain ⟨q,m,e,q',m',e',rfl,h3,h4⟩:=hy
 have q1:=af s.1
 have q2:=af s.2
 refine vG _ p n c p' n' c' _ q m e q' m' e' V _ fun V1 l1=>(fY (h1.le l1) (h3.le l1) (by omega)).mono ?_
 rintro r V2 l2 rfl
 refine ⟨_,rfl,fun g V3 l3=>(mQ (h2.le (l1.trans (l2.trans l3))) (h4.le (l1.trans (l2.trans l3))) (by omega)).mono ?_,fun g V6 l6=>?_⟩
 ·have g:=of_decide_eq_true g
  rintro r V4 l4 rfl
  refine ⟨_,rfl,fun V5 l5=>?_⟩
  have e:ag x.den=ag y.den↔x=y:=⟨fun h=>Rat.ext g (by have:=congrArg val h;rwa [ae,ae] at this),fun h=>by rw [h]⟩
  rw [show decide (ag x.den=ag y.den)=decide (x=y) from by rw [decide_eq_decide];exact e]
 ·have g:=of_decide_eq_false g
  rw [decide_eq_false (fun h=>g (by rw [h]))]
theorem vZ {V:View}{v w:Value}{x y x' y':Rat}(h:Gy V v x y)(h':Gy V w x' y'){k:Nat}(s1:Sz k x)(s2:Sz k y)(hk:k<=1099511627776) :
  ab prog 89 #[v,w] V fun r V'=>r=.bool (decide (x=x'/\y=y')):=by
 obtain ⟨b,p,n,c,p',n',c',d,q,m,e,q',m',e',rfl,h1,h2⟩:=h
 obtain ⟨b1,p1,n1,c1,Ot,n1',c1',d1,q1,m1,e1,q1',Wu,Ll,rfl,h3,h4⟩:=h'
 refine vJ b p n c p' n' c' d q m e q' m' e' b1 p1 n1 c1 Ot n1' c1' d1 q1 m1 e1 q1' Wu Ll V _ fun V1 l1=>(mS (h1.le l1) (h3.le l1) s1 hk).mono ?_
 rintro r V2 l2 rfl
 refine ⟨_,rfl,fun g V3 l3=>(mS (h2.le (l1.trans (l2.trans l3))) (h4.le (l1.trans (l2.trans l3))) s2 hk).mono ?_,fun g V6 l6=>?_⟩
 ·have g:=of_decide_eq_true g
  rintro r V4 l4 rfl
  exact ⟨_,rfl,fun V5 l5=>by simp [g]⟩
 ·have g:=of_decide_eq_false g
  simp [g]
def N_ (a b c:Rat):L3:=
 let f:Nat:=a.den*b.den*c.den
 zC (a*((f:Int):Rat)).num (b*((f:Int):Rat)).num (c*((f:Int):Rat)).num
theorem kk {V:View}(n:Int)(d:Nat)(h0:-1000<=n)(h1:n<=1000)(hd0:d≠0)(hd:d<=1000) :
  ab prog 75 #[.int .i64 n,.int .i64 (d:Int)] V fun r V'=>RQ V' r (mkRat n d):=by
 refine Cu n d V _ fun V1 l1=>(xI n (by omega) (by omega)).mono ?_
 rintro r V2 l2 ⟨p,m,c,rfl,g⟩
 rw [aM (by omega)]
 refine ⟨_,_,_,_,rfl,fun V3 l3=>(dk d (by omega)).mono ?_⟩
 rintro r V4 l4 ⟨p2,m2,c2,rfl,g2⟩
 refine ⟨_,_,_,rfl,fun V5 l5=>(ki n (g.le (l3.trans (l4.trans l5))) (g2.le l5) (Nat.le_trans (af (k:=10) (by omega)) (by omega)) (Nat.le_trans (af (k:=10) (by omega)) (by omega)) hd0).mono ?_⟩
 rintro r V6 l6 h
 have h':=h
 obtain ⟨_,_,_,_,_,_,rfl⟩:=h.shape
 exact ⟨_,_,_,_,_,_,_,rfl,fun V7 l7=>h'.le l7⟩
theorem Kh:∀x:Fin 9,Sz 10 (mkRat (2*((x.1:Int)-4)+1) 2)/\Sz 10 (mkRat (3*((x.1:Int)-4)+1) 3):=by unfold Sz;decide +kernel
theorem Tf {V:View}{tb:Nat}{p:OA}{n c:Nat}{at_:Int}(hr:Gn V p n)(hn:n<=400)(hw:oh V tb p n c at_)(hx:V.X tb)(h0:0<=at_) :
  ab prog 74 #[.pointer (some ⟨tb,0,none⟩)] V fun r V'=>∃(q:Rat)(at':Int),RQ V' r q/\Sz 10 q/\0<=at'/\oh V' tb p n c at':=by
 refine sn tb p n c at_ V _ hw hx fun V1 l1 bk1 e1 h1=>(pO (V:=V1.bg [bk1]) 9 (hr.le fun b o h=>l1 b o h) hn e1 ⟨by simp,h1⟩ h0 (by omega) (by omega)).mono ?_
 rintro r V2 l2 ⟨x,Gp,rfl,x0,x1,t1,hw1⟩
 refine ⟨_,rfl,_,_,_,_,hw1,fun V3 l3 Qk e3 h3=>(pO (V:=V3.bg [Qk]) 6 (hr.le fun b o h=>l3 b o (l2 b o (l1 b o h))) hn e3 ⟨by simp,h3⟩ t1 (by omega) (by omega)).mono ?_⟩
 rintro r V4 l4 ⟨y,at2,rfl,y0,y1,t2,hw2⟩
 obtain ⟨i,rfl⟩:∃i:Nat,x=i:=⟨x.toNat,by omega⟩
 obtain ⟨z1,z2⟩:=Kh ⟨i,by omega⟩
 dsimp only at z1 z2
 have w1:i64.wrap ((i:Int)-4)=(i:Int)-4:=ay (by omega)
 have w2:i64.wrap (i64.wrap (2*((i:Int)-4))+1)=2*((i:Int)-4)+1:=by rw [ay (x:=2*((i:Int)-4)) (by omega),ay (by omega)]
 have w3:i64.wrap (i64.wrap (3*((i:Int)-4))+1)=3*((i:Int)-4)+1:=by rw [ay (x:=3*((i:Int)-4)) (by omega),ay (by omega)]
 rw [w1,w2,w3]
 refine ⟨_,rfl,_,_,_,_,hw2,fun _ V5 l5=>(kk (2*((i:Int)-4)+1) 2 (by omega) (by omega) (by omega) (by omega)).mono ?_,fun _=>⟨fun _ V8 l8=>(kk (3*((i:Int)-4)+1) 3 (by omega) (by omega) (by omega) (by omega)).mono ?_,fun _ kR bW=>(jH ((i:Int)-4) (by omega) (by omega)).mono ?_⟩⟩
 ·rintro r V6 l6 h
  have h':=h
  obtain ⟨_,_,_,_,_,_,rfl⟩:=h.shape
  exact ⟨_,_,_,_,_,_,_,rfl,fun V7 l7 e7=>⟨_,at2,h'.le l7,z1,t2,e7⟩⟩
 ·rintro r V6 l6 h
  have h':=h
  obtain ⟨_,_,_,_,_,_,rfl⟩:=h.shape
  exact ⟨_,_,_,_,_,_,_,rfl,fun V7 l7 e7=>⟨_,at2,h'.le l7,z2,t2,e7⟩⟩
 ·rintro r V6 l6 h
  have h':=h
  obtain ⟨_,_,_,_,_,_,rfl⟩:=h.shape
  exact ⟨_,_,_,_,_,_,_,rfl,fun V7 l7 e7=>⟨_,at2,h'.le l7,E5 (by omega),t2,e7⟩⟩
theorem yY {V:View}{l p:Value}{bf l_1 dg:Int}{dO dP:Rat}(hl:RL V l bf l_1 dg)(hp:RP V p dO dP){k:Nat}(s0:Sz k ((bf:Int):Rat))(s1:Sz k ((l_1:Int):Rat))(s2:Sz k ((dg:Int):Rat))(s3:Sz k dO)(s4:Sz k dP)(hk:16*k+16<274877906944) :
  ab prog 76 #[l,p] V fun r V'=>r=.int .i64 ((bf:Rat)*dO+(l_1:Rat)*dP+(dg:Rat)).num.sign:=by
 have hl0:=hl
 have hp0:=hp
 obtain ⟨a0,a1,a2,a3,a4,a5,a6,a7,a8,rfl,-,-,-⟩:=hl
 obtain ⟨p0,p1,p2,p3,p4,p5,p6,p7,p8,p9,J1,Ou,rfl,-,-⟩:=hp
 refine wV _ a0 a1 a2 _ a3 a4 a5 _ a6 a7 a8 _ p0 p1 p2 p3 p4 p5 _ p6 p7 p8 p9 J1 Ou V _ fun V1 l1=>(v_ (hl0.le l1) (hp0.le l1) s0 s1 s2 s3 s4 (by omega)).mono ?_
 rintro r V2 l2 ⟨u0,u1,u2,u3,u4,u5,rfl,g1,g2⟩
 refine ⟨_,_,_,_,_,_,_,rfl,fun V3 l3=>(yW _ (g1.le l3)).mono ?_⟩
 rintro r V4 l4 rfl
 exact ⟨_,rfl,fun V5 l5=>rfl⟩
theorem qQ {V:View}{l:Value}{a b c:Int}(hl:RL V l a b c):ab prog 41 #[l] V fun r V'=>RL V' r (-a) (-b) (-c):=by
 obtain ⟨a0,a1,a2,a3,a4,a5,a6,a7,a8,rfl,h1,h2,h3⟩:=hl
 refine An _ a0 a1 a2 _ a3 a4 a5 _ a6 a7 a8 V _ fun V1 l1=>(iV a (h1.le l1)).mono ?_
 rintro r V2 l2 ⟨p1,n1,c1,rfl,g1⟩
 refine ⟨_,_,_,_,rfl,fun V3 l3=>(iV b (h2.le (l1.trans (l2.trans l3)))).mono ?_⟩
 rintro r V4 l4 ⟨p2,n2,c2,rfl,g2⟩
 refine ⟨_,_,_,_,rfl,fun V5 l5=>(iV c (h3.le (l1.trans (l2.trans (l3.trans (l4.trans l5)))))).mono ?_⟩
 rintro r V6 l6 ⟨p3,n3,c3,rfl,g3⟩
 exact ⟨_,_,_,_,rfl,fun V7 l7=>⟨_,_,_,_,_,_,_,_,_,rfl,g1.le (l3.trans (l4.trans (l5.trans (l6.trans l7)))),g2.le (l5.trans (l6.trans l7)),g3.le l7⟩⟩
end Go.Proofs.Tryz
namespace Go.bF
open Go.eK
theorem RR.zero (V:View):RR V (.agg #[.int .i64 0,.int .i64 0,.pointer none]) 0:=.inl ⟨rfl,by unfold Wd;decide⟩
end Go.bF
namespace Go.Proofs.Tryz
open Go.bF Go.eK
structure Sp where
 lo:Rat
 hi:Rat
 a:Bool
 b:Bool
def Sp.can (s:Sp):Prop:=(s.a=true->s.lo=0)/\(s.b=true->s.hi=0)
def Sp.sz (k:Nat)(s:Sp):Prop:=Sz k s.lo/\Sz k s.hi
def Sp.zero:Sp:=⟨0,0,false,false⟩
def l_ (k:Nat)(l:L3):Prop:=Sz k (l.1:Rat)/\Sz k (l.2.1:Rat)/\Sz k (l.2.2:Rat)
def El (V:View)(v:Value)(s:Sp):Prop:=∃(x1 x2:Int)(p:OA)(y1 y2:Int)(q:OA),v=.agg #[.int .i64 x1,.int .i64 x2,.pointer p,.int .i64 y1,.int .i64 y2,.pointer q,.bool s.a,.bool s.b] /\
 RR V (.agg #[.int .i64 x1,.int .i64 x2,.pointer p]) s.lo/\RR V (.agg #[.int .i64 y1,.int .i64 y2,.pointer q]) s.hi
theorem El.le {V V':View}{v:Value}{s:Sp}(h:El V v s)(l:V.Le V'):El V' v s:=by
 obtain ⟨x1,x2,p,y1,y2,q,e,h1,h2⟩:=h
 exact ⟨x1,x2,p,y1,y2,q,e,h1.le l,h2.le l⟩
def sW (V:View)(v:Value)(l:L3):Prop:=sC V v (l.1:Rat) (l.2.1:Rat) (l.2.2:Rat)
theorem sW.le {V V':View}{v:Value}{l:L3}(h:sW V v l)(e:V.Le V'):sW V' v l:=sC.le h e
def K6 (V:View)(v:Value)(l:L3)(s:Sp):Prop:=∃(x1 x2:Int)(p:OA)(y1 y2:Int)(q:OA)(z1 z2:Int)(r:OA)(u1 u2:Int)(t:OA)(w1 w2:Int)(o:OA),
 v=.agg #[.int .i64 x1,.int .i64 x2,.pointer p,.int .i64 y1,.int .i64 y2,.pointer q,.int .i64 z1,.int .i64 z2,.pointer r,.int .i64 u1,.int .i64 u2,.pointer t,.int .i64 w1,.int .i64 w2,.pointer o,.bool s.a,.bool s.b] /\
 sW V (.agg #[.int .i64 x1,.int .i64 x2,.pointer p,.int .i64 y1,.int .i64 y2,.pointer q,.int .i64 z1,.int .i64 z2,.pointer r]) l /\
 El V (.agg #[.int .i64 u1,.int .i64 u2,.pointer t,.int .i64 w1,.int .i64 w2,.pointer o,.bool s.a,.bool s.b]) s
theorem K6.le {V V':View}{v:Value}{l:L3}{s:Sp}(h:K6 V v l s)(e:V.Le V'):K6 V' v l s:=by
 obtain ⟨x1,x2,p,y1,y2,q,z1,z2,r,u1,u2,t,w1,w2,o,rfl,h1,h2⟩:=h
 exact ⟨x1,x2,p,y1,y2,q,z1,z2,r,u1,u2,t,w1,w2,o,rfl,h1.le e,h2.le e⟩
def I8 (V:View)(v:Value)(b:Bool)(xs ys:List Nat):Prop:=∃p n c p' n' c',v=.agg #[.bool b,.slice p n c,.slice p' n' c']/\RD V p n c xs/\RD V p' n' c' ys
theorem I8.le {V V':View}{v:Value}{b:Bool}{xs ys:List Nat}(h:I8 V v b xs ys)(l:V.Le V'):I8 V' v b xs ys:=by
 obtain ⟨p,n,c,p',n',c',e,h1,h2⟩:=h;exact ⟨p,n,c,p',n',c',e,h1.le l,h2.le l⟩
theorem I8.nil {V:View}:I8 V (.agg #[.bool false,.slice none 0 0,.slice none 0 0]) false [] []:=⟨_,_,_,_,_,_,rfl,RD.nil,RD.nil⟩
def RE (V:View)(v:Value)(q:Rat)(no:Bool):Prop:=(no=true->I8 V v false [] [])/\(no=false->RA V v q)
theorem RE.le {V V':View}{v:Value}{q:Rat}{no:Bool}(h:RE V v q no)(l:V.Le V'):RE V' v q no:=⟨fun e=>(h.1 e).le l,fun e=>(h.2 e).le l⟩
theorem RE.shape {V:View}{v:Value}{q:Rat}{no:Bool}(h:RE V v q no):∃b p n c p' n' c',v=.agg #[.bool b,.slice p n c,.slice p' n' c']:=by
 cases no with
 | true=>obtain ⟨_,_,_,_,_,_,e,-⟩:=h.1 rfl;exact ⟨_,_,_,_,_,_,_,e⟩
 | false=>exact (h.2 rfl).shape
def Pn (V:View)(v:Value)(s:Sp):Prop:=∃b p n c p' n' c' d q m e q' m' e',v=.agg #[.bool b,.slice p n c,.slice p' n' c',.bool d,.slice q m e,.slice q' m' e',.bool s.a,.bool s.b] /\
 RE V (.agg #[.bool b,.slice p n c,.slice p' n' c']) s.lo s.a/\RE V (.agg #[.bool d,.slice q m e,.slice q' m' e']) s.hi s.b
theorem Pn.le {V V':View}{v:Value}{s:Sp}(h:Pn V v s)(l:V.Le V'):Pn V' v s:=by
 obtain ⟨b,p,n,c,p',n',c',d,q,m,e,q',m',e',rfl,h1,h2⟩:=h
 exact ⟨_,_,_,_,_,_,_,_,_,_,_,_,_,_,rfl,h1.le l,h2.le l⟩
def Mv (V:View)(v:Value)(l:L3)(s:Sp):Prop:=∃b1 p1 n1 c1 b2 p2 n2 c2 b3 p3 n3 c3 b p n c p' n' c' d q m e q' m' e',
 v=.agg #[.bool b1,.slice p1 n1 c1,.bool b2,.slice p2 n2 c2,.bool b3,.slice p3 n3 c3,.bool b,.slice p n c,.slice p' n' c',.bool d,.slice q m e,.slice q' m' e',.bool s.a,.bool s.b] /\
 RL V (.agg #[.bool b1,.slice p1 n1 c1,.bool b2,.slice p2 n2 c2,.bool b3,.slice p3 n3 c3]) l.1 l.2.1 l.2.2/\Pn V (.agg #[.bool b,.slice p n c,.slice p' n' c',.bool d,.slice q m e,.slice q' m' e',.bool s.a,.bool s.b]) s
theorem Mv.le {V V':View}{v:Value}{l:L3}{s:Sp}(h:Mv V v l s)(e:V.Le V'):Mv V' v l s:=by
 obtain ⟨b1,p1,n1,c1,b2,p2,n2,c2,b3,p3,n3,c3,b,p,n,c,p',n',c',d,q,m,f,q',m',f',rfl,h1,h2⟩:=h
 exact ⟨_,_,_,_,_,_,_,_,_,_,_,_,_,_,_,_,_,_,_,_,_,_,_,_,_,_,rfl,h1.le e,h2.le e⟩
def MP (V:View)(v:Value)(s:Sp):Prop:=∃b p n c p' n' c' d q m e q' m' e',v=.agg #[.bool b,.slice p n c,.slice p' n' c',.bool d,.slice q m e,.slice q' m' e',.bool s.a,.bool s.b] /\
 RQ V (.agg #[.bool b,.slice p n c,.slice p' n' c']) s.lo/\RQ V (.agg #[.bool d,.slice q m e,.slice q' m' e']) s.hi
theorem MP.le {V V':View}{v:Value}{s:Sp}(h:MP V v s)(l:V.Le V'):MP V' v s:=by
 obtain ⟨b,p,n,c,p',n',c',d,q,m,e,q',m',e',rfl,h1,h2⟩:=h
 exact ⟨_,_,_,_,_,_,_,_,_,_,_,_,_,_,rfl,h1.le l,h2.le l⟩
def RF (V:View)(v:Value)(l:L3)(s:Sp):Prop:=∃b1 p1 n1 c1 b2 p2 n2 c2 b3 p3 n3 c3 b p n c p' n' c' d q m e q' m' e',
 v=.agg #[.bool b1,.slice p1 n1 c1,.bool b2,.slice p2 n2 c2,.bool b3,.slice p3 n3 c3,.bool b,.slice p n c,.slice p' n' c',.bool d,.slice q m e,.slice q' m' e',.bool s.a,.bool s.b] /\
 RL V (.agg #[.bool b1,.slice p1 n1 c1,.bool b2,.slice p2 n2 c2,.bool b3,.slice p3 n3 c3]) l.1 l.2.1 l.2.2/\MP V (.agg #[.bool b,.slice p n c,.slice p' n' c',.bool d,.slice q m e,.slice q' m' e',.bool s.a,.bool s.b]) s
theorem RF.le {V V':View}{v:Value}{l:L3}{s:Sp}(h:RF V v l s)(e:V.Le V'):RF V' v l s:=by
 obtain ⟨b1,p1,n1,c1,b2,p2,n2,c2,b3,p3,n3,c3,b,p,n,c,p',n',c',d,q,m,f,q',m',f',rfl,h1,h2⟩:=h
 exact ⟨_,_,_,_,_,_,_,_,_,_,_,_,_,_,_,_,_,_,_,_,_,_,_,_,_,_,rfl,h1.le e,h2.le e⟩
def au (l:L3)(x y:Rat):Rat:=(l.1:Rat)*x+(l.2.1:Rat)*y+(l.2.2:Rat)
def iB (l:L3):Rat:=(l.1:Rat)*(l.1:Rat)+(l.2.1:Rat)*(l.2.1:Rat)
def FY (l:L3)(x y:Rat):Rat:=((l.2.1:Rat)*x-(l.1:Rat)*y)*(iB l)⁻¹
def ef (l:L3)(t:Rat):Rat:=(l.2.1:Rat)*t-(l.1:Rat)*(l.2.2:Rat)*(iB l)⁻¹
def eg (l:L3)(t:Rat):Rat:=-((l.1:Rat)*t)-(l.2.1:Rat)*(l.2.2:Rat)*(iB l)⁻¹
def bE (l:L3):L3:=(-l.1,-l.2.1,-l.2.2)
def Sp.neg (s:Sp):Sp:=⟨if s.b then 0 else -s.hi,if s.a then 0 else -s.lo,s.b,s.a⟩
def Sp.emp (s:Sp):Bool:=!s.a&&!s.b&&decide (fJ s.lo s.hi≥0)
def Nz (l:L3):Prop:=¬(l.1=0/\l.2.1=0)
theorem sq_nonneg (x:Int):0<=x*x:=by
 rw [←Int.natAbs_mul_self];exact Int.natCast_nonneg _
theorem H5 (l:L3):iB l=((l.1*l.1+l.2.1*l.2.1:Int):Rat):=by unfold iB;simp
theorem Nz.norm {l:L3}(h:Nz l):iB l≠0:=by
 rw [H5]
 have h1:=sq_nonneg l.1
 have h2:=sq_nonneg l.2.1
 have h3:l.1*l.1+l.2.1*l.2.1≠0:=by
  intro e
  have e1:l.1*l.1=0:=by omega
  have e2:l.2.1*l.2.1=0:=by omega
  exact h ⟨(Int.mul_eq_zero.1 e1).elim id id,(Int.mul_eq_zero.1 e2).elim id id⟩
 exact_mod_cast h3
theorem Ri {V:View}{l t:Value}{L:L3}{x:Rat}(hl:sW V l L)(ht:RR V t x){k:Nat}(sl:l_ k L)(s1:Sz k x)(hk:20*k+19<274877906944) :
  ab prog 132 #[l,t] V fun r V'=>nY V' r (ef L x) (eg L x):=by
 refine (AV hl ht sl.1 sl.2.1 sl.2.2 s1 hk).mono ?_
 rintro r V2 l2 g
 have e1:ef L x=((L.1:Rat)*((-(L.2.2:Rat))*((L.1:Rat)*(L.1:Rat)+(L.2.1:Rat)*(L.2.1:Rat))⁻¹))+((L.2.1:Rat)*x):=by unfold ef iB;grind
 have e2:eg L x=((L.2.1:Rat)*((-(L.2.2:Rat))*((L.1:Rat)*(L.1:Rat)+(L.2.1:Rat)*(L.2.1:Rat))⁻¹))+((-(L.1:Rat))*x):=by unfold eg iB;grind
 rw [e1,e2];exact g
theorem Mn {L:L3}{x:Rat}{k:Nat}(sl:l_ k L)(s1:Sz k x):Sz (20*k+19) (ef L x):=by
 have e1:ef L x=((L.1:Rat)*((-(L.2.2:Rat))*((L.1:Rat)*(L.1:Rat)+(L.2.1:Rat)*(L.2.1:Rat))⁻¹))+((L.2.1:Rat)*x):=by unfold ef iB;grind
 rw [e1];exact xd sl.1 sl.2.1 sl.2.2 s1
theorem Mo {L:L3}{x:Rat}{k:Nat}(sl:l_ k L)(s1:Sz k x):Sz (20*k+19) (eg L x):=by
 have e2:eg L x=((L.2.1:Rat)*((-(L.2.2:Rat))*((L.1:Rat)*(L.1:Rat)+(L.2.1:Rat)*(L.2.1:Rat))⁻¹))+((-(L.1:Rat))*x):=by unfold eg iB;grind
 rw [e2];exact xe sl.1 sl.2.1 sl.2.2 s1
theorem LM {V:View}{l p:Value}{L:L3}{x y:Rat}(hl:sW V l L)(hp:nY V p x y){k:Nat}(sl:l_ k L)(s1:Sz k x)(s2:Sz k y)(hk:16*k+16<274877906944) :
  ab prog 131 #[l,p] V fun r V'=>r=.int .i64 (au L x y).num.sign:=vT hl hp sl.1 sl.2.1 sl.2.2 s1 s2 hk
theorem l_.rev {k:Nat}{L:L3}(h:l_ k L):l_ k (bE L):=by
 unfold l_ bE
 simp only [Rat.intCast_neg]
 exact ⟨h.1.neg,h.2.1.neg,h.2.2.neg⟩
theorem Mc {V:View}{l p:Value}{L:L3}{x y:Rat}(hl:RL V l L.1 L.2.1 L.2.2)(hp:RP V p x y){k:Nat}(sl:l_ k L)(s1:Sz k x)(s2:Sz k y)(hk:16*k+16<274877906944) :
  ab prog 76 #[l,p] V fun r V'=>r=.int .i64 (au L x y).num.sign:=yY hl hp sl.1 sl.2.1 sl.2.2 s1 s2 hk
structure P0 (V:View) (vs:List Value) (i:Int) (f a b c:Rat):Prop where
 h0:0<=i
 h3:i<=3
 row:∃(x1 x2:Int)(p:OA)(y1 y2:Int)(q:OA)(z1 z2:Int)(r:OA),vs=[.int .i64 x1,.int .i64 x2,.pointer p,.int .i64 y1,.int .i64 y2,.pointer q,.int .i64 z1,.int .i64 z2,.pointer r] /\
  RR V (.agg #[.int .i64 x1,.int .i64 x2,.pointer p]) (if 0<i then a*f else a)/\RR V (.agg #[.int .i64 y1,.int .i64 y2,.pointer q]) (if 1<i then b*f else b)/\RR V (.agg #[.int .i64 z1,.int .i64 z2,.pointer r]) (if 2<i then c*f else c)
theorem P0.le {V V':View}{vs:List Value}{i:Int}{f a b c:Rat}(h:P0 V vs i f a b c)(l:V.Le V'):P0 V' vs i f a b c:=by
 obtain ⟨h0,h3,x1,x2,p,y1,y2,q,z1,z2,r,e,g1,g2,g3⟩:=h
 exact ⟨h0,h3,x1,x2,p,y1,y2,q,z1,z2,r,e,g1.le l,g2.le l,g3.le l⟩
def DU (px py qx qy:Rat):L3:=N_ (-(qy-py)) (qx-px) (-(-(qy-py)*px+(qx-px)*py))
theorem Kk {px py qx qy:Rat}:(px=qx/\py=qy)↔(-(qy-py)=0/\qx-px=0):=⟨fun ⟨h1,h2⟩=>⟨by grind,by grind⟩,fun ⟨h1,h2⟩=>⟨by grind,by grind⟩⟩
def F9 (b:Bool)(xs ys:List Nat):Rat:=mkRat (aT b xs) (val ys)
def LX (b:Bool)(xs ys:List Nat):Bool:=kQ b xs&&decide (ag (val ys)=ys)&&!decide (ys=[])&&decide (Nat.gcd (val xs) (val ys)=1)
def SJ (b:Bool)(xs ys:List Nat):Bool:=!b&&decide (xs=[])&&decide (ys=[])
def Lm (b:Bool)(xs ys:List Nat)(no:Bool):Rat:=if no then 0 else F9 b xs ys
def G_ (b:Bool)(xs ys:List Nat)(no:Bool):Bool:=if no then SJ b xs ys else LX b xs ys
theorem EP {q:Rat}:LX (decide (q.num<0)) (ag q.num.natAbs) (ag q.den)=true/\F9 (decide (q.num<0)) (ag q.num.natAbs) (ag q.den)=q:=by
 constructor
 ·unfold LX
  have h1:kQ (decide (q.num<0)) (ag q.num.natAbs)=true:=by
   unfold kQ
   rw [ae]
   by_cases h:q.num<0
   ·have:ag q.num.natAbs≠[]:=fun e=>by have:=bq.1 e;omega
    simp [h,this]
   ·simp [h]
  have h2:ag q.den≠[]:=fun e=>q.den_nz (bq.1 e)
  rw [h1,ae,ae]
  simp [h2,q.reduced]
 ·unfold F9
  rw [aG,ae,Rat.mkRat_self]
theorem CV {V:View}{v:Value}{s:Sp}(h:El V v s){k:Nat}(hs:s.sz k)(hk:2*k<1099511627776) :
  ab prog 223 #[v] V fun r V'=>r=.bool s.emp:=by
 obtain ⟨x1,x2,p,y1,y2,q,rfl,h1,h2⟩:=h
 refine rQ x1 x2 p y1 y2 q s.a s.b V _ ⟨fun ha=>⟨fun hb V1 l1=>(ka (h1.le l1) (h2.le l1) hs.1 hs.2 (by omega)).mono ?_,fun hb V4 l4=>?_⟩,fun ha V5 l5=>?_⟩
 ·rintro r V2 l2 rfl
  exact ⟨_,rfl,fun V3 l3=>by rw [Bool.not_eq_true'] at ha hb;simp [Sp.emp,ha,hb]⟩
 ·rw [Bool.not_eq_false'] at hb;simp [Sp.emp,hb]
 ·rw [Bool.not_eq_false'] at ha;simp [Sp.emp,ha]
def Po (V:View)(v:Value)(b1:Bool)(Kr Kt:List Nat)(b2:Bool)(Ks Ku:List Nat)(na nb:Bool):Prop:=∃p n c p' n' c' q m e q' m' e',v=.agg #[.bool b1,.slice p n c,.slice p' n' c',.bool b2,.slice q m e,.slice q' m' e',.bool na,.bool nb] /\
 I8 V (.agg #[.bool b1,.slice p n c,.slice p' n' c']) b1 Kr Kt/\I8 V (.agg #[.bool b2,.slice q m e,.slice q' m' e']) b2 Ks Ku
theorem Po.le {V V':View}{v:Value}{b1:Bool}{Kr Kt:List Nat}{b2:Bool}{Ks Ku:List Nat}{na nb:Bool}(h:Po V v b1 Kr Kt b2 Ks Ku na nb)(l:V.Le V'):Po V' v b1 Kr Kt b2 Ks Ku na nb:=by
 obtain ⟨p,n,c,p',n',c',q,m,e,q',m',e',rfl,h1,h2⟩:=h
 exact ⟨_,_,_,_,_,_,_,_,_,_,_,_,rfl,h1.le l,h2.le l⟩
def OQ (b1:Bool)(Kr Kt:List Nat)(b2:Bool)(Ks Ku:List Nat)(na nb:Bool):Sp:=⟨Lm b1 Kr Kt na,Lm b2 Ks Ku nb,na,nb⟩
def okW (b1:Bool)(Kr Kt:List Nat)(b2:Bool)(Ks Ku:List Nat)(na nb:Bool):Bool:=G_ b1 Kr Kt na&&G_ b2 Ks Ku nb&&!(OQ b1 Kr Kt b2 Ks Ku na nb).emp
def Up (l:L3)(s:Sp):Prop:=cE l=true/\s.can/\s.emp=false
theorem RE.raw {V:View}{v:Value}{q:Rat}{no:Bool}(h:RE V v q no)(hc:no=true->q=0):∃b xs ys,I8 V v b xs ys/\G_ b xs ys no=true/\Lm b xs ys no=q/\(∀k,Sz k q->xs.length<=k/\ys.length<=k):=by
 cases no with
 | true=>
  exact ⟨false,[],[],h.1 rfl,rfl,by rw [hc rfl];rfl,fun k _=>⟨Nat.zero_le _,Nat.zero_le _⟩⟩
 | false=>
  obtain ⟨p,n,c,p',n',c',rfl,h1,h2⟩:=h.2 rfl
  exact ⟨_,_,_,⟨_,_,_,_,_,_,rfl,h1,h2⟩,EP.1,EP.2,fun k hk=>⟨af hk.1,af hk.2⟩⟩
theorem sW.U1 {V:View}{r:Value}{l:L3}(h:RL V r ((l.1:Rat)).num ((l.2.1:Rat)).num ((l.2.2:Rat)).num):RL V r l.1 l.2.1 l.2.2:=by
 simpa [Rat.num_intCast] using h
def kW (x y:Rat):Rat:=if 0<fJ y x then y else x
def kX (x y:Rat):Rat:=if fJ y x<0 then y else x
theorem kn (x y:Rat):(x<y/\fJ x y=-1)\/(x=y/\fJ x y=0)\/(y<x/\fJ x y=1):=by
 by_cases h1:x<y
 ·exact .inl ⟨h1,Ex.1 h1⟩
 ·by_cases h2:x=y
  ·exact .inr (.inl ⟨h2,gO.1 h2⟩)
  ·have h3:y<x:=by grind
   exact .inr (.inr ⟨h3,Ew.1 h3⟩)
theorem Sp.fw {s:Sp}:s.emp=false↔(s.a=true\/s.b=true\/s.lo<s.hi):=by
 unfold Sp.emp
 rcases kn s.lo s.hi with ⟨h,e⟩|⟨h,e⟩|⟨h,e⟩<;>rw [e]<;>cases s.a<;>cases s.b<;>simp<;>grind
def Sp.meet (v w:Sp):Sp:=⟨if v.a then w.lo else if w.a then v.lo else kW v.lo w.lo,if v.b then w.hi else if w.b then v.hi else kX v.hi w.hi,if v.a then w.a else false,if v.b then w.b else false⟩
theorem Sp.Bz {v w:Sp}(h1:v.can)(h2:w.can):(v.meet w).can:=by
 unfold Sp.meet
 constructor<;>dsimp only
 ·cases hv:v.a with
  | false=>intro h;cases h
  | true=>exact fun h=>h2.1 h
 ·cases hv:v.b with
  | false=>intro h;cases h
  | true=>exact fun h=>h2.2 h
def Sp.cA (s:Sp):Rat:=if s.a then (if s.b then 0 else s.hi-((1:Int):Rat)) else if s.b then s.lo+((1:Int):Rat) else (s.lo+s.hi)*((2:Int):Rat)⁻¹
theorem Sp.EX {s:Sp}(h:s.emp=false):(s.a=false->s.lo<s.cA)/\(s.b=false->s.cA<s.hi):=by
 rw [Sp.fw] at h
 unfold Sp.cA
 cases ha:s.a<;>cases hb:s.b<;>simp [ha,hb] at h⊢<;> grind
def bj (m l:L3):Rat:=((m.1:Rat)*(l.2.1:Rat))+((m.2.1:Rat)*(-(l.1:Rat)))
def dv (m l:L3):Rat:=au m (ef l 0) (eg l 0)
theorem bG (m l:L3)(t:Rat):au m (ef l t) (eg l t)=dv m l+bj m l*t:=by
 unfold dv au bj ef eg;grind
def bS (m l:L3):Rat:=-(dv m l*(bj m l)⁻¹)
def cq (l:L3)(s:Sp)(m:L3):Sp:=
 if (bj m l).num.sign==0 then s else if (bj m l).num.sign==1 then s.meet ⟨bS m l,0,false,true⟩ else s.meet ⟨0,bS m l,true,false⟩
def cH (l:L3)(s:Sp)(m:L3):Bool:=
 if (bj m l).num.sign==0 then decide ((dv m l).num.sign>0) else !(cq l s m).emp
theorem kH (q:Rat):(q=0/\q.num.sign=0)\/(0<q/\q.num.sign=1)\/(q<0/\q.num.sign=-1):=by
 have h1:=@BE q
 have h2:=@BF q
 have h3:=@Rat.num_eq_zero q
 rcases Int.lt_trichotomy q.num 0 with h|h|h
 ·exact .inr (.inr ⟨h1.1 h,Int.sign_eq_neg_one_of_neg h⟩)
 ·exact .inl ⟨h3.1 h,by rw [h];rfl⟩
 ·exact .inr (.inl ⟨h2.1 h,Int.sign_eq_one_of_pos h⟩)
theorem G4 {l:L3}{s:Sp}{m:L3}(he:s.emp=false)(hb:cH l s m=true):(cq l s m).emp=false:=by
 unfold cH at hb
 split at hb
 ·rename_i h
  unfold cq
  rw [if_pos h];exact he
 ·simpa using hb
theorem G5 {l:L3}{s:Sp}{m:L3}(hc:s.can):(cq l s m).can:=by
 unfold cq
 split
 ·exact hc
 ·split
  ·exact Sp.Bz hc ⟨(fun h=>nomatch h),fun _=>rfl⟩
  ·exact Sp.Bz hc ⟨fun _=>rfl,(fun h=>nomatch h)⟩
theorem val_rev (m:L3)(x y:Rat):au (bE m) x y=-au m x y:=by
 unfold au bE;simp only [Rat.intCast_neg];grind
def bz (l m:L3):Rat:=((l.1:Rat)*(m.2.1:Rat))-((l.2.1:Rat)*(m.1:Rat))
def CJ (l m:L3):Rat:=(((l.2.1:Rat)*(m.2.2:Rat))-((l.2.2:Rat)*(m.2.1:Rat)))*(bz l m)⁻¹
def CK (l m:L3):Rat:=(((l.2.2:Rat)*(m.1:Rat))-((l.1:Rat)*(m.2.2:Rat)))*(bz l m)⁻¹
theorem l_.ag {k:Nat}{l:L3}(h:l_ k l)(hk:k<=1099511627776):(ag l.1.natAbs).length<=1099511627776/\(ag l.2.1.natAbs).length<=1099511627776/\(ag l.2.2.natAbs).length<=1099511627776:=by
 have d1:=af (show l.1.natAbs<2^k from h.1.1)
 have d2:=af (show l.2.1.natAbs<2^k from h.2.1.1)
 have d3:=af (show l.2.2.natAbs<2^k from h.2.2.1)
 exact ⟨by omega,by omega,by omega⟩
def Pj (V:View)(ad:Addr)(l:L3)(s:Sp):Prop:=∃xs:List Value,Mv V (.agg xs.toArray) l s/\∀i x,xs[i]?=some x->V.at (ad.add i) x
theorem Pj.le {V V':View}{ad:Addr}{l:L3}{s:Sp}(h:Pj V ad l s)(e:V.Le V'):Pj V' ad l s:=by
 obtain ⟨xs,h1,h2⟩:=h;exact ⟨xs,h1.le e,fun i x hx=>e.at (h2 i x hx)⟩
structure K5 (V:View) (p:OA) (n:Nat) (fs:List (L3×Sp)):Prop where
 len:n=fs.length
 at_:∀(i:Nat)(h:i<fs.length),∃ad,ai p (i*14)=some ad/\Pj V ad fs[i].1 fs[i].2
theorem K5.le {V V':View}{p:OA}{n:Nat}{fs:List (L3×Sp)}(h:K5 V p n fs)(e:V.Le V'):K5 V' p n fs:=⟨h.len,fun i hi=>by obtain ⟨ad,h1,h2⟩:=h.at_ i hi;exact ⟨ad,h1,h2.le e⟩⟩
theorem lD {p:OA}{j:Nat}{ad:Addr}(h:ai p j=some ad):p.isSome=true:=by
 cases p with
 | none=>cases h
 | some a=>rfl
def Pq (V:View)(ad:Addr)(s:Sp):Prop:=∃xs:List Value,MP V (.agg xs.toArray) s/\∀i x,xs[i]?=some x->V.at (ad.add i) x
theorem Pq.le {V V':View}{ad:Addr}{s:Sp}(h:Pq V ad s)(e:V.Le V'):Pq V' ad s:=by
 obtain ⟨xs,h1,h2⟩:=h;exact ⟨xs,h1.le e,fun i x hx=>e.at (h2 i x hx)⟩
structure PZ (V:View) (p:OA) (n:Nat) (ss:List Sp):Prop where
 len:n=ss.length
 at_:∀(i:Nat)(h:i<ss.length),∃ad,ai p (i*8)=some ad/\Pq V ad ss[i]
theorem PZ.le {V V':View}{p:OA}{n:Nat}{ss:List Sp}(h:PZ V p n ss)(e:V.Le V'):PZ V' p n ss:=⟨h.len,fun i hi=>by obtain ⟨ad,h1,h2⟩:=h.at_ i hi;exact ⟨ad,h1,h2.le e⟩⟩
def Sp.la (s:Sp)(t:Rat):Int:=if s.a then 1 else fJ t s.lo
def Sp.lb (s:Sp)(t:Rat):Int:=if s.b then -1 else fJ t s.hi
theorem IX {px py qx qy:Rat}:((lR px py qx qy).1.num / (gx (lR px py qx qy).1.num (lR px py qx qy).2.1.num (lR px py qx qy).2.2.num:Int),(lR px py qx qy).2.1.num / (gx (lR px py qx qy).1.num (lR px py qx qy).2.1.num (lR px py qx qy).2.2.num:Int),(lR px py qx qy).2.2.num / (gx (lR px py qx qy).1.num (lR px py qx qy).2.1.num (lR px py qx qy).2.2.num:Int))=DU px py qx qy:=by
 unfold lR DU N_ zC
 have e:∀x:Rat,(-x).den=x.den:=fun x=>rfl
 rw [e (-(qy-py)*px+(qx-px)*py)]
 rfl
theorem IY {px py qx qy:Rat}:((lR px py qx qy).1.num=0/\(lR px py qx qy).2.1.num=0)↔(px=qx/\py=qy):=by
 unfold lR
 dsimp only
 generalize hf:(-(qy-py)).den*(qx-px).den*(-(-(qy-py)*px+(qx-px)*py)).den=f
 have hf0:f≠0:=by rw [←hf];exact Nat.mul_ne_zero (Nat.mul_ne_zero (Rat.den_nz _) (Rat.den_nz _)) (Rat.den_nz _)
 have hf1:((f:Int):Rat)≠0:=by exact_mod_cast hf0
 rw [Rat.num_eq_zero,Rat.num_eq_zero,Rat.mul_eq_zero,Rat.mul_eq_zero,or_iff_left hf1,or_iff_left hf1]
 exact Kk.symm
theorem F7 {V:View}{u w:Value}{px py qx qy:Rat}(hp:RP V u px py)(hq:RP V w qx qy){k:Nat}(s1:Sz k px)(s2:Sz k py)(s3:Sz k qx)(s4:Sz k qy)(hk1:1<=k)(hk:64*k+64<274877906944) :
  ab prog 11 #[u,w] V fun r V'=>(px=qx/\py=qy->∃l,r=.tuple #[l,.bool false]/\RL V' l 0 0 0)/\(¬(px=qx/\py=qy)->∃l,r=.tuple #[l,.bool true]/\RL V' l (DU px py qx qy).1 (DU px py qx qy).2.1 (DU px py qx qy).2.2):=by
 refine (kM hp hq s1 s2 s3 s4 hk1 hk).mono ?_
 rintro r V2 l2 ⟨m1,m2⟩
 have e:=IX (px:=px) (py:=py) (qx:=qx) (qy:=qy)
 rw [IY] at m1 m2
 refine ⟨m1,fun h=>?_⟩
 obtain ⟨l,hl,g⟩:=m2 h
 rw [←e]
 exact ⟨l,hl,g⟩
theorem Uq.ex {V:View}{v:Value}{l:L3}{s:Sp}(h:K6 V v l s):∃(x1 x2:Int)(p:OA)(y1 y2:Int)(q:OA)(z1 z2:Int)(r:OA)(u1 u2:Int)(t:OA)(w1 w2:Int)(o:OA),
 v=.agg #[.int .i64 x1,.int .i64 x2,.pointer p,.int .i64 y1,.int .i64 y2,.pointer q,.int .i64 z1,.int .i64 z2,.pointer r,.int .i64 u1,.int .i64 u2,.pointer t,.int .i64 w1,.int .i64 w2,.pointer o,.bool s.a,.bool s.b]:=by
 obtain ⟨_,_,_,_,_,_,_,_,_,_,_,_,_,_,_,e,-⟩:=h;exact ⟨_,_,_,_,_,_,_,_,_,_,_,_,_,_,_,e⟩
theorem CW {V:View}{v w:Value}{x y:Rat}(hx:RR V v x)(hy:RR V w y){k:Nat}(sx:Sz k x)(sy:Sz k y)(hk:2*k<1099511627776) :
  ab prog 222 #[v,w] V fun r V'=>RR V' r (kW x y):=by
 have hx0:=hx
 have hy0:=hy
 obtain ⟨a,b,c,rfl⟩:=hx.shape
 obtain ⟨d,e,f,rfl⟩:=hy.shape
 refine Ce a b c d e f V _ fun V1 l1=>(ka (hy0.le l1) (hx0.le l1) sy sx (by omega)).mono ?_
 rintro r V2 l2 rfl
 unfold kW
 exact ⟨_,rfl,fun h V3 l3=>by rw [if_pos (of_decide_eq_true h)];exact hy0.le (l1.trans (l2.trans l3)),fun h V4 l4=>by rw [if_neg (of_decide_eq_false h)];exact hx0.le (l1.trans (l2.trans l4))⟩
theorem CX {V:View}{v w:Value}{x y:Rat}(hx:RR V v x)(hy:RR V w y){k:Nat}(sx:Sz k x)(sy:Sz k y)(hk:2*k<1099511627776) :
  ab prog 145 #[v,w] V fun r V'=>RR V' r (kX x y):=by
 have hx0:=hx
 have hy0:=hy
 obtain ⟨a,b,c,rfl⟩:=hx.shape
 obtain ⟨d,e,f,rfl⟩:=hy.shape
 refine Cf a b c d e f V _ fun V1 l1=>(ka (hy0.le l1) (hx0.le l1) sy sx (by omega)).mono ?_
 rintro r V2 l2 rfl
 unfold kX
 exact ⟨_,rfl,fun h V3 l3=>by rw [if_pos (of_decide_eq_true h)];exact hy0.le (l1.trans (l2.trans l3)),fun h V4 l4=>by rw [if_neg (of_decide_eq_false h)];exact hx0.le (l1.trans (l2.trans l4))⟩
theorem Sp.zD {v w:Sp}{k:Nat}(h1:v.sz k)(h2:w.sz k):(v.meet w).sz k:=by
 unfold Sp.meet Sp.sz kW kX
 constructor<;>dsimp only
 ·split
  ·exact h2.1
  ·split
   ·exact h1.1
   ·split
    ·exact h2.1
    ·exact h1.1
 ·split
  ·exact h2.2
  ·split
   ·exact h1.2
   ·split
    ·exact h2.2
    ·exact h1.2
theorem xw {V:View}{v w:Value}{s t:Sp}(h:El V v s)(h':El V w t){k:Nat}(hs:s.sz k)(ht:t.sz k)(hk:2*k<1099511627776) :
  ab prog 195 #[v,w] V fun r V'=>∃u,r=.tuple #[u,.bool (!(s.meet t).emp)]/\El V' u (s.meet t):=by
 obtain ⟨x1,x2,p,y1,y2,q,rfl,h1,h2⟩:=h
 obtain ⟨u1,u2,o,w1,w2,j,rfl,g1,g2⟩:=h'
 have Rx:s.a=true->(s.meet t).lo=t.lo/\(s.meet t).a=t.a:=fun e=>by simp [Sp.meet,e]
 have lo2:s.a=false->t.a=false->(s.meet t).lo=kW s.lo t.lo:=fun e e'=>by simp [Sp.meet,e,e']
 have lo3:s.a=false->t.a=true->(s.meet t).lo=s.lo:=fun e e'=>by simp [Sp.meet,e,e']
 have T9:s.a=false->(s.meet t).a=s.a:=fun e=>by simp [Sp.meet,e]
 have hi1:s.b=true->(s.meet t).hi=t.hi/\(s.meet t).b=t.b:=fun e=>by simp [Sp.meet,e]
 have hi2:s.b=false->t.b=false->(s.meet t).hi=kX s.hi t.hi:=fun e e'=>by simp [Sp.meet,e,e']
 have hi3:s.b=false->t.b=true->(s.meet t).hi=s.hi:=fun e e'=>by simp [Sp.meet,e,e']
 have hi4:s.b=false->(s.meet t).b=s.b:=fun e=>by simp [Sp.meet,e]
 refine vk x1 x2 p y1 y2 q s.a s.b u1 u2 o w1 w2 j t.a t.b V _ ⟨fun z V1=>RR V1 (.agg #[.int .i64 z.1,.int .i64 z.2.1,.pointer z.2.2.1]) (s.meet t).lo/\RR V1 (.agg #[.int .i64 z.2.2.2.1,.int .i64 z.2.2.2.2.1,.pointer z.2.2.2.2.2.1]) s.hi/\z.2.2.2.2.2.2.1=(s.meet t).a/\z.2.2.2.2.2.2.2=s.b,⟨fun ha=>?_,fun ha=>⟨fun hb V1 l1=>(CW (h1.le l1) (g1.le l1) hs.1 ht.1 hk).mono ?_,fun hb=>?_⟩⟩,?_⟩
 ·refine ⟨(u1,u2,o,y1,y2,q,t.a,s.b),by and_intros<;>rfl,?_,h2,(Rx ha).2.symm,rfl⟩
  rw [(Rx ha).1];exact g1
 ·rintro r V2 l2 g
  rw [Bool.not_eq_true'] at hb
  have g0:=g
  obtain ⟨a1,a2,a3,rfl⟩:=g.shape
  refine ⟨_,_,_,rfl,(a1,a2,a3,y1,y2,q,s.a,s.b),by and_intros<;>rfl,?_,h2.le (l1.trans l2),(T9 ha).symm,rfl⟩
  rw [lo2 ha hb];exact g0
 ·rw [Bool.not_eq_false'] at hb
  refine ⟨(x1,x2,p,y1,y2,q,s.a,s.b),by and_intros<;>rfl,?_,h2,(T9 ha).symm,rfl⟩
  rw [lo3 ha hb];exact h1
 ·rintro ⟨z1,z2,z3,z4,z5,z6,z7,z8⟩ V3 l3 ⟨k1,k2,k3,k4⟩
  dsimp only at k1 k2 k3 k4
  subst k3 k4
  refine ⟨rfl,fun z V1=>RR V1 (.agg #[.int .i64 z.1,.int .i64 z.2.1,.pointer z.2.2.1]) (s.meet t).lo/\RR V1 (.agg #[.int .i64 z.2.2.2.1,.int .i64 z.2.2.2.2.1,.pointer z.2.2.2.2.2.1]) (s.meet t).hi/\z.2.2.2.2.2.2.1=(s.meet t).a/\z.2.2.2.2.2.2.2=(s.meet t).b,⟨fun ha=>?_,fun ha=>⟨fun hb V4 l4=>(CX (h2.le (l3.trans l4)) (g2.le (l3.trans l4)) hs.2 ht.2 hk).mono ?_,fun hb=>?_⟩⟩,?_⟩
  ·refine ⟨(z1,z2,z3,w1,w2,j,(s.meet t).a,t.b),by and_intros<;>rfl,k1,?_,rfl,(hi1 ha).2.symm⟩
   rw [(hi1 ha).1];exact g2.le l3
  ·rintro r V5 l5 g
   rw [Bool.not_eq_true'] at hb
   have g0:=g
   obtain ⟨a1,a2,a3,rfl⟩:=g.shape
   refine ⟨_,_,_,rfl,(z1,z2,z3,a1,a2,a3,(s.meet t).a,s.b),by and_intros<;>rfl,k1.le (l4.trans l5),?_,rfl,(hi4 ha).symm⟩
   rw [hi2 ha hb];exact g0
  ·rw [Bool.not_eq_false'] at hb
   refine ⟨(z1,z2,z3,z4,z5,z6,(s.meet t).a,s.b),by and_intros<;>rfl,k1,?_,rfl,(hi4 ha).symm⟩
   rw [hi3 ha hb];exact k2
  ·rintro ⟨y1,y2,y3,y4,y5,y6,y7,y8⟩ V6 l6 ⟨j1,j2,j3,j4⟩
   dsimp only at j1 j2 j3 j4
   subst j3 j4
   refine ⟨rfl,fun V7 l7=>(CV ⟨_,_,_,_,_,_,rfl,j1.le l7,j2.le l7⟩ (Sp.zD hs ht) hk).mono ?_⟩
   rintro r V8 l8 rfl
   exact ⟨_,rfl,fun V9 l9=>⟨_,rfl,_,_,_,_,_,_,rfl,j1.le (l7.trans (l8.trans l9)),j2.le (l7.trans (l8.trans l9))⟩⟩
theorem my {L M:L3}{k:Nat}(sl:l_ k L)(sm:l_ k M):Sz (4*k+3) (bj M L):=df sm.1 sm.2.1 sl.2.1 sl.1.neg
theorem GM {L M:L3}:(((M.1:Rat)*((L.1:Rat)*(((-(L.2.2:Rat))*(((L.1:Rat)*(L.1:Rat))+((L.2.1:Rat)*(L.2.1:Rat)))⁻¹))))+((M.2.1:Rat)*((L.2.1:Rat)*(((-(L.2.2:Rat))*(((L.1:Rat)*(L.1:Rat))+((L.2.1:Rat)*(L.2.1:Rat)))⁻¹)))))+(M.2.2:Rat)=dv M L:=by
 unfold dv au ef eg iB;grind
theorem mw {L M:L3}{k:Nat}(sl:l_ k L)(sm:l_ k M):Sz (50*k+49) (dv M L):=by
 rw [←GM]
 exact Sz.mono (j8 (k:=10*k+9) (sm.1.mono (by omega)) (sm.2.1.mono (by omega)) (sm.2.2.mono (by omega)) (dB sl.1 sl.2.1 sl.2.2) (dC sl.1 sl.2.1 sl.2.2)) (by omega)
theorem zW {L M:L3}{k:Nat}(sl:l_ k L)(sm:l_ k M):Sz (60*k+60) (bS M L):=Sz.mono ((mw sl sm).mul (gK (my sl sm))).neg (by omega)
theorem KW (k:Nat)(hk:0<k):Sz k (0:Rat):=⟨by show (0:Int).natAbs<_;exact Nat.lt_of_lt_of_le (by decide) (Nat.one_le_two_pow),Nat.one_lt_two_pow (by omega)⟩
theorem AP {V:View}{l v m:Value}{L:L3}{s:Sp}{M:L3}(hl:sW V l L)(hv:El V v s)(hm:sW V m M){k:Nat}(sl:l_ k L)(hs:s.sz k)(sm:l_ k M)(hk:200*k+200<274877906944) :
  ab prog 160 #[l,v,m] V fun r V'=>∃w,r=.tuple #[w,.bool (cH L s M)]/\El V' w (cq L s M):=by
 have hl0:=hl
 have hv0:=hv
 have hm0:=hm
 obtain ⟨_,_,_,_,_,_,_,_,_,rfl,-,-,-⟩:=hl
 obtain ⟨_,_,_,_,_,_,rfl,-,-⟩:=hv
 obtain ⟨_,_,_,_,_,_,_,_,_,rfl,-,-,-⟩:=hm
 have hs':s.sz (60*k+60):=⟨hs.1.mono (by omega),hs.2.mono (by omega)⟩
 have z:=KW (60*k+60) (by omega)
 refine wK _ _ _ _ _ _ _ _ _ _ _ _ _ _ _ _ _ _ _ _ _ _ _ _ _ _ V _ fun V1 l1=>(dw (hm0.le l1) sm.1 sm.2.1 sm.2.2 (by omega)).mono ?_
 rintro r V2 l2 g1
 have g10:=g1
 obtain ⟨_,_,_,_,_,_,rfl,-,-⟩:=g1
 refine ⟨_,_,_,_,_,_,rfl,fun V3 l3=>(kd (hl0.le (l1.trans (l2.trans l3))) sl.1 sl.2.1 sl.2.2 (by omega)).mono ?_⟩
 rintro r V4 l4 g2
 have g20:=g2
 obtain ⟨_,_,_,_,_,_,rfl,-,-⟩:=g2
 refine ⟨_,_,_,_,_,_,rfl,fun V5 l5=>(ke (g10.le (l3.trans (l4.trans l5))) (g20.le l5) sm.1 sm.2.1 sl.2.1 sl.1.neg (by omega)).mono ?_⟩
 rintro r V6 l6 g3
 have nw:RR V6 r (bj M L):=g3
 obtain ⟨_,_,_,rfl⟩:=g3.shape
 have L6:V.Le V6:=l1.trans (l2.trans (l3.trans (l4.trans (l5.trans l6))))
 refine ⟨_,_,_,rfl,fun V7 l7=>(mO (hl0.le (L6.trans l7)) sl.1 sl.2.1 sl.2.2 (by omega)).mono ?_⟩
 rintro r V8 l8 g4
 have He:=g4
 obtain ⟨_,_,_,_,_,_,rfl,-,-⟩:=g4
 refine ⟨_,_,_,_,_,_,rfl,fun V9 l9=>(lf (k:=10*k+9) (hm0.le (L6.trans (l7.trans (l8.trans l9)))) (He.le l9) (sm.1.mono (by omega)) (sm.2.1.mono (by omega)) (sm.2.2.mono (by omega)) (dB sl.1 sl.2.1 sl.2.2) (dC sl.1 sl.2.1 sl.2.2) (by omega)).mono ?_⟩
 rintro r jm l10 g5
 rw [GM] at g5
 have KD:=g5
 obtain ⟨_,_,_,rfl⟩:=g5.shape
 have xf:V6.Le jm:=l7.trans (l8.trans (l9.trans l10))
 refine ⟨_,_,_,rfl,fun kR bW=>(eE (nw.le (xf.trans bW)) (my sl sm) (by omega)).mono ?_⟩
 rintro r nZ dh rfl
 have Gx:jm.Le nZ:=bW.trans dh
 refine ⟨_,rfl,fun hz sY dL=>(eE (KD.le (Gx.trans dL)) (mw sl sm) (by omega)).mono ?_,fun hz=>⟨fun h1 oa eF=>(oz (KD.le (Gx.trans eF)) (nw.le (xf.trans (Gx.trans eF))) (mw sl sm) (my sl sm) (by omega)).mono ?_,fun h1 CG je=>(oz (KD.le (Gx.trans je)) (nw.le (xf.trans (Gx.trans je))) (mw sl sm) (my sl sm) (by omega)).mono ?_⟩⟩
 ·rintro r pF fk rfl
  have eB:cH L s M=decide ((dv M L).num.sign>0):=by unfold cH;rw [if_pos hz]
  have eS:cq L s M=s:=by unfold cq;rw [if_pos hz]
  rw [eB,eS]
  exact ⟨_,rfl,fun n_ eZ=>⟨_,rfl,hv0.le (L6.trans (xf.trans (Gx.trans (dL.trans (fk.trans eZ)))))⟩⟩
 ·have eS:cq L s M=s.meet ⟨bS M L,0,false,true⟩:=by unfold cq;rw [if_neg (by rw [hz];exact Bool.false_ne_true),if_pos h1]
  have eB:cH L s M=!(s.meet ⟨bS M L,0,false,true⟩).emp:=by rw [←eS];unfold cH;rw [if_neg (by rw [hz];exact Bool.false_ne_true)]
  rw [eB,eS]
  rintro r pH ew g6
  have Nj:=g6
  obtain ⟨_,_,_,rfl⟩:=g6.shape
  refine ⟨_,_,_,rfl,fun sE fo=>(ow (Nj.le fo) ((mw sl sm).mul (gK (my sl sm))) (by omega)).mono ?_⟩
  rintro r xh fl g7
  have JA:RR xh r (bS M L):=g7
  obtain ⟨_,_,_,rfl⟩:=g7.shape
  refine ⟨_,_,_,rfl,fun CF jN=>(xw (t:=⟨bS M L,0,false,true⟩) (hv0.le (L6.trans (xf.trans (Gx.trans (eF.trans (ew.trans (fo.trans (fl.trans jN)))))))) ⟨_,_,_,_,_,_,rfl,JA.le jN,RR.zero _⟩ hs' ⟨zW sl sm,z⟩ (by omega)).mono ?_⟩
  rintro r xi gG ⟨w,rfl,g8⟩
  have QA:=g8
  obtain ⟨_,_,_,_,_,_,rfl,-,-⟩:=g8
  exact ⟨_,_,_,_,_,_,_,_,_,rfl,fun vO kO=>⟨_,rfl,QA.le kO⟩⟩
 ·have eS:cq L s M=s.meet ⟨0,bS M L,true,false⟩:=by unfold cq;rw [if_neg (by rw [hz];exact Bool.false_ne_true),if_neg (by rw [h1];exact Bool.false_ne_true)]
  have eB:cH L s M=!(s.meet ⟨0,bS M L,true,false⟩).emp:=by rw [←eS];unfold cH;rw [if_neg (by rw [hz];exact Bool.false_ne_true)]
  rw [eB,eS]
  rintro r pH ew g6
  have Nj:=g6
  obtain ⟨_,_,_,rfl⟩:=g6.shape
  refine ⟨_,_,_,rfl,fun sE fo=>(ow (Nj.le fo) ((mw sl sm).mul (gK (my sl sm))) (by omega)).mono ?_⟩
  rintro r xh fl g7
  have JA:RR xh r (bS M L):=g7
  obtain ⟨_,_,_,rfl⟩:=g7.shape
  refine ⟨_,_,_,rfl,fun CF jN=>(xw (t:=⟨0,bS M L,true,false⟩) (hv0.le (L6.trans (xf.trans (Gx.trans (je.trans (ew.trans (fo.trans (fl.trans jN)))))))) ⟨_,_,_,_,_,_,rfl,RR.zero _,JA.le jN⟩ hs' ⟨z,zW sl sm⟩ (by omega)).mono ?_⟩
  rintro r xi gG ⟨w,rfl,g8⟩
  have QA:=g8
  obtain ⟨_,_,_,_,_,_,rfl,-,-⟩:=g8
  exact ⟨_,_,_,_,_,_,_,_,_,rfl,fun vO kO=>⟨_,rfl,QA.le kO⟩⟩
structure CN (V:View) (p:OA) (n:Nat) (fs:List (L3×Sp)):Prop where
 len:n=fs.length
 at_:∀(i:Nat)(h:i<fs.length),∃ad,ai p (i*17)=some ad/\∃xs:List Value,K6 V (.agg xs.toArray) fs[i].1 fs[i].2/\∀j x,xs[j]?=some x->V.at (ad.add j) x
theorem CN.le {V V':View}{p:OA}{n:Nat}{fs:List (L3×Sp)}(h:CN V p n fs)(e:V.Le V'):CN V' p n fs:=⟨h.len,fun i hi=>by obtain ⟨ad,h1,xs,h2,h3⟩:=h.at_ i hi;exact ⟨ad,h1,xs,h2.le e,fun j x hx=>e.at (h3 j x hx)⟩⟩
theorem CN.nil {V:View}:CN V none 0 []:=⟨rfl,fun i hi=>by simp at hi⟩
theorem CN.one {V:View}{bk:Nat}{xs:List Value}{ty:TypeId}{l:L3}{s:Sp}(hb:V.bC bk (.cells xs.toArray ty (0,0)))(hf:K6 V (.agg xs.toArray) l s):CN V (some ⟨bk,0,none⟩) 1 [(l,s)]:=by
 refine ⟨rfl,fun i hi=>?_⟩
 obtain rfl:i=0:=by simpa using hi
 refine ⟨⟨bk,0,none⟩,by simp [ai,add_zero'],_,hf,fun j x hx=>?_⟩
 rw [add_zero']
 exact fN hb hx
theorem Jt {L M:L3}:((L.1:Rat)=(M.1:Rat)/\(L.2.1:Rat)=(M.2.1:Rat)/\(L.2.2:Rat)=(M.2.2:Rat))↔L=M:=by
 constructor
 ·rintro ⟨h1,h2,h3⟩
  exact Prod.ext (Rat.intCast_inj.1 h1) (Prod.ext (Rat.intCast_inj.1 h2) (Rat.intCast_inj.1 h3))
 ·rintro rfl
  exact ⟨rfl,rfl,rfl⟩
theorem JM {V:View}{v w:Value}{L M:L3}(hl:sW V v L)(hm:sW V w M){k:Nat}(sl:l_ k L)(sm:l_ k M)(hk:k+k<1099511627776) :
  ab prog 134 #[v,w] V fun r V'=>r=.bool (decide (L=M)):=by
 refine (AU hl hm sl.1 sl.2.1 sl.2.2 sm.1 sm.2.1 sm.2.2 hk).mono ?_
 rintro r V' l rfl
 rw [decide_eq_decide.2 Jt]
def PY (u:Value):Prop:=∃(x1 x2:Int)(p:OA)(y1 y2:Int)(q:OA),u=.agg #[.int .i64 x1,.int .i64 x2,.pointer p,.int .i64 y1,.int .i64 y2,.pointer q]
theorem ph {L M:L3}{k:Nat}(sl:l_ k L)(sm:l_ k M):Sz (4*k+3) (bz L M):=j9 sl.1 sl.2.1 sm.1 sm.2.1
theorem OR {L M:L3}{k:Nat}(sl:l_ k L)(sm:l_ k M):Sz (10*k+10) (CJ L M)/\Sz (10*k+10) (CK L M):=
 ⟨Sz.mono (((sl.2.1.mul sm.2.2).sub (sl.2.2.mul sm.2.1)).mul (gK (ph sl sm))) (by omega),Sz.mono (((sl.2.2.mul sm.1).sub (sl.1.mul sm.2.2)).mul (gK (ph sl sm))) (by omega)⟩
theorem Fl {V:View}{l m:Value}{L M:L3}(hl:sW V l L)(hm:sW V m M){k:Nat}(sl:l_ k L)(sm:l_ k M)(hk:20*k+20<274877906944) :
  ab prog 138 #[l,m] V fun r V'=>∃w,r=.tuple #[w,.bool (decide (bz L M≠0))]/\PY w/\(bz L M≠0->nY V' w (CJ L M) (CK L M)):=by
 have hl0:=hl
 have hm0:=hm
 obtain ⟨_,_,_,_,_,_,_,_,_,rfl,a1,a2,a3⟩:=hl
 obtain ⟨_,_,_,_,_,_,_,_,_,rfl,b1,b2,b3⟩:=hm
 have sd:=ph sl sm
 refine vt _ _ _ _ _ _ _ _ _ _ _ _ _ _ _ _ _ _ V _ fun V1 l1=>(dw (hl0.le l1) sl.1 sl.2.1 sl.2.2 (by omega)).mono ?_
 rintro r V2 l2 g1
 have g10:=g1
 obtain ⟨_,_,_,_,_,_,rfl,-,-⟩:=g1
 refine ⟨_,_,_,_,_,_,rfl,fun V3 l3=>(dw (hm0.le (l1.trans (l2.trans l3))) sm.1 sm.2.1 sm.2.2 (by omega)).mono ?_⟩
 rintro r V4 l4 g2
 have g20:=g2
 obtain ⟨_,_,_,_,_,_,rfl,-,-⟩:=g2
 refine ⟨_,_,_,_,_,_,rfl,fun V5 l5=>(fu (g10.le (l3.trans (l4.trans l5))) (g20.le l5) sl.1 sl.2.1 sm.1 sm.2.1 (by omega)).mono ?_⟩
 rintro r V6 l6 g3
 have nw:RR V6 r (bz L M):=g3
 obtain ⟨_,_,_,rfl⟩:=g3.shape
 have L6:V.Le V6:=l1.trans (l2.trans (l3.trans (l4.trans (l5.trans l6))))
 refine ⟨_,_,_,rfl,fun V7 l7=>(tD (nw.le l7)).mono ?_⟩
 rintro r V8 l8 rfl
 have L8:=l7.trans l8
 refine ⟨_,rfl,fun h V9 l9=>?_,fun h jm l10=>(eL (a2.le (L6.trans (L8.trans l10))) (b3.le (L6.trans (L8.trans l10))) sl.2.1 sm.2.2 (by omega)).mono ?_⟩
 ·have h:=of_decide_eq_true h
  have e:decide (bz L M≠0)=false:=by simp [h]
  rw [e]
  exact ⟨_,rfl,⟨_,_,_,_,_,_,rfl⟩,fun h'=>absurd h h'⟩
 ·have h:=of_decide_eq_false h
  have e:decide (bz L M≠0)=true:=by simp [h]
  rw [e]
  have PW:=L6.trans (L8.trans l10)
  rintro r kR bW q1
  have Ma:=q1
  obtain ⟨_,_,_,rfl⟩:=q1.shape
  refine ⟨_,_,_,rfl,fun nZ dh=>(eL (a3.le (PW.trans (bW.trans dh))) (b2.le (PW.trans (bW.trans dh))) sl.2.2 sm.2.1 (by omega)).mono ?_⟩
  rintro r sY dL q2
  have WG:=q2
  obtain ⟨_,_,_,rfl⟩:=q2.shape
  refine ⟨_,_,_,rfl,fun pF fk=>(oA (Ma.le (dh.trans (dL.trans fk))) (WG.le fk) (sl.2.1.mul sm.2.2) (sl.2.2.mul sm.2.1) (by omega)).mono ?_⟩
  rintro r n_ eZ q3
  have WH:=q3
  obtain ⟨_,_,_,rfl⟩:=q3.shape
  have PX:jm.Le n_:=bW.trans (dh.trans (dL.trans (fk.trans eZ)))
  refine ⟨_,_,_,rfl,fun oa eF=>(oz (WH.le eF) (nw.le (L8.trans (l10.trans (PX.trans eF)))) ((sl.2.1.mul sm.2.2).sub (sl.2.2.mul sm.2.1)) sd (by omega)).mono ?_⟩
  rintro r pH ew q4
  have WI:RR pH r (CJ L M):=q4
  obtain ⟨_,_,_,rfl⟩:=q4.shape
  have Pk:V.Le pH:=PW.trans (PX.trans (eF.trans ew))
  refine ⟨_,_,_,rfl,fun sE fo=>(eL (a3.le (Pk.trans fo)) (b1.le (Pk.trans fo)) sl.2.2 sm.1 (by omega)).mono ?_⟩
  rintro r xh fl p1
  have J1:=p1
  obtain ⟨_,_,_,rfl⟩:=p1.shape
  refine ⟨_,_,_,rfl,fun CF jN=>(eL (a1.le (Pk.trans (fo.trans (fl.trans jN)))) (b3.le (Pk.trans (fo.trans (fl.trans jN)))) sl.1 sm.2.2 (by omega)).mono ?_⟩
  rintro r xi gG p2
  have WB:=p2
  obtain ⟨_,_,_,rfl⟩:=p2.shape
  refine ⟨_,_,_,rfl,fun vO kO=>(oA (J1.le (jN.trans (gG.trans kO))) (WB.le kO) (sl.2.2.mul sm.1) (sl.1.mul sm.2.2) (by omega)).mono ?_⟩
  rintro r CG je p3
  have p30:=p3
  obtain ⟨_,_,_,rfl⟩:=p3.shape
  have SM:pH.Le CG:=fo.trans (fl.trans (jN.trans (gG.trans (kO.trans je))))
  refine ⟨_,_,_,rfl,fun Jf Dr=>(oz (p30.le Dr) (nw.le (L8.trans (l10.trans (PX.trans (eF.trans (ew.trans (SM.trans Dr))))))) ((sl.2.2.mul sm.1).sub (sl.1.mul sm.2.2)) sd (by omega)).mono ?_⟩
  rintro r I9 sM p4
  have p40:RR I9 r (CK L M):=p4
  obtain ⟨_,_,_,rfl⟩:=p4.shape
  exact ⟨_,_,_,rfl,fun Kw Aw=>⟨_,rfl,⟨_,_,_,_,_,_,rfl⟩,fun _=>⟨_,_,_,_,_,_,rfl,WI.le (SM.trans (Dr.trans (sM.trans Aw))),p40.le Aw⟩⟩⟩
theorem xJ {V:View}{p:OA}{n c:Nat}{ds:List Nat}(h:RD V p n c ds)(hm:ds.length<=1099511627776) :
  ab prog 105 #[.slice p n c] V fun r V'=>∃p1 n1 c1,r=.slice p1 n1 c1/\RN V' p1 n1 c1 (val ds):=by
 have hl:=h.len
 refine Eh p n c V _ ⟨aD ds,h.sl,by simp [hl],by omega,by omega,by simp,by simp [hl],?_,?_⟩
 ·intro v hv
  simp only [aD,List.mem_map] at hv
  obtain ⟨d,-,rfl⟩:=hv
  rfl
 ·intro bk J sp c' h1 h2 V1 l1 b hb
  simp only [Nat.zero_add,Nat.zero_mul,List.take_zero,List.nil_append] at hb h1 ⊢
  refine (cS (copied h.eu hl h1 hb) (by omega)).mono ?_
  rintro r V2 l2 ⟨k,rfl,g⟩
  rw [aN h.eu] at g
  exact ⟨_,_,_,rfl,fun J' V3 l3=>⟨_,_,_,rfl,g.le l3⟩⟩
theorem Fu {V:View}(b:Bool){p:OA}{n c:Nat}{ds:List Nat}(h:RD V p n c ds)(hm:ds.length<=1099511627776) :
  ab prog 107 #[.agg #[.bool b,.slice p n c]] V fun r V'=>RI V' r (aT b ds):=by
 refine Eg b p n c V _ fun V1 l1=>(xJ (h.le l1) hm).mono ?_
 rintro r V2 l2 ⟨p1,n1,c1,rfl,g⟩
 refine ⟨_,_,_,rfl,fun V3 l3=>(eQ b (g.le l3)).mono ?_⟩
 rintro r V4 l4 ⟨p2,n2,c2,rfl,g2⟩
 exact ⟨_,_,_,_,rfl,fun V5 l5=>⟨_,_,_,rfl,g2.le l5⟩⟩
theorem Hw {b:Bool}{ds:List Nat}(h:bP ds):(ag (aT b ds).natAbs).length<=ds.length:=by
 rw [dK];exact aZ h
theorem Fv {V:View}{v:Value}{b:Bool}{xs ys:List Nat}(h:I8 V v b xs ys)(m1:xs.length<=274877906944)(m2:ys.length<=274877906944) :
  ab prog 43 #[v] V fun r V'=>RQ V' r (F9 b xs ys):=by
 obtain ⟨p,n,c,q,m,e,rfl,hx,hy⟩:=h
 have d1:=Hw (b:=b) hx.eu
 have d2:=aZ hy.eu
 refine Ei b p n c q m e V _ fun V1 l1=>(xJ (hy.le l1) (by omega)).mono ?_
 rintro r V2 l2 ⟨p1,n1,c1,rfl,g⟩
 have gl:=g.len
 refine ⟨_,_,_,rfl,fun h0 V3 l3=>?_,fun h0 V4 l4=>(Fu b (hx.le (l1.trans (l2.trans l4))) (by omega)).mono ?_⟩
 ·have h0:((n1:Nat):Int)=0:=by simpa using h0
  have:ag (val ys)=[]:=List.length_eq_zero_iff.1 (by omega)
  have:val ys=0:=bq.1 this
  unfold F9
  rw [this,Rat.mkRat_zero]
  have:=RQ.zero (V:=V3)
  simpa using this
 ·have hd:val ys≠0:=fun e=>by
   rw [e] at gl
   have h0:¬((n1:Nat):Int)=0:=by simpa using h0
   exact h0 (by rw [gl];rfl)
  rintro r V5 l5 ⟨p2,n2,c2,rfl,g2⟩
  refine ⟨_,_,_,_,rfl,fun V6 l6=>(ki _ (g2.le l6) (g.le (l4.trans (l5.trans l6))) (by omega) (by omega) hd).mono ?_⟩
  rintro r V7 l7 k
  have k0:=k
  obtain ⟨_,_,_,_,_,_,rfl⟩:=k.shape
  exact ⟨_,_,_,_,_,_,_,rfl,fun V8 l8=>k0.le l8⟩
def Pm (V:View)(v:Value)(b1:Bool)(xs:List Nat)(b2:Bool)(ys:List Nat)(b3:Bool)(zs:List Nat):Prop:=∃p n c q m e s i j,v=.agg #[.bool b1,.slice p n c,.bool b2,.slice q m e,.bool b3,.slice s i j]/\RD V p n c xs/\RD V q m e ys/\RD V s i j zs
theorem Pm.le {V V':View}{v:Value}{b1:Bool}{xs:List Nat}{b2:Bool}{ys:List Nat}{b3:Bool}{zs:List Nat}(h:Pm V v b1 xs b2 ys b3 zs)(l:V.Le V'):Pm V' v b1 xs b2 ys b3 zs:=by
 obtain ⟨p,n,c,q,m,e,s,i,j,rfl,h1,h2,h3⟩:=h
 exact ⟨_,_,_,_,_,_,_,_,_,rfl,h1.le l,h2.le l,h3.le l⟩
def T8 (b1:Bool)(xs:List Nat)(b2:Bool)(ys:List Nat)(b3:Bool)(zs:List Nat):L3:=(aT b1 xs,aT b2 ys,aT b3 zs)
structure FW where
 b1:Bool
 xs:List Nat
 b2:Bool
 ys:List Nat
 b3:Bool
 zs:List Nat
 c1:Bool
 us:List Nat
 vs:List Nat
 c2:Bool
 ws:List Nat
 ts:List Nat
 na:Bool
 nb:Bool
def FW.ln (f:FW):L3:=T8 f.b1 f.xs f.b2 f.ys f.b3 f.zs
def FW.sp (f:FW):Sp:=OQ f.c1 f.us f.vs f.c2 f.ws f.ts f.na f.nb
def FW.ok (f:FW):Bool:=uE f.b1 f.xs f.b2 f.ys f.b3 f.zs&&okW f.c1 f.us f.vs f.c2 f.ws f.ts f.na f.nb
structure FW.short (f:FW):Prop where
 x:f.xs.length<=1000000
 y:f.ys.length<=1000000
 z:f.zs.length<=1000000
 u:f.us.length<=1000000
 v:f.vs.length<=1000000
 w:f.ws.length<=1000000
 t:f.ts.length<=1000000
def Pl (V:View)(v:Value)(f:FW):Prop:=∃p1 n1 d1 p2 n2 d2 p3 n3 d3 p n c p' n' c' q m e q' m' e',
 v=.agg #[.bool f.b1,.slice p1 n1 d1,.bool f.b2,.slice p2 n2 d2,.bool f.b3,.slice p3 n3 d3,.bool f.c1,.slice p n c,.slice p' n' c',.bool f.c2,.slice q m e,.slice q' m' e',.bool f.na,.bool f.nb] /\
 Pm V (.agg #[.bool f.b1,.slice p1 n1 d1,.bool f.b2,.slice p2 n2 d2,.bool f.b3,.slice p3 n3 d3]) f.b1 f.xs f.b2 f.ys f.b3 f.zs /\
 Po V (.agg #[.bool f.c1,.slice p n c,.slice p' n' c',.bool f.c2,.slice q m e,.slice q' m' e',.bool f.na,.bool f.nb]) f.c1 f.us f.vs f.c2 f.ws f.ts f.na f.nb
theorem Pl.le {V V':View}{v:Value}{f:FW}(h:Pl V v f)(l:V.Le V'):Pl V' v f:=by
 obtain ⟨p1,n1,d1,p2,n2,d2,p3,n3,d3,p,n,c,p',n',c',q,m,e,q',m',e',rfl,h1,h2⟩:=h
 exact ⟨_,_,_,_,_,_,_,_,_,_,_,_,_,_,_,_,_,_,_,_,_,rfl,h1.le l,h2.le l⟩
end Go.Proofs.Tryz
namespace Go.Proofs.Tryz
open Go.bF
set_option maxRecDepth 100000
end Go.Proofs.Tryz
namespace Go.Proofs.Tryz
open Go.bF Go.eK
def Lj:L3:=(0,0,0)
def yF (V:View)(v:Value)(c:L3):Prop:=sC V v c.1 c.2.1 c.2.2/\Bd c
theorem yF.le {V V':View}{v:Value}{c:L3}(h:yF V v c)(l:V.Le V'):yF V' v c:=⟨h.1.le l,h.2⟩
theorem yF.shape {V:View}{v:Value}{c:L3}(h:yF V v c):∃(x y:Int)(p:OA)(xb yb:Int)(pb:OA)(xc yc:Int)(pc:OA),v=.agg #[.int .i64 x,.int .i64 y,.pointer p,.int .i64 xb,.int .i64 yb,.pointer pb,.int .i64 xc,.int .i64 yc,.pointer pc]:=by
 obtain ⟨⟨x1,x2,p,y1,y2,q,z1,z2,r,e,-⟩,-⟩:=h;exact ⟨_,_,_,_,_,_,_,_,_,e⟩
end Go.Proofs.Tryz
namespace Go.Proofs.Tryz
open Go.eK
section
variable {α:Type} {c:α->α->Int} {d:α}
structure PQ (c:α->α->Int) (d:α) (l0 l:List α) (a0 b0 a b:Nat):Prop where
 PG:qG d l0 l a0 b0
 ha:a0<=a
 rG:a<=b
 hb:b<=b0
 lo:vS c d l a0 a
 hi:vS c d l b b0
 s1:Sep c d l a0 a b0
 s2:Sep c d l a0 b b0
 pre:0<a->∀k,a<=k->k<b->¬c (l.getD k d) (l.getD (a-1) d)<0
variable {l0 l m:List α} {a0 b0 a b mid:Nat}
theorem PQ.start {l:List α}(h:a<=b)(hp:0<a->∀k,a<=k->k<b->¬c (l.getD k d) (l.getD (a-1) d)<0):PQ c d l l a b a b:=
 ⟨.refl _ _ _,Nat.le_refl _,h,Nat.le_refl _,.short (by omega),.short (by omega),fun p q h1 h2=>by omega,fun p q h1 h2 h3 h4=>by omega,hp⟩
theorem PQ.change (h:PQ c d l0 l a0 b0 a b)(hs:qG d l m a b):PQ c d l0 m a0 b0 a b:=
 ⟨h.PG.trans (hs.wide h.ha h.hb),h.ha,h.rG,h.hb,hs.jA h.lo (.inl (Nat.le_refl _)),hs.jA h.hi (.inr (Nat.le_refl _)),hs.sep h.s1 (.inr (.inl ⟨Nat.le_refl _,h.hb⟩)),hs.sep h.s2 (.inl ⟨h.ha,Nat.le_refl _⟩),fun h0 k h1 h2=>by
  obtain ⟨k',h3,h4,e⟩:=hs.mem k h1 h2
  rw [e,hs.out (a-1) (by omega)]
  exact h.pre h0 k' h3 h4⟩
theorem PQ.fin (h:PQ c d l0 l a0 b0 a b)(hs:qG d l m a b)(ha:vS c d m a b):qG d l0 m a0 b0/\vS c d m a0 b0:=by
 have h':=h.change hs
 refine ⟨h'.PG,h'.lo.join (ha.join h'.hi fun p q h1 h2 h3 h4=>h'.s2 p q (by have:=h.ha;omega) h2 h3 h4) h'.s1⟩
theorem PQ.left (ho:Ord c)(h:PQ c d l0 l a0 b0 a b)(hm:a<=mid)(hm':mid<b)(h1:∀k,a<=k->k<mid->c (l.getD k d) (l.getD mid d)<0)(h2:∀k,mid<k->k<b->¬c (l.getD k d) (l.getD mid d)<0)
  (hs:qG d l m a mid)(ha:vS c d m a mid):PQ c d l0 m a0 b0 (mid+1) b:=by
 have e0:=h.ha
 have e1:=h.hb
 have em:m.getD mid d=l.getD mid d:=hs.out mid (by omega)
 have below:∀k,a<=k->k<mid->¬c (m.getD mid d) (m.getD k d)<0:=fun k g1 g2=>by
  obtain ⟨k',g3,g4,e⟩:=hs.mem k g1 g2
  rw [em,e];exact ho.My _ _ (h1 k' g3 g4)
 have t1:=hs.sep h.s1 (.inr (.inl ⟨Nat.le_refl _,by omega⟩))
 have t2:=hs.sep h.s2 (.inl ⟨e0,by omega⟩)
 have up:∀q,mid<q->q<b->¬c (m.getD q d) (m.getD mid d)<0:=fun q g1 g2=>by rw [em,hs.out q (by omega)];exact h2 q g1 g2
 refine ⟨h.PG.trans (hs.wide e0 (by omega)),by omega,by omega,e1,(hs.jA h.lo (.inl (Nat.le_refl _))).join (m:=a) (fun p q g1 g2 g3=>?_) fun p q g1 g2 g3 g4=>t1 p q g1 g2 g3 (by omega),hs.jA h.hi (.inr (by omega)),fun p q g1 g2 g3 g4=>?_,t2,fun _ k g1 g2=>up k (by omega) g2⟩
 ·by_cases e:q=mid
  ·subst e;exact below p g1 g2
  ·exact ha p q g1 g2 (by omega)
 ·by_cases hq:b<=q
  ·exact t2 p q g1 (by omega) hq g4
  ·by_cases hp:p<a
   ·exact t1 p q g1 hp (by omega) g4
   ·have u:=up q (by omega) (by omega)
    by_cases e:p=mid
    ·subst e;exact u
    ·exact ho.tr _ _ _ u (below p (by omega) (by omega))
theorem PQ.right (ho:Ord c)(h:PQ c d l0 l a0 b0 a b)(hm:a<=mid)(hm':mid<b)(h1:∀k,a<=k->k<mid->c (l.getD k d) (l.getD mid d)<0)(h2:∀k,mid<k->k<b->¬c (l.getD k d) (l.getD mid d)<0)
  (hs:qG d l m (mid+1) b)(ha:vS c d m (mid+1) b):PQ c d l0 m a0 b0 a mid:=by
 have e0:=h.ha
 have e1:=h.hb
 have em:m.getD mid d=l.getD mid d:=hs.out mid (by omega)
 have up:∀q,mid<q->q<b->¬c (m.getD q d) (m.getD mid d)<0:=fun q g1 g2=>by
  obtain ⟨k',g3,g4,e⟩:=hs.mem q (by omega) g2
  rw [em,e];exact h2 k' (by omega) g4
 have below:∀k,a<=k->k<mid->¬c (m.getD mid d) (m.getD k d)<0:=fun k g1 g2=>by
  rw [em,hs.out k (by omega)];exact ho.My _ _ (h1 k g1 g2)
 have t1:=hs.sep h.s1 (.inr (.inl ⟨by omega,e1⟩))
 have t2:=hs.sep h.s2 (.inl ⟨by omega,Nat.le_refl _⟩)
 have t3:=hs.jA h.hi (.inr (Nat.le_refl _))
 refine ⟨h.PG.trans (hs.wide (by omega) e1),e0,hm,by omega,hs.jA h.lo (.inl (by omega)),fun p q g1 g2 g3=>?_,t1,fun p q g1 g2 g3 g4=>?_,fun h0 k g1 g2=>?_⟩
 ·by_cases hq:q<b
  ·by_cases e:p=mid
   ·subst e;exact up q g2 hq
   ·exact ha p q (by omega) g2 hq
  ·by_cases hp:p<b
   ·exact t2 p q (by omega) hp (by omega) g3
   ·exact t3 p q (by omega) g2 g3
 ·by_cases hq:b<=q
  ·exact t2 p q g1 (by omega) hq g4
  ·by_cases hp:p<a
   ·exact t1 p q g1 hp (by omega) g4
   ·have u:=below p (by omega) g2
    by_cases e:q=mid
    ·subst e;exact u
    ·exact ho.tr _ _ _ (up q (by omega) (by omega)) u
 ·rw [hs.out k (by omega),hs.out (a-1) (by omega)];exact h.pre h0 k g1 (by omega)
structure HQ (c:α->α->Int) (d:α) (l:List α) (f i n:Nat):Prop where
 hp:Hp c d l f 0 i none
 jA:vS c d l (f+i) (f+n)
 sep:Sep c d l f (f+i) (f+n)
theorem HQ.start {f n:Nat}(h:Hp c d l f 0 n none):HQ c d l f n n:=⟨h,.short (by omega),fun p q h1 h2 h3 h4=>by omega⟩
theorem HQ.step (ho:Ord c){f k n:Nat}(h:HQ c d l f (k+1) n)(hk:k+1<=n)(hl:f+n<=l.length)(hs:qG d (rJ d l f (f+k)) m f (f+k))(hm:Hp c d m f 0 k none):HQ c d m f k n:=by
 have ha:=fun x=>nI (d:=d) (l:=l) (i:=f) (j:=f+k) (k:=x) (by omega) (by omega)
 have out:∀q,f+k<q->m.getD q d=l.getD q d:=fun q hq=>by rw [hs.out q (by omega),ha,if_neg (by omega),if_neg (by omega)]
 have top:m.getD (f+k) d=l.getD f d:=by rw [hs.out (f+k) (by omega),ha,if_pos rfl]
 refine ⟨hm,fun p q g1 g2 g3=>?_,fun p q g1 g2 g3 g4=>?_⟩
 ·rw [out q (by omega)]
  by_cases e:p=f+k
  ·rw [e,top];exact h.sep f q (Nat.le_refl _) (by omega) (by omega) g3
  ·rw [out p (by omega)];exact h.jA p q (by omega) g2 g3
 ·have hp:∃j,j<k+1/\m.getD p d=l.getD (f+j) d:=by
   obtain ⟨p',e1,e2,e⟩:=hs.mem p g1 g2
   rw [e,ha,if_neg (by omega)]
   split
   ·exact ⟨k,by omega,rfl⟩
   ·exact ⟨p'-f,by omega,by rw [show f+(p'-f)=p' by omega]⟩
  obtain ⟨j,hj,e⟩:=hp
  rw [e]
  by_cases eq:q=f+k
  ·rw [eq,top];exact h.hp.top ho j hj
  ·rw [out q (by omega)];exact h.sep (f+j) q (by omega) (by omega) (by omega) g4
theorem HQ.fin {f n:Nat}(h:HQ c d l f 0 n):vS c d l f (f+n):=by have:=h.jA;simpa using this
structure PT (P:α->Prop) (d:α) (l:List α) (a b i j:Nat):Prop where
 hi:a<i
 Lv:i<=j+1
 hj:j<b
 lo:∀k,a<k->k<i->P (l.getD k d)
 up:∀k,j<k->k<b->¬P (l.getD k d)
variable {P:α->Prop} {i j:Nat}
theorem PT.start (h:a+1<b):PT P d l a b (a+1) (b-1):=⟨by omega,by omega,by omega,fun k h1 h2=>by omega,fun k h1 h2=>by omega⟩
theorem PT.swap (h:PT P d l a b i j)(Lv:i<=j)(hl:b<=l.length)(h1:¬P (l.getD i d))(h2:P (l.getD j d)):PT P d (rJ d l i j) a b (i+1) (j-1)/\(rJ d l i j).getD a d=l.getD a d/\qG d l (rJ d l i j) a b:=by
 have e0:=h.hi
 have e1:=h.hj
 have ne:i≠j:=fun e=>h1 (e▸h2)
 have ha:=fun x=>nI (d:=d) (l:=l) (i:=i) (j:=j) (k:=x) (by omega) (by omega)
 refine ⟨⟨by omega,by omega,by omega,fun k g1 g2=>?_,fun k g1 g2=>?_⟩,by rw [ha,if_neg (by omega),if_neg (by omega)],qG.rJ (by omega) (by omega) (by omega) e1 hl⟩
 ·rw [ha,if_neg (by omega)]
  by_cases e:k=i
  ·rw [if_pos e];exact h2
  ·rw [if_neg e];exact h.lo k g1 (by omega)
 ·rw [ha]
  by_cases e:k=j
  ·rw [if_pos e];exact h1
  ·rw [if_neg e,if_neg (by omega)];exact h.up k (by omega) g2
theorem PT.fin (ho:Ord c)(h:PT (fun x=>c x (l.getD a d)<0) d l a b i j)(Lv:¬i<=j)(hl:b<=l.length):qG d l (rJ d l j a) a b/\a<=j/\j<b /\
  (∀k,a<=k->k<j->c ((rJ d l j a).getD k d) ((rJ d l j a).getD j d)<0)/\(∀k,j<k->k<b->¬c ((rJ d l j a).getD k d) ((rJ d l j a).getD j d)<0):=by
 have e0:=h.hi
 have e1:=h.Lv
 have e2:=h.hj
 have ha:=fun x=>nI (d:=d) (l:=l) (i:=j) (j:=a) (k:=x) (by omega) (by omega)
 have ej:(rJ d l j a).getD j d=l.getD a d:=by
  rw [ha]
  by_cases e:j=a
  ·rw [if_pos e,e]
  ·rw [if_neg e,if_pos rfl]
 refine ⟨qG.rJ (by omega) e2 (Nat.le_refl _) (by omega) hl,by omega,e2,fun k g1 g2=>?_,fun k g1 g2=>?_⟩
 ·rw [ej,ha]
  by_cases e:k=a
  ·rw [if_pos e];exact h.lo j (by omega) (by omega)
  ·rw [if_neg e,if_neg (by omega)];exact h.lo k (by omega) (by omega)
 ·rw [ej,ha,if_neg (by omega),if_neg (by omega)];exact h.up k g1 g2
end
end Go.Proofs.Tryz
namespace Go.Proofs.Tryz
open Go.bF Go.eK
structure Kv (V:View) (n:Nat) (vs:List Value) (l:List L3):Prop where
 row:Row 9 yF V vs l
 len:n=l.length
 Tl:l.length<50
theorem Kv.le {V V':View}{n:Nat}{vs:List Value}{l:List L3}(h:Kv V n vs l)(e:V.Le V'):Kv V' n vs l:=⟨h.row.le fun _ _ g=>yF.le g e,h.len,h.Tl⟩
theorem Kv.get {V:View}{n:Nat}{vs:List Value}{l:List L3}(h:Kv V n vs l){k:Nat}(hk:k<l.length):∃(x y:Int)(p:OA)(xb yb:Int)(pb:OA)(xc yc:Int)(pc:OA),
  ((0+k*9)+9<=vs.length/\(vs.drop (0+k*9)).take 9=[.int .i64 x,.int .i64 y,.pointer p,.int .i64 xb,.int .i64 yb,.pointer pb,.int .i64 xc,.int .i64 yc,.pointer pc])/\yF V (.agg #[.int .i64 x,.int .i64 y,.pointer p,.int .i64 xb,.int .i64 yb,.pointer pb,.int .i64 xc,.int .i64 yc,.pointer pc]) (l.getD k Lj):=by
 obtain ⟨xs,-,h2,h3,h4⟩:=h.row.get (d:=Lj) hk (by decide)
 have h20:=h2
 obtain ⟨x,y,p,xb,yb,pb,xc,yc,pc,e⟩:=h2.shape
 have e:=congrArg Array.toList (Value.agg.inj e)
 dsimp only at e
 subst e
 rw [Nat.zero_add]
 exact ⟨x,y,p,xb,yb,pb,xc,yc,pc,⟨h3,h4⟩,h20⟩
theorem Kv.swap {V:View}{n:Nat}{vs:List Value}{l:List L3}(h:Kv V n vs l){i j:Nat}(hi:i<l.length)(hj:j<l.length){x y:Int}{p:OA}{xb yb:Int}{pb:OA}{xc yc:Int}{pc:OA}{x' y':Int}{p':OA}{SG SH:Int}{pb':OA}{Pf SI:Int}{pc':OA}
  (h1:yF V (.agg #[.int .i64 x,.int .i64 y,.pointer p,.int .i64 xb,.int .i64 yb,.pointer pb,.int .i64 xc,.int .i64 yc,.pointer pc]) (l.getD i Lj))(h2:yF V (.agg #[.int .i64 x',.int .i64 y',.pointer p',.int .i64 SG,.int .i64 SH,.pointer pb',.int .i64 Pf,.int .i64 SI,.pointer pc']) (l.getD j Lj)) :
  (0+i*9)+9<=vs.length/\(0+j*9)+9<=(dp vs (0+i*9) [.int .i64 x',.int .i64 y',.pointer p',.int .i64 SG,.int .i64 SH,.pointer pb',.int .i64 Pf,.int .i64 SI,.pointer pc']).length /\
  Kv V n (dp (dp vs (0+i*9) [.int .i64 x',.int .i64 y',.pointer p',.int .i64 SG,.int .i64 SH,.pointer pb',.int .i64 Pf,.int .i64 SI,.pointer pc']) (0+j*9) [.int .i64 x,.int .i64 y,.pointer p,.int .i64 xb,.int .i64 yb,.pointer pb,.int .i64 xc,.int .i64 yc,.pointer pc]) (rJ Lj l i j):=by
 obtain ⟨-,-,-,g1,-⟩:=h.row.get (d:=Lj) hi (by decide)
 obtain ⟨-,-,-,g2,-⟩:=h.row.get (d:=Lj) hj (by decide)
 rw [Nat.zero_add,Nat.zero_add]
 refine ⟨g1,by rw [rf (by exact g1)];exact g2,h.row.swap hi hj (by decide) rfl rfl h1 h2,by rw [zV];exact h.len,by rw [zV];exact h.Tl⟩
end Go.Proofs.Tryz
