import Derived.Test.YtnnbfoejafcdlaaGreatDoorA12
import Derived.Test.YtnnbfoejafcdlaaGreatDoorA7
import Derived.Test.YtnnbfoejafcdlaaGreatDoorA5
import Derived.Test.YtnnbfoejafcdlaaGreatDoorA9
set_option linter.unusedVariables false
open Go.IntKind (i64 u64 u32)
namespace Go.Proofs.Tryz
open Go.bq Go.ew
def nG (V:View)(v:Value)(x y:Rat):Prop:=∃(x1 x2:Int)(p:OA)(y1 y2:Int)(q:OA),v=.agg #[.int .i64 x1,.int .i64 x2,.pointer p,.int .i64 y1,.int .i64 y2,.pointer q] /\
 RR V (.agg #[.int .i64 x1,.int .i64 x2,.pointer p]) x/\RR V (.agg #[.int .i64 y1,.int .i64 y2,.pointer q]) y
theorem nG.le {V V':View}{v:Value}{x y:Rat}(h:nG V v x y)(l:V.Le V'):nG V' v x y:=by
 obtain ⟨x1,x2,p,y1,y2,q,e,h1,h2⟩:=h
 exact ⟨x1,x2,p,y1,y2,q,e,h1.le l,h2.le l⟩
theorem we {V:View}{p:Value}{eC eE:Rat}{q:Value}{lf lg:Rat}(hp:nG V p eC eE)(hq:nG V q lf lg){k:Nat}(e_:Sz k eC)(fa:Sz k eE)(lh:Sz k lf)(lj:Sz k lg)(hk:2*k+1<274877906944) :
  ab prog 149 #[p,q] V fun r V'=>nG V' r ((eC)+(lf)) ((eE)+(lg)):=by
 have hp0:=hp
 obtain ⟨p0,p1,p2,p3,p4,p5,rfl,yI,yJ⟩:=hp
 have hq0:=hq
 obtain ⟨q0,q1,q2,q3,q4,q5,rfl,Ez,EA⟩:=hq
 refine ub p0 p1 p2 p3 p4 p5 q0 q1 q2 q3 q4 q5 V _ fun V1 l1=>(g_ (yI.le (l1)) (Ez.le (l1)) e_ lh (by omega)).mono ?_
 rintro r V2 l2 g1
 have g10:=g1
 obtain ⟨LY,LZ,L1,rfl⟩:=g1.shape
 have bF:Sz (2*k+1) ((eC)+(lf)):=Sz.mono (Sz.add e_ lh) (by omega)
 refine ⟨_,_,_,rfl,fun V3 l3=>(g_ (yJ.le (l1.trans (l2.trans (l3)))) (EA.le (l1.trans (l2.trans (l3)))) fa lj (by omega)).mono ?_⟩
 rintro r V4 l4 g2
 have g20:=g2
 obtain ⟨Lk,Ll,Lm,rfl⟩:=g2.shape
 have cJ:Sz (2*k+1) ((eE)+(lg)):=Sz.mono (Sz.add fa lj) (by omega)
 exact ⟨_,_,_,rfl,fun V5 l5=>⟨_,_,_,_,_,_,rfl,(g10.le (l3.trans (l4.trans (l5)))),(g20.le (l5))⟩⟩
theorem gV {eC eE lf lg:Rat}{k:Nat}(e_:Sz k eC)(fa:Sz k eE)(lh:Sz k lf)(lj:Sz k lg):Sz (2*k+1) ((eC)+(lf)):=by
 have bF:Sz (2*k+1) ((eC)+(lf)):=Sz.mono (Sz.add e_ lh) (by omega)
 have cJ:Sz (2*k+1) ((eE)+(lg)):=Sz.mono (Sz.add fa lj) (by omega)
 exact Sz.mono bF (by omega)
theorem gW {eC eE lf lg:Rat}{k:Nat}(e_:Sz k eC)(fa:Sz k eE)(lh:Sz k lf)(lj:Sz k lg):Sz (2*k+1) ((eE)+(lg)):=by
 have bF:Sz (2*k+1) ((eC)+(lf)):=Sz.mono (Sz.add e_ lh) (by omega)
 have cJ:Sz (2*k+1) ((eE)+(lg)):=Sz.mono (Sz.add fa lj) (by omega)
 exact Sz.mono cJ (by omega)
theorem ka {V:View}{p:Value}{eC eE:Rat}{c:Value}{Ao:Rat}(hp:nG V p eC eE)(hc:RR V c Ao){k:Nat}(e_:Sz k eC)(fa:Sz k eE)(tN:Sz k Ao)(hk:2*k+1<274877906944) :
  ab prog 150 #[p,c] V fun r V'=>nG V' r ((eC)*(Ao)) ((eE)*(Ao)):=by
 have hp0:=hp
 obtain ⟨p0,p1,p2,p3,p4,p5,rfl,yI,yJ⟩:=hp
 have hc0:=hc
 obtain ⟨c0,c1,c2,rfl⟩:=hc.shape
 refine pT p0 p1 p2 p3 p4 p5 c0 c1 c2 V _ fun V1 l1=>(dR (yI.le (l1)) (hc0.le (l1)) e_ tN (by omega)).mono ?_
 rintro r V2 l2 g1
 have g10:=g1
 obtain ⟨LY,LZ,L1,rfl⟩:=g1.shape
 have bF:Sz (2*k+1) ((eC)*(Ao)):=Sz.mono (Sz.mul e_ tN) (by omega)
 refine ⟨_,_,_,rfl,fun V3 l3=>(dR (yJ.le (l1.trans (l2.trans (l3)))) (hc0.le (l1.trans (l2.trans (l3)))) fa tN (by omega)).mono ?_⟩
 rintro r V4 l4 g2
 have g20:=g2
 obtain ⟨Lk,Ll,Lm,rfl⟩:=g2.shape
 have cJ:Sz (2*k+1) ((eE)*(Ao)):=Sz.mono (Sz.mul fa tN) (by omega)
 exact ⟨_,_,_,rfl,fun V5 l5=>⟨_,_,_,_,_,_,rfl,(g10.le (l3.trans (l4.trans (l5)))),(g20.le (l5))⟩⟩
theorem bQ {eC eE Ao:Rat}{k:Nat}(e_:Sz k eC)(fa:Sz k eE)(tN:Sz k Ao):Sz (2*k+1) ((eC)*(Ao)):=by
 have bF:Sz (2*k+1) ((eC)*(Ao)):=Sz.mono (Sz.mul e_ tN) (by omega)
 have cJ:Sz (2*k+1) ((eE)*(Ao)):=Sz.mono (Sz.mul fa tN) (by omega)
 exact Sz.mono bF (by omega)
theorem bR {eC eE Ao:Rat}{k:Nat}(e_:Sz k eC)(fa:Sz k eE)(tN:Sz k Ao):Sz (2*k+1) ((eE)*(Ao)):=by
 have bF:Sz (2*k+1) ((eC)*(Ao)):=Sz.mono (Sz.mul e_ tN) (by omega)
 have cJ:Sz (2*k+1) ((eE)*(Ao)):=Sz.mono (Sz.mul fa tN) (by omega)
 exact Sz.mono cJ (by omega)
theorem jm {V:View}{p:Value}{eC eE:Rat}{q:Value}{lf lg:Rat}(hp:nG V p eC eE)(hq:nG V q lf lg){k:Nat}(e_:Sz k eC)(fa:Sz k eE)(lh:Sz k lf)(lj:Sz k lg)(hk:4*k+3<274877906944) :
  ab prog 144 #[p,q] V fun r V'=>RR V' r (((eC)*(lf))+((eE)*(lg))):=by
 have hp0:=hp
 obtain ⟨p0,p1,p2,p3,p4,p5,rfl,yI,yJ⟩:=hp
 have hq0:=hq
 obtain ⟨q0,q1,q2,q3,q4,q5,rfl,Ez,EA⟩:=hq
 refine uc p0 p1 p2 p3 p4 p5 q0 q1 q2 q3 q4 q5 V _ fun V1 l1=>(dR (yI.le (l1)) (Ez.le (l1)) e_ lh (by omega)).mono ?_
 rintro r V2 l2 g1
 have g10:=g1
 obtain ⟨LY,LZ,L1,rfl⟩:=g1.shape
 have bF:Sz (2*k+1) ((eC)*(lf)):=Sz.mono (Sz.mul e_ lh) (by omega)
 refine ⟨_,_,_,rfl,fun V3 l3=>(dR (yJ.le (l1.trans (l2.trans (l3)))) (EA.le (l1.trans (l2.trans (l3)))) fa lj (by omega)).mono ?_⟩
 rintro r V4 l4 g2
 have g20:=g2
 obtain ⟨Lk,Ll,Lm,rfl⟩:=g2.shape
 have cJ:Sz (2*k+1) ((eE)*(lg)):=Sz.mono (Sz.mul fa lj) (by omega)
 refine ⟨_,_,_,rfl,fun V5 l5=>(g_ (g10.le (l3.trans (l4.trans (l5)))) (g20.le (l5)) bF cJ (by omega)).mono ?_⟩
 rintro r V6 l6 g3
 have mM:=g3
 obtain ⟨Oc,Od,Oe,rfl⟩:=g3.shape
 have fN:Sz (4*k+3) (((eC)*(lf))+((eE)*(lg))):=Sz.mono (Sz.add bF cJ) (by omega)
 exact ⟨_,_,_,rfl,fun V7 l7=>(mM.le (l7))⟩
theorem cF {eC eE lf lg:Rat}{k:Nat}(e_:Sz k eC)(fa:Sz k eE)(lh:Sz k lf)(lj:Sz k lg):Sz (4*k+3) (((eC)*(lf))+((eE)*(lg))):=by
 have bF:Sz (2*k+1) ((eC)*(lf)):=Sz.mono (Sz.mul e_ lh) (by omega)
 have cJ:Sz (2*k+1) ((eE)*(lg)):=Sz.mono (Sz.mul fa lj) (by omega)
 have fN:Sz (4*k+3) (((eC)*(lf))+((eE)*(lg))):=Sz.mono (Sz.add bF cJ) (by omega)
 exact Sz.mono fN (by omega)
theorem eI {V:View}{p:Value}{eC eE:Rat}{q:Value}{lf lg:Rat}(hp:nG V p eC eE)(hq:nG V q lf lg){k:Nat}(e_:Sz k eC)(fa:Sz k eE)(lh:Sz k lf)(lj:Sz k lg)(hk:4*k+3<274877906944) :
  ab prog 136 #[p,q] V fun r V'=>RR V' r (((eC)*(lg))-((eE)*(lf))):=by
 have hp0:=hp
 obtain ⟨p0,p1,p2,p3,p4,p5,rfl,yI,yJ⟩:=hp
 have hq0:=hq
 obtain ⟨q0,q1,q2,q3,q4,q5,rfl,Ez,EA⟩:=hq
 refine pS p0 p1 p2 p3 p4 p5 q0 q1 q2 q3 q4 q5 V _ fun V1 l1=>(dR (yI.le (l1)) (EA.le (l1)) e_ lj (by omega)).mono ?_
 rintro r V2 l2 g1
 have g10:=g1
 obtain ⟨LY,LZ,L1,rfl⟩:=g1.shape
 have bF:Sz (2*k+1) ((eC)*(lg)):=Sz.mono (Sz.mul e_ lj) (by omega)
 refine ⟨_,_,_,rfl,fun V3 l3=>(dR (yJ.le (l1.trans (l2.trans (l3)))) (Ez.le (l1.trans (l2.trans (l3)))) fa lh (by omega)).mono ?_⟩
 rintro r V4 l4 g2
 have g20:=g2
 obtain ⟨Lk,Ll,Lm,rfl⟩:=g2.shape
 have cJ:Sz (2*k+1) ((eE)*(lf)):=Sz.mono (Sz.mul fa lh) (by omega)
 refine ⟨_,_,_,rfl,fun V5 l5=>(mC (g10.le (l3.trans (l4.trans (l5)))) (g20.le (l5)) bF cJ (by omega)).mono ?_⟩
 rintro r V6 l6 g3
 have mM:=g3
 obtain ⟨Oc,Od,Oe,rfl⟩:=g3.shape
 have fN:Sz (4*k+3) (((eC)*(lg))-((eE)*(lf))):=Sz.mono (Sz.sub bF cJ) (by omega)
 exact ⟨_,_,_,rfl,fun V7 l7=>(mM.le (l7))⟩
theorem jf {eC eE lf lg:Rat}{k:Nat}(e_:Sz k eC)(fa:Sz k eE)(lh:Sz k lf)(lj:Sz k lg):Sz (4*k+3) (((eC)*(lg))-((eE)*(lf))):=by
 have bF:Sz (2*k+1) ((eC)*(lg)):=Sz.mono (Sz.mul e_ lj) (by omega)
 have cJ:Sz (2*k+1) ((eE)*(lf)):=Sz.mono (Sz.mul fa lh) (by omega)
 have fN:Sz (4*k+3) (((eC)*(lg))-((eE)*(lf))):=Sz.mono (Sz.sub bF cJ) (by omega)
 exact Sz.mono fN (by omega)
theorem jl {V:View}{l:Value}{bj l_1 cX:Rat}(hl:th V l bj l_1 cX){k:Nat}(ca:Sz k bj)(cE:Sz k l_1)(bV:Sz k cX)(hk:1*k+1<274877906944) :
  ab prog 135 #[l] V fun r V'=>nG V' r (l_1) (-(bj)):=by
 have hl0:=hl
 obtain ⟨l0,l1,l2,l3,l4,l5,l6,l7,l8,rfl,Db,Dc,Dd⟩:=hl
 refine t_ l0 l1 l2 l3 l4 l5 l6 l7 l8 V _ fun V1 l1=>(mz (Db.le (l1)) ca (by omega)).mono ?_
 rintro r V2 l2 g1
 have g10:=g1
 obtain ⟨LY,LZ,L1,rfl⟩:=g1.shape
 have bF:Sz (1*k+0) (-(bj)):=Sz.mono (Sz.neg ca) (by omega)
 exact ⟨_,_,_,rfl,fun V3 l3=>⟨_,_,_,_,_,_,rfl,(Dc.le (l1.trans (l2.trans (l3)))),(g10.le (l3))⟩⟩
theorem gT {bj l_1 cX:Rat}{k:Nat}(ca:Sz k bj)(cE:Sz k l_1)(bV:Sz k cX):Sz (1*k+0) (l_1):=by
 have bF:Sz (1*k+0) (-(bj)):=Sz.mono (Sz.neg ca) (by omega)
 exact Sz.mono cE (by omega)
theorem gU {bj l_1 cX:Rat}{k:Nat}(ca:Sz k bj)(cE:Sz k l_1)(bV:Sz k cX):Sz (1*k+0) (-(bj)):=by
 have bF:Sz (1*k+0) (-(bj)):=Sz.mono (Sz.neg ca) (by omega)
 exact Sz.mono bF (by omega)
theorem cL {V:View}{l:Value}{bj l_1 cX:Rat}(hl:th V l bj l_1 cX){k:Nat}(ca:Sz k bj)(cE:Sz k l_1)(bV:Sz k cX)(hk:1*k+1<274877906944) :
  ab prog 142 #[l] V fun r V'=>nG V' r (bj) (l_1):=by
 have hl0:=hl
 obtain ⟨l0,l1,l2,l3,l4,l5,l6,l7,l8,rfl,Db,Dc,Dd⟩:=hl
 exact oC l0 l1 l2 l3 l4 l5 l6 l7 l8 V _ fun V1 l1=>⟨_,_,_,_,_,_,rfl,(Db.le (l1)),(Dc.le (l1))⟩
theorem cg {bj l_1 cX:Rat}{k:Nat}(ca:Sz k bj)(cE:Sz k l_1)(bV:Sz k cX):Sz (1*k+0) (bj):=by
 exact Sz.mono ca (by omega)
theorem ch {bj l_1 cX:Rat}{k:Nat}(ca:Sz k bj)(cE:Sz k l_1)(bV:Sz k cX):Sz (1*k+0) (l_1):=by
 exact Sz.mono cE (by omega)
theorem j_ {V:View}{l:Value}{bj l_1 cX:Rat}{p:Value}{eC eE:Rat}(hl:th V l bj l_1 cX)(hp:nG V p eC eE){k:Nat}(ca:Sz k bj)(cE:Sz k l_1)(bV:Sz k cX)(e_:Sz k eC)(fa:Sz k eE)(hk:5*k+4<274877906944) :
  ab prog 146 #[l,p] V fun r V'=>RR V' r ((((bj)*(eC))+((l_1)*(eE)))+(cX)):=by
 have hl0:=hl
 obtain ⟨l0,l1,l2,l3,l4,l5,l6,l7,l8,rfl,Db,Dc,Dd⟩:=hl
 have hp0:=hp
 obtain ⟨p0,p1,p2,p3,p4,p5,rfl,yI,yJ⟩:=hp
 refine pR l0 l1 l2 l3 l4 l5 l6 l7 l8 p0 p1 p2 p3 p4 p5 V _ fun V1 l1=>(cL (hl0.le (l1)) (Sz.mono ca (by omega):Sz (1*k+0) _) (Sz.mono cE (by omega):Sz (1*k+0) _) (Sz.mono bV (by omega):Sz (1*k+0) _) (by omega)).mono ?_
 rintro r V2 l2 g1
 have g10:=g1
 obtain ⟨Ld,Lf,Lg,Lh,Li,Lj,rfl,JR,JS⟩:=g1
 have bF:Sz (1*k+0) (bj):=Sz.mono ((cg (Sz.mono ca (by omega):Sz (1*k+0) _) (Sz.mono cE (by omega):Sz (1*k+0) _) (Sz.mono bV (by omega):Sz (1*k+0) _))) (by omega)
 have dQ:Sz (1*k+0) (l_1):=Sz.mono ((ch (Sz.mono ca (by omega):Sz (1*k+0) _) (Sz.mono cE (by omega):Sz (1*k+0) _) (Sz.mono bV (by omega):Sz (1*k+0) _))) (by omega)
 refine ⟨_,_,_,_,_,_,rfl,fun V3 l3=>(jm (g10.le (l3)) (hp0.le (l1.trans (l2.trans (l3)))) (Sz.mono bF (by omega):Sz (1*k+0) _) (Sz.mono dQ (by omega):Sz (1*k+0) _) (Sz.mono e_ (by omega):Sz (1*k+0) _) (Sz.mono fa (by omega):Sz (1*k+0) _) (by omega)).mono ?_⟩
 rintro r V4 l4 g2
 have g20:=g2
 obtain ⟨Lk,Ll,Lm,rfl⟩:=g2.shape
 have cJ:Sz (4*k+3) (((bj)*(eC))+((l_1)*(eE))):=Sz.mono ((cF (Sz.mono bF (by omega):Sz (1*k+0) _) (Sz.mono dQ (by omega):Sz (1*k+0) _) (Sz.mono e_ (by omega):Sz (1*k+0) _) (Sz.mono fa (by omega):Sz (1*k+0) _))) (by omega)
 refine ⟨_,_,_,rfl,fun V5 l5=>(g_ (g20.le (l5)) (Dd.le (l1.trans (l2.trans (l3.trans (l4.trans (l5)))))) cJ bV (by omega)).mono ?_⟩
 rintro r V6 l6 g3
 have mM:=g3
 obtain ⟨Oc,Od,Oe,rfl⟩:=g3.shape
 have fN:Sz (5*k+4) ((((bj)*(eC))+((l_1)*(eE)))+(cX)):=Sz.mono (Sz.add cJ bV) (by omega)
 exact ⟨_,_,_,rfl,fun V7 l7=>(mM.le (l7))⟩
theorem je {bj l_1 cX eC eE:Rat}{k:Nat}(ca:Sz k bj)(cE:Sz k l_1)(bV:Sz k cX)(e_:Sz k eC)(fa:Sz k eE):Sz (5*k+4) ((((bj)*(eC))+((l_1)*(eE)))+(cX)):=by
 have bF:Sz (1*k+0) (bj):=Sz.mono ((cg (Sz.mono ca (by omega):Sz (1*k+0) _) (Sz.mono cE (by omega):Sz (1*k+0) _) (Sz.mono bV (by omega):Sz (1*k+0) _))) (by omega)
 have dQ:Sz (1*k+0) (l_1):=Sz.mono ((ch (Sz.mono ca (by omega):Sz (1*k+0) _) (Sz.mono cE (by omega):Sz (1*k+0) _) (Sz.mono bV (by omega):Sz (1*k+0) _))) (by omega)
 have cJ:Sz (4*k+3) (((bj)*(eC))+((l_1)*(eE))):=Sz.mono ((cF (Sz.mono bF (by omega):Sz (1*k+0) _) (Sz.mono dQ (by omega):Sz (1*k+0) _) (Sz.mono e_ (by omega):Sz (1*k+0) _) (Sz.mono fa (by omega):Sz (1*k+0) _))) (by omega)
 have fN:Sz (5*k+4) ((((bj)*(eC))+((l_1)*(eE)))+(cX)):=Sz.mono (Sz.add cJ bV) (by omega)
 exact Sz.mono fN (by omega)
theorem lu {V:View}{l:Value}{bj l_1 cX:Rat}(hl:th V l bj l_1 cX){k:Nat}(ca:Sz k bj)(cE:Sz k l_1)(bV:Sz k cX)(hk:10*k+9<274877906944) :
  ab prog 180 #[l] V fun r V'=>nG V' r ((bj)*(((-(cX))*(((bj)*(bj))+((l_1)*(l_1)))⁻¹))) ((l_1)*(((-(cX))*(((bj)*(bj))+((l_1)*(l_1)))⁻¹))):=by
 have hl0:=hl
 obtain ⟨l0,l1,l2,l3,l4,l5,l6,l7,l8,rfl,Db,Dc,Dd⟩:=hl
 refine sD l0 l1 l2 l3 l4 l5 l6 l7 l8 V _ fun V1 l1=>(cL (hl0.le (l1)) (Sz.mono ca (by omega):Sz (1*k+0) _) (Sz.mono cE (by omega):Sz (1*k+0) _) (Sz.mono bV (by omega):Sz (1*k+0) _) (by omega)).mono ?_
 rintro r V2 l2 g1
 have g10:=g1
 obtain ⟨Ld,Lf,Lg,Lh,Li,Lj,rfl,JR,JS⟩:=g1
 have bF:Sz (1*k+0) (bj):=Sz.mono ((cg (Sz.mono ca (by omega):Sz (1*k+0) _) (Sz.mono cE (by omega):Sz (1*k+0) _) (Sz.mono bV (by omega):Sz (1*k+0) _))) (by omega)
 have dQ:Sz (1*k+0) (l_1):=Sz.mono ((ch (Sz.mono ca (by omega):Sz (1*k+0) _) (Sz.mono cE (by omega):Sz (1*k+0) _) (Sz.mono bV (by omega):Sz (1*k+0) _))) (by omega)
 refine ⟨_,_,_,_,_,_,rfl,fun V3 l3=>(mz (Dd.le (l1.trans (l2.trans (l3)))) bV (by omega)).mono ?_⟩
 rintro r V4 l4 g2
 have g20:=g2
 obtain ⟨Lk,Ll,Lm,rfl⟩:=g2.shape
 have cJ:Sz (1*k+0) (-(cX)):=Sz.mono (Sz.neg bV) (by omega)
 refine ⟨_,_,_,rfl,fun V5 l5=>(jm (g10.le (l3.trans (l4.trans (l5)))) (g10.le (l3.trans (l4.trans (l5)))) (Sz.mono bF (by omega):Sz (1*k+0) _) (Sz.mono dQ (by omega):Sz (1*k+0) _) (Sz.mono bF (by omega):Sz (1*k+0) _) (Sz.mono dQ (by omega):Sz (1*k+0) _) (by omega)).mono ?_⟩
 rintro r V6 l6 g3
 have mM:=g3
 obtain ⟨Oc,Od,Oe,rfl⟩:=g3.shape
 have fN:Sz (4*k+3) (((bj)*(bj))+((l_1)*(l_1))):=Sz.mono ((cF (Sz.mono bF (by omega):Sz (1*k+0) _) (Sz.mono dQ (by omega):Sz (1*k+0) _) (Sz.mono bF (by omega):Sz (1*k+0) _) (Sz.mono dQ (by omega):Sz (1*k+0) _))) (by omega)
 refine ⟨_,_,_,rfl,fun V7 l7=>(mB (g20.le (l5.trans (l6.trans (l7)))) (mM.le (l7)) cJ fN (by omega)).mono ?_⟩
 rintro r V8 l8 g4
 have Gm:=g4
 obtain ⟨Td,Te,Tf,rfl⟩:=g4.shape
 have oF:Sz (5*k+4) ((-(cX))*(((bj)*(bj))+((l_1)*(l_1)))⁻¹):=Sz.mono (Sz.mul cJ (fL fN)) (by omega)
 refine ⟨_,_,_,rfl,fun V9 l9=>(ka (g10.le (l3.trans (l4.trans (l5.trans (l6.trans (l7.trans (l8.trans (l9)))))))) (Gm.le (l9)) (Sz.mono bF (by omega):Sz (5*k+4) _) (Sz.mono dQ (by omega):Sz (5*k+4) _) (Sz.mono oF (by omega):Sz (5*k+4) _) (by omega)).mono ?_⟩
 rintro r kX l10 g5
 have Jf:=g5
 obtain ⟨Sv,Sw,Sx,Sy,SA,SB,rfl,Mv,Mw⟩:=g5
 have I9:Sz (10*k+9) ((bj)*(((-(cX))*(((bj)*(bj))+((l_1)*(l_1)))⁻¹))):=Sz.mono ((bQ (Sz.mono bF (by omega):Sz (5*k+4) _) (Sz.mono dQ (by omega):Sz (5*k+4) _) (Sz.mono oF (by omega):Sz (5*k+4) _))) (by omega)
 have I_:Sz (10*k+9) ((l_1)*(((-(cX))*(((bj)*(bj))+((l_1)*(l_1)))⁻¹))):=Sz.mono ((bR (Sz.mono bF (by omega):Sz (5*k+4) _) (Sz.mono dQ (by omega):Sz (5*k+4) _) (Sz.mono oF (by omega):Sz (5*k+4) _))) (by omega)
 exact ⟨_,_,_,_,_,_,rfl,fun lJ bU=>⟨_,_,_,_,_,_,rfl,(Mv.le (bU)),(Mw.le (bU))⟩⟩
theorem cO {bj l_1 cX:Rat}{k:Nat}(ca:Sz k bj)(cE:Sz k l_1)(bV:Sz k cX):Sz (10*k+9) ((bj)*(((-(cX))*(((bj)*(bj))+((l_1)*(l_1)))⁻¹))):=by
 have bF:Sz (1*k+0) (bj):=Sz.mono ((cg (Sz.mono ca (by omega):Sz (1*k+0) _) (Sz.mono cE (by omega):Sz (1*k+0) _) (Sz.mono bV (by omega):Sz (1*k+0) _))) (by omega)
 have dQ:Sz (1*k+0) (l_1):=Sz.mono ((ch (Sz.mono ca (by omega):Sz (1*k+0) _) (Sz.mono cE (by omega):Sz (1*k+0) _) (Sz.mono bV (by omega):Sz (1*k+0) _))) (by omega)
 have cJ:Sz (1*k+0) (-(cX)):=Sz.mono (Sz.neg bV) (by omega)
 have fN:Sz (4*k+3) (((bj)*(bj))+((l_1)*(l_1))):=Sz.mono ((cF (Sz.mono bF (by omega):Sz (1*k+0) _) (Sz.mono dQ (by omega):Sz (1*k+0) _) (Sz.mono bF (by omega):Sz (1*k+0) _) (Sz.mono dQ (by omega):Sz (1*k+0) _))) (by omega)
 have oF:Sz (5*k+4) ((-(cX))*(((bj)*(bj))+((l_1)*(l_1)))⁻¹):=Sz.mono (Sz.mul cJ (fL fN)) (by omega)
 have I9:Sz (10*k+9) ((bj)*(((-(cX))*(((bj)*(bj))+((l_1)*(l_1)))⁻¹))):=Sz.mono ((bQ (Sz.mono bF (by omega):Sz (5*k+4) _) (Sz.mono dQ (by omega):Sz (5*k+4) _) (Sz.mono oF (by omega):Sz (5*k+4) _))) (by omega)
 have I_:Sz (10*k+9) ((l_1)*(((-(cX))*(((bj)*(bj))+((l_1)*(l_1)))⁻¹))):=Sz.mono ((bR (Sz.mono bF (by omega):Sz (5*k+4) _) (Sz.mono dQ (by omega):Sz (5*k+4) _) (Sz.mono oF (by omega):Sz (5*k+4) _))) (by omega)
 exact Sz.mono I9 (by omega)
theorem cP {bj l_1 cX:Rat}{k:Nat}(ca:Sz k bj)(cE:Sz k l_1)(bV:Sz k cX):Sz (10*k+9) ((l_1)*(((-(cX))*(((bj)*(bj))+((l_1)*(l_1)))⁻¹))):=by
 have bF:Sz (1*k+0) (bj):=Sz.mono ((cg (Sz.mono ca (by omega):Sz (1*k+0) _) (Sz.mono cE (by omega):Sz (1*k+0) _) (Sz.mono bV (by omega):Sz (1*k+0) _))) (by omega)
 have dQ:Sz (1*k+0) (l_1):=Sz.mono ((ch (Sz.mono ca (by omega):Sz (1*k+0) _) (Sz.mono cE (by omega):Sz (1*k+0) _) (Sz.mono bV (by omega):Sz (1*k+0) _))) (by omega)
 have cJ:Sz (1*k+0) (-(cX)):=Sz.mono (Sz.neg bV) (by omega)
 have fN:Sz (4*k+3) (((bj)*(bj))+((l_1)*(l_1))):=Sz.mono ((cF (Sz.mono bF (by omega):Sz (1*k+0) _) (Sz.mono dQ (by omega):Sz (1*k+0) _) (Sz.mono bF (by omega):Sz (1*k+0) _) (Sz.mono dQ (by omega):Sz (1*k+0) _))) (by omega)
 have oF:Sz (5*k+4) ((-(cX))*(((bj)*(bj))+((l_1)*(l_1)))⁻¹):=Sz.mono (Sz.mul cJ (fL fN)) (by omega)
 have I9:Sz (10*k+9) ((bj)*(((-(cX))*(((bj)*(bj))+((l_1)*(l_1)))⁻¹))):=Sz.mono ((bQ (Sz.mono bF (by omega):Sz (5*k+4) _) (Sz.mono dQ (by omega):Sz (5*k+4) _) (Sz.mono oF (by omega):Sz (5*k+4) _))) (by omega)
 have I_:Sz (10*k+9) ((l_1)*(((-(cX))*(((bj)*(bj))+((l_1)*(l_1)))⁻¹))):=Sz.mono ((bR (Sz.mono bF (by omega):Sz (5*k+4) _) (Sz.mono dQ (by omega):Sz (5*k+4) _) (Sz.mono oF (by omega):Sz (5*k+4) _))) (by omega)
 exact Sz.mono I_ (by omega)
theorem ya {V:View}{l:Value}{bj l_1 cX:Rat}{t:Value}{s_:Rat}(hl:th V l bj l_1 cX)(ht:RR V t s_){k:Nat}(ca:Sz k bj)(cE:Sz k l_1)(bV:Sz k cX)(wV:Sz k s_)(hk:20*k+19<274877906944) :
  ab prog 132 #[l,t] V fun r V'=>nG V' r ((((bj)*(((-(cX))*(((bj)*(bj))+((l_1)*(l_1)))⁻¹))))+(((l_1)*(s_)))) ((((l_1)*(((-(cX))*(((bj)*(bj))+((l_1)*(l_1)))⁻¹))))+((((-(bj)))*(s_)))):=by
 have hl0:=hl
 obtain ⟨l0,l1,l2,l3,l4,l5,l6,l7,l8,rfl,Db,Dc,Dd⟩:=hl
 have ht0:=ht
 obtain ⟨t0,t1,t2,rfl⟩:=ht.shape
 refine xj l0 l1 l2 l3 l4 l5 l6 l7 l8 t0 t1 t2 V _ fun V1 l1=>(lu (hl0.le (l1)) (Sz.mono ca (by omega):Sz (1*k+0) _) (Sz.mono cE (by omega):Sz (1*k+0) _) (Sz.mono bV (by omega):Sz (1*k+0) _) (by omega)).mono ?_
 rintro r V2 l2 g1
 have g10:=g1
 obtain ⟨Ld,Lf,Lg,Lh,Li,Lj,rfl,JR,JS⟩:=g1
 have bF:Sz (10*k+9) ((bj)*(((-(cX))*(((bj)*(bj))+((l_1)*(l_1)))⁻¹))):=Sz.mono ((cO (Sz.mono ca (by omega):Sz (1*k+0) _) (Sz.mono cE (by omega):Sz (1*k+0) _) (Sz.mono bV (by omega):Sz (1*k+0) _))) (by omega)
 have dQ:Sz (10*k+9) ((l_1)*(((-(cX))*(((bj)*(bj))+((l_1)*(l_1)))⁻¹))):=Sz.mono ((cP (Sz.mono ca (by omega):Sz (1*k+0) _) (Sz.mono cE (by omega):Sz (1*k+0) _) (Sz.mono bV (by omega):Sz (1*k+0) _))) (by omega)
 refine ⟨_,_,_,_,_,_,rfl,fun V3 l3=>(jl (hl0.le (l1.trans (l2.trans (l3)))) (Sz.mono ca (by omega):Sz (1*k+0) _) (Sz.mono cE (by omega):Sz (1*k+0) _) (Sz.mono bV (by omega):Sz (1*k+0) _) (by omega)).mono ?_⟩
 rintro r V4 l4 g2
 have g20:=g2
 obtain ⟨R_,Sa,Sb,Sc,Se,Sf,rfl,QF,QG⟩:=g2
 have cJ:Sz (1*k+0) (l_1):=Sz.mono ((gT (Sz.mono ca (by omega):Sz (1*k+0) _) (Sz.mono cE (by omega):Sz (1*k+0) _) (Sz.mono bV (by omega):Sz (1*k+0) _))) (by omega)
 have xC:Sz (1*k+0) (-(bj)):=Sz.mono ((gU (Sz.mono ca (by omega):Sz (1*k+0) _) (Sz.mono cE (by omega):Sz (1*k+0) _) (Sz.mono bV (by omega):Sz (1*k+0) _))) (by omega)
 refine ⟨_,_,_,_,_,_,rfl,fun V5 l5=>(ka (g20.le (l5)) (ht0.le (l1.trans (l2.trans (l3.trans (l4.trans (l5)))))) (Sz.mono cJ (by omega):Sz (1*k+0) _) (Sz.mono xC (by omega):Sz (1*k+0) _) (Sz.mono wV (by omega):Sz (1*k+0) _) (by omega)).mono ?_⟩
 rintro r V6 l6 g3
 have mM:=g3
 obtain ⟨Sg,Si,Sj,Sk,Sl,Sm,rfl,QH,QI⟩:=g3
 have fN:Sz (2*k+1) ((l_1)*(s_)):=Sz.mono ((bQ (Sz.mono cJ (by omega):Sz (1*k+0) _) (Sz.mono xC (by omega):Sz (1*k+0) _) (Sz.mono wV (by omega):Sz (1*k+0) _))) (by omega)
 have xD:Sz (2*k+1) (((-(bj)))*(s_)):=Sz.mono ((bR (Sz.mono cJ (by omega):Sz (1*k+0) _) (Sz.mono xC (by omega):Sz (1*k+0) _) (Sz.mono wV (by omega):Sz (1*k+0) _))) (by omega)
 refine ⟨_,_,_,_,_,_,rfl,fun V7 l7=>(we (g10.le (l3.trans (l4.trans (l5.trans (l6.trans (l7)))))) (mM.le (l7)) (Sz.mono bF (by omega):Sz (10*k+9) _) (Sz.mono dQ (by omega):Sz (10*k+9) _) (Sz.mono fN (by omega):Sz (10*k+9) _) (Sz.mono xD (by omega):Sz (10*k+9) _) (by omega)).mono ?_⟩
 rintro r V8 l8 g4
 have Gm:=g4
 obtain ⟨Sn,So,Sq,Sr,Ss,Su,rfl,Mt,Mu⟩:=g4
 have oF:Sz (20*k+19) ((((bj)*(((-(cX))*(((bj)*(bj))+((l_1)*(l_1)))⁻¹))))+(((l_1)*(s_)))):=Sz.mono ((gV (Sz.mono bF (by omega):Sz (10*k+9) _) (Sz.mono dQ (by omega):Sz (10*k+9) _) (Sz.mono fN (by omega):Sz (10*k+9) _) (Sz.mono xD (by omega):Sz (10*k+9) _))) (by omega)
 have I8:Sz (20*k+19) ((((l_1)*(((-(cX))*(((bj)*(bj))+((l_1)*(l_1)))⁻¹))))+((((-(bj)))*(s_)))):=Sz.mono ((gW (Sz.mono bF (by omega):Sz (10*k+9) _) (Sz.mono dQ (by omega):Sz (10*k+9) _) (Sz.mono fN (by omega):Sz (10*k+9) _) (Sz.mono xD (by omega):Sz (10*k+9) _))) (by omega)
 exact ⟨_,_,_,_,_,_,rfl,fun V9 l9=>⟨_,_,_,_,_,_,rfl,(Mt.le (l9)),(Mu.le (l9))⟩⟩
theorem uq {bj l_1 cX s_:Rat}{k:Nat}(ca:Sz k bj)(cE:Sz k l_1)(bV:Sz k cX)(wV:Sz k s_):Sz (20*k+19) ((((bj)*(((-(cX))*(((bj)*(bj))+((l_1)*(l_1)))⁻¹))))+(((l_1)*(s_)))):=by
 have bF:Sz (10*k+9) ((bj)*(((-(cX))*(((bj)*(bj))+((l_1)*(l_1)))⁻¹))):=Sz.mono ((cO (Sz.mono ca (by omega):Sz (1*k+0) _) (Sz.mono cE (by omega):Sz (1*k+0) _) (Sz.mono bV (by omega):Sz (1*k+0) _))) (by omega)
 have dQ:Sz (10*k+9) ((l_1)*(((-(cX))*(((bj)*(bj))+((l_1)*(l_1)))⁻¹))):=Sz.mono ((cP (Sz.mono ca (by omega):Sz (1*k+0) _) (Sz.mono cE (by omega):Sz (1*k+0) _) (Sz.mono bV (by omega):Sz (1*k+0) _))) (by omega)
 have cJ:Sz (1*k+0) (l_1):=Sz.mono ((gT (Sz.mono ca (by omega):Sz (1*k+0) _) (Sz.mono cE (by omega):Sz (1*k+0) _) (Sz.mono bV (by omega):Sz (1*k+0) _))) (by omega)
 have xC:Sz (1*k+0) (-(bj)):=Sz.mono ((gU (Sz.mono ca (by omega):Sz (1*k+0) _) (Sz.mono cE (by omega):Sz (1*k+0) _) (Sz.mono bV (by omega):Sz (1*k+0) _))) (by omega)
 have fN:Sz (2*k+1) ((l_1)*(s_)):=Sz.mono ((bQ (Sz.mono cJ (by omega):Sz (1*k+0) _) (Sz.mono xC (by omega):Sz (1*k+0) _) (Sz.mono wV (by omega):Sz (1*k+0) _))) (by omega)
 have xD:Sz (2*k+1) (((-(bj)))*(s_)):=Sz.mono ((bR (Sz.mono cJ (by omega):Sz (1*k+0) _) (Sz.mono xC (by omega):Sz (1*k+0) _) (Sz.mono wV (by omega):Sz (1*k+0) _))) (by omega)
 have oF:Sz (20*k+19) ((((bj)*(((-(cX))*(((bj)*(bj))+((l_1)*(l_1)))⁻¹))))+(((l_1)*(s_)))):=Sz.mono ((gV (Sz.mono bF (by omega):Sz (10*k+9) _) (Sz.mono dQ (by omega):Sz (10*k+9) _) (Sz.mono fN (by omega):Sz (10*k+9) _) (Sz.mono xD (by omega):Sz (10*k+9) _))) (by omega)
 have I8:Sz (20*k+19) ((((l_1)*(((-(cX))*(((bj)*(bj))+((l_1)*(l_1)))⁻¹))))+((((-(bj)))*(s_)))):=Sz.mono ((gW (Sz.mono bF (by omega):Sz (10*k+9) _) (Sz.mono dQ (by omega):Sz (10*k+9) _) (Sz.mono fN (by omega):Sz (10*k+9) _) (Sz.mono xD (by omega):Sz (10*k+9) _))) (by omega)
 exact Sz.mono oF (by omega)
theorem ur {bj l_1 cX s_:Rat}{k:Nat}(ca:Sz k bj)(cE:Sz k l_1)(bV:Sz k cX)(wV:Sz k s_):Sz (20*k+19) ((((l_1)*(((-(cX))*(((bj)*(bj))+((l_1)*(l_1)))⁻¹))))+((((-(bj)))*(s_)))):=by
 have bF:Sz (10*k+9) ((bj)*(((-(cX))*(((bj)*(bj))+((l_1)*(l_1)))⁻¹))):=Sz.mono ((cO (Sz.mono ca (by omega):Sz (1*k+0) _) (Sz.mono cE (by omega):Sz (1*k+0) _) (Sz.mono bV (by omega):Sz (1*k+0) _))) (by omega)
 have dQ:Sz (10*k+9) ((l_1)*(((-(cX))*(((bj)*(bj))+((l_1)*(l_1)))⁻¹))):=Sz.mono ((cP (Sz.mono ca (by omega):Sz (1*k+0) _) (Sz.mono cE (by omega):Sz (1*k+0) _) (Sz.mono bV (by omega):Sz (1*k+0) _))) (by omega)
 have cJ:Sz (1*k+0) (l_1):=Sz.mono ((gT (Sz.mono ca (by omega):Sz (1*k+0) _) (Sz.mono cE (by omega):Sz (1*k+0) _) (Sz.mono bV (by omega):Sz (1*k+0) _))) (by omega)
 have xC:Sz (1*k+0) (-(bj)):=Sz.mono ((gU (Sz.mono ca (by omega):Sz (1*k+0) _) (Sz.mono cE (by omega):Sz (1*k+0) _) (Sz.mono bV (by omega):Sz (1*k+0) _))) (by omega)
 have fN:Sz (2*k+1) ((l_1)*(s_)):=Sz.mono ((bQ (Sz.mono cJ (by omega):Sz (1*k+0) _) (Sz.mono xC (by omega):Sz (1*k+0) _) (Sz.mono wV (by omega):Sz (1*k+0) _))) (by omega)
 have xD:Sz (2*k+1) (((-(bj)))*(s_)):=Sz.mono ((bR (Sz.mono cJ (by omega):Sz (1*k+0) _) (Sz.mono xC (by omega):Sz (1*k+0) _) (Sz.mono wV (by omega):Sz (1*k+0) _))) (by omega)
 have oF:Sz (20*k+19) ((((bj)*(((-(cX))*(((bj)*(bj))+((l_1)*(l_1)))⁻¹))))+(((l_1)*(s_)))):=Sz.mono ((gV (Sz.mono bF (by omega):Sz (10*k+9) _) (Sz.mono dQ (by omega):Sz (10*k+9) _) (Sz.mono fN (by omega):Sz (10*k+9) _) (Sz.mono xD (by omega):Sz (10*k+9) _))) (by omega)
 have I8:Sz (20*k+19) ((((l_1)*(((-(cX))*(((bj)*(bj))+((l_1)*(l_1)))⁻¹))))+((((-(bj)))*(s_)))):=Sz.mono ((gW (Sz.mono bF (by omega):Sz (10*k+9) _) (Sz.mono dQ (by omega):Sz (10*k+9) _) (Sz.mono fN (by omega):Sz (10*k+9) _) (Sz.mono xD (by omega):Sz (10*k+9) _))) (by omega)
 exact Sz.mono I8 (by omega)
theorem RA.shape {V:View}{v:Value}{q:Rat}(h:RA V v q):∃b p n c p' n' c',v=.agg #[.bool b,.slice p n c,.slice p' n' c']:=by
 obtain ⟨p,n,c,p',n',c',e,-⟩:=h;exact ⟨_,_,_,_,_,_,_,e⟩
def F3 (V:View)(v:Value)(x y:Rat):Prop:=∃b p n c p' n' c' d q m e q' m' e',v=.agg #[.bool b,.slice p n c,.slice p' n' c',.bool d,.slice q m e,.slice q' m' e'] /\
 RA V (.agg #[.bool b,.slice p n c,.slice p' n' c']) x/\RA V (.agg #[.bool d,.slice q m e,.slice q' m' e']) y
theorem F3.le {V V':View}{v:Value}{x y:Rat}(h:F3 V v x y)(l:V.Le V'):F3 V' v x y:=by
 obtain ⟨b,p,n,c,p',n',c',d,q,m,e,q',m',e',rfl,h1,h2⟩:=h
 exact ⟨_,_,_,_,_,_,_,_,_,_,_,_,_,_,rfl,h1.le l,h2.le l⟩
theorem wc {V:View}{v:Value}{x y:Rat}(h:nG V v x y){k:Nat}(s1:Sz k x)(s2:Sz k y)(hk:k<=1099511627776) :
  ab prog 80 #[v] V fun r V'=>F3 V' r x y:=by
 obtain ⟨p0,p1,p2,p3,p4,p5,rfl,h1,h2⟩:=h
 refine ua p0 p1 p2 p3 p4 p5 V _ fun V1 l1=>(v_ (h1.le l1) s1 hk).mono ?_
 rintro r V2 l2 g1
 have g10:=g1
 obtain ⟨_,_,_,_,_,_,_,rfl⟩:=g1.shape
 refine ⟨_,_,_,_,_,_,_,rfl,fun V3 l3=>(v_ (h2.le (l1.trans (l2.trans l3))) s2 hk).mono ?_⟩
 rintro r V4 l4 g2
 have g20:=g2
 obtain ⟨_,_,_,_,_,_,_,rfl⟩:=g2.shape
 exact ⟨_,_,_,_,_,_,_,rfl,fun V5 l5=>⟨_,_,_,_,_,_,_,_,_,_,_,_,_,_,rfl,g10.le (l3.trans (l4.trans l5)),g20.le l5⟩⟩
theorem tm {V:View}{l p:Value}{bj l_1 cX eC eE:Rat}(hl:th V l bj l_1 cX)(hp:nG V p eC eE){k:Nat}(s0:Sz k bj)(s1:Sz k l_1)(s2:Sz k cX)(s3:Sz k eC)(s4:Sz k eE)(hk:16*k+16<274877906944) :
  ab prog 131 #[l,p] V fun r V'=>r=.int .i64 (bj*eC+l_1*eE+cX).num.sign:=by
 have hl0:=hl
 have hp0:=hp
 obtain ⟨a0,a1,a2,a3,a4,a5,a6,a7,a8,rfl,-,-,-⟩:=hl
 obtain ⟨p0,p1,p2,p3,p4,p5,rfl,-,-⟩:=hp
 refine sF a0 a1 a2 a3 a4 a5 a6 a7 a8 p0 p1 p2 p3 p4 p5 V _ fun V1 l1=>(j_ (hl0.le l1) (hp0.le l1) s0 s1 s2 s3 s4 (by omega)).mono ?_
 rintro r V2 l2 g
 have g0:=g
 obtain ⟨u,v,w,rfl⟩:=g.shape
 refine ⟨_,_,_,rfl,fun V3 l3=>(dL (g0.le l3) (je s0 s1 s2 s3 s4) (by omega)).mono ?_⟩
 rintro r V4 l4 rfl
 exact ⟨_,rfl,fun V5 l5=>rfl⟩
theorem oO {V:View}{v:Value}{q:Rat}(h:RQ V v q){k:Nat}(s:Sz k q)(hk:k<=1099511627776):ab prog 36 #[v] V fun r V'=>RA V' r q:=by
 obtain ⟨p,n,c,p',n',c',rfl,h1,h2⟩:=h
 have q1:=ag s.1
 have q2:=ag s.2
 refine xq _ p n c p' n' c' V _ fun V1 l1=>(hJ ⟨_,_,_,rfl,h1.le l1⟩ (by omega)).mono ?_
 rintro r V2 l2 ⟨p1,n1,c1,rfl,g1⟩
 refine ⟨_,_,_,_,rfl,fun V3 l3=>(cQ q _ (h2.le (l1.trans (l2.trans l3)))).mono ?_⟩
 rintro r V4 l4 ⟨p2,n2,c2,rfl,g2⟩
 refine ⟨_,_,_,rfl,fun V5 l5=>(oN (g2.le l5) (by omega)).mono ?_⟩
 rintro r V6 l6 ⟨p3,n3,c3,rfl,g3⟩
 exact ⟨_,_,_,rfl,fun V7 l7=>⟨_,_,_,_,_,_,rfl,g1.le (l3.trans (l4.trans (l5.trans (l6.trans l7)))),g3.le l7⟩⟩
theorem yk {V:View}{v:Value}{x y:Rat}(h:RP V v x y){k:Nat}(s1:Sz k x)(s2:Sz k y)(hk:k<=1099511627776):ab prog 53 #[v] V fun r V'=>F3 V' r x y:=by
 obtain ⟨p1,n1,c1,p2,n2,c2,p3,n3,c3,p4,n4,c4,rfl,h1,h2⟩:=h
 refine xA _ p1 n1 c1 p2 n2 c2 _ p3 n3 c3 p4 n4 c4 V _ fun V1 l1=>(oO (h1.le l1) s1 hk).mono ?_
 rintro r V2 l2 g1
 have g10:=g1
 obtain ⟨_,_,_,_,_,_,_,rfl⟩:=g1.shape
 refine ⟨_,_,_,_,_,_,_,rfl,fun V3 l3=>(oO (h2.le (l1.trans (l2.trans l3))) s2 hk).mono ?_⟩
 rintro r V4 l4 g2
 have g20:=g2
 obtain ⟨_,_,_,_,_,_,_,rfl⟩:=g2.shape
 exact ⟨_,_,_,_,_,_,_,rfl,fun V5 l5=>⟨_,_,_,_,_,_,_,_,_,_,_,_,_,_,rfl,g10.le (l3.trans (l4.trans l5)),g20.le l5⟩⟩
theorem lB {V:View}{v w:Value}{x y:Rat}(hx:RA V v x)(hy:RA V w y){k:Nat}(s:Sz k x)(hk:k<=1099511627776) :
  ab prog 35 #[v,w] V fun r V'=>r=.bool (decide (x=y)):=by
 obtain ⟨p,n,c,p',n',c',rfl,h1,h2⟩:=hx
 obtain ⟨q,m,e,q',m',e',rfl,h3,h4⟩:=hy
 have q1:=ag s.1
 have q2:=ag s.2
 refine sO _ p n c p' n' c' _ q m e q' m' e' V _ fun V1 l1=>(fv (h1.le l1) (h3.le l1) (by omega)).mono ?_
 rintro r V2 l2 rfl
 refine ⟨_,rfl,fun g V3 l3=>(lA (h2.le (l1.trans (l2.trans l3))) (h4.le (l1.trans (l2.trans l3))) (by omega)).mono ?_,fun g V6 l6=>?_⟩
 ·have g:=of_decide_eq_true g
  rintro r V4 l4 rfl
  refine ⟨_,rfl,fun V5 l5=>?_⟩
  have e:af x.den=af y.den↔x=y:=⟨fun h=>Rat.ext g (by have:=congrArg val h;rwa [ae,ae] at this),fun h=>by rw [h]⟩
  rw [show decide (af x.den=af y.den)=decide (x=y) from by rw [decide_eq_decide];exact e]
 ·have g:=of_decide_eq_false g
  rw [decide_eq_false (fun h=>g (by rw [h]))]
theorem tA {V:View}{v w:Value}{x y x' y':Rat}(h:F3 V v x y)(h':F3 V w x' y'){k:Nat}(s1:Sz k x)(s2:Sz k y)(hk:k<=1099511627776) :
  ab prog 89 #[v,w] V fun r V'=>r=.bool (decide (x=x'/\y=y')):=by
 obtain ⟨b,p,n,c,p',n',c',d,q,m,e,q',m',e',rfl,h1,h2⟩:=h
 obtain ⟨b1,p1,n1,c1,KO,n1',c1',d1,q1,m1,e1,q1',Ry,QB,rfl,h3,h4⟩:=h'
 refine sR b p n c p' n' c' d q m e q' m' e' b1 p1 n1 c1 KO n1' c1' d1 q1 m1 e1 q1' Ry QB V _ fun V1 l1=>(lB (h1.le l1) (h3.le l1) s1 hk).mono ?_
 rintro r V2 l2 rfl
 refine ⟨_,rfl,fun g V3 l3=>(lB (h2.le (l1.trans (l2.trans l3))) (h4.le (l1.trans (l2.trans l3))) s2 hk).mono ?_,fun g V6 l6=>?_⟩
 ·have g:=of_decide_eq_true g
  rintro r V4 l4 rfl
  exact ⟨_,rfl,fun V5 l5=>by simp [g]⟩
 ·have g:=of_decide_eq_false g
  simp [g]
def Kx (a b c:Rat):L3:=
 let f:Nat:=a.den*b.den*c.den
 Kv (a*((f:Int):Rat)).num (b*((f:Int):Rat)).num (c*((f:Int):Rat)).num
end Go.Proofs.Tryz
namespace Go.Proofs.Tryz
open Go.bq
set_option maxRecDepth 100000
end Go.Proofs.Tryz
namespace Go.Proofs.Tryz
open Go.bq Go.ew
end Go.Proofs.Tryz
namespace Go.bq
open Go.ew
theorem RR.zero (V:View):RR V (.agg #[.int .i64 0,.int .i64 0,.pointer none]) 0:=.inl ⟨rfl,by unfold Wd;decide⟩
end Go.bq
namespace Go.Proofs.Tryz
open Go.bq Go.ew
structure Sp where
 lo:Rat
 hi:Rat
 a:Bool
 b:Bool
def Sp.can (s:Sp):Prop:=(s.a=true->s.lo=0)/\(s.b=true->s.hi=0)
def Sp.sz (k:Nat)(s:Sp):Prop:=Sz k s.lo/\Sz k s.hi
def Sp.zero:Sp:=⟨0,0,false,false⟩
def kW (k:Nat)(l:L3):Prop:=Sz k (l.1:Rat)/\Sz k (l.2.1:Rat)/\Sz k (l.2.2:Rat)
def BU (V:View)(v:Value)(s:Sp):Prop:=∃(x1 x2:Int)(p:OA)(y1 y2:Int)(q:OA),v=.agg #[.int .i64 x1,.int .i64 x2,.pointer p,.int .i64 y1,.int .i64 y2,.pointer q,.bool s.a,.bool s.b] /\
 RR V (.agg #[.int .i64 x1,.int .i64 x2,.pointer p]) s.lo/\RR V (.agg #[.int .i64 y1,.int .i64 y2,.pointer q]) s.hi
theorem BU.le {V V':View}{v:Value}{s:Sp}(h:BU V v s)(l:V.Le V'):BU V' v s:=by
 obtain ⟨x1,x2,p,y1,y2,q,e,h1,h2⟩:=h
 exact ⟨x1,x2,p,y1,y2,q,e,h1.le l,h2.le l⟩
def sW (V:View)(v:Value)(l:L3):Prop:=th V v (l.1:Rat) (l.2.1:Rat) (l.2.2:Rat)
theorem sW.le {V V':View}{v:Value}{l:L3}(h:sW V v l)(e:V.Le V'):sW V' v l:=th.le h e
def HU (V:View)(v:Value)(l:L3)(s:Sp):Prop:=∃(x1 x2:Int)(p:OA)(y1 y2:Int)(q:OA)(z1 z2:Int)(r:OA)(u1 u2:Int)(t:OA)(w1 w2:Int)(o:OA),
 v=.agg #[.int .i64 x1,.int .i64 x2,.pointer p,.int .i64 y1,.int .i64 y2,.pointer q,.int .i64 z1,.int .i64 z2,.pointer r,.int .i64 u1,.int .i64 u2,.pointer t,.int .i64 w1,.int .i64 w2,.pointer o,.bool s.a,.bool s.b] /\
 sW V (.agg #[.int .i64 x1,.int .i64 x2,.pointer p,.int .i64 y1,.int .i64 y2,.pointer q,.int .i64 z1,.int .i64 z2,.pointer r]) l /\
 BU V (.agg #[.int .i64 u1,.int .i64 u2,.pointer t,.int .i64 w1,.int .i64 w2,.pointer o,.bool s.a,.bool s.b]) s
theorem HU.le {V V':View}{v:Value}{l:L3}{s:Sp}(h:HU V v l s)(e:V.Le V'):HU V' v l s:=by
 obtain ⟨x1,x2,p,y1,y2,q,z1,z2,r,u1,u2,t,w1,w2,o,rfl,h1,h2⟩:=h
 exact ⟨x1,x2,p,y1,y2,q,z1,z2,r,u1,u2,t,w1,w2,o,rfl,h1.le e,h2.le e⟩
def FT (V:View)(v:Value)(b:Bool)(xs ys:List Nat):Prop:=∃p n c p' n' c',v=.agg #[.bool b,.slice p n c,.slice p' n' c']/\RD V p n c xs/\RD V p' n' c' ys
theorem FT.le {V V':View}{v:Value}{b:Bool}{xs ys:List Nat}(h:FT V v b xs ys)(l:V.Le V'):FT V' v b xs ys:=by
 obtain ⟨p,n,c,p',n',c',e,h1,h2⟩:=h;exact ⟨p,n,c,p',n',c',e,h1.le l,h2.le l⟩
theorem FT.nil {V:View}:FT V (.agg #[.bool false,.slice none 0 0,.slice none 0 0]) false [] []:=⟨_,_,_,_,_,_,rfl,RD.nil,RD.nil⟩
def RE (V:View)(v:Value)(q:Rat)(no:Bool):Prop:=(no=true->FT V v false [] [])/\(no=false->RA V v q)
theorem RE.le {V V':View}{v:Value}{q:Rat}{no:Bool}(h:RE V v q no)(l:V.Le V'):RE V' v q no:=⟨fun e=>(h.1 e).le l,fun e=>(h.2 e).le l⟩
theorem RE.shape {V:View}{v:Value}{q:Rat}{no:Bool}(h:RE V v q no):∃b p n c p' n' c',v=.agg #[.bool b,.slice p n c,.slice p' n' c']:=by
 cases no with
 | true=>obtain ⟨_,_,_,_,_,_,e,-⟩:=h.1 rfl;exact ⟨_,_,_,_,_,_,_,e⟩
 | false=>exact (h.2 rfl).shape
def LA (V:View)(v:Value)(s:Sp):Prop:=∃b p n c p' n' c' d q m e q' m' e',v=.agg #[.bool b,.slice p n c,.slice p' n' c',.bool d,.slice q m e,.slice q' m' e',.bool s.a,.bool s.b] /\
 RE V (.agg #[.bool b,.slice p n c,.slice p' n' c']) s.lo s.a/\RE V (.agg #[.bool d,.slice q m e,.slice q' m' e']) s.hi s.b
theorem LA.le {V V':View}{v:Value}{s:Sp}(h:LA V v s)(l:V.Le V'):LA V' v s:=by
 obtain ⟨b,p,n,c,p',n',c',d,q,m,e,q',m',e',rfl,h1,h2⟩:=h
 exact ⟨_,_,_,_,_,_,_,_,_,_,_,_,_,_,rfl,h1.le l,h2.le l⟩
def Ja (V:View)(v:Value)(l:L3)(s:Sp):Prop:=∃b1 p1 n1 c1 b2 p2 n2 c2 b3 p3 n3 c3 b p n c p' n' c' d q m e q' m' e',
 v=.agg #[.bool b1,.slice p1 n1 c1,.bool b2,.slice p2 n2 c2,.bool b3,.slice p3 n3 c3,.bool b,.slice p n c,.slice p' n' c',.bool d,.slice q m e,.slice q' m' e',.bool s.a,.bool s.b] /\
 RL V (.agg #[.bool b1,.slice p1 n1 c1,.bool b2,.slice p2 n2 c2,.bool b3,.slice p3 n3 c3]) l.1 l.2.1 l.2.2/\LA V (.agg #[.bool b,.slice p n c,.slice p' n' c',.bool d,.slice q m e,.slice q' m' e',.bool s.a,.bool s.b]) s
theorem Ja.le {V V':View}{v:Value}{l:L3}{s:Sp}(h:Ja V v l s)(e:V.Le V'):Ja V' v l s:=by
 obtain ⟨b1,p1,n1,c1,b2,p2,n2,c2,b3,p3,n3,c3,b,p,n,c,p',n',c',d,q,m,f,q',m',f',rfl,h1,h2⟩:=h
 exact ⟨_,_,_,_,_,_,_,_,_,_,_,_,_,_,_,_,_,_,_,_,_,_,_,_,_,_,rfl,h1.le e,h2.le e⟩
def Jq (V:View)(v:Value)(s:Sp):Prop:=∃b p n c p' n' c' d q m e q' m' e',v=.agg #[.bool b,.slice p n c,.slice p' n' c',.bool d,.slice q m e,.slice q' m' e',.bool s.a,.bool s.b] /\
 RQ V (.agg #[.bool b,.slice p n c,.slice p' n' c']) s.lo/\RQ V (.agg #[.bool d,.slice q m e,.slice q' m' e']) s.hi
theorem Jq.le {V V':View}{v:Value}{s:Sp}(h:Jq V v s)(l:V.Le V'):Jq V' v s:=by
 obtain ⟨b,p,n,c,p',n',c',d,q,m,e,q',m',e',rfl,h1,h2⟩:=h
 exact ⟨_,_,_,_,_,_,_,_,_,_,_,_,_,_,rfl,h1.le l,h2.le l⟩
def RF (V:View)(v:Value)(l:L3)(s:Sp):Prop:=∃b1 p1 n1 c1 b2 p2 n2 c2 b3 p3 n3 c3 b p n c p' n' c' d q m e q' m' e',
 v=.agg #[.bool b1,.slice p1 n1 c1,.bool b2,.slice p2 n2 c2,.bool b3,.slice p3 n3 c3,.bool b,.slice p n c,.slice p' n' c',.bool d,.slice q m e,.slice q' m' e',.bool s.a,.bool s.b] /\
 RL V (.agg #[.bool b1,.slice p1 n1 c1,.bool b2,.slice p2 n2 c2,.bool b3,.slice p3 n3 c3]) l.1 l.2.1 l.2.2/\Jq V (.agg #[.bool b,.slice p n c,.slice p' n' c',.bool d,.slice q m e,.slice q' m' e',.bool s.a,.bool s.b]) s
theorem RF.le {V V':View}{v:Value}{l:L3}{s:Sp}(h:RF V v l s)(e:V.Le V'):RF V' v l s:=by
 obtain ⟨b1,p1,n1,c1,b2,p2,n2,c2,b3,p3,n3,c3,b,p,n,c,p',n',c',d,q,m,f,q',m',f',rfl,h1,h2⟩:=h
 exact ⟨_,_,_,_,_,_,_,_,_,_,_,_,_,_,_,_,_,_,_,_,_,_,_,_,_,_,rfl,h1.le e,h2.le e⟩
def az (l:L3)(x y:Rat):Rat:=(l.1:Rat)*x+(l.2.1:Rat)*y+(l.2.2:Rat)
def ie (l:L3):Rat:=(l.1:Rat)*(l.1:Rat)+(l.2.1:Rat)*(l.2.1:Rat)
def Ff (l:L3)(x y:Rat):Rat:=((l.2.1:Rat)*x-(l.1:Rat)*y)*(ie l)⁻¹
def jW (l:L3)(t:Rat):Rat:=(l.2.1:Rat)*t-(l.1:Rat)*(l.2.2:Rat)*(ie l)⁻¹
def jX (l:L3)(t:Rat):Rat:=-((l.1:Rat)*t)-(l.2.1:Rat)*(l.2.2:Rat)*(ie l)⁻¹
def jJ (l:L3):L3:=(-l.1,-l.2.1,-l.2.2)
def Sp.neg (s:Sp):Sp:=⟨if s.b then 0 else -s.hi,if s.a then 0 else -s.lo,s.b,s.a⟩
def Sp.emp (s:Sp):Bool:=!s.a&&!s.b&&decide (fl s.lo s.hi≥0)
def Nz (l:L3):Prop:=¬(l.1=0/\l.2.1=0)
theorem sq_nonneg (x:Int):0<=x*x:=by
 rw [←Int.natAbs_mul_self];exact Int.natCast_nonneg _
theorem E2 (l:L3):ie l=((l.1*l.1+l.2.1*l.2.1:Int):Rat):=by unfold ie;simp
theorem Nz.norm {l:L3}(h:Nz l):ie l≠0:=by
 rw [E2]
 have h1:=sq_nonneg l.1
 have h2:=sq_nonneg l.2.1
 have h3:l.1*l.1+l.2.1*l.2.1≠0:=by
  intro e
  have e1:l.1*l.1=0:=by omega
  have e2:l.2.1*l.2.1=0:=by omega
  exact h ⟨(Int.mul_eq_zero.1 e1).elim id id,(Int.mul_eq_zero.1 e2).elim id id⟩
 exact_mod_cast h3
theorem M9 {V:View}{l t:Value}{L:L3}{x:Rat}(hl:sW V l L)(ht:RR V t x){k:Nat}(sl:kW k L)(s1:Sz k x)(hk:20*k+19<274877906944) :
  ab prog 132 #[l,t] V fun r V'=>nG V' r (jW L x) (jX L x):=by
 refine (ya hl ht sl.1 sl.2.1 sl.2.2 s1 hk).mono ?_
 rintro r V2 l2 g
 have e1:jW L x=((L.1:Rat)*((-(L.2.2:Rat))*((L.1:Rat)*(L.1:Rat)+(L.2.1:Rat)*(L.2.1:Rat))⁻¹))+((L.2.1:Rat)*x):=by unfold jW ie;grind
 have e2:jX L x=((L.2.1:Rat)*((-(L.2.2:Rat))*((L.1:Rat)*(L.1:Rat)+(L.2.1:Rat)*(L.2.1:Rat))⁻¹))+((-(L.1:Rat))*x):=by unfold jX ie;grind
 rw [e1,e2];exact g
theorem I2 {L:L3}{x:Rat}{k:Nat}(sl:kW k L)(s1:Sz k x):Sz (20*k+19) (jW L x):=by
 have e1:jW L x=((L.1:Rat)*((-(L.2.2:Rat))*((L.1:Rat)*(L.1:Rat)+(L.2.1:Rat)*(L.2.1:Rat))⁻¹))+((L.2.1:Rat)*x):=by unfold jW ie;grind
 rw [e1];exact uq sl.1 sl.2.1 sl.2.2 s1
theorem I3 {L:L3}{x:Rat}{k:Nat}(sl:kW k L)(s1:Sz k x):Sz (20*k+19) (jX L x):=by
 have e2:jX L x=((L.2.1:Rat)*((-(L.2.2:Rat))*((L.1:Rat)*(L.1:Rat)+(L.2.1:Rat)*(L.2.1:Rat))⁻¹))+((-(L.1:Rat))*x):=by unfold jX ie;grind
 rw [e2];exact ur sl.1 sl.2.1 sl.2.2 s1
theorem Iz {V:View}{l p:Value}{L:L3}{x y:Rat}(hl:sW V l L)(hp:nG V p x y){k:Nat}(sl:kW k L)(s1:Sz k x)(s2:Sz k y)(hk:16*k+16<274877906944) :
  ab prog 131 #[l,p] V fun r V'=>r=.int .i64 (az L x y).num.sign:=tm hl hp sl.1 sl.2.1 sl.2.2 s1 s2 hk
theorem kW.rev {k:Nat}{L:L3}(h:kW k L):kW k (jJ L):=by
 unfold kW jJ
 simp only [Rat.intCast_neg]
 exact ⟨h.1.neg,h.2.1.neg,h.2.2.neg⟩
structure Mg (V:View) (vs:List Value) (i:Int) (f a b c:Rat):Prop where
 h0:0<=i
 h3:i<=3
 row:∃(x1 x2:Int)(p:OA)(y1 y2:Int)(q:OA)(z1 z2:Int)(r:OA),vs=[.int .i64 x1,.int .i64 x2,.pointer p,.int .i64 y1,.int .i64 y2,.pointer q,.int .i64 z1,.int .i64 z2,.pointer r] /\
  RR V (.agg #[.int .i64 x1,.int .i64 x2,.pointer p]) (if 0<i then a*f else a)/\RR V (.agg #[.int .i64 y1,.int .i64 y2,.pointer q]) (if 1<i then b*f else b)/\RR V (.agg #[.int .i64 z1,.int .i64 z2,.pointer r]) (if 2<i then c*f else c)
theorem Mg.le {V V':View}{vs:List Value}{i:Int}{f a b c:Rat}(h:Mg V vs i f a b c)(l:V.Le V'):Mg V' vs i f a b c:=by
 obtain ⟨h0,h3,x1,x2,p,y1,y2,q,z1,z2,r,e,g1,g2,g3⟩:=h
 exact ⟨h0,h3,x1,x2,p,y1,y2,q,z1,z2,r,e,g1.le l,g2.le l,g3.le l⟩
def zF (px py qx qy:Rat):L3:=Kx (-(qy-py)) (qx-px) (-(-(qy-py)*px+(qx-px)*py))
theorem Hd {px py qx qy:Rat}:(px=qx/\py=qy)↔(-(qy-py)=0/\qx-px=0):=⟨fun ⟨h1,h2⟩=>⟨by grind,by grind⟩,fun ⟨h1,h2⟩=>⟨by grind,by grind⟩⟩
def Dv (b:Bool)(xs ys:List Nat):Rat:=mkRat (aU b xs) (val ys)
def IG (b:Bool)(xs ys:List Nat):Bool:=jR b xs&&decide (af (val ys)=ys)&&!decide (ys=[])&&decide (Nat.gcd (val xs) (val ys)=1)
def Oi (b:Bool)(xs ys:List Nat):Bool:=!b&&decide (xs=[])&&decide (ys=[])
def H9 (b:Bool)(xs ys:List Nat)(no:Bool):Rat:=if no then 0 else Dv b xs ys
def Eh (b:Bool)(xs ys:List Nat)(no:Bool):Bool:=if no then Oi b xs ys else IG b xs ys
theorem Cl {q:Rat}:IG (decide (q.num<0)) (af q.num.natAbs) (af q.den)=true/\Dv (decide (q.num<0)) (af q.num.natAbs) (af q.den)=q:=by
 constructor
 ·unfold IG
  have h1:jR (decide (q.num<0)) (af q.num.natAbs)=true:=by
   unfold jR
   rw [ae]
   by_cases h:q.num<0
   ·have:af q.num.natAbs≠[]:=fun e=>by have:=bf.1 e;omega
    simp [h,this]
   ·simp [h]
  have h2:af q.den≠[]:=fun e=>q.den_nz (bf.1 e)
  rw [h1,ae,ae]
  simp [h2,q.reduced]
 ·unfold Dv
  rw [aF,ae,Rat.mkRat_self]
theorem AB {V:View}{v:Value}{s:Sp}(h:BU V v s){k:Nat}(hs:s.sz k)(hk:2*k<1099511627776) :
  ab prog 223 #[v] V fun r V'=>r=.bool s.emp:=by
 obtain ⟨x1,x2,p,y1,y2,q,rfl,h1,h2⟩:=h
 refine pP x1 x2 p y1 y2 q s.a s.b V _ ⟨fun ha=>⟨fun hb V1 l1=>(ji (h1.le l1) (h2.le l1) hs.1 hs.2 (by omega)).mono ?_,fun hb V4 l4=>?_⟩,fun ha V5 l5=>?_⟩
 ·rintro r V2 l2 rfl
  exact ⟨_,rfl,fun V3 l3=>by rw [Bool.not_eq_true'] at ha hb;simp [Sp.emp,ha,hb]⟩
 ·rw [Bool.not_eq_false'] at hb;simp [Sp.emp,hb]
 ·rw [Bool.not_eq_false'] at ha;simp [Sp.emp,ha]
def LB (V:View)(v:Value)(b1:Bool)(Hg Hi:List Nat)(b2:Bool)(Hh Hj:List Nat)(na nb:Bool):Prop:=∃p n c p' n' c' q m e q' m' e',v=.agg #[.bool b1,.slice p n c,.slice p' n' c',.bool b2,.slice q m e,.slice q' m' e',.bool na,.bool nb] /\
 FT V (.agg #[.bool b1,.slice p n c,.slice p' n' c']) b1 Hg Hi/\FT V (.agg #[.bool b2,.slice q m e,.slice q' m' e']) b2 Hh Hj
theorem LB.le {V V':View}{v:Value}{b1:Bool}{Hg Hi:List Nat}{b2:Bool}{Hh Hj:List Nat}{na nb:Bool}(h:LB V v b1 Hg Hi b2 Hh Hj na nb)(l:V.Le V'):LB V' v b1 Hg Hi b2 Hh Hj na nb:=by
 obtain ⟨p,n,c,p',n',c',q,m,e,q',m',e',rfl,h1,h2⟩:=h
 exact ⟨_,_,_,_,_,_,_,_,_,_,_,_,rfl,h1.le l,h2.le l⟩
def K8 (b1:Bool)(Hg Hi:List Nat)(b2:Bool)(Hh Hj:List Nat)(na nb:Bool):Sp:=⟨H9 b1 Hg Hi na,H9 b2 Hh Hj nb,na,nb⟩
def okW (b1:Bool)(Hg Hi:List Nat)(b2:Bool)(Hh Hj:List Nat)(na nb:Bool):Bool:=Eh b1 Hg Hi na&&Eh b2 Hh Hj nb&&!(K8 b1 Hg Hi b2 Hh Hj na nb).emp
def PN (l:L3)(s:Sp):Prop:=fW l=true/\s.can/\s.emp=false
theorem RE.raw {V:View}{v:Value}{q:Rat}{no:Bool}(h:RE V v q no)(hc:no=true->q=0):∃b xs ys,FT V v b xs ys/\Eh b xs ys no=true/\H9 b xs ys no=q/\(∀k,Sz k q->xs.length<=k/\ys.length<=k):=by
 cases no with
 | true=>
  exact ⟨false,[],[],h.1 rfl,rfl,by rw [hc rfl];rfl,fun k _=>⟨Nat.zero_le _,Nat.zero_le _⟩⟩
 | false=>
  obtain ⟨p,n,c,p',n',c',rfl,h1,h2⟩:=h.2 rfl
  exact ⟨_,_,_,⟨_,_,_,_,_,_,rfl,h1,h2⟩,Cl.1,Cl.2,fun k hk=>⟨ag hk.1,ag hk.2⟩⟩
theorem sW.Qv {V:View}{r:Value}{l:L3}(h:RL V r ((l.1:Rat)).num ((l.2.1:Rat)).num ((l.2.2:Rat)).num):RL V r l.1 l.2.1 l.2.2:=by
 simpa [Rat.num_intCast] using h
def A7 (x y:Rat):Rat:=if 0<fl y x then y else x
def A_ (x y:Rat):Rat:=if fl y x<0 then y else x
theorem wk (x y:Rat):(x<y/\fl x y=-1)\/(x=y/\fl x y=0)\/(y<x/\fl x y=1):=by
 by_cases h1:x<y
 ·exact .inl ⟨h1,B7.1 h1⟩
 ·by_cases h2:x=y
  ·exact .inr (.inl ⟨h2,mG.1 h2⟩)
  ·have h3:y<x:=by grind
   exact .inr (.inr ⟨h3,B6.1 h3⟩)
theorem Sp.mK {s:Sp}:s.emp=false↔(s.a=true\/s.b=true\/s.lo<s.hi):=by
 unfold Sp.emp
 rcases wk s.lo s.hi with ⟨h,e⟩|⟨h,e⟩|⟨h,e⟩<;>rw [e]<;>cases s.a<;>cases s.b<;>simp<;>grind
def Sp.meet (v w:Sp):Sp:=⟨if v.a then w.lo else if w.a then v.lo else A7 v.lo w.lo,if v.b then w.hi else if w.b then v.hi else A_ v.hi w.hi,if v.a then w.a else false,if v.b then w.b else false⟩
theorem Sp.yU {v w:Sp}(h1:v.can)(h2:w.can):(v.meet w).can:=by
 unfold Sp.meet
 constructor<;>dsimp only
 ·cases hv:v.a with
  | false=>intro h;cases h
  | true=>exact fun h=>h2.1 h
 ·cases hv:v.b with
  | false=>intro h;cases h
  | true=>exact fun h=>h2.2 h
def Sp.dk (s:Sp):Rat:=if s.a then (if s.b then 0 else s.hi-((1:Int):Rat)) else if s.b then s.lo+((1:Int):Rat) else (s.lo+s.hi)*((2:Int):Rat)⁻¹
theorem Sp.Ct {s:Sp}(h:s.emp=false):(s.a=false->s.lo<s.dk)/\(s.b=false->s.dk<s.hi):=by
 rw [Sp.mK] at h
 unfold Sp.dk
 cases ha:s.a<;>cases hb:s.b<;>simp [ha,hb] at h⊢<;> grind
def jw (m l:L3):Rat:=((m.1:Rat)*(l.2.1:Rat))+((m.2.1:Rat)*(-(l.1:Rat)))
def j7 (m l:L3):Rat:=az m (jW l 0) (jX l 0)
theorem w_ (m l:L3)(t:Rat):az m (jW l t) (jX l t)=j7 m l+jw m l*t:=by
 unfold j7 az jw jW jX;grind
def fG (m l:L3):Rat:=-(j7 m l*(jw m l)⁻¹)
def eM (l:L3)(s:Sp)(m:L3):Sp:=
 if (jw m l).num.sign==0 then s else if (jw m l).num.sign==1 then s.meet ⟨fG m l,0,false,true⟩ else s.meet ⟨0,fG m l,true,false⟩
def eL (l:L3)(s:Sp)(m:L3):Bool:=
 if (jw m l).num.sign==0 then decide ((j7 m l).num.sign>0) else !(eM l s m).emp
theorem qi (q:Rat):(q=0/\q.num.sign=0)\/(0<q/\q.num.sign=1)\/(q<0/\q.num.sign=-1):=by
 have h1:=@yZ q
 have h2:=@y_ q
 have h3:=@Rat.num_eq_zero q
 rcases Int.lt_trichotomy q.num 0 with h|h|h
 ·exact .inr (.inr ⟨h1.1 h,Int.sign_eq_neg_one_of_neg h⟩)
 ·exact .inl ⟨h3.1 h,by rw [h];rfl⟩
 ·exact .inr (.inl ⟨h2.1 h,Int.sign_eq_one_of_pos h⟩)
theorem Ed {l:L3}{s:Sp}{m:L3}(he:s.emp=false)(hb:eL l s m=true):(eM l s m).emp=false:=by
 unfold eL at hb
 split at hb
 ·rename_i h
  unfold eM
  rw [if_pos h];exact he
 ·simpa using hb
theorem Ee {l:L3}{s:Sp}{m:L3}(hc:s.can):(eM l s m).can:=by
 unfold eM
 split
 ·exact hc
 ·split
  ·exact Sp.yU hc ⟨(fun h=>nomatch h),fun _=>rfl⟩
  ·exact Sp.yU hc ⟨fun _=>rfl,(fun h=>nomatch h)⟩
theorem val_rev (m:L3)(x y:Rat):az (jJ m) x y=-az m x y:=by
 unfold az jJ;simp only [Rat.intCast_neg];grind
def eK (l m:L3):Rat:=((l.1:Rat)*(m.2.1:Rat))-((l.2.1:Rat)*(m.1:Rat))
def ID (l m:L3):Rat:=(((l.2.1:Rat)*(m.2.2:Rat))-((l.2.2:Rat)*(m.2.1:Rat)))*(eK l m)⁻¹
def IE (l m:L3):Rat:=(((l.2.2:Rat)*(m.1:Rat))-((l.1:Rat)*(m.2.2:Rat)))*(eK l m)⁻¹
theorem kW.af {k:Nat}{l:L3}(h:kW k l)(hk:k<=1099511627776):(af l.1.natAbs).length<=1099511627776/\(af l.2.1.natAbs).length<=1099511627776/\(af l.2.2.natAbs).length<=1099511627776:=by
 have d1:=ag (show l.1.natAbs<2^k from h.1.1)
 have d2:=ag (show l.2.1.natAbs<2^k from h.2.1.1)
 have d3:=ag (show l.2.2.natAbs<2^k from h.2.2.1)
 exact ⟨by omega,by omega,by omega⟩
def Lx (V:View)(ad:Addr)(l:L3)(s:Sp):Prop:=∃xs:List Value,Ja V (.agg xs.toArray) l s/\∀i x,xs[i]?=some x->V.at (ad.add i) x
theorem Lx.le {V V':View}{ad:Addr}{l:L3}{s:Sp}(h:Lx V ad l s)(e:V.Le V'):Lx V' ad l s:=by
 obtain ⟨xs,h1,h2⟩:=h;exact ⟨xs,h1.le e,fun i x hx=>e.at (h2 i x hx)⟩
structure HT (V:View) (p:OA) (n:Nat) (fs:List (L3×Sp)):Prop where
 len:n=fs.length
 at_:∀(i:Nat)(h:i<fs.length),∃ad,aj p (i*14)=some ad/\Lx V ad fs[i].1 fs[i].2
theorem HT.le {V V':View}{p:OA}{n:Nat}{fs:List (L3×Sp)}(h:HT V p n fs)(e:V.Le V'):HT V' p n fs:=⟨h.len,fun i hi=>by obtain ⟨ad,h1,h2⟩:=h.at_ i hi;exact ⟨ad,h1,h2.le e⟩⟩
theorem kk {p:OA}{j:Nat}{ad:Addr}(h:aj p j=some ad):p.isSome=true:=by
 cases p with
 | none=>cases h
 | some a=>rfl
def LD (V:View)(ad:Addr)(s:Sp):Prop:=∃xs:List Value,Jq V (.agg xs.toArray) s/\∀i x,xs[i]?=some x->V.at (ad.add i) x
theorem LD.le {V V':View}{ad:Addr}{s:Sp}(h:LD V ad s)(e:V.Le V'):LD V' ad s:=by
 obtain ⟨xs,h1,h2⟩:=h;exact ⟨xs,h1.le e,fun i x hx=>e.at (h2 i x hx)⟩
structure Me (V:View) (p:OA) (n:Nat) (ss:List Sp):Prop where
 len:n=ss.length
 at_:∀(i:Nat)(h:i<ss.length),∃ad,aj p (i*8)=some ad/\LD V ad ss[i]
theorem Me.le {V V':View}{p:OA}{n:Nat}{ss:List Sp}(h:Me V p n ss)(e:V.Le V'):Me V' p n ss:=⟨h.len,fun i hi=>by obtain ⟨ad,h1,h2⟩:=h.at_ i hi;exact ⟨ad,h1,h2.le e⟩⟩
def Sp.la (s:Sp)(t:Rat):Int:=if s.a then 1 else fl t s.lo
def Sp.lb (s:Sp)(t:Rat):Int:=if s.b then -1 else fl t s.hi
theorem FJ {px py qx qy:Rat}:((lk px py qx qy).1.num / (fI (lk px py qx qy).1.num (lk px py qx qy).2.1.num (lk px py qx qy).2.2.num:Int),(lk px py qx qy).2.1.num / (fI (lk px py qx qy).1.num (lk px py qx qy).2.1.num (lk px py qx qy).2.2.num:Int),(lk px py qx qy).2.2.num / (fI (lk px py qx qy).1.num (lk px py qx qy).2.1.num (lk px py qx qy).2.2.num:Int))=zF px py qx qy:=by
 unfold lk zF Kx Kv
 have e:∀x:Rat,(-x).den=x.den:=fun x=>rfl
 rw [e (-(qy-py)*px+(qx-px)*py)]
 rfl
theorem FK {px py qx qy:Rat}:((lk px py qx qy).1.num=0/\(lk px py qx qy).2.1.num=0)↔(px=qx/\py=qy):=by
 unfold lk
 dsimp only
 generalize hf:(-(qy-py)).den*(qx-px).den*(-(-(qy-py)*px+(qx-px)*py)).den=f
 have hf0:f≠0:=by rw [←hf];exact Nat.mul_ne_zero (Nat.mul_ne_zero (Rat.den_nz _) (Rat.den_nz _)) (Rat.den_nz _)
 have hf1:((f:Int):Rat)≠0:=by exact_mod_cast hf0
 rw [Rat.num_eq_zero,Rat.num_eq_zero,Rat.mul_eq_zero,Rat.mul_eq_zero,or_iff_left hf1,or_iff_left hf1]
 exact Hd.symm
theorem vA {V:View}{u w:Value}{px py qx qy:Rat}(hp:RP V u px py)(hq:RP V w qx qy){k:Nat}(s1:Sz k px)(s2:Sz k py)(s3:Sz k qx)(s4:Sz k qy)(hk1:1<=k)(hk:64*k+64<274877906944) :
  ab prog 11 #[u,w] V fun r V'=>(px=qx/\py=qy->∃l,r=.tuple #[l,.bool false]/\RL V' l 0 0 0)/\(¬(px=qx/\py=qy)->∃l,r=.tuple #[l,.bool true]/\RL V' l (zF px py qx qy).1 (zF px py qx qy).2.1 (zF px py qx qy).2.2):=by
 refine (pC hp hq s1 s2 s3 s4 hk1 hk).mono ?_
 rintro r V2 l2 ⟨m1,m2⟩
 have e:=FJ (px:=px) (py:=py) (qx:=qx) (qy:=qy)
 rw [FK] at m1 m2
 refine ⟨m1,fun h=>?_⟩
 obtain ⟨l,hl,g⟩:=m2 h
 rw [←e]
 exact ⟨l,hl,g⟩
theorem PO.ex {V:View}{v:Value}{l:L3}{s:Sp}(h:HU V v l s):∃(x1 x2:Int)(p:OA)(y1 y2:Int)(q:OA)(z1 z2:Int)(r:OA)(u1 u2:Int)(t:OA)(w1 w2:Int)(o:OA),
 v=.agg #[.int .i64 x1,.int .i64 x2,.pointer p,.int .i64 y1,.int .i64 y2,.pointer q,.int .i64 z1,.int .i64 z2,.pointer r,.int .i64 u1,.int .i64 u2,.pointer t,.int .i64 w1,.int .i64 w2,.pointer o,.bool s.a,.bool s.b]:=by
 obtain ⟨_,_,_,_,_,_,_,_,_,_,_,_,_,_,_,e,-⟩:=h;exact ⟨_,_,_,_,_,_,_,_,_,_,_,_,_,_,_,e⟩
theorem AD {V:View}{v w:Value}{x y:Rat}(hx:RR V v x)(hy:RR V w y){k:Nat}(sx:Sz k x)(sy:Sz k y)(hk:2*k<1099511627776) :
  ab prog 222 #[v,w] V fun r V'=>RR V' r (A7 x y):=by
 have hx0:=hx
 have hy0:=hy
 obtain ⟨a,b,c,rfl⟩:=hx.shape
 obtain ⟨d,e,f,rfl⟩:=hy.shape
 refine zM a b c d e f V _ fun V1 l1=>(ji (hy0.le l1) (hx0.le l1) sy sx (by omega)).mono ?_
 rintro r V2 l2 rfl
 unfold A7
 exact ⟨_,rfl,fun h V3 l3=>by rw [if_pos (of_decide_eq_true h)];exact hy0.le (l1.trans (l2.trans l3)),fun h V4 l4=>by rw [if_neg (of_decide_eq_false h)];exact hx0.le (l1.trans (l2.trans l4))⟩
theorem AE {V:View}{v w:Value}{x y:Rat}(hx:RR V v x)(hy:RR V w y){k:Nat}(sx:Sz k x)(sy:Sz k y)(hk:2*k<1099511627776) :
  ab prog 145 #[v,w] V fun r V'=>RR V' r (A_ x y):=by
 have hx0:=hx
 have hy0:=hy
 obtain ⟨a,b,c,rfl⟩:=hx.shape
 obtain ⟨d,e,f,rfl⟩:=hy.shape
 refine zN a b c d e f V _ fun V1 l1=>(ji (hy0.le l1) (hx0.le l1) sy sx (by omega)).mono ?_
 rintro r V2 l2 rfl
 unfold A_
 exact ⟨_,rfl,fun h V3 l3=>by rw [if_pos (of_decide_eq_true h)];exact hy0.le (l1.trans (l2.trans l3)),fun h V4 l4=>by rw [if_neg (of_decide_eq_false h)];exact hx0.le (l1.trans (l2.trans l4))⟩
theorem Sp.wH {v w:Sp}{k:Nat}(h1:v.sz k)(h2:w.sz k):(v.meet w).sz k:=by
 unfold Sp.meet Sp.sz A7 A_
 constructor<;>dsimp only
 ·split
  ·exact h2.1
  ·split
   ·exact h1.1
   ·split
    ·exact h2.1
    ·exact h1.1
 ·split
  ·exact h2.2
  ·split
   ·exact h1.2
   ·split
    ·exact h2.2
    ·exact h1.2
theorem uH {V:View}{v w:Value}{s t:Sp}(h:BU V v s)(h':BU V w t){k:Nat}(hs:s.sz k)(ht:t.sz k)(hk:2*k<1099511627776) :
  ab prog 195 #[v,w] V fun r V'=>∃u,r=.tuple #[u,.bool (!(s.meet t).emp)]/\BU V' u (s.meet t):=by
 obtain ⟨x1,x2,p,y1,y2,q,rfl,h1,h2⟩:=h
 obtain ⟨u1,u2,o,w1,w2,j,rfl,g1,g2⟩:=h'
 have Nh:s.a=true->(s.meet t).lo=t.lo/\(s.meet t).a=t.a:=fun e=>by simp [Sp.meet,e]
 have lo2:s.a=false->t.a=false->(s.meet t).lo=A7 s.lo t.lo:=fun e e'=>by simp [Sp.meet,e,e']
 have lo3:s.a=false->t.a=true->(s.meet t).lo=s.lo:=fun e e'=>by simp [Sp.meet,e,e']
 have Px:s.a=false->(s.meet t).a=s.a:=fun e=>by simp [Sp.meet,e]
 have hi1:s.b=true->(s.meet t).hi=t.hi/\(s.meet t).b=t.b:=fun e=>by simp [Sp.meet,e]
 have hi2:s.b=false->t.b=false->(s.meet t).hi=A_ s.hi t.hi:=fun e e'=>by simp [Sp.meet,e,e']
 have hi3:s.b=false->t.b=true->(s.meet t).hi=s.hi:=fun e e'=>by simp [Sp.meet,e,e']
 have hi4:s.b=false->(s.meet t).b=s.b:=fun e=>by simp [Sp.meet,e]
 refine sB x1 x2 p y1 y2 q s.a s.b u1 u2 o w1 w2 j t.a t.b V _ ⟨fun z V1=>RR V1 (.agg #[.int .i64 z.1,.int .i64 z.2.1,.pointer z.2.2.1]) (s.meet t).lo/\RR V1 (.agg #[.int .i64 z.2.2.2.1,.int .i64 z.2.2.2.2.1,.pointer z.2.2.2.2.2.1]) s.hi/\z.2.2.2.2.2.2.1=(s.meet t).a/\z.2.2.2.2.2.2.2=s.b,⟨fun ha=>?_,fun ha=>⟨fun hb V1 l1=>(AD (h1.le l1) (g1.le l1) hs.1 ht.1 hk).mono ?_,fun hb=>?_⟩⟩,?_⟩
 ·refine ⟨(u1,u2,o,y1,y2,q,t.a,s.b),by and_intros<;>rfl,?_,h2,(Nh ha).2.symm,rfl⟩
  rw [(Nh ha).1];exact g1
 ·rintro r V2 l2 g
  rw [Bool.not_eq_true'] at hb
  have g0:=g
  obtain ⟨a1,a2,a3,rfl⟩:=g.shape
  refine ⟨_,_,_,rfl,(a1,a2,a3,y1,y2,q,s.a,s.b),by and_intros<;>rfl,?_,h2.le (l1.trans l2),(Px ha).symm,rfl⟩
  rw [lo2 ha hb];exact g0
 ·rw [Bool.not_eq_false'] at hb
  refine ⟨(x1,x2,p,y1,y2,q,s.a,s.b),by and_intros<;>rfl,?_,h2,(Px ha).symm,rfl⟩
  rw [lo3 ha hb];exact h1
 ·rintro ⟨z1,z2,z3,z4,z5,z6,z7,z8⟩ V3 l3 ⟨k1,k2,k3,k4⟩
  dsimp only at k1 k2 k3 k4
  subst k3 k4
  refine ⟨rfl,fun z V1=>RR V1 (.agg #[.int .i64 z.1,.int .i64 z.2.1,.pointer z.2.2.1]) (s.meet t).lo/\RR V1 (.agg #[.int .i64 z.2.2.2.1,.int .i64 z.2.2.2.2.1,.pointer z.2.2.2.2.2.1]) (s.meet t).hi/\z.2.2.2.2.2.2.1=(s.meet t).a/\z.2.2.2.2.2.2.2=(s.meet t).b,⟨fun ha=>?_,fun ha=>⟨fun hb V4 l4=>(AE (h2.le (l3.trans l4)) (g2.le (l3.trans l4)) hs.2 ht.2 hk).mono ?_,fun hb=>?_⟩⟩,?_⟩
  ·refine ⟨(z1,z2,z3,w1,w2,j,(s.meet t).a,t.b),by and_intros<;>rfl,k1,?_,rfl,(hi1 ha).2.symm⟩
   rw [(hi1 ha).1];exact g2.le l3
  ·rintro r V5 l5 g
   rw [Bool.not_eq_true'] at hb
   have g0:=g
   obtain ⟨a1,a2,a3,rfl⟩:=g.shape
   refine ⟨_,_,_,rfl,(z1,z2,z3,a1,a2,a3,(s.meet t).a,s.b),by and_intros<;>rfl,k1.le (l4.trans l5),?_,rfl,(hi4 ha).symm⟩
   rw [hi2 ha hb];exact g0
  ·rw [Bool.not_eq_false'] at hb
   refine ⟨(z1,z2,z3,z4,z5,z6,(s.meet t).a,s.b),by and_intros<;>rfl,k1,?_,rfl,(hi4 ha).symm⟩
   rw [hi3 ha hb];exact k2
  ·rintro ⟨y1,y2,y3,y4,y5,y6,y7,y8⟩ V6 l6 ⟨j1,j2,j3,j4⟩
   dsimp only at j1 j2 j3 j4
   subst j3 j4
   refine ⟨rfl,fun V7 l7=>(AB ⟨_,_,_,_,_,_,rfl,j1.le l7,j2.le l7⟩ (Sp.wH hs ht) hk).mono ?_⟩
   rintro r V8 l8 rfl
   exact ⟨_,rfl,fun V9 l9=>⟨_,rfl,_,_,_,_,_,_,rfl,j1.le (l7.trans (l8.trans l9)),j2.le (l7.trans (l8.trans l9))⟩⟩
theorem kV {L M:L3}{k:Nat}(sl:kW k L)(sm:kW k M):Sz (4*k+3) (jw M L):=cF sm.1 sm.2.1 sl.2.1 sl.1.neg
theorem D1 {L M:L3}:(((M.1:Rat)*((L.1:Rat)*(((-(L.2.2:Rat))*(((L.1:Rat)*(L.1:Rat))+((L.2.1:Rat)*(L.2.1:Rat)))⁻¹))))+((M.2.1:Rat)*((L.2.1:Rat)*(((-(L.2.2:Rat))*(((L.1:Rat)*(L.1:Rat))+((L.2.1:Rat)*(L.2.1:Rat)))⁻¹)))))+(M.2.2:Rat)=j7 M L:=by
 unfold j7 az jW jX ie;grind
theorem kU {L M:L3}{k:Nat}(sl:kW k L)(sm:kW k M):Sz (50*k+49) (j7 M L):=by
 rw [←D1]
 exact Sz.mono (je (k:=10*k+9) (sm.1.mono (by omega)) (sm.2.1.mono (by omega)) (sm.2.2.mono (by omega)) (cO sl.1 sl.2.1 sl.2.2) (cP sl.1 sl.2.1 sl.2.2)) (by omega)
theorem wY {L M:L3}{k:Nat}(sl:kW k L)(sm:kW k M):Sz (60*k+60) (fG M L):=Sz.mono ((kU sl sm).mul (fL (kV sl sm))).neg (by omega)
theorem I5 (k:Nat)(hk:0<k):Sz k (0:Rat):=⟨by show (0:Int).natAbs<_;exact Nat.lt_of_lt_of_le (by decide) (Nat.one_le_two_pow),Nat.one_lt_two_pow (by omega)⟩
theorem xW {V:View}{l v m:Value}{L:L3}{s:Sp}{M:L3}(hl:sW V l L)(hv:BU V v s)(hm:sW V m M){k:Nat}(sl:kW k L)(hs:s.sz k)(sm:kW k M)(hk:200*k+200<274877906944) :
  ab prog 160 #[l,v,m] V fun r V'=>∃w,r=.tuple #[w,.bool (eL L s M)]/\BU V' w (eM L s M):=by
 have hl0:=hl
 have hv0:=hv
 have hm0:=hm
 obtain ⟨_,_,_,_,_,_,_,_,_,rfl,-,-,-⟩:=hl
 obtain ⟨_,_,_,_,_,_,rfl,-,-⟩:=hv
 obtain ⟨_,_,_,_,_,_,_,_,_,rfl,-,-,-⟩:=hm
 have hs':s.sz (60*k+60):=⟨hs.1.mono (by omega),hs.2.mono (by omega)⟩
 have z:=I5 (60*k+60) (by omega)
 refine tZ _ _ _ _ _ _ _ _ _ _ _ _ _ _ _ _ _ _ _ _ _ _ _ _ _ _ V _ fun V1 l1=>(cL (hm0.le l1) sm.1 sm.2.1 sm.2.2 (by omega)).mono ?_
 rintro r V2 l2 g1
 have g10:=g1
 obtain ⟨_,_,_,_,_,_,rfl,-,-⟩:=g1
 refine ⟨_,_,_,_,_,_,rfl,fun V3 l3=>(jl (hl0.le (l1.trans (l2.trans l3))) sl.1 sl.2.1 sl.2.2 (by omega)).mono ?_⟩
 rintro r V4 l4 g2
 have g20:=g2
 obtain ⟨_,_,_,_,_,_,rfl,-,-⟩:=g2
 refine ⟨_,_,_,_,_,_,rfl,fun V5 l5=>(jm (g10.le (l3.trans (l4.trans l5))) (g20.le l5) sm.1 sm.2.1 sl.2.1 sl.1.neg (by omega)).mono ?_⟩
 rintro r V6 l6 g3
 have mM:RR V6 r (jw M L):=g3
 obtain ⟨_,_,_,rfl⟩:=g3.shape
 have L6:V.Le V6:=l1.trans (l2.trans (l3.trans (l4.trans (l5.trans l6))))
 refine ⟨_,_,_,rfl,fun V7 l7=>(lu (hl0.le (L6.trans l7)) sl.1 sl.2.1 sl.2.2 (by omega)).mono ?_⟩
 rintro r V8 l8 g4
 have Gm:=g4
 obtain ⟨_,_,_,_,_,_,rfl,-,-⟩:=g4
 refine ⟨_,_,_,_,_,_,rfl,fun V9 l9=>(j_ (k:=10*k+9) (hm0.le (L6.trans (l7.trans (l8.trans l9)))) (Gm.le l9) (sm.1.mono (by omega)) (sm.2.1.mono (by omega)) (sm.2.2.mono (by omega)) (cO sl.1 sl.2.1 sl.2.2) (cP sl.1 sl.2.1 sl.2.2) (by omega)).mono ?_⟩
 rintro r kX l10 g5
 rw [D1] at g5
 have Jf:=g5
 obtain ⟨_,_,_,rfl⟩:=g5.shape
 have uu:V6.Le kX:=l7.trans (l8.trans (l9.trans l10))
 refine ⟨_,_,_,rfl,fun lJ bU=>(dL (mM.le (uu.trans bU)) (kV sl sm) (by omega)).mono ?_⟩
 rintro r pA cV rfl
 have DR:kX.Le pA:=bU.trans cV
 refine ⟨_,rfl,fun hz vN dM=>(dL (Jf.le (DR.trans dM)) (kU sl sm) (by omega)).mono ?_,fun hz=>⟨fun h1 mu dV=>(mB (Jf.le (DR.trans dV)) (mM.le (uu.trans (DR.trans dV))) (kU sl sm) (kV sl sm) (by omega)).mono ?_,fun h1 Av jY=>(mB (Jf.le (DR.trans jY)) (mM.le (uu.trans (DR.trans jY))) (kU sl sm) (kV sl sm) (by omega)).mono ?_⟩⟩
 ·rintro r oH eY rfl
  have eB:eL L s M=decide ((j7 M L).num.sign>0):=by unfold eL;rw [if_pos hz]
  have eS:eM L s M=s:=by unfold eM;rw [if_pos hz]
  rw [eB,eS]
  exact ⟨_,rfl,fun oI fm=>⟨_,rfl,hv0.le (L6.trans (uu.trans (DR.trans (dM.trans (eY.trans fm)))))⟩⟩
 ·have eS:eM L s M=s.meet ⟨fG M L,0,false,true⟩:=by unfold eM;rw [if_neg (by rw [hz];exact Bool.false_ne_true),if_pos h1]
  have eB:eL L s M=!(s.meet ⟨fG M L,0,false,true⟩).emp:=by rw [←eS];unfold eL;rw [if_neg (by rw [hz];exact Bool.false_ne_true)]
  rw [eB,eS]
  rintro r oJ dE g6
  have Mx:=g6
  obtain ⟨_,_,_,rfl⟩:=g6.shape
  refine ⟨_,_,_,rfl,fun sY eP=>(mz (Mx.le eP) ((kU sl sm).mul (fL (kV sl sm))) (by omega)).mono ?_⟩
  rintro r vO eX g7
  have JT:RR vO r (fG M L):=g7
  obtain ⟨_,_,_,rfl⟩:=g7.shape
  refine ⟨_,_,_,rfl,fun Am iy=>(uH (t:=⟨fG M L,0,false,true⟩) (hv0.le (L6.trans (uu.trans (DR.trans (dV.trans (dE.trans (eP.trans (eX.trans iy)))))))) ⟨_,_,_,_,_,_,rfl,JT.le iy,RR.zero _⟩ hs' ⟨wY sl sm,z⟩ (by omega)).mono ?_⟩
  rintro r xF gK ⟨w,rfl,g8⟩
  have My:=g8
  obtain ⟨_,_,_,_,_,_,rfl,-,-⟩:=g8
  exact ⟨_,_,_,_,_,_,_,_,_,rfl,fun xG kl=>⟨_,rfl,My.le kl⟩⟩
 ·have eS:eM L s M=s.meet ⟨0,fG M L,true,false⟩:=by unfold eM;rw [if_neg (by rw [hz];exact Bool.false_ne_true),if_neg (by rw [h1];exact Bool.false_ne_true)]
  have eB:eL L s M=!(s.meet ⟨0,fG M L,true,false⟩).emp:=by rw [←eS];unfold eL;rw [if_neg (by rw [hz];exact Bool.false_ne_true)]
  rw [eB,eS]
  rintro r oJ dE g6
  have Mx:=g6
  obtain ⟨_,_,_,rfl⟩:=g6.shape
  refine ⟨_,_,_,rfl,fun sY eP=>(mz (Mx.le eP) ((kU sl sm).mul (fL (kV sl sm))) (by omega)).mono ?_⟩
  rintro r vO eX g7
  have JT:RR vO r (fG M L):=g7
  obtain ⟨_,_,_,rfl⟩:=g7.shape
  refine ⟨_,_,_,rfl,fun Am iy=>(uH (t:=⟨0,fG M L,true,false⟩) (hv0.le (L6.trans (uu.trans (DR.trans (jY.trans (dE.trans (eP.trans (eX.trans iy)))))))) ⟨_,_,_,_,_,_,rfl,RR.zero _,JT.le iy⟩ hs' ⟨z,wY sl sm⟩ (by omega)).mono ?_⟩
  rintro r xF gK ⟨w,rfl,g8⟩
  have My:=g8
  obtain ⟨_,_,_,_,_,_,rfl,-,-⟩:=g8
  exact ⟨_,_,_,_,_,_,_,_,_,rfl,fun xG kl=>⟨_,rfl,My.le kl⟩⟩
structure As (V:View) (p:OA) (n:Nat) (fs:List (L3×Sp)):Prop where
 len:n=fs.length
 at_:∀(i:Nat)(h:i<fs.length),∃ad,aj p (i*17)=some ad/\∃xs:List Value,HU V (.agg xs.toArray) fs[i].1 fs[i].2/\∀j x,xs[j]?=some x->V.at (ad.add j) x
theorem As.le {V V':View}{p:OA}{n:Nat}{fs:List (L3×Sp)}(h:As V p n fs)(e:V.Le V'):As V' p n fs:=⟨h.len,fun i hi=>by obtain ⟨ad,h1,xs,h2,h3⟩:=h.at_ i hi;exact ⟨ad,h1,xs,h2.le e,fun j x hx=>e.at (h3 j x hx)⟩⟩
theorem As.nil {V:View}:As V none 0 []:=⟨rfl,fun i hi=>by simp at hi⟩
theorem As.one {V:View}{bk:Nat}{xs:List Value}{ty:TypeId}{l:L3}{s:Sp}(hb:V.bo bk (.cells xs.toArray ty (0,0)))(hf:HU V (.agg xs.toArray) l s):As V (some ⟨bk,0,none⟩) 1 [(l,s)]:=by
 refine ⟨rfl,fun i hi=>?_⟩
 obtain rfl:i=0:=by simpa using hi
 refine ⟨⟨bk,0,none⟩,by simp [aj,add_zero'],_,hf,fun j x hx=>?_⟩
 rw [add_zero']
 exact fg hb hx
theorem Gf {L M:L3}:((L.1:Rat)=(M.1:Rat)/\(L.2.1:Rat)=(M.2.1:Rat)/\(L.2.2:Rat)=(M.2.2:Rat))↔L=M:=by
 constructor
 ·rintro ⟨h1,h2,h3⟩
  exact Prod.ext (Rat.intCast_inj.1 h1) (Prod.ext (Rat.intCast_inj.1 h2) (Rat.intCast_inj.1 h3))
 ·rintro rfl
  exact ⟨rfl,rfl,rfl⟩
theorem Gz {V:View}{v w:Value}{L M:L3}(hl:sW V v L)(hm:sW V w M){k:Nat}(sl:kW k L)(sm:kW k M)(hk:k+k<1099511627776) :
  ab prog 134 #[v,w] V fun r V'=>r=.bool (decide (L=M)):=by
 refine (xZ hl hm sl.1 sl.2.1 sl.2.2 sm.1 sm.2.1 sm.2.2 hk).mono ?_
 rintro r V' l rfl
 rw [decide_eq_decide.2 Gf]
def Md (u:Value):Prop:=∃(x1 x2:Int)(p:OA)(y1 y2:Int)(q:OA),u=.agg #[.int .i64 x1,.int .i64 x2,.pointer p,.int .i64 y1,.int .i64 y2,.pointer q]
theorem nk {L M:L3}{k:Nat}(sl:kW k L)(sm:kW k M):Sz (4*k+3) (eK L M):=jf sl.1 sl.2.1 sm.1 sm.2.1
theorem K9 {L M:L3}{k:Nat}(sl:kW k L)(sm:kW k M):Sz (10*k+10) (ID L M)/\Sz (10*k+10) (IE L M):=
 ⟨Sz.mono (((sl.2.1.mul sm.2.2).sub (sl.2.2.mul sm.2.1)).mul (fL (nk sl sm))) (by omega),Sz.mono (((sl.2.2.mul sm.1).sub (sl.1.mul sm.2.2)).mul (fL (nk sl sm))) (by omega)⟩
theorem CN {V:View}{l m:Value}{L M:L3}(hl:sW V l L)(hm:sW V m M){k:Nat}(sl:kW k L)(sm:kW k M)(hk:20*k+20<274877906944) :
  ab prog 138 #[l,m] V fun r V'=>∃w,r=.tuple #[w,.bool (decide (eK L M≠0))]/\Md w/\(eK L M≠0->nG V' w (ID L M) (IE L M)):=by
 have hl0:=hl
 have hm0:=hm
 obtain ⟨_,_,_,_,_,_,_,_,_,rfl,a1,a2,a3⟩:=hl
 obtain ⟨_,_,_,_,_,_,_,_,_,rfl,b1,b2,b3⟩:=hm
 have sd:=nk sl sm
 refine sE _ _ _ _ _ _ _ _ _ _ _ _ _ _ _ _ _ _ V _ fun V1 l1=>(cL (hl0.le l1) sl.1 sl.2.1 sl.2.2 (by omega)).mono ?_
 rintro r V2 l2 g1
 have g10:=g1
 obtain ⟨_,_,_,_,_,_,rfl,-,-⟩:=g1
 refine ⟨_,_,_,_,_,_,rfl,fun V3 l3=>(cL (hm0.le (l1.trans (l2.trans l3))) sm.1 sm.2.1 sm.2.2 (by omega)).mono ?_⟩
 rintro r V4 l4 g2
 have g20:=g2
 obtain ⟨_,_,_,_,_,_,rfl,-,-⟩:=g2
 refine ⟨_,_,_,_,_,_,rfl,fun V5 l5=>(eI (g10.le (l3.trans (l4.trans l5))) (g20.le l5) sl.1 sl.2.1 sm.1 sm.2.1 (by omega)).mono ?_⟩
 rintro r V6 l6 g3
 have mM:RR V6 r (eK L M):=g3
 obtain ⟨_,_,_,rfl⟩:=g3.shape
 have L6:V.Le V6:=l1.trans (l2.trans (l3.trans (l4.trans (l5.trans l6))))
 refine ⟨_,_,_,rfl,fun V7 l7=>(qA (mM.le l7)).mono ?_⟩
 rintro r V8 l8 rfl
 have L8:=l7.trans l8
 refine ⟨_,rfl,fun h V9 l9=>?_,fun h kX l10=>(dR (a2.le (L6.trans (L8.trans l10))) (b3.le (L6.trans (L8.trans l10))) sl.2.1 sm.2.2 (by omega)).mono ?_⟩
 ·have h:=of_decide_eq_true h
  have e:decide (eK L M≠0)=false:=by simp [h]
  rw [e]
  exact ⟨_,rfl,⟨_,_,_,_,_,_,rfl⟩,fun h'=>absurd h h'⟩
 ·have h:=of_decide_eq_false h
  have e:decide (eK L M≠0)=true:=by simp [h]
  rw [e]
  have Mb:=L6.trans (L8.trans l10)
  rintro r lJ bU q1
  have IP:=q1
  obtain ⟨_,_,_,rfl⟩:=q1.shape
  refine ⟨_,_,_,rfl,fun pA cV=>(dR (a3.le (Mb.trans (bU.trans cV))) (b2.le (Mb.trans (bU.trans cV))) sl.2.2 sm.2.1 (by omega)).mono ?_⟩
  rintro r vN dM q2
  have RU:=q2
  obtain ⟨_,_,_,rfl⟩:=q2.shape
  refine ⟨_,_,_,rfl,fun oH eY=>(mC (IP.le (cV.trans (dM.trans eY))) (RU.le eY) (sl.2.1.mul sm.2.2) (sl.2.2.mul sm.2.1) (by omega)).mono ?_⟩
  rintro r oI fm q3
  have RV:=q3
  obtain ⟨_,_,_,rfl⟩:=q3.shape
  have Mc:kX.Le oI:=bU.trans (cV.trans (dM.trans (eY.trans fm)))
  refine ⟨_,_,_,rfl,fun mu dV=>(mB (RV.le dV) (mM.le (L8.trans (l10.trans (Mc.trans dV)))) ((sl.2.1.mul sm.2.2).sub (sl.2.2.mul sm.2.1)) sd (by omega)).mono ?_⟩
  rintro r oJ dE q4
  have RW:RR oJ r (ID L M):=q4
  obtain ⟨_,_,_,rfl⟩:=q4.shape
  have HR:V.Le oJ:=Mb.trans (Mc.trans (dV.trans dE))
  refine ⟨_,_,_,rfl,fun sY eP=>(dR (a3.le (HR.trans eP)) (b1.le (HR.trans eP)) sl.2.2 sm.1 (by omega)).mono ?_⟩
  rintro r vO eX p1
  have KP:=p1
  obtain ⟨_,_,_,rfl⟩:=p1.shape
  refine ⟨_,_,_,rfl,fun Am iy=>(dR (a1.le (HR.trans (eP.trans (eX.trans iy)))) (b3.le (HR.trans (eP.trans (eX.trans iy)))) sl.1 sm.2.2 (by omega)).mono ?_⟩
  rintro r xF gK p2
  have RK:=p2
  obtain ⟨_,_,_,rfl⟩:=p2.shape
  refine ⟨_,_,_,rfl,fun xG kl=>(mC (KP.le (iy.trans (gK.trans kl))) (RK.le kl) (sl.2.2.mul sm.1) (sl.1.mul sm.2.2) (by omega)).mono ?_⟩
  rintro r Av jY p3
  have p30:=p3
  obtain ⟨_,_,_,rfl⟩:=p3.shape
  have Om:oJ.Le Av:=eP.trans (eX.trans (iy.trans (gK.trans (kl.trans jY))))
  refine ⟨_,_,_,rfl,fun Hl Cf=>(mB (p30.le Cf) (mM.le (L8.trans (l10.trans (Mc.trans (dV.trans (dE.trans (Om.trans Cf))))))) ((sl.2.2.mul sm.1).sub (sl.1.mul sm.2.2)) sd (by omega)).mono ?_⟩
  rintro r Hm tI p4
  have p40:RR Hm r (IE L M):=p4
  obtain ⟨_,_,_,rfl⟩:=p4.shape
  exact ⟨_,_,_,rfl,fun Jb Ap=>⟨_,rfl,⟨_,_,_,_,_,_,rfl⟩,fun _=>⟨_,_,_,_,_,_,rfl,RW.le (Om.trans (Cf.trans (tI.trans Ap))),p40.le Ap⟩⟩⟩
theorem uQ {V:View}{p:OA}{n c:Nat}{ds:List Nat}(h:RD V p n c ds)(hm:ds.length<=1099511627776) :
  ab prog 105 #[.slice p n c] V fun r V'=>∃p1 n1 c1,r=.slice p1 n1 c1/\RN V' p1 n1 c1 (val ds):=by
 have hl:=h.len
 refine BR p n c V _ ⟨aA ds,h.sl,by simp [hl],by omega,by omega,by simp,by simp [hl],?_,?_⟩
 ·intro v hv
  simp only [aA,List.mem_map] at hv
  obtain ⟨d,-,rfl⟩:=hv
  rfl
 ·intro bk J sp c' h1 h2 V1 l1 b hb
  simp only [Nat.zero_add,Nat.zero_mul,List.take_zero,List.nil_append] at hb h1 ⊢
  refine (cw (copied h.dI hl h1 hb) (by omega)).mono ?_
  rintro r V2 l2 ⟨k,rfl,g⟩
  rw [aL h.dI] at g
  exact ⟨_,_,_,rfl,fun J' V3 l3=>⟨_,_,_,rfl,g.le l3⟩⟩
theorem CV {V:View}(b:Bool){p:OA}{n c:Nat}{ds:List Nat}(h:RD V p n c ds)(hm:ds.length<=1099511627776) :
  ab prog 107 #[.agg #[.bool b,.slice p n c]] V fun r V'=>RI V' r (aU b ds):=by
 refine BQ b p n c V _ fun V1 l1=>(uQ (h.le l1) hm).mono ?_
 rintro r V2 l2 ⟨p1,n1,c1,rfl,g⟩
 refine ⟨_,_,_,rfl,fun V3 l3=>(dX b (g.le l3)).mono ?_⟩
 rintro r V4 l4 ⟨p2,n2,c2,rfl,g2⟩
 exact ⟨_,_,_,_,rfl,fun V5 l5=>⟨_,_,_,rfl,g2.le l5⟩⟩
theorem EE {b:Bool}{ds:List Nat}(h:bC ds):(af (aU b ds).natAbs).length<=ds.length:=by
 rw [dh];exact aW h
theorem CW {V:View}{v:Value}{b:Bool}{xs ys:List Nat}(h:FT V v b xs ys)(m1:xs.length<=274877906944)(m2:ys.length<=274877906944) :
  ab prog 43 #[v] V fun r V'=>RQ V' r (Dv b xs ys):=by
 obtain ⟨p,n,c,q,m,e,rfl,hx,hy⟩:=h
 have d1:=EE (b:=b) hx.dI
 have d2:=aW hy.dI
 refine BS b p n c q m e V _ fun V1 l1=>(uQ (hy.le l1) (by omega)).mono ?_
 rintro r V2 l2 ⟨p1,n1,c1,rfl,g⟩
 have gl:=g.len
 refine ⟨_,_,_,rfl,fun h0 V3 l3=>?_,fun h0 V4 l4=>(CV b (hx.le (l1.trans (l2.trans l4))) (by omega)).mono ?_⟩
 ·have h0:((n1:Nat):Int)=0:=by simpa using h0
  have:af (val ys)=[]:=List.length_eq_zero_iff.1 (by omega)
  have:val ys=0:=bf.1 this
  unfold Dv
  rw [this,Rat.mkRat_zero]
  have:=RQ.zero (V:=V3)
  simpa using this
 ·have hd:val ys≠0:=fun e=>by
   rw [e] at gl
   have h0:¬((n1:Nat):Int)=0:=by simpa using h0
   exact h0 (by rw [gl];rfl)
  rintro r V5 l5 ⟨p2,n2,c2,rfl,g2⟩
  refine ⟨_,_,_,_,rfl,fun V6 l6=>(lL _ (g2.le l6) (g.le (l4.trans (l5.trans l6))) (by omega) (by omega) hd).mono ?_⟩
  rintro r V7 l7 k
  have k0:=k
  obtain ⟨_,_,_,_,_,_,rfl⟩:=k.shape
  exact ⟨_,_,_,_,_,_,_,rfl,fun V8 l8=>k0.le l8⟩
def Lz (V:View)(v:Value)(b1:Bool)(xs:List Nat)(b2:Bool)(ys:List Nat)(b3:Bool)(zs:List Nat):Prop:=∃p n c q m e s i j,v=.agg #[.bool b1,.slice p n c,.bool b2,.slice q m e,.bool b3,.slice s i j]/\RD V p n c xs/\RD V q m e ys/\RD V s i j zs
theorem Lz.le {V V':View}{v:Value}{b1:Bool}{xs:List Nat}{b2:Bool}{ys:List Nat}{b3:Bool}{zs:List Nat}(h:Lz V v b1 xs b2 ys b3 zs)(l:V.Le V'):Lz V' v b1 xs b2 ys b3 zs:=by
 obtain ⟨p,n,c,q,m,e,s,i,j,rfl,h1,h2,h3⟩:=h
 exact ⟨_,_,_,_,_,_,_,_,_,rfl,h1.le l,h2.le l,h3.le l⟩
def Pw (b1:Bool)(xs:List Nat)(b2:Bool)(ys:List Nat)(b3:Bool)(zs:List Nat):L3:=(aU b1 xs,aU b2 ys,aU b3 zs)
structure FW where
 b1:Bool
 xs:List Nat
 b2:Bool
 ys:List Nat
 b3:Bool
 zs:List Nat
 c1:Bool
 us:List Nat
 vs:List Nat
 c2:Bool
 ws:List Nat
 ts:List Nat
 na:Bool
 nb:Bool
def FW.ln (f:FW):L3:=Pw f.b1 f.xs f.b2 f.ys f.b3 f.zs
def FW.sp (f:FW):Sp:=K8 f.c1 f.us f.vs f.c2 f.ws f.ts f.na f.nb
def FW.ok (f:FW):Bool:=rI f.b1 f.xs f.b2 f.ys f.b3 f.zs&&okW f.c1 f.us f.vs f.c2 f.ws f.ts f.na f.nb
structure FW.short (f:FW):Prop where
 x:f.xs.length<=1000000
 y:f.ys.length<=1000000
 z:f.zs.length<=1000000
 u:f.us.length<=1000000
 v:f.vs.length<=1000000
 w:f.ws.length<=1000000
 t:f.ts.length<=1000000
def Ly (V:View)(v:Value)(f:FW):Prop:=∃p1 n1 d1 p2 n2 d2 p3 n3 d3 p n c p' n' c' q m e q' m' e',
 v=.agg #[.bool f.b1,.slice p1 n1 d1,.bool f.b2,.slice p2 n2 d2,.bool f.b3,.slice p3 n3 d3,.bool f.c1,.slice p n c,.slice p' n' c',.bool f.c2,.slice q m e,.slice q' m' e',.bool f.na,.bool f.nb] /\
 Lz V (.agg #[.bool f.b1,.slice p1 n1 d1,.bool f.b2,.slice p2 n2 d2,.bool f.b3,.slice p3 n3 d3]) f.b1 f.xs f.b2 f.ys f.b3 f.zs /\
 LB V (.agg #[.bool f.c1,.slice p n c,.slice p' n' c',.bool f.c2,.slice q m e,.slice q' m' e',.bool f.na,.bool f.nb]) f.c1 f.us f.vs f.c2 f.ws f.ts f.na f.nb
theorem Ly.le {V V':View}{v:Value}{f:FW}(h:Ly V v f)(l:V.Le V'):Ly V' v f:=by
 obtain ⟨p1,n1,d1,p2,n2,d2,p3,n3,d3,p,n,c,p',n',c',q,m,e,q',m',e',rfl,h1,h2⟩:=h
 exact ⟨_,_,_,_,_,_,_,_,_,_,_,_,_,_,_,_,_,_,_,_,_,rfl,h1.le l,h2.le l⟩
end Go.Proofs.Tryz
namespace Go.Proofs.Tryz
open Go.bq
set_option maxRecDepth 100000
end Go.Proofs.Tryz
namespace Go.Proofs.Tryz
open Go.bq Go.ew
def H7:L3:=(0,0,0)
def uw (V:View)(v:Value)(c:L3):Prop:=th V v c.1 c.2.1 c.2.2/\Bd c
theorem uw.le {V V':View}{v:Value}{c:L3}(h:uw V v c)(l:V.Le V'):uw V' v c:=⟨h.1.le l,h.2⟩
theorem uw.shape {V:View}{v:Value}{c:L3}(h:uw V v c):∃(x y:Int)(p:OA)(xb yb:Int)(pb:OA)(xc yc:Int)(pc:OA),v=.agg #[.int .i64 x,.int .i64 y,.pointer p,.int .i64 xb,.int .i64 yb,.pointer pb,.int .i64 xc,.int .i64 yc,.pointer pc]:=by
 obtain ⟨⟨x1,x2,p,y1,y2,q,z1,z2,r,e,-⟩,-⟩:=h;exact ⟨_,_,_,_,_,_,_,_,_,e⟩
end Go.Proofs.Tryz
namespace Go.Proofs.Tryz
open Go.ew
section
variable {α:Type} {c:α->α->Int} {d:α}
structure PQ (c:α->α->Int) (d:α) (l0 l:List α) (a0 b0 a b:Nat):Prop where
 LS:oG d l0 l a0 b0
 ha:a0<=a
 tH:a<=b
 hb:b<=b0
 lo:tg c d l a0 a
 hi:tg c d l b b0
 s1:Sep c d l a0 a b0
 s2:Sep c d l a0 b b0
 pre:0<a->∀k,a<=k->k<b->¬c (l.getD k d) (l.getD (a-1) d)<0
variable {l0 l m:List α} {a0 b0 a b mid:Nat}
theorem PQ.start {l:List α}(h:a<=b)(hp:0<a->∀k,a<=k->k<b->¬c (l.getD k d) (l.getD (a-1) d)<0):PQ c d l l a b a b:=
 ⟨.refl _ _ _,Nat.le_refl _,h,Nat.le_refl _,.short (by omega),.short (by omega),fun p q h1 h2=>by omega,fun p q h1 h2 h3 h4=>by omega,hp⟩
theorem PQ.change (h:PQ c d l0 l a0 b0 a b)(hs:oG d l m a b):PQ c d l0 m a0 b0 a b:=
 ⟨h.LS.trans (hs.wide h.ha h.hb),h.ha,h.tH,h.hb,hs.qa h.lo (.inl (Nat.le_refl _)),hs.qa h.hi (.inr (Nat.le_refl _)),hs.sep h.s1 (.inr (.inl ⟨Nat.le_refl _,h.hb⟩)),hs.sep h.s2 (.inl ⟨h.ha,Nat.le_refl _⟩),fun h0 k h1 h2=>by
  obtain ⟨k',h3,h4,e⟩:=hs.mem k h1 h2
  rw [e,hs.out (a-1) (by omega)]
  exact h.pre h0 k' h3 h4⟩
theorem PQ.fin (h:PQ c d l0 l a0 b0 a b)(hs:oG d l m a b)(ha:tg c d m a b):oG d l0 m a0 b0/\tg c d m a0 b0:=by
 have h':=h.change hs
 refine ⟨h'.LS,h'.lo.join (ha.join h'.hi fun p q h1 h2 h3 h4=>h'.s2 p q (by have:=h.ha;omega) h2 h3 h4) h'.s1⟩
theorem PQ.left (ho:Ord c)(h:PQ c d l0 l a0 b0 a b)(hm:a<=mid)(hm':mid<b)(h1:∀k,a<=k->k<mid->c (l.getD k d) (l.getD mid d)<0)(h2:∀k,mid<k->k<b->¬c (l.getD k d) (l.getD mid d)<0)
  (hs:oG d l m a mid)(ha:tg c d m a mid):PQ c d l0 m a0 b0 (mid+1) b:=by
 have e0:=h.ha
 have e1:=h.hb
 have em:m.getD mid d=l.getD mid d:=hs.out mid (by omega)
 have below:∀k,a<=k->k<mid->¬c (m.getD mid d) (m.getD k d)<0:=fun k g1 g2=>by
  obtain ⟨k',g3,g4,e⟩:=hs.mem k g1 g2
  rw [em,e];exact ho.Jc _ _ (h1 k' g3 g4)
 have t1:=hs.sep h.s1 (.inr (.inl ⟨Nat.le_refl _,by omega⟩))
 have t2:=hs.sep h.s2 (.inl ⟨e0,by omega⟩)
 have up:∀q,mid<q->q<b->¬c (m.getD q d) (m.getD mid d)<0:=fun q g1 g2=>by rw [em,hs.out q (by omega)];exact h2 q g1 g2
 refine ⟨h.LS.trans (hs.wide e0 (by omega)),by omega,by omega,e1,(hs.qa h.lo (.inl (Nat.le_refl _))).join (m:=a) (fun p q g1 g2 g3=>?_) fun p q g1 g2 g3 g4=>t1 p q g1 g2 g3 (by omega),hs.qa h.hi (.inr (by omega)),fun p q g1 g2 g3 g4=>?_,t2,fun _ k g1 g2=>up k (by omega) g2⟩
 ·by_cases e:q=mid
  ·subst e;exact below p g1 g2
  ·exact ha p q g1 g2 (by omega)
 ·by_cases hq:b<=q
  ·exact t2 p q g1 (by omega) hq g4
  ·by_cases hp:p<a
   ·exact t1 p q g1 hp (by omega) g4
   ·have u:=up q (by omega) (by omega)
    by_cases e:p=mid
    ·subst e;exact u
    ·exact ho.tr _ _ _ u (below p (by omega) (by omega))
theorem PQ.right (ho:Ord c)(h:PQ c d l0 l a0 b0 a b)(hm:a<=mid)(hm':mid<b)(h1:∀k,a<=k->k<mid->c (l.getD k d) (l.getD mid d)<0)(h2:∀k,mid<k->k<b->¬c (l.getD k d) (l.getD mid d)<0)
  (hs:oG d l m (mid+1) b)(ha:tg c d m (mid+1) b):PQ c d l0 m a0 b0 a mid:=by
 have e0:=h.ha
 have e1:=h.hb
 have em:m.getD mid d=l.getD mid d:=hs.out mid (by omega)
 have up:∀q,mid<q->q<b->¬c (m.getD q d) (m.getD mid d)<0:=fun q g1 g2=>by
  obtain ⟨k',g3,g4,e⟩:=hs.mem q (by omega) g2
  rw [em,e];exact h2 k' (by omega) g4
 have below:∀k,a<=k->k<mid->¬c (m.getD mid d) (m.getD k d)<0:=fun k g1 g2=>by
  rw [em,hs.out k (by omega)];exact ho.Jc _ _ (h1 k g1 g2)
 have t1:=hs.sep h.s1 (.inr (.inl ⟨by omega,e1⟩))
 have t2:=hs.sep h.s2 (.inl ⟨by omega,Nat.le_refl _⟩)
 have t3:=hs.qa h.hi (.inr (Nat.le_refl _))
 refine ⟨h.LS.trans (hs.wide (by omega) e1),e0,hm,by omega,hs.qa h.lo (.inl (by omega)),fun p q g1 g2 g3=>?_,t1,fun p q g1 g2 g3 g4=>?_,fun h0 k g1 g2=>?_⟩
 ·by_cases hq:q<b
  ·by_cases e:p=mid
   ·subst e;exact up q g2 hq
   ·exact ha p q (by omega) g2 hq
  ·by_cases hp:p<b
   ·exact t2 p q (by omega) hp (by omega) g3
   ·exact t3 p q (by omega) g2 g3
 ·by_cases hq:b<=q
  ·exact t2 p q g1 (by omega) hq g4
  ·by_cases hp:p<a
   ·exact t1 p q g1 hp (by omega) g4
   ·have u:=below p (by omega) g2
    by_cases e:q=mid
    ·subst e;exact u
    ·exact ho.tr _ _ _ (up q (by omega) (by omega)) u
 ·rw [hs.out k (by omega),hs.out (a-1) (by omega)];exact h.pre h0 k g1 (by omega)
structure HQ (c:α->α->Int) (d:α) (l:List α) (f i n:Nat):Prop where
 hp:Hp c d l f 0 i none
 qa:tg c d l (f+i) (f+n)
 sep:Sep c d l f (f+i) (f+n)
theorem HQ.start {f n:Nat}(h:Hp c d l f 0 n none):HQ c d l f n n:=⟨h,.short (by omega),fun p q h1 h2 h3 h4=>by omega⟩
theorem HQ.step (ho:Ord c){f k n:Nat}(h:HQ c d l f (k+1) n)(hk:k+1<=n)(hl:f+n<=l.length)(hs:oG d (pG d l f (f+k)) m f (f+k))(hm:Hp c d m f 0 k none):HQ c d m f k n:=by
 have ha:=fun x=>lX (d:=d) (l:=l) (i:=f) (j:=f+k) (k:=x) (by omega) (by omega)
 have out:∀q,f+k<q->m.getD q d=l.getD q d:=fun q hq=>by rw [hs.out q (by omega),ha,if_neg (by omega),if_neg (by omega)]
 have top:m.getD (f+k) d=l.getD f d:=by rw [hs.out (f+k) (by omega),ha,if_pos rfl]
 refine ⟨hm,fun p q g1 g2 g3=>?_,fun p q g1 g2 g3 g4=>?_⟩
 ·rw [out q (by omega)]
  by_cases e:p=f+k
  ·rw [e,top];exact h.sep f q (Nat.le_refl _) (by omega) (by omega) g3
  ·rw [out p (by omega)];exact h.qa p q (by omega) g2 g3
 ·have hp:∃j,j<k+1/\m.getD p d=l.getD (f+j) d:=by
   obtain ⟨p',e1,e2,e⟩:=hs.mem p g1 g2
   rw [e,ha,if_neg (by omega)]
   split
   ·exact ⟨k,by omega,rfl⟩
   ·exact ⟨p'-f,by omega,by rw [show f+(p'-f)=p' by omega]⟩
  obtain ⟨j,hj,e⟩:=hp
  rw [e]
  by_cases eq:q=f+k
  ·rw [eq,top];exact h.hp.top ho j hj
  ·rw [out q (by omega)];exact h.sep (f+j) q (by omega) (by omega) (by omega) g4
theorem HQ.fin {f n:Nat}(h:HQ c d l f 0 n):tg c d l f (f+n):=by have:=h.qa;simpa using this
structure PT (P:α->Prop) (d:α) (l:List α) (a b i j:Nat):Prop where
 hi:a<i
 Ij:i<=j+1
 hj:j<b
 lo:∀k,a<k->k<i->P (l.getD k d)
 up:∀k,j<k->k<b->¬P (l.getD k d)
variable {P:α->Prop} {i j:Nat}
theorem PT.start (h:a+1<b):PT P d l a b (a+1) (b-1):=⟨by omega,by omega,by omega,fun k h1 h2=>by omega,fun k h1 h2=>by omega⟩
theorem PT.swap (h:PT P d l a b i j)(Ij:i<=j)(hl:b<=l.length)(h1:¬P (l.getD i d))(h2:P (l.getD j d)):PT P d (pG d l i j) a b (i+1) (j-1)/\(pG d l i j).getD a d=l.getD a d/\oG d l (pG d l i j) a b:=by
 have e0:=h.hi
 have e1:=h.hj
 have ne:i≠j:=fun e=>h1 (e▸h2)
 have ha:=fun x=>lX (d:=d) (l:=l) (i:=i) (j:=j) (k:=x) (by omega) (by omega)
 refine ⟨⟨by omega,by omega,by omega,fun k g1 g2=>?_,fun k g1 g2=>?_⟩,by rw [ha,if_neg (by omega),if_neg (by omega)],oG.pG (by omega) (by omega) (by omega) e1 hl⟩
 ·rw [ha,if_neg (by omega)]
  by_cases e:k=i
  ·rw [if_pos e];exact h2
  ·rw [if_neg e];exact h.lo k g1 (by omega)
 ·rw [ha]
  by_cases e:k=j
  ·rw [if_pos e];exact h1
  ·rw [if_neg e,if_neg (by omega)];exact h.up k (by omega) g2
theorem PT.fin (ho:Ord c)(h:PT (fun x=>c x (l.getD a d)<0) d l a b i j)(Ij:¬i<=j)(hl:b<=l.length):oG d l (pG d l j a) a b/\a<=j/\j<b /\
  (∀k,a<=k->k<j->c ((pG d l j a).getD k d) ((pG d l j a).getD j d)<0)/\(∀k,j<k->k<b->¬c ((pG d l j a).getD k d) ((pG d l j a).getD j d)<0):=by
 have e0:=h.hi
 have e1:=h.Ij
 have e2:=h.hj
 have ha:=fun x=>lX (d:=d) (l:=l) (i:=j) (j:=a) (k:=x) (by omega) (by omega)
 have ej:(pG d l j a).getD j d=l.getD a d:=by
  rw [ha]
  by_cases e:j=a
  ·rw [if_pos e,e]
  ·rw [if_neg e,if_pos rfl]
 refine ⟨oG.pG (by omega) e2 (Nat.le_refl _) (by omega) hl,by omega,e2,fun k g1 g2=>?_,fun k g1 g2=>?_⟩
 ·rw [ej,ha]
  by_cases e:k=a
  ·rw [if_pos e];exact h.lo j (by omega) (by omega)
  ·rw [if_neg e,if_neg (by omega)];exact h.lo k (by omega) (by omega)
 ·rw [ej,ha,if_neg (by omega),if_neg (by omega)];exact h.up k g1 g2
end
end Go.Proofs.Tryz
namespace Go.Proofs.Tryz
open Go.bq Go.ew
structure Hk (V:View) (n:Nat) (vs:List Value) (l:List L3):Prop where
 row:Row 9 uw V vs l
 len:n=l.length
 OX:l.length<50
theorem Hk.le {V V':View}{n:Nat}{vs:List Value}{l:List L3}(h:Hk V n vs l)(e:V.Le V'):Hk V' n vs l:=⟨h.row.le fun _ _ g=>uw.le g e,h.len,h.OX⟩
theorem Hk.get {V:View}{n:Nat}{vs:List Value}{l:List L3}(h:Hk V n vs l){k:Nat}(hk:k<l.length):∃(x y:Int)(p:OA)(xb yb:Int)(pb:OA)(xc yc:Int)(pc:OA),
  ((0+k*9)+9<=vs.length/\(vs.drop (0+k*9)).take 9=[.int .i64 x,.int .i64 y,.pointer p,.int .i64 xb,.int .i64 yb,.pointer pb,.int .i64 xc,.int .i64 yc,.pointer pc])/\uw V (.agg #[.int .i64 x,.int .i64 y,.pointer p,.int .i64 xb,.int .i64 yb,.pointer pb,.int .i64 xc,.int .i64 yc,.pointer pc]) (l.getD k H7):=by
 obtain ⟨xs,-,h2,h3,h4⟩:=h.row.get (d:=H7) hk (by decide)
 have h20:=h2
 obtain ⟨x,y,p,xb,yb,pb,xc,yc,pc,e⟩:=h2.shape
 have e:=congrArg Array.toList (Value.agg.inj e)
 dsimp only at e
 subst e
 rw [Nat.zero_add]
 exact ⟨x,y,p,xb,yb,pb,xc,yc,pc,⟨h3,h4⟩,h20⟩
theorem Hk.swap {V:View}{n:Nat}{vs:List Value}{l:List L3}(h:Hk V n vs l){i j:Nat}(hi:i<l.length)(hj:j<l.length){x y:Int}{p:OA}{xb yb:Int}{pb:OA}{xc yc:Int}{pc:OA}{x' y':Int}{p':OA}{Of Og:Int}{pb':OA}{Lv Oh:Int}{pc':OA}
  (h1:uw V (.agg #[.int .i64 x,.int .i64 y,.pointer p,.int .i64 xb,.int .i64 yb,.pointer pb,.int .i64 xc,.int .i64 yc,.pointer pc]) (l.getD i H7))(h2:uw V (.agg #[.int .i64 x',.int .i64 y',.pointer p',.int .i64 Of,.int .i64 Og,.pointer pb',.int .i64 Lv,.int .i64 Oh,.pointer pc']) (l.getD j H7)) :
  (0+i*9)+9<=vs.length/\(0+j*9)+9<=(dC vs (0+i*9) [.int .i64 x',.int .i64 y',.pointer p',.int .i64 Of,.int .i64 Og,.pointer pb',.int .i64 Lv,.int .i64 Oh,.pointer pc']).length /\
  Hk V n (dC (dC vs (0+i*9) [.int .i64 x',.int .i64 y',.pointer p',.int .i64 Of,.int .i64 Og,.pointer pb',.int .i64 Lv,.int .i64 Oh,.pointer pc']) (0+j*9) [.int .i64 x,.int .i64 y,.pointer p,.int .i64 xb,.int .i64 yb,.pointer pb,.int .i64 xc,.int .i64 yc,.pointer pc]) (pG H7 l i j):=by
 obtain ⟨-,-,-,g1,-⟩:=h.row.get (d:=H7) hi (by decide)
 obtain ⟨-,-,-,g2,-⟩:=h.row.get (d:=H7) hj (by decide)
 rw [Nat.zero_add,Nat.zero_add]
 refine ⟨g1,by rw [zA (by exact g1)];exact g2,h.row.swap hi hj (by decide) rfl rfl h1 h2,by rw [wX];exact h.len,by rw [wX];exact h.OX⟩
structure GR {α:Type} (sz:Nat) (R:View->Value->α->Prop) (V:View) (n c:Nat) (vs:List Value) (l:List α):Prop where
 len:n=l.length
 le:n<=c
 cap:c*sz<=vs.length
 row:Row sz R V vs l
theorem GR.nil {α:Type}{sz:Nat}{R:View->Value->α->Prop}{V:View}:GR sz R V 0 0 [] []:=⟨rfl,Nat.le_refl _,by simp,Row.nil⟩
theorem GR.mono {α:Type}{sz:Nat}{R:View->Value->α->Prop}{V V':View}{n c:Nat}{vs:List Value}{l:List α}(h:GR sz R V n c vs l)(m:∀v a,R V v a->R V' v a):GR sz R V' n c vs l:=⟨h.len,h.le,h.cap,h.row.le m⟩
theorem GR.snoc {α:Type}{sz:Nat}{R:View->Value->α->Prop}{V:View}{n c:Nat}{vs:List Value}{l:List α}(h:GR sz R V n c vs l){xs:List Value}{a:α}(hx:xs.length=sz)(ha:R V (.agg xs.toArray) a)(h0:0<sz){sp:List Value}{c':Nat}(h1:n+1<=c')(h2:c'*sz<=(n+1)*sz+sp.length) :
  GR sz R V (n+1) c' (vs.take (n*sz)++xs++sp) (l++[a]):=by
 have hn:=h.len
 have hc:=h.cap
 have hl:n*sz<=c*sz:=Nat.mul_le_mul_right _ h.le
 refine ⟨by rw [List.length_append,hn];rfl,h1,?_,?_⟩
 ·have ht:(vs.take (n*sz)).length=n*sz:=by rw [List.length_take];omega
  rw [List.length_append,List.length_append,ht,hx]
  rw [Nat.succ_mul] at h2
  exact h2
 ·have:=h.row.snoc (sp:=sp) hx ha h0
  rw [←hn] at this
  exact this
def jU (l:L3):L3:=if l.1<0\/l.1=0/\l.2.1<0 then jJ l else l
theorem Bd.rev {l:L3}(h:Bd l):Bd (jJ l):=by
 obtain ⟨h1,h2,h3⟩:=h
 unfold Bd jJ
 simp only [Int.natAbs_neg]
 exact ⟨h1,h2,h3⟩
theorem Bd.can {l:L3}(h:Bd l):Bd (jU l):=by
 unfold jU;split
 ·exact h.rev
 ·exact h
theorem Bd.pH {l:L3}(h:Bd l):kW 1000 l:=⟨h.sz.1,h.sz.2.1,h.sz.2.2⟩
end Go.Proofs.Tryz
namespace Go.Proofs.Tryz.aD
open Go.bq Go.ew
def nv (l:L3)(v:V2):Rat:=(l.1:Rat)*v.1+(l.2.1:Rat)*v.2
def aG (l:L3):V2:=((l.2.1:Rat),-(l.1:Rat))
theorem Cm (l:L3)(v:V2):nv l v=cr (aG l) v:=by unfold nv cr aG;grind
theorem Fy {q:Rat}:q.num.sign=-1↔q<0:=by
 rw [Int.sign_eq_neg_one_iff_neg,←Int.not_le,←Rat.not_le,Rat.num_nonneg]
theorem IX {q:Rat}:q.num.sign=1↔q>0:=by
 have h:=@Fy (-q)
 rw [Rat.neg_num,Int.sign_neg] at h
 constructor
 ·intro e;have:=h.1 (by rw [e]);grind
 ·intro e;have:=h.2 (by grind);omega
theorem ni {q:Rat}:q.num.sign=0↔q=0:=by rw [Int.sign_eq_zero_iff_zero,Rat.num_eq_zero]
def Lw (D:List V2)(M:List L3):Prop:=∀l∈M,∃r∈D,∃c:Rat,c>0/\r=(c*(aG l).1,c*(aG l).2)
theorem AR {l:L3}{r:V2}{c:Rat}(c0:c>0)(e:r=(c*(aG l).1,c*(aG l).2))(v:V2):cr r v=c*nv l v:=by
 rw [Cm,e];unfold cr;grind
theorem Cj {c x:Rat}(c0:c>0):(c*x>0↔x>0)/\(c*x<0↔x<0)/\(c*x=0↔x=0):=by
 have p:x>0->c*x>0:=fun h=>mp c0 h
 have n:x<0->c*x<0:=fun h=>by have:=mp c0 (show -x>0 by grind);grind
 have z:x=0->c*x=0:=fun h=>by rw [h];grind
 refine ⟨⟨fun h=>?_,p⟩,⟨fun h=>?_,n⟩,⟨fun h=>?_,z⟩⟩
 ·by_cases q:x>0
  ·exact q
  ·by_cases q':x<0
   ·have:=n q';grind
   ·have:=z (by grind);grind
 ·by_cases q:x<0
  ·exact q
  ·by_cases q':x>0
   ·have:=p q';grind
   ·have:=z (by grind);grind
 ·rcases Rat.mul_eq_zero.1 h with h|h
  ·grind
  ·exact h
theorem Lw.gen {D:List V2}{M:List L3}(h:Lw D M){v:V2}(hv:∀r∈D,cr r v≠0):∀l∈M,nv l v≠0:=by
 intro l hl e
 obtain ⟨r,hr,c,c0,e'⟩:=h l hl
 exact hv r hr (by rw [AR c0 e',e];grind)
theorem Lw.same {D:List V2}{M:List L3}(h:Lw D M){v x:V2}(hv:∀r∈D,(cr r v>0->cr r x>0)/\(cr r v<0->cr r x<0)) :
  ∀l∈M,(nv l v>0->nv l x>0)/\(nv l v<0->nv l x<0):=by
 intro l hl
 obtain ⟨r,hr,c,c0,e'⟩:=h l hl
 have:=hv r hr
 rw [AR c0 e',AR c0 e'] at this
 obtain ⟨a1,a2,_⟩:=@Cj c (nv l v) c0
 obtain ⟨b1,b2,_⟩:=@Cj c (nv l x) c0
 exact ⟨fun h=>b1.1 (this.1 (a1.2 h)),fun h=>b2.1 (this.2 (a2.2 h))⟩
theorem im (l:L3)(p v:V2)(s:Rat):az l (p.1+s*v.1) (p.2+s*v.2)=az l p.1 p.2+s*nv l v:=by unfold az nv;grind
theorem inv_mul {c:Rat}(h:c≠0)(a:Rat):a*c⁻¹*c=a:=by rw [Rat.mul_assoc,Rat.inv_mul_cancel _ h,Rat.mul_one]
end Go.Proofs.Tryz.aD
