import Derived.Test.YtnnbfoejafcdlaaGreatDoorA12
import Derived.Test.YtnnbfoejafcdlaaGreatDoorA7
import Derived.Test.YtnnbfoejafcdlaaGreatDoorA5
import Derived.Test.YtnnbfoejafcdlaaGreatDoorA9
set_option linter.unusedVariables false
open Go.IntKind (i64 u64 u32)
namespace Go.Proofs.Tryz
open Go.bo Go.eu
def nE (V:View)(v:Value)(x y:Rat):Prop:=∃(x1 x2:Int)(p:OA)(y1 y2:Int)(q:OA),v=.agg #[.int .i64 x1,.int .i64 x2,.pointer p,.int .i64 y1,.int .i64 y2,.pointer q] /\
 RR V (.agg #[.int .i64 x1,.int .i64 x2,.pointer p]) x/\RR V (.agg #[.int .i64 y1,.int .i64 y2,.pointer q]) y
theorem nE.le {V V':View}{v:Value}{x y:Rat}(h:nE V v x y)(l:V.Le V'):nE V' v x y:=by
 obtain ⟨x1,x2,p,y1,y2,q,e,h1,h2⟩:=h
 exact ⟨x1,x2,p,y1,y2,q,e,h1.le l,h2.le l⟩
theorem wb {V:View}{p:Value}{eA eC:Rat}{q:Value}{kZ k_:Rat}(hp:nE V p eA eC)(hq:nE V q kZ k_){k:Nat}(eZ:Sz k eA)(e_:Sz k eC)(lf:Sz k kZ)(lg:Sz k k_)(hk:2*k+1<274877906944) :
  ab prog 149 #[p,q] V fun r V'=>nE V' r ((eA)+(kZ)) ((eC)+(k_)):=by
 have hp0:=hp
 obtain ⟨p0,p1,p2,p3,p4,p5,rfl,yF,yG⟩:=hp
 have hq0:=hq
 obtain ⟨q0,q1,q2,q3,q4,q5,rfl,Ew,Ex⟩:=hq
 refine ua p0 p1 p2 p3 p4 p5 q0 q1 q2 q3 q4 q5 V _ fun V1 l1=>(gZ (yF.le (l1)) (Ew.le (l1)) eZ lf (by omega)).mono ?_
 rintro r V2 l2 g1
 have g10:=g1
 obtain ⟨LW,LX,LY,rfl⟩:=g1.shape
 have bD:Sz (2*k+1) ((eA)+(kZ)):=Sz.mono (Sz.add eZ lf) (by omega)
 refine ⟨_,_,_,rfl,fun V3 l3=>(gZ (yG.le (l1.trans (l2.trans (l3)))) (Ex.le (l1.trans (l2.trans (l3)))) e_ lg (by omega)).mono ?_⟩
 rintro r V4 l4 g2
 have g20:=g2
 obtain ⟨Li,Lj,Lk,rfl⟩:=g2.shape
 have cI:Sz (2*k+1) ((eC)+(k_)):=Sz.mono (Sz.add e_ lg) (by omega)
 exact ⟨_,_,_,rfl,fun V5 l5=>⟨_,_,_,_,_,_,rfl,(g10.le (l3.trans (l4.trans (l5)))),(g20.le (l5))⟩⟩
theorem gU {eA eC kZ k_:Rat}{k:Nat}(eZ:Sz k eA)(e_:Sz k eC)(lf:Sz k kZ)(lg:Sz k k_):Sz (2*k+1) ((eA)+(kZ)):=by
 have bD:Sz (2*k+1) ((eA)+(kZ)):=Sz.mono (Sz.add eZ lf) (by omega)
 have cI:Sz (2*k+1) ((eC)+(k_)):=Sz.mono (Sz.add e_ lg) (by omega)
 exact Sz.mono bD (by omega)
theorem gV {eA eC kZ k_:Rat}{k:Nat}(eZ:Sz k eA)(e_:Sz k eC)(lf:Sz k kZ)(lg:Sz k k_):Sz (2*k+1) ((eC)+(k_)):=by
 have bD:Sz (2*k+1) ((eA)+(kZ)):=Sz.mono (Sz.add eZ lf) (by omega)
 have cI:Sz (2*k+1) ((eC)+(k_)):=Sz.mono (Sz.add e_ lg) (by omega)
 exact Sz.mono cI (by omega)
theorem j_ {V:View}{p:Value}{eA eC:Rat}{c:Value}{Ak:Rat}(hp:nE V p eA eC)(hc:RR V c Ak){k:Nat}(eZ:Sz k eA)(e_:Sz k eC)(tM:Sz k Ak)(hk:2*k+1<274877906944) :
  ab prog 150 #[p,c] V fun r V'=>nE V' r ((eA)*(Ak)) ((eC)*(Ak)):=by
 have hp0:=hp
 obtain ⟨p0,p1,p2,p3,p4,p5,rfl,yF,yG⟩:=hp
 have hc0:=hc
 obtain ⟨c0,c1,c2,rfl⟩:=hc.shape
 refine pS p0 p1 p2 p3 p4 p5 c0 c1 c2 V _ fun V1 l1=>(dP (yF.le (l1)) (hc0.le (l1)) eZ tM (by omega)).mono ?_
 rintro r V2 l2 g1
 have g10:=g1
 obtain ⟨LW,LX,LY,rfl⟩:=g1.shape
 have bD:Sz (2*k+1) ((eA)*(Ak)):=Sz.mono (Sz.mul eZ tM) (by omega)
 refine ⟨_,_,_,rfl,fun V3 l3=>(dP (yG.le (l1.trans (l2.trans (l3)))) (hc0.le (l1.trans (l2.trans (l3)))) e_ tM (by omega)).mono ?_⟩
 rintro r V4 l4 g2
 have g20:=g2
 obtain ⟨Li,Lj,Lk,rfl⟩:=g2.shape
 have cI:Sz (2*k+1) ((eC)*(Ak)):=Sz.mono (Sz.mul e_ tM) (by omega)
 exact ⟨_,_,_,rfl,fun V5 l5=>⟨_,_,_,_,_,_,rfl,(g10.le (l3.trans (l4.trans (l5)))),(g20.le (l5))⟩⟩
theorem bO {eA eC Ak:Rat}{k:Nat}(eZ:Sz k eA)(e_:Sz k eC)(tM:Sz k Ak):Sz (2*k+1) ((eA)*(Ak)):=by
 have bD:Sz (2*k+1) ((eA)*(Ak)):=Sz.mono (Sz.mul eZ tM) (by omega)
 have cI:Sz (2*k+1) ((eC)*(Ak)):=Sz.mono (Sz.mul e_ tM) (by omega)
 exact Sz.mono bD (by omega)
theorem bP {eA eC Ak:Rat}{k:Nat}(eZ:Sz k eA)(e_:Sz k eC)(tM:Sz k Ak):Sz (2*k+1) ((eC)*(Ak)):=by
 have bD:Sz (2*k+1) ((eA)*(Ak)):=Sz.mono (Sz.mul eZ tM) (by omega)
 have cI:Sz (2*k+1) ((eC)*(Ak)):=Sz.mono (Sz.mul e_ tM) (by omega)
 exact Sz.mono cI (by omega)
theorem jl {V:View}{p:Value}{eA eC:Rat}{q:Value}{kZ k_:Rat}(hp:nE V p eA eC)(hq:nE V q kZ k_){k:Nat}(eZ:Sz k eA)(e_:Sz k eC)(lf:Sz k kZ)(lg:Sz k k_)(hk:4*k+3<274877906944) :
  ab prog 144 #[p,q] V fun r V'=>RR V' r (((eA)*(kZ))+((eC)*(k_))):=by
 have hp0:=hp
 obtain ⟨p0,p1,p2,p3,p4,p5,rfl,yF,yG⟩:=hp
 have hq0:=hq
 obtain ⟨q0,q1,q2,q3,q4,q5,rfl,Ew,Ex⟩:=hq
 refine ub p0 p1 p2 p3 p4 p5 q0 q1 q2 q3 q4 q5 V _ fun V1 l1=>(dP (yF.le (l1)) (Ew.le (l1)) eZ lf (by omega)).mono ?_
 rintro r V2 l2 g1
 have g10:=g1
 obtain ⟨LW,LX,LY,rfl⟩:=g1.shape
 have bD:Sz (2*k+1) ((eA)*(kZ)):=Sz.mono (Sz.mul eZ lf) (by omega)
 refine ⟨_,_,_,rfl,fun V3 l3=>(dP (yG.le (l1.trans (l2.trans (l3)))) (Ex.le (l1.trans (l2.trans (l3)))) e_ lg (by omega)).mono ?_⟩
 rintro r V4 l4 g2
 have g20:=g2
 obtain ⟨Li,Lj,Lk,rfl⟩:=g2.shape
 have cI:Sz (2*k+1) ((eC)*(k_)):=Sz.mono (Sz.mul e_ lg) (by omega)
 refine ⟨_,_,_,rfl,fun V5 l5=>(gZ (g10.le (l3.trans (l4.trans (l5)))) (g20.le (l5)) bD cI (by omega)).mono ?_⟩
 rintro r V6 l6 g3
 have mK:=g3
 obtain ⟨N9,N_,Oa,rfl⟩:=g3.shape
 have fM:Sz (4*k+3) (((eA)*(kZ))+((eC)*(k_))):=Sz.mono (Sz.add bD cI) (by omega)
 exact ⟨_,_,_,rfl,fun V7 l7=>(mK.le (l7))⟩
theorem cE {eA eC kZ k_:Rat}{k:Nat}(eZ:Sz k eA)(e_:Sz k eC)(lf:Sz k kZ)(lg:Sz k k_):Sz (4*k+3) (((eA)*(kZ))+((eC)*(k_))):=by
 have bD:Sz (2*k+1) ((eA)*(kZ)):=Sz.mono (Sz.mul eZ lf) (by omega)
 have cI:Sz (2*k+1) ((eC)*(k_)):=Sz.mono (Sz.mul e_ lg) (by omega)
 have fM:Sz (4*k+3) (((eA)*(kZ))+((eC)*(k_))):=Sz.mono (Sz.add bD cI) (by omega)
 exact Sz.mono fM (by omega)
theorem eH {V:View}{p:Value}{eA eC:Rat}{q:Value}{kZ k_:Rat}(hp:nE V p eA eC)(hq:nE V q kZ k_){k:Nat}(eZ:Sz k eA)(e_:Sz k eC)(lf:Sz k kZ)(lg:Sz k k_)(hk:4*k+3<274877906944) :
  ab prog 136 #[p,q] V fun r V'=>RR V' r (((eA)*(k_))-((eC)*(kZ))):=by
 have hp0:=hp
 obtain ⟨p0,p1,p2,p3,p4,p5,rfl,yF,yG⟩:=hp
 have hq0:=hq
 obtain ⟨q0,q1,q2,q3,q4,q5,rfl,Ew,Ex⟩:=hq
 refine pR p0 p1 p2 p3 p4 p5 q0 q1 q2 q3 q4 q5 V _ fun V1 l1=>(dP (yF.le (l1)) (Ex.le (l1)) eZ lg (by omega)).mono ?_
 rintro r V2 l2 g1
 have g10:=g1
 obtain ⟨LW,LX,LY,rfl⟩:=g1.shape
 have bD:Sz (2*k+1) ((eA)*(k_)):=Sz.mono (Sz.mul eZ lg) (by omega)
 refine ⟨_,_,_,rfl,fun V3 l3=>(dP (yG.le (l1.trans (l2.trans (l3)))) (Ew.le (l1.trans (l2.trans (l3)))) e_ lf (by omega)).mono ?_⟩
 rintro r V4 l4 g2
 have g20:=g2
 obtain ⟨Li,Lj,Lk,rfl⟩:=g2.shape
 have cI:Sz (2*k+1) ((eC)*(kZ)):=Sz.mono (Sz.mul e_ lf) (by omega)
 refine ⟨_,_,_,rfl,fun V5 l5=>(mz (g10.le (l3.trans (l4.trans (l5)))) (g20.le (l5)) bD cI (by omega)).mono ?_⟩
 rintro r V6 l6 g3
 have mK:=g3
 obtain ⟨N9,N_,Oa,rfl⟩:=g3.shape
 have fM:Sz (4*k+3) (((eA)*(k_))-((eC)*(kZ))):=Sz.mono (Sz.sub bD cI) (by omega)
 exact ⟨_,_,_,rfl,fun V7 l7=>(mK.le (l7))⟩
theorem je {eA eC kZ k_:Rat}{k:Nat}(eZ:Sz k eA)(e_:Sz k eC)(lf:Sz k kZ)(lg:Sz k k_):Sz (4*k+3) (((eA)*(k_))-((eC)*(kZ))):=by
 have bD:Sz (2*k+1) ((eA)*(k_)):=Sz.mono (Sz.mul eZ lg) (by omega)
 have cI:Sz (2*k+1) ((eC)*(kZ)):=Sz.mono (Sz.mul e_ lf) (by omega)
 have fM:Sz (4*k+3) (((eA)*(k_))-((eC)*(kZ))):=Sz.mono (Sz.sub bD cI) (by omega)
 exact Sz.mono fM (by omega)
theorem jk {V:View}{l:Value}{bj l_1 cW:Rat}(hl:tg V l bj l_1 cW){k:Nat}(b_:Sz k bj)(cD:Sz k l_1)(bT:Sz k cW)(hk:1*k+1<274877906944) :
  ab prog 135 #[l] V fun r V'=>nE V' r (l_1) (-(bj)):=by
 have hl0:=hl
 obtain ⟨l0,l1,l2,l3,l4,l5,l6,l7,l8,rfl,C9,C_,Da⟩:=hl
 refine tZ l0 l1 l2 l3 l4 l5 l6 l7 l8 V _ fun V1 l1=>(mw (C9.le (l1)) b_ (by omega)).mono ?_
 rintro r V2 l2 g1
 have g10:=g1
 obtain ⟨LW,LX,LY,rfl⟩:=g1.shape
 have bD:Sz (1*k+0) (-(bj)):=Sz.mono (Sz.neg b_) (by omega)
 exact ⟨_,_,_,rfl,fun V3 l3=>⟨_,_,_,_,_,_,rfl,(C_.le (l1.trans (l2.trans (l3)))),(g10.le (l3))⟩⟩
theorem gS {bj l_1 cW:Rat}{k:Nat}(b_:Sz k bj)(cD:Sz k l_1)(bT:Sz k cW):Sz (1*k+0) (l_1):=by
 have bD:Sz (1*k+0) (-(bj)):=Sz.mono (Sz.neg b_) (by omega)
 exact Sz.mono cD (by omega)
theorem gT {bj l_1 cW:Rat}{k:Nat}(b_:Sz k bj)(cD:Sz k l_1)(bT:Sz k cW):Sz (1*k+0) (-(bj)):=by
 have bD:Sz (1*k+0) (-(bj)):=Sz.mono (Sz.neg b_) (by omega)
 exact Sz.mono bD (by omega)
theorem cK {V:View}{l:Value}{bj l_1 cW:Rat}(hl:tg V l bj l_1 cW){k:Nat}(b_:Sz k bj)(cD:Sz k l_1)(bT:Sz k cW)(hk:1*k+1<274877906944) :
  ab prog 142 #[l] V fun r V'=>nE V' r (bj) (l_1):=by
 have hl0:=hl
 obtain ⟨l0,l1,l2,l3,l4,l5,l6,l7,l8,rfl,C9,C_,Da⟩:=hl
 exact oA l0 l1 l2 l3 l4 l5 l6 l7 l8 V _ fun V1 l1=>⟨_,_,_,_,_,_,rfl,(C9.le (l1)),(C_.le (l1))⟩
theorem cf {bj l_1 cW:Rat}{k:Nat}(b_:Sz k bj)(cD:Sz k l_1)(bT:Sz k cW):Sz (1*k+0) (bj):=by
 exact Sz.mono b_ (by omega)
theorem cg {bj l_1 cW:Rat}{k:Nat}(b_:Sz k bj)(cD:Sz k l_1)(bT:Sz k cW):Sz (1*k+0) (l_1):=by
 exact Sz.mono cD (by omega)
theorem j9 {V:View}{l:Value}{bj l_1 cW:Rat}{p:Value}{eA eC:Rat}(hl:tg V l bj l_1 cW)(hp:nE V p eA eC){k:Nat}(b_:Sz k bj)(cD:Sz k l_1)(bT:Sz k cW)(eZ:Sz k eA)(e_:Sz k eC)(hk:5*k+4<274877906944) :
  ab prog 146 #[l,p] V fun r V'=>RR V' r ((((bj)*(eA))+((l_1)*(eC)))+(cW)):=by
 have hl0:=hl
 obtain ⟨l0,l1,l2,l3,l4,l5,l6,l7,l8,rfl,C9,C_,Da⟩:=hl
 have hp0:=hp
 obtain ⟨p0,p1,p2,p3,p4,p5,rfl,yF,yG⟩:=hp
 refine pQ l0 l1 l2 l3 l4 l5 l6 l7 l8 p0 p1 p2 p3 p4 p5 V _ fun V1 l1=>(cK (hl0.le (l1)) (Sz.mono b_ (by omega):Sz (1*k+0) _) (Sz.mono cD (by omega):Sz (1*k+0) _) (Sz.mono bT (by omega):Sz (1*k+0) _) (by omega)).mono ?_
 rintro r V2 l2 g1
 have g10:=g1
 obtain ⟨Lb,Lc,Ld,Lf,Lg,Lh,rfl,JO,JP⟩:=g1
 have bD:Sz (1*k+0) (bj):=Sz.mono ((cf (Sz.mono b_ (by omega):Sz (1*k+0) _) (Sz.mono cD (by omega):Sz (1*k+0) _) (Sz.mono bT (by omega):Sz (1*k+0) _))) (by omega)
 have dO:Sz (1*k+0) (l_1):=Sz.mono ((cg (Sz.mono b_ (by omega):Sz (1*k+0) _) (Sz.mono cD (by omega):Sz (1*k+0) _) (Sz.mono bT (by omega):Sz (1*k+0) _))) (by omega)
 refine ⟨_,_,_,_,_,_,rfl,fun V3 l3=>(jl (g10.le (l3)) (hp0.le (l1.trans (l2.trans (l3)))) (Sz.mono bD (by omega):Sz (1*k+0) _) (Sz.mono dO (by omega):Sz (1*k+0) _) (Sz.mono eZ (by omega):Sz (1*k+0) _) (Sz.mono e_ (by omega):Sz (1*k+0) _) (by omega)).mono ?_⟩
 rintro r V4 l4 g2
 have g20:=g2
 obtain ⟨Li,Lj,Lk,rfl⟩:=g2.shape
 have cI:Sz (4*k+3) (((bj)*(eA))+((l_1)*(eC))):=Sz.mono ((cE (Sz.mono bD (by omega):Sz (1*k+0) _) (Sz.mono dO (by omega):Sz (1*k+0) _) (Sz.mono eZ (by omega):Sz (1*k+0) _) (Sz.mono e_ (by omega):Sz (1*k+0) _))) (by omega)
 refine ⟨_,_,_,rfl,fun V5 l5=>(gZ (g20.le (l5)) (Da.le (l1.trans (l2.trans (l3.trans (l4.trans (l5)))))) cI bT (by omega)).mono ?_⟩
 rintro r V6 l6 g3
 have mK:=g3
 obtain ⟨N9,N_,Oa,rfl⟩:=g3.shape
 have fM:Sz (5*k+4) ((((bj)*(eA))+((l_1)*(eC)))+(cW)):=Sz.mono (Sz.add cI bT) (by omega)
 exact ⟨_,_,_,rfl,fun V7 l7=>(mK.le (l7))⟩
theorem jd {bj l_1 cW eA eC:Rat}{k:Nat}(b_:Sz k bj)(cD:Sz k l_1)(bT:Sz k cW)(eZ:Sz k eA)(e_:Sz k eC):Sz (5*k+4) ((((bj)*(eA))+((l_1)*(eC)))+(cW)):=by
 have bD:Sz (1*k+0) (bj):=Sz.mono ((cf (Sz.mono b_ (by omega):Sz (1*k+0) _) (Sz.mono cD (by omega):Sz (1*k+0) _) (Sz.mono bT (by omega):Sz (1*k+0) _))) (by omega)
 have dO:Sz (1*k+0) (l_1):=Sz.mono ((cg (Sz.mono b_ (by omega):Sz (1*k+0) _) (Sz.mono cD (by omega):Sz (1*k+0) _) (Sz.mono bT (by omega):Sz (1*k+0) _))) (by omega)
 have cI:Sz (4*k+3) (((bj)*(eA))+((l_1)*(eC))):=Sz.mono ((cE (Sz.mono bD (by omega):Sz (1*k+0) _) (Sz.mono dO (by omega):Sz (1*k+0) _) (Sz.mono eZ (by omega):Sz (1*k+0) _) (Sz.mono e_ (by omega):Sz (1*k+0) _))) (by omega)
 have fM:Sz (5*k+4) ((((bj)*(eA))+((l_1)*(eC)))+(cW)):=Sz.mono (Sz.add cI bT) (by omega)
 exact Sz.mono fM (by omega)
theorem lq {V:View}{l:Value}{bj l_1 cW:Rat}(hl:tg V l bj l_1 cW){k:Nat}(b_:Sz k bj)(cD:Sz k l_1)(bT:Sz k cW)(hk:10*k+9<274877906944) :
  ab prog 180 #[l] V fun r V'=>nE V' r ((bj)*(((-(cW))*(((bj)*(bj))+((l_1)*(l_1)))⁻¹))) ((l_1)*(((-(cW))*(((bj)*(bj))+((l_1)*(l_1)))⁻¹))):=by
 have hl0:=hl
 obtain ⟨l0,l1,l2,l3,l4,l5,l6,l7,l8,rfl,C9,C_,Da⟩:=hl
 refine sC l0 l1 l2 l3 l4 l5 l6 l7 l8 V _ fun V1 l1=>(cK (hl0.le (l1)) (Sz.mono b_ (by omega):Sz (1*k+0) _) (Sz.mono cD (by omega):Sz (1*k+0) _) (Sz.mono bT (by omega):Sz (1*k+0) _) (by omega)).mono ?_
 rintro r V2 l2 g1
 have g10:=g1
 obtain ⟨Lb,Lc,Ld,Lf,Lg,Lh,rfl,JO,JP⟩:=g1
 have bD:Sz (1*k+0) (bj):=Sz.mono ((cf (Sz.mono b_ (by omega):Sz (1*k+0) _) (Sz.mono cD (by omega):Sz (1*k+0) _) (Sz.mono bT (by omega):Sz (1*k+0) _))) (by omega)
 have dO:Sz (1*k+0) (l_1):=Sz.mono ((cg (Sz.mono b_ (by omega):Sz (1*k+0) _) (Sz.mono cD (by omega):Sz (1*k+0) _) (Sz.mono bT (by omega):Sz (1*k+0) _))) (by omega)
 refine ⟨_,_,_,_,_,_,rfl,fun V3 l3=>(mw (Da.le (l1.trans (l2.trans (l3)))) bT (by omega)).mono ?_⟩
 rintro r V4 l4 g2
 have g20:=g2
 obtain ⟨Li,Lj,Lk,rfl⟩:=g2.shape
 have cI:Sz (1*k+0) (-(cW)):=Sz.mono (Sz.neg bT) (by omega)
 refine ⟨_,_,_,rfl,fun V5 l5=>(jl (g10.le (l3.trans (l4.trans (l5)))) (g10.le (l3.trans (l4.trans (l5)))) (Sz.mono bD (by omega):Sz (1*k+0) _) (Sz.mono dO (by omega):Sz (1*k+0) _) (Sz.mono bD (by omega):Sz (1*k+0) _) (Sz.mono dO (by omega):Sz (1*k+0) _) (by omega)).mono ?_⟩
 rintro r V6 l6 g3
 have mK:=g3
 obtain ⟨N9,N_,Oa,rfl⟩:=g3.shape
 have fM:Sz (4*k+3) (((bj)*(bj))+((l_1)*(l_1))):=Sz.mono ((cE (Sz.mono bD (by omega):Sz (1*k+0) _) (Sz.mono dO (by omega):Sz (1*k+0) _) (Sz.mono bD (by omega):Sz (1*k+0) _) (Sz.mono dO (by omega):Sz (1*k+0) _))) (by omega)
 refine ⟨_,_,_,rfl,fun V7 l7=>(my (g20.le (l5.trans (l6.trans (l7)))) (mK.le (l7)) cI fM (by omega)).mono ?_⟩
 rintro r V8 l8 g4
 have Gk:=g4
 obtain ⟨Ta,Tb,Tc,rfl⟩:=g4.shape
 have oD:Sz (5*k+4) ((-(cW))*(((bj)*(bj))+((l_1)*(l_1)))⁻¹):=Sz.mono (Sz.mul cI (fK fM)) (by omega)
 refine ⟨_,_,_,rfl,fun V9 l9=>(j_ (g10.le (l3.trans (l4.trans (l5.trans (l6.trans (l7.trans (l8.trans (l9)))))))) (Gk.le (l9)) (Sz.mono bD (by omega):Sz (5*k+4) _) (Sz.mono dO (by omega):Sz (5*k+4) _) (Sz.mono oD (by omega):Sz (5*k+4) _) (by omega)).mono ?_⟩
 rintro r kV l10 g5
 have Jc:=g5
 obtain ⟨Sr,Ss,Su,Sv,Sw,Sx,rfl,Mt,Mu⟩:=g5
 have I6:Sz (10*k+9) ((bj)*(((-(cW))*(((bj)*(bj))+((l_1)*(l_1)))⁻¹))):=Sz.mono ((bO (Sz.mono bD (by omega):Sz (5*k+4) _) (Sz.mono dO (by omega):Sz (5*k+4) _) (Sz.mono oD (by omega):Sz (5*k+4) _))) (by omega)
 have I7:Sz (10*k+9) ((l_1)*(((-(cW))*(((bj)*(bj))+((l_1)*(l_1)))⁻¹))):=Sz.mono ((bP (Sz.mono bD (by omega):Sz (5*k+4) _) (Sz.mono dO (by omega):Sz (5*k+4) _) (Sz.mono oD (by omega):Sz (5*k+4) _))) (by omega)
 exact ⟨_,_,_,_,_,_,rfl,fun lH bS=>⟨_,_,_,_,_,_,rfl,(Mt.le (bS)),(Mu.le (bS))⟩⟩
theorem cN {bj l_1 cW:Rat}{k:Nat}(b_:Sz k bj)(cD:Sz k l_1)(bT:Sz k cW):Sz (10*k+9) ((bj)*(((-(cW))*(((bj)*(bj))+((l_1)*(l_1)))⁻¹))):=by
 have bD:Sz (1*k+0) (bj):=Sz.mono ((cf (Sz.mono b_ (by omega):Sz (1*k+0) _) (Sz.mono cD (by omega):Sz (1*k+0) _) (Sz.mono bT (by omega):Sz (1*k+0) _))) (by omega)
 have dO:Sz (1*k+0) (l_1):=Sz.mono ((cg (Sz.mono b_ (by omega):Sz (1*k+0) _) (Sz.mono cD (by omega):Sz (1*k+0) _) (Sz.mono bT (by omega):Sz (1*k+0) _))) (by omega)
 have cI:Sz (1*k+0) (-(cW)):=Sz.mono (Sz.neg bT) (by omega)
 have fM:Sz (4*k+3) (((bj)*(bj))+((l_1)*(l_1))):=Sz.mono ((cE (Sz.mono bD (by omega):Sz (1*k+0) _) (Sz.mono dO (by omega):Sz (1*k+0) _) (Sz.mono bD (by omega):Sz (1*k+0) _) (Sz.mono dO (by omega):Sz (1*k+0) _))) (by omega)
 have oD:Sz (5*k+4) ((-(cW))*(((bj)*(bj))+((l_1)*(l_1)))⁻¹):=Sz.mono (Sz.mul cI (fK fM)) (by omega)
 have I6:Sz (10*k+9) ((bj)*(((-(cW))*(((bj)*(bj))+((l_1)*(l_1)))⁻¹))):=Sz.mono ((bO (Sz.mono bD (by omega):Sz (5*k+4) _) (Sz.mono dO (by omega):Sz (5*k+4) _) (Sz.mono oD (by omega):Sz (5*k+4) _))) (by omega)
 have I7:Sz (10*k+9) ((l_1)*(((-(cW))*(((bj)*(bj))+((l_1)*(l_1)))⁻¹))):=Sz.mono ((bP (Sz.mono bD (by omega):Sz (5*k+4) _) (Sz.mono dO (by omega):Sz (5*k+4) _) (Sz.mono oD (by omega):Sz (5*k+4) _))) (by omega)
 exact Sz.mono I6 (by omega)
theorem cO {bj l_1 cW:Rat}{k:Nat}(b_:Sz k bj)(cD:Sz k l_1)(bT:Sz k cW):Sz (10*k+9) ((l_1)*(((-(cW))*(((bj)*(bj))+((l_1)*(l_1)))⁻¹))):=by
 have bD:Sz (1*k+0) (bj):=Sz.mono ((cf (Sz.mono b_ (by omega):Sz (1*k+0) _) (Sz.mono cD (by omega):Sz (1*k+0) _) (Sz.mono bT (by omega):Sz (1*k+0) _))) (by omega)
 have dO:Sz (1*k+0) (l_1):=Sz.mono ((cg (Sz.mono b_ (by omega):Sz (1*k+0) _) (Sz.mono cD (by omega):Sz (1*k+0) _) (Sz.mono bT (by omega):Sz (1*k+0) _))) (by omega)
 have cI:Sz (1*k+0) (-(cW)):=Sz.mono (Sz.neg bT) (by omega)
 have fM:Sz (4*k+3) (((bj)*(bj))+((l_1)*(l_1))):=Sz.mono ((cE (Sz.mono bD (by omega):Sz (1*k+0) _) (Sz.mono dO (by omega):Sz (1*k+0) _) (Sz.mono bD (by omega):Sz (1*k+0) _) (Sz.mono dO (by omega):Sz (1*k+0) _))) (by omega)
 have oD:Sz (5*k+4) ((-(cW))*(((bj)*(bj))+((l_1)*(l_1)))⁻¹):=Sz.mono (Sz.mul cI (fK fM)) (by omega)
 have I6:Sz (10*k+9) ((bj)*(((-(cW))*(((bj)*(bj))+((l_1)*(l_1)))⁻¹))):=Sz.mono ((bO (Sz.mono bD (by omega):Sz (5*k+4) _) (Sz.mono dO (by omega):Sz (5*k+4) _) (Sz.mono oD (by omega):Sz (5*k+4) _))) (by omega)
 have I7:Sz (10*k+9) ((l_1)*(((-(cW))*(((bj)*(bj))+((l_1)*(l_1)))⁻¹))):=Sz.mono ((bP (Sz.mono bD (by omega):Sz (5*k+4) _) (Sz.mono dO (by omega):Sz (5*k+4) _) (Sz.mono oD (by omega):Sz (5*k+4) _))) (by omega)
 exact Sz.mono I7 (by omega)
theorem xY {V:View}{l:Value}{bj l_1 cW:Rat}{t:Value}{sZ:Rat}(hl:tg V l bj l_1 cW)(ht:RR V t sZ){k:Nat}(b_:Sz k bj)(cD:Sz k l_1)(bT:Sz k cW)(wS:Sz k sZ)(hk:20*k+19<274877906944) :
  ab prog 132 #[l,t] V fun r V'=>nE V' r ((((bj)*(((-(cW))*(((bj)*(bj))+((l_1)*(l_1)))⁻¹))))+(((l_1)*(sZ)))) ((((l_1)*(((-(cW))*(((bj)*(bj))+((l_1)*(l_1)))⁻¹))))+((((-(bj)))*(sZ)))):=by
 have hl0:=hl
 obtain ⟨l0,l1,l2,l3,l4,l5,l6,l7,l8,rfl,C9,C_,Da⟩:=hl
 have ht0:=ht
 obtain ⟨t0,t1,t2,rfl⟩:=ht.shape
 refine xg l0 l1 l2 l3 l4 l5 l6 l7 l8 t0 t1 t2 V _ fun V1 l1=>(lq (hl0.le (l1)) (Sz.mono b_ (by omega):Sz (1*k+0) _) (Sz.mono cD (by omega):Sz (1*k+0) _) (Sz.mono bT (by omega):Sz (1*k+0) _) (by omega)).mono ?_
 rintro r V2 l2 g1
 have g10:=g1
 obtain ⟨Lb,Lc,Ld,Lf,Lg,Lh,rfl,JO,JP⟩:=g1
 have bD:Sz (10*k+9) ((bj)*(((-(cW))*(((bj)*(bj))+((l_1)*(l_1)))⁻¹))):=Sz.mono ((cN (Sz.mono b_ (by omega):Sz (1*k+0) _) (Sz.mono cD (by omega):Sz (1*k+0) _) (Sz.mono bT (by omega):Sz (1*k+0) _))) (by omega)
 have dO:Sz (10*k+9) ((l_1)*(((-(cW))*(((bj)*(bj))+((l_1)*(l_1)))⁻¹))):=Sz.mono ((cO (Sz.mono b_ (by omega):Sz (1*k+0) _) (Sz.mono cD (by omega):Sz (1*k+0) _) (Sz.mono bT (by omega):Sz (1*k+0) _))) (by omega)
 refine ⟨_,_,_,_,_,_,rfl,fun V3 l3=>(jk (hl0.le (l1.trans (l2.trans (l3)))) (Sz.mono b_ (by omega):Sz (1*k+0) _) (Sz.mono cD (by omega):Sz (1*k+0) _) (Sz.mono bT (by omega):Sz (1*k+0) _) (by omega)).mono ?_⟩
 rintro r V4 l4 g2
 have g20:=g2
 obtain ⟨R7,R8,R9,R_,Sa,Sb,rfl,QC,QD⟩:=g2
 have cI:Sz (1*k+0) (l_1):=Sz.mono ((gS (Sz.mono b_ (by omega):Sz (1*k+0) _) (Sz.mono cD (by omega):Sz (1*k+0) _) (Sz.mono bT (by omega):Sz (1*k+0) _))) (by omega)
 have xw:Sz (1*k+0) (-(bj)):=Sz.mono ((gT (Sz.mono b_ (by omega):Sz (1*k+0) _) (Sz.mono cD (by omega):Sz (1*k+0) _) (Sz.mono bT (by omega):Sz (1*k+0) _))) (by omega)
 refine ⟨_,_,_,_,_,_,rfl,fun V5 l5=>(j_ (g20.le (l5)) (ht0.le (l1.trans (l2.trans (l3.trans (l4.trans (l5)))))) (Sz.mono cI (by omega):Sz (1*k+0) _) (Sz.mono xw (by omega):Sz (1*k+0) _) (Sz.mono wS (by omega):Sz (1*k+0) _) (by omega)).mono ?_⟩
 rintro r V6 l6 g3
 have mK:=g3
 obtain ⟨Sc,Se,Sf,Sg,Si,Sj,rfl,QE,QF⟩:=g3
 have fM:Sz (2*k+1) ((l_1)*(sZ)):=Sz.mono ((bO (Sz.mono cI (by omega):Sz (1*k+0) _) (Sz.mono xw (by omega):Sz (1*k+0) _) (Sz.mono wS (by omega):Sz (1*k+0) _))) (by omega)
 have xA:Sz (2*k+1) (((-(bj)))*(sZ)):=Sz.mono ((bP (Sz.mono cI (by omega):Sz (1*k+0) _) (Sz.mono xw (by omega):Sz (1*k+0) _) (Sz.mono wS (by omega):Sz (1*k+0) _))) (by omega)
 refine ⟨_,_,_,_,_,_,rfl,fun V7 l7=>(wb (g10.le (l3.trans (l4.trans (l5.trans (l6.trans (l7)))))) (mK.le (l7)) (Sz.mono bD (by omega):Sz (10*k+9) _) (Sz.mono dO (by omega):Sz (10*k+9) _) (Sz.mono fM (by omega):Sz (10*k+9) _) (Sz.mono xA (by omega):Sz (10*k+9) _) (by omega)).mono ?_⟩
 rintro r V8 l8 g4
 have Gk:=g4
 obtain ⟨Sk,Sl,Sm,Sn,So,Sq,rfl,Mr,Ms⟩:=g4
 have oD:Sz (20*k+19) ((((bj)*(((-(cW))*(((bj)*(bj))+((l_1)*(l_1)))⁻¹))))+(((l_1)*(sZ)))):=Sz.mono ((gU (Sz.mono bD (by omega):Sz (10*k+9) _) (Sz.mono dO (by omega):Sz (10*k+9) _) (Sz.mono fM (by omega):Sz (10*k+9) _) (Sz.mono xA (by omega):Sz (10*k+9) _))) (by omega)
 have I5:Sz (20*k+19) ((((l_1)*(((-(cW))*(((bj)*(bj))+((l_1)*(l_1)))⁻¹))))+((((-(bj)))*(sZ)))):=Sz.mono ((gV (Sz.mono bD (by omega):Sz (10*k+9) _) (Sz.mono dO (by omega):Sz (10*k+9) _) (Sz.mono fM (by omega):Sz (10*k+9) _) (Sz.mono xA (by omega):Sz (10*k+9) _))) (by omega)
 exact ⟨_,_,_,_,_,_,rfl,fun V9 l9=>⟨_,_,_,_,_,_,rfl,(Mr.le (l9)),(Ms.le (l9))⟩⟩
theorem uo {bj l_1 cW sZ:Rat}{k:Nat}(b_:Sz k bj)(cD:Sz k l_1)(bT:Sz k cW)(wS:Sz k sZ):Sz (20*k+19) ((((bj)*(((-(cW))*(((bj)*(bj))+((l_1)*(l_1)))⁻¹))))+(((l_1)*(sZ)))):=by
 have bD:Sz (10*k+9) ((bj)*(((-(cW))*(((bj)*(bj))+((l_1)*(l_1)))⁻¹))):=Sz.mono ((cN (Sz.mono b_ (by omega):Sz (1*k+0) _) (Sz.mono cD (by omega):Sz (1*k+0) _) (Sz.mono bT (by omega):Sz (1*k+0) _))) (by omega)
 have dO:Sz (10*k+9) ((l_1)*(((-(cW))*(((bj)*(bj))+((l_1)*(l_1)))⁻¹))):=Sz.mono ((cO (Sz.mono b_ (by omega):Sz (1*k+0) _) (Sz.mono cD (by omega):Sz (1*k+0) _) (Sz.mono bT (by omega):Sz (1*k+0) _))) (by omega)
 have cI:Sz (1*k+0) (l_1):=Sz.mono ((gS (Sz.mono b_ (by omega):Sz (1*k+0) _) (Sz.mono cD (by omega):Sz (1*k+0) _) (Sz.mono bT (by omega):Sz (1*k+0) _))) (by omega)
 have xw:Sz (1*k+0) (-(bj)):=Sz.mono ((gT (Sz.mono b_ (by omega):Sz (1*k+0) _) (Sz.mono cD (by omega):Sz (1*k+0) _) (Sz.mono bT (by omega):Sz (1*k+0) _))) (by omega)
 have fM:Sz (2*k+1) ((l_1)*(sZ)):=Sz.mono ((bO (Sz.mono cI (by omega):Sz (1*k+0) _) (Sz.mono xw (by omega):Sz (1*k+0) _) (Sz.mono wS (by omega):Sz (1*k+0) _))) (by omega)
 have xA:Sz (2*k+1) (((-(bj)))*(sZ)):=Sz.mono ((bP (Sz.mono cI (by omega):Sz (1*k+0) _) (Sz.mono xw (by omega):Sz (1*k+0) _) (Sz.mono wS (by omega):Sz (1*k+0) _))) (by omega)
 have oD:Sz (20*k+19) ((((bj)*(((-(cW))*(((bj)*(bj))+((l_1)*(l_1)))⁻¹))))+(((l_1)*(sZ)))):=Sz.mono ((gU (Sz.mono bD (by omega):Sz (10*k+9) _) (Sz.mono dO (by omega):Sz (10*k+9) _) (Sz.mono fM (by omega):Sz (10*k+9) _) (Sz.mono xA (by omega):Sz (10*k+9) _))) (by omega)
 have I5:Sz (20*k+19) ((((l_1)*(((-(cW))*(((bj)*(bj))+((l_1)*(l_1)))⁻¹))))+((((-(bj)))*(sZ)))):=Sz.mono ((gV (Sz.mono bD (by omega):Sz (10*k+9) _) (Sz.mono dO (by omega):Sz (10*k+9) _) (Sz.mono fM (by omega):Sz (10*k+9) _) (Sz.mono xA (by omega):Sz (10*k+9) _))) (by omega)
 exact Sz.mono oD (by omega)
theorem uq {bj l_1 cW sZ:Rat}{k:Nat}(b_:Sz k bj)(cD:Sz k l_1)(bT:Sz k cW)(wS:Sz k sZ):Sz (20*k+19) ((((l_1)*(((-(cW))*(((bj)*(bj))+((l_1)*(l_1)))⁻¹))))+((((-(bj)))*(sZ)))):=by
 have bD:Sz (10*k+9) ((bj)*(((-(cW))*(((bj)*(bj))+((l_1)*(l_1)))⁻¹))):=Sz.mono ((cN (Sz.mono b_ (by omega):Sz (1*k+0) _) (Sz.mono cD (by omega):Sz (1*k+0) _) (Sz.mono bT (by omega):Sz (1*k+0) _))) (by omega)
 have dO:Sz (10*k+9) ((l_1)*(((-(cW))*(((bj)*(bj))+((l_1)*(l_1)))⁻¹))):=Sz.mono ((cO (Sz.mono b_ (by omega):Sz (1*k+0) _) (Sz.mono cD (by omega):Sz (1*k+0) _) (Sz.mono bT (by omega):Sz (1*k+0) _))) (by omega)
 have cI:Sz (1*k+0) (l_1):=Sz.mono ((gS (Sz.mono b_ (by omega):Sz (1*k+0) _) (Sz.mono cD (by omega):Sz (1*k+0) _) (Sz.mono bT (by omega):Sz (1*k+0) _))) (by omega)
 have xw:Sz (1*k+0) (-(bj)):=Sz.mono ((gT (Sz.mono b_ (by omega):Sz (1*k+0) _) (Sz.mono cD (by omega):Sz (1*k+0) _) (Sz.mono bT (by omega):Sz (1*k+0) _))) (by omega)
 have fM:Sz (2*k+1) ((l_1)*(sZ)):=Sz.mono ((bO (Sz.mono cI (by omega):Sz (1*k+0) _) (Sz.mono xw (by omega):Sz (1*k+0) _) (Sz.mono wS (by omega):Sz (1*k+0) _))) (by omega)
 have xA:Sz (2*k+1) (((-(bj)))*(sZ)):=Sz.mono ((bP (Sz.mono cI (by omega):Sz (1*k+0) _) (Sz.mono xw (by omega):Sz (1*k+0) _) (Sz.mono wS (by omega):Sz (1*k+0) _))) (by omega)
 have oD:Sz (20*k+19) ((((bj)*(((-(cW))*(((bj)*(bj))+((l_1)*(l_1)))⁻¹))))+(((l_1)*(sZ)))):=Sz.mono ((gU (Sz.mono bD (by omega):Sz (10*k+9) _) (Sz.mono dO (by omega):Sz (10*k+9) _) (Sz.mono fM (by omega):Sz (10*k+9) _) (Sz.mono xA (by omega):Sz (10*k+9) _))) (by omega)
 have I5:Sz (20*k+19) ((((l_1)*(((-(cW))*(((bj)*(bj))+((l_1)*(l_1)))⁻¹))))+((((-(bj)))*(sZ)))):=Sz.mono ((gV (Sz.mono bD (by omega):Sz (10*k+9) _) (Sz.mono dO (by omega):Sz (10*k+9) _) (Sz.mono fM (by omega):Sz (10*k+9) _) (Sz.mono xA (by omega):Sz (10*k+9) _))) (by omega)
 exact Sz.mono I5 (by omega)
theorem RA.shape {V:View}{v:Value}{q:Rat}(h:RA V v q):∃b p n c p' n' c',v=.agg #[.bool b,.slice p n c,.slice p' n' c']:=by
 obtain ⟨p,n,c,p',n',c',e,-⟩:=h;exact ⟨_,_,_,_,_,_,_,e⟩
def F0 (V:View)(v:Value)(x y:Rat):Prop:=∃b p n c p' n' c' d q m e q' m' e',v=.agg #[.bool b,.slice p n c,.slice p' n' c',.bool d,.slice q m e,.slice q' m' e'] /\
 RA V (.agg #[.bool b,.slice p n c,.slice p' n' c']) x/\RA V (.agg #[.bool d,.slice q m e,.slice q' m' e']) y
theorem F0.le {V V':View}{v:Value}{x y:Rat}(h:F0 V v x y)(l:V.Le V'):F0 V' v x y:=by
 obtain ⟨b,p,n,c,p',n',c',d,q,m,e,q',m',e',rfl,h1,h2⟩:=h
 exact ⟨_,_,_,_,_,_,_,_,_,_,_,_,_,_,rfl,h1.le l,h2.le l⟩
theorem v_ {V:View}{v:Value}{x y:Rat}(h:nE V v x y){k:Nat}(s1:Sz k x)(s2:Sz k y)(hk:k<=1099511627776) :
  ab prog 80 #[v] V fun r V'=>F0 V' r x y:=by
 obtain ⟨p0,p1,p2,p3,p4,p5,rfl,h1,h2⟩:=h
 refine t_ p0 p1 p2 p3 p4 p5 V _ fun V1 l1=>(vY (h1.le l1) s1 hk).mono ?_
 rintro r V2 l2 g1
 have g10:=g1
 obtain ⟨_,_,_,_,_,_,_,rfl⟩:=g1.shape
 refine ⟨_,_,_,_,_,_,_,rfl,fun V3 l3=>(vY (h2.le (l1.trans (l2.trans l3))) s2 hk).mono ?_⟩
 rintro r V4 l4 g2
 have g20:=g2
 obtain ⟨_,_,_,_,_,_,_,rfl⟩:=g2.shape
 exact ⟨_,_,_,_,_,_,_,rfl,fun V5 l5=>⟨_,_,_,_,_,_,_,_,_,_,_,_,_,_,rfl,g10.le (l3.trans (l4.trans l5)),g20.le l5⟩⟩
theorem tj {V:View}{l p:Value}{bj l_1 cW eA eC:Rat}(hl:tg V l bj l_1 cW)(hp:nE V p eA eC){k:Nat}(s0:Sz k bj)(s1:Sz k l_1)(s2:Sz k cW)(s3:Sz k eA)(s4:Sz k eC)(hk:16*k+16<274877906944) :
  ab prog 131 #[l,p] V fun r V'=>r=.int .i64 (bj*eA+l_1*eC+cW).num.sign:=by
 have hl0:=hl
 have hp0:=hp
 obtain ⟨a0,a1,a2,a3,a4,a5,a6,a7,a8,rfl,-,-,-⟩:=hl
 obtain ⟨p0,p1,p2,p3,p4,p5,rfl,-,-⟩:=hp
 refine sE a0 a1 a2 a3 a4 a5 a6 a7 a8 p0 p1 p2 p3 p4 p5 V _ fun V1 l1=>(j9 (hl0.le l1) (hp0.le l1) s0 s1 s2 s3 s4 (by omega)).mono ?_
 rintro r V2 l2 g
 have g0:=g
 obtain ⟨u,v,w,rfl⟩:=g.shape
 refine ⟨_,_,_,rfl,fun V3 l3=>(dK (g0.le l3) (jd s0 s1 s2 s3 s4) (by omega)).mono ?_⟩
 rintro r V4 l4 rfl
 exact ⟨_,rfl,fun V5 l5=>rfl⟩
theorem oM {V:View}{v:Value}{q:Rat}(h:RQ V v q){k:Nat}(s:Sz k q)(hk:k<=1099511627776):ab prog 36 #[v] V fun r V'=>RA V' r q:=by
 obtain ⟨p,n,c,p',n',c',rfl,h1,h2⟩:=h
 have q1:=ag s.1
 have q2:=ag s.2
 refine xn _ p n c p' n' c' V _ fun V1 l1=>(hE ⟨_,_,_,rfl,h1.le l1⟩ (by omega)).mono ?_
 rintro r V2 l2 ⟨p1,n1,c1,rfl,g1⟩
 refine ⟨_,_,_,_,rfl,fun V3 l3=>(cP q _ (h2.le (l1.trans (l2.trans l3)))).mono ?_⟩
 rintro r V4 l4 ⟨p2,n2,c2,rfl,g2⟩
 refine ⟨_,_,_,rfl,fun V5 l5=>(oL (g2.le l5) (by omega)).mono ?_⟩
 rintro r V6 l6 ⟨p3,n3,c3,rfl,g3⟩
 exact ⟨_,_,_,rfl,fun V7 l7=>⟨_,_,_,_,_,_,rfl,g1.le (l3.trans (l4.trans (l5.trans (l6.trans l7)))),g3.le l7⟩⟩
theorem yg {V:View}{v:Value}{x y:Rat}(h:RP V v x y){k:Nat}(s1:Sz k x)(s2:Sz k y)(hk:k<=1099511627776):ab prog 53 #[v] V fun r V'=>F0 V' r x y:=by
 obtain ⟨p1,n1,c1,p2,n2,c2,p3,n3,c3,p4,n4,c4,rfl,h1,h2⟩:=h
 refine xr _ p1 n1 c1 p2 n2 c2 _ p3 n3 c3 p4 n4 c4 V _ fun V1 l1=>(oM (h1.le l1) s1 hk).mono ?_
 rintro r V2 l2 g1
 have g10:=g1
 obtain ⟨_,_,_,_,_,_,_,rfl⟩:=g1.shape
 refine ⟨_,_,_,_,_,_,_,rfl,fun V3 l3=>(oM (h2.le (l1.trans (l2.trans l3))) s2 hk).mono ?_⟩
 rintro r V4 l4 g2
 have g20:=g2
 obtain ⟨_,_,_,_,_,_,_,rfl⟩:=g2.shape
 exact ⟨_,_,_,_,_,_,_,rfl,fun V5 l5=>⟨_,_,_,_,_,_,_,_,_,_,_,_,_,_,rfl,g10.le (l3.trans (l4.trans l5)),g20.le l5⟩⟩
theorem lx {V:View}{v w:Value}{x y:Rat}(hx:RA V v x)(hy:RA V w y){k:Nat}(s:Sz k x)(hk:k<=1099511627776) :
  ab prog 35 #[v,w] V fun r V'=>r=.bool (decide (x=y)):=by
 obtain ⟨p,n,c,p',n',c',rfl,h1,h2⟩:=hx
 obtain ⟨q,m,e,q',m',e',rfl,h3,h4⟩:=hy
 have q1:=ag s.1
 have q2:=ag s.2
 refine sN _ p n c p' n' c' _ q m e q' m' e' V _ fun V1 l1=>(fu (h1.le l1) (h3.le l1) (by omega)).mono ?_
 rintro r V2 l2 rfl
 refine ⟨_,rfl,fun g V3 l3=>(lu (h2.le (l1.trans (l2.trans l3))) (h4.le (l1.trans (l2.trans l3))) (by omega)).mono ?_,fun g V6 l6=>?_⟩
 ·have g:=of_decide_eq_true g
  rintro r V4 l4 rfl
  refine ⟨_,rfl,fun V5 l5=>?_⟩
  have e:af x.den=af y.den↔x=y:=⟨fun h=>Rat.ext g (by have:=congrArg val h;rwa [ae,ae] at this),fun h=>by rw [h]⟩
  rw [show decide (af x.den=af y.den)=decide (x=y) from by rw [decide_eq_decide];exact e]
 ·have g:=of_decide_eq_false g
  rw [decide_eq_false (fun h=>g (by rw [h]))]
theorem tz {V:View}{v w:Value}{x y x' y':Rat}(h:F0 V v x y)(h':F0 V w x' y'){k:Nat}(s1:Sz k x)(s2:Sz k y)(hk:k<=1099511627776) :
  ab prog 89 #[v,w] V fun r V'=>r=.bool (decide (x=x'/\y=y')):=by
 obtain ⟨b,p,n,c,p',n',c',d,q,m,e,q',m',e',rfl,h1,h2⟩:=h
 obtain ⟨b1,p1,n1,c1,KL,n1',c1',d1,q1,m1,e1,q1',Rv,Qy,rfl,h3,h4⟩:=h'
 refine sQ b p n c p' n' c' d q m e q' m' e' b1 p1 n1 c1 KL n1' c1' d1 q1 m1 e1 q1' Rv Qy V _ fun V1 l1=>(lx (h1.le l1) (h3.le l1) s1 hk).mono ?_
 rintro r V2 l2 rfl
 refine ⟨_,rfl,fun g V3 l3=>(lx (h2.le (l1.trans (l2.trans l3))) (h4.le (l1.trans (l2.trans l3))) s2 hk).mono ?_,fun g V6 l6=>?_⟩
 ·have g:=of_decide_eq_true g
  rintro r V4 l4 rfl
  exact ⟨_,rfl,fun V5 l5=>by simp [g]⟩
 ·have g:=of_decide_eq_false g
  simp [g]
def Ku (a b c:Rat):L3:=
 let f:Nat:=a.den*b.den*c.den
 Ks (a*((f:Int):Rat)).num (b*((f:Int):Rat)).num (c*((f:Int):Rat)).num
end Go.Proofs.Tryz
namespace Go.Proofs.Tryz
open Go.bo
set_option maxRecDepth 100000
end Go.Proofs.Tryz
namespace Go.Proofs.Tryz
open Go.bo Go.eu
end Go.Proofs.Tryz
namespace Go.bo
open Go.eu
theorem RR.zero (V:View):RR V (.agg #[.int .i64 0,.int .i64 0,.pointer none]) 0:=.inl ⟨rfl,by unfold Wd;decide⟩
end Go.bo
namespace Go.Proofs.Tryz
open Go.bo Go.eu
structure Sp where
 lo:Rat
 hi:Rat
 a:Bool
 b:Bool
def Sp.can (s:Sp):Prop:=(s.a=true->s.lo=0)/\(s.b=true->s.hi=0)
def Sp.sz (k:Nat)(s:Sp):Prop:=Sz k s.lo/\Sz k s.hi
def Sp.zero:Sp:=⟨0,0,false,false⟩
def kU (k:Nat)(l:L3):Prop:=Sz k (l.1:Rat)/\Sz k (l.2.1:Rat)/\Sz k (l.2.2:Rat)
def BQ (V:View)(v:Value)(s:Sp):Prop:=∃(x1 x2:Int)(p:OA)(y1 y2:Int)(q:OA),v=.agg #[.int .i64 x1,.int .i64 x2,.pointer p,.int .i64 y1,.int .i64 y2,.pointer q,.bool s.a,.bool s.b] /\
 RR V (.agg #[.int .i64 x1,.int .i64 x2,.pointer p]) s.lo/\RR V (.agg #[.int .i64 y1,.int .i64 y2,.pointer q]) s.hi
theorem BQ.le {V V':View}{v:Value}{s:Sp}(h:BQ V v s)(l:V.Le V'):BQ V' v s:=by
 obtain ⟨x1,x2,p,y1,y2,q,e,h1,h2⟩:=h
 exact ⟨x1,x2,p,y1,y2,q,e,h1.le l,h2.le l⟩
def sU (V:View)(v:Value)(l:L3):Prop:=tg V v (l.1:Rat) (l.2.1:Rat) (l.2.2:Rat)
theorem sU.le {V V':View}{v:Value}{l:L3}(h:sU V v l)(e:V.Le V'):sU V' v l:=tg.le h e
def HP (V:View)(v:Value)(l:L3)(s:Sp):Prop:=∃(x1 x2:Int)(p:OA)(y1 y2:Int)(q:OA)(z1 z2:Int)(r:OA)(u1 u2:Int)(t:OA)(w1 w2:Int)(o:OA),
 v=.agg #[.int .i64 x1,.int .i64 x2,.pointer p,.int .i64 y1,.int .i64 y2,.pointer q,.int .i64 z1,.int .i64 z2,.pointer r,.int .i64 u1,.int .i64 u2,.pointer t,.int .i64 w1,.int .i64 w2,.pointer o,.bool s.a,.bool s.b] /\
 sU V (.agg #[.int .i64 x1,.int .i64 x2,.pointer p,.int .i64 y1,.int .i64 y2,.pointer q,.int .i64 z1,.int .i64 z2,.pointer r]) l /\
 BQ V (.agg #[.int .i64 u1,.int .i64 u2,.pointer t,.int .i64 w1,.int .i64 w2,.pointer o,.bool s.a,.bool s.b]) s
theorem HP.le {V V':View}{v:Value}{l:L3}{s:Sp}(h:HP V v l s)(e:V.Le V'):HP V' v l s:=by
 obtain ⟨x1,x2,p,y1,y2,q,z1,z2,r,u1,u2,t,w1,w2,o,rfl,h1,h2⟩:=h
 exact ⟨x1,x2,p,y1,y2,q,z1,z2,r,u1,u2,t,w1,w2,o,rfl,h1.le e,h2.le e⟩
def FQ (V:View)(v:Value)(b:Bool)(xs ys:List Nat):Prop:=∃p n c p' n' c',v=.agg #[.bool b,.slice p n c,.slice p' n' c']/\RD V p n c xs/\RD V p' n' c' ys
theorem FQ.le {V V':View}{v:Value}{b:Bool}{xs ys:List Nat}(h:FQ V v b xs ys)(l:V.Le V'):FQ V' v b xs ys:=by
 obtain ⟨p,n,c,p',n',c',e,h1,h2⟩:=h;exact ⟨p,n,c,p',n',c',e,h1.le l,h2.le l⟩
theorem FQ.nil {V:View}:FQ V (.agg #[.bool false,.slice none 0 0,.slice none 0 0]) false [] []:=⟨_,_,_,_,_,_,rfl,RD.nil,RD.nil⟩
def RE (V:View)(v:Value)(q:Rat)(no:Bool):Prop:=(no=true->FQ V v false [] [])/\(no=false->RA V v q)
theorem RE.le {V V':View}{v:Value}{q:Rat}{no:Bool}(h:RE V v q no)(l:V.Le V'):RE V' v q no:=⟨fun e=>(h.1 e).le l,fun e=>(h.2 e).le l⟩
theorem RE.shape {V:View}{v:Value}{q:Rat}{no:Bool}(h:RE V v q no):∃b p n c p' n' c',v=.agg #[.bool b,.slice p n c,.slice p' n' c']:=by
 cases no with
 | true=>obtain ⟨_,_,_,_,_,_,e,-⟩:=h.1 rfl;exact ⟨_,_,_,_,_,_,_,e⟩
 | false=>exact (h.2 rfl).shape
def Ly (V:View)(v:Value)(s:Sp):Prop:=∃b p n c p' n' c' d q m e q' m' e',v=.agg #[.bool b,.slice p n c,.slice p' n' c',.bool d,.slice q m e,.slice q' m' e',.bool s.a,.bool s.b] /\
 RE V (.agg #[.bool b,.slice p n c,.slice p' n' c']) s.lo s.a/\RE V (.agg #[.bool d,.slice q m e,.slice q' m' e']) s.hi s.b
theorem Ly.le {V V':View}{v:Value}{s:Sp}(h:Ly V v s)(l:V.Le V'):Ly V' v s:=by
 obtain ⟨b,p,n,c,p',n',c',d,q,m,e,q',m',e',rfl,h1,h2⟩:=h
 exact ⟨_,_,_,_,_,_,_,_,_,_,_,_,_,_,rfl,h1.le l,h2.le l⟩
def I8 (V:View)(v:Value)(l:L3)(s:Sp):Prop:=∃b1 p1 n1 c1 b2 p2 n2 c2 b3 p3 n3 c3 b p n c p' n' c' d q m e q' m' e',
 v=.agg #[.bool b1,.slice p1 n1 c1,.bool b2,.slice p2 n2 c2,.bool b3,.slice p3 n3 c3,.bool b,.slice p n c,.slice p' n' c',.bool d,.slice q m e,.slice q' m' e',.bool s.a,.bool s.b] /\
 RL V (.agg #[.bool b1,.slice p1 n1 c1,.bool b2,.slice p2 n2 c2,.bool b3,.slice p3 n3 c3]) l.1 l.2.1 l.2.2/\Ly V (.agg #[.bool b,.slice p n c,.slice p' n' c',.bool d,.slice q m e,.slice q' m' e',.bool s.a,.bool s.b]) s
theorem I8.le {V V':View}{v:Value}{l:L3}{s:Sp}(h:I8 V v l s)(e:V.Le V'):I8 V' v l s:=by
 obtain ⟨b1,p1,n1,c1,b2,p2,n2,c2,b3,p3,n3,c3,b,p,n,c,p',n',c',d,q,m,f,q',m',f',rfl,h1,h2⟩:=h
 exact ⟨_,_,_,_,_,_,_,_,_,_,_,_,_,_,_,_,_,_,_,_,_,_,_,_,_,_,rfl,h1.le e,h2.le e⟩
def Jn (V:View)(v:Value)(s:Sp):Prop:=∃b p n c p' n' c' d q m e q' m' e',v=.agg #[.bool b,.slice p n c,.slice p' n' c',.bool d,.slice q m e,.slice q' m' e',.bool s.a,.bool s.b] /\
 RQ V (.agg #[.bool b,.slice p n c,.slice p' n' c']) s.lo/\RQ V (.agg #[.bool d,.slice q m e,.slice q' m' e']) s.hi
theorem Jn.le {V V':View}{v:Value}{s:Sp}(h:Jn V v s)(l:V.Le V'):Jn V' v s:=by
 obtain ⟨b,p,n,c,p',n',c',d,q,m,e,q',m',e',rfl,h1,h2⟩:=h
 exact ⟨_,_,_,_,_,_,_,_,_,_,_,_,_,_,rfl,h1.le l,h2.le l⟩
def RF (V:View)(v:Value)(l:L3)(s:Sp):Prop:=∃b1 p1 n1 c1 b2 p2 n2 c2 b3 p3 n3 c3 b p n c p' n' c' d q m e q' m' e',
 v=.agg #[.bool b1,.slice p1 n1 c1,.bool b2,.slice p2 n2 c2,.bool b3,.slice p3 n3 c3,.bool b,.slice p n c,.slice p' n' c',.bool d,.slice q m e,.slice q' m' e',.bool s.a,.bool s.b] /\
 RL V (.agg #[.bool b1,.slice p1 n1 c1,.bool b2,.slice p2 n2 c2,.bool b3,.slice p3 n3 c3]) l.1 l.2.1 l.2.2/\Jn V (.agg #[.bool b,.slice p n c,.slice p' n' c',.bool d,.slice q m e,.slice q' m' e',.bool s.a,.bool s.b]) s
theorem RF.le {V V':View}{v:Value}{l:L3}{s:Sp}(h:RF V v l s)(e:V.Le V'):RF V' v l s:=by
 obtain ⟨b1,p1,n1,c1,b2,p2,n2,c2,b3,p3,n3,c3,b,p,n,c,p',n',c',d,q,m,f,q',m',f',rfl,h1,h2⟩:=h
 exact ⟨_,_,_,_,_,_,_,_,_,_,_,_,_,_,_,_,_,_,_,_,_,_,_,_,_,_,rfl,h1.le e,h2.le e⟩
def az (l:L3)(x y:Rat):Rat:=(l.1:Rat)*x+(l.2.1:Rat)*y+(l.2.2:Rat)
def ic (l:L3):Rat:=(l.1:Rat)*(l.1:Rat)+(l.2.1:Rat)*(l.2.1:Rat)
def Fc (l:L3)(x y:Rat):Rat:=((l.2.1:Rat)*x-(l.1:Rat)*y)*(ic l)⁻¹
def jV (l:L3)(t:Rat):Rat:=(l.2.1:Rat)*t-(l.1:Rat)*(l.2.2:Rat)*(ic l)⁻¹
def jW (l:L3)(t:Rat):Rat:=-((l.1:Rat)*t)-(l.2.1:Rat)*(l.2.2:Rat)*(ic l)⁻¹
def jI (l:L3):L3:=(-l.1,-l.2.1,-l.2.2)
def Sp.neg (s:Sp):Sp:=⟨if s.b then 0 else -s.hi,if s.a then 0 else -s.lo,s.b,s.a⟩
def Sp.emp (s:Sp):Bool:=!s.a&&!s.b&&decide (fk s.lo s.hi≥0)
def Nz (l:L3):Prop:=¬(l.1=0/\l.2.1=0)
theorem sq_nonneg (x:Int):0<=x*x:=by
 rw [←Int.natAbs_mul_self];exact Int.natCast_nonneg _
theorem E0 (l:L3):ic l=((l.1*l.1+l.2.1*l.2.1:Int):Rat):=by unfold ic;simp
theorem Nz.norm {l:L3}(h:Nz l):ic l≠0:=by
 rw [E0]
 have h1:=sq_nonneg l.1
 have h2:=sq_nonneg l.2.1
 have h3:l.1*l.1+l.2.1*l.2.1≠0:=by
  intro e
  have e1:l.1*l.1=0:=by omega
  have e2:l.2.1*l.2.1=0:=by omega
  exact h ⟨(Int.mul_eq_zero.1 e1).elim id id,(Int.mul_eq_zero.1 e2).elim id id⟩
 exact_mod_cast h3
theorem M7 {V:View}{l t:Value}{L:L3}{x:Rat}(hl:sU V l L)(ht:RR V t x){k:Nat}(sl:kU k L)(s1:Sz k x)(hk:20*k+19<274877906944) :
  ab prog 132 #[l,t] V fun r V'=>nE V' r (jV L x) (jW L x):=by
 refine (xY hl ht sl.1 sl.2.1 sl.2.2 s1 hk).mono ?_
 rintro r V2 l2 g
 have e1:jV L x=((L.1:Rat)*((-(L.2.2:Rat))*((L.1:Rat)*(L.1:Rat)+(L.2.1:Rat)*(L.2.1:Rat))⁻¹))+((L.2.1:Rat)*x):=by unfold jV ic;grind
 have e2:jW L x=((L.2.1:Rat)*((-(L.2.2:Rat))*((L.1:Rat)*(L.1:Rat)+(L.2.1:Rat)*(L.2.1:Rat))⁻¹))+((-(L.1:Rat))*x):=by unfold jW ic;grind
 rw [e1,e2];exact g
theorem IZ {L:L3}{x:Rat}{k:Nat}(sl:kU k L)(s1:Sz k x):Sz (20*k+19) (jV L x):=by
 have e1:jV L x=((L.1:Rat)*((-(L.2.2:Rat))*((L.1:Rat)*(L.1:Rat)+(L.2.1:Rat)*(L.2.1:Rat))⁻¹))+((L.2.1:Rat)*x):=by unfold jV ic;grind
 rw [e1];exact uo sl.1 sl.2.1 sl.2.2 s1
theorem I0 {L:L3}{x:Rat}{k:Nat}(sl:kU k L)(s1:Sz k x):Sz (20*k+19) (jW L x):=by
 have e2:jW L x=((L.2.1:Rat)*((-(L.2.2:Rat))*((L.1:Rat)*(L.1:Rat)+(L.2.1:Rat)*(L.2.1:Rat))⁻¹))+((-(L.1:Rat))*x):=by unfold jW ic;grind
 rw [e2];exact uq sl.1 sl.2.1 sl.2.2 s1
theorem Iv {V:View}{l p:Value}{L:L3}{x y:Rat}(hl:sU V l L)(hp:nE V p x y){k:Nat}(sl:kU k L)(s1:Sz k x)(s2:Sz k y)(hk:16*k+16<274877906944) :
  ab prog 131 #[l,p] V fun r V'=>r=.int .i64 (az L x y).num.sign:=tj hl hp sl.1 sl.2.1 sl.2.2 s1 s2 hk
theorem kU.rev {k:Nat}{L:L3}(h:kU k L):kU k (jI L):=by
 unfold kU jI
 simp only [Rat.intCast_neg]
 exact ⟨h.1.neg,h.2.1.neg,h.2.2.neg⟩
structure Me (V:View) (vs:List Value) (i:Int) (f a b c:Rat):Prop where
 h0:0<=i
 h3:i<=3
 row:∃(x1 x2:Int)(p:OA)(y1 y2:Int)(q:OA)(z1 z2:Int)(r:OA),vs=[.int .i64 x1,.int .i64 x2,.pointer p,.int .i64 y1,.int .i64 y2,.pointer q,.int .i64 z1,.int .i64 z2,.pointer r] /\
  RR V (.agg #[.int .i64 x1,.int .i64 x2,.pointer p]) (if 0<i then a*f else a)/\RR V (.agg #[.int .i64 y1,.int .i64 y2,.pointer q]) (if 1<i then b*f else b)/\RR V (.agg #[.int .i64 z1,.int .i64 z2,.pointer r]) (if 2<i then c*f else c)
theorem Me.le {V V':View}{vs:List Value}{i:Int}{f a b c:Rat}(h:Me V vs i f a b c)(l:V.Le V'):Me V' vs i f a b c:=by
 obtain ⟨h0,h3,x1,x2,p,y1,y2,q,z1,z2,r,e,g1,g2,g3⟩:=h
 exact ⟨h0,h3,x1,x2,p,y1,y2,q,z1,z2,r,e,g1.le l,g2.le l,g3.le l⟩
def zB (px py qx qy:Rat):L3:=Ku (-(qy-py)) (qx-px) (-(-(qy-py)*px+(qx-px)*py))
theorem Ha {px py qx qy:Rat}:(px=qx/\py=qy)↔(-(qy-py)=0/\qx-px=0):=⟨fun ⟨h1,h2⟩=>⟨by grind,by grind⟩,fun ⟨h1,h2⟩=>⟨by grind,by grind⟩⟩
def Ds (b:Bool)(xs ys:List Nat):Rat:=mkRat (aU b xs) (val ys)
def IC (b:Bool)(xs ys:List Nat):Bool:=jQ b xs&&decide (af (val ys)=ys)&&!decide (ys=[])&&decide (Nat.gcd (val xs) (val ys)=1)
def Oe (b:Bool)(xs ys:List Nat):Bool:=!b&&decide (xs=[])&&decide (ys=[])
def H5 (b:Bool)(xs ys:List Nat)(no:Bool):Rat:=if no then 0 else Ds b xs ys
def Ee (b:Bool)(xs ys:List Nat)(no:Bool):Bool:=if no then Oe b xs ys else IC b xs ys
theorem Ci {q:Rat}:IC (decide (q.num<0)) (af q.num.natAbs) (af q.den)=true/\Ds (decide (q.num<0)) (af q.num.natAbs) (af q.den)=q:=by
 constructor
 ·unfold IC
  have h1:jQ (decide (q.num<0)) (af q.num.natAbs)=true:=by
   unfold jQ
   rw [ae]
   by_cases h:q.num<0
   ·have:af q.num.natAbs≠[]:=fun e=>by have:=bf.1 e;omega
    simp [h,this]
   ·simp [h]
  have h2:af q.den≠[]:=fun e=>q.den_nz (bf.1 e)
  rw [h1,ae,ae]
  simp [h2,q.reduced]
 ·unfold Ds
  rw [aF,ae,Rat.mkRat_self]
theorem Aw {V:View}{v:Value}{s:Sp}(h:BQ V v s){k:Nat}(hs:s.sz k)(hk:2*k<1099511627776) :
  ab prog 223 #[v] V fun r V'=>r=.bool s.emp:=by
 obtain ⟨x1,x2,p,y1,y2,q,rfl,h1,h2⟩:=h
 refine pO x1 x2 p y1 y2 q s.a s.b V _ ⟨fun ha=>⟨fun hb V1 l1=>(jh (h1.le l1) (h2.le l1) hs.1 hs.2 (by omega)).mono ?_,fun hb V4 l4=>?_⟩,fun ha V5 l5=>?_⟩
 ·rintro r V2 l2 rfl
  exact ⟨_,rfl,fun V3 l3=>by rw [Bool.not_eq_true'] at ha hb;simp [Sp.emp,ha,hb]⟩
 ·rw [Bool.not_eq_false'] at hb;simp [Sp.emp,hb]
 ·rw [Bool.not_eq_false'] at ha;simp [Sp.emp,ha]
def Lz (V:View)(v:Value)(b1:Bool)(Hd Hf:List Nat)(b2:Bool)(He Hg:List Nat)(na nb:Bool):Prop:=∃p n c p' n' c' q m e q' m' e',v=.agg #[.bool b1,.slice p n c,.slice p' n' c',.bool b2,.slice q m e,.slice q' m' e',.bool na,.bool nb] /\
 FQ V (.agg #[.bool b1,.slice p n c,.slice p' n' c']) b1 Hd Hf/\FQ V (.agg #[.bool b2,.slice q m e,.slice q' m' e']) b2 He Hg
theorem Lz.le {V V':View}{v:Value}{b1:Bool}{Hd Hf:List Nat}{b2:Bool}{He Hg:List Nat}{na nb:Bool}(h:Lz V v b1 Hd Hf b2 He Hg na nb)(l:V.Le V'):Lz V' v b1 Hd Hf b2 He Hg na nb:=by
 obtain ⟨p,n,c,p',n',c',q,m,e,q',m',e',rfl,h1,h2⟩:=h
 exact ⟨_,_,_,_,_,_,_,_,_,_,_,_,rfl,h1.le l,h2.le l⟩
def K5 (b1:Bool)(Hd Hf:List Nat)(b2:Bool)(He Hg:List Nat)(na nb:Bool):Sp:=⟨H5 b1 Hd Hf na,H5 b2 He Hg nb,na,nb⟩
def okW (b1:Bool)(Hd Hf:List Nat)(b2:Bool)(He Hg:List Nat)(na nb:Bool):Bool:=Ee b1 Hd Hf na&&Ee b2 He Hg nb&&!(K5 b1 Hd Hf b2 He Hg na nb).emp
def PK (l:L3)(s:Sp):Prop:=fV l=true/\s.can/\s.emp=false
theorem RE.raw {V:View}{v:Value}{q:Rat}{no:Bool}(h:RE V v q no)(hc:no=true->q=0):∃b xs ys,FQ V v b xs ys/\Ee b xs ys no=true/\H5 b xs ys no=q/\(∀k,Sz k q->xs.length<=k/\ys.length<=k):=by
 cases no with
 | true=>
  exact ⟨false,[],[],h.1 rfl,rfl,by rw [hc rfl];rfl,fun k _=>⟨Nat.zero_le _,Nat.zero_le _⟩⟩
 | false=>
  obtain ⟨p,n,c,p',n',c',rfl,h1,h2⟩:=h.2 rfl
  exact ⟨_,_,_,⟨_,_,_,_,_,_,rfl,h1,h2⟩,Ci.1,Ci.2,fun k hk=>⟨ag hk.1,ag hk.2⟩⟩
theorem sU.Qs {V:View}{r:Value}{l:L3}(h:RL V r ((l.1:Rat)).num ((l.2.1:Rat)).num ((l.2.2:Rat)).num):RL V r l.1 l.2.1 l.2.2:=by
 simpa [Rat.num_intCast] using h
def A2 (x y:Rat):Rat:=if 0<fk y x then y else x
def A5 (x y:Rat):Rat:=if fk y x<0 then y else x
theorem wi (x y:Rat):(x<y/\fk x y=-1)\/(x=y/\fk x y=0)\/(y<x/\fk x y=1):=by
 by_cases h1:x<y
 ·exact .inl ⟨h1,B3.1 h1⟩
 ·by_cases h2:x=y
  ·exact .inr (.inl ⟨h2,mE.1 h2⟩)
  ·have h3:y<x:=by grind
   exact .inr (.inr ⟨h3,B2.1 h3⟩)
theorem Sp.mI {s:Sp}:s.emp=false↔(s.a=true\/s.b=true\/s.lo<s.hi):=by
 unfold Sp.emp
 rcases wi s.lo s.hi with ⟨h,e⟩|⟨h,e⟩|⟨h,e⟩<;>rw [e]<;>cases s.a<;>cases s.b<;>simp<;>grind
def Sp.meet (v w:Sp):Sp:=⟨if v.a then w.lo else if w.a then v.lo else A2 v.lo w.lo,if v.b then w.hi else if w.b then v.hi else A5 v.hi w.hi,if v.a then w.a else false,if v.b then w.b else false⟩
theorem Sp.yQ {v w:Sp}(h1:v.can)(h2:w.can):(v.meet w).can:=by
 unfold Sp.meet
 constructor<;>dsimp only
 ·cases hv:v.a with
  | false=>intro h;cases h
  | true=>exact fun h=>h2.1 h
 ·cases hv:v.b with
  | false=>intro h;cases h
  | true=>exact fun h=>h2.2 h
def Sp.dj (s:Sp):Rat:=if s.a then (if s.b then 0 else s.hi-((1:Int):Rat)) else if s.b then s.lo+((1:Int):Rat) else (s.lo+s.hi)*((2:Int):Rat)⁻¹
theorem Sp.Cq {s:Sp}(h:s.emp=false):(s.a=false->s.lo<s.dj)/\(s.b=false->s.dj<s.hi):=by
 rw [Sp.mI] at h
 unfold Sp.dj
 cases ha:s.a<;>cases hb:s.b<;>simp [ha,hb] at h⊢<;> grind
def jv (m l:L3):Rat:=((m.1:Rat)*(l.2.1:Rat))+((m.2.1:Rat)*(-(l.1:Rat)))
def jZ (m l:L3):Rat:=az m (jV l 0) (jW l 0)
theorem wX (m l:L3)(t:Rat):az m (jV l t) (jW l t)=jZ m l+jv m l*t:=by
 unfold jZ az jv jV jW;grind
def fF (m l:L3):Rat:=-(jZ m l*(jv m l)⁻¹)
def eL (l:L3)(s:Sp)(m:L3):Sp:=
 if (jv m l).num.sign==0 then s else if (jv m l).num.sign==1 then s.meet ⟨fF m l,0,false,true⟩ else s.meet ⟨0,fF m l,true,false⟩
def eK (l:L3)(s:Sp)(m:L3):Bool:=
 if (jv m l).num.sign==0 then decide ((jZ m l).num.sign>0) else !(eL l s m).emp
theorem qh (q:Rat):(q=0/\q.num.sign=0)\/(0<q/\q.num.sign=1)\/(q<0/\q.num.sign=-1):=by
 have h1:=@yV q
 have h2:=@yW q
 have h3:=@Rat.num_eq_zero q
 rcases Int.lt_trichotomy q.num 0 with h|h|h
 ·exact .inr (.inr ⟨h1.1 h,Int.sign_eq_neg_one_of_neg h⟩)
 ·exact .inl ⟨h3.1 h,by rw [h];rfl⟩
 ·exact .inr (.inl ⟨h2.1 h,Int.sign_eq_one_of_pos h⟩)
theorem Ea {l:L3}{s:Sp}{m:L3}(he:s.emp=false)(hb:eK l s m=true):(eL l s m).emp=false:=by
 unfold eK at hb
 split at hb
 ·rename_i h
  unfold eL
  rw [if_pos h];exact he
 ·simpa using hb
theorem Eb {l:L3}{s:Sp}{m:L3}(hc:s.can):(eL l s m).can:=by
 unfold eL
 split
 ·exact hc
 ·split
  ·exact Sp.yQ hc ⟨(fun h=>nomatch h),fun _=>rfl⟩
  ·exact Sp.yQ hc ⟨fun _=>rfl,(fun h=>nomatch h)⟩
theorem val_rev (m:L3)(x y:Rat):az (jI m) x y=-az m x y:=by
 unfold az jI;simp only [Rat.intCast_neg];grind
def eJ (l m:L3):Rat:=((l.1:Rat)*(m.2.1:Rat))-((l.2.1:Rat)*(m.1:Rat))
def Iz (l m:L3):Rat:=(((l.2.1:Rat)*(m.2.2:Rat))-((l.2.2:Rat)*(m.2.1:Rat)))*(eJ l m)⁻¹
def IA (l m:L3):Rat:=(((l.2.2:Rat)*(m.1:Rat))-((l.1:Rat)*(m.2.2:Rat)))*(eJ l m)⁻¹
theorem kU.af {k:Nat}{l:L3}(h:kU k l)(hk:k<=1099511627776):(af l.1.natAbs).length<=1099511627776/\(af l.2.1.natAbs).length<=1099511627776/\(af l.2.2.natAbs).length<=1099511627776:=by
 have d1:=ag (show l.1.natAbs<2^k from h.1.1)
 have d2:=ag (show l.2.1.natAbs<2^k from h.2.1.1)
 have d3:=ag (show l.2.2.natAbs<2^k from h.2.2.1)
 exact ⟨by omega,by omega,by omega⟩
def Lv (V:View)(ad:Addr)(l:L3)(s:Sp):Prop:=∃xs:List Value,I8 V (.agg xs.toArray) l s/\∀i x,xs[i]?=some x->V.at (ad.add i) x
theorem Lv.le {V V':View}{ad:Addr}{l:L3}{s:Sp}(h:Lv V ad l s)(e:V.Le V'):Lv V' ad l s:=by
 obtain ⟨xs,h1,h2⟩:=h;exact ⟨xs,h1.le e,fun i x hx=>e.at (h2 i x hx)⟩
structure HO (V:View) (p:OA) (n:Nat) (fs:List (L3×Sp)):Prop where
 len:n=fs.length
 at_:∀(i:Nat)(h:i<fs.length),∃ad,aj p (i*14)=some ad/\Lv V ad fs[i].1 fs[i].2
theorem HO.le {V V':View}{p:OA}{n:Nat}{fs:List (L3×Sp)}(h:HO V p n fs)(e:V.Le V'):HO V' p n fs:=⟨h.len,fun i hi=>by obtain ⟨ad,h1,h2⟩:=h.at_ i hi;exact ⟨ad,h1,h2.le e⟩⟩
theorem ki {p:OA}{j:Nat}{ad:Addr}(h:aj p j=some ad):p.isSome=true:=by
 cases p with
 | none=>cases h
 | some a=>rfl
def LB (V:View)(ad:Addr)(s:Sp):Prop:=∃xs:List Value,Jn V (.agg xs.toArray) s/\∀i x,xs[i]?=some x->V.at (ad.add i) x
theorem LB.le {V V':View}{ad:Addr}{s:Sp}(h:LB V ad s)(e:V.Le V'):LB V' ad s:=by
 obtain ⟨xs,h1,h2⟩:=h;exact ⟨xs,h1.le e,fun i x hx=>e.at (h2 i x hx)⟩
structure Mc (V:View) (p:OA) (n:Nat) (ss:List Sp):Prop where
 len:n=ss.length
 at_:∀(i:Nat)(h:i<ss.length),∃ad,aj p (i*8)=some ad/\LB V ad ss[i]
theorem Mc.le {V V':View}{p:OA}{n:Nat}{ss:List Sp}(h:Mc V p n ss)(e:V.Le V'):Mc V' p n ss:=⟨h.len,fun i hi=>by obtain ⟨ad,h1,h2⟩:=h.at_ i hi;exact ⟨ad,h1,h2.le e⟩⟩
def Sp.la (s:Sp)(t:Rat):Int:=if s.a then 1 else fk t s.lo
def Sp.lb (s:Sp)(t:Rat):Int:=if s.b then -1 else fk t s.hi
theorem FG {px py qx qy:Rat}:((lh px py qx qy).1.num / (fH (lh px py qx qy).1.num (lh px py qx qy).2.1.num (lh px py qx qy).2.2.num:Int),(lh px py qx qy).2.1.num / (fH (lh px py qx qy).1.num (lh px py qx qy).2.1.num (lh px py qx qy).2.2.num:Int),(lh px py qx qy).2.2.num / (fH (lh px py qx qy).1.num (lh px py qx qy).2.1.num (lh px py qx qy).2.2.num:Int))=zB px py qx qy:=by
 unfold lh zB Ku Ks
 have e:∀x:Rat,(-x).den=x.den:=fun x=>rfl
 rw [e (-(qy-py)*px+(qx-px)*py)]
 rfl
theorem FH {px py qx qy:Rat}:((lh px py qx qy).1.num=0/\(lh px py qx qy).2.1.num=0)↔(px=qx/\py=qy):=by
 unfold lh
 dsimp only
 generalize hf:(-(qy-py)).den*(qx-px).den*(-(-(qy-py)*px+(qx-px)*py)).den=f
 have hf0:f≠0:=by rw [←hf];exact Nat.mul_ne_zero (Nat.mul_ne_zero (Rat.den_nz _) (Rat.den_nz _)) (Rat.den_nz _)
 have hf1:((f:Int):Rat)≠0:=by exact_mod_cast hf0
 rw [Rat.num_eq_zero,Rat.num_eq_zero,Rat.mul_eq_zero,Rat.mul_eq_zero,or_iff_left hf1,or_iff_left hf1]
 exact Ha.symm
theorem vx {V:View}{u w:Value}{px py qx qy:Rat}(hp:RP V u px py)(hq:RP V w qx qy){k:Nat}(s1:Sz k px)(s2:Sz k py)(s3:Sz k qx)(s4:Sz k qy)(hk1:1<=k)(hk:64*k+64<274877906944) :
  ab prog 11 #[u,w] V fun r V'=>(px=qx/\py=qy->∃l,r=.tuple #[l,.bool false]/\RL V' l 0 0 0)/\(¬(px=qx/\py=qy)->∃l,r=.tuple #[l,.bool true]/\RL V' l (zB px py qx qy).1 (zB px py qx qy).2.1 (zB px py qx qy).2.2):=by
 refine (pB hp hq s1 s2 s3 s4 hk1 hk).mono ?_
 rintro r V2 l2 ⟨m1,m2⟩
 have e:=FG (px:=px) (py:=py) (qx:=qx) (qy:=qy)
 rw [FH] at m1 m2
 refine ⟨m1,fun h=>?_⟩
 obtain ⟨l,hl,g⟩:=m2 h
 rw [←e]
 exact ⟨l,hl,g⟩
theorem PL.ex {V:View}{v:Value}{l:L3}{s:Sp}(h:HP V v l s):∃(x1 x2:Int)(p:OA)(y1 y2:Int)(q:OA)(z1 z2:Int)(r:OA)(u1 u2:Int)(t:OA)(w1 w2:Int)(o:OA),
 v=.agg #[.int .i64 x1,.int .i64 x2,.pointer p,.int .i64 y1,.int .i64 y2,.pointer q,.int .i64 z1,.int .i64 z2,.pointer r,.int .i64 u1,.int .i64 u2,.pointer t,.int .i64 w1,.int .i64 w2,.pointer o,.bool s.a,.bool s.b]:=by
 obtain ⟨_,_,_,_,_,_,_,_,_,_,_,_,_,_,_,e,-⟩:=h;exact ⟨_,_,_,_,_,_,_,_,_,_,_,_,_,_,_,e⟩
theorem Ax {V:View}{v w:Value}{x y:Rat}(hx:RR V v x)(hy:RR V w y){k:Nat}(sx:Sz k x)(sy:Sz k y)(hk:2*k<1099511627776) :
  ab prog 222 #[v,w] V fun r V'=>RR V' r (A2 x y):=by
 have hx0:=hx
 have hy0:=hy
 obtain ⟨a,b,c,rfl⟩:=hx.shape
 obtain ⟨d,e,f,rfl⟩:=hy.shape
 refine zI a b c d e f V _ fun V1 l1=>(jh (hy0.le l1) (hx0.le l1) sy sx (by omega)).mono ?_
 rintro r V2 l2 rfl
 unfold A2
 exact ⟨_,rfl,fun h V3 l3=>by rw [if_pos (of_decide_eq_true h)];exact hy0.le (l1.trans (l2.trans l3)),fun h V4 l4=>by rw [if_neg (of_decide_eq_false h)];exact hx0.le (l1.trans (l2.trans l4))⟩
theorem Ay {V:View}{v w:Value}{x y:Rat}(hx:RR V v x)(hy:RR V w y){k:Nat}(sx:Sz k x)(sy:Sz k y)(hk:2*k<1099511627776) :
  ab prog 145 #[v,w] V fun r V'=>RR V' r (A5 x y):=by
 have hx0:=hx
 have hy0:=hy
 obtain ⟨a,b,c,rfl⟩:=hx.shape
 obtain ⟨d,e,f,rfl⟩:=hy.shape
 refine zJ a b c d e f V _ fun V1 l1=>(jh (hy0.le l1) (hx0.le l1) sy sx (by omega)).mono ?_
 rintro r V2 l2 rfl
 unfold A5
 exact ⟨_,rfl,fun h V3 l3=>by rw [if_pos (of_decide_eq_true h)];exact hy0.le (l1.trans (l2.trans l3)),fun h V4 l4=>by rw [if_neg (of_decide_eq_false h)];exact hx0.le (l1.trans (l2.trans l4))⟩
theorem Sp.wE {v w:Sp}{k:Nat}(h1:v.sz k)(h2:w.sz k):(v.meet w).sz k:=by
 unfold Sp.meet Sp.sz A2 A5
 constructor<;>dsimp only
 ·split
  ·exact h2.1
  ·split
   ·exact h1.1
   ·split
    ·exact h2.1
    ·exact h1.1
 ·split
  ·exact h2.2
  ·split
   ·exact h1.2
   ·split
    ·exact h2.2
    ·exact h1.2
theorem uG {V:View}{v w:Value}{s t:Sp}(h:BQ V v s)(h':BQ V w t){k:Nat}(hs:s.sz k)(ht:t.sz k)(hk:2*k<1099511627776) :
  ab prog 195 #[v,w] V fun r V'=>∃u,r=.tuple #[u,.bool (!(s.meet t).emp)]/\BQ V' u (s.meet t):=by
 obtain ⟨x1,x2,p,y1,y2,q,rfl,h1,h2⟩:=h
 obtain ⟨u1,u2,o,w1,w2,j,rfl,g1,g2⟩:=h'
 have Nf:s.a=true->(s.meet t).lo=t.lo/\(s.meet t).a=t.a:=fun e=>by simp [Sp.meet,e]
 have lo2:s.a=false->t.a=false->(s.meet t).lo=A2 s.lo t.lo:=fun e e'=>by simp [Sp.meet,e,e']
 have lo3:s.a=false->t.a=true->(s.meet t).lo=s.lo:=fun e e'=>by simp [Sp.meet,e,e']
 have Pt:s.a=false->(s.meet t).a=s.a:=fun e=>by simp [Sp.meet,e]
 have hi1:s.b=true->(s.meet t).hi=t.hi/\(s.meet t).b=t.b:=fun e=>by simp [Sp.meet,e]
 have hi2:s.b=false->t.b=false->(s.meet t).hi=A5 s.hi t.hi:=fun e e'=>by simp [Sp.meet,e,e']
 have hi3:s.b=false->t.b=true->(s.meet t).hi=s.hi:=fun e e'=>by simp [Sp.meet,e,e']
 have hi4:s.b=false->(s.meet t).b=s.b:=fun e=>by simp [Sp.meet,e]
 refine sw x1 x2 p y1 y2 q s.a s.b u1 u2 o w1 w2 j t.a t.b V _ ⟨fun z V1=>RR V1 (.agg #[.int .i64 z.1,.int .i64 z.2.1,.pointer z.2.2.1]) (s.meet t).lo/\RR V1 (.agg #[.int .i64 z.2.2.2.1,.int .i64 z.2.2.2.2.1,.pointer z.2.2.2.2.2.1]) s.hi/\z.2.2.2.2.2.2.1=(s.meet t).a/\z.2.2.2.2.2.2.2=s.b,⟨fun ha=>?_,fun ha=>⟨fun hb V1 l1=>(Ax (h1.le l1) (g1.le l1) hs.1 ht.1 hk).mono ?_,fun hb=>?_⟩⟩,?_⟩
 ·refine ⟨(u1,u2,o,y1,y2,q,t.a,s.b),by and_intros<;>rfl,?_,h2,(Nf ha).2.symm,rfl⟩
  rw [(Nf ha).1];exact g1
 ·rintro r V2 l2 g
  rw [Bool.not_eq_true'] at hb
  have g0:=g
  obtain ⟨a1,a2,a3,rfl⟩:=g.shape
  refine ⟨_,_,_,rfl,(a1,a2,a3,y1,y2,q,s.a,s.b),by and_intros<;>rfl,?_,h2.le (l1.trans l2),(Pt ha).symm,rfl⟩
  rw [lo2 ha hb];exact g0
 ·rw [Bool.not_eq_false'] at hb
  refine ⟨(x1,x2,p,y1,y2,q,s.a,s.b),by and_intros<;>rfl,?_,h2,(Pt ha).symm,rfl⟩
  rw [lo3 ha hb];exact h1
 ·rintro ⟨z1,z2,z3,z4,z5,z6,z7,z8⟩ V3 l3 ⟨k1,k2,k3,k4⟩
  dsimp only at k1 k2 k3 k4
  subst k3 k4
  refine ⟨rfl,fun z V1=>RR V1 (.agg #[.int .i64 z.1,.int .i64 z.2.1,.pointer z.2.2.1]) (s.meet t).lo/\RR V1 (.agg #[.int .i64 z.2.2.2.1,.int .i64 z.2.2.2.2.1,.pointer z.2.2.2.2.2.1]) (s.meet t).hi/\z.2.2.2.2.2.2.1=(s.meet t).a/\z.2.2.2.2.2.2.2=(s.meet t).b,⟨fun ha=>?_,fun ha=>⟨fun hb V4 l4=>(Ay (h2.le (l3.trans l4)) (g2.le (l3.trans l4)) hs.2 ht.2 hk).mono ?_,fun hb=>?_⟩⟩,?_⟩
  ·refine ⟨(z1,z2,z3,w1,w2,j,(s.meet t).a,t.b),by and_intros<;>rfl,k1,?_,rfl,(hi1 ha).2.symm⟩
   rw [(hi1 ha).1];exact g2.le l3
  ·rintro r V5 l5 g
   rw [Bool.not_eq_true'] at hb
   have g0:=g
   obtain ⟨a1,a2,a3,rfl⟩:=g.shape
   refine ⟨_,_,_,rfl,(z1,z2,z3,a1,a2,a3,(s.meet t).a,s.b),by and_intros<;>rfl,k1.le (l4.trans l5),?_,rfl,(hi4 ha).symm⟩
   rw [hi2 ha hb];exact g0
  ·rw [Bool.not_eq_false'] at hb
   refine ⟨(z1,z2,z3,z4,z5,z6,(s.meet t).a,s.b),by and_intros<;>rfl,k1,?_,rfl,(hi4 ha).symm⟩
   rw [hi3 ha hb];exact k2
  ·rintro ⟨y1,y2,y3,y4,y5,y6,y7,y8⟩ V6 l6 ⟨j1,j2,j3,j4⟩
   dsimp only at j1 j2 j3 j4
   subst j3 j4
   refine ⟨rfl,fun V7 l7=>(Aw ⟨_,_,_,_,_,_,rfl,j1.le l7,j2.le l7⟩ (Sp.wE hs ht) hk).mono ?_⟩
   rintro r V8 l8 rfl
   exact ⟨_,rfl,fun V9 l9=>⟨_,rfl,_,_,_,_,_,_,rfl,j1.le (l7.trans (l8.trans l9)),j2.le (l7.trans (l8.trans l9))⟩⟩
theorem kT {L M:L3}{k:Nat}(sl:kU k L)(sm:kU k M):Sz (4*k+3) (jv M L):=cE sm.1 sm.2.1 sl.2.1 sl.1.neg
theorem DY {L M:L3}:(((M.1:Rat)*((L.1:Rat)*(((-(L.2.2:Rat))*(((L.1:Rat)*(L.1:Rat))+((L.2.1:Rat)*(L.2.1:Rat)))⁻¹))))+((M.2.1:Rat)*((L.2.1:Rat)*(((-(L.2.2:Rat))*(((L.1:Rat)*(L.1:Rat))+((L.2.1:Rat)*(L.2.1:Rat)))⁻¹)))))+(M.2.2:Rat)=jZ M L:=by
 unfold jZ az jV jW ic;grind
theorem kS {L M:L3}{k:Nat}(sl:kU k L)(sm:kU k M):Sz (50*k+49) (jZ M L):=by
 rw [←DY]
 exact Sz.mono (jd (k:=10*k+9) (sm.1.mono (by omega)) (sm.2.1.mono (by omega)) (sm.2.2.mono (by omega)) (cN sl.1 sl.2.1 sl.2.2) (cO sl.1 sl.2.1 sl.2.2)) (by omega)
theorem wV {L M:L3}{k:Nat}(sl:kU k L)(sm:kU k M):Sz (60*k+60) (fF M L):=Sz.mono ((kS sl sm).mul (fK (kT sl sm))).neg (by omega)
theorem I2 (k:Nat)(hk:0<k):Sz k (0:Rat):=⟨by show (0:Int).natAbs<_;exact Nat.lt_of_lt_of_le (by decide) (Nat.one_le_two_pow),Nat.one_lt_two_pow (by omega)⟩
theorem xT {V:View}{l v m:Value}{L:L3}{s:Sp}{M:L3}(hl:sU V l L)(hv:BQ V v s)(hm:sU V m M){k:Nat}(sl:kU k L)(hs:s.sz k)(sm:kU k M)(hk:200*k+200<274877906944) :
  ab prog 160 #[l,v,m] V fun r V'=>∃w,r=.tuple #[w,.bool (eK L s M)]/\BQ V' w (eL L s M):=by
 have hl0:=hl
 have hv0:=hv
 have hm0:=hm
 obtain ⟨_,_,_,_,_,_,_,_,_,rfl,-,-,-⟩:=hl
 obtain ⟨_,_,_,_,_,_,rfl,-,-⟩:=hv
 obtain ⟨_,_,_,_,_,_,_,_,_,rfl,-,-,-⟩:=hm
 have hs':s.sz (60*k+60):=⟨hs.1.mono (by omega),hs.2.mono (by omega)⟩
 have z:=I2 (60*k+60) (by omega)
 refine tY _ _ _ _ _ _ _ _ _ _ _ _ _ _ _ _ _ _ _ _ _ _ _ _ _ _ V _ fun V1 l1=>(cK (hm0.le l1) sm.1 sm.2.1 sm.2.2 (by omega)).mono ?_
 rintro r V2 l2 g1
 have g10:=g1
 obtain ⟨_,_,_,_,_,_,rfl,-,-⟩:=g1
 refine ⟨_,_,_,_,_,_,rfl,fun V3 l3=>(jk (hl0.le (l1.trans (l2.trans l3))) sl.1 sl.2.1 sl.2.2 (by omega)).mono ?_⟩
 rintro r V4 l4 g2
 have g20:=g2
 obtain ⟨_,_,_,_,_,_,rfl,-,-⟩:=g2
 refine ⟨_,_,_,_,_,_,rfl,fun V5 l5=>(jl (g10.le (l3.trans (l4.trans l5))) (g20.le l5) sm.1 sm.2.1 sl.2.1 sl.1.neg (by omega)).mono ?_⟩
 rintro r V6 l6 g3
 have mK:RR V6 r (jv M L):=g3
 obtain ⟨_,_,_,rfl⟩:=g3.shape
 have L6:V.Le V6:=l1.trans (l2.trans (l3.trans (l4.trans (l5.trans l6))))
 refine ⟨_,_,_,rfl,fun V7 l7=>(lq (hl0.le (L6.trans l7)) sl.1 sl.2.1 sl.2.2 (by omega)).mono ?_⟩
 rintro r V8 l8 g4
 have Gk:=g4
 obtain ⟨_,_,_,_,_,_,rfl,-,-⟩:=g4
 refine ⟨_,_,_,_,_,_,rfl,fun V9 l9=>(j9 (k:=10*k+9) (hm0.le (L6.trans (l7.trans (l8.trans l9)))) (Gk.le l9) (sm.1.mono (by omega)) (sm.2.1.mono (by omega)) (sm.2.2.mono (by omega)) (cN sl.1 sl.2.1 sl.2.2) (cO sl.1 sl.2.1 sl.2.2) (by omega)).mono ?_⟩
 rintro r kV l10 g5
 rw [DY] at g5
 have Jc:=g5
 obtain ⟨_,_,_,rfl⟩:=g5.shape
 have ur:V6.Le kV:=l7.trans (l8.trans (l9.trans l10))
 refine ⟨_,_,_,rfl,fun lH bS=>(dK (mK.le (ur.trans bS)) (kT sl sm) (by omega)).mono ?_⟩
 rintro r pw cU rfl
 have DO:kV.Le pw:=bS.trans cU
 refine ⟨_,rfl,fun hz vL dW=>(dK (Jc.le (DO.trans dW)) (kS sl sm) (by omega)).mono ?_,fun hz=>⟨fun h1 mq dS=>(my (Jc.le (DO.trans dS)) (mK.le (ur.trans (DO.trans dS))) (kS sl sm) (kT sl sm) (by omega)).mono ?_,fun h1 Aq jX=>(my (Jc.le (DO.trans jX)) (mK.le (ur.trans (DO.trans jX))) (kS sl sm) (kT sl sm) (by omega)).mono ?_⟩⟩
 ·rintro r oF eX rfl
  have eB:eK L s M=decide ((jZ M L).num.sign>0):=by unfold eK;rw [if_pos hz]
  have eS:eL L s M=s:=by unfold eL;rw [if_pos hz]
  rw [eB,eS]
  exact ⟨_,rfl,fun oG fl=>⟨_,rfl,hv0.le (L6.trans (ur.trans (DO.trans (dW.trans (eX.trans fl)))))⟩⟩
 ·have eS:eL L s M=s.meet ⟨fF M L,0,false,true⟩:=by unfold eL;rw [if_neg (by rw [hz];exact Bool.false_ne_true),if_pos h1]
  have eB:eK L s M=!(s.meet ⟨fF M L,0,false,true⟩).emp:=by rw [←eS];unfold eK;rw [if_neg (by rw [hz];exact Bool.false_ne_true)]
  rw [eB,eS]
  rintro r oH dD g6
  have Mv:=g6
  obtain ⟨_,_,_,rfl⟩:=g6.shape
  refine ⟨_,_,_,rfl,fun sX eO=>(mw (Mv.le eO) ((kS sl sm).mul (fK (kT sl sm))) (by omega)).mono ?_⟩
  rintro r vM eW g7
  have JQ:RR vM r (fF M L):=g7
  obtain ⟨_,_,_,rfl⟩:=g7.shape
  refine ⟨_,_,_,rfl,fun Ai iw=>(uG (t:=⟨fF M L,0,false,true⟩) (hv0.le (L6.trans (ur.trans (DO.trans (dS.trans (dD.trans (eO.trans (eW.trans iw)))))))) ⟨_,_,_,_,_,_,rfl,JQ.le iw,RR.zero _⟩ hs' ⟨wV sl sm,z⟩ (by omega)).mono ?_⟩
  rintro r xC gJ ⟨w,rfl,g8⟩
  have Mw:=g8
  obtain ⟨_,_,_,_,_,_,rfl,-,-⟩:=g8
  exact ⟨_,_,_,_,_,_,_,_,_,rfl,fun xD kj=>⟨_,rfl,Mw.le kj⟩⟩
 ·have eS:eL L s M=s.meet ⟨0,fF M L,true,false⟩:=by unfold eL;rw [if_neg (by rw [hz];exact Bool.false_ne_true),if_neg (by rw [h1];exact Bool.false_ne_true)]
  have eB:eK L s M=!(s.meet ⟨0,fF M L,true,false⟩).emp:=by rw [←eS];unfold eK;rw [if_neg (by rw [hz];exact Bool.false_ne_true)]
  rw [eB,eS]
  rintro r oH dD g6
  have Mv:=g6
  obtain ⟨_,_,_,rfl⟩:=g6.shape
  refine ⟨_,_,_,rfl,fun sX eO=>(mw (Mv.le eO) ((kS sl sm).mul (fK (kT sl sm))) (by omega)).mono ?_⟩
  rintro r vM eW g7
  have JQ:RR vM r (fF M L):=g7
  obtain ⟨_,_,_,rfl⟩:=g7.shape
  refine ⟨_,_,_,rfl,fun Ai iw=>(uG (t:=⟨0,fF M L,true,false⟩) (hv0.le (L6.trans (ur.trans (DO.trans (jX.trans (dD.trans (eO.trans (eW.trans iw)))))))) ⟨_,_,_,_,_,_,rfl,RR.zero _,JQ.le iw⟩ hs' ⟨z,wV sl sm⟩ (by omega)).mono ?_⟩
  rintro r xC gJ ⟨w,rfl,g8⟩
  have Mw:=g8
  obtain ⟨_,_,_,_,_,_,rfl,-,-⟩:=g8
  exact ⟨_,_,_,_,_,_,_,_,_,rfl,fun xD kj=>⟨_,rfl,Mw.le kj⟩⟩
structure An (V:View) (p:OA) (n:Nat) (fs:List (L3×Sp)):Prop where
 len:n=fs.length
 at_:∀(i:Nat)(h:i<fs.length),∃ad,aj p (i*17)=some ad/\∃xs:List Value,HP V (.agg xs.toArray) fs[i].1 fs[i].2/\∀j x,xs[j]?=some x->V.at (ad.add j) x
theorem An.le {V V':View}{p:OA}{n:Nat}{fs:List (L3×Sp)}(h:An V p n fs)(e:V.Le V'):An V' p n fs:=⟨h.len,fun i hi=>by obtain ⟨ad,h1,xs,h2,h3⟩:=h.at_ i hi;exact ⟨ad,h1,xs,h2.le e,fun j x hx=>e.at (h3 j x hx)⟩⟩
theorem An.nil {V:View}:An V none 0 []:=⟨rfl,fun i hi=>by simp at hi⟩
theorem An.one {V:View}{bk:Nat}{xs:List Value}{ty:TypeId}{l:L3}{s:Sp}(hb:V.bm bk (.cells xs.toArray ty (0,0)))(hf:HP V (.agg xs.toArray) l s):An V (some ⟨bk,0,none⟩) 1 [(l,s)]:=by
 refine ⟨rfl,fun i hi=>?_⟩
 obtain rfl:i=0:=by simpa using hi
 refine ⟨⟨bk,0,none⟩,by simp [aj,add_zero'],_,hf,fun j x hx=>?_⟩
 rw [add_zero']
 exact fe hb hx
theorem Gd {L M:L3}:((L.1:Rat)=(M.1:Rat)/\(L.2.1:Rat)=(M.2.1:Rat)/\(L.2.2:Rat)=(M.2.2:Rat))↔L=M:=by
 constructor
 ·rintro ⟨h1,h2,h3⟩
  exact Prod.ext (Rat.intCast_inj.1 h1) (Prod.ext (Rat.intCast_inj.1 h2) (Rat.intCast_inj.1 h3))
 ·rintro rfl
  exact ⟨rfl,rfl,rfl⟩
theorem Gx {V:View}{v w:Value}{L M:L3}(hl:sU V v L)(hm:sU V w M){k:Nat}(sl:kU k L)(sm:kU k M)(hk:k+k<1099511627776) :
  ab prog 134 #[v,w] V fun r V'=>r=.bool (decide (L=M)):=by
 refine (xW hl hm sl.1 sl.2.1 sl.2.2 sm.1 sm.2.1 sm.2.2 hk).mono ?_
 rintro r V' l rfl
 rw [decide_eq_decide.2 Gd]
def Mb (u:Value):Prop:=∃(x1 x2:Int)(p:OA)(y1 y2:Int)(q:OA),u=.agg #[.int .i64 x1,.int .i64 x2,.pointer p,.int .i64 y1,.int .i64 y2,.pointer q]
theorem ni {L M:L3}{k:Nat}(sl:kU k L)(sm:kU k M):Sz (4*k+3) (eJ L M):=je sl.1 sl.2.1 sm.1 sm.2.1
theorem K6 {L M:L3}{k:Nat}(sl:kU k L)(sm:kU k M):Sz (10*k+10) (Iz L M)/\Sz (10*k+10) (IA L M):=
 ⟨Sz.mono (((sl.2.1.mul sm.2.2).sub (sl.2.2.mul sm.2.1)).mul (fK (ni sl sm))) (by omega),Sz.mono (((sl.2.2.mul sm.1).sub (sl.1.mul sm.2.2)).mul (fK (ni sl sm))) (by omega)⟩
theorem CJ {V:View}{l m:Value}{L M:L3}(hl:sU V l L)(hm:sU V m M){k:Nat}(sl:kU k L)(sm:kU k M)(hk:20*k+20<274877906944) :
  ab prog 138 #[l,m] V fun r V'=>∃w,r=.tuple #[w,.bool (decide (eJ L M≠0))]/\Mb w/\(eJ L M≠0->nE V' w (Iz L M) (IA L M)):=by
 have hl0:=hl
 have hm0:=hm
 obtain ⟨_,_,_,_,_,_,_,_,_,rfl,a1,a2,a3⟩:=hl
 obtain ⟨_,_,_,_,_,_,_,_,_,rfl,b1,b2,b3⟩:=hm
 have sd:=ni sl sm
 refine sD _ _ _ _ _ _ _ _ _ _ _ _ _ _ _ _ _ _ V _ fun V1 l1=>(cK (hl0.le l1) sl.1 sl.2.1 sl.2.2 (by omega)).mono ?_
 rintro r V2 l2 g1
 have g10:=g1
 obtain ⟨_,_,_,_,_,_,rfl,-,-⟩:=g1
 refine ⟨_,_,_,_,_,_,rfl,fun V3 l3=>(cK (hm0.le (l1.trans (l2.trans l3))) sm.1 sm.2.1 sm.2.2 (by omega)).mono ?_⟩
 rintro r V4 l4 g2
 have g20:=g2
 obtain ⟨_,_,_,_,_,_,rfl,-,-⟩:=g2
 refine ⟨_,_,_,_,_,_,rfl,fun V5 l5=>(eH (g10.le (l3.trans (l4.trans l5))) (g20.le l5) sl.1 sl.2.1 sm.1 sm.2.1 (by omega)).mono ?_⟩
 rintro r V6 l6 g3
 have mK:RR V6 r (eJ L M):=g3
 obtain ⟨_,_,_,rfl⟩:=g3.shape
 have L6:V.Le V6:=l1.trans (l2.trans (l3.trans (l4.trans (l5.trans l6))))
 refine ⟨_,_,_,rfl,fun V7 l7=>(qz (mK.le l7)).mono ?_⟩
 rintro r V8 l8 rfl
 have L8:=l7.trans l8
 refine ⟨_,rfl,fun h V9 l9=>?_,fun h kV l10=>(dP (a2.le (L6.trans (L8.trans l10))) (b3.le (L6.trans (L8.trans l10))) sl.2.1 sm.2.2 (by omega)).mono ?_⟩
 ·have h:=of_decide_eq_true h
  have e:decide (eJ L M≠0)=false:=by simp [h]
  rw [e]
  exact ⟨_,rfl,⟨_,_,_,_,_,_,rfl⟩,fun h'=>absurd h h'⟩
 ·have h:=of_decide_eq_false h
  have e:decide (eJ L M≠0)=true:=by simp [h]
  rw [e]
  have L_:=L6.trans (L8.trans l10)
  rintro r lH bS q1
  have IJ:=q1
  obtain ⟨_,_,_,rfl⟩:=q1.shape
  refine ⟨_,_,_,rfl,fun pw cU=>(dP (a3.le (L_.trans (bS.trans cU))) (b2.le (L_.trans (bS.trans cU))) sl.2.2 sm.2.1 (by omega)).mono ?_⟩
  rintro r vL dW q2
  have RM:=q2
  obtain ⟨_,_,_,rfl⟩:=q2.shape
  refine ⟨_,_,_,rfl,fun oF eX=>(mz (IJ.le (cU.trans (dW.trans eX))) (RM.le eX) (sl.2.1.mul sm.2.2) (sl.2.2.mul sm.2.1) (by omega)).mono ?_⟩
  rintro r oG fl q3
  have RO:=q3
  obtain ⟨_,_,_,rfl⟩:=q3.shape
  have Ma:kV.Le oG:=bS.trans (cU.trans (dW.trans (eX.trans fl)))
  refine ⟨_,_,_,rfl,fun mq dS=>(my (RO.le dS) (mK.le (L8.trans (l10.trans (Ma.trans dS)))) ((sl.2.1.mul sm.2.2).sub (sl.2.2.mul sm.2.1)) sd (by omega)).mono ?_⟩
  rintro r oH dD q4
  have RT:RR oH r (Iz L M):=q4
  obtain ⟨_,_,_,rfl⟩:=q4.shape
  have HM:V.Le oH:=L_.trans (Ma.trans (dS.trans dD))
  refine ⟨_,_,_,rfl,fun sX eO=>(dP (a3.le (HM.trans eO)) (b1.le (HM.trans eO)) sl.2.2 sm.1 (by omega)).mono ?_⟩
  rintro r vM eW p1
  have KM:=p1
  obtain ⟨_,_,_,rfl⟩:=p1.shape
  refine ⟨_,_,_,rfl,fun Ai iw=>(dP (a1.le (HM.trans (eO.trans (eW.trans iw)))) (b3.le (HM.trans (eO.trans (eW.trans iw)))) sl.1 sm.2.2 (by omega)).mono ?_⟩
  rintro r xC gJ p2
  have RG:=p2
  obtain ⟨_,_,_,rfl⟩:=p2.shape
  refine ⟨_,_,_,rfl,fun xD kj=>(mz (KM.le (iw.trans (gJ.trans kj))) (RG.le kj) (sl.2.2.mul sm.1) (sl.1.mul sm.2.2) (by omega)).mono ?_⟩
  rintro r Aq jX p3
  have p30:=p3
  obtain ⟨_,_,_,rfl⟩:=p3.shape
  have Oi:oH.Le Aq:=eO.trans (eW.trans (iw.trans (gJ.trans (kj.trans jX))))
  refine ⟨_,_,_,rfl,fun Hi Cc=>(my (p30.le Cc) (mK.le (L8.trans (l10.trans (Ma.trans (dS.trans (dD.trans (Oi.trans Cc))))))) ((sl.2.2.mul sm.1).sub (sl.1.mul sm.2.2)) sd (by omega)).mono ?_⟩
  rintro r Hj tH p4
  have p40:RR Hj r (IA L M):=p4
  obtain ⟨_,_,_,rfl⟩:=p4.shape
  exact ⟨_,_,_,rfl,fun I9 Al=>⟨_,rfl,⟨_,_,_,_,_,_,rfl⟩,fun _=>⟨_,_,_,_,_,_,rfl,RT.le (Oi.trans (Cc.trans (tH.trans Al))),p40.le Al⟩⟩⟩
theorem uP {V:View}{p:OA}{n c:Nat}{ds:List Nat}(h:RD V p n c ds)(hm:ds.length<=1099511627776) :
  ab prog 105 #[.slice p n c] V fun r V'=>∃p1 n1 c1,r=.slice p1 n1 c1/\RN V' p1 n1 c1 (val ds):=by
 have hl:=h.len
 refine BN p n c V _ ⟨aA ds,h.sl,by simp [hl],by omega,by omega,by simp,by simp [hl],?_,?_⟩
 ·intro v hv
  simp only [aA,List.mem_map] at hv
  obtain ⟨d,-,rfl⟩:=hv
  rfl
 ·intro bk J sp c' h1 h2 V1 l1 b hb
  simp only [Nat.zero_add,Nat.zero_mul,List.take_zero,List.nil_append] at hb h1 ⊢
  refine (cq (copied h.dH hl h1 hb) (by omega)).mono ?_
  rintro r V2 l2 ⟨k,rfl,g⟩
  rw [aL h.dH] at g
  exact ⟨_,_,_,rfl,fun J' V3 l3=>⟨_,_,_,rfl,g.le l3⟩⟩
theorem CS {V:View}(b:Bool){p:OA}{n c:Nat}{ds:List Nat}(h:RD V p n c ds)(hm:ds.length<=1099511627776) :
  ab prog 107 #[.agg #[.bool b,.slice p n c]] V fun r V'=>RI V' r (aU b ds):=by
 refine BM b p n c V _ fun V1 l1=>(uP (h.le l1) hm).mono ?_
 rintro r V2 l2 ⟨p1,n1,c1,rfl,g⟩
 refine ⟨_,_,_,rfl,fun V3 l3=>(dV b (g.le l3)).mono ?_⟩
 rintro r V4 l4 ⟨p2,n2,c2,rfl,g2⟩
 exact ⟨_,_,_,_,rfl,fun V5 l5=>⟨_,_,_,rfl,g2.le l5⟩⟩
theorem EB {b:Bool}{ds:List Nat}(h:bA ds):(af (aU b ds).natAbs).length<=ds.length:=by
 rw [dg];exact aW h
theorem CT {V:View}{v:Value}{b:Bool}{xs ys:List Nat}(h:FQ V v b xs ys)(m1:xs.length<=274877906944)(m2:ys.length<=274877906944) :
  ab prog 43 #[v] V fun r V'=>RQ V' r (Ds b xs ys):=by
 obtain ⟨p,n,c,q,m,e,rfl,hx,hy⟩:=h
 have d1:=EB (b:=b) hx.dH
 have d2:=aW hy.dH
 refine BO b p n c q m e V _ fun V1 l1=>(uP (hy.le l1) (by omega)).mono ?_
 rintro r V2 l2 ⟨p1,n1,c1,rfl,g⟩
 have gl:=g.len
 refine ⟨_,_,_,rfl,fun h0 V3 l3=>?_,fun h0 V4 l4=>(CS b (hx.le (l1.trans (l2.trans l4))) (by omega)).mono ?_⟩
 ·have h0:((n1:Nat):Int)=0:=by simpa using h0
  have:af (val ys)=[]:=List.length_eq_zero_iff.1 (by omega)
  have:val ys=0:=bf.1 this
  unfold Ds
  rw [this,Rat.mkRat_zero]
  have:=RQ.zero (V:=V3)
  simpa using this
 ·have hd:val ys≠0:=fun e=>by
   rw [e] at gl
   have h0:¬((n1:Nat):Int)=0:=by simpa using h0
   exact h0 (by rw [gl];rfl)
  rintro r V5 l5 ⟨p2,n2,c2,rfl,g2⟩
  refine ⟨_,_,_,_,rfl,fun V6 l6=>(lJ _ (g2.le l6) (g.le (l4.trans (l5.trans l6))) (by omega) (by omega) hd).mono ?_⟩
  rintro r V7 l7 k
  have k0:=k
  obtain ⟨_,_,_,_,_,_,rfl⟩:=k.shape
  exact ⟨_,_,_,_,_,_,_,rfl,fun V8 l8=>k0.le l8⟩
def Lx (V:View)(v:Value)(b1:Bool)(xs:List Nat)(b2:Bool)(ys:List Nat)(b3:Bool)(zs:List Nat):Prop:=∃p n c q m e s i j,v=.agg #[.bool b1,.slice p n c,.bool b2,.slice q m e,.bool b3,.slice s i j]/\RD V p n c xs/\RD V q m e ys/\RD V s i j zs
theorem Lx.le {V V':View}{v:Value}{b1:Bool}{xs:List Nat}{b2:Bool}{ys:List Nat}{b3:Bool}{zs:List Nat}(h:Lx V v b1 xs b2 ys b3 zs)(l:V.Le V'):Lx V' v b1 xs b2 ys b3 zs:=by
 obtain ⟨p,n,c,q,m,e,s,i,j,rfl,h1,h2,h3⟩:=h
 exact ⟨_,_,_,_,_,_,_,_,_,rfl,h1.le l,h2.le l,h3.le l⟩
def Ps (b1:Bool)(xs:List Nat)(b2:Bool)(ys:List Nat)(b3:Bool)(zs:List Nat):L3:=(aU b1 xs,aU b2 ys,aU b3 zs)
structure FW where
 b1:Bool
 xs:List Nat
 b2:Bool
 ys:List Nat
 b3:Bool
 zs:List Nat
 c1:Bool
 us:List Nat
 vs:List Nat
 c2:Bool
 ws:List Nat
 ts:List Nat
 na:Bool
 nb:Bool
def FW.ln (f:FW):L3:=Ps f.b1 f.xs f.b2 f.ys f.b3 f.zs
def FW.sp (f:FW):Sp:=K5 f.c1 f.us f.vs f.c2 f.ws f.ts f.na f.nb
def FW.ok (f:FW):Bool:=rH f.b1 f.xs f.b2 f.ys f.b3 f.zs&&okW f.c1 f.us f.vs f.c2 f.ws f.ts f.na f.nb
structure FW.short (f:FW):Prop where
 x:f.xs.length<=1000000
 y:f.ys.length<=1000000
 z:f.zs.length<=1000000
 u:f.us.length<=1000000
 v:f.vs.length<=1000000
 w:f.ws.length<=1000000
 t:f.ts.length<=1000000
def Lw (V:View)(v:Value)(f:FW):Prop:=∃p1 n1 d1 p2 n2 d2 p3 n3 d3 p n c p' n' c' q m e q' m' e',
 v=.agg #[.bool f.b1,.slice p1 n1 d1,.bool f.b2,.slice p2 n2 d2,.bool f.b3,.slice p3 n3 d3,.bool f.c1,.slice p n c,.slice p' n' c',.bool f.c2,.slice q m e,.slice q' m' e',.bool f.na,.bool f.nb] /\
 Lx V (.agg #[.bool f.b1,.slice p1 n1 d1,.bool f.b2,.slice p2 n2 d2,.bool f.b3,.slice p3 n3 d3]) f.b1 f.xs f.b2 f.ys f.b3 f.zs /\
 Lz V (.agg #[.bool f.c1,.slice p n c,.slice p' n' c',.bool f.c2,.slice q m e,.slice q' m' e',.bool f.na,.bool f.nb]) f.c1 f.us f.vs f.c2 f.ws f.ts f.na f.nb
theorem Lw.le {V V':View}{v:Value}{f:FW}(h:Lw V v f)(l:V.Le V'):Lw V' v f:=by
 obtain ⟨p1,n1,d1,p2,n2,d2,p3,n3,d3,p,n,c,p',n',c',q,m,e,q',m',e',rfl,h1,h2⟩:=h
 exact ⟨_,_,_,_,_,_,_,_,_,_,_,_,_,_,_,_,_,_,_,_,_,rfl,h1.le l,h2.le l⟩
end Go.Proofs.Tryz
namespace Go.Proofs.Tryz
open Go.bo
set_option maxRecDepth 100000
end Go.Proofs.Tryz
namespace Go.Proofs.Tryz
open Go.bo Go.eu
def H3:L3:=(0,0,0)
def uv (V:View)(v:Value)(c:L3):Prop:=tg V v c.1 c.2.1 c.2.2/\Bd c
theorem uv.le {V V':View}{v:Value}{c:L3}(h:uv V v c)(l:V.Le V'):uv V' v c:=⟨h.1.le l,h.2⟩
theorem uv.shape {V:View}{v:Value}{c:L3}(h:uv V v c):∃(x y:Int)(p:OA)(xb yb:Int)(pb:OA)(xc yc:Int)(pc:OA),v=.agg #[.int .i64 x,.int .i64 y,.pointer p,.int .i64 xb,.int .i64 yb,.pointer pb,.int .i64 xc,.int .i64 yc,.pointer pc]:=by
 obtain ⟨⟨x1,x2,p,y1,y2,q,z1,z2,r,e,-⟩,-⟩:=h;exact ⟨_,_,_,_,_,_,_,_,_,e⟩
end Go.Proofs.Tryz
namespace Go.Proofs.Tryz
open Go.eu
section
variable {α:Type} {c:α->α->Int} {d:α}
structure PQ (c:α->α->Int) (d:α) (l0 l:List α) (a0 b0 a b:Nat):Prop where
 LQ:oE d l0 l a0 b0
 ha:a0<=a
 tG:a<=b
 hb:b<=b0
 lo:te c d l a0 a
 hi:te c d l b b0
 s1:Sep c d l a0 a b0
 s2:Sep c d l a0 b b0
 pre:0<a->∀k,a<=k->k<b->¬c (l.getD k d) (l.getD (a-1) d)<0
variable {l0 l m:List α} {a0 b0 a b mid:Nat}
theorem PQ.start {l:List α}(h:a<=b)(hp:0<a->∀k,a<=k->k<b->¬c (l.getD k d) (l.getD (a-1) d)<0):PQ c d l l a b a b:=
 ⟨.refl _ _ _,Nat.le_refl _,h,Nat.le_refl _,.short (by omega),.short (by omega),fun p q h1 h2=>by omega,fun p q h1 h2 h3 h4=>by omega,hp⟩
theorem PQ.change (h:PQ c d l0 l a0 b0 a b)(hs:oE d l m a b):PQ c d l0 m a0 b0 a b:=
 ⟨h.LQ.trans (hs.wide h.ha h.hb),h.ha,h.tG,h.hb,hs.p_ h.lo (.inl (Nat.le_refl _)),hs.p_ h.hi (.inr (Nat.le_refl _)),hs.sep h.s1 (.inr (.inl ⟨Nat.le_refl _,h.hb⟩)),hs.sep h.s2 (.inl ⟨h.ha,Nat.le_refl _⟩),fun h0 k h1 h2=>by
  obtain ⟨k',h3,h4,e⟩:=hs.mem k h1 h2
  rw [e,hs.out (a-1) (by omega)]
  exact h.pre h0 k' h3 h4⟩
theorem PQ.fin (h:PQ c d l0 l a0 b0 a b)(hs:oE d l m a b)(ha:te c d m a b):oE d l0 m a0 b0/\te c d m a0 b0:=by
 have h':=h.change hs
 refine ⟨h'.LQ,h'.lo.join (ha.join h'.hi fun p q h1 h2 h3 h4=>h'.s2 p q (by have:=h.ha;omega) h2 h3 h4) h'.s1⟩
theorem PQ.left (ho:Ord c)(h:PQ c d l0 l a0 b0 a b)(hm:a<=mid)(hm':mid<b)(h1:∀k,a<=k->k<mid->c (l.getD k d) (l.getD mid d)<0)(h2:∀k,mid<k->k<b->¬c (l.getD k d) (l.getD mid d)<0)
  (hs:oE d l m a mid)(ha:te c d m a mid):PQ c d l0 m a0 b0 (mid+1) b:=by
 have e0:=h.ha
 have e1:=h.hb
 have em:m.getD mid d=l.getD mid d:=hs.out mid (by omega)
 have below:∀k,a<=k->k<mid->¬c (m.getD mid d) (m.getD k d)<0:=fun k g1 g2=>by
  obtain ⟨k',g3,g4,e⟩:=hs.mem k g1 g2
  rw [em,e];exact ho.I_ _ _ (h1 k' g3 g4)
 have t1:=hs.sep h.s1 (.inr (.inl ⟨Nat.le_refl _,by omega⟩))
 have t2:=hs.sep h.s2 (.inl ⟨e0,by omega⟩)
 have up:∀q,mid<q->q<b->¬c (m.getD q d) (m.getD mid d)<0:=fun q g1 g2=>by rw [em,hs.out q (by omega)];exact h2 q g1 g2
 refine ⟨h.LQ.trans (hs.wide e0 (by omega)),by omega,by omega,e1,(hs.p_ h.lo (.inl (Nat.le_refl _))).join (m:=a) (fun p q g1 g2 g3=>?_) fun p q g1 g2 g3 g4=>t1 p q g1 g2 g3 (by omega),hs.p_ h.hi (.inr (by omega)),fun p q g1 g2 g3 g4=>?_,t2,fun _ k g1 g2=>up k (by omega) g2⟩
 ·by_cases e:q=mid
  ·subst e;exact below p g1 g2
  ·exact ha p q g1 g2 (by omega)
 ·by_cases hq:b<=q
  ·exact t2 p q g1 (by omega) hq g4
  ·by_cases hp:p<a
   ·exact t1 p q g1 hp (by omega) g4
   ·have u:=up q (by omega) (by omega)
    by_cases e:p=mid
    ·subst e;exact u
    ·exact ho.tr _ _ _ u (below p (by omega) (by omega))
theorem PQ.right (ho:Ord c)(h:PQ c d l0 l a0 b0 a b)(hm:a<=mid)(hm':mid<b)(h1:∀k,a<=k->k<mid->c (l.getD k d) (l.getD mid d)<0)(h2:∀k,mid<k->k<b->¬c (l.getD k d) (l.getD mid d)<0)
  (hs:oE d l m (mid+1) b)(ha:te c d m (mid+1) b):PQ c d l0 m a0 b0 a mid:=by
 have e0:=h.ha
 have e1:=h.hb
 have em:m.getD mid d=l.getD mid d:=hs.out mid (by omega)
 have up:∀q,mid<q->q<b->¬c (m.getD q d) (m.getD mid d)<0:=fun q g1 g2=>by
  obtain ⟨k',g3,g4,e⟩:=hs.mem q (by omega) g2
  rw [em,e];exact h2 k' (by omega) g4
 have below:∀k,a<=k->k<mid->¬c (m.getD mid d) (m.getD k d)<0:=fun k g1 g2=>by
  rw [em,hs.out k (by omega)];exact ho.I_ _ _ (h1 k g1 g2)
 have t1:=hs.sep h.s1 (.inr (.inl ⟨by omega,e1⟩))
 have t2:=hs.sep h.s2 (.inl ⟨by omega,Nat.le_refl _⟩)
 have t3:=hs.p_ h.hi (.inr (Nat.le_refl _))
 refine ⟨h.LQ.trans (hs.wide (by omega) e1),e0,hm,by omega,hs.p_ h.lo (.inl (by omega)),fun p q g1 g2 g3=>?_,t1,fun p q g1 g2 g3 g4=>?_,fun h0 k g1 g2=>?_⟩
 ·by_cases hq:q<b
  ·by_cases e:p=mid
   ·subst e;exact up q g2 hq
   ·exact ha p q (by omega) g2 hq
  ·by_cases hp:p<b
   ·exact t2 p q (by omega) hp (by omega) g3
   ·exact t3 p q (by omega) g2 g3
 ·by_cases hq:b<=q
  ·exact t2 p q g1 (by omega) hq g4
  ·by_cases hp:p<a
   ·exact t1 p q g1 hp (by omega) g4
   ·have u:=below p (by omega) g2
    by_cases e:q=mid
    ·subst e;exact u
    ·exact ho.tr _ _ _ (up q (by omega) (by omega)) u
 ·rw [hs.out k (by omega),hs.out (a-1) (by omega)];exact h.pre h0 k g1 (by omega)
structure HQ (c:α->α->Int) (d:α) (l:List α) (f i n:Nat):Prop where
 hp:Hp c d l f 0 i none
 p_:te c d l (f+i) (f+n)
 sep:Sep c d l f (f+i) (f+n)
theorem HQ.start {f n:Nat}(h:Hp c d l f 0 n none):HQ c d l f n n:=⟨h,.short (by omega),fun p q h1 h2 h3 h4=>by omega⟩
theorem HQ.step (ho:Ord c){f k n:Nat}(h:HQ c d l f (k+1) n)(hk:k+1<=n)(hl:f+n<=l.length)(hs:oE d (pF d l f (f+k)) m f (f+k))(hm:Hp c d m f 0 k none):HQ c d m f k n:=by
 have ha:=fun x=>lV (d:=d) (l:=l) (i:=f) (j:=f+k) (k:=x) (by omega) (by omega)
 have out:∀q,f+k<q->m.getD q d=l.getD q d:=fun q hq=>by rw [hs.out q (by omega),ha,if_neg (by omega),if_neg (by omega)]
 have top:m.getD (f+k) d=l.getD f d:=by rw [hs.out (f+k) (by omega),ha,if_pos rfl]
 refine ⟨hm,fun p q g1 g2 g3=>?_,fun p q g1 g2 g3 g4=>?_⟩
 ·rw [out q (by omega)]
  by_cases e:p=f+k
  ·rw [e,top];exact h.sep f q (Nat.le_refl _) (by omega) (by omega) g3
  ·rw [out p (by omega)];exact h.p_ p q (by omega) g2 g3
 ·have hp:∃j,j<k+1/\m.getD p d=l.getD (f+j) d:=by
   obtain ⟨p',e1,e2,e⟩:=hs.mem p g1 g2
   rw [e,ha,if_neg (by omega)]
   split
   ·exact ⟨k,by omega,rfl⟩
   ·exact ⟨p'-f,by omega,by rw [show f+(p'-f)=p' by omega]⟩
  obtain ⟨j,hj,e⟩:=hp
  rw [e]
  by_cases eq:q=f+k
  ·rw [eq,top];exact h.hp.top ho j hj
  ·rw [out q (by omega)];exact h.sep (f+j) q (by omega) (by omega) (by omega) g4
theorem HQ.fin {f n:Nat}(h:HQ c d l f 0 n):te c d l f (f+n):=by have:=h.p_;simpa using this
structure PT (P:α->Prop) (d:α) (l:List α) (a b i j:Nat):Prop where
 hi:a<i
 Ie:i<=j+1
 hj:j<b
 lo:∀k,a<k->k<i->P (l.getD k d)
 up:∀k,j<k->k<b->¬P (l.getD k d)
variable {P:α->Prop} {i j:Nat}
theorem PT.start (h:a+1<b):PT P d l a b (a+1) (b-1):=⟨by omega,by omega,by omega,fun k h1 h2=>by omega,fun k h1 h2=>by omega⟩
theorem PT.swap (h:PT P d l a b i j)(Ie:i<=j)(hl:b<=l.length)(h1:¬P (l.getD i d))(h2:P (l.getD j d)):PT P d (pF d l i j) a b (i+1) (j-1)/\(pF d l i j).getD a d=l.getD a d/\oE d l (pF d l i j) a b:=by
 have e0:=h.hi
 have e1:=h.hj
 have ne:i≠j:=fun e=>h1 (e▸h2)
 have ha:=fun x=>lV (d:=d) (l:=l) (i:=i) (j:=j) (k:=x) (by omega) (by omega)
 refine ⟨⟨by omega,by omega,by omega,fun k g1 g2=>?_,fun k g1 g2=>?_⟩,by rw [ha,if_neg (by omega),if_neg (by omega)],oE.pF (by omega) (by omega) (by omega) e1 hl⟩
 ·rw [ha,if_neg (by omega)]
  by_cases e:k=i
  ·rw [if_pos e];exact h2
  ·rw [if_neg e];exact h.lo k g1 (by omega)
 ·rw [ha]
  by_cases e:k=j
  ·rw [if_pos e];exact h1
  ·rw [if_neg e,if_neg (by omega)];exact h.up k (by omega) g2
theorem PT.fin (ho:Ord c)(h:PT (fun x=>c x (l.getD a d)<0) d l a b i j)(Ie:¬i<=j)(hl:b<=l.length):oE d l (pF d l j a) a b/\a<=j/\j<b /\
  (∀k,a<=k->k<j->c ((pF d l j a).getD k d) ((pF d l j a).getD j d)<0)/\(∀k,j<k->k<b->¬c ((pF d l j a).getD k d) ((pF d l j a).getD j d)<0):=by
 have e0:=h.hi
 have e1:=h.Ie
 have e2:=h.hj
 have ha:=fun x=>lV (d:=d) (l:=l) (i:=j) (j:=a) (k:=x) (by omega) (by omega)
 have ej:(pF d l j a).getD j d=l.getD a d:=by
  rw [ha]
  by_cases e:j=a
  ·rw [if_pos e,e]
  ·rw [if_neg e,if_pos rfl]
 refine ⟨oE.pF (by omega) e2 (Nat.le_refl _) (by omega) hl,by omega,e2,fun k g1 g2=>?_,fun k g1 g2=>?_⟩
 ·rw [ej,ha]
  by_cases e:k=a
  ·rw [if_pos e];exact h.lo j (by omega) (by omega)
  ·rw [if_neg e,if_neg (by omega)];exact h.lo k (by omega) (by omega)
 ·rw [ej,ha,if_neg (by omega),if_neg (by omega)];exact h.up k g1 g2
end
end Go.Proofs.Tryz
namespace Go.Proofs.Tryz
open Go.bo Go.eu
structure Hh (V:View) (n:Nat) (vs:List Value) (l:List L3):Prop where
 row:Row 9 uv V vs l
 len:n=l.length
 OT:l.length<50
theorem Hh.le {V V':View}{n:Nat}{vs:List Value}{l:List L3}(h:Hh V n vs l)(e:V.Le V'):Hh V' n vs l:=⟨h.row.le fun _ _ g=>uv.le g e,h.len,h.OT⟩
theorem Hh.get {V:View}{n:Nat}{vs:List Value}{l:List L3}(h:Hh V n vs l){k:Nat}(hk:k<l.length):∃(x y:Int)(p:OA)(xb yb:Int)(pb:OA)(xc yc:Int)(pc:OA),
  ((0+k*9)+9<=vs.length/\(vs.drop (0+k*9)).take 9=[.int .i64 x,.int .i64 y,.pointer p,.int .i64 xb,.int .i64 yb,.pointer pb,.int .i64 xc,.int .i64 yc,.pointer pc])/\uv V (.agg #[.int .i64 x,.int .i64 y,.pointer p,.int .i64 xb,.int .i64 yb,.pointer pb,.int .i64 xc,.int .i64 yc,.pointer pc]) (l.getD k H3):=by
 obtain ⟨xs,-,h2,h3,h4⟩:=h.row.get (d:=H3) hk (by decide)
 have h20:=h2
 obtain ⟨x,y,p,xb,yb,pb,xc,yc,pc,e⟩:=h2.shape
 have e:=congrArg Array.toList (Value.agg.inj e)
 dsimp only at e
 subst e
 rw [Nat.zero_add]
 exact ⟨x,y,p,xb,yb,pb,xc,yc,pc,⟨h3,h4⟩,h20⟩
theorem Hh.swap {V:View}{n:Nat}{vs:List Value}{l:List L3}(h:Hh V n vs l){i j:Nat}(hi:i<l.length)(hj:j<l.length){x y:Int}{p:OA}{xb yb:Int}{pb:OA}{xc yc:Int}{pc:OA}{x' y':Int}{p':OA}{Ob Oc:Int}{pb':OA}{Lt Od:Int}{pc':OA}
  (h1:uv V (.agg #[.int .i64 x,.int .i64 y,.pointer p,.int .i64 xb,.int .i64 yb,.pointer pb,.int .i64 xc,.int .i64 yc,.pointer pc]) (l.getD i H3))(h2:uv V (.agg #[.int .i64 x',.int .i64 y',.pointer p',.int .i64 Ob,.int .i64 Oc,.pointer pb',.int .i64 Lt,.int .i64 Od,.pointer pc']) (l.getD j H3)) :
  (0+i*9)+9<=vs.length/\(0+j*9)+9<=(dB vs (0+i*9) [.int .i64 x',.int .i64 y',.pointer p',.int .i64 Ob,.int .i64 Oc,.pointer pb',.int .i64 Lt,.int .i64 Od,.pointer pc']).length /\
  Hh V n (dB (dB vs (0+i*9) [.int .i64 x',.int .i64 y',.pointer p',.int .i64 Ob,.int .i64 Oc,.pointer pb',.int .i64 Lt,.int .i64 Od,.pointer pc']) (0+j*9) [.int .i64 x,.int .i64 y,.pointer p,.int .i64 xb,.int .i64 yb,.pointer pb,.int .i64 xc,.int .i64 yc,.pointer pc]) (pF H3 l i j):=by
 obtain ⟨-,-,-,g1,-⟩:=h.row.get (d:=H3) hi (by decide)
 obtain ⟨-,-,-,g2,-⟩:=h.row.get (d:=H3) hj (by decide)
 rw [Nat.zero_add,Nat.zero_add]
 refine ⟨g1,by rw [zw (by exact g1)];exact g2,h.row.swap hi hj (by decide) rfl rfl h1 h2,by rw [wU];exact h.len,by rw [wU];exact h.OT⟩
structure GR {α:Type} (sz:Nat) (R:View->Value->α->Prop) (V:View) (n c:Nat) (vs:List Value) (l:List α):Prop where
 len:n=l.length
 le:n<=c
 cap:c*sz<=vs.length
 row:Row sz R V vs l
theorem GR.nil {α:Type}{sz:Nat}{R:View->Value->α->Prop}{V:View}:GR sz R V 0 0 [] []:=⟨rfl,Nat.le_refl _,by simp,Row.nil⟩
theorem GR.mono {α:Type}{sz:Nat}{R:View->Value->α->Prop}{V V':View}{n c:Nat}{vs:List Value}{l:List α}(h:GR sz R V n c vs l)(m:∀v a,R V v a->R V' v a):GR sz R V' n c vs l:=⟨h.len,h.le,h.cap,h.row.le m⟩
theorem GR.snoc {α:Type}{sz:Nat}{R:View->Value->α->Prop}{V:View}{n c:Nat}{vs:List Value}{l:List α}(h:GR sz R V n c vs l){xs:List Value}{a:α}(hx:xs.length=sz)(ha:R V (.agg xs.toArray) a)(h0:0<sz){sp:List Value}{c':Nat}(h1:n+1<=c')(h2:c'*sz<=(n+1)*sz+sp.length) :
  GR sz R V (n+1) c' (vs.take (n*sz)++xs++sp) (l++[a]):=by
 have hn:=h.len
 have hc:=h.cap
 have hl:n*sz<=c*sz:=Nat.mul_le_mul_right _ h.le
 refine ⟨by rw [List.length_append,hn];rfl,h1,?_,?_⟩
 ·have ht:(vs.take (n*sz)).length=n*sz:=by rw [List.length_take];omega
  rw [List.length_append,List.length_append,ht,hx]
  rw [Nat.succ_mul] at h2
  exact h2
 ·have:=h.row.snoc (sp:=sp) hx ha h0
  rw [←hn] at this
  exact this
def jT (l:L3):L3:=if l.1<0\/l.1=0/\l.2.1<0 then jI l else l
theorem Bd.rev {l:L3}(h:Bd l):Bd (jI l):=by
 obtain ⟨h1,h2,h3⟩:=h
 unfold Bd jI
 simp only [Int.natAbs_neg]
 exact ⟨h1,h2,h3⟩
theorem Bd.can {l:L3}(h:Bd l):Bd (jT l):=by
 unfold jT;split
 ·exact h.rev
 ·exact h
theorem Bd.pG {l:L3}(h:Bd l):kU 1000 l:=⟨h.sz.1,h.sz.2.1,h.sz.2.2⟩
end Go.Proofs.Tryz
namespace Go.Proofs.Tryz.aD
open Go.bo Go.eu
def nv (l:L3)(v:V2):Rat:=(l.1:Rat)*v.1+(l.2.1:Rat)*v.2
def aG (l:L3):V2:=((l.2.1:Rat),-(l.1:Rat))
theorem Cj (l:L3)(v:V2):nv l v=cr (aG l) v:=by unfold nv cr aG;grind
theorem Fw {q:Rat}:q.num.sign=-1↔q<0:=by
 rw [Int.sign_eq_neg_one_iff_neg,←Int.not_le,←Rat.not_le,Rat.num_nonneg]
theorem IU {q:Rat}:q.num.sign=1↔q>0:=by
 have h:=@Fw (-q)
 rw [Rat.neg_num,Int.sign_neg] at h
 constructor
 ·intro e;have:=h.1 (by rw [e]);grind
 ·intro e;have:=h.2 (by grind);omega
theorem ng {q:Rat}:q.num.sign=0↔q=0:=by rw [Int.sign_eq_zero_iff_zero,Rat.num_eq_zero]
def Lu (D:List V2)(M:List L3):Prop:=∀l∈M,∃r∈D,∃c:Rat,c>0/\r=(c*(aG l).1,c*(aG l).2)
theorem AL {l:L3}{r:V2}{c:Rat}(c0:c>0)(e:r=(c*(aG l).1,c*(aG l).2))(v:V2):cr r v=c*nv l v:=by
 rw [Cj,e];unfold cr;grind
theorem Cg {c x:Rat}(c0:c>0):(c*x>0↔x>0)/\(c*x<0↔x<0)/\(c*x=0↔x=0):=by
 have p:x>0->c*x>0:=fun h=>mp c0 h
 have n:x<0->c*x<0:=fun h=>by have:=mp c0 (show -x>0 by grind);grind
 have z:x=0->c*x=0:=fun h=>by rw [h];grind
 refine ⟨⟨fun h=>?_,p⟩,⟨fun h=>?_,n⟩,⟨fun h=>?_,z⟩⟩
 ·by_cases q:x>0
  ·exact q
  ·by_cases q':x<0
   ·have:=n q';grind
   ·have:=z (by grind);grind
 ·by_cases q:x<0
  ·exact q
  ·by_cases q':x>0
   ·have:=p q';grind
   ·have:=z (by grind);grind
 ·rcases Rat.mul_eq_zero.1 h with h|h
  ·grind
  ·exact h
theorem Lu.gen {D:List V2}{M:List L3}(h:Lu D M){v:V2}(hv:∀r∈D,cr r v≠0):∀l∈M,nv l v≠0:=by
 intro l hl e
 obtain ⟨r,hr,c,c0,e'⟩:=h l hl
 exact hv r hr (by rw [AL c0 e',e];grind)
theorem Lu.same {D:List V2}{M:List L3}(h:Lu D M){v x:V2}(hv:∀r∈D,(cr r v>0->cr r x>0)/\(cr r v<0->cr r x<0)) :
  ∀l∈M,(nv l v>0->nv l x>0)/\(nv l v<0->nv l x<0):=by
 intro l hl
 obtain ⟨r,hr,c,c0,e'⟩:=h l hl
 have:=hv r hr
 rw [AL c0 e',AL c0 e'] at this
 obtain ⟨a1,a2,_⟩:=@Cg c (nv l v) c0
 obtain ⟨b1,b2,_⟩:=@Cg c (nv l x) c0
 exact ⟨fun h=>b1.1 (this.1 (a1.2 h)),fun h=>b2.1 (this.2 (a2.2 h))⟩
theorem il (l:L3)(p v:V2)(s:Rat):az l (p.1+s*v.1) (p.2+s*v.2)=az l p.1 p.2+s*nv l v:=by unfold az nv;grind
theorem inv_mul {c:Rat}(h:c≠0)(a:Rat):a*c⁻¹*c=a:=by rw [Rat.mul_assoc,Rat.inv_mul_cancel _ h,Rat.mul_one]
end Go.Proofs.Tryz.aD
