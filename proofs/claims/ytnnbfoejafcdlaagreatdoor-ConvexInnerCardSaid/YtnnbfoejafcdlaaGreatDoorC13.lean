import Derived.Test.YtnnbfoejafcdlaaGreatDoorC12
import Derived.Test.YtnnbfoejafcdlaaGreatDoorC7
import Derived.Test.YtnnbfoejafcdlaaGreatDoorC5
import Derived.Test.YtnnbfoejafcdlaaGreatDoorC9
set_option linter.unusedVariables false
open Go.IntKind (i64 u64 u32)
namespace Go.Proofs.Tryz
open Go.bw Go.eN
def kF (V:View)(v:Value)(x y:Rat):Prop:=∃(x1 x2:Int)(p:OA)(y1 y2:Int)(q:OA),v=.agg #[.int .i64 x1,.int .i64 x2,.pointer p,.int .i64 y1,.int .i64 y2,.pointer q] /\
 RR V (.agg #[.int .i64 x1,.int .i64 x2,.pointer p]) x/\RR V (.agg #[.int .i64 y1,.int .i64 y2,.pointer q]) y
theorem kF.le {V V':View}{v:Value}{x y:Rat}(h:kF V v x y)(l:V.Le V'):kF V' v x y:=by
 obtain ⟨x1,x2,p,y1,y2,q,e,h1,h2⟩:=h
 exact ⟨x1,x2,p,y1,y2,q,e,h1.le l,h2.le l⟩
theorem nC {V:View}{p:Value}{dF dG:Rat}{q:Value}{lV lW:Rat}(hp:kF V p dF dG)(hq:kF V q lV lW){k:Nat}(eL:Sz k dF)(eM:Sz k dG)(lX:Sz k lV)(lY:Sz k lW)(hk:2*k+1<274877906944) :
  ab prog 149 #[p,q] V fun r V'=>kF V' r ((dF)+(lV)) ((dG)+(lW)):=by
 have hp0:=hp
 obtain ⟨p0,p1,p2,p3,p4,p5,rfl,u_,va⟩:=hp
 have hq0:=hq
 obtain ⟨q0,q1,q2,q3,q4,q5,rfl,Gp,Gq⟩:=hq
 refine vE p0 p1 p2 p3 p4 p5 q0 q1 q2 q3 q4 q5 V _ fun V1 l1=>(iK (u_.le (l1)) (Gp.le (l1)) eL lX (by omega)).mono ?_
 rintro r V2 l2 g1
 have g10:=g1
 obtain ⟨NX,NY,NZ,rfl⟩:=g1.shape
 have bF:Sz (2*k+1) ((dF)+(lV)):=Sz.mono (Sz.add eL lX) (by omega)
 refine ⟨_,_,_,rfl,fun V3 l3=>(iK (va.le (l1.trans (l2.trans (l3)))) (Gq.le (l1.trans (l2.trans (l3)))) eM lY (by omega)).mono ?_⟩
 rintro r V4 l4 g2
 have g20:=g2
 obtain ⟨Lz,LA,LB,rfl⟩:=g2.shape
 have cM:Sz (2*k+1) ((dG)+(lW)):=Sz.mono (Sz.add eM lY) (by omega)
 exact ⟨_,_,_,rfl,fun V5 l5=>⟨_,_,_,_,_,_,rfl,(g10.le (l3.trans (l4.trans (l5)))),(g20.le (l5))⟩⟩
theorem iD {dF dG lV lW:Rat}{k:Nat}(eL:Sz k dF)(eM:Sz k dG)(lX:Sz k lV)(lY:Sz k lW):Sz (2*k+1) ((dF)+(lV)):=by
 have bF:Sz (2*k+1) ((dF)+(lV)):=Sz.mono (Sz.add eL lX) (by omega)
 have cM:Sz (2*k+1) ((dG)+(lW)):=Sz.mono (Sz.add eM lY) (by omega)
 exact Sz.mono bF (by omega)
theorem iE {dF dG lV lW:Rat}{k:Nat}(eL:Sz k dF)(eM:Sz k dG)(lX:Sz k lV)(lY:Sz k lW):Sz (2*k+1) ((dG)+(lW)):=by
 have bF:Sz (2*k+1) ((dF)+(lV)):=Sz.mono (Sz.add eL lX) (by omega)
 have cM:Sz (2*k+1) ((dG)+(lW)):=Sz.mono (Sz.add eM lY) (by omega)
 exact Sz.mono cM (by omega)
theorem hU {V:View}{p:Value}{dF dG:Rat}{c:Value}{BL:Rat}(hp:kF V p dF dG)(hc:RR V c BL){k:Nat}(eL:Sz k dF)(eM:Sz k dG)(vi:Sz k BL)(hk:2*k+1<274877906944) :
  ab prog 150 #[p,c] V fun r V'=>kF V' r ((dF)*(BL)) ((dG)*(BL)):=by
 have hp0:=hp
 obtain ⟨p0,p1,p2,p3,p4,p5,rfl,u_,va⟩:=hp
 have hc0:=hc
 obtain ⟨c0,c1,c2,rfl⟩:=hc.shape
 refine qO p0 p1 p2 p3 p4 p5 c0 c1 c2 V _ fun V1 l1=>(ew (u_.le (l1)) (hc0.le (l1)) eL vi (by omega)).mono ?_
 rintro r V2 l2 g1
 have g10:=g1
 obtain ⟨NX,NY,NZ,rfl⟩:=g1.shape
 have bF:Sz (2*k+1) ((dF)*(BL)):=Sz.mono (Sz.mul eL vi) (by omega)
 refine ⟨_,_,_,rfl,fun V3 l3=>(ew (va.le (l1.trans (l2.trans (l3)))) (hc0.le (l1.trans (l2.trans (l3)))) eM vi (by omega)).mono ?_⟩
 rintro r V4 l4 g2
 have g20:=g2
 obtain ⟨Lz,LA,LB,rfl⟩:=g2.shape
 have cM:Sz (2*k+1) ((dG)*(BL)):=Sz.mono (Sz.mul eM vi) (by omega)
 exact ⟨_,_,_,rfl,fun V5 l5=>⟨_,_,_,_,_,_,rfl,(g10.le (l3.trans (l4.trans (l5)))),(g20.le (l5))⟩⟩
theorem b_ {dF dG BL:Rat}{k:Nat}(eL:Sz k dF)(eM:Sz k dG)(vi:Sz k BL):Sz (2*k+1) ((dF)*(BL)):=by
 have bF:Sz (2*k+1) ((dF)*(BL)):=Sz.mono (Sz.mul eL vi) (by omega)
 have cM:Sz (2*k+1) ((dG)*(BL)):=Sz.mono (Sz.mul eM vi) (by omega)
 exact Sz.mono bF (by omega)
theorem cd {dF dG BL:Rat}{k:Nat}(eL:Sz k dF)(eM:Sz k dG)(vi:Sz k BL):Sz (2*k+1) ((dG)*(BL)):=by
 have bF:Sz (2*k+1) ((dF)*(BL)):=Sz.mono (Sz.mul eL vi) (by omega)
 have cM:Sz (2*k+1) ((dG)*(BL)):=Sz.mono (Sz.mul eM vi) (by omega)
 exact Sz.mono cM (by omega)
theorem gI {V:View}{p:Value}{dF dG:Rat}{q:Value}{lV lW:Rat}(hp:kF V p dF dG)(hq:kF V q lV lW){k:Nat}(eL:Sz k dF)(eM:Sz k dG)(lX:Sz k lV)(lY:Sz k lW)(hk:4*k+3<274877906944) :
  ab prog 144 #[p,q] V fun r V'=>RR V' r (((dF)*(lV))+((dG)*(lW))):=by
 have hp0:=hp
 obtain ⟨p0,p1,p2,p3,p4,p5,rfl,u_,va⟩:=hp
 have hq0:=hq
 obtain ⟨q0,q1,q2,q3,q4,q5,rfl,Gp,Gq⟩:=hq
 refine vF p0 p1 p2 p3 p4 p5 q0 q1 q2 q3 q4 q5 V _ fun V1 l1=>(ew (u_.le (l1)) (Gp.le (l1)) eL lX (by omega)).mono ?_
 rintro r V2 l2 g1
 have g10:=g1
 obtain ⟨NX,NY,NZ,rfl⟩:=g1.shape
 have bF:Sz (2*k+1) ((dF)*(lV)):=Sz.mono (Sz.mul eL lX) (by omega)
 refine ⟨_,_,_,rfl,fun V3 l3=>(ew (va.le (l1.trans (l2.trans (l3)))) (Gq.le (l1.trans (l2.trans (l3)))) eM lY (by omega)).mono ?_⟩
 rintro r V4 l4 g2
 have g20:=g2
 obtain ⟨Lz,LA,LB,rfl⟩:=g2.shape
 have cM:Sz (2*k+1) ((dG)*(lW)):=Sz.mono (Sz.mul eM lY) (by omega)
 refine ⟨_,_,_,rfl,fun V5 l5=>(iK (g10.le (l3.trans (l4.trans (l5)))) (g20.le (l5)) bF cM (by omega)).mono ?_⟩
 rintro r V6 l6 g3
 have lT:=g3
 obtain ⟨OH,OJ,OK,rfl⟩:=g3.shape
 have fy:Sz (4*k+3) (((dF)*(lV))+((dG)*(lW))):=Sz.mono (Sz.add bF cM) (by omega)
 exact ⟨_,_,_,rfl,fun V7 l7=>(lT.le (l7))⟩
theorem cR {dF dG lV lW:Rat}{k:Nat}(eL:Sz k dF)(eM:Sz k dG)(lX:Sz k lV)(lY:Sz k lW):Sz (4*k+3) (((dF)*(lV))+((dG)*(lW))):=by
 have bF:Sz (2*k+1) ((dF)*(lV)):=Sz.mono (Sz.mul eL lX) (by omega)
 have cM:Sz (2*k+1) ((dG)*(lW)):=Sz.mono (Sz.mul eM lY) (by omega)
 have fy:Sz (4*k+3) (((dF)*(lV))+((dG)*(lW))):=Sz.mono (Sz.add bF cM) (by omega)
 exact Sz.mono fy (by omega)
theorem fh {V:View}{p:Value}{dF dG:Rat}{q:Value}{lV lW:Rat}(hp:kF V p dF dG)(hq:kF V q lV lW){k:Nat}(eL:Sz k dF)(eM:Sz k dG)(lX:Sz k lV)(lY:Sz k lW)(hk:4*k+3<274877906944) :
  ab prog 136 #[p,q] V fun r V'=>RR V' r (((dF)*(lW))-((dG)*(lV))):=by
 have hp0:=hp
 obtain ⟨p0,p1,p2,p3,p4,p5,rfl,u_,va⟩:=hp
 have hq0:=hq
 obtain ⟨q0,q1,q2,q3,q4,q5,rfl,Gp,Gq⟩:=hq
 refine qN p0 p1 p2 p3 p4 p5 q0 q1 q2 q3 q4 q5 V _ fun V1 l1=>(ew (u_.le (l1)) (Gq.le (l1)) eL lY (by omega)).mono ?_
 rintro r V2 l2 g1
 have g10:=g1
 obtain ⟨NX,NY,NZ,rfl⟩:=g1.shape
 have bF:Sz (2*k+1) ((dF)*(lW)):=Sz.mono (Sz.mul eL lY) (by omega)
 refine ⟨_,_,_,rfl,fun V3 l3=>(ew (va.le (l1.trans (l2.trans (l3)))) (Gp.le (l1.trans (l2.trans (l3)))) eM lX (by omega)).mono ?_⟩
 rintro r V4 l4 g2
 have g20:=g2
 obtain ⟨Lz,LA,LB,rfl⟩:=g2.shape
 have cM:Sz (2*k+1) ((dG)*(lV)):=Sz.mono (Sz.mul eM lX) (by omega)
 refine ⟨_,_,_,rfl,fun V5 l5=>(ny (g10.le (l3.trans (l4.trans (l5)))) (g20.le (l5)) bF cM (by omega)).mono ?_⟩
 rintro r V6 l6 g3
 have lT:=g3
 obtain ⟨OH,OJ,OK,rfl⟩:=g3.shape
 have fy:Sz (4*k+3) (((dF)*(lW))-((dG)*(lV))):=Sz.mono (Sz.sub bF cM) (by omega)
 exact ⟨_,_,_,rfl,fun V7 l7=>(lT.le (l7))⟩
theorem jO {dF dG lV lW:Rat}{k:Nat}(eL:Sz k dF)(eM:Sz k dG)(lX:Sz k lV)(lY:Sz k lW):Sz (4*k+3) (((dF)*(lW))-((dG)*(lV))):=by
 have bF:Sz (2*k+1) ((dF)*(lW)):=Sz.mono (Sz.mul eL lY) (by omega)
 have cM:Sz (2*k+1) ((dG)*(lV)):=Sz.mono (Sz.mul eM lX) (by omega)
 have fy:Sz (4*k+3) (((dF)*(lW))-((dG)*(lV))):=Sz.mono (Sz.sub bF cM) (by omega)
 exact Sz.mono fy (by omega)
theorem jU {V:View}{l:Value}{aZ l_1 cU:Rat}(hl:uH V l aZ l_1 cU){k:Nat}(ck:Sz k aZ)(cB:Sz k l_1)(bU:Sz k cU)(hk:1*k+1<274877906944) :
  ab prog 135 #[l] V fun r V'=>kF V' r (l_1) (-(aZ)):=by
 have hl0:=hl
 obtain ⟨l0,l1,l2,l3,l4,l5,l6,l7,l8,rfl,Al,Am,An⟩:=hl
 refine vC l0 l1 l2 l3 l4 l5 l6 l7 l8 V _ fun V1 l1=>(lD (Al.le (l1)) ck (by omega)).mono ?_
 rintro r V2 l2 g1
 have g10:=g1
 obtain ⟨NX,NY,NZ,rfl⟩:=g1.shape
 have bF:Sz (1*k+0) (-(aZ)):=Sz.mono (Sz.neg ck) (by omega)
 exact ⟨_,_,_,rfl,fun V3 l3=>⟨_,_,_,_,_,_,rfl,(Am.le (l1.trans (l2.trans (l3)))),(g10.le (l3))⟩⟩
theorem iB {aZ l_1 cU:Rat}{k:Nat}(ck:Sz k aZ)(cB:Sz k l_1)(bU:Sz k cU):Sz (1*k+0) (l_1):=by
 have bF:Sz (1*k+0) (-(aZ)):=Sz.mono (Sz.neg ck) (by omega)
 exact Sz.mono cB (by omega)
theorem iC {aZ l_1 cU:Rat}{k:Nat}(ck:Sz k aZ)(cB:Sz k l_1)(bU:Sz k cU):Sz (1*k+0) (-(aZ)):=by
 have bF:Sz (1*k+0) (-(aZ)):=Sz.mono (Sz.neg ck) (by omega)
 exact Sz.mono bF (by omega)
theorem bR {V:View}{l:Value}{aZ l_1 cU:Rat}(hl:uH V l aZ l_1 cU){k:Nat}(ck:Sz k aZ)(cB:Sz k l_1)(bU:Sz k cU)(hk:1*k+1<274877906944) :
  ab prog 142 #[l] V fun r V'=>kF V' r (aZ) (l_1):=by
 have hl0:=hl
 obtain ⟨l0,l1,l2,l3,l4,l5,l6,l7,l8,rfl,Al,Am,An⟩:=hl
 exact pF l0 l1 l2 l3 l4 l5 l6 l7 l8 V _ fun V1 l1=>⟨_,_,_,_,_,_,rfl,(Al.le (l1)),(Am.le (l1))⟩
theorem cE {aZ l_1 cU:Rat}{k:Nat}(ck:Sz k aZ)(cB:Sz k l_1)(bU:Sz k cU):Sz (1*k+0) (aZ):=by
 exact Sz.mono ck (by omega)
theorem cF {aZ l_1 cU:Rat}{k:Nat}(ck:Sz k aZ)(cB:Sz k l_1)(bU:Sz k cU):Sz (1*k+0) (l_1):=by
 exact Sz.mono cB (by omega)
theorem hJ {V:View}{l:Value}{aZ l_1 cU:Rat}{p:Value}{dF dG:Rat}(hl:uH V l aZ l_1 cU)(hp:kF V p dF dG){k:Nat}(ck:Sz k aZ)(cB:Sz k l_1)(bU:Sz k cU)(eL:Sz k dF)(eM:Sz k dG)(hk:5*k+4<274877906944) :
  ab prog 146 #[l,p] V fun r V'=>RR V' r ((((aZ)*(dF))+((l_1)*(dG)))+(cU)):=by
 have hl0:=hl
 obtain ⟨l0,l1,l2,l3,l4,l5,l6,l7,l8,rfl,Al,Am,An⟩:=hl
 have hp0:=hp
 obtain ⟨p0,p1,p2,p3,p4,p5,rfl,u_,va⟩:=hp
 refine qM l0 l1 l2 l3 l4 l5 l6 l7 l8 p0 p1 p2 p3 p4 p5 V _ fun V1 l1=>(bR (hl0.le (l1)) (Sz.mono ck (by omega):Sz (1*k+0) _) (Sz.mono cB (by omega):Sz (1*k+0) _) (Sz.mono bU (by omega):Sz (1*k+0) _) (by omega)).mono ?_
 rintro r V2 l2 g1
 have g10:=g1
 obtain ⟨NP,NQ,NT,NU,NV,NW,rfl,Mg,Mh⟩:=g1
 have bF:Sz (1*k+0) (aZ):=Sz.mono ((cE (Sz.mono ck (by omega):Sz (1*k+0) _) (Sz.mono cB (by omega):Sz (1*k+0) _) (Sz.mono bU (by omega):Sz (1*k+0) _))) (by omega)
 have eu:Sz (1*k+0) (l_1):=Sz.mono ((cF (Sz.mono ck (by omega):Sz (1*k+0) _) (Sz.mono cB (by omega):Sz (1*k+0) _) (Sz.mono bU (by omega):Sz (1*k+0) _))) (by omega)
 refine ⟨_,_,_,_,_,_,rfl,fun V3 l3=>(gI (g10.le (l3)) (hp0.le (l1.trans (l2.trans (l3)))) (Sz.mono bF (by omega):Sz (1*k+0) _) (Sz.mono eu (by omega):Sz (1*k+0) _) (Sz.mono eL (by omega):Sz (1*k+0) _) (Sz.mono eM (by omega):Sz (1*k+0) _) (by omega)).mono ?_⟩
 rintro r V4 l4 g2
 have g20:=g2
 obtain ⟨Lz,LA,LB,rfl⟩:=g2.shape
 have cM:Sz (4*k+3) (((aZ)*(dF))+((l_1)*(dG))):=Sz.mono ((cR (Sz.mono bF (by omega):Sz (1*k+0) _) (Sz.mono eu (by omega):Sz (1*k+0) _) (Sz.mono eL (by omega):Sz (1*k+0) _) (Sz.mono eM (by omega):Sz (1*k+0) _))) (by omega)
 refine ⟨_,_,_,rfl,fun V5 l5=>(iK (g20.le (l5)) (An.le (l1.trans (l2.trans (l3.trans (l4.trans (l5)))))) cM bU (by omega)).mono ?_⟩
 rintro r V6 l6 g3
 have lT:=g3
 obtain ⟨OH,OJ,OK,rfl⟩:=g3.shape
 have fy:Sz (5*k+4) ((((aZ)*(dF))+((l_1)*(dG)))+(cU)):=Sz.mono (Sz.add cM bU) (by omega)
 exact ⟨_,_,_,rfl,fun V7 l7=>(lT.le (l7))⟩
theorem jN {aZ l_1 cU dF dG:Rat}{k:Nat}(ck:Sz k aZ)(cB:Sz k l_1)(bU:Sz k cU)(eL:Sz k dF)(eM:Sz k dG):Sz (5*k+4) ((((aZ)*(dF))+((l_1)*(dG)))+(cU)):=by
 have bF:Sz (1*k+0) (aZ):=Sz.mono ((cE (Sz.mono ck (by omega):Sz (1*k+0) _) (Sz.mono cB (by omega):Sz (1*k+0) _) (Sz.mono bU (by omega):Sz (1*k+0) _))) (by omega)
 have eu:Sz (1*k+0) (l_1):=Sz.mono ((cF (Sz.mono ck (by omega):Sz (1*k+0) _) (Sz.mono cB (by omega):Sz (1*k+0) _) (Sz.mono bU (by omega):Sz (1*k+0) _))) (by omega)
 have cM:Sz (4*k+3) (((aZ)*(dF))+((l_1)*(dG))):=Sz.mono ((cR (Sz.mono bF (by omega):Sz (1*k+0) _) (Sz.mono eu (by omega):Sz (1*k+0) _) (Sz.mono eL (by omega):Sz (1*k+0) _) (Sz.mono eM (by omega):Sz (1*k+0) _))) (by omega)
 have fy:Sz (5*k+4) ((((aZ)*(dF))+((l_1)*(dG)))+(cU)):=Sz.mono (Sz.add cM bU) (by omega)
 exact Sz.mono fy (by omega)
theorem mf {V:View}{l:Value}{aZ l_1 cU:Rat}(hl:uH V l aZ l_1 cU){k:Nat}(ck:Sz k aZ)(cB:Sz k l_1)(bU:Sz k cU)(hk:10*k+9<274877906944) :
  ab prog 180 #[l] V fun r V'=>kF V' r ((aZ)*(((-(cU))*(((aZ)*(aZ))+((l_1)*(l_1)))⁻¹))) ((l_1)*(((-(cU))*(((aZ)*(aZ))+((l_1)*(l_1)))⁻¹))):=by
 have hl0:=hl
 obtain ⟨l0,l1,l2,l3,l4,l5,l6,l7,l8,rfl,Al,Am,An⟩:=hl
 refine uc l0 l1 l2 l3 l4 l5 l6 l7 l8 V _ fun V1 l1=>(bR (hl0.le (l1)) (Sz.mono ck (by omega):Sz (1*k+0) _) (Sz.mono cB (by omega):Sz (1*k+0) _) (Sz.mono bU (by omega):Sz (1*k+0) _) (by omega)).mono ?_
 rintro r V2 l2 g1
 have g10:=g1
 obtain ⟨NP,NQ,NT,NU,NV,NW,rfl,Mg,Mh⟩:=g1
 have bF:Sz (1*k+0) (aZ):=Sz.mono ((cE (Sz.mono ck (by omega):Sz (1*k+0) _) (Sz.mono cB (by omega):Sz (1*k+0) _) (Sz.mono bU (by omega):Sz (1*k+0) _))) (by omega)
 have eu:Sz (1*k+0) (l_1):=Sz.mono ((cF (Sz.mono ck (by omega):Sz (1*k+0) _) (Sz.mono cB (by omega):Sz (1*k+0) _) (Sz.mono bU (by omega):Sz (1*k+0) _))) (by omega)
 refine ⟨_,_,_,_,_,_,rfl,fun V3 l3=>(lD (An.le (l1.trans (l2.trans (l3)))) bU (by omega)).mono ?_⟩
 rintro r V4 l4 g2
 have g20:=g2
 obtain ⟨Lz,LA,LB,rfl⟩:=g2.shape
 have cM:Sz (1*k+0) (-(cU)):=Sz.mono (Sz.neg bU) (by omega)
 refine ⟨_,_,_,rfl,fun V5 l5=>(gI (g10.le (l3.trans (l4.trans (l5)))) (g10.le (l3.trans (l4.trans (l5)))) (Sz.mono bF (by omega):Sz (1*k+0) _) (Sz.mono eu (by omega):Sz (1*k+0) _) (Sz.mono bF (by omega):Sz (1*k+0) _) (Sz.mono eu (by omega):Sz (1*k+0) _) (by omega)).mono ?_⟩
 rintro r V6 l6 g3
 have lT:=g3
 obtain ⟨OH,OJ,OK,rfl⟩:=g3.shape
 have fy:Sz (4*k+3) (((aZ)*(aZ))+((l_1)*(l_1))):=Sz.mono ((cR (Sz.mono bF (by omega):Sz (1*k+0) _) (Sz.mono eu (by omega):Sz (1*k+0) _) (Sz.mono bF (by omega):Sz (1*k+0) _) (Sz.mono eu (by omega):Sz (1*k+0) _))) (by omega)
 refine ⟨_,_,_,rfl,fun V7 l7=>(lE (g20.le (l5.trans (l6.trans (l7)))) (lT.le (l7)) cM fy (by omega)).mono ?_⟩
 rintro r V8 l8 g4
 have Gc:=g4
 obtain ⟨VK,VL,VM,rfl⟩:=g4.shape
 have l_:Sz (5*k+4) ((-(cU))*(((aZ)*(aZ))+((l_1)*(l_1)))⁻¹):=Sz.mono (Sz.mul cM (dI fy)) (by omega)
 refine ⟨_,_,_,rfl,fun V9 l9=>(hU (g10.le (l3.trans (l4.trans (l5.trans (l6.trans (l7.trans (l8.trans (l9)))))))) (Gc.le (l9)) (Sz.mono bF (by omega):Sz (5*k+4) _) (Sz.mono eu (by omega):Sz (5*k+4) _) (Sz.mono l_ (by omega):Sz (5*k+4) _) (by omega)).mono ?_⟩
 rintro r jr l10 g5
 have EJ:=g5
 obtain ⟨VN,VO,VQ,VS,VT,VU,rfl,Pp,Pq⟩:=g5
 have Fq:Sz (10*k+9) ((aZ)*(((-(cU))*(((aZ)*(aZ))+((l_1)*(l_1)))⁻¹))):=Sz.mono ((b_ (Sz.mono bF (by omega):Sz (5*k+4) _) (Sz.mono eu (by omega):Sz (5*k+4) _) (Sz.mono l_ (by omega):Sz (5*k+4) _))) (by omega)
 have Li:Sz (10*k+9) ((l_1)*(((-(cU))*(((aZ)*(aZ))+((l_1)*(l_1)))⁻¹))):=Sz.mono ((cd (Sz.mono bF (by omega):Sz (5*k+4) _) (Sz.mono eu (by omega):Sz (5*k+4) _) (Sz.mono l_ (by omega):Sz (5*k+4) _))) (by omega)
 exact ⟨_,_,_,_,_,_,rfl,fun jP bN=>⟨_,_,_,_,_,_,rfl,(Pp.le (bN)),(Pq.le (bN))⟩⟩
theorem di {aZ l_1 cU:Rat}{k:Nat}(ck:Sz k aZ)(cB:Sz k l_1)(bU:Sz k cU):Sz (10*k+9) ((aZ)*(((-(cU))*(((aZ)*(aZ))+((l_1)*(l_1)))⁻¹))):=by
 have bF:Sz (1*k+0) (aZ):=Sz.mono ((cE (Sz.mono ck (by omega):Sz (1*k+0) _) (Sz.mono cB (by omega):Sz (1*k+0) _) (Sz.mono bU (by omega):Sz (1*k+0) _))) (by omega)
 have eu:Sz (1*k+0) (l_1):=Sz.mono ((cF (Sz.mono ck (by omega):Sz (1*k+0) _) (Sz.mono cB (by omega):Sz (1*k+0) _) (Sz.mono bU (by omega):Sz (1*k+0) _))) (by omega)
 have cM:Sz (1*k+0) (-(cU)):=Sz.mono (Sz.neg bU) (by omega)
 have fy:Sz (4*k+3) (((aZ)*(aZ))+((l_1)*(l_1))):=Sz.mono ((cR (Sz.mono bF (by omega):Sz (1*k+0) _) (Sz.mono eu (by omega):Sz (1*k+0) _) (Sz.mono bF (by omega):Sz (1*k+0) _) (Sz.mono eu (by omega):Sz (1*k+0) _))) (by omega)
 have l_:Sz (5*k+4) ((-(cU))*(((aZ)*(aZ))+((l_1)*(l_1)))⁻¹):=Sz.mono (Sz.mul cM (dI fy)) (by omega)
 have Fq:Sz (10*k+9) ((aZ)*(((-(cU))*(((aZ)*(aZ))+((l_1)*(l_1)))⁻¹))):=Sz.mono ((b_ (Sz.mono bF (by omega):Sz (5*k+4) _) (Sz.mono eu (by omega):Sz (5*k+4) _) (Sz.mono l_ (by omega):Sz (5*k+4) _))) (by omega)
 have Li:Sz (10*k+9) ((l_1)*(((-(cU))*(((aZ)*(aZ))+((l_1)*(l_1)))⁻¹))):=Sz.mono ((cd (Sz.mono bF (by omega):Sz (5*k+4) _) (Sz.mono eu (by omega):Sz (5*k+4) _) (Sz.mono l_ (by omega):Sz (5*k+4) _))) (by omega)
 exact Sz.mono Fq (by omega)
theorem dj {aZ l_1 cU:Rat}{k:Nat}(ck:Sz k aZ)(cB:Sz k l_1)(bU:Sz k cU):Sz (10*k+9) ((l_1)*(((-(cU))*(((aZ)*(aZ))+((l_1)*(l_1)))⁻¹))):=by
 have bF:Sz (1*k+0) (aZ):=Sz.mono ((cE (Sz.mono ck (by omega):Sz (1*k+0) _) (Sz.mono cB (by omega):Sz (1*k+0) _) (Sz.mono bU (by omega):Sz (1*k+0) _))) (by omega)
 have eu:Sz (1*k+0) (l_1):=Sz.mono ((cF (Sz.mono ck (by omega):Sz (1*k+0) _) (Sz.mono cB (by omega):Sz (1*k+0) _) (Sz.mono bU (by omega):Sz (1*k+0) _))) (by omega)
 have cM:Sz (1*k+0) (-(cU)):=Sz.mono (Sz.neg bU) (by omega)
 have fy:Sz (4*k+3) (((aZ)*(aZ))+((l_1)*(l_1))):=Sz.mono ((cR (Sz.mono bF (by omega):Sz (1*k+0) _) (Sz.mono eu (by omega):Sz (1*k+0) _) (Sz.mono bF (by omega):Sz (1*k+0) _) (Sz.mono eu (by omega):Sz (1*k+0) _))) (by omega)
 have l_:Sz (5*k+4) ((-(cU))*(((aZ)*(aZ))+((l_1)*(l_1)))⁻¹):=Sz.mono (Sz.mul cM (dI fy)) (by omega)
 have Fq:Sz (10*k+9) ((aZ)*(((-(cU))*(((aZ)*(aZ))+((l_1)*(l_1)))⁻¹))):=Sz.mono ((b_ (Sz.mono bF (by omega):Sz (5*k+4) _) (Sz.mono eu (by omega):Sz (5*k+4) _) (Sz.mono l_ (by omega):Sz (5*k+4) _))) (by omega)
 have Li:Sz (10*k+9) ((l_1)*(((-(cU))*(((aZ)*(aZ))+((l_1)*(l_1)))⁻¹))):=Sz.mono ((cd (Sz.mono bF (by omega):Sz (5*k+4) _) (Sz.mono eu (by omega):Sz (5*k+4) _) (Sz.mono l_ (by omega):Sz (5*k+4) _))) (by omega)
 exact Sz.mono Li (by omega)
theorem zN {V:View}{l:Value}{aZ l_1 cU:Rat}{t:Value}{uE:Rat}(hl:uH V l aZ l_1 cU)(ht:RR V t uE){k:Nat}(ck:Sz k aZ)(cB:Sz k l_1)(bU:Sz k cU)(yG:Sz k uE)(hk:20*k+19<274877906944) :
  ab prog 132 #[l,t] V fun r V'=>kF V' r ((((aZ)*(((-(cU))*(((aZ)*(aZ))+((l_1)*(l_1)))⁻¹))))+(((l_1)*(uE)))) ((((l_1)*(((-(cU))*(((aZ)*(aZ))+((l_1)*(l_1)))⁻¹))))+((((-(aZ)))*(uE)))):=by
 have hl0:=hl
 obtain ⟨l0,l1,l2,l3,l4,l5,l6,l7,l8,rfl,Al,Am,An⟩:=hl
 have ht0:=ht
 obtain ⟨t0,t1,t2,rfl⟩:=ht.shape
 refine yR l0 l1 l2 l3 l4 l5 l6 l7 l8 t0 t1 t2 V _ fun V1 l1=>(mf (hl0.le (l1)) (Sz.mono ck (by omega):Sz (1*k+0) _) (Sz.mono cB (by omega):Sz (1*k+0) _) (Sz.mono bU (by omega):Sz (1*k+0) _) (by omega)).mono ?_
 rintro r V2 l2 g1
 have g10:=g1
 obtain ⟨NP,NQ,NT,NU,NV,NW,rfl,Mg,Mh⟩:=g1
 have bF:Sz (10*k+9) ((aZ)*(((-(cU))*(((aZ)*(aZ))+((l_1)*(l_1)))⁻¹))):=Sz.mono ((di (Sz.mono ck (by omega):Sz (1*k+0) _) (Sz.mono cB (by omega):Sz (1*k+0) _) (Sz.mono bU (by omega):Sz (1*k+0) _))) (by omega)
 have eu:Sz (10*k+9) ((l_1)*(((-(cU))*(((aZ)*(aZ))+((l_1)*(l_1)))⁻¹))):=Sz.mono ((dj (Sz.mono ck (by omega):Sz (1*k+0) _) (Sz.mono cB (by omega):Sz (1*k+0) _) (Sz.mono bU (by omega):Sz (1*k+0) _))) (by omega)
 refine ⟨_,_,_,_,_,_,rfl,fun V3 l3=>(jU (hl0.le (l1.trans (l2.trans (l3)))) (Sz.mono ck (by omega):Sz (1*k+0) _) (Sz.mono cB (by omega):Sz (1*k+0) _) (Sz.mono bU (by omega):Sz (1*k+0) _) (by omega)).mono ?_⟩
 rintro r V4 l4 g2
 have g20:=g2
 obtain ⟨Vs,Vt,Vu,Vv,Vw,Vx,rfl,TZ,T0⟩:=g2
 have cM:Sz (1*k+0) (l_1):=Sz.mono ((iB (Sz.mono ck (by omega):Sz (1*k+0) _) (Sz.mono cB (by omega):Sz (1*k+0) _) (Sz.mono bU (by omega):Sz (1*k+0) _))) (by omega)
 have zo:Sz (1*k+0) (-(aZ)):=Sz.mono ((iC (Sz.mono ck (by omega):Sz (1*k+0) _) (Sz.mono cB (by omega):Sz (1*k+0) _) (Sz.mono bU (by omega):Sz (1*k+0) _))) (by omega)
 refine ⟨_,_,_,_,_,_,rfl,fun V5 l5=>(hU (g20.le (l5)) (ht0.le (l1.trans (l2.trans (l3.trans (l4.trans (l5)))))) (Sz.mono cM (by omega):Sz (1*k+0) _) (Sz.mono zo (by omega):Sz (1*k+0) _) (Sz.mono yG (by omega):Sz (1*k+0) _) (by omega)).mono ?_⟩
 rintro r V6 l6 g3
 have lT:=g3
 obtain ⟨Vy,Vz,VA,VB,VC,VD,rfl,T1,T2⟩:=g3
 have fy:Sz (2*k+1) ((l_1)*(uE)):=Sz.mono ((b_ (Sz.mono cM (by omega):Sz (1*k+0) _) (Sz.mono zo (by omega):Sz (1*k+0) _) (Sz.mono yG (by omega):Sz (1*k+0) _))) (by omega)
 have zq:Sz (2*k+1) (((-(aZ)))*(uE)):=Sz.mono ((cd (Sz.mono cM (by omega):Sz (1*k+0) _) (Sz.mono zo (by omega):Sz (1*k+0) _) (Sz.mono yG (by omega):Sz (1*k+0) _))) (by omega)
 refine ⟨_,_,_,_,_,_,rfl,fun V7 l7=>(nC (g10.le (l3.trans (l4.trans (l5.trans (l6.trans (l7)))))) (lT.le (l7)) (Sz.mono bF (by omega):Sz (10*k+9) _) (Sz.mono eu (by omega):Sz (10*k+9) _) (Sz.mono fy (by omega):Sz (10*k+9) _) (Sz.mono zq (by omega):Sz (10*k+9) _) (by omega)).mono ?_⟩
 rintro r V8 l8 g4
 have Gc:=g4
 obtain ⟨VE,VF,VG,VH,VI,VJ,rfl,Pn,Po⟩:=g4
 have l_:Sz (20*k+19) ((((aZ)*(((-(cU))*(((aZ)*(aZ))+((l_1)*(l_1)))⁻¹))))+(((l_1)*(uE)))):=Sz.mono ((iD (Sz.mono bF (by omega):Sz (10*k+9) _) (Sz.mono eu (by omega):Sz (10*k+9) _) (Sz.mono fy (by omega):Sz (10*k+9) _) (Sz.mono zq (by omega):Sz (10*k+9) _))) (by omega)
 have Lh:Sz (20*k+19) ((((l_1)*(((-(cU))*(((aZ)*(aZ))+((l_1)*(l_1)))⁻¹))))+((((-(aZ)))*(uE)))):=Sz.mono ((iE (Sz.mono bF (by omega):Sz (10*k+9) _) (Sz.mono eu (by omega):Sz (10*k+9) _) (Sz.mono fy (by omega):Sz (10*k+9) _) (Sz.mono zq (by omega):Sz (10*k+9) _))) (by omega)
 exact ⟨_,_,_,_,_,_,rfl,fun V9 l9=>⟨_,_,_,_,_,_,rfl,(Pn.le (l9)),(Po.le (l9))⟩⟩
theorem vS {aZ l_1 cU uE:Rat}{k:Nat}(ck:Sz k aZ)(cB:Sz k l_1)(bU:Sz k cU)(yG:Sz k uE):Sz (20*k+19) ((((aZ)*(((-(cU))*(((aZ)*(aZ))+((l_1)*(l_1)))⁻¹))))+(((l_1)*(uE)))):=by
 have bF:Sz (10*k+9) ((aZ)*(((-(cU))*(((aZ)*(aZ))+((l_1)*(l_1)))⁻¹))):=Sz.mono ((di (Sz.mono ck (by omega):Sz (1*k+0) _) (Sz.mono cB (by omega):Sz (1*k+0) _) (Sz.mono bU (by omega):Sz (1*k+0) _))) (by omega)
 have eu:Sz (10*k+9) ((l_1)*(((-(cU))*(((aZ)*(aZ))+((l_1)*(l_1)))⁻¹))):=Sz.mono ((dj (Sz.mono ck (by omega):Sz (1*k+0) _) (Sz.mono cB (by omega):Sz (1*k+0) _) (Sz.mono bU (by omega):Sz (1*k+0) _))) (by omega)
 have cM:Sz (1*k+0) (l_1):=Sz.mono ((iB (Sz.mono ck (by omega):Sz (1*k+0) _) (Sz.mono cB (by omega):Sz (1*k+0) _) (Sz.mono bU (by omega):Sz (1*k+0) _))) (by omega)
 have zo:Sz (1*k+0) (-(aZ)):=Sz.mono ((iC (Sz.mono ck (by omega):Sz (1*k+0) _) (Sz.mono cB (by omega):Sz (1*k+0) _) (Sz.mono bU (by omega):Sz (1*k+0) _))) (by omega)
 have fy:Sz (2*k+1) ((l_1)*(uE)):=Sz.mono ((b_ (Sz.mono cM (by omega):Sz (1*k+0) _) (Sz.mono zo (by omega):Sz (1*k+0) _) (Sz.mono yG (by omega):Sz (1*k+0) _))) (by omega)
 have zq:Sz (2*k+1) (((-(aZ)))*(uE)):=Sz.mono ((cd (Sz.mono cM (by omega):Sz (1*k+0) _) (Sz.mono zo (by omega):Sz (1*k+0) _) (Sz.mono yG (by omega):Sz (1*k+0) _))) (by omega)
 have l_:Sz (20*k+19) ((((aZ)*(((-(cU))*(((aZ)*(aZ))+((l_1)*(l_1)))⁻¹))))+(((l_1)*(uE)))):=Sz.mono ((iD (Sz.mono bF (by omega):Sz (10*k+9) _) (Sz.mono eu (by omega):Sz (10*k+9) _) (Sz.mono fy (by omega):Sz (10*k+9) _) (Sz.mono zq (by omega):Sz (10*k+9) _))) (by omega)
 have Lh:Sz (20*k+19) ((((l_1)*(((-(cU))*(((aZ)*(aZ))+((l_1)*(l_1)))⁻¹))))+((((-(aZ)))*(uE)))):=Sz.mono ((iE (Sz.mono bF (by omega):Sz (10*k+9) _) (Sz.mono eu (by omega):Sz (10*k+9) _) (Sz.mono fy (by omega):Sz (10*k+9) _) (Sz.mono zq (by omega):Sz (10*k+9) _))) (by omega)
 exact Sz.mono l_ (by omega)
theorem vT {aZ l_1 cU uE:Rat}{k:Nat}(ck:Sz k aZ)(cB:Sz k l_1)(bU:Sz k cU)(yG:Sz k uE):Sz (20*k+19) ((((l_1)*(((-(cU))*(((aZ)*(aZ))+((l_1)*(l_1)))⁻¹))))+((((-(aZ)))*(uE)))):=by
 have bF:Sz (10*k+9) ((aZ)*(((-(cU))*(((aZ)*(aZ))+((l_1)*(l_1)))⁻¹))):=Sz.mono ((di (Sz.mono ck (by omega):Sz (1*k+0) _) (Sz.mono cB (by omega):Sz (1*k+0) _) (Sz.mono bU (by omega):Sz (1*k+0) _))) (by omega)
 have eu:Sz (10*k+9) ((l_1)*(((-(cU))*(((aZ)*(aZ))+((l_1)*(l_1)))⁻¹))):=Sz.mono ((dj (Sz.mono ck (by omega):Sz (1*k+0) _) (Sz.mono cB (by omega):Sz (1*k+0) _) (Sz.mono bU (by omega):Sz (1*k+0) _))) (by omega)
 have cM:Sz (1*k+0) (l_1):=Sz.mono ((iB (Sz.mono ck (by omega):Sz (1*k+0) _) (Sz.mono cB (by omega):Sz (1*k+0) _) (Sz.mono bU (by omega):Sz (1*k+0) _))) (by omega)
 have zo:Sz (1*k+0) (-(aZ)):=Sz.mono ((iC (Sz.mono ck (by omega):Sz (1*k+0) _) (Sz.mono cB (by omega):Sz (1*k+0) _) (Sz.mono bU (by omega):Sz (1*k+0) _))) (by omega)
 have fy:Sz (2*k+1) ((l_1)*(uE)):=Sz.mono ((b_ (Sz.mono cM (by omega):Sz (1*k+0) _) (Sz.mono zo (by omega):Sz (1*k+0) _) (Sz.mono yG (by omega):Sz (1*k+0) _))) (by omega)
 have zq:Sz (2*k+1) (((-(aZ)))*(uE)):=Sz.mono ((cd (Sz.mono cM (by omega):Sz (1*k+0) _) (Sz.mono zo (by omega):Sz (1*k+0) _) (Sz.mono yG (by omega):Sz (1*k+0) _))) (by omega)
 have l_:Sz (20*k+19) ((((aZ)*(((-(cU))*(((aZ)*(aZ))+((l_1)*(l_1)))⁻¹))))+(((l_1)*(uE)))):=Sz.mono ((iD (Sz.mono bF (by omega):Sz (10*k+9) _) (Sz.mono eu (by omega):Sz (10*k+9) _) (Sz.mono fy (by omega):Sz (10*k+9) _) (Sz.mono zq (by omega):Sz (10*k+9) _))) (by omega)
 have Lh:Sz (20*k+19) ((((l_1)*(((-(cU))*(((aZ)*(aZ))+((l_1)*(l_1)))⁻¹))))+((((-(aZ)))*(uE)))):=Sz.mono ((iE (Sz.mono bF (by omega):Sz (10*k+9) _) (Sz.mono eu (by omega):Sz (10*k+9) _) (Sz.mono fy (by omega):Sz (10*k+9) _) (Sz.mono zq (by omega):Sz (10*k+9) _))) (by omega)
 exact Sz.mono Lh (by omega)
theorem B8 {V:View}{v w:Value}{x y:Rat}(hx:RQ V v x)(hy:RQ V w y)(hy0:y.num≠0){k m:Nat}(hk:Sz k x)(hm:Sz m y)(hkm:k+m<274877906944) :
  ab prog 158 #[v,w] V fun r V'=>RQ V' r (x*y⁻¹):=by
 obtain ⟨p,n,c,p',n',c',rfl,hx1,hx2⟩:=hx
 obtain ⟨q,i,e,q',i',e',rfl,hy1,hy2⟩:=hy
 have PO:=dI hm
 have q1:=af hk.1
 have q2:=af hk.2
 have q3:=af hm.1
 have q4:=af PO.1
 have iv:(y⁻¹).num=(if decide (y.num<0)=true then -((y.den:Nat):Int) else ((y.den:Nat):Int))/\(y⁻¹).den=y.num.natAbs:=by
  rcases Int.lt_or_gt_of_ne hy0 with h|h
  ·rw [if_pos (decide_eq_true h)];exact inv_neg h
  ·rw [if_neg (fun hh=>by have:=of_decide_eq_true hh;omega)];exact inv_pos h
 have hxy:x*y⁻¹=mkRat (x.num*(y⁻¹).num) (x.den*(y⁻¹).den):=Rat.mul_def' x y⁻¹
 have b1:(x.num*(y⁻¹).num).natAbs<2^(k+m):=by rw [Int.natAbs_mul];exact bA hk.1 PO.1
 have b2:x.den*(y⁻¹).den<2^(k+m):=bA hk.2 PO.2
 refine Bw _ p n c p' n' c' _ q i e q' i' e' V _ fun V1 l1=>(cw y _ (hy2.le l1)).mono ?_
 rintro r V2 l2 ⟨p1,n1,c1,rfl,g1⟩
 refine ⟨_,_,_,rfl,fun V3 l3=>(dA _ (g1.le l3)).mono ?_⟩
 rw [←iv.1]
 rintro r V4 l4 ⟨p4,n4,c4,rfl,g4⟩
 refine ⟨_,_,_,_,rfl,fun V5 l5=>(jx x.num (y⁻¹).num (hx1.le (l1.trans (l2.trans (l3.trans (l4.trans l5))))) (g4.le l5) (by omega)).mono ?_⟩
 rintro r V6 l6 ⟨p6,n6,c6,rfl,g6⟩
 have JK:=l1.trans (l2.trans (l3.trans (l4.trans (l5.trans l6))))
 refine ⟨_,_,_,_,rfl,fun V7 l7=>(cw x _ (hx2.le (JK.trans l7))).mono ?_⟩
 rintro r V8 l8 ⟨p8,n8,c8,rfl,g8⟩
 refine ⟨_,_,_,rfl,fun V9 l9=>(bY (g8.le l9) (hy1.le (JK.trans (l7.trans (l8.trans l9)))) (by omega)).mono ?_⟩
 rintro r jr l10 ⟨Hb,n10,c10,rfl,g10⟩
 rw [ae,ae,←iv.2] at g10
 refine ⟨_,_,_,rfl,fun jP bN=>(ib _ (g6.le (l7.trans (l8.trans (l9.trans (l10.trans bN))))) (g10.le bN) (Nat.le_trans (af b1) (by omega)) (Nat.le_trans (af b2) (by omega)) (Nat.mul_ne_zero x.den_nz (y⁻¹).den_nz)).mono ?_⟩
 rw [hxy]
 rintro r rF jo ⟨SN,n21,c21,SO,n22,RV,rfl,g21,g22⟩
 exact ⟨_,_,_,_,_,_,_,rfl,fun zt gF=>⟨_,_,_,_,_,_,rfl,g21.le gF,g22.le gF⟩⟩
theorem Ey {V:View}(z:Int){p:OA}{n c:Nat}(h:RD V p n c (ah z.natAbs)) :
  ab prog 156 #[.agg #[.bool (decide (z<0)),.slice p n c]] V fun r V'=>RQ V' r (z:Rat):=
 Dk _ p n c V _ fun V1 l1=>mq (z:=z) (d:=1) rfl rfl (h.le l1) RD.nil rfl
theorem mE {V:View}{z:Int}{p:OA}{n c:Nat}(h:RD V p n c (ah z.natAbs)){k:Nat}(_s:Sz k (z:Rat))(_hk:k<=1099511627776) :
  ab prog 156 #[.agg #[.bool (decide (z<0)),.slice p n c]] V fun r V'=>RQ V' r (z:Rat):=Ey z h
theorem uR {V:View}{l:Value}{aZ l_1 cU:Int}{p:Value}{dF dG:Rat}(hl:RL V l aZ l_1 cU)(hp:RP V p dF dG){k:Nat}(ck:Sz k ((aZ:Int):Rat))(cB:Sz k ((l_1:Int):Rat))(bU:Sz k ((cU:Int):Rat))(eL:Sz k dF)(eM:Sz k dG)(hk:5*k+4<274877906944) :
  ab prog 129 #[l,p] V fun r V'=>RQ V' r ((((((aZ:Int):Rat))*(dF))+((((l_1:Int):Rat))*(dG)))+(((cU:Int):Rat))):=by
 have hl0:=hl
 obtain ⟨l0,l1,l2,l3,l4,l5,l6,l7,l8,rfl,Al,Am,An⟩:=hl
 have hp0:=hp
 obtain ⟨p0,p1,p2,p3,p4,p5,p6,p7,p8,p9,Hb,Lx,rfl,u_,va⟩:=hp
 refine uy _ l0 l1 l2 _ l3 l4 l5 _ l6 l7 l8 _ p0 p1 p2 p3 p4 p5 _ p6 p7 p8 p9 Hb Lx V _ fun V1 l1=>(mE (Al.le (l1)) ck (by omega)).mono ?_
 rintro r V2 l2 g1
 have g10:=g1
 obtain ⟨NX,NY,NZ,WS,WT,WU,rfl⟩:=g1.shape
 have bF:Sz (1*k+0) (((aZ:Int):Rat)):=Sz.mono (ck) (by omega)
 refine ⟨_,_,_,_,_,_,_,rfl,fun V3 l3=>(cx (g10.le (l3)) (u_.le (l1.trans (l2.trans (l3)))) bF eL (by omega)).mono ?_⟩
 rintro r V4 l4 g2
 have g20:=g2
 obtain ⟨Lz,LA,LB,WV,WW,WX,rfl⟩:=g2.shape
 have cM:Sz (2*k+1) ((((aZ:Int):Rat))*(dF)):=Sz.mono (Sz.mul bF eL) (by omega)
 refine ⟨_,_,_,_,_,_,_,rfl,fun V5 l5=>(mE (Am.le (l1.trans (l2.trans (l3.trans (l4.trans (l5)))))) cB (by omega)).mono ?_⟩
 rintro r V6 l6 g3
 have lT:=g3
 obtain ⟨OH,OJ,OK,WY,WZ,W0,rfl⟩:=g3.shape
 have fy:Sz (1*k+0) (((l_1:Int):Rat)):=Sz.mono (cB) (by omega)
 refine ⟨_,_,_,_,_,_,_,rfl,fun V7 l7=>(cx (lT.le (l7)) (va.le (l1.trans (l2.trans (l3.trans (l4.trans (l5.trans (l6.trans (l7)))))))) fy eM (by omega)).mono ?_⟩
 rintro r V8 l8 g4
 have Gc:=g4
 obtain ⟨VK,VL,VM,W3,W4,W5,rfl⟩:=g4.shape
 have l_:Sz (2*k+1) ((((l_1:Int):Rat))*(dG)):=Sz.mono (Sz.mul fy eM) (by omega)
 refine ⟨_,_,_,_,_,_,_,rfl,fun V9 l9=>(cW (g20.le (l5.trans (l6.trans (l7.trans (l8.trans (l9)))))) (Gc.le (l9)) cM l_ (by omega)).mono ?_⟩
 rintro r jr l10 g5
 have EJ:=g5
 obtain ⟨W6,W7,W8,W9,W_,Xa,rfl⟩:=g5.shape
 have Fq:Sz (4*k+3) (((((aZ:Int):Rat))*(dF))+((((l_1:Int):Rat))*(dG))):=Sz.mono (Sz.add cM l_) (by omega)
 refine ⟨_,_,_,_,_,_,_,rfl,fun jP bN=>(mE (An.le (l1.trans (l2.trans (l3.trans (l4.trans (l5.trans (l6.trans (l7.trans (l8.trans (l9.trans (l10.trans (bN)))))))))))) bU (by omega)).mono ?_⟩
 rintro r nk cK g6
 have Ml:=g6
 obtain ⟨Xb,Xc,Xd,Xe,Xf,Xg,rfl⟩:=g6.shape
 have N9:Sz (1*k+0) (((cU:Int):Rat)):=Sz.mono (bU) (by omega)
 refine ⟨_,_,_,_,_,_,_,rfl,fun qu c_=>(cW (EJ.le (bN.trans (cK.trans (c_)))) (Ml.le (c_)) Fq N9 (by omega)).mono ?_⟩
 rintro r nq eR g7
 have Ft:=g7
 obtain ⟨Xi,Xj,Xk,Xl,Xm,Xn,rfl⟩:=g7.shape
 have VW:Sz (5*k+4) ((((((aZ:Int):Rat))*(dF))+((((l_1:Int):Rat))*(dG)))+(((cU:Int):Rat))):=Sz.mono (Sz.add Fq N9) (by omega)
 exact ⟨_,_,_,_,_,_,_,rfl,fun ma dR=>(Ft.le (dR))⟩
theorem RA.shape {V:View}{v:Value}{q:Rat}(h:RA V v q):∃b p n c p' n' c',v=.agg #[.bool b,.slice p n c,.slice p' n' c']:=by
 obtain ⟨p,n,c,p',n',c',e,-⟩:=h;exact ⟨_,_,_,_,_,_,_,e⟩
def Ee (V:View)(v:Value)(x y:Rat):Prop:=∃b p n c p' n' c' d q m e q' m' e',v=.agg #[.bool b,.slice p n c,.slice p' n' c',.bool d,.slice q m e,.slice q' m' e'] /\
 RA V (.agg #[.bool b,.slice p n c,.slice p' n' c']) x/\RA V (.agg #[.bool d,.slice q m e,.slice q' m' e']) y
theorem Ee.le {V V':View}{v:Value}{x y:Rat}(h:Ee V v x y)(l:V.Le V'):Ee V' v x y:=by
 obtain ⟨b,p,n,c,p',n',c',d,q,m,e,q',m',e',rfl,h1,h2⟩:=h
 exact ⟨_,_,_,_,_,_,_,_,_,_,_,_,_,_,rfl,h1.le l,h2.le l⟩
theorem B4 {V:View}{v:Value}{x y:Rat}(h:Ee V v x y){k:Nat}(s1:Sz k x)(s2:Sz k y)(hk:k<=1099511627776) :
  ab prog 115 #[v] V fun r V'=>kF V' r x y:=by
 obtain ⟨b,p,n,c,p',n',c',d,q,m,e,q',m',e',rfl,h1,h2⟩:=h
 refine qp b p n c p' n' c' d q m e q' m' e' V _ fun V1 l1=>(wA (h1.le l1) s1 hk).mono ?_
 rintro r V2 l2 g1
 have g10:=g1
 obtain ⟨u,v,w,rfl⟩:=g1.shape
 refine ⟨_,_,_,rfl,fun V3 l3=>(wA (h2.le (l1.trans (l2.trans l3))) s2 hk).mono ?_⟩
 rintro r V4 l4 g2
 have g20:=g2
 obtain ⟨u,v,w,rfl⟩:=g2.shape
 exact ⟨_,_,_,rfl,fun V5 l5=>⟨_,_,_,_,_,_,rfl,g10.le (l3.trans (l4.trans l5)),g20.le l5⟩⟩
theorem nB {V:View}{v:Value}{x y:Rat}(h:kF V v x y){k:Nat}(s1:Sz k x)(s2:Sz k y)(hk:k<=1099511627776) :
  ab prog 80 #[v] V fun r V'=>Ee V' r x y:=by
 obtain ⟨p0,p1,p2,p3,p4,p5,rfl,h1,h2⟩:=h
 refine vD p0 p1 p2 p3 p4 p5 V _ fun V1 l1=>(xN (h1.le l1) s1 hk).mono ?_
 rintro r V2 l2 g1
 have g10:=g1
 obtain ⟨_,_,_,_,_,_,_,rfl⟩:=g1.shape
 refine ⟨_,_,_,_,_,_,_,rfl,fun V3 l3=>(xN (h2.le (l1.trans (l2.trans l3))) s2 hk).mono ?_⟩
 rintro r V4 l4 g2
 have g20:=g2
 obtain ⟨_,_,_,_,_,_,_,rfl⟩:=g2.shape
 exact ⟨_,_,_,_,_,_,_,rfl,fun V5 l5=>⟨_,_,_,_,_,_,_,_,_,_,_,_,_,_,rfl,g10.le (l3.trans (l4.trans l5)),g20.le l5⟩⟩
theorem uL {V:View}{l p:Value}{aZ l_1 cU dF dG:Rat}(hl:uH V l aZ l_1 cU)(hp:kF V p dF dG){k:Nat}(s0:Sz k aZ)(s1:Sz k l_1)(s2:Sz k cU)(s3:Sz k dF)(s4:Sz k dG)(hk:16*k+16<274877906944) :
  ab prog 131 #[l,p] V fun r V'=>r=.int .i64 (aZ*dF+l_1*dG+cU).num.sign:=by
 have hl0:=hl
 have hp0:=hp
 obtain ⟨a0,a1,a2,a3,a4,a5,a6,a7,a8,rfl,-,-,-⟩:=hl
 obtain ⟨p0,p1,p2,p3,p4,p5,rfl,-,-⟩:=hp
 refine uf a0 a1 a2 a3 a4 a5 a6 a7 a8 p0 p1 p2 p3 p4 p5 V _ fun V1 l1=>(hJ (hl0.le l1) (hp0.le l1) s0 s1 s2 s3 s4 (by omega)).mono ?_
 rintro r V2 l2 g
 have g0:=g
 obtain ⟨u,v,w,rfl⟩:=g.shape
 refine ⟨_,_,_,rfl,fun V3 l3=>(dw (g0.le l3) (jN s0 s1 s2 s3 s4) (by omega)).mono ?_⟩
 rintro r V4 l4 rfl
 exact ⟨_,rfl,fun V5 l5=>rfl⟩
theorem pR {V:View}{v:Value}{q:Rat}(h:RQ V v q){k:Nat}(s:Sz k q)(hk:k<=1099511627776):ab prog 36 #[v] V fun r V'=>RA V' r q:=by
 obtain ⟨p,n,c,p',n',c',rfl,h1,h2⟩:=h
 have q1:=af s.1
 have q2:=af s.2
 refine yY _ p n c p' n' c' V _ fun V1 l1=>(iO ⟨_,_,_,rfl,h1.le l1⟩ (by omega)).mono ?_
 rintro r V2 l2 ⟨p1,n1,c1,rfl,g1⟩
 refine ⟨_,_,_,_,rfl,fun V3 l3=>(cw q _ (h2.le (l1.trans (l2.trans l3)))).mono ?_⟩
 rintro r V4 l4 ⟨p2,n2,c2,rfl,g2⟩
 refine ⟨_,_,_,rfl,fun V5 l5=>(pQ (g2.le l5) (by omega)).mono ?_⟩
 rintro r V6 l6 ⟨p3,n3,c3,rfl,g3⟩
 exact ⟨_,_,_,rfl,fun V7 l7=>⟨_,_,_,_,_,_,rfl,g1.le (l3.trans (l4.trans (l5.trans (l6.trans l7)))),g3.le l7⟩⟩
theorem pT {V:View}{v:Value}{x y:Rat}(h:RP V v x y){k:Nat}(s1:Sz k x)(s2:Sz k y)(hk:k<=1099511627776):ab prog 53 #[v] V fun r V'=>Ee V' r x y:=by
 obtain ⟨p1,n1,c1,p2,n2,c2,p3,n3,c3,p4,n4,c4,rfl,h1,h2⟩:=h
 refine zf _ p1 n1 c1 p2 n2 c2 _ p3 n3 c3 p4 n4 c4 V _ fun V1 l1=>(pR (h1.le l1) s1 hk).mono ?_
 rintro r V2 l2 g1
 have g10:=g1
 obtain ⟨_,_,_,_,_,_,_,rfl⟩:=g1.shape
 refine ⟨_,_,_,_,_,_,_,rfl,fun V3 l3=>(pR (h2.le (l1.trans (l2.trans l3))) s2 hk).mono ?_⟩
 rintro r V4 l4 g2
 have g20:=g2
 obtain ⟨_,_,_,_,_,_,_,rfl⟩:=g2.shape
 exact ⟨_,_,_,_,_,_,_,rfl,fun V5 l5=>⟨_,_,_,_,_,_,_,_,_,_,_,_,_,_,rfl,g10.le (l3.trans (l4.trans l5)),g20.le l5⟩⟩
theorem mi {V:View}{v w:Value}{x y:Rat}(hx:RA V v x)(hy:RA V w y){k:Nat}(s:Sz k x)(hk:k<=1099511627776) :
  ab prog 35 #[v,w] V fun r V'=>r=.bool (decide (x=y)):=by
 obtain ⟨p,n,c,p',n',c',rfl,h1,h2⟩:=hx
 obtain ⟨q,m,e,q',m',e',rfl,h3,h4⟩:=hy
 have q1:=af s.1
 have q2:=af s.2
 refine uu _ p n c p' n' c' _ q m e q' m' e' V _ fun V1 l1=>(fP (h1.le l1) (h3.le l1) (by omega)).mono ?_
 rintro r V2 l2 rfl
 refine ⟨_,rfl,fun g V3 l3=>(mh (h2.le (l1.trans (l2.trans l3))) (h4.le (l1.trans (l2.trans l3))) (by omega)).mono ?_,fun g V6 l6=>?_⟩
 ·have g:=of_decide_eq_true g
  rintro r V4 l4 rfl
  refine ⟨_,rfl,fun V5 l5=>?_⟩
  have e:ah x.den=ah y.den↔x=y:=⟨fun h=>Rat.ext g (by have:=congrArg val h;rwa [ae,ae] at this),fun h=>by rw [h]⟩
  rw [show decide (ah x.den=ah y.den)=decide (x=y) from by rw [decide_eq_decide];exact e]
 ·have g:=of_decide_eq_false g
  rw [decide_eq_false (fun h=>g (by rw [h]))]
theorem uQ {V:View}{v w:Value}{x y x' y':Rat}(h:Ee V v x y)(h':Ee V w x' y'){k:Nat}(s1:Sz k x)(s2:Sz k y)(hk:k<=1099511627776) :
  ab prog 89 #[v,w] V fun r V'=>r=.bool (decide (x=x'/\y=y')):=by
 obtain ⟨b,p,n,c,p',n',c',d,q,m,e,q',m',e',rfl,h1,h2⟩:=h
 obtain ⟨b1,p1,n1,c1,Np,n1',c1',d1,q1,m1,e1,q1',U2,Kl,rfl,h3,h4⟩:=h'
 refine ux b p n c p' n' c' d q m e q' m' e' b1 p1 n1 c1 Np n1' c1' d1 q1 m1 e1 q1' U2 Kl V _ fun V1 l1=>(mi (h1.le l1) (h3.le l1) s1 hk).mono ?_
 rintro r V2 l2 rfl
 refine ⟨_,rfl,fun g V3 l3=>(mi (h2.le (l1.trans (l2.trans l3))) (h4.le (l1.trans (l2.trans l3))) s2 hk).mono ?_,fun g V6 l6=>?_⟩
 ·have g:=of_decide_eq_true g
  rintro r V4 l4 rfl
  exact ⟨_,rfl,fun V5 l5=>by simp [g]⟩
 ·have g:=of_decide_eq_false g
  simp [g]
def M6 (a b c:Rat):L3:=
 let f:Nat:=a.den*b.den*c.den
 yl (a*((f:Int):Rat)).num (b*((f:Int):Rat)).num (c*((f:Int):Rat)).num
theorem jZ {V:View}(n:Int)(d:Nat)(h0:-1000<=n)(h1:n<=1000)(hd0:d≠0)(hd:d<=1000) :
  ab prog 75 #[.int .i64 n,.int .i64 (d:Int)] V fun r V'=>RQ V' r (mkRat n d):=by
 refine Bx n d V _ fun V1 l1=>(wG n (by omega) (by omega)).mono ?_
 rintro r V2 l2 ⟨p,m,c,rfl,g⟩
 rw [aL (by omega)]
 refine ⟨_,_,_,_,rfl,fun V3 l3=>(cX d (by omega)).mono ?_⟩
 rintro r V4 l4 ⟨p2,m2,c2,rfl,g2⟩
 refine ⟨_,_,_,rfl,fun V5 l5=>(ib n (g.le (l3.trans (l4.trans l5))) (g2.le l5) (Nat.le_trans (af (k:=10) (by omega)) (by omega)) (Nat.le_trans (af (k:=10) (by omega)) (by omega)) hd0).mono ?_⟩
 rintro r V6 l6 h
 have h':=h
 obtain ⟨_,_,_,_,_,_,rfl⟩:=h.shape
 exact ⟨_,_,_,_,_,_,_,rfl,fun V7 l7=>h'.le l7⟩
theorem Jh:∀x:Fin 9,Sz 10 (mkRat (2*((x.1:Int)-4)+1) 2)/\Sz 10 (mkRat (3*((x.1:Int)-4)+1) 3):=by unfold Sz;decide +kernel
theorem RY {V:View}{tb:Nat}{p:OA}{n c:Nat}{at_:Int}(hr:Fs V p n)(hn:n<=400)(hw:nt V tb p n c at_)(hx:V.X tb)(h0:0<=at_) :
  ab prog 74 #[.pointer (some ⟨tb,0,none⟩)] V fun r V'=>∃(q:Rat)(at':Int),RQ V' r q/\Sz 10 q/\0<=at'/\nt V' tb p n c at':=by
 refine qX tb p n c at_ V _ hw hx fun V1 l1 bk1 e1 h1=>(oP (V:=V1.bf [bk1]) 9 (hr.le fun b o h=>l1 b o h) hn e1 ⟨by simp,h1⟩ h0 (by omega) (by omega)).mono ?_
 rintro r V2 l2 ⟨x,FJ,rfl,x0,x1,t1,hw1⟩
 refine ⟨_,rfl,_,_,_,_,hw1,fun V3 l3 O5 e3 h3=>(oP (V:=V3.bf [O5]) 6 (hr.le fun b o h=>l3 b o (l2 b o (l1 b o h))) hn e3 ⟨by simp,h3⟩ t1 (by omega) (by omega)).mono ?_⟩
 rintro r V4 l4 ⟨y,at2,rfl,y0,y1,t2,hw2⟩
 obtain ⟨i,rfl⟩:∃i:Nat,x=i:=⟨x.toNat,by omega⟩
 obtain ⟨z1,z2⟩:=Jh ⟨i,by omega⟩
 dsimp only at z1 z2
 have w1:i64.wrap ((i:Int)-4)=(i:Int)-4:=ay (by omega)
 have w2:i64.wrap (i64.wrap (2*((i:Int)-4))+1)=2*((i:Int)-4)+1:=by rw [ay (x:=2*((i:Int)-4)) (by omega),ay (by omega)]
 have w3:i64.wrap (i64.wrap (3*((i:Int)-4))+1)=3*((i:Int)-4)+1:=by rw [ay (x:=3*((i:Int)-4)) (by omega),ay (by omega)]
 rw [w1,w2,w3]
 refine ⟨_,rfl,_,_,_,_,hw2,fun _ V5 l5=>(jZ (2*((i:Int)-4)+1) 2 (by omega) (by omega) (by omega) (by omega)).mono ?_,fun _=>⟨fun _ V8 l8=>(jZ (3*((i:Int)-4)+1) 3 (by omega) (by omega) (by omega) (by omega)).mono ?_,fun _ jP bN=>(ic ((i:Int)-4) (by omega) (by omega)).mono ?_⟩⟩
 ·rintro r V6 l6 h
  have h':=h
  obtain ⟨_,_,_,_,_,_,rfl⟩:=h.shape
  exact ⟨_,_,_,_,_,_,_,rfl,fun V7 l7 e7=>⟨_,at2,h'.le l7,z1,t2,e7⟩⟩
 ·rintro r V6 l6 h
  have h':=h
  obtain ⟨_,_,_,_,_,_,rfl⟩:=h.shape
  exact ⟨_,_,_,_,_,_,_,rfl,fun V7 l7 e7=>⟨_,at2,h'.le l7,z2,t2,e7⟩⟩
 ·rintro r V6 l6 h
  have h':=h
  obtain ⟨_,_,_,_,_,_,rfl⟩:=h.shape
  exact ⟨_,_,_,_,_,_,_,rfl,fun V7 l7 e7=>⟨_,at2,h'.le l7,D7 (by omega),t2,e7⟩⟩
theorem xS {V:View}{l p:Value}{aZ l_1 cU:Int}{dF dG:Rat}(hl:RL V l aZ l_1 cU)(hp:RP V p dF dG){k:Nat}(s0:Sz k ((aZ:Int):Rat))(s1:Sz k ((l_1:Int):Rat))(s2:Sz k ((cU:Int):Rat))(s3:Sz k dF)(s4:Sz k dG)(hk:16*k+16<274877906944) :
  ab prog 76 #[l,p] V fun r V'=>r=.int .i64 ((aZ:Rat)*dF+(l_1:Rat)*dG+(cU:Rat)).num.sign:=by
 have hl0:=hl
 have hp0:=hp
 obtain ⟨a0,a1,a2,a3,a4,a5,a6,a7,a8,rfl,-,-,-⟩:=hl
 obtain ⟨p0,p1,p2,p3,p4,p5,p6,p7,p8,p9,Hb,Lx,rfl,-,-⟩:=hp
 refine vM _ a0 a1 a2 _ a3 a4 a5 _ a6 a7 a8 _ p0 p1 p2 p3 p4 p5 _ p6 p7 p8 p9 Hb Lx V _ fun V1 l1=>(uR (hl0.le l1) (hp0.le l1) s0 s1 s2 s3 s4 (by omega)).mono ?_
 rintro r V2 l2 ⟨u0,u1,u2,u3,u4,u5,rfl,g1,g2⟩
 refine ⟨_,_,_,_,_,_,_,rfl,fun V3 l3=>(Dx _ (g1.le l3)).mono ?_⟩
 rintro r V4 l4 rfl
 exact ⟨_,rfl,fun V5 l5=>rfl⟩
theorem zQ {V:View}{l:Value}{a b c:Int}(hl:RL V l a b c):ab prog 41 #[l] V fun r V'=>RL V' r (-a) (-b) (-c):=by
 obtain ⟨a0,a1,a2,a3,a4,a5,a6,a7,a8,rfl,h1,h2,h3⟩:=hl
 refine y_ _ a0 a1 a2 _ a3 a4 a5 _ a6 a7 a8 V _ fun V1 l1=>(iN a (h1.le l1)).mono ?_
 rintro r V2 l2 ⟨p1,n1,c1,rfl,g1⟩
 refine ⟨_,_,_,_,rfl,fun V3 l3=>(iN b (h2.le (l1.trans (l2.trans l3)))).mono ?_⟩
 rintro r V4 l4 ⟨p2,n2,c2,rfl,g2⟩
 refine ⟨_,_,_,_,rfl,fun V5 l5=>(iN c (h3.le (l1.trans (l2.trans (l3.trans (l4.trans l5)))))).mono ?_⟩
 rintro r V6 l6 ⟨p3,n3,c3,rfl,g3⟩
 exact ⟨_,_,_,_,rfl,fun V7 l7=>⟨_,_,_,_,_,_,_,_,_,rfl,g1.le (l3.trans (l4.trans (l5.trans (l6.trans l7)))),g2.le (l5.trans (l6.trans l7)),g3.le l7⟩⟩
end Go.Proofs.Tryz
namespace Go.bw
open Go.eN
theorem RR.zero (V:View):RR V (.agg #[.int .i64 0,.int .i64 0,.pointer none]) 0:=.inl ⟨rfl,by unfold Wd;decide⟩
end Go.bw
namespace Go.Proofs.Tryz
open Go.bw Go.eN
structure Sp where
 lo:Rat
 hi:Rat
 a:Bool
 b:Bool
def Sp.can (s:Sp):Prop:=(s.a=true->s.lo=0)/\(s.b=true->s.hi=0)
def Sp.sz (k:Nat)(s:Sp):Prop:=Sz k s.lo/\Sz k s.hi
def Sp.zero:Sp:=⟨0,0,false,false⟩
def lA (k:Nat)(l:L3):Prop:=Sz k (l.1:Rat)/\Sz k (l.2.1:Rat)/\Sz k (l.2.2:Rat)
def Dn (V:View)(v:Value)(s:Sp):Prop:=∃(x1 x2:Int)(p:OA)(y1 y2:Int)(q:OA),v=.agg #[.int .i64 x1,.int .i64 x2,.pointer p,.int .i64 y1,.int .i64 y2,.pointer q,.bool s.a,.bool s.b] /\
 RR V (.agg #[.int .i64 x1,.int .i64 x2,.pointer p]) s.lo/\RR V (.agg #[.int .i64 y1,.int .i64 y2,.pointer q]) s.hi
theorem Dn.le {V V':View}{v:Value}{s:Sp}(h:Dn V v s)(l:V.Le V'):Dn V' v s:=by
 obtain ⟨x1,x2,p,y1,y2,q,e,h1,h2⟩:=h
 exact ⟨x1,x2,p,y1,y2,q,e,h1.le l,h2.le l⟩
def uB (V:View)(v:Value)(l:L3):Prop:=uH V v (l.1:Rat) (l.2.1:Rat) (l.2.2:Rat)
theorem uB.le {V V':View}{v:Value}{l:L3}(h:uB V v l)(e:V.Le V'):uB V' v l:=uH.le h e
def J4 (V:View)(v:Value)(l:L3)(s:Sp):Prop:=∃(x1 x2:Int)(p:OA)(y1 y2:Int)(q:OA)(z1 z2:Int)(r:OA)(u1 u2:Int)(t:OA)(w1 w2:Int)(o:OA),
 v=.agg #[.int .i64 x1,.int .i64 x2,.pointer p,.int .i64 y1,.int .i64 y2,.pointer q,.int .i64 z1,.int .i64 z2,.pointer r,.int .i64 u1,.int .i64 u2,.pointer t,.int .i64 w1,.int .i64 w2,.pointer o,.bool s.a,.bool s.b] /\
 uB V (.agg #[.int .i64 x1,.int .i64 x2,.pointer p,.int .i64 y1,.int .i64 y2,.pointer q,.int .i64 z1,.int .i64 z2,.pointer r]) l /\
 Dn V (.agg #[.int .i64 u1,.int .i64 u2,.pointer t,.int .i64 w1,.int .i64 w2,.pointer o,.bool s.a,.bool s.b]) s
theorem J4.le {V V':View}{v:Value}{l:L3}{s:Sp}(h:J4 V v l s)(e:V.Le V'):J4 V' v l s:=by
 obtain ⟨x1,x2,p,y1,y2,q,z1,z2,r,u1,u2,t,w1,w2,o,rfl,h1,h2⟩:=h
 exact ⟨x1,x2,p,y1,y2,q,z1,z2,r,u1,u2,t,w1,w2,o,rfl,h1.le e,h2.le e⟩
def H2 (V:View)(v:Value)(b:Bool)(xs ys:List Nat):Prop:=∃p n c p' n' c',v=.agg #[.bool b,.slice p n c,.slice p' n' c']/\RD V p n c xs/\RD V p' n' c' ys
theorem H2.le {V V':View}{v:Value}{b:Bool}{xs ys:List Nat}(h:H2 V v b xs ys)(l:V.Le V'):H2 V' v b xs ys:=by
 obtain ⟨p,n,c,p',n',c',e,h1,h2⟩:=h;exact ⟨p,n,c,p',n',c',e,h1.le l,h2.le l⟩
theorem H2.nil {V:View}:H2 V (.agg #[.bool false,.slice none 0 0,.slice none 0 0]) false [] []:=⟨_,_,_,_,_,_,rfl,RD.nil,RD.nil⟩
def RE (V:View)(v:Value)(q:Rat)(no:Bool):Prop:=(no=true->H2 V v false [] [])/\(no=false->RA V v q)
theorem RE.le {V V':View}{v:Value}{q:Rat}{no:Bool}(h:RE V v q no)(l:V.Le V'):RE V' v q no:=⟨fun e=>(h.1 e).le l,fun e=>(h.2 e).le l⟩
theorem RE.shape {V:View}{v:Value}{q:Rat}{no:Bool}(h:RE V v q no):∃b p n c p' n' c',v=.agg #[.bool b,.slice p n c,.slice p' n' c']:=by
 cases no with
 | true=>obtain ⟨_,_,_,_,_,_,e,-⟩:=h.1 rfl;exact ⟨_,_,_,_,_,_,_,e⟩
 | false=>exact (h.2 rfl).shape
def Oe (V:View)(v:Value)(s:Sp):Prop:=∃b p n c p' n' c' d q m e q' m' e',v=.agg #[.bool b,.slice p n c,.slice p' n' c',.bool d,.slice q m e,.slice q' m' e',.bool s.a,.bool s.b] /\
 RE V (.agg #[.bool b,.slice p n c,.slice p' n' c']) s.lo s.a/\RE V (.agg #[.bool d,.slice q m e,.slice q' m' e']) s.hi s.b
theorem Oe.le {V V':View}{v:Value}{s:Sp}(h:Oe V v s)(l:V.Le V'):Oe V' v s:=by
 obtain ⟨b,p,n,c,p',n',c',d,q,m,e,q',m',e',rfl,h1,h2⟩:=h
 exact ⟨_,_,_,_,_,_,_,_,_,_,_,_,_,_,rfl,h1.le l,h2.le l⟩
def Lk (V:View)(v:Value)(l:L3)(s:Sp):Prop:=∃b1 p1 n1 c1 b2 p2 n2 c2 b3 p3 n3 c3 b p n c p' n' c' d q m e q' m' e',
 v=.agg #[.bool b1,.slice p1 n1 c1,.bool b2,.slice p2 n2 c2,.bool b3,.slice p3 n3 c3,.bool b,.slice p n c,.slice p' n' c',.bool d,.slice q m e,.slice q' m' e',.bool s.a,.bool s.b] /\
 RL V (.agg #[.bool b1,.slice p1 n1 c1,.bool b2,.slice p2 n2 c2,.bool b3,.slice p3 n3 c3]) l.1 l.2.1 l.2.2/\Oe V (.agg #[.bool b,.slice p n c,.slice p' n' c',.bool d,.slice q m e,.slice q' m' e',.bool s.a,.bool s.b]) s
theorem Lk.le {V V':View}{v:Value}{l:L3}{s:Sp}(h:Lk V v l s)(e:V.Le V'):Lk V' v l s:=by
 obtain ⟨b1,p1,n1,c1,b2,p2,n2,c2,b3,p3,n3,c3,b,p,n,c,p',n',c',d,q,m,f,q',m',f',rfl,h1,h2⟩:=h
 exact ⟨_,_,_,_,_,_,_,_,_,_,_,_,_,_,_,_,_,_,_,_,_,_,_,_,_,_,rfl,h1.le e,h2.le e⟩
def LG (V:View)(v:Value)(s:Sp):Prop:=∃b p n c p' n' c' d q m e q' m' e',v=.agg #[.bool b,.slice p n c,.slice p' n' c',.bool d,.slice q m e,.slice q' m' e',.bool s.a,.bool s.b] /\
 RQ V (.agg #[.bool b,.slice p n c,.slice p' n' c']) s.lo/\RQ V (.agg #[.bool d,.slice q m e,.slice q' m' e']) s.hi
theorem LG.le {V V':View}{v:Value}{s:Sp}(h:LG V v s)(l:V.Le V'):LG V' v s:=by
 obtain ⟨b,p,n,c,p',n',c',d,q,m,e,q',m',e',rfl,h1,h2⟩:=h
 exact ⟨_,_,_,_,_,_,_,_,_,_,_,_,_,_,rfl,h1.le l,h2.le l⟩
def RF (V:View)(v:Value)(l:L3)(s:Sp):Prop:=∃b1 p1 n1 c1 b2 p2 n2 c2 b3 p3 n3 c3 b p n c p' n' c' d q m e q' m' e',
 v=.agg #[.bool b1,.slice p1 n1 c1,.bool b2,.slice p2 n2 c2,.bool b3,.slice p3 n3 c3,.bool b,.slice p n c,.slice p' n' c',.bool d,.slice q m e,.slice q' m' e',.bool s.a,.bool s.b] /\
 RL V (.agg #[.bool b1,.slice p1 n1 c1,.bool b2,.slice p2 n2 c2,.bool b3,.slice p3 n3 c3]) l.1 l.2.1 l.2.2/\LG V (.agg #[.bool b,.slice p n c,.slice p' n' c',.bool d,.slice q m e,.slice q' m' e',.bool s.a,.bool s.b]) s
theorem RF.le {V V':View}{v:Value}{l:L3}{s:Sp}(h:RF V v l s)(e:V.Le V'):RF V' v l s:=by
 obtain ⟨b1,p1,n1,c1,b2,p2,n2,c2,b3,p3,n3,c3,b,p,n,c,p',n',c',d,q,m,f,q',m',f',rfl,h1,h2⟩:=h
 exact ⟨_,_,_,_,_,_,_,_,_,_,_,_,_,_,_,_,_,_,_,_,_,_,_,_,_,_,rfl,h1.le e,h2.le e⟩
def ar (l:L3)(x y:Rat):Rat:=(l.1:Rat)*x+(l.2.1:Rat)*y+(l.2.2:Rat)
def iW (l:L3):Rat:=(l.1:Rat)*(l.1:Rat)+(l.2.1:Rat)*(l.2.1:Rat)
def Hi (l:L3)(x y:Rat):Rat:=((l.2.1:Rat)*x-(l.1:Rat)*y)*(iW l)⁻¹
def fB (l:L3)(t:Rat):Rat:=(l.2.1:Rat)*t-(l.1:Rat)*(l.2.2:Rat)*(iW l)⁻¹
def fC (l:L3)(t:Rat):Rat:=-((l.1:Rat)*t)-(l.2.1:Rat)*(l.2.2:Rat)*(iW l)⁻¹
def iw (l:L3):L3:=(-l.1,-l.2.1,-l.2.2)
def Sp.neg (s:Sp):Sp:=⟨if s.b then 0 else -s.hi,if s.a then 0 else -s.lo,s.b,s.a⟩
def Sp.emp (s:Sp):Bool:=!s.a&&!s.b&&decide (fI s.lo s.hi≥0)
def Nz (l:L3):Prop:=¬(l.1=0/\l.2.1=0)
theorem sq_nonneg (x:Int):0<=x*x:=by
 rw [←Int.natAbs_mul_self];exact Int.natCast_nonneg _
theorem G5 (l:L3):iW l=((l.1*l.1+l.2.1*l.2.1:Int):Rat):=by unfold iW;simp
theorem Nz.norm {l:L3}(h:Nz l):iW l≠0:=by
 rw [G5]
 have h1:=sq_nonneg l.1
 have h2:=sq_nonneg l.2.1
 have h3:l.1*l.1+l.2.1*l.2.1≠0:=by
  intro e
  have e1:l.1*l.1=0:=by omega
  have e2:l.2.1*l.2.1=0:=by omega
  exact h ⟨(Int.mul_eq_zero.1 e1).elim id id,(Int.mul_eq_zero.1 e2).elim id id⟩
 exact_mod_cast h3
theorem ML {V:View}{l t:Value}{L:L3}{x:Rat}(hl:uB V l L)(ht:RR V t x){k:Nat}(sl:lA k L)(s1:Sz k x)(hk:20*k+19<274877906944) :
  ab prog 132 #[l,t] V fun r V'=>kF V' r (fB L x) (fC L x):=by
 refine (zN hl ht sl.1 sl.2.1 sl.2.2 s1 hk).mono ?_
 rintro r V2 l2 g
 have e1:fB L x=((L.1:Rat)*((-(L.2.2:Rat))*((L.1:Rat)*(L.1:Rat)+(L.2.1:Rat)*(L.2.1:Rat))⁻¹))+((L.2.1:Rat)*x):=by unfold fB iW;grind
 have e2:fC L x=((L.2.1:Rat)*((-(L.2.2:Rat))*((L.1:Rat)*(L.1:Rat)+(L.2.1:Rat)*(L.2.1:Rat))⁻¹))+((-(L.1:Rat))*x):=by unfold fC iW;grind
 rw [e1,e2];exact g
theorem HL {L:L3}{x:Rat}{k:Nat}(sl:lA k L)(s1:Sz k x):Sz (20*k+19) (fB L x):=by
 have e1:fB L x=((L.1:Rat)*((-(L.2.2:Rat))*((L.1:Rat)*(L.1:Rat)+(L.2.1:Rat)*(L.2.1:Rat))⁻¹))+((L.2.1:Rat)*x):=by unfold fB iW;grind
 rw [e1];exact vS sl.1 sl.2.1 sl.2.2 s1
theorem HM {L:L3}{x:Rat}{k:Nat}(sl:lA k L)(s1:Sz k x):Sz (20*k+19) (fC L x):=by
 have e2:fC L x=((L.2.1:Rat)*((-(L.2.2:Rat))*((L.1:Rat)*(L.1:Rat)+(L.2.1:Rat)*(L.2.1:Rat))⁻¹))+((-(L.1:Rat))*x):=by unfold fC iW;grind
 rw [e2];exact vT sl.1 sl.2.1 sl.2.2 s1
theorem Ct {V:View}{l p:Value}{L:L3}{x y:Rat}(hl:uB V l L)(hp:kF V p x y){k:Nat}(sl:lA k L)(s1:Sz k x)(s2:Sz k y)(hk:16*k+16<274877906944) :
  ab prog 131 #[l,p] V fun r V'=>r=.int .i64 (ar L x y).num.sign:=uL hl hp sl.1 sl.2.1 sl.2.2 s1 s2 hk
theorem lA.rev {k:Nat}{L:L3}(h:lA k L):lA k (iw L):=by
 unfold lA iw
 simp only [Rat.intCast_neg]
 exact ⟨h.1.neg,h.2.1.neg,h.2.2.neg⟩
theorem K1 {V:View}{l p:Value}{L:L3}{x y:Rat}(hl:RL V l L.1 L.2.1 L.2.2)(hp:RP V p x y){k:Nat}(sl:lA k L)(s1:Sz k x)(s2:Sz k y)(hk:16*k+16<274877906944) :
  ab prog 76 #[l,p] V fun r V'=>r=.int .i64 (ar L x y).num.sign:=xS hl hp sl.1 sl.2.1 sl.2.2 s1 s2 hk
structure OS (V:View) (vs:List Value) (i:Int) (f a b c:Rat):Prop where
 h0:0<=i
 h3:i<=3
 row:∃(x1 x2:Int)(p:OA)(y1 y2:Int)(q:OA)(z1 z2:Int)(r:OA),vs=[.int .i64 x1,.int .i64 x2,.pointer p,.int .i64 y1,.int .i64 y2,.pointer q,.int .i64 z1,.int .i64 z2,.pointer r] /\
  RR V (.agg #[.int .i64 x1,.int .i64 x2,.pointer p]) (if 0<i then a*f else a)/\RR V (.agg #[.int .i64 y1,.int .i64 y2,.pointer q]) (if 1<i then b*f else b)/\RR V (.agg #[.int .i64 z1,.int .i64 z2,.pointer r]) (if 2<i then c*f else c)
theorem OS.le {V V':View}{vs:List Value}{i:Int}{f a b c:Rat}(h:OS V vs i f a b c)(l:V.Le V'):OS V' vs i f a b c:=by
 obtain ⟨h0,h3,x1,x2,p,y1,y2,q,z1,z2,r,e,g1,g2,g3⟩:=h
 exact ⟨h0,h3,x1,x2,p,y1,y2,q,z1,z2,r,e,g1.le l,g2.le l,g3.le l⟩
def CV (px py qx qy:Rat):L3:=M6 (-(qy-py)) (qx-px) (-(-(qy-py)*px+(qx-px)*py))
theorem Jk {px py qx qy:Rat}:(px=qx/\py=qy)↔(-(qy-py)=0/\qx-px=0):=⟨fun ⟨h1,h2⟩=>⟨by grind,by grind⟩,fun ⟨h1,h2⟩=>⟨by grind,by grind⟩⟩
def Fa (b:Bool)(xs ys:List Nat):Rat:=mkRat (aS b xs) (val ys)
def KR (b:Bool)(xs ys:List Nat):Bool:=kx b xs&&decide (ah (val ys)=ys)&&!decide (ys=[])&&decide (Nat.gcd (val xs) (val ys)=1)
def Re (b:Bool)(xs ys:List Nat):Bool:=!b&&decide (xs=[])&&decide (ys=[])
def Km (b:Bool)(xs ys:List Nat)(no:Bool):Rat:=if no then 0 else Fa b xs ys
def F8 (b:Bool)(xs ys:List Nat)(no:Bool):Bool:=if no then Re b xs ys else KR b xs ys
theorem DU {q:Rat}:KR (decide (q.num<0)) (ah q.num.natAbs) (ah q.den)=true/\Fa (decide (q.num<0)) (ah q.num.natAbs) (ah q.den)=q:=by
 constructor
 ·unfold KR
  have h1:kx (decide (q.num<0)) (ah q.num.natAbs)=true:=by
   unfold kx
   rw [ae]
   by_cases h:q.num<0
   ·have:ah q.num.natAbs≠[]:=fun e=>by have:=bh.1 e;omega
    simp [h,this]
   ·simp [h]
  have h2:ah q.den≠[]:=fun e=>q.den_nz (bh.1 e)
  rw [h1,ae,ae]
  simp [h2,q.reduced]
 ·unfold Fa
  rw [aF,ae,Rat.mkRat_self]
theorem B0 {V:View}{v:Value}{s:Sp}(h:Dn V v s){k:Nat}(hs:s.sz k)(hk:2*k<1099511627776) :
  ab prog 223 #[v] V fun r V'=>r=.bool s.emp:=by
 obtain ⟨x1,x2,p,y1,y2,q,rfl,h1,h2⟩:=h
 refine qK x1 x2 p y1 y2 q s.a s.b V _ ⟨fun ha=>⟨fun hb V1 l1=>(jR (h1.le l1) (h2.le l1) hs.1 hs.2 (by omega)).mono ?_,fun hb V4 l4=>?_⟩,fun ha V5 l5=>?_⟩
 ·rintro r V2 l2 rfl
  exact ⟨_,rfl,fun V3 l3=>by rw [Bool.not_eq_true'] at ha hb;simp [Sp.emp,ha,hb]⟩
 ·rw [Bool.not_eq_false'] at hb;simp [Sp.emp,hb]
 ·rw [Bool.not_eq_false'] at ha;simp [Sp.emp,ha]
def Of (V:View)(v:Value)(b1:Bool)(Jo Jq:List Nat)(b2:Bool)(Jp Jr:List Nat)(na nb:Bool):Prop:=∃p n c p' n' c' q m e q' m' e',v=.agg #[.bool b1,.slice p n c,.slice p' n' c',.bool b2,.slice q m e,.slice q' m' e',.bool na,.bool nb] /\
 H2 V (.agg #[.bool b1,.slice p n c,.slice p' n' c']) b1 Jo Jq/\H2 V (.agg #[.bool b2,.slice q m e,.slice q' m' e']) b2 Jp Jr
theorem Of.le {V V':View}{v:Value}{b1:Bool}{Jo Jq:List Nat}{b2:Bool}{Jp Jr:List Nat}{na nb:Bool}(h:Of V v b1 Jo Jq b2 Jp Jr na nb)(l:V.Le V'):Of V' v b1 Jo Jq b2 Jp Jr na nb:=by
 obtain ⟨p,n,c,p',n',c',q,m,e,q',m',e',rfl,h1,h2⟩:=h
 exact ⟨_,_,_,_,_,_,_,_,_,_,_,_,rfl,h1.le l,h2.le l⟩
def NJ (b1:Bool)(Jo Jq:List Nat)(b2:Bool)(Jp Jr:List Nat)(na nb:Bool):Sp:=⟨Km b1 Jo Jq na,Km b2 Jp Jr nb,na,nb⟩
def okW (b1:Bool)(Jo Jq:List Nat)(b2:Bool)(Jp Jr:List Nat)(na nb:Bool):Bool:=F8 b1 Jo Jq na&&F8 b2 Jp Jr nb&&!(NJ b1 Jo Jq b2 Jp Jr na nb).emp
def S4 (l:L3)(s:Sp):Prop:=dV l=true/\s.can/\s.emp=false
theorem RE.raw {V:View}{v:Value}{q:Rat}{no:Bool}(h:RE V v q no)(hc:no=true->q=0):∃b xs ys,H2 V v b xs ys/\F8 b xs ys no=true/\Km b xs ys no=q/\(∀k,Sz k q->xs.length<=k/\ys.length<=k):=by
 cases no with
 | true=>
  exact ⟨false,[],[],h.1 rfl,rfl,by rw [hc rfl];rfl,fun k _=>⟨Nat.zero_le _,Nat.zero_le _⟩⟩
 | false=>
  obtain ⟨p,n,c,p',n',c',rfl,h1,h2⟩:=h.2 rfl
  exact ⟨_,_,_,⟨_,_,_,_,_,_,rfl,h1,h2⟩,DU.1,DU.2,fun k hk=>⟨af hk.1,af hk.2⟩⟩
theorem uB.TJ {V:View}{r:Value}{l:L3}(h:RL V r ((l.1:Rat)).num ((l.2.1:Rat)).num ((l.2.2:Rat)).num):RL V r l.1 l.2.1 l.2.2:=by
 simpa [Rat.num_intCast] using h
def Cy (x y:Rat):Rat:=if 0<fI y x then y else x
def kC (x y:Rat):Rat:=if fI y x<0 then y else x
theorem rf (x y:Rat):(x<y/\fI x y=-1)\/(x=y/\fI x y=0)\/(y<x/\fI x y=1):=by
 by_cases h1:x<y
 ·exact .inl ⟨h1,DC.1 h1⟩
 ·by_cases h2:x=y
  ·exact .inr (.inl ⟨h2,iQ.1 h2⟩)
  ·have h3:y<x:=by grind
   exact .inr (.inr ⟨h3,DB.1 h3⟩)
theorem Sp.nG {s:Sp}:s.emp=false↔(s.a=true\/s.b=true\/s.lo<s.hi):=by
 unfold Sp.emp
 rcases rf s.lo s.hi with ⟨h,e⟩|⟨h,e⟩|⟨h,e⟩<;>rw [e]<;>cases s.a<;>cases s.b<;>simp<;>grind
def Sp.meet (v w:Sp):Sp:=⟨if v.a then w.lo else if w.a then v.lo else Cy v.lo w.lo,if v.b then w.hi else if w.b then v.hi else kC v.hi w.hi,if v.a then w.a else false,if v.b then w.b else false⟩
theorem Sp.Ax {v w:Sp}(h1:v.can)(h2:w.can):(v.meet w).can:=by
 unfold Sp.meet
 constructor<;>dsimp only
 ·cases hv:v.a with
  | false=>intro h;cases h
  | true=>exact fun h=>h2.1 h
 ·cases hv:v.b with
  | false=>intro h;cases h
  | true=>exact fun h=>h2.2 h
def Sp.bq (s:Sp):Rat:=if s.a then (if s.b then 0 else s.hi-((1:Int):Rat)) else if s.b then s.lo+((1:Int):Rat) else (s.lo+s.hi)*((2:Int):Rat)⁻¹
theorem Sp.D1 {s:Sp}(h:s.emp=false):(s.a=false->s.lo<s.bq)/\(s.b=false->s.bq<s.hi):=by
 rw [Sp.nG] at h
 unfold Sp.bq
 cases ha:s.a<;>cases hb:s.b<;>simp [ha,hb] at h⊢<;> grind
def ig (m l:L3):Rat:=((m.1:Rat)*(l.2.1:Rat))+((m.2.1:Rat)*(-(l.1:Rat)))
def kG (m l:L3):Rat:=ar m (fB l 0) (fC l 0)
theorem yL (m l:L3)(t:Rat):ar m (fB l t) (fC l t)=kG m l+ig m l*t:=by
 unfold kG ar ig fB fC;grind
def gk (m l:L3):Rat:=-(kG m l*(ig m l)⁻¹)
def fl (l:L3)(s:Sp)(m:L3):Sp:=
 if (ig m l).num.sign==0 then s else if (ig m l).num.sign==1 then s.meet ⟨gk m l,0,false,true⟩ else s.meet ⟨0,gk m l,true,false⟩
def fk (l:L3)(s:Sp)(m:L3):Bool:=
 if (ig m l).num.sign==0 then decide ((kG m l).num.sign>0) else !(fl l s m).emp
theorem rB (q:Rat):(q=0/\q.num.sign=0)\/(0<q/\q.num.sign=1)\/(q<0/\q.num.sign=-1):=by
 have h1:=@AD q
 have h2:=@AE q
 have h3:=@Rat.num_eq_zero q
 rcases Int.lt_trichotomy q.num 0 with h|h|h
 ·exact .inr (.inr ⟨h1.1 h,Int.sign_eq_neg_one_of_neg h⟩)
 ·exact .inl ⟨h3.1 h,by rw [h];rfl⟩
 ·exact .inr (.inl ⟨h2.1 h,Int.sign_eq_one_of_pos h⟩)
theorem F3 {l:L3}{s:Sp}{m:L3}(he:s.emp=false)(hb:fk l s m=true):(fl l s m).emp=false:=by
 unfold fk at hb
 split at hb
 ·rename_i h
  unfold fl
  rw [if_pos h];exact he
 ·simpa using hb
theorem F4 {l:L3}{s:Sp}{m:L3}(hc:s.can):(fl l s m).can:=by
 unfold fl
 split
 ·exact hc
 ·split
  ·exact Sp.Ax hc ⟨(fun h=>nomatch h),fun _=>rfl⟩
  ·exact Sp.Ax hc ⟨fun _=>rfl,(fun h=>nomatch h)⟩
theorem val_rev (m:L3)(x y:Rat):ar (iw m) x y=-ar m x y:=by
 unfold ar iw;simp only [Rat.intCast_neg];grind
def bu (l m:L3):Rat:=((l.1:Rat)*(m.2.1:Rat))-((l.2.1:Rat)*(m.1:Rat))
def EV (l m:L3):Rat:=(((l.2.1:Rat)*(m.2.2:Rat))-((l.2.2:Rat)*(m.2.1:Rat)))*(bu l m)⁻¹
def EW (l m:L3):Rat:=(((l.2.2:Rat)*(m.1:Rat))-((l.1:Rat)*(m.2.2:Rat)))*(bu l m)⁻¹
theorem lA.ah {k:Nat}{l:L3}(h:lA k l)(hk:k<=1099511627776):(ah l.1.natAbs).length<=1099511627776/\(ah l.2.1.natAbs).length<=1099511627776/\(ah l.2.2.natAbs).length<=1099511627776:=by
 have d1:=af (show l.1.natAbs<2^k from h.1.1)
 have d2:=af (show l.2.1.natAbs<2^k from h.2.1.1)
 have d3:=af (show l.2.2.natAbs<2^k from h.2.2.1)
 exact ⟨by omega,by omega,by omega⟩
def Oa (V:View)(ad:Addr)(l:L3)(s:Sp):Prop:=∃xs:List Value,Lk V (.agg xs.toArray) l s/\∀i x,xs[i]?=some x->V.at (ad.add i) x
theorem Oa.le {V V':View}{ad:Addr}{l:L3}{s:Sp}(h:Oa V ad l s)(e:V.Le V'):Oa V' ad l s:=by
 obtain ⟨xs,h1,h2⟩:=h;exact ⟨xs,h1.le e,fun i x hx=>e.at (h2 i x hx)⟩
structure J3 (V:View) (p:OA) (n:Nat) (fs:List (L3×Sp)):Prop where
 len:n=fs.length
 at_:∀(i:Nat)(h:i<fs.length),∃ad,ag p (i*14)=some ad/\Oa V ad fs[i].1 fs[i].2
theorem J3.le {V V':View}{p:OA}{n:Nat}{fs:List (L3×Sp)}(h:J3 V p n fs)(e:V.Le V'):J3 V' p n fs:=⟨h.len,fun i hi=>by obtain ⟨ad,h1,h2⟩:=h.at_ i hi;exact ⟨ad,h1,h2.le e⟩⟩
theorem kQ {p:OA}{j:Nat}{ad:Addr}(h:ag p j=some ad):p.isSome=true:=by
 cases p with
 | none=>cases h
 | some a=>rfl
def Oh (V:View)(ad:Addr)(s:Sp):Prop:=∃xs:List Value,LG V (.agg xs.toArray) s/\∀i x,xs[i]?=some x->V.at (ad.add i) x
theorem Oh.le {V V':View}{ad:Addr}{s:Sp}(h:Oh V ad s)(e:V.Le V'):Oh V' ad s:=by
 obtain ⟨xs,h1,h2⟩:=h;exact ⟨xs,h1.le e,fun i x hx=>e.at (h2 i x hx)⟩
structure OR (V:View) (p:OA) (n:Nat) (ss:List Sp):Prop where
 len:n=ss.length
 at_:∀(i:Nat)(h:i<ss.length),∃ad,ag p (i*8)=some ad/\Oh V ad ss[i]
theorem OR.le {V V':View}{p:OA}{n:Nat}{ss:List Sp}(h:OR V p n ss)(e:V.Le V'):OR V' p n ss:=⟨h.len,fun i hi=>by obtain ⟨ad,h1,h2⟩:=h.at_ i hi;exact ⟨ad,h1,h2.le e⟩⟩
def Sp.la (s:Sp)(t:Rat):Int:=if s.a then 1 else fI t s.lo
def Sp.lb (s:Sp)(t:Rat):Int:=if s.b then -1 else fI t s.hi
theorem HO {px py qx qy:Rat}:((lg px py qx qy).1.num / (gf (lg px py qx qy).1.num (lg px py qx qy).2.1.num (lg px py qx qy).2.2.num:Int),(lg px py qx qy).2.1.num / (gf (lg px py qx qy).1.num (lg px py qx qy).2.1.num (lg px py qx qy).2.2.num:Int),(lg px py qx qy).2.2.num / (gf (lg px py qx qy).1.num (lg px py qx qy).2.1.num (lg px py qx qy).2.2.num:Int))=CV px py qx qy:=by
 unfold lg CV M6 yl
 have e:∀x:Rat,(-x).den=x.den:=fun x=>rfl
 rw [e (-(qy-py)*px+(qx-px)*py)]
 rfl
theorem HP {px py qx qy:Rat}:((lg px py qx qy).1.num=0/\(lg px py qx qy).2.1.num=0)↔(px=qx/\py=qy):=by
 unfold lg
 dsimp only
 generalize hf:(-(qy-py)).den*(qx-px).den*(-(-(qy-py)*px+(qx-px)*py)).den=f
 have hf0:f≠0:=by rw [←hf];exact Nat.mul_ne_zero (Nat.mul_ne_zero (Rat.den_nz _) (Rat.den_nz _)) (Rat.den_nz _)
 have hf1:((f:Int):Rat)≠0:=by exact_mod_cast hf0
 rw [Rat.num_eq_zero,Rat.num_eq_zero,Rat.mul_eq_zero,Rat.mul_eq_zero,or_iff_left hf1,or_iff_left hf1]
 exact Jk.symm
theorem E9 {V:View}{u w:Value}{px py qx qy:Rat}(hp:RP V u px py)(hq:RP V w qx qy){k:Nat}(s1:Sz k px)(s2:Sz k py)(s3:Sz k qx)(s4:Sz k qy)(hk1:1<=k)(hk:64*k+64<274877906944) :
  ab prog 11 #[u,w] V fun r V'=>(px=qx/\py=qy->∃l,r=.tuple #[l,.bool false]/\RL V' l 0 0 0)/\(¬(px=qx/\py=qy)->∃l,r=.tuple #[l,.bool true]/\RL V' l (CV px py qx qy).1 (CV px py qx qy).2.1 (CV px py qx qy).2.2):=by
 refine (kt hp hq s1 s2 s3 s4 hk1 hk).mono ?_
 rintro r V2 l2 ⟨m1,m2⟩
 have e:=HO (px:=px) (py:=py) (qx:=qx) (qy:=qy)
 rw [HP] at m1 m2
 refine ⟨m1,fun h=>?_⟩
 obtain ⟨l,hl,g⟩:=m2 h
 rw [←e]
 exact ⟨l,hl,g⟩
theorem S5.ex {V:View}{v:Value}{l:L3}{s:Sp}(h:J4 V v l s):∃(x1 x2:Int)(p:OA)(y1 y2:Int)(q:OA)(z1 z2:Int)(r:OA)(u1 u2:Int)(t:OA)(w1 w2:Int)(o:OA),
 v=.agg #[.int .i64 x1,.int .i64 x2,.pointer p,.int .i64 y1,.int .i64 y2,.pointer q,.int .i64 z1,.int .i64 z2,.pointer r,.int .i64 u1,.int .i64 u2,.pointer t,.int .i64 w1,.int .i64 w2,.pointer o,.bool s.a,.bool s.b]:=by
 obtain ⟨_,_,_,_,_,_,_,_,_,_,_,_,_,_,_,e,-⟩:=h;exact ⟨_,_,_,_,_,_,_,_,_,_,_,_,_,_,_,e⟩
theorem B2 {V:View}{v w:Value}{x y:Rat}(hx:RR V v x)(hy:RR V w y){k:Nat}(sx:Sz k x)(sy:Sz k y)(hk:2*k<1099511627776) :
  ab prog 222 #[v,w] V fun r V'=>RR V' r (Cy x y):=by
 have hx0:=hx
 have hy0:=hy
 obtain ⟨a,b,c,rfl⟩:=hx.shape
 obtain ⟨d,e,f,rfl⟩:=hy.shape
 refine Be a b c d e f V _ fun V1 l1=>(jR (hy0.le l1) (hx0.le l1) sy sx (by omega)).mono ?_
 rintro r V2 l2 rfl
 unfold Cy
 exact ⟨_,rfl,fun h V3 l3=>by rw [if_pos (of_decide_eq_true h)];exact hy0.le (l1.trans (l2.trans l3)),fun h V4 l4=>by rw [if_neg (of_decide_eq_false h)];exact hx0.le (l1.trans (l2.trans l4))⟩
theorem rV {V:View}{v w:Value}{x y:Rat}(hx:RR V v x)(hy:RR V w y){k:Nat}(sx:Sz k x)(sy:Sz k y)(hk:2*k<1099511627776) :
  ab prog 145 #[v,w] V fun r V'=>RR V' r (kC x y):=by
 have hx0:=hx
 have hy0:=hy
 obtain ⟨a,b,c,rfl⟩:=hx.shape
 obtain ⟨d,e,f,rfl⟩:=hy.shape
 refine Bf a b c d e f V _ fun V1 l1=>(jR (hy0.le l1) (hx0.le l1) sy sx (by omega)).mono ?_
 rintro r V2 l2 rfl
 unfold kC
 exact ⟨_,rfl,fun h V3 l3=>by rw [if_pos (of_decide_eq_true h)];exact hy0.le (l1.trans (l2.trans l3)),fun h V4 l4=>by rw [if_neg (of_decide_eq_false h)];exact hx0.le (l1.trans (l2.trans l4))⟩
theorem Sp.yn {v w:Sp}{k:Nat}(h1:v.sz k)(h2:w.sz k):(v.meet w).sz k:=by
 unfold Sp.meet Sp.sz Cy kC
 constructor<;>dsimp only
 ·split
  ·exact h2.1
  ·split
   ·exact h1.1
   ·split
    ·exact h2.1
    ·exact h1.1
 ·split
  ·exact h2.2
  ·split
   ·exact h1.2
   ·split
    ·exact h2.2
    ·exact h1.2
theorem wm {V:View}{v w:Value}{s t:Sp}(h:Dn V v s)(h':Dn V w t){k:Nat}(hs:s.sz k)(ht:t.sz k)(hk:2*k<1099511627776) :
  ab prog 195 #[v,w] V fun r V'=>∃u,r=.tuple #[u,.bool (!(s.meet t).emp)]/\Dn V' u (s.meet t):=by
 obtain ⟨x1,x2,p,y1,y2,q,rfl,h1,h2⟩:=h
 obtain ⟨u1,u2,o,w1,w2,j,rfl,g1,g2⟩:=h'
 have Qe:s.a=true->(s.meet t).lo=t.lo/\(s.meet t).a=t.a:=fun e=>by simp [Sp.meet,e]
 have lo2:s.a=false->t.a=false->(s.meet t).lo=Cy s.lo t.lo:=fun e e'=>by simp [Sp.meet,e,e']
 have lo3:s.a=false->t.a=true->(s.meet t).lo=s.lo:=fun e e'=>by simp [Sp.meet,e,e']
 have SJ:s.a=false->(s.meet t).a=s.a:=fun e=>by simp [Sp.meet,e]
 have hi1:s.b=true->(s.meet t).hi=t.hi/\(s.meet t).b=t.b:=fun e=>by simp [Sp.meet,e]
 have hi2:s.b=false->t.b=false->(s.meet t).hi=kC s.hi t.hi:=fun e e'=>by simp [Sp.meet,e,e']
 have hi3:s.b=false->t.b=true->(s.meet t).hi=s.hi:=fun e e'=>by simp [Sp.meet,e,e']
 have hi4:s.b=false->(s.meet t).b=s.b:=fun e=>by simp [Sp.meet,e]
 refine ua x1 x2 p y1 y2 q s.a s.b u1 u2 o w1 w2 j t.a t.b V _ ⟨fun z V1=>RR V1 (.agg #[.int .i64 z.1,.int .i64 z.2.1,.pointer z.2.2.1]) (s.meet t).lo/\RR V1 (.agg #[.int .i64 z.2.2.2.1,.int .i64 z.2.2.2.2.1,.pointer z.2.2.2.2.2.1]) s.hi/\z.2.2.2.2.2.2.1=(s.meet t).a/\z.2.2.2.2.2.2.2=s.b,⟨fun ha=>?_,fun ha=>⟨fun hb V1 l1=>(B2 (h1.le l1) (g1.le l1) hs.1 ht.1 hk).mono ?_,fun hb=>?_⟩⟩,?_⟩
 ·refine ⟨(u1,u2,o,y1,y2,q,t.a,s.b),by and_intros<;>rfl,?_,h2,(Qe ha).2.symm,rfl⟩
  rw [(Qe ha).1];exact g1
 ·rintro r V2 l2 g
  rw [Bool.not_eq_true'] at hb
  have g0:=g
  obtain ⟨a1,a2,a3,rfl⟩:=g.shape
  refine ⟨_,_,_,rfl,(a1,a2,a3,y1,y2,q,s.a,s.b),by and_intros<;>rfl,?_,h2.le (l1.trans l2),(SJ ha).symm,rfl⟩
  rw [lo2 ha hb];exact g0
 ·rw [Bool.not_eq_false'] at hb
  refine ⟨(x1,x2,p,y1,y2,q,s.a,s.b),by and_intros<;>rfl,?_,h2,(SJ ha).symm,rfl⟩
  rw [lo3 ha hb];exact h1
 ·rintro ⟨z1,z2,z3,z4,z5,z6,z7,z8⟩ V3 l3 ⟨k1,k2,k3,k4⟩
  dsimp only at k1 k2 k3 k4
  subst k3 k4
  refine ⟨rfl,fun z V1=>RR V1 (.agg #[.int .i64 z.1,.int .i64 z.2.1,.pointer z.2.2.1]) (s.meet t).lo/\RR V1 (.agg #[.int .i64 z.2.2.2.1,.int .i64 z.2.2.2.2.1,.pointer z.2.2.2.2.2.1]) (s.meet t).hi/\z.2.2.2.2.2.2.1=(s.meet t).a/\z.2.2.2.2.2.2.2=(s.meet t).b,⟨fun ha=>?_,fun ha=>⟨fun hb V4 l4=>(rV (h2.le (l3.trans l4)) (g2.le (l3.trans l4)) hs.2 ht.2 hk).mono ?_,fun hb=>?_⟩⟩,?_⟩
  ·refine ⟨(z1,z2,z3,w1,w2,j,(s.meet t).a,t.b),by and_intros<;>rfl,k1,?_,rfl,(hi1 ha).2.symm⟩
   rw [(hi1 ha).1];exact g2.le l3
  ·rintro r V5 l5 g
   rw [Bool.not_eq_true'] at hb
   have g0:=g
   obtain ⟨a1,a2,a3,rfl⟩:=g.shape
   refine ⟨_,_,_,rfl,(z1,z2,z3,a1,a2,a3,(s.meet t).a,s.b),by and_intros<;>rfl,k1.le (l4.trans l5),?_,rfl,(hi4 ha).symm⟩
   rw [hi2 ha hb];exact g0
  ·rw [Bool.not_eq_false'] at hb
   refine ⟨(z1,z2,z3,z4,z5,z6,(s.meet t).a,s.b),by and_intros<;>rfl,k1,?_,rfl,(hi4 ha).symm⟩
   rw [hi3 ha hb];exact k2
  ·rintro ⟨y1,y2,y3,y4,y5,y6,y7,y8⟩ V6 l6 ⟨j1,j2,j3,j4⟩
   dsimp only at j1 j2 j3 j4
   subst j3 j4
   refine ⟨rfl,fun V7 l7=>(B0 ⟨_,_,_,_,_,_,rfl,j1.le l7,j2.le l7⟩ (Sp.yn hs ht) hk).mono ?_⟩
   rintro r V8 l8 rfl
   exact ⟨_,rfl,fun V9 l9=>⟨_,rfl,_,_,_,_,_,_,rfl,j1.le (l7.trans (l8.trans l9)),j2.le (l7.trans (l8.trans l9))⟩⟩
theorem lQ {L M:L3}{k:Nat}(sl:lA k L)(sm:lA k M):Sz (4*k+3) (ig M L):=cR sm.1 sm.2.1 sl.2.1 sl.1.neg
theorem FL {L M:L3}:(((M.1:Rat)*((L.1:Rat)*(((-(L.2.2:Rat))*(((L.1:Rat)*(L.1:Rat))+((L.2.1:Rat)*(L.2.1:Rat)))⁻¹))))+((M.2.1:Rat)*((L.2.1:Rat)*(((-(L.2.2:Rat))*(((L.1:Rat)*(L.1:Rat))+((L.2.1:Rat)*(L.2.1:Rat)))⁻¹)))))+(M.2.2:Rat)=kG M L:=by
 unfold kG ar fB fC iW;grind
theorem lP {L M:L3}{k:Nat}(sl:lA k L)(sm:lA k M):Sz (50*k+49) (kG M L):=by
 rw [←FL]
 exact Sz.mono (jN (k:=10*k+9) (sm.1.mono (by omega)) (sm.2.1.mono (by omega)) (sm.2.2.mono (by omega)) (di sl.1 sl.2.1 sl.2.2) (dj sl.1 sl.2.1 sl.2.2)) (by omega)
theorem yJ {L M:L3}{k:Nat}(sl:lA k L)(sm:lA k M):Sz (60*k+60) (gk M L):=Sz.mono ((lP sl sm).mul (dI (lQ sl sm))).neg (by omega)
theorem Jj (k:Nat)(hk:0<k):Sz k (0:Rat):=⟨by show (0:Int).natAbs<_;exact Nat.lt_of_lt_of_le (by decide) (Nat.one_le_two_pow),Nat.one_lt_two_pow (by omega)⟩
theorem zJ {V:View}{l v m:Value}{L:L3}{s:Sp}{M:L3}(hl:uB V l L)(hv:Dn V v s)(hm:uB V m M){k:Nat}(sl:lA k L)(hs:s.sz k)(sm:lA k M)(hk:200*k+200<274877906944) :
  ab prog 160 #[l,v,m] V fun r V'=>∃w,r=.tuple #[w,.bool (fk L s M)]/\Dn V' w (fl L s M):=by
 have hl0:=hl
 have hv0:=hv
 have hm0:=hm
 obtain ⟨_,_,_,_,_,_,_,_,_,rfl,-,-,-⟩:=hl
 obtain ⟨_,_,_,_,_,_,rfl,-,-⟩:=hv
 obtain ⟨_,_,_,_,_,_,_,_,_,rfl,-,-,-⟩:=hm
 have hs':s.sz (60*k+60):=⟨hs.1.mono (by omega),hs.2.mono (by omega)⟩
 have z:=Jj (60*k+60) (by omega)
 refine vB _ _ _ _ _ _ _ _ _ _ _ _ _ _ _ _ _ _ _ _ _ _ _ _ _ _ V _ fun V1 l1=>(bR (hm0.le l1) sm.1 sm.2.1 sm.2.2 (by omega)).mono ?_
 rintro r V2 l2 g1
 have g10:=g1
 obtain ⟨_,_,_,_,_,_,rfl,-,-⟩:=g1
 refine ⟨_,_,_,_,_,_,rfl,fun V3 l3=>(jU (hl0.le (l1.trans (l2.trans l3))) sl.1 sl.2.1 sl.2.2 (by omega)).mono ?_⟩
 rintro r V4 l4 g2
 have g20:=g2
 obtain ⟨_,_,_,_,_,_,rfl,-,-⟩:=g2
 refine ⟨_,_,_,_,_,_,rfl,fun V5 l5=>(gI (g10.le (l3.trans (l4.trans l5))) (g20.le l5) sm.1 sm.2.1 sl.2.1 sl.1.neg (by omega)).mono ?_⟩
 rintro r V6 l6 g3
 have lT:RR V6 r (ig M L):=g3
 obtain ⟨_,_,_,rfl⟩:=g3.shape
 have L6:V.Le V6:=l1.trans (l2.trans (l3.trans (l4.trans (l5.trans l6))))
 refine ⟨_,_,_,rfl,fun V7 l7=>(mf (hl0.le (L6.trans l7)) sl.1 sl.2.1 sl.2.2 (by omega)).mono ?_⟩
 rintro r V8 l8 g4
 have Gc:=g4
 obtain ⟨_,_,_,_,_,_,rfl,-,-⟩:=g4
 refine ⟨_,_,_,_,_,_,rfl,fun V9 l9=>(hJ (k:=10*k+9) (hm0.le (L6.trans (l7.trans (l8.trans l9)))) (Gc.le l9) (sm.1.mono (by omega)) (sm.2.1.mono (by omega)) (sm.2.2.mono (by omega)) (di sl.1 sl.2.1 sl.2.2) (dj sl.1 sl.2.1 sl.2.2) (by omega)).mono ?_⟩
 rintro r jr l10 g5
 rw [FL] at g5
 have EJ:=g5
 obtain ⟨_,_,_,rfl⟩:=g5.shape
 have vU:V6.Le jr:=l7.trans (l8.trans (l9.trans l10))
 refine ⟨_,_,_,rfl,fun jP bN=>(dw (lT.le (vU.trans bN)) (lQ sl sm) (by omega)).mono ?_⟩
 rintro r nk cK rfl
 have FA:jr.Le nk:=bN.trans cK
 refine ⟨_,rfl,fun hz qu c_=>(dw (EJ.le (FA.trans c_)) (lP sl sm) (by omega)).mono ?_,fun hz=>⟨fun h1 mb dS=>(lE (EJ.le (FA.trans dS)) (lT.le (vU.trans (FA.trans dS))) (lP sl sm) (lQ sl sm) (by omega)).mono ?_,fun h1 zt gF=>(lE (EJ.le (FA.trans gF)) (lT.le (vU.trans (FA.trans gF))) (lP sl sm) (lQ sl sm) (by omega)).mono ?_⟩⟩
 ·rintro r nq eR rfl
  have eB:fk L s M=decide ((kG M L).num.sign>0):=by unfold fk;rw [if_pos hz]
  have eS:fl L s M=s:=by unfold fl;rw [if_pos hz]
  rw [eB,eS]
  exact ⟨_,rfl,fun ma dR=>⟨_,rfl,hv0.le (L6.trans (vU.trans (FA.trans (c_.trans (eR.trans dR)))))⟩⟩
 ·have eS:fl L s M=s.meet ⟨gk M L,0,false,true⟩:=by unfold fl;rw [if_neg (by rw [hz];exact Bool.false_ne_true),if_pos h1]
  have eB:fk L s M=!(s.meet ⟨gk M L,0,false,true⟩).emp:=by rw [←eS];unfold fk;rw [if_neg (by rw [hz];exact Bool.false_ne_true)]
  rw [eB,eS]
  rintro r oF dk g6
  have Ml:=g6
  obtain ⟨_,_,_,rfl⟩:=g6.shape
  refine ⟨_,_,_,rfl,fun pK ee=>(lD (Ml.le ee) ((lP sl sm).mul (dI (lQ sl sm))) (by omega)).mono ?_⟩
  rintro r vY eF g7
  have Ft:RR vY r (gk M L):=g7
  obtain ⟨_,_,_,rfl⟩:=g7.shape
  refine ⟨_,_,_,rfl,fun zy jd=>(wm (t:=⟨gk M L,0,false,true⟩) (hv0.le (L6.trans (vU.trans (FA.trans (dS.trans (dk.trans (ee.trans (eF.trans jd)))))))) ⟨_,_,_,_,_,_,rfl,Ft.le jd,RR.zero _⟩ hs' ⟨yJ sl sm,z⟩ (by omega)).mono ?_⟩
  rintro r xB gy ⟨w,rfl,g8⟩
  have Pr:=g8
  obtain ⟨_,_,_,_,_,_,rfl,-,-⟩:=g8
  exact ⟨_,_,_,_,_,_,_,_,_,rfl,fun rF jo=>⟨_,rfl,Pr.le jo⟩⟩
 ·have eS:fl L s M=s.meet ⟨0,gk M L,true,false⟩:=by unfold fl;rw [if_neg (by rw [hz];exact Bool.false_ne_true),if_neg (by rw [h1];exact Bool.false_ne_true)]
  have eB:fk L s M=!(s.meet ⟨0,gk M L,true,false⟩).emp:=by rw [←eS];unfold fk;rw [if_neg (by rw [hz];exact Bool.false_ne_true)]
  rw [eB,eS]
  rintro r oF dk g6
  have Ml:=g6
  obtain ⟨_,_,_,rfl⟩:=g6.shape
  refine ⟨_,_,_,rfl,fun pK ee=>(lD (Ml.le ee) ((lP sl sm).mul (dI (lQ sl sm))) (by omega)).mono ?_⟩
  rintro r vY eF g7
  have Ft:RR vY r (gk M L):=g7
  obtain ⟨_,_,_,rfl⟩:=g7.shape
  refine ⟨_,_,_,rfl,fun zy jd=>(wm (t:=⟨0,gk M L,true,false⟩) (hv0.le (L6.trans (vU.trans (FA.trans (gF.trans (dk.trans (ee.trans (eF.trans jd)))))))) ⟨_,_,_,_,_,_,rfl,RR.zero _,Ft.le jd⟩ hs' ⟨z,yJ sl sm⟩ (by omega)).mono ?_⟩
  rintro r xB gy ⟨w,rfl,g8⟩
  have Pr:=g8
  obtain ⟨_,_,_,_,_,_,rfl,-,-⟩:=g8
  exact ⟨_,_,_,_,_,_,_,_,_,rfl,fun rF jo=>⟨_,rfl,Pr.le jo⟩⟩
structure BQ (V:View) (p:OA) (n:Nat) (fs:List (L3×Sp)):Prop where
 len:n=fs.length
 at_:∀(i:Nat)(h:i<fs.length),∃ad,ag p (i*17)=some ad/\∃xs:List Value,J4 V (.agg xs.toArray) fs[i].1 fs[i].2/\∀j x,xs[j]?=some x->V.at (ad.add j) x
theorem BQ.le {V V':View}{p:OA}{n:Nat}{fs:List (L3×Sp)}(h:BQ V p n fs)(e:V.Le V'):BQ V' p n fs:=⟨h.len,fun i hi=>by obtain ⟨ad,h1,xs,h2,h3⟩:=h.at_ i hi;exact ⟨ad,h1,xs,h2.le e,fun j x hx=>e.at (h3 j x hx)⟩⟩
theorem BQ.nil {V:View}:BQ V none 0 []:=⟨rfl,fun i hi=>by simp at hi⟩
theorem BQ.one {V:View}{bk:Nat}{xs:List Value}{ty:TypeId}{l:L3}{s:Sp}(hb:V.br bk (.cells xs.toArray ty (0,0)))(hf:J4 V (.agg xs.toArray) l s):BQ V (some ⟨bk,0,none⟩) 1 [(l,s)]:=by
 refine ⟨rfl,fun i hi=>?_⟩
 obtain rfl:i=0:=by simpa using hi
 refine ⟨⟨bk,0,none⟩,by simp [ag,add_zero'],_,hf,fun j x hx=>?_⟩
 rw [add_zero']
 exact fD hb hx
theorem Ip {L M:L3}:((L.1:Rat)=(M.1:Rat)/\(L.2.1:Rat)=(M.2.1:Rat)/\(L.2.2:Rat)=(M.2.2:Rat))↔L=M:=by
 constructor
 ·rintro ⟨h1,h2,h3⟩
  exact Prod.ext (Rat.intCast_inj.1 h1) (Prod.ext (Rat.intCast_inj.1 h2) (Rat.intCast_inj.1 h3))
 ·rintro rfl
  exact ⟨rfl,rfl,rfl⟩
theorem II {V:View}{v w:Value}{L M:L3}(hl:uB V v L)(hm:uB V w M){k:Nat}(sl:lA k L)(sm:lA k M)(hk:k+k<1099511627776) :
  ab prog 134 #[v,w] V fun r V'=>r=.bool (decide (L=M)):=by
 refine (zL hl hm sl.1 sl.2.1 sl.2.2 sm.1 sm.2.1 sm.2.2 hk).mono ?_
 rintro r V' l rfl
 rw [decide_eq_decide.2 Ip]
def OQ (u:Value):Prop:=∃(x1 x2:Int)(p:OA)(y1 y2:Int)(q:OA),u=.agg #[.int .i64 x1,.int .i64 x2,.pointer p,.int .i64 y1,.int .i64 y2,.pointer q]
theorem oc {L M:L3}{k:Nat}(sl:lA k L)(sm:lA k M):Sz (4*k+3) (bu L M):=jO sl.1 sl.2.1 sm.1 sm.2.1
theorem NK {L M:L3}{k:Nat}(sl:lA k L)(sm:lA k M):Sz (10*k+10) (EV L M)/\Sz (10*k+10) (EW L M):=
 ⟨Sz.mono (((sl.2.1.mul sm.2.2).sub (sl.2.2.mul sm.2.1)).mul (dI (oc sl sm))) (by omega),Sz.mono (((sl.2.2.mul sm.1).sub (sl.1.mul sm.2.2)).mul (dI (oc sl sm))) (by omega)⟩
theorem Em {V:View}{l m:Value}{L M:L3}(hl:uB V l L)(hm:uB V m M){k:Nat}(sl:lA k L)(sm:lA k M)(hk:20*k+20<274877906944) :
  ab prog 138 #[l,m] V fun r V'=>∃w,r=.tuple #[w,.bool (decide (bu L M≠0))]/\OQ w/\(bu L M≠0->kF V' w (EV L M) (EW L M)):=by
 have hl0:=hl
 have hm0:=hm
 obtain ⟨_,_,_,_,_,_,_,_,_,rfl,a1,a2,a3⟩:=hl
 obtain ⟨_,_,_,_,_,_,_,_,_,rfl,b1,b2,b3⟩:=hm
 have sd:=oc sl sm
 refine ue _ _ _ _ _ _ _ _ _ _ _ _ _ _ _ _ _ _ V _ fun V1 l1=>(bR (hl0.le l1) sl.1 sl.2.1 sl.2.2 (by omega)).mono ?_
 rintro r V2 l2 g1
 have g10:=g1
 obtain ⟨_,_,_,_,_,_,rfl,-,-⟩:=g1
 refine ⟨_,_,_,_,_,_,rfl,fun V3 l3=>(bR (hm0.le (l1.trans (l2.trans l3))) sm.1 sm.2.1 sm.2.2 (by omega)).mono ?_⟩
 rintro r V4 l4 g2
 have g20:=g2
 obtain ⟨_,_,_,_,_,_,rfl,-,-⟩:=g2
 refine ⟨_,_,_,_,_,_,rfl,fun V5 l5=>(fh (g10.le (l3.trans (l4.trans l5))) (g20.le l5) sl.1 sl.2.1 sm.1 sm.2.1 (by omega)).mono ?_⟩
 rintro r V6 l6 g3
 have lT:RR V6 r (bu L M):=g3
 obtain ⟨_,_,_,rfl⟩:=g3.shape
 have L6:V.Le V6:=l1.trans (l2.trans (l3.trans (l4.trans (l5.trans l6))))
 refine ⟨_,_,_,rfl,fun V7 l7=>(rS (lT.le l7)).mono ?_⟩
 rintro r V8 l8 rfl
 have L8:=l7.trans l8
 refine ⟨_,rfl,fun h V9 l9=>?_,fun h jr l10=>(ew (a2.le (L6.trans (L8.trans l10))) (b3.le (L6.trans (L8.trans l10))) sl.2.1 sm.2.2 (by omega)).mono ?_⟩
 ·have h:=of_decide_eq_true h
  have e:decide (bu L M≠0)=false:=by simp [h]
  rw [e]
  exact ⟨_,rfl,⟨_,_,_,_,_,_,rfl⟩,fun h'=>absurd h h'⟩
 ·have h:=of_decide_eq_false h
  have e:decide (bu L M≠0)=true:=by simp [h]
  rw [e]
  have Lj:=L6.trans (L8.trans l10)
  rintro r jP bN q1
  have KZ:=q1
  obtain ⟨_,_,_,rfl⟩:=q1.shape
  refine ⟨_,_,_,rfl,fun nk cK=>(ew (a3.le (Lj.trans (bN.trans cK))) (b2.le (Lj.trans (bN.trans cK))) sl.2.2 sm.2.1 (by omega)).mono ?_⟩
  rintro r qu c_ q2
  have Vc:=q2
  obtain ⟨_,_,_,rfl⟩:=q2.shape
  refine ⟨_,_,_,rfl,fun nq eR=>(ny (KZ.le (cK.trans (c_.trans eR))) (Vc.le eR) (sl.2.1.mul sm.2.2) (sl.2.2.mul sm.2.1) (by omega)).mono ?_⟩
  rintro r ma dR q3
  have Vd:=q3
  obtain ⟨_,_,_,rfl⟩:=q3.shape
  have OP:jr.Le ma:=bN.trans (cK.trans (c_.trans (eR.trans dR)))
  refine ⟨_,_,_,rfl,fun mb dS=>(lE (Vd.le dS) (lT.le (L8.trans (l10.trans (OP.trans dS)))) ((sl.2.1.mul sm.2.2).sub (sl.2.2.mul sm.2.1)) sd (by omega)).mono ?_⟩
  rintro r oF dk q4
  have Ve:RR oF r (EV L M):=q4
  obtain ⟨_,_,_,rfl⟩:=q4.shape
  have Ob:V.Le oF:=Lj.trans (OP.trans (dS.trans dk))
  refine ⟨_,_,_,rfl,fun pK ee=>(ew (a3.le (Ob.trans ee)) (b1.le (Ob.trans ee)) sl.2.2 sm.1 (by omega)).mono ?_⟩
  rintro r vY eF p1
  have Hb:=p1
  obtain ⟨_,_,_,rfl⟩:=p1.shape
  refine ⟨_,_,_,rfl,fun zy jd=>(ew (a1.le (Ob.trans (ee.trans (eF.trans jd)))) (b3.le (Ob.trans (ee.trans (eF.trans jd)))) sl.1 sm.2.2 (by omega)).mono ?_⟩
  rintro r xB gy p2
  have Va:=p2
  obtain ⟨_,_,_,rfl⟩:=p2.shape
  refine ⟨_,_,_,rfl,fun rF jo=>(ny (Hb.le (jd.trans (gy.trans jo))) (Va.le jo) (sl.2.2.mul sm.1) (sl.1.mul sm.2.2) (by omega)).mono ?_⟩
  rintro r zt gF p3
  have p30:=p3
  obtain ⟨_,_,_,rfl⟩:=p3.shape
  have Rh:oF.Le zt:=ee.trans (eF.trans (jd.trans (gy.trans (jo.trans gF))))
  refine ⟨_,_,_,rfl,fun Ia BM=>(lE (p30.le BM) (lT.le (L8.trans (l10.trans (OP.trans (dS.trans (dk.trans (Rh.trans BM))))))) ((sl.2.2.mul sm.1).sub (sl.1.mul sm.2.2)) sd (by omega)).mono ?_⟩
  rintro r H3 oH p4
  have p40:RR H3 r (EW L M):=p4
  obtain ⟨_,_,_,rfl⟩:=p4.shape
  exact ⟨_,_,_,rfl,fun Jt vd=>⟨_,rfl,⟨_,_,_,_,_,_,rfl⟩,fun _=>⟨_,_,_,_,_,_,rfl,Ve.le (Rh.trans (BM.trans (oH.trans vd))),p40.le vd⟩⟩⟩
theorem wI {V:View}{p:OA}{n c:Nat}{ds:List Nat}(h:RD V p n c ds)(hm:ds.length<=1099511627776) :
  ab prog 105 #[.slice p n c] V fun r V'=>∃p1 n1 c1,r=.slice p1 n1 c1/\RN V' p1 n1 c1 (val ds):=by
 have hl:=h.len
 refine Di p n c V _ ⟨aC ds,h.sl,by simp [hl],by omega,by omega,by simp,by simp [hl],?_,?_⟩
 ·intro v hv
  simp only [aC,List.mem_map] at hv
  obtain ⟨d,-,rfl⟩:=hv
  rfl
 ·intro bk J sp c' h1 h2 V1 l1 b hb
  simp only [Nat.zero_add,Nat.zero_mul,List.take_zero,List.nil_append] at hb h1 ⊢
  refine (cH (copied h.dY hl h1 hb) (by omega)).mono ?_
  rintro r V2 l2 ⟨k,rfl,g⟩
  rw [aM h.dY] at g
  exact ⟨_,_,_,rfl,fun J' V3 l3=>⟨_,_,_,rfl,g.le l3⟩⟩
theorem Ew {V:View}(b:Bool){p:OA}{n c:Nat}{ds:List Nat}(h:RD V p n c ds)(hm:ds.length<=1099511627776) :
  ab prog 107 #[.agg #[.bool b,.slice p n c]] V fun r V'=>RI V' r (aS b ds):=by
 refine Dh b p n c V _ fun V1 l1=>(wI (h.le l1) hm).mono ?_
 rintro r V2 l2 ⟨p1,n1,c1,rfl,g⟩
 refine ⟨_,_,_,rfl,fun V3 l3=>(dA b (g.le l3)).mono ?_⟩
 rintro r V4 l4 ⟨p2,n2,c2,rfl,g2⟩
 exact ⟨_,_,_,_,rfl,fun V5 l5=>⟨_,_,_,rfl,g2.le l5⟩⟩
theorem Gt {b:Bool}{ds:List Nat}(h:bK ds):(ah (aS b ds).natAbs).length<=ds.length:=by
 rw [dC];exact aX h
theorem Ex {V:View}{v:Value}{b:Bool}{xs ys:List Nat}(h:H2 V v b xs ys)(m1:xs.length<=274877906944)(m2:ys.length<=274877906944) :
  ab prog 43 #[v] V fun r V'=>RQ V' r (Fa b xs ys):=by
 obtain ⟨p,n,c,q,m,e,rfl,hx,hy⟩:=h
 have d1:=Gt (b:=b) hx.dY
 have d2:=aX hy.dY
 refine Dj b p n c q m e V _ fun V1 l1=>(wI (hy.le l1) (by omega)).mono ?_
 rintro r V2 l2 ⟨p1,n1,c1,rfl,g⟩
 have gl:=g.len
 refine ⟨_,_,_,rfl,fun h0 V3 l3=>?_,fun h0 V4 l4=>(Ew b (hx.le (l1.trans (l2.trans l4))) (by omega)).mono ?_⟩
 ·have h0:((n1:Nat):Int)=0:=by simpa using h0
  have:ah (val ys)=[]:=List.length_eq_zero_iff.1 (by omega)
  have:val ys=0:=bh.1 this
  unfold Fa
  rw [this,Rat.mkRat_zero]
  have:=RQ.zero (V:=V3)
  simpa using this
 ·have hd:val ys≠0:=fun e=>by
   rw [e] at gl
   have h0:¬((n1:Nat):Int)=0:=by simpa using h0
   exact h0 (by rw [gl];rfl)
  rintro r V5 l5 ⟨p2,n2,c2,rfl,g2⟩
  refine ⟨_,_,_,_,rfl,fun V6 l6=>(ib _ (g2.le l6) (g.le (l4.trans (l5.trans l6))) (by omega) (by omega) hd).mono ?_⟩
  rintro r V7 l7 k
  have k0:=k
  obtain ⟨_,_,_,_,_,_,rfl⟩:=k.shape
  exact ⟨_,_,_,_,_,_,_,rfl,fun V8 l8=>k0.le l8⟩
def Od (V:View)(v:Value)(b1:Bool)(xs:List Nat)(b2:Bool)(ys:List Nat)(b3:Bool)(zs:List Nat):Prop:=∃p n c q m e s i j,v=.agg #[.bool b1,.slice p n c,.bool b2,.slice q m e,.bool b3,.slice s i j]/\RD V p n c xs/\RD V q m e ys/\RD V s i j zs
theorem Od.le {V V':View}{v:Value}{b1:Bool}{xs:List Nat}{b2:Bool}{ys:List Nat}{b3:Bool}{zs:List Nat}(h:Od V v b1 xs b2 ys b3 zs)(l:V.Le V'):Od V' v b1 xs b2 ys b3 zs:=by
 obtain ⟨p,n,c,q,m,e,s,i,j,rfl,h1,h2,h3⟩:=h
 exact ⟨_,_,_,_,_,_,_,_,_,rfl,h1.le l,h2.le l,h3.le l⟩
def SI (b1:Bool)(xs:List Nat)(b2:Bool)(ys:List Nat)(b3:Bool)(zs:List Nat):L3:=(aS b1 xs,aS b2 ys,aS b3 zs)
structure FW where
 b1:Bool
 xs:List Nat
 b2:Bool
 ys:List Nat
 b3:Bool
 zs:List Nat
 c1:Bool
 us:List Nat
 vs:List Nat
 c2:Bool
 ws:List Nat
 ts:List Nat
 na:Bool
 nb:Bool
def FW.ln (f:FW):L3:=SI f.b1 f.xs f.b2 f.ys f.b3 f.zs
def FW.sp (f:FW):Sp:=NJ f.c1 f.us f.vs f.c2 f.ws f.ts f.na f.nb
def FW.ok (f:FW):Bool:=tD f.b1 f.xs f.b2 f.ys f.b3 f.zs&&okW f.c1 f.us f.vs f.c2 f.ws f.ts f.na f.nb
structure FW.short (f:FW):Prop where
 x:f.xs.length<=1000000
 y:f.ys.length<=1000000
 z:f.zs.length<=1000000
 u:f.us.length<=1000000
 v:f.vs.length<=1000000
 w:f.ws.length<=1000000
 t:f.ts.length<=1000000
def Oc (V:View)(v:Value)(f:FW):Prop:=∃p1 n1 d1 p2 n2 d2 p3 n3 d3 p n c p' n' c' q m e q' m' e',
 v=.agg #[.bool f.b1,.slice p1 n1 d1,.bool f.b2,.slice p2 n2 d2,.bool f.b3,.slice p3 n3 d3,.bool f.c1,.slice p n c,.slice p' n' c',.bool f.c2,.slice q m e,.slice q' m' e',.bool f.na,.bool f.nb] /\
 Od V (.agg #[.bool f.b1,.slice p1 n1 d1,.bool f.b2,.slice p2 n2 d2,.bool f.b3,.slice p3 n3 d3]) f.b1 f.xs f.b2 f.ys f.b3 f.zs /\
 Of V (.agg #[.bool f.c1,.slice p n c,.slice p' n' c',.bool f.c2,.slice q m e,.slice q' m' e',.bool f.na,.bool f.nb]) f.c1 f.us f.vs f.c2 f.ws f.ts f.na f.nb
theorem Oc.le {V V':View}{v:Value}{f:FW}(h:Oc V v f)(l:V.Le V'):Oc V' v f:=by
 obtain ⟨p1,n1,d1,p2,n2,d2,p3,n3,d3,p,n,c,p',n',c',q,m,e,q',m',e',rfl,h1,h2⟩:=h
 exact ⟨_,_,_,_,_,_,_,_,_,_,_,_,_,_,_,_,_,_,_,_,_,rfl,h1.le l,h2.le l⟩
end Go.Proofs.Tryz
namespace Go.Proofs.Tryz
open Go.bw
set_option maxRecDepth 100000
end Go.Proofs.Tryz
namespace Go.Proofs.Tryz
open Go.bw Go.eN
def Kj:L3:=(0,0,0)
def vW (V:View)(v:Value)(c:L3):Prop:=uH V v c.1 c.2.1 c.2.2/\Bd c
theorem vW.le {V V':View}{v:Value}{c:L3}(h:vW V v c)(l:V.Le V'):vW V' v c:=⟨h.1.le l,h.2⟩
theorem vW.shape {V:View}{v:Value}{c:L3}(h:vW V v c):∃(x y:Int)(p:OA)(xb yb:Int)(pb:OA)(xc yc:Int)(pc:OA),v=.agg #[.int .i64 x,.int .i64 y,.pointer p,.int .i64 xb,.int .i64 yb,.pointer pb,.int .i64 xc,.int .i64 yc,.pointer pc]:=by
 obtain ⟨⟨x1,x2,p,y1,y2,q,z1,z2,r,e,-⟩,-⟩:=h;exact ⟨_,_,_,_,_,_,_,_,_,e⟩
end Go.Proofs.Tryz
namespace Go.Proofs.Tryz
open Go.eN
section
variable {α:Type} {c:α->α->Int} {d:α}
structure PQ (c:α->α->Int) (d:α) (l0 l:List α) (a0 b0 a b:Nat):Prop where
 Oz:pJ d l0 l a0 b0
 ha:a0<=a
 sQ:a<=b
 hb:b<=b0
 lo:uG c d l a0 a
 hi:uG c d l b b0
 s1:Sep c d l a0 a b0
 s2:Sep c d l a0 b b0
 pre:0<a->∀k,a<=k->k<b->¬c (l.getD k d) (l.getD (a-1) d)<0
variable {l0 l m:List α} {a0 b0 a b mid:Nat}
theorem PQ.start {l:List α}(h:a<=b)(hp:0<a->∀k,a<=k->k<b->¬c (l.getD k d) (l.getD (a-1) d)<0):PQ c d l l a b a b:=
 ⟨.refl _ _ _,Nat.le_refl _,h,Nat.le_refl _,.short (by omega),.short (by omega),fun p q h1 h2=>by omega,fun p q h1 h2 h3 h4=>by omega,hp⟩
theorem PQ.change (h:PQ c d l0 l a0 b0 a b)(hs:pJ d l m a b):PQ c d l0 m a0 b0 a b:=
 ⟨h.Oz.trans (hs.wide h.ha h.hb),h.ha,h.sQ,h.hb,hs.mc h.lo (.inl (Nat.le_refl _)),hs.mc h.hi (.inr (Nat.le_refl _)),hs.sep h.s1 (.inr (.inl ⟨Nat.le_refl _,h.hb⟩)),hs.sep h.s2 (.inl ⟨h.ha,Nat.le_refl _⟩),fun h0 k h1 h2=>by
  obtain ⟨k',h3,h4,e⟩:=hs.mem k h1 h2
  rw [e,hs.out (a-1) (by omega)]
  exact h.pre h0 k' h3 h4⟩
theorem PQ.fin (h:PQ c d l0 l a0 b0 a b)(hs:pJ d l m a b)(ha:uG c d m a b):pJ d l0 m a0 b0/\uG c d m a0 b0:=by
 have h':=h.change hs
 refine ⟨h'.Oz,h'.lo.join (ha.join h'.hi fun p q h1 h2 h3 h4=>h'.s2 p q (by have:=h.ha;omega) h2 h3 h4) h'.s1⟩
theorem PQ.left (ho:Ord c)(h:PQ c d l0 l a0 b0 a b)(hm:a<=mid)(hm':mid<b)(h1:∀k,a<=k->k<mid->c (l.getD k d) (l.getD mid d)<0)(h2:∀k,mid<k->k<b->¬c (l.getD k d) (l.getD mid d)<0)
  (hs:pJ d l m a mid)(ha:uG c d m a mid):PQ c d l0 m a0 b0 (mid+1) b:=by
 have e0:=h.ha
 have e1:=h.hb
 have em:m.getD mid d=l.getD mid d:=hs.out mid (by omega)
 have below:∀k,a<=k->k<mid->¬c (m.getD mid d) (m.getD k d)<0:=fun k g1 g2=>by
  obtain ⟨k',g3,g4,e⟩:=hs.mem k g1 g2
  rw [em,e];exact ho.Ll _ _ (h1 k' g3 g4)
 have t1:=hs.sep h.s1 (.inr (.inl ⟨Nat.le_refl _,by omega⟩))
 have t2:=hs.sep h.s2 (.inl ⟨e0,by omega⟩)
 have up:∀q,mid<q->q<b->¬c (m.getD q d) (m.getD mid d)<0:=fun q g1 g2=>by rw [em,hs.out q (by omega)];exact h2 q g1 g2
 refine ⟨h.Oz.trans (hs.wide e0 (by omega)),by omega,by omega,e1,(hs.mc h.lo (.inl (Nat.le_refl _))).join (m:=a) (fun p q g1 g2 g3=>?_) fun p q g1 g2 g3 g4=>t1 p q g1 g2 g3 (by omega),hs.mc h.hi (.inr (by omega)),fun p q g1 g2 g3 g4=>?_,t2,fun _ k g1 g2=>up k (by omega) g2⟩
 ·by_cases e:q=mid
  ·subst e;exact below p g1 g2
  ·exact ha p q g1 g2 (by omega)
 ·by_cases hq:b<=q
  ·exact t2 p q g1 (by omega) hq g4
  ·by_cases hp:p<a
   ·exact t1 p q g1 hp (by omega) g4
   ·have u:=up q (by omega) (by omega)
    by_cases e:p=mid
    ·subst e;exact u
    ·exact ho.tr _ _ _ u (below p (by omega) (by omega))
theorem PQ.right (ho:Ord c)(h:PQ c d l0 l a0 b0 a b)(hm:a<=mid)(hm':mid<b)(h1:∀k,a<=k->k<mid->c (l.getD k d) (l.getD mid d)<0)(h2:∀k,mid<k->k<b->¬c (l.getD k d) (l.getD mid d)<0)
  (hs:pJ d l m (mid+1) b)(ha:uG c d m (mid+1) b):PQ c d l0 m a0 b0 a mid:=by
 have e0:=h.ha
 have e1:=h.hb
 have em:m.getD mid d=l.getD mid d:=hs.out mid (by omega)
 have up:∀q,mid<q->q<b->¬c (m.getD q d) (m.getD mid d)<0:=fun q g1 g2=>by
  obtain ⟨k',g3,g4,e⟩:=hs.mem q (by omega) g2
  rw [em,e];exact h2 k' (by omega) g4
 have below:∀k,a<=k->k<mid->¬c (m.getD mid d) (m.getD k d)<0:=fun k g1 g2=>by
  rw [em,hs.out k (by omega)];exact ho.Ll _ _ (h1 k g1 g2)
 have t1:=hs.sep h.s1 (.inr (.inl ⟨by omega,e1⟩))
 have t2:=hs.sep h.s2 (.inl ⟨by omega,Nat.le_refl _⟩)
 have t3:=hs.mc h.hi (.inr (Nat.le_refl _))
 refine ⟨h.Oz.trans (hs.wide (by omega) e1),e0,hm,by omega,hs.mc h.lo (.inl (by omega)),fun p q g1 g2 g3=>?_,t1,fun p q g1 g2 g3 g4=>?_,fun h0 k g1 g2=>?_⟩
 ·by_cases hq:q<b
  ·by_cases e:p=mid
   ·subst e;exact up q g2 hq
   ·exact ha p q (by omega) g2 hq
  ·by_cases hp:p<b
   ·exact t2 p q (by omega) hp (by omega) g3
   ·exact t3 p q (by omega) g2 g3
 ·by_cases hq:b<=q
  ·exact t2 p q g1 (by omega) hq g4
  ·by_cases hp:p<a
   ·exact t1 p q g1 hp (by omega) g4
   ·have u:=below p (by omega) g2
    by_cases e:q=mid
    ·subst e;exact u
    ·exact ho.tr _ _ _ (up q (by omega) (by omega)) u
 ·rw [hs.out k (by omega),hs.out (a-1) (by omega)];exact h.pre h0 k g1 (by omega)
structure HQ (c:α->α->Int) (d:α) (l:List α) (f i n:Nat):Prop where
 hp:Hp c d l f 0 i none
 mc:uG c d l (f+i) (f+n)
 sep:Sep c d l f (f+i) (f+n)
theorem HQ.start {f n:Nat}(h:Hp c d l f 0 n none):HQ c d l f n n:=⟨h,.short (by omega),fun p q h1 h2 h3 h4=>by omega⟩
theorem HQ.step (ho:Ord c){f k n:Nat}(h:HQ c d l f (k+1) n)(hk:k+1<=n)(hl:f+n<=l.length)(hs:pJ d (qB d l f (f+k)) m f (f+k))(hm:Hp c d m f 0 k none):HQ c d m f k n:=by
 have ha:=fun x=>mP (d:=d) (l:=l) (i:=f) (j:=f+k) (k:=x) (by omega) (by omega)
 have out:∀q,f+k<q->m.getD q d=l.getD q d:=fun q hq=>by rw [hs.out q (by omega),ha,if_neg (by omega),if_neg (by omega)]
 have top:m.getD (f+k) d=l.getD f d:=by rw [hs.out (f+k) (by omega),ha,if_pos rfl]
 refine ⟨hm,fun p q g1 g2 g3=>?_,fun p q g1 g2 g3 g4=>?_⟩
 ·rw [out q (by omega)]
  by_cases e:p=f+k
  ·rw [e,top];exact h.sep f q (Nat.le_refl _) (by omega) (by omega) g3
  ·rw [out p (by omega)];exact h.mc p q (by omega) g2 g3
 ·have hp:∃j,j<k+1/\m.getD p d=l.getD (f+j) d:=by
   obtain ⟨p',e1,e2,e⟩:=hs.mem p g1 g2
   rw [e,ha,if_neg (by omega)]
   split
   ·exact ⟨k,by omega,rfl⟩
   ·exact ⟨p'-f,by omega,by rw [show f+(p'-f)=p' by omega]⟩
  obtain ⟨j,hj,e⟩:=hp
  rw [e]
  by_cases eq:q=f+k
  ·rw [eq,top];exact h.hp.top ho j hj
  ·rw [out q (by omega)];exact h.sep (f+j) q (by omega) (by omega) (by omega) g4
theorem HQ.fin {f n:Nat}(h:HQ c d l f 0 n):uG c d l f (f+n):=by have:=h.mc;simpa using this
structure PT (P:α->Prop) (d:α) (l:List α) (a b i j:Nat):Prop where
 hi:a<i
 Kv:i<=j+1
 hj:j<b
 lo:∀k,a<k->k<i->P (l.getD k d)
 up:∀k,j<k->k<b->¬P (l.getD k d)
variable {P:α->Prop} {i j:Nat}
theorem PT.start (h:a+1<b):PT P d l a b (a+1) (b-1):=⟨by omega,by omega,by omega,fun k h1 h2=>by omega,fun k h1 h2=>by omega⟩
theorem PT.swap (h:PT P d l a b i j)(Kv:i<=j)(hl:b<=l.length)(h1:¬P (l.getD i d))(h2:P (l.getD j d)):PT P d (qB d l i j) a b (i+1) (j-1)/\(qB d l i j).getD a d=l.getD a d/\pJ d l (qB d l i j) a b:=by
 have e0:=h.hi
 have e1:=h.hj
 have ne:i≠j:=fun e=>h1 (e▸h2)
 have ha:=fun x=>mP (d:=d) (l:=l) (i:=i) (j:=j) (k:=x) (by omega) (by omega)
 refine ⟨⟨by omega,by omega,by omega,fun k g1 g2=>?_,fun k g1 g2=>?_⟩,by rw [ha,if_neg (by omega),if_neg (by omega)],pJ.qB (by omega) (by omega) (by omega) e1 hl⟩
 ·rw [ha,if_neg (by omega)]
  by_cases e:k=i
  ·rw [if_pos e];exact h2
  ·rw [if_neg e];exact h.lo k g1 (by omega)
 ·rw [ha]
  by_cases e:k=j
  ·rw [if_pos e];exact h1
  ·rw [if_neg e,if_neg (by omega)];exact h.up k (by omega) g2
theorem PT.fin (ho:Ord c)(h:PT (fun x=>c x (l.getD a d)<0) d l a b i j)(Kv:¬i<=j)(hl:b<=l.length):pJ d l (qB d l j a) a b/\a<=j/\j<b /\
  (∀k,a<=k->k<j->c ((qB d l j a).getD k d) ((qB d l j a).getD j d)<0)/\(∀k,j<k->k<b->¬c ((qB d l j a).getD k d) ((qB d l j a).getD j d)<0):=by
 have e0:=h.hi
 have e1:=h.Kv
 have e2:=h.hj
 have ha:=fun x=>mP (d:=d) (l:=l) (i:=j) (j:=a) (k:=x) (by omega) (by omega)
 have ej:(qB d l j a).getD j d=l.getD a d:=by
  rw [ha]
  by_cases e:j=a
  ·rw [if_pos e,e]
  ·rw [if_neg e,if_pos rfl]
 refine ⟨pJ.qB (by omega) e2 (Nat.le_refl _) (by omega) hl,by omega,e2,fun k g1 g2=>?_,fun k g1 g2=>?_⟩
 ·rw [ej,ha]
  by_cases e:k=a
  ·rw [if_pos e];exact h.lo j (by omega) (by omega)
  ·rw [if_neg e,if_neg (by omega)];exact h.lo k (by omega) (by omega)
 ·rw [ej,ha,if_neg (by omega),if_neg (by omega)];exact h.up k g1 g2
end
end Go.Proofs.Tryz
namespace Go.Proofs.Tryz
open Go.bw Go.eN
end Go.Proofs.Tryz
