/- A part of the proof (joined by program from: PtA, VRefF, NumK, RefD, RefE). -/
import Derived.Test.YtalijajeenhebaaGreatDoorM10
import Derived.Test.YtalijajeenhebaaGreatDoorM12
import Derived.Test.YtalijajeenhebaaGreatDoorM5
set_option linter.unusedVariables false
open Go.IntKind (i64 u64 u32)
/- Contracts of points and lines of package geo (printed by straight.py). -/
namespace Go.Proofs.Tryz
open Go.Eng Go.Big
/-- A point of package geo. -/
def RPt (V:View) (v:Value) (x y:Rat):Prop:=∃(x1 x2:Int) (p:OA) (y1 y2:Int) (q:OA),v=.agg #[.int .i64 x1,.int .i64 x2,.pointer p,.int .i64 y1,.int .i64 y2,.pointer q] /\
 RR V (.agg #[.int .i64 x1,.int .i64 x2,.pointer p]) x/\RR V (.agg #[.int .i64 y1,.int .i64 y2,.pointer q]) y
theorem RPt.le {V V':View} {v:Value} {x y:Rat} (h:RPt V v x y) (l:V.Le V'):RPt V' v x y:=by
 obtain ⟨x1,x2,p,y1,y2,q,e,h1,h2⟩:=h
 exact ⟨x1,x2,p,y1,y2,q,e,h1.le l,h2.le l⟩
theorem c_geo_Pt_Add {V:View} {p:Value} {p_0 p_1:Rat} {q:Value} {q_0 q_1:Rat} (hp:RPt V p p_0 p_1) (hq:RPt V q q_0 q_1) {k:Nat} (sp_0:Sz k p_0) (sp_1:Sz k p_1) (sq_0:Sz k q_0) (sq_1:Sz k q_1) (hk:2 * k + 1 < 274877906944) :
  Acts prog 169 #[p,q] V fun r V'=>RPt V' r ((p_0) + (q_0)) ((p_1) + (q_1)):=by
 have hp0:=hp
 obtain ⟨p0,p1,p2,p3,p4,p5,rfl,hp_0,hp_1⟩:=hp
 have hq0:=hq
 obtain ⟨q0,q1,q2,q3,q4,q5,rfl,hq_0,hq_1⟩:=hq
 refine vc_geo_Pt_Add p0 p1 p2 p3 p4 p5 q0 q1 q2 q3 q4 q5 V _ fun V1 l1=>(c_R_Add (hp_0.le (l1)) (hq_0.le (l1)) sp_0 sq_0 (by omega)).mono ?_
 rintro r V2 l2 g1
 have g10:=g1
 obtain ⟨w0a,w0b,w0c,rfl⟩:=g1.shape
 have z1_0:Sz (2 * k + 1) ((p_0) + (q_0)):=Sz.mono (Sz.add sp_0 sq_0) (by omega)
 refine ⟨_,_,_,rfl,fun V3 l3=>(c_R_Add (hp_1.le (l1.trans (l2.trans (l3)))) (hq_1.le (l1.trans (l2.trans (l3)))) sp_1 sq_1 (by omega)).mono ?_⟩
 rintro r V4 l4 g2
 have g20:=g2
 obtain ⟨w1a,w1b,w1c,rfl⟩:=g2.shape
 have z2_0:Sz (2 * k + 1) ((p_1) + (q_1)):=Sz.mono (Sz.add sp_1 sq_1) (by omega)
 exact ⟨_,_,_,rfl,fun V5 l5=>⟨_,_,_,_,_,_,rfl,(g10.le (l3.trans (l4.trans (l5)))),(g20.le (l5))⟩⟩
theorem z_geo_Pt_Add_0 {p_0 p_1 q_0 q_1:Rat} {k:Nat} (sp_0:Sz k p_0) (sp_1:Sz k p_1) (sq_0:Sz k q_0) (sq_1:Sz k q_1):Sz (2 * k + 1) ((p_0) + (q_0)):=by
 have z1_0:Sz (2 * k + 1) ((p_0) + (q_0)):=Sz.mono (Sz.add sp_0 sq_0) (by omega)
 have z2_0:Sz (2 * k + 1) ((p_1) + (q_1)):=Sz.mono (Sz.add sp_1 sq_1) (by omega)
 exact Sz.mono z1_0 (by omega)
theorem z_geo_Pt_Add_1 {p_0 p_1 q_0 q_1:Rat} {k:Nat} (sp_0:Sz k p_0) (sp_1:Sz k p_1) (sq_0:Sz k q_0) (sq_1:Sz k q_1):Sz (2 * k + 1) ((p_1) + (q_1)):=by
 have z1_0:Sz (2 * k + 1) ((p_0) + (q_0)):=Sz.mono (Sz.add sp_0 sq_0) (by omega)
 have z2_0:Sz (2 * k + 1) ((p_1) + (q_1)):=Sz.mono (Sz.add sp_1 sq_1) (by omega)
 exact Sz.mono z2_0 (by omega)
theorem c_geo_Pt_Sub {V:View} {p:Value} {p_0 p_1:Rat} {q:Value} {q_0 q_1:Rat} (hp:RPt V p p_0 p_1) (hq:RPt V q q_0 q_1) {k:Nat} (sp_0:Sz k p_0) (sp_1:Sz k p_1) (sq_0:Sz k q_0) (sq_1:Sz k q_1) (hk:2 * k + 1 < 274877906944) :
  Acts prog 157 #[p,q] V fun r V'=>RPt V' r ((p_0) - (q_0)) ((p_1) - (q_1)):=by
 have hp0:=hp
 obtain ⟨p0,p1,p2,p3,p4,p5,rfl,hp_0,hp_1⟩:=hp
 have hq0:=hq
 obtain ⟨q0,q1,q2,q3,q4,q5,rfl,hq_0,hq_1⟩:=hq
 refine vc_geo_Pt_Sub p0 p1 p2 p3 p4 p5 q0 q1 q2 q3 q4 q5 V _ fun V1 l1=>(c_R_Sub (hp_0.le (l1)) (hq_0.le (l1)) sp_0 sq_0 (by omega)).mono ?_
 rintro r V2 l2 g1
 have g10:=g1
 obtain ⟨w0a,w0b,w0c,rfl⟩:=g1.shape
 have z1_0:Sz (2 * k + 1) ((p_0) - (q_0)):=Sz.mono (Sz.sub sp_0 sq_0) (by omega)
 refine ⟨_,_,_,rfl,fun V3 l3=>(c_R_Sub (hp_1.le (l1.trans (l2.trans (l3)))) (hq_1.le (l1.trans (l2.trans (l3)))) sp_1 sq_1 (by omega)).mono ?_⟩
 rintro r V4 l4 g2
 have g20:=g2
 obtain ⟨w1a,w1b,w1c,rfl⟩:=g2.shape
 have z2_0:Sz (2 * k + 1) ((p_1) - (q_1)):=Sz.mono (Sz.sub sp_1 sq_1) (by omega)
 exact ⟨_,_,_,rfl,fun V5 l5=>⟨_,_,_,_,_,_,rfl,(g10.le (l3.trans (l4.trans (l5)))),(g20.le (l5))⟩⟩
theorem c_geo_Pt_Scale {V:View} {p:Value} {p_0 p_1:Rat} {c:Value} {c_0:Rat} (hp:RPt V p p_0 p_1) (hc:RR V c c_0) {k:Nat} (sp_0:Sz k p_0) (sp_1:Sz k p_1) (sc_0:Sz k c_0) (hk:2 * k + 1 < 274877906944) :
  Acts prog 170 #[p,c] V fun r V'=>RPt V' r ((p_0) * (c_0)) ((p_1) * (c_0)):=by
 have hp0:=hp
 obtain ⟨p0,p1,p2,p3,p4,p5,rfl,hp_0,hp_1⟩:=hp
 have hc0:=hc
 obtain ⟨c0,c1,c2,rfl⟩:=hc.shape
 refine vc_geo_Pt_Scale p0 p1 p2 p3 p4 p5 c0 c1 c2 V _ fun V1 l1=>(c_R_Mul (hp_0.le (l1)) (hc0.le (l1)) sp_0 sc_0 (by omega)).mono ?_
 rintro r V2 l2 g1
 have g10:=g1
 obtain ⟨w0a,w0b,w0c,rfl⟩:=g1.shape
 have z1_0:Sz (2 * k + 1) ((p_0) * (c_0)):=Sz.mono (Sz.mul sp_0 sc_0) (by omega)
 refine ⟨_,_,_,rfl,fun V3 l3=>(c_R_Mul (hp_1.le (l1.trans (l2.trans (l3)))) (hc0.le (l1.trans (l2.trans (l3)))) sp_1 sc_0 (by omega)).mono ?_⟩
 rintro r V4 l4 g2
 have g20:=g2
 obtain ⟨w1a,w1b,w1c,rfl⟩:=g2.shape
 have z2_0:Sz (2 * k + 1) ((p_1) * (c_0)):=Sz.mono (Sz.mul sp_1 sc_0) (by omega)
 exact ⟨_,_,_,rfl,fun V5 l5=>⟨_,_,_,_,_,_,rfl,(g10.le (l3.trans (l4.trans (l5)))),(g20.le (l5))⟩⟩
theorem z_geo_Pt_Scale_0 {p_0 p_1 c_0:Rat} {k:Nat} (sp_0:Sz k p_0) (sp_1:Sz k p_1) (sc_0:Sz k c_0):Sz (2 * k + 1) ((p_0) * (c_0)):=by
 have z1_0:Sz (2 * k + 1) ((p_0) * (c_0)):=Sz.mono (Sz.mul sp_0 sc_0) (by omega)
 have z2_0:Sz (2 * k + 1) ((p_1) * (c_0)):=Sz.mono (Sz.mul sp_1 sc_0) (by omega)
 exact Sz.mono z1_0 (by omega)
theorem z_geo_Pt_Scale_1 {p_0 p_1 c_0:Rat} {k:Nat} (sp_0:Sz k p_0) (sp_1:Sz k p_1) (sc_0:Sz k c_0):Sz (2 * k + 1) ((p_1) * (c_0)):=by
 have z1_0:Sz (2 * k + 1) ((p_0) * (c_0)):=Sz.mono (Sz.mul sp_0 sc_0) (by omega)
 have z2_0:Sz (2 * k + 1) ((p_1) * (c_0)):=Sz.mono (Sz.mul sp_1 sc_0) (by omega)
 exact Sz.mono z2_0 (by omega)
theorem c_geo_Pt_Turn {V:View} {p:Value} {p_0 p_1:Rat} (hp:RPt V p p_0 p_1) {k:Nat} (sp_0:Sz k p_0) (sp_1:Sz k p_1) (hk:1 * k + 1 < 274877906944) :
  Acts prog 158 #[p] V fun r V'=>RPt V' r (-(p_1)) (p_0):=by
 have hp0:=hp
 obtain ⟨p0,p1,p2,p3,p4,p5,rfl,hp_0,hp_1⟩:=hp
 refine vc_geo_Pt_Turn p0 p1 p2 p3 p4 p5 V _ fun V1 l1=>(c_R_Neg (hp_1.le (l1)) sp_1 (by omega)).mono ?_
 rintro r V2 l2 g1
 have g10:=g1
 obtain ⟨w0a,w0b,w0c,rfl⟩:=g1.shape
 have z1_0:Sz (1 * k + 0) (-(p_1)):=Sz.mono (Sz.neg sp_1) (by omega)
 exact ⟨_,_,_,rfl,fun V3 l3=>⟨_,_,_,_,_,_,rfl,(g10.le (l3)),(hp_0.le (l1.trans (l2.trans (l3))))⟩⟩
theorem c_geo_Pt_Dot {V:View} {p:Value} {p_0 p_1:Rat} {q:Value} {q_0 q_1:Rat} (hp:RPt V p p_0 p_1) (hq:RPt V q q_0 q_1) {k:Nat} (sp_0:Sz k p_0) (sp_1:Sz k p_1) (sq_0:Sz k q_0) (sq_1:Sz k q_1) (hk:4 * k + 3 < 274877906944) :
  Acts prog 160 #[p,q] V fun r V'=>RR V' r (((p_0) * (q_0)) + ((p_1) * (q_1))):=by
 have hp0:=hp
 obtain ⟨p0,p1,p2,p3,p4,p5,rfl,hp_0,hp_1⟩:=hp
 have hq0:=hq
 obtain ⟨q0,q1,q2,q3,q4,q5,rfl,hq_0,hq_1⟩:=hq
 refine vc_geo_Pt_Dot p0 p1 p2 p3 p4 p5 q0 q1 q2 q3 q4 q5 V _ fun V1 l1=>(c_R_Mul (hp_0.le (l1)) (hq_0.le (l1)) sp_0 sq_0 (by omega)).mono ?_
 rintro r V2 l2 g1
 have g10:=g1
 obtain ⟨w0a,w0b,w0c,rfl⟩:=g1.shape
 have z1_0:Sz (2 * k + 1) ((p_0) * (q_0)):=Sz.mono (Sz.mul sp_0 sq_0) (by omega)
 refine ⟨_,_,_,rfl,fun V3 l3=>(c_R_Mul (hp_1.le (l1.trans (l2.trans (l3)))) (hq_1.le (l1.trans (l2.trans (l3)))) sp_1 sq_1 (by omega)).mono ?_⟩
 rintro r V4 l4 g2
 have g20:=g2
 obtain ⟨w1a,w1b,w1c,rfl⟩:=g2.shape
 have z2_0:Sz (2 * k + 1) ((p_1) * (q_1)):=Sz.mono (Sz.mul sp_1 sq_1) (by omega)
 refine ⟨_,_,_,rfl,fun V5 l5=>(c_R_Add (g10.le (l3.trans (l4.trans (l5)))) (g20.le (l5)) z1_0 z2_0 (by omega)).mono ?_⟩
 rintro r V6 l6 g3
 have g30:=g3
 obtain ⟨w2a,w2b,w2c,rfl⟩:=g3.shape
 have z3_0:Sz (4 * k + 3) (((p_0) * (q_0)) + ((p_1) * (q_1))):=Sz.mono (Sz.add z1_0 z2_0) (by omega)
 exact ⟨_,_,_,rfl,fun V7 l7=>(g30.le (l7))⟩
theorem z_geo_Pt_Dot_0 {p_0 p_1 q_0 q_1:Rat} {k:Nat} (sp_0:Sz k p_0) (sp_1:Sz k p_1) (sq_0:Sz k q_0) (sq_1:Sz k q_1):Sz (4 * k + 3) (((p_0) * (q_0)) + ((p_1) * (q_1))):=by
 have z1_0:Sz (2 * k + 1) ((p_0) * (q_0)):=Sz.mono (Sz.mul sp_0 sq_0) (by omega)
 have z2_0:Sz (2 * k + 1) ((p_1) * (q_1)):=Sz.mono (Sz.mul sp_1 sq_1) (by omega)
 have z3_0:Sz (4 * k + 3) (((p_0) * (q_0)) + ((p_1) * (q_1))):=Sz.mono (Sz.add z1_0 z2_0) (by omega)
 exact Sz.mono z3_0 (by omega)
theorem c_geo_Ln_Dir {V:View} {l:Value} {l_0 l_1 l_2:Rat} (hl:RLn V l l_0 l_1 l_2) {k:Nat} (sl_0:Sz k l_0) (sl_1:Sz k l_1) (sl_2:Sz k l_2) (hk:1 * k + 1 < 274877906944) :
  Acts prog 162 #[l] V fun r V'=>RPt V' r (l_1) (-(l_0)):=by
 have hl0:=hl
 obtain ⟨l0,l1,l2,l3,l4,l5,l6,l7,l8,rfl,hl_0,hl_1,hl_2⟩:=hl
 refine vc_geo_Ln_Dir l0 l1 l2 l3 l4 l5 l6 l7 l8 V _ fun V1 l1=>(c_R_Neg (hl_0.le (l1)) sl_0 (by omega)).mono ?_
 rintro r V2 l2 g1
 have g10:=g1
 obtain ⟨w0a,w0b,w0c,rfl⟩:=g1.shape
 have z1_0:Sz (1 * k + 0) (-(l_0)):=Sz.mono (Sz.neg sl_0) (by omega)
 exact ⟨_,_,_,rfl,fun V3 l3=>⟨_,_,_,_,_,_,rfl,(hl_1.le (l1.trans (l2.trans (l3)))),(g10.le (l3))⟩⟩
theorem z_geo_Ln_Dir_0 {l_0 l_1 l_2:Rat} {k:Nat} (sl_0:Sz k l_0) (sl_1:Sz k l_1) (sl_2:Sz k l_2):Sz (1 * k + 0) (l_1):=by
 have z1_0:Sz (1 * k + 0) (-(l_0)):=Sz.mono (Sz.neg sl_0) (by omega)
 exact Sz.mono sl_1 (by omega)
theorem z_geo_Ln_Dir_1 {l_0 l_1 l_2:Rat} {k:Nat} (sl_0:Sz k l_0) (sl_1:Sz k l_1) (sl_2:Sz k l_2):Sz (1 * k + 0) (-(l_0)):=by
 have z1_0:Sz (1 * k + 0) (-(l_0)):=Sz.mono (Sz.neg sl_0) (by omega)
 exact Sz.mono z1_0 (by omega)
theorem c_geo_Ln_Normal {V:View} {l:Value} {l_0 l_1 l_2:Rat} (hl:RLn V l l_0 l_1 l_2) {k:Nat} (sl_0:Sz k l_0) (sl_1:Sz k l_1) (sl_2:Sz k l_2) (hk:1 * k + 1 < 274877906944) :
  Acts prog 183 #[l] V fun r V'=>RPt V' r (l_0) (l_1):=by
 have hl0:=hl
 obtain ⟨l0,l1,l2,l3,l4,l5,l6,l7,l8,rfl,hl_0,hl_1,hl_2⟩:=hl
 exact vc_geo_Ln_Normal l0 l1 l2 l3 l4 l5 l6 l7 l8 V _ fun V1 l1=>⟨_,_,_,_,_,_,rfl,(hl_0.le (l1)),(hl_1.le (l1))⟩
theorem z_geo_Ln_Normal_0 {l_0 l_1 l_2:Rat} {k:Nat} (sl_0:Sz k l_0) (sl_1:Sz k l_1) (sl_2:Sz k l_2):Sz (1 * k + 0) (l_0):=by
 exact Sz.mono sl_0 (by omega)
theorem z_geo_Ln_Normal_1 {l_0 l_1 l_2:Rat} {k:Nat} (sl_0:Sz k l_0) (sl_1:Sz k l_1) (sl_2:Sz k l_2):Sz (1 * k + 0) (l_1):=by
 exact Sz.mono sl_1 (by omega)
theorem c_geo_Ln_Reverse {V:View} {l:Value} {l_0 l_1 l_2:Rat} (hl:RLn V l l_0 l_1 l_2) {k:Nat} (sl_0:Sz k l_0) (sl_1:Sz k l_1) (sl_2:Sz k l_2) (hk:1 * k + 1 < 274877906944) :
  Acts prog 125 #[l] V fun r V'=>RLn V' r (-(l_0)) (-(l_1)) (-(l_2)):=by
 have hl0:=hl
 obtain ⟨l0,l1,l2,l3,l4,l5,l6,l7,l8,rfl,hl_0,hl_1,hl_2⟩:=hl
 refine vc_geo_Ln_Reverse l0 l1 l2 l3 l4 l5 l6 l7 l8 V _ fun V1 l1=>(c_R_Neg (hl_0.le (l1)) sl_0 (by omega)).mono ?_
 rintro r V2 l2 g1
 have g10:=g1
 obtain ⟨w0a,w0b,w0c,rfl⟩:=g1.shape
 have z1_0:Sz (1 * k + 0) (-(l_0)):=Sz.mono (Sz.neg sl_0) (by omega)
 refine ⟨_,_,_,rfl,fun V3 l3=>(c_R_Neg (hl_1.le (l1.trans (l2.trans (l3)))) sl_1 (by omega)).mono ?_⟩
 rintro r V4 l4 g2
 have g20:=g2
 obtain ⟨w1a,w1b,w1c,rfl⟩:=g2.shape
 have z2_0:Sz (1 * k + 0) (-(l_1)):=Sz.mono (Sz.neg sl_1) (by omega)
 refine ⟨_,_,_,rfl,fun V5 l5=>(c_R_Neg (hl_2.le (l1.trans (l2.trans (l3.trans (l4.trans (l5)))))) sl_2 (by omega)).mono ?_⟩
 rintro r V6 l6 g3
 have g30:=g3
 obtain ⟨w2a,w2b,w2c,rfl⟩:=g3.shape
 have z3_0:Sz (1 * k + 0) (-(l_2)):=Sz.mono (Sz.neg sl_2) (by omega)
 exact ⟨_,_,_,rfl,fun V7 l7=>⟨_,_,_,_,_,_,_,_,_,rfl,(g10.le (l3.trans (l4.trans (l5.trans (l6.trans (l7)))))),(g20.le (l5.trans (l6.trans (l7)))),(g30.le (l7))⟩⟩
theorem c_geo_Ln_Value {V:View} {l:Value} {l_0 l_1 l_2:Rat} {p:Value} {p_0 p_1:Rat} (hl:RLn V l l_0 l_1 l_2) (hp:RPt V p p_0 p_1) {k:Nat} (sl_0:Sz k l_0) (sl_1:Sz k l_1) (sl_2:Sz k l_2) (sp_0:Sz k p_0) (sp_1:Sz k p_1) (hk:5 * k + 4 < 274877906944) :
  Acts prog 173 #[l,p] V fun r V'=>RR V' r ((((l_0) * (p_0)) + ((l_1) * (p_1))) + (l_2)):=by
 have hl0:=hl
 obtain ⟨l0,l1,l2,l3,l4,l5,l6,l7,l8,rfl,hl_0,hl_1,hl_2⟩:=hl
 have hp0:=hp
 obtain ⟨p0,p1,p2,p3,p4,p5,rfl,hp_0,hp_1⟩:=hp
 refine vc_geo_Ln_Value l0 l1 l2 l3 l4 l5 l6 l7 l8 p0 p1 p2 p3 p4 p5 V _ fun V1 l1=>(c_geo_Ln_Normal (hl0.le (l1)) (Sz.mono sl_0 (by omega):Sz (1 * k + 0) _) (Sz.mono sl_1 (by omega):Sz (1 * k + 0) _) (Sz.mono sl_2 (by omega):Sz (1 * k + 0) _) (by omega)).mono ?_
 rintro r V2 l2 g1
 have g10:=g1
 obtain ⟨w0_0,w0_1,w0_2,w0_3,w0_4,w0_5,rfl,g1p0,g1p1⟩:=g1
 have z1_0:Sz (1 * k + 0) (l_0):=Sz.mono ((z_geo_Ln_Normal_0 (Sz.mono sl_0 (by omega):Sz (1 * k + 0) _) (Sz.mono sl_1 (by omega):Sz (1 * k + 0) _) (Sz.mono sl_2 (by omega):Sz (1 * k + 0) _))) (by omega)
 have z1_1:Sz (1 * k + 0) (l_1):=Sz.mono ((z_geo_Ln_Normal_1 (Sz.mono sl_0 (by omega):Sz (1 * k + 0) _) (Sz.mono sl_1 (by omega):Sz (1 * k + 0) _) (Sz.mono sl_2 (by omega):Sz (1 * k + 0) _))) (by omega)
 refine ⟨_,_,_,_,_,_,rfl,fun V3 l3=>(c_geo_Pt_Dot (g10.le (l3)) (hp0.le (l1.trans (l2.trans (l3)))) (Sz.mono z1_0 (by omega):Sz (1 * k + 0) _) (Sz.mono z1_1 (by omega):Sz (1 * k + 0) _) (Sz.mono sp_0 (by omega):Sz (1 * k + 0) _) (Sz.mono sp_1 (by omega):Sz (1 * k + 0) _) (by omega)).mono ?_⟩
 rintro r V4 l4 g2
 have g20:=g2
 obtain ⟨w1a,w1b,w1c,rfl⟩:=g2.shape
 have z2_0:Sz (4 * k + 3) (((l_0) * (p_0)) + ((l_1) * (p_1))):=Sz.mono ((z_geo_Pt_Dot_0 (Sz.mono z1_0 (by omega):Sz (1 * k + 0) _) (Sz.mono z1_1 (by omega):Sz (1 * k + 0) _) (Sz.mono sp_0 (by omega):Sz (1 * k + 0) _) (Sz.mono sp_1 (by omega):Sz (1 * k + 0) _))) (by omega)
 refine ⟨_,_,_,rfl,fun V5 l5=>(c_R_Add (g20.le (l5)) (hl_2.le (l1.trans (l2.trans (l3.trans (l4.trans (l5)))))) z2_0 sl_2 (by omega)).mono ?_⟩
 rintro r V6 l6 g3
 have g30:=g3
 obtain ⟨w2a,w2b,w2c,rfl⟩:=g3.shape
 have z3_0:Sz (5 * k + 4) ((((l_0) * (p_0)) + ((l_1) * (p_1))) + (l_2)):=Sz.mono (Sz.add z2_0 sl_2) (by omega)
 exact ⟨_,_,_,rfl,fun V7 l7=>(g30.le (l7))⟩
theorem z_geo_Ln_Value_0 {l_0 l_1 l_2 p_0 p_1:Rat} {k:Nat} (sl_0:Sz k l_0) (sl_1:Sz k l_1) (sl_2:Sz k l_2) (sp_0:Sz k p_0) (sp_1:Sz k p_1):Sz (5 * k + 4) ((((l_0) * (p_0)) + ((l_1) * (p_1))) + (l_2)):=by
 have z1_0:Sz (1 * k + 0) (l_0):=Sz.mono ((z_geo_Ln_Normal_0 (Sz.mono sl_0 (by omega):Sz (1 * k + 0) _) (Sz.mono sl_1 (by omega):Sz (1 * k + 0) _) (Sz.mono sl_2 (by omega):Sz (1 * k + 0) _))) (by omega)
 have z1_1:Sz (1 * k + 0) (l_1):=Sz.mono ((z_geo_Ln_Normal_1 (Sz.mono sl_0 (by omega):Sz (1 * k + 0) _) (Sz.mono sl_1 (by omega):Sz (1 * k + 0) _) (Sz.mono sl_2 (by omega):Sz (1 * k + 0) _))) (by omega)
 have z2_0:Sz (4 * k + 3) (((l_0) * (p_0)) + ((l_1) * (p_1))):=Sz.mono ((z_geo_Pt_Dot_0 (Sz.mono z1_0 (by omega):Sz (1 * k + 0) _) (Sz.mono z1_1 (by omega):Sz (1 * k + 0) _) (Sz.mono sp_0 (by omega):Sz (1 * k + 0) _) (Sz.mono sp_1 (by omega):Sz (1 * k + 0) _))) (by omega)
 have z3_0:Sz (5 * k + 4) ((((l_0) * (p_0)) + ((l_1) * (p_1))) + (l_2)):=Sz.mono (Sz.add z2_0 sl_2) (by omega)
 exact Sz.mono z3_0 (by omega)
theorem c_geo_Ln_Base {V:View} {l:Value} {l_0 l_1 l_2:Rat} (hl:RLn V l l_0 l_1 l_2) {k:Nat} (sl_0:Sz k l_0) (sl_1:Sz k l_1) (sl_2:Sz k l_2) (hk:10 * k + 9 < 274877906944) :
  Acts prog 168 #[l] V fun r V'=>RPt V' r ((l_0) * (((-(l_2)) * (((l_0) * (l_0)) + ((l_1) * (l_1)))⁻¹))) ((l_1) * (((-(l_2)) * (((l_0) * (l_0)) + ((l_1) * (l_1)))⁻¹))):=by
 have hl0:=hl
 obtain ⟨l0,l1,l2,l3,l4,l5,l6,l7,l8,rfl,hl_0,hl_1,hl_2⟩:=hl
 refine vc_geo_Ln_Base l0 l1 l2 l3 l4 l5 l6 l7 l8 V _ fun V1 l1=>(c_geo_Ln_Normal (hl0.le (l1)) (Sz.mono sl_0 (by omega):Sz (1 * k + 0) _) (Sz.mono sl_1 (by omega):Sz (1 * k + 0) _) (Sz.mono sl_2 (by omega):Sz (1 * k + 0) _) (by omega)).mono ?_
 rintro r V2 l2 g1
 have g10:=g1
 obtain ⟨w0_0,w0_1,w0_2,w0_3,w0_4,w0_5,rfl,g1p0,g1p1⟩:=g1
 have z1_0:Sz (1 * k + 0) (l_0):=Sz.mono ((z_geo_Ln_Normal_0 (Sz.mono sl_0 (by omega):Sz (1 * k + 0) _) (Sz.mono sl_1 (by omega):Sz (1 * k + 0) _) (Sz.mono sl_2 (by omega):Sz (1 * k + 0) _))) (by omega)
 have z1_1:Sz (1 * k + 0) (l_1):=Sz.mono ((z_geo_Ln_Normal_1 (Sz.mono sl_0 (by omega):Sz (1 * k + 0) _) (Sz.mono sl_1 (by omega):Sz (1 * k + 0) _) (Sz.mono sl_2 (by omega):Sz (1 * k + 0) _))) (by omega)
 refine ⟨_,_,_,_,_,_,rfl,fun V3 l3=>(c_R_Neg (hl_2.le (l1.trans (l2.trans (l3)))) sl_2 (by omega)).mono ?_⟩
 rintro r V4 l4 g2
 have g20:=g2
 obtain ⟨w1a,w1b,w1c,rfl⟩:=g2.shape
 have z2_0:Sz (1 * k + 0) (-(l_2)):=Sz.mono (Sz.neg sl_2) (by omega)
 refine ⟨_,_,_,rfl,fun V5 l5=>(c_geo_Pt_Dot (g10.le (l3.trans (l4.trans (l5)))) (g10.le (l3.trans (l4.trans (l5)))) (Sz.mono z1_0 (by omega):Sz (1 * k + 0) _) (Sz.mono z1_1 (by omega):Sz (1 * k + 0) _) (Sz.mono z1_0 (by omega):Sz (1 * k + 0) _) (Sz.mono z1_1 (by omega):Sz (1 * k + 0) _) (by omega)).mono ?_⟩
 rintro r V6 l6 g3
 have g30:=g3
 obtain ⟨w2a,w2b,w2c,rfl⟩:=g3.shape
 have z3_0:Sz (4 * k + 3) (((l_0) * (l_0)) + ((l_1) * (l_1))):=Sz.mono ((z_geo_Pt_Dot_0 (Sz.mono z1_0 (by omega):Sz (1 * k + 0) _) (Sz.mono z1_1 (by omega):Sz (1 * k + 0) _) (Sz.mono z1_0 (by omega):Sz (1 * k + 0) _) (Sz.mono z1_1 (by omega):Sz (1 * k + 0) _))) (by omega)
 refine ⟨_,_,_,rfl,fun V7 l7=>(c_R_Quo (g20.le (l5.trans (l6.trans (l7)))) (g30.le (l7)) z2_0 z3_0 (by omega)).mono ?_⟩
 rintro r V8 l8 g4
 have g40:=g4
 obtain ⟨w3a,w3b,w3c,rfl⟩:=g4.shape
 have z4_0:Sz (5 * k + 4) ((-(l_2)) * (((l_0) * (l_0)) + ((l_1) * (l_1)))⁻¹):=Sz.mono (Sz.mul z2_0 (sz_inv z3_0)) (by omega)
 refine ⟨_,_,_,rfl,fun V9 l9=>(c_geo_Pt_Scale (g10.le (l3.trans (l4.trans (l5.trans (l6.trans (l7.trans (l8.trans (l9)))))))) (g40.le (l9)) (Sz.mono z1_0 (by omega):Sz (5 * k + 4) _) (Sz.mono z1_1 (by omega):Sz (5 * k + 4) _) (Sz.mono z4_0 (by omega):Sz (5 * k + 4) _) (by omega)).mono ?_⟩
 rintro r V10 l10 g5
 have g50:=g5
 obtain ⟨w4_0,w4_1,w4_2,w4_3,w4_4,w4_5,rfl,g5p0,g5p1⟩:=g5
 have z5_0:Sz (10 * k + 9) ((l_0) * (((-(l_2)) * (((l_0) * (l_0)) + ((l_1) * (l_1)))⁻¹))):=Sz.mono ((z_geo_Pt_Scale_0 (Sz.mono z1_0 (by omega):Sz (5 * k + 4) _) (Sz.mono z1_1 (by omega):Sz (5 * k + 4) _) (Sz.mono z4_0 (by omega):Sz (5 * k + 4) _))) (by omega)
 have z5_1:Sz (10 * k + 9) ((l_1) * (((-(l_2)) * (((l_0) * (l_0)) + ((l_1) * (l_1)))⁻¹))):=Sz.mono ((z_geo_Pt_Scale_1 (Sz.mono z1_0 (by omega):Sz (5 * k + 4) _) (Sz.mono z1_1 (by omega):Sz (5 * k + 4) _) (Sz.mono z4_0 (by omega):Sz (5 * k + 4) _))) (by omega)
 exact ⟨_,_,_,_,_,_,rfl,fun V11 l11=>⟨_,_,_,_,_,_,rfl,(g5p0.le (l11)),(g5p1.le (l11))⟩⟩
theorem z_geo_Ln_Base_0 {l_0 l_1 l_2:Rat} {k:Nat} (sl_0:Sz k l_0) (sl_1:Sz k l_1) (sl_2:Sz k l_2):Sz (10 * k + 9) ((l_0) * (((-(l_2)) * (((l_0) * (l_0)) + ((l_1) * (l_1)))⁻¹))):=by
 have z1_0:Sz (1 * k + 0) (l_0):=Sz.mono ((z_geo_Ln_Normal_0 (Sz.mono sl_0 (by omega):Sz (1 * k + 0) _) (Sz.mono sl_1 (by omega):Sz (1 * k + 0) _) (Sz.mono sl_2 (by omega):Sz (1 * k + 0) _))) (by omega)
 have z1_1:Sz (1 * k + 0) (l_1):=Sz.mono ((z_geo_Ln_Normal_1 (Sz.mono sl_0 (by omega):Sz (1 * k + 0) _) (Sz.mono sl_1 (by omega):Sz (1 * k + 0) _) (Sz.mono sl_2 (by omega):Sz (1 * k + 0) _))) (by omega)
 have z2_0:Sz (1 * k + 0) (-(l_2)):=Sz.mono (Sz.neg sl_2) (by omega)
 have z3_0:Sz (4 * k + 3) (((l_0) * (l_0)) + ((l_1) * (l_1))):=Sz.mono ((z_geo_Pt_Dot_0 (Sz.mono z1_0 (by omega):Sz (1 * k + 0) _) (Sz.mono z1_1 (by omega):Sz (1 * k + 0) _) (Sz.mono z1_0 (by omega):Sz (1 * k + 0) _) (Sz.mono z1_1 (by omega):Sz (1 * k + 0) _))) (by omega)
 have z4_0:Sz (5 * k + 4) ((-(l_2)) * (((l_0) * (l_0)) + ((l_1) * (l_1)))⁻¹):=Sz.mono (Sz.mul z2_0 (sz_inv z3_0)) (by omega)
 have z5_0:Sz (10 * k + 9) ((l_0) * (((-(l_2)) * (((l_0) * (l_0)) + ((l_1) * (l_1)))⁻¹))):=Sz.mono ((z_geo_Pt_Scale_0 (Sz.mono z1_0 (by omega):Sz (5 * k + 4) _) (Sz.mono z1_1 (by omega):Sz (5 * k + 4) _) (Sz.mono z4_0 (by omega):Sz (5 * k + 4) _))) (by omega)
 have z5_1:Sz (10 * k + 9) ((l_1) * (((-(l_2)) * (((l_0) * (l_0)) + ((l_1) * (l_1)))⁻¹))):=Sz.mono ((z_geo_Pt_Scale_1 (Sz.mono z1_0 (by omega):Sz (5 * k + 4) _) (Sz.mono z1_1 (by omega):Sz (5 * k + 4) _) (Sz.mono z4_0 (by omega):Sz (5 * k + 4) _))) (by omega)
 exact Sz.mono z5_0 (by omega)
theorem z_geo_Ln_Base_1 {l_0 l_1 l_2:Rat} {k:Nat} (sl_0:Sz k l_0) (sl_1:Sz k l_1) (sl_2:Sz k l_2):Sz (10 * k + 9) ((l_1) * (((-(l_2)) * (((l_0) * (l_0)) + ((l_1) * (l_1)))⁻¹))):=by
 have z1_0:Sz (1 * k + 0) (l_0):=Sz.mono ((z_geo_Ln_Normal_0 (Sz.mono sl_0 (by omega):Sz (1 * k + 0) _) (Sz.mono sl_1 (by omega):Sz (1 * k + 0) _) (Sz.mono sl_2 (by omega):Sz (1 * k + 0) _))) (by omega)
 have z1_1:Sz (1 * k + 0) (l_1):=Sz.mono ((z_geo_Ln_Normal_1 (Sz.mono sl_0 (by omega):Sz (1 * k + 0) _) (Sz.mono sl_1 (by omega):Sz (1 * k + 0) _) (Sz.mono sl_2 (by omega):Sz (1 * k + 0) _))) (by omega)
 have z2_0:Sz (1 * k + 0) (-(l_2)):=Sz.mono (Sz.neg sl_2) (by omega)
 have z3_0:Sz (4 * k + 3) (((l_0) * (l_0)) + ((l_1) * (l_1))):=Sz.mono ((z_geo_Pt_Dot_0 (Sz.mono z1_0 (by omega):Sz (1 * k + 0) _) (Sz.mono z1_1 (by omega):Sz (1 * k + 0) _) (Sz.mono z1_0 (by omega):Sz (1 * k + 0) _) (Sz.mono z1_1 (by omega):Sz (1 * k + 0) _))) (by omega)
 have z4_0:Sz (5 * k + 4) ((-(l_2)) * (((l_0) * (l_0)) + ((l_1) * (l_1)))⁻¹):=Sz.mono (Sz.mul z2_0 (sz_inv z3_0)) (by omega)
 have z5_0:Sz (10 * k + 9) ((l_0) * (((-(l_2)) * (((l_0) * (l_0)) + ((l_1) * (l_1)))⁻¹))):=Sz.mono ((z_geo_Pt_Scale_0 (Sz.mono z1_0 (by omega):Sz (5 * k + 4) _) (Sz.mono z1_1 (by omega):Sz (5 * k + 4) _) (Sz.mono z4_0 (by omega):Sz (5 * k + 4) _))) (by omega)
 have z5_1:Sz (10 * k + 9) ((l_1) * (((-(l_2)) * (((l_0) * (l_0)) + ((l_1) * (l_1)))⁻¹))):=Sz.mono ((z_geo_Pt_Scale_1 (Sz.mono z1_0 (by omega):Sz (5 * k + 4) _) (Sz.mono z1_1 (by omega):Sz (5 * k + 4) _) (Sz.mono z4_0 (by omega):Sz (5 * k + 4) _))) (by omega)
 exact Sz.mono z5_1 (by omega)
theorem c_geo_Ln_At {V:View} {l:Value} {l_0 l_1 l_2:Rat} {t:Value} {t_0:Rat} (hl:RLn V l l_0 l_1 l_2) (ht:RR V t t_0) {k:Nat} (sl_0:Sz k l_0) (sl_1:Sz k l_1) (sl_2:Sz k l_2) (st_0:Sz k t_0) (hk:20 * k + 19 < 274877906944) :
  Acts prog 118 #[l,t] V fun r V'=>RPt V' r ((((l_0) * (((-(l_2)) * (((l_0) * (l_0)) + ((l_1) * (l_1)))⁻¹)))) + (((l_1) * (t_0)))) ((((l_1) * (((-(l_2)) * (((l_0) * (l_0)) + ((l_1) * (l_1)))⁻¹)))) + ((((-(l_0))) * (t_0)))):=by
 have hl0:=hl
 obtain ⟨l0,l1,l2,l3,l4,l5,l6,l7,l8,rfl,hl_0,hl_1,hl_2⟩:=hl
 have ht0:=ht
 obtain ⟨t0,t1,t2,rfl⟩:=ht.shape
 refine vc_geo_Ln_At l0 l1 l2 l3 l4 l5 l6 l7 l8 t0 t1 t2 V _ fun V1 l1=>(c_geo_Ln_Base (hl0.le (l1)) (Sz.mono sl_0 (by omega):Sz (1 * k + 0) _) (Sz.mono sl_1 (by omega):Sz (1 * k + 0) _) (Sz.mono sl_2 (by omega):Sz (1 * k + 0) _) (by omega)).mono ?_
 rintro r V2 l2 g1
 have g10:=g1
 obtain ⟨w0_0,w0_1,w0_2,w0_3,w0_4,w0_5,rfl,g1p0,g1p1⟩:=g1
 have z1_0:Sz (10 * k + 9) ((l_0) * (((-(l_2)) * (((l_0) * (l_0)) + ((l_1) * (l_1)))⁻¹))):=Sz.mono ((z_geo_Ln_Base_0 (Sz.mono sl_0 (by omega):Sz (1 * k + 0) _) (Sz.mono sl_1 (by omega):Sz (1 * k + 0) _) (Sz.mono sl_2 (by omega):Sz (1 * k + 0) _))) (by omega)
 have z1_1:Sz (10 * k + 9) ((l_1) * (((-(l_2)) * (((l_0) * (l_0)) + ((l_1) * (l_1)))⁻¹))):=Sz.mono ((z_geo_Ln_Base_1 (Sz.mono sl_0 (by omega):Sz (1 * k + 0) _) (Sz.mono sl_1 (by omega):Sz (1 * k + 0) _) (Sz.mono sl_2 (by omega):Sz (1 * k + 0) _))) (by omega)
 refine ⟨_,_,_,_,_,_,rfl,fun V3 l3=>(c_geo_Ln_Dir (hl0.le (l1.trans (l2.trans (l3)))) (Sz.mono sl_0 (by omega):Sz (1 * k + 0) _) (Sz.mono sl_1 (by omega):Sz (1 * k + 0) _) (Sz.mono sl_2 (by omega):Sz (1 * k + 0) _) (by omega)).mono ?_⟩
 rintro r V4 l4 g2
 have g20:=g2
 obtain ⟨w1_0,w1_1,w1_2,w1_3,w1_4,w1_5,rfl,g2p0,g2p1⟩:=g2
 have z2_0:Sz (1 * k + 0) (l_1):=Sz.mono ((z_geo_Ln_Dir_0 (Sz.mono sl_0 (by omega):Sz (1 * k + 0) _) (Sz.mono sl_1 (by omega):Sz (1 * k + 0) _) (Sz.mono sl_2 (by omega):Sz (1 * k + 0) _))) (by omega)
 have z2_1:Sz (1 * k + 0) (-(l_0)):=Sz.mono ((z_geo_Ln_Dir_1 (Sz.mono sl_0 (by omega):Sz (1 * k + 0) _) (Sz.mono sl_1 (by omega):Sz (1 * k + 0) _) (Sz.mono sl_2 (by omega):Sz (1 * k + 0) _))) (by omega)
 refine ⟨_,_,_,_,_,_,rfl,fun V5 l5=>(c_geo_Pt_Scale (g20.le (l5)) (ht0.le (l1.trans (l2.trans (l3.trans (l4.trans (l5)))))) (Sz.mono z2_0 (by omega):Sz (1 * k + 0) _) (Sz.mono z2_1 (by omega):Sz (1 * k + 0) _) (Sz.mono st_0 (by omega):Sz (1 * k + 0) _) (by omega)).mono ?_⟩
 rintro r V6 l6 g3
 have g30:=g3
 obtain ⟨w2_0,w2_1,w2_2,w2_3,w2_4,w2_5,rfl,g3p0,g3p1⟩:=g3
 have z3_0:Sz (2 * k + 1) ((l_1) * (t_0)):=Sz.mono ((z_geo_Pt_Scale_0 (Sz.mono z2_0 (by omega):Sz (1 * k + 0) _) (Sz.mono z2_1 (by omega):Sz (1 * k + 0) _) (Sz.mono st_0 (by omega):Sz (1 * k + 0) _))) (by omega)
 have z3_1:Sz (2 * k + 1) (((-(l_0))) * (t_0)):=Sz.mono ((z_geo_Pt_Scale_1 (Sz.mono z2_0 (by omega):Sz (1 * k + 0) _) (Sz.mono z2_1 (by omega):Sz (1 * k + 0) _) (Sz.mono st_0 (by omega):Sz (1 * k + 0) _))) (by omega)
 refine ⟨_,_,_,_,_,_,rfl,fun V7 l7=>(c_geo_Pt_Add (g10.le (l3.trans (l4.trans (l5.trans (l6.trans (l7)))))) (g30.le (l7)) (Sz.mono z1_0 (by omega):Sz (10 * k + 9) _) (Sz.mono z1_1 (by omega):Sz (10 * k + 9) _) (Sz.mono z3_0 (by omega):Sz (10 * k + 9) _) (Sz.mono z3_1 (by omega):Sz (10 * k + 9) _) (by omega)).mono ?_⟩
 rintro r V8 l8 g4
 have g40:=g4
 obtain ⟨w3_0,w3_1,w3_2,w3_3,w3_4,w3_5,rfl,g4p0,g4p1⟩:=g4
 have z4_0:Sz (20 * k + 19) ((((l_0) * (((-(l_2)) * (((l_0) * (l_0)) + ((l_1) * (l_1)))⁻¹)))) + (((l_1) * (t_0)))):=Sz.mono ((z_geo_Pt_Add_0 (Sz.mono z1_0 (by omega):Sz (10 * k + 9) _) (Sz.mono z1_1 (by omega):Sz (10 * k + 9) _) (Sz.mono z3_0 (by omega):Sz (10 * k + 9) _) (Sz.mono z3_1 (by omega):Sz (10 * k + 9) _))) (by omega)
 have z4_1:Sz (20 * k + 19) ((((l_1) * (((-(l_2)) * (((l_0) * (l_0)) + ((l_1) * (l_1)))⁻¹)))) + ((((-(l_0))) * (t_0)))):=Sz.mono ((z_geo_Pt_Add_1 (Sz.mono z1_0 (by omega):Sz (10 * k + 9) _) (Sz.mono z1_1 (by omega):Sz (10 * k + 9) _) (Sz.mono z3_0 (by omega):Sz (10 * k + 9) _) (Sz.mono z3_1 (by omega):Sz (10 * k + 9) _))) (by omega)
 exact ⟨_,_,_,_,_,_,rfl,fun V9 l9=>⟨_,_,_,_,_,_,rfl,(g4p0.le (l9)),(g4p1.le (l9))⟩⟩
theorem z_geo_Ln_At_0 {l_0 l_1 l_2 t_0:Rat} {k:Nat} (sl_0:Sz k l_0) (sl_1:Sz k l_1) (sl_2:Sz k l_2) (st_0:Sz k t_0):Sz (20 * k + 19) ((((l_0) * (((-(l_2)) * (((l_0) * (l_0)) + ((l_1) * (l_1)))⁻¹)))) + (((l_1) * (t_0)))):=by
 have z1_0:Sz (10 * k + 9) ((l_0) * (((-(l_2)) * (((l_0) * (l_0)) + ((l_1) * (l_1)))⁻¹))):=Sz.mono ((z_geo_Ln_Base_0 (Sz.mono sl_0 (by omega):Sz (1 * k + 0) _) (Sz.mono sl_1 (by omega):Sz (1 * k + 0) _) (Sz.mono sl_2 (by omega):Sz (1 * k + 0) _))) (by omega)
 have z1_1:Sz (10 * k + 9) ((l_1) * (((-(l_2)) * (((l_0) * (l_0)) + ((l_1) * (l_1)))⁻¹))):=Sz.mono ((z_geo_Ln_Base_1 (Sz.mono sl_0 (by omega):Sz (1 * k + 0) _) (Sz.mono sl_1 (by omega):Sz (1 * k + 0) _) (Sz.mono sl_2 (by omega):Sz (1 * k + 0) _))) (by omega)
 have z2_0:Sz (1 * k + 0) (l_1):=Sz.mono ((z_geo_Ln_Dir_0 (Sz.mono sl_0 (by omega):Sz (1 * k + 0) _) (Sz.mono sl_1 (by omega):Sz (1 * k + 0) _) (Sz.mono sl_2 (by omega):Sz (1 * k + 0) _))) (by omega)
 have z2_1:Sz (1 * k + 0) (-(l_0)):=Sz.mono ((z_geo_Ln_Dir_1 (Sz.mono sl_0 (by omega):Sz (1 * k + 0) _) (Sz.mono sl_1 (by omega):Sz (1 * k + 0) _) (Sz.mono sl_2 (by omega):Sz (1 * k + 0) _))) (by omega)
 have z3_0:Sz (2 * k + 1) ((l_1) * (t_0)):=Sz.mono ((z_geo_Pt_Scale_0 (Sz.mono z2_0 (by omega):Sz (1 * k + 0) _) (Sz.mono z2_1 (by omega):Sz (1 * k + 0) _) (Sz.mono st_0 (by omega):Sz (1 * k + 0) _))) (by omega)
 have z3_1:Sz (2 * k + 1) (((-(l_0))) * (t_0)):=Sz.mono ((z_geo_Pt_Scale_1 (Sz.mono z2_0 (by omega):Sz (1 * k + 0) _) (Sz.mono z2_1 (by omega):Sz (1 * k + 0) _) (Sz.mono st_0 (by omega):Sz (1 * k + 0) _))) (by omega)
 have z4_0:Sz (20 * k + 19) ((((l_0) * (((-(l_2)) * (((l_0) * (l_0)) + ((l_1) * (l_1)))⁻¹)))) + (((l_1) * (t_0)))):=Sz.mono ((z_geo_Pt_Add_0 (Sz.mono z1_0 (by omega):Sz (10 * k + 9) _) (Sz.mono z1_1 (by omega):Sz (10 * k + 9) _) (Sz.mono z3_0 (by omega):Sz (10 * k + 9) _) (Sz.mono z3_1 (by omega):Sz (10 * k + 9) _))) (by omega)
 have z4_1:Sz (20 * k + 19) ((((l_1) * (((-(l_2)) * (((l_0) * (l_0)) + ((l_1) * (l_1)))⁻¹)))) + ((((-(l_0))) * (t_0)))):=Sz.mono ((z_geo_Pt_Add_1 (Sz.mono z1_0 (by omega):Sz (10 * k + 9) _) (Sz.mono z1_1 (by omega):Sz (10 * k + 9) _) (Sz.mono z3_0 (by omega):Sz (10 * k + 9) _) (Sz.mono z3_1 (by omega):Sz (10 * k + 9) _))) (by omega)
 exact Sz.mono z4_0 (by omega)
theorem z_geo_Ln_At_1 {l_0 l_1 l_2 t_0:Rat} {k:Nat} (sl_0:Sz k l_0) (sl_1:Sz k l_1) (sl_2:Sz k l_2) (st_0:Sz k t_0):Sz (20 * k + 19) ((((l_1) * (((-(l_2)) * (((l_0) * (l_0)) + ((l_1) * (l_1)))⁻¹)))) + ((((-(l_0))) * (t_0)))):=by
 have z1_0:Sz (10 * k + 9) ((l_0) * (((-(l_2)) * (((l_0) * (l_0)) + ((l_1) * (l_1)))⁻¹))):=Sz.mono ((z_geo_Ln_Base_0 (Sz.mono sl_0 (by omega):Sz (1 * k + 0) _) (Sz.mono sl_1 (by omega):Sz (1 * k + 0) _) (Sz.mono sl_2 (by omega):Sz (1 * k + 0) _))) (by omega)
 have z1_1:Sz (10 * k + 9) ((l_1) * (((-(l_2)) * (((l_0) * (l_0)) + ((l_1) * (l_1)))⁻¹))):=Sz.mono ((z_geo_Ln_Base_1 (Sz.mono sl_0 (by omega):Sz (1 * k + 0) _) (Sz.mono sl_1 (by omega):Sz (1 * k + 0) _) (Sz.mono sl_2 (by omega):Sz (1 * k + 0) _))) (by omega)
 have z2_0:Sz (1 * k + 0) (l_1):=Sz.mono ((z_geo_Ln_Dir_0 (Sz.mono sl_0 (by omega):Sz (1 * k + 0) _) (Sz.mono sl_1 (by omega):Sz (1 * k + 0) _) (Sz.mono sl_2 (by omega):Sz (1 * k + 0) _))) (by omega)
 have z2_1:Sz (1 * k + 0) (-(l_0)):=Sz.mono ((z_geo_Ln_Dir_1 (Sz.mono sl_0 (by omega):Sz (1 * k + 0) _) (Sz.mono sl_1 (by omega):Sz (1 * k + 0) _) (Sz.mono sl_2 (by omega):Sz (1 * k + 0) _))) (by omega)
 have z3_0:Sz (2 * k + 1) ((l_1) * (t_0)):=Sz.mono ((z_geo_Pt_Scale_0 (Sz.mono z2_0 (by omega):Sz (1 * k + 0) _) (Sz.mono z2_1 (by omega):Sz (1 * k + 0) _) (Sz.mono st_0 (by omega):Sz (1 * k + 0) _))) (by omega)
 have z3_1:Sz (2 * k + 1) (((-(l_0))) * (t_0)):=Sz.mono ((z_geo_Pt_Scale_1 (Sz.mono z2_0 (by omega):Sz (1 * k + 0) _) (Sz.mono z2_1 (by omega):Sz (1 * k + 0) _) (Sz.mono st_0 (by omega):Sz (1 * k + 0) _))) (by omega)
 have z4_0:Sz (20 * k + 19) ((((l_0) * (((-(l_2)) * (((l_0) * (l_0)) + ((l_1) * (l_1)))⁻¹)))) + (((l_1) * (t_0)))):=Sz.mono ((z_geo_Pt_Add_0 (Sz.mono z1_0 (by omega):Sz (10 * k + 9) _) (Sz.mono z1_1 (by omega):Sz (10 * k + 9) _) (Sz.mono z3_0 (by omega):Sz (10 * k + 9) _) (Sz.mono z3_1 (by omega):Sz (10 * k + 9) _))) (by omega)
 have z4_1:Sz (20 * k + 19) ((((l_1) * (((-(l_2)) * (((l_0) * (l_0)) + ((l_1) * (l_1)))⁻¹)))) + ((((-(l_0))) * (t_0)))):=Sz.mono ((z_geo_Pt_Add_1 (Sz.mono z1_0 (by omega):Sz (10 * k + 9) _) (Sz.mono z1_1 (by omega):Sz (10 * k + 9) _) (Sz.mono z3_0 (by omega):Sz (10 * k + 9) _) (Sz.mono z3_1 (by omega):Sz (10 * k + 9) _))) (by omega)
 exact Sz.mono z4_1 (by omega)
theorem c_geo_Ln_Param {V:View} {l:Value} {l_0 l_1 l_2:Rat} {p:Value} {p_0 p_1:Rat} (hl:RLn V l l_0 l_1 l_2) (hp:RPt V p p_0 p_1) {k:Nat} (sl_0:Sz k l_0) (sl_1:Sz k l_1) (sl_2:Sz k l_2) (sp_0:Sz k p_0) (sp_1:Sz k p_1) (hk:8 * k + 7 < 274877906944) :
  Acts prog 101 #[l,p] V fun r V'=>RR V' r ((((l_1) * (p_0)) + (((-(l_0))) * (p_1))) * (((l_1) * (l_1)) + (((-(l_0))) * ((-(l_0)))))⁻¹):=by
 have hl0:=hl
 obtain ⟨l0,l1,l2,l3,l4,l5,l6,l7,l8,rfl,hl_0,hl_1,hl_2⟩:=hl
 have hp0:=hp
 obtain ⟨p0,p1,p2,p3,p4,p5,rfl,hp_0,hp_1⟩:=hp
 refine vc_geo_Ln_Param l0 l1 l2 l3 l4 l5 l6 l7 l8 p0 p1 p2 p3 p4 p5 V _ fun V1 l1=>(c_geo_Ln_Dir (hl0.le (l1)) (Sz.mono sl_0 (by omega):Sz (1 * k + 0) _) (Sz.mono sl_1 (by omega):Sz (1 * k + 0) _) (Sz.mono sl_2 (by omega):Sz (1 * k + 0) _) (by omega)).mono ?_
 rintro r V2 l2 g1
 have g10:=g1
 obtain ⟨w0_0,w0_1,w0_2,w0_3,w0_4,w0_5,rfl,g1p0,g1p1⟩:=g1
 have z1_0:Sz (1 * k + 0) (l_1):=Sz.mono ((z_geo_Ln_Dir_0 (Sz.mono sl_0 (by omega):Sz (1 * k + 0) _) (Sz.mono sl_1 (by omega):Sz (1 * k + 0) _) (Sz.mono sl_2 (by omega):Sz (1 * k + 0) _))) (by omega)
 have z1_1:Sz (1 * k + 0) (-(l_0)):=Sz.mono ((z_geo_Ln_Dir_1 (Sz.mono sl_0 (by omega):Sz (1 * k + 0) _) (Sz.mono sl_1 (by omega):Sz (1 * k + 0) _) (Sz.mono sl_2 (by omega):Sz (1 * k + 0) _))) (by omega)
 refine ⟨_,_,_,_,_,_,rfl,fun V3 l3=>(c_geo_Pt_Dot (g10.le (l3)) (hp0.le (l1.trans (l2.trans (l3)))) (Sz.mono z1_0 (by omega):Sz (1 * k + 0) _) (Sz.mono z1_1 (by omega):Sz (1 * k + 0) _) (Sz.mono sp_0 (by omega):Sz (1 * k + 0) _) (Sz.mono sp_1 (by omega):Sz (1 * k + 0) _) (by omega)).mono ?_⟩
 rintro r V4 l4 g2
 have g20:=g2
 obtain ⟨w1a,w1b,w1c,rfl⟩:=g2.shape
 have z2_0:Sz (4 * k + 3) (((l_1) * (p_0)) + (((-(l_0))) * (p_1))):=Sz.mono ((z_geo_Pt_Dot_0 (Sz.mono z1_0 (by omega):Sz (1 * k + 0) _) (Sz.mono z1_1 (by omega):Sz (1 * k + 0) _) (Sz.mono sp_0 (by omega):Sz (1 * k + 0) _) (Sz.mono sp_1 (by omega):Sz (1 * k + 0) _))) (by omega)
 refine ⟨_,_,_,rfl,fun V5 l5=>(c_geo_Pt_Dot (g10.le (l3.trans (l4.trans (l5)))) (g10.le (l3.trans (l4.trans (l5)))) (Sz.mono z1_0 (by omega):Sz (1 * k + 0) _) (Sz.mono z1_1 (by omega):Sz (1 * k + 0) _) (Sz.mono z1_0 (by omega):Sz (1 * k + 0) _) (Sz.mono z1_1 (by omega):Sz (1 * k + 0) _) (by omega)).mono ?_⟩
 rintro r V6 l6 g3
 have g30:=g3
 obtain ⟨w2a,w2b,w2c,rfl⟩:=g3.shape
 have z3_0:Sz (4 * k + 3) (((l_1) * (l_1)) + (((-(l_0))) * ((-(l_0))))):=Sz.mono ((z_geo_Pt_Dot_0 (Sz.mono z1_0 (by omega):Sz (1 * k + 0) _) (Sz.mono z1_1 (by omega):Sz (1 * k + 0) _) (Sz.mono z1_0 (by omega):Sz (1 * k + 0) _) (Sz.mono z1_1 (by omega):Sz (1 * k + 0) _))) (by omega)
 refine ⟨_,_,_,rfl,fun V7 l7=>(c_R_Quo (g20.le (l5.trans (l6.trans (l7)))) (g30.le (l7)) z2_0 z3_0 (by omega)).mono ?_⟩
 rintro r V8 l8 g4
 have g40:=g4
 obtain ⟨w3a,w3b,w3c,rfl⟩:=g4.shape
 have z4_0:Sz (8 * k + 7) ((((l_1) * (p_0)) + (((-(l_0))) * (p_1))) * (((l_1) * (l_1)) + (((-(l_0))) * ((-(l_0)))))⁻¹):=Sz.mono (Sz.mul z2_0 (sz_inv z3_0)) (by omega)
 exact ⟨_,_,_,rfl,fun V9 l9=>(g40.le (l9))⟩
theorem z_geo_Ln_Param_0 {l_0 l_1 l_2 p_0 p_1:Rat} {k:Nat} (sl_0:Sz k l_0) (sl_1:Sz k l_1) (sl_2:Sz k l_2) (sp_0:Sz k p_0) (sp_1:Sz k p_1):Sz (8 * k + 7) ((((l_1) * (p_0)) + (((-(l_0))) * (p_1))) * (((l_1) * (l_1)) + (((-(l_0))) * ((-(l_0)))))⁻¹):=by
 have z1_0:Sz (1 * k + 0) (l_1):=Sz.mono ((z_geo_Ln_Dir_0 (Sz.mono sl_0 (by omega):Sz (1 * k + 0) _) (Sz.mono sl_1 (by omega):Sz (1 * k + 0) _) (Sz.mono sl_2 (by omega):Sz (1 * k + 0) _))) (by omega)
 have z1_1:Sz (1 * k + 0) (-(l_0)):=Sz.mono ((z_geo_Ln_Dir_1 (Sz.mono sl_0 (by omega):Sz (1 * k + 0) _) (Sz.mono sl_1 (by omega):Sz (1 * k + 0) _) (Sz.mono sl_2 (by omega):Sz (1 * k + 0) _))) (by omega)
 have z2_0:Sz (4 * k + 3) (((l_1) * (p_0)) + (((-(l_0))) * (p_1))):=Sz.mono ((z_geo_Pt_Dot_0 (Sz.mono z1_0 (by omega):Sz (1 * k + 0) _) (Sz.mono z1_1 (by omega):Sz (1 * k + 0) _) (Sz.mono sp_0 (by omega):Sz (1 * k + 0) _) (Sz.mono sp_1 (by omega):Sz (1 * k + 0) _))) (by omega)
 have z3_0:Sz (4 * k + 3) (((l_1) * (l_1)) + (((-(l_0))) * ((-(l_0))))):=Sz.mono ((z_geo_Pt_Dot_0 (Sz.mono z1_0 (by omega):Sz (1 * k + 0) _) (Sz.mono z1_1 (by omega):Sz (1 * k + 0) _) (Sz.mono z1_0 (by omega):Sz (1 * k + 0) _) (Sz.mono z1_1 (by omega):Sz (1 * k + 0) _))) (by omega)
 have z4_0:Sz (8 * k + 7) ((((l_1) * (p_0)) + (((-(l_0))) * (p_1))) * (((l_1) * (l_1)) + (((-(l_0))) * ((-(l_0)))))⁻¹):=Sz.mono (Sz.mul z2_0 (sz_inv z3_0)) (by omega)
 exact Sz.mono z4_0 (by omega)
end Go.Proofs.Tryz
/- By program: the conditions of the functions, from their loaded code. -/
namespace Go.Proofs.Tryz
open Go.Eng
set_option maxRecDepth 100000
theorem vc_ref01_ToQ (a0:Bool) (a1p:OA) (a1n a1c:Nat) (a2p:OA) (a2n a2c:Nat) (V:View) (R:Value->View->Prop)
  (h:(∀V1:View,V.Le V1->Acts prog 93 #[.agg #[.bool a0,.slice a1p a1n a1c]] V1 fun r1_ V2=>∃b1_:Bool,∃(p2_:OA) (n2_ c2_:Nat),r1_=.agg #[.bool b1_,.slice p2_ n2_ c2_]/\(∀V3:View,V2.Le V3->Acts prog 106 #[.agg #[.bool a0,.slice a1p a1n a1c,.slice a2p a2n a2c]] V3 fun r3_ V4=>∃(p3_:OA) (n3_ c3_:Nat),r3_=.slice p3_ n3_ c3_/\(∀V5:View,V4.Le V5->Acts prog 105 #[.slice p3_ n3_ c3_] V5 fun r5_ V6=>∃(p4_:OA) (n4_ c4_:Nat),r5_=.slice p4_ n4_ c4_/\(∀V7:View,V6.Le V7->R (.agg #[.bool b1_,.slice p2_ n2_ c2_,.slice p4_ n4_ c4_]) V7))))) :
  Acts prog 50 #[.agg #[.bool a0,.slice a1p a1n a1c,.slice a2p a2n a2c]] V R:=
 fn_does (LF:=LF0) (RF:=[1000007]) (β0:=(fun _=>0)) tab_ok mixed [] [] func50 (by kernel_rfl)
  [(0,.agg [.v (.bool a0),.v (.slice a1p a1n a1c),.v (.slice a2p a2n a2c)])]
  [] (by kernel_rfl) trivial h (by kernel_rfl)
theorem vc_ref01_SameQ (a0:Bool) (a1p:OA) (a1n a1c:Nat) (a2p:OA) (a2n a2c:Nat) (b0:Bool) (b1p:OA) (b1n b1c:Nat) (b2p:OA) (b2n b2c:Nat) (V:View) (R:Value->View->Prop)
  (h:(∀V1:View,V.Le V1->Acts prog 114 #[.agg #[.bool a0,.slice a1p a1n a1c],.agg #[.bool b0,.slice b1p b1n b1c]] V1 fun r1_ V2=>∃b1_:Bool,r1_=.bool b1_/\((b1_=true->(∀V3:View,V2.Le V3->Acts prog 119 #[.slice a2p a2n a2c,.slice b2p b2n b2c] V3 fun r3_ V4=>∃b2_:Bool,r3_=.bool b2_/\(∀V5:View,V4.Le V5->R (.bool b2_) V5)))/\(b1_=false->(∀V6:View,V2.Le V6->R (.bool false) V6))))) :
  Acts prog 63 #[.agg #[.bool a0,.slice a1p a1n a1c,.slice a2p a2n a2c],.agg #[.bool b0,.slice b1p b1n b1c,.slice b2p b2n b2c]] V R:=
 fn_does (LF:=LF0) (RF:=[1000007]) (β0:=(fun _=>0)) tab_ok mixed [] [] func63 (by kernel_rfl)
  [(0,.agg [.v (.bool a0),.v (.slice a1p a1n a1c),.v (.slice a2p a2n a2c)]),(1,.agg [.v (.bool b0),.v (.slice b1p b1n b1c),.v (.slice b2p b2n b2c)])]
  [] (by kernel_rfl) trivial h (by kernel_rfl)
theorem vc_ref04_Dot (p0:Bool) (p1p:OA) (p1n p1c:Nat) (p2p:OA) (p2n p2c:Nat) (p3:Bool) (p4p:OA) (p4n p4c:Nat) (p5p:OA) (p5n p5c:Nat) (q0:Bool) (q1p:OA) (q1n q1c:Nat) (q2p:OA) (q2n q2c:Nat) (q3:Bool) (q4p:OA) (q4n q4c:Nat) (q5p:OA) (q5n q5c:Nat) (V:View) (R:Value->View->Prop)
  (h:(∀V1:View,V.Le V1->Acts prog 98 #[.agg #[.bool p0,.slice p1p p1n p1c,.slice p2p p2n p2c],.agg #[.bool q0,.slice q1p q1n q1c,.slice q2p q2n q2c]] V1 fun r1_ V2=>∃b1_:Bool,∃(p2_:OA) (n2_ c2_:Nat),∃(p3_:OA) (n3_ c3_:Nat),r1_=.agg #[.bool b1_,.slice p2_ n2_ c2_,.slice p3_ n3_ c3_]/\(∀V3:View,V2.Le V3->Acts prog 98 #[.agg #[.bool p3,.slice p4p p4n p4c,.slice p5p p5n p5c],.agg #[.bool q3,.slice q4p q4n q4c,.slice q5p q5n q5c]] V3 fun r3_ V4=>∃b4_:Bool,∃(p5_:OA) (n5_ c5_:Nat),∃(p6_:OA) (n6_ c6_:Nat),r3_=.agg #[.bool b4_,.slice p5_ n5_ c5_,.slice p6_ n6_ c6_]/\(∀V5:View,V4.Le V5->Acts prog 80 #[.agg #[.bool b1_,.slice p2_ n2_ c2_,.slice p3_ n3_ c3_],.agg #[.bool b4_,.slice p5_ n5_ c5_,.slice p6_ n6_ c6_]] V5 fun r5_ V6=>∃b7_:Bool,∃(p8_:OA) (n8_ c8_:Nat),∃(p9_:OA) (n9_ c9_:Nat),r5_=.agg #[.bool b7_,.slice p8_ n8_ c8_,.slice p9_ n9_ c9_]/\(∀V7:View,V6.Le V7->R (.agg #[.bool b7_,.slice p8_ n8_ c8_,.slice p9_ n9_ c9_]) V7))))) :
  Acts prog 112 #[.agg #[.bool p0,.slice p1p p1n p1c,.slice p2p p2n p2c,.bool p3,.slice p4p p4n p4c,.slice p5p p5n p5c],.agg #[.bool q0,.slice q1p q1n q1c,.slice q2p q2n q2c,.bool q3,.slice q4p q4n q4c,.slice q5p q5n q5c]] V R:=
 fn_does (LF:=LF0) (RF:=[1000007]) (β0:=(fun _=>0)) tab_ok mixed [] [] func112 (by kernel_rfl)
  [(0,.agg [.v (.bool p0),.v (.slice p1p p1n p1c),.v (.slice p2p p2n p2c),.v (.bool p3),.v (.slice p4p p4n p4c),.v (.slice p5p p5n p5c)]),(1,.agg [.v (.bool q0),.v (.slice q1p q1n q1c),.v (.slice q2p q2n q2c),.v (.bool q3),.v (.slice q4p q4n q4c),.v (.slice q5p q5n q5c)])]
  [] (by kernel_rfl) trivial h (by kernel_rfl)
theorem vc_ref04_Dir (l0:Bool) (l1p:OA) (l1n l1c:Nat) (l2:Bool) (l3p:OA) (l3n l3c:Nat) (l4:Bool) (l5p:OA) (l5n l5c:Nat) (V:View) (R:Value->View->Prop)
  (h:(∀V1:View,V.Le V1->Acts prog 99 #[.agg #[.bool l2,.slice l3p l3n l3c]] V1 fun r1_ V2=>∃b1_:Bool,∃(p2_:OA) (n2_ c2_:Nat),∃(p3_:OA) (n3_ c3_:Nat),r1_=.agg #[.bool b1_,.slice p2_ n2_ c2_,.slice p3_ n3_ c3_]/\(∀V3:View,V2.Le V3->Acts prog 99 #[.agg #[.bool l0,.slice l1p l1n l1c]] V3 fun r3_ V4=>∃b4_:Bool,∃(p5_:OA) (n5_ c5_:Nat),∃(p6_:OA) (n6_ c6_:Nat),r3_=.agg #[.bool b4_,.slice p5_ n5_ c5_,.slice p6_ n6_ c6_]/\(∀V5:View,V4.Le V5->Acts prog 72 #[.agg #[.bool b4_,.slice p5_ n5_ c5_,.slice p6_ n6_ c6_]] V5 fun r5_ V6=>∃b7_:Bool,∃(p8_:OA) (n8_ c8_:Nat),∃(p9_:OA) (n9_ c9_:Nat),r5_=.agg #[.bool b7_,.slice p8_ n8_ c8_,.slice p9_ n9_ c9_]/\(∀V7:View,V6.Le V7->R (.agg #[.bool b1_,.slice p2_ n2_ c2_,.slice p3_ n3_ c3_,.bool b7_,.slice p8_ n8_ c8_,.slice p9_ n9_ c9_]) V7))))) :
  Acts prog 46 #[.agg #[.bool l0,.slice l1p l1n l1c,.bool l2,.slice l3p l3n l3c,.bool l4,.slice l5p l5n l5c]] V R:=
 fn_does (LF:=LF0) (RF:=[1000007]) (β0:=(fun _=>0)) tab_ok mixed [] [] func46 (by kernel_rfl)
  [(0,.agg [.v (.bool l0),.v (.slice l1p l1n l1c),.v (.bool l2),.v (.slice l3p l3n l3c),.v (.bool l4),.v (.slice l5p l5n l5c)])]
  [] (by kernel_rfl) trivial h (by kernel_rfl)
theorem vc_ref04_q (a0:Bool) (a1p:OA) (a1n a1c:Nat) (V:View) (R:Value->View->Prop)
  (h:(∀V1:View,V.Le V1->R (.agg #[.bool a0,.slice a1p a1n a1c,.slice none 0 0]) V1)) :
  Acts prog 99 #[.agg #[.bool a0,.slice a1p a1n a1c]] V R:=
 fn_does (LF:=LF0) (RF:=[1000007]) (β0:=(fun _=>0)) tab_ok mixed [] [] func99 (by kernel_rfl)
  [(0,.agg [.v (.bool a0),.v (.slice a1p a1n a1c)])]
  [] (by kernel_rfl) trivial h (by kernel_rfl)
theorem vc_ref04_Value (l0:Bool) (l1p:OA) (l1n l1c:Nat) (l2:Bool) (l3p:OA) (l3n l3c:Nat) (l4:Bool) (l5p:OA) (l5n l5c:Nat) (p0:Bool) (p1p:OA) (p1n p1c:Nat) (p2p:OA) (p2n p2c:Nat) (p3:Bool) (p4p:OA) (p4n p4c:Nat) (p5p:OA) (p5n p5c:Nat) (V:View) (R:Value->View->Prop)
  (h:(∀V1:View,V.Le V1->Acts prog 99 #[.agg #[.bool l0,.slice l1p l1n l1c]] V1 fun r1_ V2=>∃b1_:Bool,∃(p2_:OA) (n2_ c2_:Nat),∃(p3_:OA) (n3_ c3_:Nat),r1_=.agg #[.bool b1_,.slice p2_ n2_ c2_,.slice p3_ n3_ c3_]/\(∀V3:View,V2.Le V3->Acts prog 98 #[.agg #[.bool b1_,.slice p2_ n2_ c2_,.slice p3_ n3_ c3_],.agg #[.bool p0,.slice p1p p1n p1c,.slice p2p p2n p2c]] V3 fun r3_ V4=>∃b4_:Bool,∃(p5_:OA) (n5_ c5_:Nat),∃(p6_:OA) (n6_ c6_:Nat),r3_=.agg #[.bool b4_,.slice p5_ n5_ c5_,.slice p6_ n6_ c6_]/\(∀V5:View,V4.Le V5->Acts prog 99 #[.agg #[.bool l2,.slice l3p l3n l3c]] V5 fun r5_ V6=>∃b7_:Bool,∃(p8_:OA) (n8_ c8_:Nat),∃(p9_:OA) (n9_ c9_:Nat),r5_=.agg #[.bool b7_,.slice p8_ n8_ c8_,.slice p9_ n9_ c9_]/\(∀V7:View,V6.Le V7->Acts prog 98 #[.agg #[.bool b7_,.slice p8_ n8_ c8_,.slice p9_ n9_ c9_],.agg #[.bool p3,.slice p4p p4n p4c,.slice p5p p5n p5c]] V7 fun r7_ V8=>∃b10_:Bool,∃(p11_:OA) (n11_ c11_:Nat),∃(p12_:OA) (n12_ c12_:Nat),r7_=.agg #[.bool b10_,.slice p11_ n11_ c11_,.slice p12_ n12_ c12_]/\(∀V9:View,V8.Le V9->Acts prog 80 #[.agg #[.bool b4_,.slice p5_ n5_ c5_,.slice p6_ n6_ c6_],.agg #[.bool b10_,.slice p11_ n11_ c11_,.slice p12_ n12_ c12_]] V9 fun r9_ V10=>∃b13_:Bool,∃(p14_:OA) (n14_ c14_:Nat),∃(p15_:OA) (n15_ c15_:Nat),r9_=.agg #[.bool b13_,.slice p14_ n14_ c14_,.slice p15_ n15_ c15_]/\(∀V11:View,V10.Le V11->Acts prog 99 #[.agg #[.bool l4,.slice l5p l5n l5c]] V11 fun r11_ V12=>∃b16_:Bool,∃(p17_:OA) (n17_ c17_:Nat),∃(p18_:OA) (n18_ c18_:Nat),r11_=.agg #[.bool b16_,.slice p17_ n17_ c17_,.slice p18_ n18_ c18_]/\(∀V13:View,V12.Le V13->Acts prog 80 #[.agg #[.bool b13_,.slice p14_ n14_ c14_,.slice p15_ n15_ c15_],.agg #[.bool b16_,.slice p17_ n17_ c17_,.slice p18_ n18_ c18_]] V13 fun r13_ V14=>∃b19_:Bool,∃(p20_:OA) (n20_ c20_:Nat),∃(p21_:OA) (n21_ c21_:Nat),r13_=.agg #[.bool b19_,.slice p20_ n20_ c20_,.slice p21_ n21_ c21_]/\(∀V15:View,V14.Le V15->R (.agg #[.bool b19_,.slice p20_ n20_ c20_,.slice p21_ n21_ c21_]) V15))))))))) :
  Acts prog 94 #[.agg #[.bool l0,.slice l1p l1n l1c,.bool l2,.slice l3p l3n l3c,.bool l4,.slice l5p l5n l5c],.agg #[.bool p0,.slice p1p p1n p1c,.slice p2p p2n p2c,.bool p3,.slice p4p p4n p4c,.slice p5p p5n p5c]] V R:=
 fn_does (LF:=LF0) (RF:=[1000007]) (β0:=(fun _=>0)) tab_ok mixed [] [] func94 (by kernel_rfl)
  [(0,.agg [.v (.bool l0),.v (.slice l1p l1n l1c),.v (.bool l2),.v (.slice l3p l3n l3c),.v (.bool l4),.v (.slice l5p l5n l5c)]),(1,.agg [.v (.bool p0),.v (.slice p1p p1n p1c),.v (.slice p2p p2n p2c),.v (.bool p3),.v (.slice p4p p4n p4c),.v (.slice p5p p5n p5c)])]
  [] (by kernel_rfl) trivial h (by kernel_rfl)
theorem vc_ref04_Side (l0:Bool) (l1p:OA) (l1n l1c:Nat) (l2:Bool) (l3p:OA) (l3n l3c:Nat) (l4:Bool) (l5p:OA) (l5n l5c:Nat) (p0:Bool) (p1p:OA) (p1n p1c:Nat) (p2p:OA) (p2n p2c:Nat) (p3:Bool) (p4p:OA) (p4n p4c:Nat) (p5p:OA) (p5n p5c:Nat) (V:View) (R:Value->View->Prop)
  (h:(∀V1:View,V.Le V1->Acts prog 94 #[.agg #[.bool l0,.slice l1p l1n l1c,.bool l2,.slice l3p l3n l3c,.bool l4,.slice l5p l5n l5c],.agg #[.bool p0,.slice p1p p1n p1c,.slice p2p p2n p2c,.bool p3,.slice p4p p4n p4c,.slice p5p p5n p5c]] V1 fun r1_ V2=>∃b1_:Bool,∃(p2_:OA) (n2_ c2_:Nat),∃(p3_:OA) (n3_ c3_:Nat),r1_=.agg #[.bool b1_,.slice p2_ n2_ c2_,.slice p3_ n3_ c3_]/\(∀V3:View,V2.Le V3->Acts prog 44 #[.agg #[.bool b1_,.slice p2_ n2_ c2_,.slice p3_ n3_ c3_]] V3 fun r3_ V4=>∃x4_:Int,r3_=.int .i64 x4_/\(∀V5:View,V4.Le V5->R (.int .i64 x4_) V5)))) :
  Acts prog 42 #[.agg #[.bool l0,.slice l1p l1n l1c,.bool l2,.slice l3p l3n l3c,.bool l4,.slice l5p l5n l5c],.agg #[.bool p0,.slice p1p p1n p1c,.slice p2p p2n p2c,.bool p3,.slice p4p p4n p4c,.slice p5p p5n p5c]] V R:=
 fn_does (LF:=LF0) (RF:=[1000007]) (β0:=(fun _=>0)) tab_ok mixed [] [] func42 (by kernel_rfl)
  [(0,.agg [.v (.bool l0),.v (.slice l1p l1n l1c),.v (.bool l2),.v (.slice l3p l3n l3c),.v (.bool l4),.v (.slice l5p l5n l5c)]),(1,.agg [.v (.bool p0),.v (.slice p1p p1n p1c),.v (.slice p2p p2n p2c),.v (.bool p3),.v (.slice p4p p4n p4c),.v (.slice p5p p5n p5c)])]
  [] (by kernel_rfl) trivial h (by kernel_rfl)
theorem vc_ref04_Param (l0:Bool) (l1p:OA) (l1n l1c:Nat) (l2:Bool) (l3p:OA) (l3n l3c:Nat) (l4:Bool) (l5p:OA) (l5n l5c:Nat) (p0:Bool) (p1p:OA) (p1n p1c:Nat) (p2p:OA) (p2n p2c:Nat) (p3:Bool) (p4p:OA) (p4n p4c:Nat) (p5p:OA) (p5n p5c:Nat) (V:View) (R:Value->View->Prop)
  (h:(∀V1:View,V.Le V1->Acts prog 46 #[.agg #[.bool l0,.slice l1p l1n l1c,.bool l2,.slice l3p l3n l3c,.bool l4,.slice l5p l5n l5c]] V1 fun r1_ V2=>∃b1_:Bool,∃(p2_:OA) (n2_ c2_:Nat),∃(p3_:OA) (n3_ c3_:Nat),∃b4_:Bool,∃(p5_:OA) (n5_ c5_:Nat),∃(p6_:OA) (n6_ c6_:Nat),r1_=.agg #[.bool b1_,.slice p2_ n2_ c2_,.slice p3_ n3_ c3_,.bool b4_,.slice p5_ n5_ c5_,.slice p6_ n6_ c6_]/\(∀V3:View,V2.Le V3->Acts prog 112 #[.agg #[.bool p0,.slice p1p p1n p1c,.slice p2p p2n p2c,.bool p3,.slice p4p p4n p4c,.slice p5p p5n p5c],.agg #[.bool b1_,.slice p2_ n2_ c2_,.slice p3_ n3_ c3_,.bool b4_,.slice p5_ n5_ c5_,.slice p6_ n6_ c6_]] V3 fun r3_ V4=>∃b7_:Bool,∃(p8_:OA) (n8_ c8_:Nat),∃(p9_:OA) (n9_ c9_:Nat),r3_=.agg #[.bool b7_,.slice p8_ n8_ c8_,.slice p9_ n9_ c9_]/\(∀V5:View,V4.Le V5->Acts prog 112 #[.agg #[.bool b1_,.slice p2_ n2_ c2_,.slice p3_ n3_ c3_,.bool b4_,.slice p5_ n5_ c5_,.slice p6_ n6_ c6_],.agg #[.bool b1_,.slice p2_ n2_ c2_,.slice p3_ n3_ c3_,.bool b4_,.slice p5_ n5_ c5_,.slice p6_ n6_ c6_]] V5 fun r5_ V6=>∃b10_:Bool,∃(p11_:OA) (n11_ c11_:Nat),∃(p12_:OA) (n12_ c12_:Nat),r5_=.agg #[.bool b10_,.slice p11_ n11_ c11_,.slice p12_ n12_ c12_]/\(∀V7:View,V6.Le V7->Acts prog 111 #[.agg #[.bool b7_,.slice p8_ n8_ c8_,.slice p9_ n9_ c9_],.agg #[.bool b10_,.slice p11_ n11_ c11_,.slice p12_ n12_ c12_]] V7 fun r7_ V8=>∃b13_:Bool,∃(p14_:OA) (n14_ c14_:Nat),∃(p15_:OA) (n15_ c15_:Nat),r7_=.agg #[.bool b13_,.slice p14_ n14_ c14_,.slice p15_ n15_ c15_]/\(∀V9:View,V8.Le V9->R (.agg #[.bool b13_,.slice p14_ n14_ c14_,.slice p15_ n15_ c15_]) V9)))))) :
  Acts prog 52 #[.agg #[.bool l0,.slice l1p l1n l1c,.bool l2,.slice l3p l3n l3c,.bool l4,.slice l5p l5n l5c],.agg #[.bool p0,.slice p1p p1n p1c,.slice p2p p2n p2c,.bool p3,.slice p4p p4n p4c,.slice p5p p5n p5c]] V R:=
 fn_does (LF:=LF0) (RF:=[1000007]) (β0:=(fun _=>0)) tab_ok mixed [] [] func52 (by kernel_rfl)
  [(0,.agg [.v (.bool l0),.v (.slice l1p l1n l1c),.v (.bool l2),.v (.slice l3p l3n l3c),.v (.bool l4),.v (.slice l5p l5n l5c)]),(1,.agg [.v (.bool p0),.v (.slice p1p p1n p1c),.v (.slice p2p p2n p2c),.v (.bool p3),.v (.slice p4p p4n p4c),.v (.slice p5p p5n p5c)])]
  [] (by kernel_rfl) trivial h (by kernel_rfl)
theorem vc_ref04_Rev (l0:Bool) (l1p:OA) (l1n l1c:Nat) (l2:Bool) (l3p:OA) (l3n l3c:Nat) (l4:Bool) (l5p:OA) (l5n l5c:Nat) (V:View) (R:Value->View->Prop)
  (h:(∀V1:View,V.Le V1->Acts prog 130 #[.agg #[.bool l0,.slice l1p l1n l1c]] V1 fun r1_ V2=>∃b1_:Bool,∃(p2_:OA) (n2_ c2_:Nat),r1_=.agg #[.bool b1_,.slice p2_ n2_ c2_]/\(∀V3:View,V2.Le V3->Acts prog 130 #[.agg #[.bool l2,.slice l3p l3n l3c]] V3 fun r3_ V4=>∃b3_:Bool,∃(p4_:OA) (n4_ c4_:Nat),r3_=.agg #[.bool b3_,.slice p4_ n4_ c4_]/\(∀V5:View,V4.Le V5->Acts prog 130 #[.agg #[.bool l4,.slice l5p l5n l5c]] V5 fun r5_ V6=>∃b5_:Bool,∃(p6_:OA) (n6_ c6_:Nat),r5_=.agg #[.bool b5_,.slice p6_ n6_ c6_]/\(∀V7:View,V6.Le V7->R (.agg #[.bool b1_,.slice p2_ n2_ c2_,.bool b3_,.slice p4_ n4_ c4_,.bool b5_,.slice p6_ n6_ c6_]) V7))))) :
  Acts prog 73 #[.agg #[.bool l0,.slice l1p l1n l1c,.bool l2,.slice l3p l3n l3c,.bool l4,.slice l5p l5n l5c]] V R:=
 fn_does (LF:=LF0) (RF:=[1000007]) (β0:=(fun _=>0)) tab_ok mixed [] [] func73 (by kernel_rfl)
  [(0,.agg [.v (.bool l0),.v (.slice l1p l1n l1c),.v (.bool l2),.v (.slice l3p l3n l3c),.v (.bool l4),.v (.slice l5p l5n l5c)])]
  [] (by kernel_rfl) trivial h (by kernel_rfl)
theorem vc_ref06_zero (a0:Bool) (a1p:OA) (a1n a1c:Nat) (a2p:OA) (a2n a2c:Nat) (V:View) (R:Value->View->Prop)
  (h:(((!a0)=true->(((((a1n:Nat):Int) == (0:Int))=true->(∀V1:View,V.Le V1->R (.bool (((a2n:Nat):Int) == (0:Int))) V1))/\((((a1n:Nat):Int) == (0:Int))=false->(∀V2:View,V.Le V2->R (.bool false) V2))))/\((!a0)=false->(∀V3:View,V.Le V3->R (.bool false) V3)))) :
  Acts prog 136 #[.agg #[.bool a0,.slice a1p a1n a1c,.slice a2p a2n a2c]] V R:=
 fn_does (LF:=LF0) (RF:=[1000007]) (β0:=(fun _=>0)) tab_ok mixed [] [] func136 (by kernel_rfl)
  [(0,.agg [.v (.bool a0),.v (.slice a1p a1n a1c),.v (.slice a2p a2n a2c)])]
  [] (by kernel_rfl) trivial h (by kernel_rfl)
theorem vc_ref06_Write (s0:Bool) (s1p:OA) (s1n s1c:Nat) (s2p:OA) (s2n s2c:Nat) (s3:Bool) (s4p:OA) (s4n s4c:Nat) (s5p:OA) (s5n s5c:Nat) (s6:Bool) (s7:Bool) (V:View) (R:Value->View->Prop)
  (h:(((!s6)=true->(∀V1:View,V.Le V1->Acts prog 50 #[.agg #[.bool s0,.slice s1p s1n s1c,.slice s2p s2n s2c]] V1 fun r1_ V2=>∃b1_:Bool,∃(p2_:OA) (n2_ c2_:Nat),∃(p3_:OA) (n3_ c3_:Nat),r1_=.agg #[.bool b1_,.slice p2_ n2_ c2_,.slice p3_ n3_ c3_]/\(((!s7)=true->(∀V3:View,V2.Le V3->Acts prog 50 #[.agg #[.bool s3,.slice s4p s4n s4c,.slice s5p s5n s5c]] V3 fun r3_ V4=>∃b4_:Bool,∃(p5_:OA) (n5_ c5_:Nat),∃(p6_:OA) (n6_ c6_:Nat),r3_=.agg #[.bool b4_,.slice p5_ n5_ c5_,.slice p6_ n6_ c6_]/\(∀V5:View,V4.Le V5->R (.agg #[.bool b1_,.slice p2_ n2_ c2_,.slice p3_ n3_ c3_,.bool b4_,.slice p5_ n5_ c5_,.slice p6_ n6_ c6_,.bool s6,.bool s7]) V5)))/\((!s7)=false->(∀V6:View,V2.Le V6->R (.agg #[.bool b1_,.slice p2_ n2_ c2_,.slice p3_ n3_ c3_,.bool false,.slice none 0 0,.slice none 0 0,.bool s6,.bool s7]) V6)))))/\((!s6)=false->(((!s7)=true->(∀V7:View,V.Le V7->Acts prog 50 #[.agg #[.bool s3,.slice s4p s4n s4c,.slice s5p s5n s5c]] V7 fun r7_ V8=>∃b7_:Bool,∃(p8_:OA) (n8_ c8_:Nat),∃(p9_:OA) (n9_ c9_:Nat),r7_=.agg #[.bool b7_,.slice p8_ n8_ c8_,.slice p9_ n9_ c9_]/\(∀V9:View,V8.Le V9->R (.agg #[.bool false,.slice none 0 0,.slice none 0 0,.bool b7_,.slice p8_ n8_ c8_,.slice p9_ n9_ c9_,.bool s6,.bool s7]) V9)))/\((!s7)=false->(∀V10:View,V.Le V10->R (.agg #[.bool false,.slice none 0 0,.slice none 0 0,.bool false,.slice none 0 0,.slice none 0 0,.bool s6,.bool s7]) V10)))))) :
  Acts prog 59 #[.agg #[.bool s0,.slice s1p s1n s1c,.slice s2p s2n s2c,.bool s3,.slice s4p s4n s4c,.slice s5p s5n s5c,.bool s6,.bool s7]] V R:=
 fn_does (LF:=LF0) (RF:=[1000007]) (β0:=(fun _=>0)) tab_ok mixed [] [] func59 (by kernel_rfl)
  [(0,.agg [.v (.bool s0),.v (.slice s1p s1n s1c),.v (.slice s2p s2n s2c),.v (.bool s3),.v (.slice s4p s4n s4c),.v (.slice s5p s5n s5c),.v (.bool s6),.v (.bool s7)])]
  [] (by kernel_rfl) trivial h (by kernel_rfl)
theorem vc_ref06_WriteF (f0:Bool) (f1p:OA) (f1n f1c:Nat) (f2:Bool) (f3p:OA) (f3n f3c:Nat) (f4:Bool) (f5p:OA) (f5n f5c:Nat) (f6:Bool) (f7p:OA) (f7n f7c:Nat) (f8p:OA) (f8n f8c:Nat) (f9:Bool) (f10p:OA) (f10n f10c:Nat) (f11p:OA) (f11n f11c:Nat) (f12:Bool) (f13:Bool) (V:View) (R:Value->View->Prop)
  (h:(∀V1:View,V.Le V1->Acts prog 41 #[.agg #[.bool f0,.slice f1p f1n f1c,.bool f2,.slice f3p f3n f3c,.bool f4,.slice f5p f5n f5c]] V1 fun r1_ V2=>∃b1_:Bool,∃(p2_:OA) (n2_ c2_:Nat),∃b3_:Bool,∃(p4_:OA) (n4_ c4_:Nat),∃b5_:Bool,∃(p6_:OA) (n6_ c6_:Nat),r1_=.agg #[.bool b1_,.slice p2_ n2_ c2_,.bool b3_,.slice p4_ n4_ c4_,.bool b5_,.slice p6_ n6_ c6_]/\(∀V3:View,V2.Le V3->Acts prog 59 #[.agg #[.bool f6,.slice f7p f7n f7c,.slice f8p f8n f8c,.bool f9,.slice f10p f10n f10c,.slice f11p f11n f11c,.bool f12,.bool f13]] V3 fun r3_ V4=>∃b7_:Bool,∃(p8_:OA) (n8_ c8_:Nat),∃(p9_:OA) (n9_ c9_:Nat),∃b10_:Bool,∃(p11_:OA) (n11_ c11_:Nat),∃(p12_:OA) (n12_ c12_:Nat),∃b13_:Bool,∃b14_:Bool,r3_=.agg #[.bool b7_,.slice p8_ n8_ c8_,.slice p9_ n9_ c9_,.bool b10_,.slice p11_ n11_ c11_,.slice p12_ n12_ c12_,.bool b13_,.bool b14_]/\(∀V5:View,V4.Le V5->R (.agg #[.bool b1_,.slice p2_ n2_ c2_,.bool b3_,.slice p4_ n4_ c4_,.bool b5_,.slice p6_ n6_ c6_,.bool b7_,.slice p8_ n8_ c8_,.slice p9_ n9_ c9_,.bool b10_,.slice p11_ n11_ c11_,.slice p12_ n12_ c12_,.bool b13_,.bool b14_]) V5)))) :
  Acts prog 15 #[.agg #[.bool f0,.slice f1p f1n f1c,.bool f2,.slice f3p f3n f3c,.bool f4,.slice f5p f5n f5c,.bool f6,.slice f7p f7n f7c,.slice f8p f8n f8c,.bool f9,.slice f10p f10n f10c,.slice f11p f11n f11c,.bool f12,.bool f13]] V R:=
 fn_does (LF:=LF0) (RF:=[1000007]) (β0:=(fun _=>0)) tab_ok mixed [] [] func15 (by kernel_rfl)
  [(0,.agg [.v (.bool f0),.v (.slice f1p f1n f1c),.v (.bool f2),.v (.slice f3p f3n f3c),.v (.bool f4),.v (.slice f5p f5n f5c),.v (.bool f6),.v (.slice f7p f7n f7c),.v (.slice f8p f8n f8c),.v (.bool f9),.v (.slice f10p f10n f10c),.v (.slice f11p f11n f11c),.v (.bool f12),.v (.bool f13)])]
  [] (by kernel_rfl) trivial h (by kernel_rfl)
theorem vc_ref06_Same (a0:Bool) (a1p:OA) (a1n a1c:Nat) (a2p:OA) (a2n a2c:Nat) (a3:Bool) (a4p:OA) (a4n a4c:Nat) (a5p:OA) (a5n a5c:Nat) (a6:Bool) (a7:Bool) (b0:Bool) (b1p:OA) (b1n b1c:Nat) (b2p:OA) (b2n b2c:Nat) (b3:Bool) (b4p:OA) (b4n b4c:Nat) (b5p:OA) (b5n b5c:Nat) (b6:Bool) (b7:Bool) (V:View) (R:Value->View->Prop)
  (h:(((a6 == b6)=true->(((a7 == b7)=true->((a6=true->(∀V1:View,V.Le V1->Acts prog 136 #[.agg #[.bool a0,.slice a1p a1n a1c,.slice a2p a2n a2c]] V1 fun r1_ V2=>∃b1_:Bool,r1_=.bool b1_/\((b1_=true->(∀V3:View,V2.Le V3->Acts prog 136 #[.agg #[.bool b0,.slice b1p b1n b1c,.slice b2p b2n b2c]] V3 fun r3_ V4=>∃b2_:Bool,r3_=.bool b2_/\((b2_=true->((a7=true->(∀V5:View,V4.Le V5->Acts prog 136 #[.agg #[.bool a3,.slice a4p a4n a4c,.slice a5p a5n a5c]] V5 fun r5_ V6=>∃b3_:Bool,r5_=.bool b3_/\((b3_=true->(∀V7:View,V6.Le V7->Acts prog 136 #[.agg #[.bool b3,.slice b4p b4n b4c,.slice b5p b5n b5c]] V7 fun r7_ V8=>∃b4_:Bool,r7_=.bool b4_/\((b4_=true->(∀V9:View,V8.Le V9->R (.bool true) V9))/\(b4_=false->(((!a7)=true->(∀V10:View,V8.Le V10->Acts prog 63 #[.agg #[.bool a3,.slice a4p a4n a4c,.slice a5p a5n a5c],.agg #[.bool b3,.slice b4p b4n b4c,.slice b5p b5n b5c]] V10 fun r10_ V11=>∃b5_:Bool,r10_=.bool b5_/\(∀V12:View,V11.Le V12->R (.bool b5_) V12)))/\((!a7)=false->(∀V13:View,V8.Le V13->R (.bool false) V13)))))))/\(b3_=false->(((!a7)=true->(∀V14:View,V6.Le V14->Acts prog 63 #[.agg #[.bool a3,.slice a4p a4n a4c,.slice a5p a5n a5c],.agg #[.bool b3,.slice b4p b4n b4c,.slice b5p b5n b5c]] V14 fun r14_ V15=>∃b6_:Bool,r14_=.bool b6_/\(∀V16:View,V15.Le V16->R (.bool b6_) V16)))/\((!a7)=false->(∀V17:View,V6.Le V17->R (.bool false) V17)))))))/\(a7=false->(((!a7)=true->(∀V18:View,V4.Le V18->Acts prog 63 #[.agg #[.bool a3,.slice a4p a4n a4c,.slice a5p a5n a5c],.agg #[.bool b3,.slice b4p b4n b4c,.slice b5p b5n b5c]] V18 fun r18_ V19=>∃b7_:Bool,r18_=.bool b7_/\(∀V20:View,V19.Le V20->R (.bool b7_) V20)))/\((!a7)=false->(∀V21:View,V4.Le V21->R (.bool false) V21))))))/\(b2_=false->(((!a6)=true->(∀V22:View,V4.Le V22->Acts prog 63 #[.agg #[.bool a0,.slice a1p a1n a1c,.slice a2p a2n a2c],.agg #[.bool b0,.slice b1p b1n b1c,.slice b2p b2n b2c]] V22 fun r22_ V23=>∃b8_:Bool,r22_=.bool b8_/\((b8_=true->((a7=true->(∀V24:View,V23.Le V24->Acts prog 136 #[.agg #[.bool a3,.slice a4p a4n a4c,.slice a5p a5n a5c]] V24 fun r24_ V25=>∃b9_:Bool,r24_=.bool b9_/\((b9_=true->(∀V26:View,V25.Le V26->Acts prog 136 #[.agg #[.bool b3,.slice b4p b4n b4c,.slice b5p b5n b5c]] V26 fun r26_ V27=>∃b10_:Bool,r26_=.bool b10_/\((b10_=true->(∀V28:View,V27.Le V28->R (.bool true) V28))/\(b10_=false->(((!a7)=true->(∀V29:View,V27.Le V29->Acts prog 63 #[.agg #[.bool a3,.slice a4p a4n a4c,.slice a5p a5n a5c],.agg #[.bool b3,.slice b4p b4n b4c,.slice b5p b5n b5c]] V29 fun r29_ V30=>∃b11_:Bool,r29_=.bool b11_/\(∀V31:View,V30.Le V31->R (.bool b11_) V31)))/\((!a7)=false->(∀V32:View,V27.Le V32->R (.bool false) V32)))))))/\(b9_=false->(((!a7)=true->(∀V33:View,V25.Le V33->Acts prog 63 #[.agg #[.bool a3,.slice a4p a4n a4c,.slice a5p a5n a5c],.agg #[.bool b3,.slice b4p b4n b4c,.slice b5p b5n b5c]] V33 fun r33_ V34=>∃b12_:Bool,r33_=.bool b12_/\(∀V35:View,V34.Le V35->R (.bool b12_) V35)))/\((!a7)=false->(∀V36:View,V25.Le V36->R (.bool false) V36)))))))/\(a7=false->(((!a7)=true->(∀V37:View,V23.Le V37->Acts prog 63 #[.agg #[.bool a3,.slice a4p a4n a4c,.slice a5p a5n a5c],.agg #[.bool b3,.slice b4p b4n b4c,.slice b5p b5n b5c]] V37 fun r37_ V38=>∃b13_:Bool,r37_=.bool b13_/\(∀V39:View,V38.Le V39->R (.bool b13_) V39)))/\((!a7)=false->(∀V40:View,V23.Le V40->R (.bool false) V40))))))/\(b8_=false->(∀V41:View,V23.Le V41->R (.bool false) V41)))))/\((!a6)=false->(∀V42:View,V4.Le V42->R (.bool false) V42)))))))/\(b1_=false->(((!a6)=true->(∀V43:View,V2.Le V43->Acts prog 63 #[.agg #[.bool a0,.slice a1p a1n a1c,.slice a2p a2n a2c],.agg #[.bool b0,.slice b1p b1n b1c,.slice b2p b2n b2c]] V43 fun r43_ V44=>∃b14_:Bool,r43_=.bool b14_/\((b14_=true->((a7=true->(∀V45:View,V44.Le V45->Acts prog 136 #[.agg #[.bool a3,.slice a4p a4n a4c,.slice a5p a5n a5c]] V45 fun r45_ V46=>∃b15_:Bool,r45_=.bool b15_/\((b15_=true->(∀V47:View,V46.Le V47->Acts prog 136 #[.agg #[.bool b3,.slice b4p b4n b4c,.slice b5p b5n b5c]] V47 fun r47_ V48=>∃b16_:Bool,r47_=.bool b16_/\((b16_=true->(∀V49:View,V48.Le V49->R (.bool true) V49))/\(b16_=false->(((!a7)=true->(∀V50:View,V48.Le V50->Acts prog 63 #[.agg #[.bool a3,.slice a4p a4n a4c,.slice a5p a5n a5c],.agg #[.bool b3,.slice b4p b4n b4c,.slice b5p b5n b5c]] V50 fun r50_ V51=>∃b17_:Bool,r50_=.bool b17_/\(∀V52:View,V51.Le V52->R (.bool b17_) V52)))/\((!a7)=false->(∀V53:View,V48.Le V53->R (.bool false) V53)))))))/\(b15_=false->(((!a7)=true->(∀V54:View,V46.Le V54->Acts prog 63 #[.agg #[.bool a3,.slice a4p a4n a4c,.slice a5p a5n a5c],.agg #[.bool b3,.slice b4p b4n b4c,.slice b5p b5n b5c]] V54 fun r54_ V55=>∃b18_:Bool,r54_=.bool b18_/\(∀V56:View,V55.Le V56->R (.bool b18_) V56)))/\((!a7)=false->(∀V57:View,V46.Le V57->R (.bool false) V57)))))))/\(a7=false->(((!a7)=true->(∀V58:View,V44.Le V58->Acts prog 63 #[.agg #[.bool a3,.slice a4p a4n a4c,.slice a5p a5n a5c],.agg #[.bool b3,.slice b4p b4n b4c,.slice b5p b5n b5c]] V58 fun r58_ V59=>∃b19_:Bool,r58_=.bool b19_/\(∀V60:View,V59.Le V60->R (.bool b19_) V60)))/\((!a7)=false->(∀V61:View,V44.Le V61->R (.bool false) V61))))))/\(b14_=false->(∀V62:View,V44.Le V62->R (.bool false) V62)))))/\((!a6)=false->(∀V63:View,V2.Le V63->R (.bool false) V63)))))))/\(a6=false->(((!a6)=true->(∀V64:View,V.Le V64->Acts prog 63 #[.agg #[.bool a0,.slice a1p a1n a1c,.slice a2p a2n a2c],.agg #[.bool b0,.slice b1p b1n b1c,.slice b2p b2n b2c]] V64 fun r64_ V65=>∃b20_:Bool,r64_=.bool b20_/\((b20_=true->((a7=true->(∀V66:View,V65.Le V66->Acts prog 136 #[.agg #[.bool a3,.slice a4p a4n a4c,.slice a5p a5n a5c]] V66 fun r66_ V67=>∃b21_:Bool,r66_=.bool b21_/\((b21_=true->(∀V68:View,V67.Le V68->Acts prog 136 #[.agg #[.bool b3,.slice b4p b4n b4c,.slice b5p b5n b5c]] V68 fun r68_ V69=>∃b22_:Bool,r68_=.bool b22_/\((b22_=true->(∀V70:View,V69.Le V70->R (.bool true) V70))/\(b22_=false->(((!a7)=true->(∀V71:View,V69.Le V71->Acts prog 63 #[.agg #[.bool a3,.slice a4p a4n a4c,.slice a5p a5n a5c],.agg #[.bool b3,.slice b4p b4n b4c,.slice b5p b5n b5c]] V71 fun r71_ V72=>∃b23_:Bool,r71_=.bool b23_/\(∀V73:View,V72.Le V73->R (.bool b23_) V73)))/\((!a7)=false->(∀V74:View,V69.Le V74->R (.bool false) V74)))))))/\(b21_=false->(((!a7)=true->(∀V75:View,V67.Le V75->Acts prog 63 #[.agg #[.bool a3,.slice a4p a4n a4c,.slice a5p a5n a5c],.agg #[.bool b3,.slice b4p b4n b4c,.slice b5p b5n b5c]] V75 fun r75_ V76=>∃b24_:Bool,r75_=.bool b24_/\(∀V77:View,V76.Le V77->R (.bool b24_) V77)))/\((!a7)=false->(∀V78:View,V67.Le V78->R (.bool false) V78)))))))/\(a7=false->(((!a7)=true->(∀V79:View,V65.Le V79->Acts prog 63 #[.agg #[.bool a3,.slice a4p a4n a4c,.slice a5p a5n a5c],.agg #[.bool b3,.slice b4p b4n b4c,.slice b5p b5n b5c]] V79 fun r79_ V80=>∃b25_:Bool,r79_=.bool b25_/\(∀V81:View,V80.Le V81->R (.bool b25_) V81)))/\((!a7)=false->(∀V82:View,V65.Le V82->R (.bool false) V82))))))/\(b20_=false->(∀V83:View,V65.Le V83->R (.bool false) V83)))))/\((!a6)=false->(∀V84:View,V.Le V84->R (.bool false) V84))))))/\((a7 == b7)=false->(∀V85:View,V.Le V85->R (.bool false) V85))))/\((a6 == b6)=false->(∀V86:View,V.Le V86->R (.bool false) V86)))) :
  Acts prog 113 #[.agg #[.bool a0,.slice a1p a1n a1c,.slice a2p a2n a2c,.bool a3,.slice a4p a4n a4c,.slice a5p a5n a5c,.bool a6,.bool a7],.agg #[.bool b0,.slice b1p b1n b1c,.slice b2p b2n b2c,.bool b3,.slice b4p b4n b4c,.slice b5p b5n b5c,.bool b6,.bool b7]] V R:=
 fn_does (LF:=LF0) (RF:=[1000007]) (β0:=(fun _=>0)) tab_ok mixed [] [] func113 (by kernel_rfl)
  [(0,.agg [.v (.bool a0),.v (.slice a1p a1n a1c),.v (.slice a2p a2n a2c),.v (.bool a3),.v (.slice a4p a4n a4c),.v (.slice a5p a5n a5c),.v (.bool a6),.v (.bool a7)]),(1,.agg [.v (.bool b0),.v (.slice b1p b1n b1c),.v (.slice b2p b2n b2c),.v (.bool b3),.v (.slice b4p b4n b4c),.v (.slice b5p b5n b5c),.v (.bool b6),.v (.bool b7)])]
  [] (by kernel_rfl) trivial h (by kernel_rfl)
theorem vc_ref06_SameFs (ap:OA) (an ac:Nat) (bp:OA) (bn bc:Nat) (V:View) (R:Value->View->Prop)
  (h:(((((an:Nat):Int) != ((bn:Nat):Int))=true->(∀V1:View,V.Le V1->R (.bool false) V1))/\((((an:Nat):Int) != ((bn:Nat):Int))=false->(∃(I1_:Int->View->Prop) (m2_:Int->Nat),(∃z3_:Int,(sm ap/\sm an/\sm ac/\sm bp/\sm bn/\sm bc/\sm ((an:Nat):Int)/\((0:Int)=z3_))/\I1_ z3_ V)/\∀(z4_:Int) (V2:View),V.Le V2->I1_ z4_ V2->(true=true/\(((decide (z4_ < ((an:Nat):Int)))=true->(ap.isSome=true)/\(0<=z4_/\z4_ < ((an:Nat):Int))/\((addrAdd ap (z4_.toNat * 14)).isSome=true)/\(∃b5_:Bool,∃(p6_:OA) (n6_ c6_:Nat),∃b7_:Bool,∃(p8_:OA) (n8_ c8_:Nat),∃b9_:Bool,∃(p10_:OA) (n10_ c10_:Nat),∃a11_,addrAdd (addrAdd ap (z4_.toNat * 14)) 0=some a11_/\V2.at (a11_.add 0) (.bool b5_)/\V2.at (a11_.add 1) (.slice p6_ n6_ c6_)/\V2.at (a11_.add 2) (.bool b7_)/\V2.at (a11_.add 3) (.slice p8_ n8_ c8_)/\V2.at (a11_.add 4) (.bool b9_)/\V2.at (a11_.add 5) (.slice p10_ n10_ c10_)/\(bp.isSome=true)/\(0<=z4_/\z4_ < ((bn:Nat):Int))/\((addrAdd bp (z4_.toNat * 14)).isSome=true)/\(∃b12_:Bool,∃(p13_:OA) (n13_ c13_:Nat),∃b14_:Bool,∃(p15_:OA) (n15_ c15_:Nat),∃b16_:Bool,∃(p17_:OA) (n17_ c17_:Nat),∃a18_,addrAdd (addrAdd bp (z4_.toNat * 14)) 0=some a18_/\V2.at (a18_.add 0) (.bool b12_)/\V2.at (a18_.add 1) (.slice p13_ n13_ c13_)/\V2.at (a18_.add 2) (.bool b14_)/\V2.at (a18_.add 3) (.slice p15_ n15_ c15_)/\V2.at (a18_.add 4) (.bool b16_)/\V2.at (a18_.add 5) (.slice p17_ n17_ c17_)/\(∀V3:View,V2.Le V3->Acts prog 54 #[.agg #[.bool b5_,.slice p6_ n6_ c6_,.bool b7_,.slice p8_ n8_ c8_,.bool b9_,.slice p10_ n10_ c10_],.agg #[.bool b12_,.slice p13_ n13_ c13_,.bool b14_,.slice p15_ n15_ c15_,.bool b16_,.slice p17_ n17_ c17_]] V3 fun r3_ V4=>∃b19_:Bool,r3_=.bool b19_/\(((!b19_)=true->(∀V5:View,V4.Le V5->R (.bool false) V5))/\((!b19_)=false->(ap.isSome=true)/\(0<=z4_/\z4_ < ((an:Nat):Int))/\((addrAdd ap (z4_.toNat * 14)).isSome=true)/\(∃b20_:Bool,∃(p21_:OA) (n21_ c21_:Nat),∃(p22_:OA) (n22_ c22_:Nat),∃b23_:Bool,∃(p24_:OA) (n24_ c24_:Nat),∃(p25_:OA) (n25_ c25_:Nat),∃b26_:Bool,∃b27_:Bool,∃a28_,addrAdd (addrAdd ap (z4_.toNat * 14)) 6=some a28_/\V4.at (a28_.add 0) (.bool b20_)/\V4.at (a28_.add 1) (.slice p21_ n21_ c21_)/\V4.at (a28_.add 2) (.slice p22_ n22_ c22_)/\V4.at (a28_.add 3) (.bool b23_)/\V4.at (a28_.add 4) (.slice p24_ n24_ c24_)/\V4.at (a28_.add 5) (.slice p25_ n25_ c25_)/\V4.at (a28_.add 6) (.bool b26_)/\V4.at (a28_.add 7) (.bool b27_)/\(bp.isSome=true)/\(0<=z4_/\z4_ < ((bn:Nat):Int))/\((addrAdd bp (z4_.toNat * 14)).isSome=true)/\(∃b29_:Bool,∃(p30_:OA) (n30_ c30_:Nat),∃(p31_:OA) (n31_ c31_:Nat),∃b32_:Bool,∃(p33_:OA) (n33_ c33_:Nat),∃(p34_:OA) (n34_ c34_:Nat),∃b35_:Bool,∃b36_:Bool,∃a37_,addrAdd (addrAdd bp (z4_.toNat * 14)) 6=some a37_/\V4.at (a37_.add 0) (.bool b29_)/\V4.at (a37_.add 1) (.slice p30_ n30_ c30_)/\V4.at (a37_.add 2) (.slice p31_ n31_ c31_)/\V4.at (a37_.add 3) (.bool b32_)/\V4.at (a37_.add 4) (.slice p33_ n33_ c33_)/\V4.at (a37_.add 5) (.slice p34_ n34_ c34_)/\V4.at (a37_.add 6) (.bool b35_)/\V4.at (a37_.add 7) (.bool b36_)/\(∀V6:View,V4.Le V6->Acts prog 113 #[.agg #[.bool b20_,.slice p21_ n21_ c21_,.slice p22_ n22_ c22_,.bool b23_,.slice p24_ n24_ c24_,.slice p25_ n25_ c25_,.bool b26_,.bool b27_],.agg #[.bool b29_,.slice p30_ n30_ c30_,.slice p31_ n31_ c31_,.bool b32_,.slice p33_ n33_ c33_,.slice p34_ n34_ c34_,.bool b35_,.bool b36_]] V6 fun r6_ V7=>∃b38_:Bool,r6_=.bool b38_/\(((!b38_)=true->(∀V8:View,V7.Le V8->R (.bool false) V8))/\((!b38_)=false->(∃z39_:Int,m2_ z39_ < m2_ z4_/\(sm ap/\sm an/\sm ac/\sm bp/\sm bn/\sm bc/\sm ((an:Nat):Int)/\((i64.wrap (z4_ + (1:Int)))=z39_))/\I1_ z39_ V7))))))))))))/\((decide (z4_ < ((an:Nat):Int)))=false->(∀V9:View,V2.Le V9->R (.bool true) V9)))))))) :
  Acts prog 53 #[.slice ap an ac,.slice bp bn bc] V R:=
 fn_does (LF:=LF0) (RF:=[1000007]) (β0:=(fun _=>0)) tab_ok mixed [(4,{ τ:=Int,keep:=[0,1,12],keepB:=[],slots:=fun z=>[(13,.c (.v (.int .i64 z)))],boxes:=fun z=>[] })] [] func53 (by kernel_rfl)
  [(0,.c (.v (.slice ap an ac))),(1,.c (.v (.slice bp bn bc)))]
  [] (by kernel_rfl) trivial h (by kernel_rfl)
theorem vc_ref06_Class (lp:OA) (ln lc:Nat) (t0:Bool) (t1p:OA) (t1n t1c:Nat) (t2p:OA) (t2n t2c:Nat) (V:View) (R:Value->View->Prop)
  (h:(∃(I1_:Int->View->Prop) (m2_:Int->Nat),(∃z3_:Int,(sm 0/\sm lp/\sm ln/\sm lc/\sm ((ln:Nat):Int)/\((0:Int)=z3_)/\(t0=t0)/\sm t1p/\sm t1n/\sm t1c/\sm t2p/\sm t2n/\sm t2c)/\I1_ z3_ V)/\∀(z4_:Int) (V1:View),V.Le V1->I1_ z4_ V1->(true=true/\(((decide (z4_ < ((ln:Nat):Int)))=true->(lp.isSome=true)/\(0<=z4_/\z4_ < ((ln:Nat):Int))/\(∃b5_:Bool,∃(p6_:OA) (n6_ c6_:Nat),∃(p7_:OA) (n7_ c7_:Nat),∃b8_:Bool,∃(p9_:OA) (n9_ c9_:Nat),∃(p10_:OA) (n10_ c10_:Nat),∃b11_:Bool,∃b12_:Bool,∃a13_,addrAdd lp (z4_.toNat * 8)=some a13_/\V1.at (a13_.add 0) (.bool b5_)/\V1.at (a13_.add 1) (.slice p6_ n6_ c6_)/\V1.at (a13_.add 2) (.slice p7_ n7_ c7_)/\V1.at (a13_.add 3) (.bool b8_)/\V1.at (a13_.add 4) (.slice p9_ n9_ c9_)/\V1.at (a13_.add 5) (.slice p10_ n10_ c10_)/\V1.at (a13_.add 6) (.bool b11_)/\V1.at (a13_.add 7) (.bool b12_)/\(∃I14_:Int->View->Prop,(((!b11_)=true->(∀V2:View,V1.Le V2->Acts prog 129 #[.agg #[.bool t0,.slice t1p t1n t1c,.slice t2p t2n t2c],.agg #[.bool b5_,.slice p6_ n6_ c6_,.slice p7_ n7_ c7_]] V2 fun r2_ V3=>∃x15_:Int,r2_=.int .i64 x15_/\(∃z16_:Int,(sm 0/\sm 0/\((-1:Int)=(-1:Int))/\sm lp/\sm ln/\sm lc/\sm ((ln:Nat):Int)/\sm z4_/\(x15_=z16_)/\(t0=t0)/\sm t1p/\sm t1n/\sm t1c/\sm t2p/\sm t2n/\sm t2c/\sm b5_/\sm p6_/\sm n6_/\sm c6_/\sm p7_/\sm n7_/\sm c7_/\sm b8_/\sm p9_/\sm n9_/\sm c9_/\sm p10_/\sm n10_/\sm c10_/\sm b11_/\sm b12_)/\I14_ z16_ V3)))/\((!b11_)=false->(∃z17_:Int,(sm 0/\sm 0/\((-1:Int)=(-1:Int))/\sm lp/\sm ln/\sm lc/\sm ((ln:Nat):Int)/\sm z4_/\((1:Int)=z17_)/\(t0=t0)/\sm t1p/\sm t1n/\sm t1c/\sm t2p/\sm t2n/\sm t2c/\sm b5_/\sm p6_/\sm n6_/\sm c6_/\sm p7_/\sm n7_/\sm c7_/\sm b8_/\sm p9_/\sm n9_/\sm c9_/\sm p10_/\sm n10_/\sm c10_/\sm b11_/\sm b12_)/\I14_ z17_ V1)))/\∀(z18_:Int) (V4:View),V1.Le V4->I14_ z18_ V4->(true=true/\(∃I19_:Int->View->Prop,(((!b12_)=true->(∀V5:View,V4.Le V5->Acts prog 129 #[.agg #[.bool t0,.slice t1p t1n t1c,.slice t2p t2n t2c],.agg #[.bool b8_,.slice p9_ n9_ c9_,.slice p10_ n10_ c10_]] V5 fun r5_ V6=>∃x20_:Int,r5_=.int .i64 x20_/\(∃z21_:Int,(sm 0/\sm z18_/\sm lp/\sm ln/\sm lc/\sm ((ln:Nat):Int)/\sm z4_/\(x20_=z21_)/\(t0=t0)/\sm t1p/\sm t1n/\sm t1c/\sm t2p/\sm t2n/\sm t2c)/\I19_ z21_ V6)))/\((!b12_)=false->(∃z22_:Int,(sm 0/\sm z18_/\sm lp/\sm ln/\sm lc/\sm ((ln:Nat):Int)/\sm z4_/\((-1:Int)=z22_)/\(t0=t0)/\sm t1p/\sm t1n/\sm t1c/\sm t2p/\sm t2n/\sm t2c)/\I19_ z22_ V4)))/\∀(z23_:Int) (V7:View),V4.Le V7->I19_ z23_ V7->(true=true/\(∃I24_:Bool->View->Prop,(((decide (z18_ > (0:Int)))=true->(∃z25_:Bool,(sm 0/\sm z18_/\sm z23_/\sm lp/\sm ln/\sm lc/\sm ((ln:Nat):Int)/\sm z4_/\((decide (z23_ < (0:Int)))=z25_)/\(t0=t0)/\sm t1p/\sm t1n/\sm t1c/\sm t2p/\sm t2n/\sm t2c)/\I24_ z25_ V7))/\((decide (z18_ > (0:Int)))=false->(∃z26_:Bool,(sm 0/\sm z18_/\sm z23_/\sm lp/\sm ln/\sm lc/\sm ((ln:Nat):Int)/\sm z4_/\(false=z26_)/\(t0=t0)/\sm t1p/\sm t1n/\sm t1c/\sm t2p/\sm t2n/\sm t2c)/\I24_ z26_ V7)))/\∀(z27_:Bool) (V8:View),V7.Le V8->I24_ z27_ V8->(true=true/\((z27_=true->(∀V9:View,V8.Le V9->R (.int .i64 2) V9))/\(z27_=false->(∃I28_:Bool->View->Prop,(((z18_ == (0:Int))=true->(((decide (z23_<=(0:Int)))=true->(∃z29_:Bool,(sm 0/\sm lp/\sm ln/\sm lc/\sm ((ln:Nat):Int)/\sm z4_/\(true=z29_)/\(t0=t0)/\sm t1p/\sm t1n/\sm t1c/\sm t2p/\sm t2n/\sm t2c)/\I28_ z29_ V8))/\((decide (z23_<=(0:Int)))=false->(((z23_ == (0:Int))=true->(∃z30_:Bool,(sm 0/\sm lp/\sm ln/\sm lc/\sm ((ln:Nat):Int)/\sm z4_/\((decide (z18_ ≥ (0:Int)))=z30_)/\(t0=t0)/\sm t1p/\sm t1n/\sm t1c/\sm t2p/\sm t2n/\sm t2c)/\I28_ z30_ V8))/\((z23_ == (0:Int))=false->(∃z31_:Bool,(sm 0/\sm lp/\sm ln/\sm lc/\sm ((ln:Nat):Int)/\sm z4_/\(false=z31_)/\(t0=t0)/\sm t1p/\sm t1n/\sm t1c/\sm t2p/\sm t2n/\sm t2c)/\I28_ z31_ V8))))))/\((z18_ == (0:Int))=false->(((z23_ == (0:Int))=true->(∃z32_:Bool,(sm 0/\sm lp/\sm ln/\sm lc/\sm ((ln:Nat):Int)/\sm z4_/\((decide (z18_ ≥ (0:Int)))=z32_)/\(t0=t0)/\sm t1p/\sm t1n/\sm t1c/\sm t2p/\sm t2n/\sm t2c)/\I28_ z32_ V8))/\((z23_ == (0:Int))=false->(∃z33_:Bool,(sm 0/\sm lp/\sm ln/\sm lc/\sm ((ln:Nat):Int)/\sm z4_/\(false=z33_)/\(t0=t0)/\sm t1p/\sm t1n/\sm t1c/\sm t2p/\sm t2n/\sm t2c)/\I28_ z33_ V8)))))/\∀(z34_:Bool) (V10:View),V8.Le V10->I28_ z34_ V10->(true=true/\((z34_=true->(∀V11:View,V10.Le V11->R (.int .i64 1) V11))/\(z34_=false->(∃z35_:Int,m2_ z35_ < m2_ z4_/\(sm 0/\sm lp/\sm ln/\sm lc/\sm ((ln:Nat):Int)/\((i64.wrap (z4_ + (1:Int)))=z35_)/\(t0=t0)/\sm t1p/\sm t1n/\sm t1c/\sm t2p/\sm t2n/\sm t2c)/\I1_ z35_ V10)))))))))))))))/\((decide (z4_ < ((ln:Nat):Int)))=false->(∀V12:View,V1.Le V12->R (.int .i64 0) V12)))))) :
  Acts prog 71 #[.slice lp ln lc,.agg #[.bool t0,.slice t1p t1n t1c,.slice t2p t2n t2c]] V R:=
 fn_does (LF:=LF0) (RF:=[1000007]) (β0:=(fun _=>0)) tab_ok mixed [(2,{ τ:=Int,keep:=[3,9,10],keepB:=[3],slots:=fun z=>[(11,.c (.v (.int .i64 z)))],boxes:=fun z=>[] })] [(6,{ τ:=Int,keep:=[3,6,8,9,10,11],keepB:=[3,6],slots:=fun z=>[(7,.c (.v (.int .i64 z)))],boxes:=fun z=>[] }),(8,{ τ:=Int,keep:=[3,7,9,10,11],keepB:=[3],slots:=fun z=>[(8,.c (.v (.int .i64 z)))],boxes:=fun z=>[] }),(600009,{ τ:=Bool,keep:=[3,7,8,9,10,11],keepB:=[3],slots:=fun z=>[(34,.c (.v (.bool z)))],boxes:=fun z=>[] }),(600011,{ τ:=Bool,keep:=[3,9,10,11],keepB:=[3],slots:=fun z=>[(48,.c (.v (.bool z)))],boxes:=fun z=>[] })] func71 (by kernel_rfl)
  [(0,.c (.v (.slice lp ln lc))),(1,.agg [.v (.bool t0),.v (.slice t1p t1n t1c),.v (.slice t2p t2n t2c)])]
  [] (by kernel_rfl) trivial h (by kernel_rfl)
theorem vc_ref06_Rev (f0:Bool) (f1p:OA) (f1n f1c:Nat) (f2:Bool) (f3p:OA) (f3n f3c:Nat) (f4:Bool) (f5p:OA) (f5n f5c:Nat) (f6:Bool) (f7p:OA) (f7n f7c:Nat) (f8p:OA) (f8n f8c:Nat) (f9:Bool) (f10p:OA) (f10n f10c:Nat) (f11p:OA) (f11n f11c:Nat) (f12:Bool) (f13:Bool) (V:View) (R:Value->View->Prop)
  (h:(((!f13)=true->(∀V1:View,V.Le V1->Acts prog 72 #[.agg #[.bool f9,.slice f10p f10n f10c,.slice f11p f11n f11c]] V1 fun r1_ V2=>∃b1_:Bool,∃(p2_:OA) (n2_ c2_:Nat),∃(p3_:OA) (n3_ c3_:Nat),r1_=.agg #[.bool b1_,.slice p2_ n2_ c2_,.slice p3_ n3_ c3_]/\(((!f12)=true->(∀V3:View,V2.Le V3->Acts prog 72 #[.agg #[.bool f6,.slice f7p f7n f7c,.slice f8p f8n f8c]] V3 fun r3_ V4=>∃b4_:Bool,∃(p5_:OA) (n5_ c5_:Nat),∃(p6_:OA) (n6_ c6_:Nat),r3_=.agg #[.bool b4_,.slice p5_ n5_ c5_,.slice p6_ n6_ c6_]/\(∀V5:View,V4.Le V5->Acts prog 73 #[.agg #[.bool f0,.slice f1p f1n f1c,.bool f2,.slice f3p f3n f3c,.bool f4,.slice f5p f5n f5c]] V5 fun r5_ V6=>∃b7_:Bool,∃(p8_:OA) (n8_ c8_:Nat),∃b9_:Bool,∃(p10_:OA) (n10_ c10_:Nat),∃b11_:Bool,∃(p12_:OA) (n12_ c12_:Nat),r5_=.agg #[.bool b7_,.slice p8_ n8_ c8_,.bool b9_,.slice p10_ n10_ c10_,.bool b11_,.slice p12_ n12_ c12_]/\(∀V7:View,V6.Le V7->R (.agg #[.bool b7_,.slice p8_ n8_ c8_,.bool b9_,.slice p10_ n10_ c10_,.bool b11_,.slice p12_ n12_ c12_,.bool b1_,.slice p2_ n2_ c2_,.slice p3_ n3_ c3_,.bool b4_,.slice p5_ n5_ c5_,.slice p6_ n6_ c6_,.bool f13,.bool f12]) V7))))/\((!f12)=false->(∀V8:View,V2.Le V8->Acts prog 73 #[.agg #[.bool f0,.slice f1p f1n f1c,.bool f2,.slice f3p f3n f3c,.bool f4,.slice f5p f5n f5c]] V8 fun r8_ V9=>∃b13_:Bool,∃(p14_:OA) (n14_ c14_:Nat),∃b15_:Bool,∃(p16_:OA) (n16_ c16_:Nat),∃b17_:Bool,∃(p18_:OA) (n18_ c18_:Nat),r8_=.agg #[.bool b13_,.slice p14_ n14_ c14_,.bool b15_,.slice p16_ n16_ c16_,.bool b17_,.slice p18_ n18_ c18_]/\(∀V10:View,V9.Le V10->R (.agg #[.bool b13_,.slice p14_ n14_ c14_,.bool b15_,.slice p16_ n16_ c16_,.bool b17_,.slice p18_ n18_ c18_,.bool b1_,.slice p2_ n2_ c2_,.slice p3_ n3_ c3_,.bool false,.slice none 0 0,.slice none 0 0,.bool f13,.bool f12]) V10))))))/\((!f13)=false->(((!f12)=true->(∀V11:View,V.Le V11->Acts prog 72 #[.agg #[.bool f6,.slice f7p f7n f7c,.slice f8p f8n f8c]] V11 fun r11_ V12=>∃b19_:Bool,∃(p20_:OA) (n20_ c20_:Nat),∃(p21_:OA) (n21_ c21_:Nat),r11_=.agg #[.bool b19_,.slice p20_ n20_ c20_,.slice p21_ n21_ c21_]/\(∀V13:View,V12.Le V13->Acts prog 73 #[.agg #[.bool f0,.slice f1p f1n f1c,.bool f2,.slice f3p f3n f3c,.bool f4,.slice f5p f5n f5c]] V13 fun r13_ V14=>∃b22_:Bool,∃(p23_:OA) (n23_ c23_:Nat),∃b24_:Bool,∃(p25_:OA) (n25_ c25_:Nat),∃b26_:Bool,∃(p27_:OA) (n27_ c27_:Nat),r13_=.agg #[.bool b22_,.slice p23_ n23_ c23_,.bool b24_,.slice p25_ n25_ c25_,.bool b26_,.slice p27_ n27_ c27_]/\(∀V15:View,V14.Le V15->R (.agg #[.bool b22_,.slice p23_ n23_ c23_,.bool b24_,.slice p25_ n25_ c25_,.bool b26_,.slice p27_ n27_ c27_,.bool false,.slice none 0 0,.slice none 0 0,.bool b19_,.slice p20_ n20_ c20_,.slice p21_ n21_ c21_,.bool f13,.bool f12]) V15))))/\((!f12)=false->(∀V16:View,V.Le V16->Acts prog 73 #[.agg #[.bool f0,.slice f1p f1n f1c,.bool f2,.slice f3p f3n f3c,.bool f4,.slice f5p f5n f5c]] V16 fun r16_ V17=>∃b28_:Bool,∃(p29_:OA) (n29_ c29_:Nat),∃b30_:Bool,∃(p31_:OA) (n31_ c31_:Nat),∃b32_:Bool,∃(p33_:OA) (n33_ c33_:Nat),r16_=.agg #[.bool b28_,.slice p29_ n29_ c29_,.bool b30_,.slice p31_ n31_ c31_,.bool b32_,.slice p33_ n33_ c33_]/\(∀V18:View,V17.Le V18->R (.agg #[.bool b28_,.slice p29_ n29_ c29_,.bool b30_,.slice p31_ n31_ c31_,.bool b32_,.slice p33_ n33_ c33_,.bool false,.slice none 0 0,.slice none 0 0,.bool false,.slice none 0 0,.slice none 0 0,.bool f13,.bool f12]) V18))))))) :
  Acts prog 25 #[.agg #[.bool f0,.slice f1p f1n f1c,.bool f2,.slice f3p f3n f3c,.bool f4,.slice f5p f5n f5c,.bool f6,.slice f7p f7n f7c,.slice f8p f8n f8c,.bool f9,.slice f10p f10n f10c,.slice f11p f11n f11c,.bool f12,.bool f13]] V R:=
 fn_does (LF:=LF0) (RF:=[1000007]) (β0:=(fun _=>0)) tab_ok mixed [] [] func25 (by kernel_rfl)
  [(0,.agg [.v (.bool f0),.v (.slice f1p f1n f1c),.v (.bool f2),.v (.slice f3p f3n f3c),.v (.bool f4),.v (.slice f5p f5n f5c),.v (.bool f6),.v (.slice f7p f7n f7c),.v (.slice f8p f8n f8c),.v (.bool f9),.v (.slice f10p f10n f10c),.v (.slice f11p f11n f11c),.v (.bool f12),.v (.bool f13)])]
  [] (by kernel_rfl) trivial h (by kernel_rfl)
theorem vc_ref06_Has (f0:Bool) (f1p:OA) (f1n f1c:Nat) (f2:Bool) (f3p:OA) (f3n f3c:Nat) (f4:Bool) (f5p:OA) (f5n f5c:Nat) (f6:Bool) (f7p:OA) (f7n f7c:Nat) (f8p:OA) (f8n f8c:Nat) (f9:Bool) (f10p:OA) (f10n f10c:Nat) (f11p:OA) (f11n f11c:Nat) (f12:Bool) (f13:Bool) (p0:Bool) (p1p:OA) (p1n p1c:Nat) (p2p:OA) (p2n p2c:Nat) (p3:Bool) (p4p:OA) (p4n p4c:Nat) (p5p:OA) (p5n p5c:Nat) (V:View) (R:Value->View->Prop)
  (h:(∀V1:View,V.Le V1->Acts prog 42 #[.agg #[.bool f0,.slice f1p f1n f1c,.bool f2,.slice f3p f3n f3c,.bool f4,.slice f5p f5n f5c],.agg #[.bool p0,.slice p1p p1n p1c,.slice p2p p2n p2c,.bool p3,.slice p4p p4n p4c,.slice p5p p5n p5c]] V1 fun r1_ V2=>∃x1_:Int,r1_=.int .i64 x1_/\(((x1_ == (0:Int))=true->(∀V3:View,V2.Le V3->Acts prog 52 #[.agg #[.bool f0,.slice f1p f1n f1c,.bool f2,.slice f3p f3n f3c,.bool f4,.slice f5p f5n f5c],.agg #[.bool p0,.slice p1p p1n p1c,.slice p2p p2n p2c,.bool p3,.slice p4p p4n p4c,.slice p5p p5n p5c]] V3 fun r3_ V4=>∃b2_:Bool,∃(p3_:OA) (n3_ c3_:Nat),∃(p4_:OA) (n4_ c4_:Nat),r3_=.agg #[.bool b2_,.slice p3_ n3_ c3_,.slice p4_ n4_ c4_]/\(∀V5:View,V4.Le V5->∀bk5_:Nat,(V5.blk bk5_ (.cells #[.bool f6,.slice f7p f7n f7c,.slice f8p f8n f8c,.bool f9,.slice f10p f10n f10c,.slice f11p f11n f11c,.bool f12,.bool f13] 53 (0,0)))->Acts prog 71 #[.slice (some ⟨bk5_,0,none⟩) 1 1,.agg #[.bool b2_,.slice p3_ n3_ c3_,.slice p4_ n4_ c4_]] V5 fun r5_ V6=>∃x6_:Int,r5_=.int .i64 x6_/\∀J7_:C->Value,(∀V7:View,V6.Le V7->R (.bool (decide (x6_ > (0:Int)))) V7))))/\((x1_ == (0:Int))=false->(∀V8:View,V2.Le V8->R (.bool false) V8))))) :
  Acts prog 24 #[.agg #[.bool f0,.slice f1p f1n f1c,.bool f2,.slice f3p f3n f3c,.bool f4,.slice f5p f5n f5c,.bool f6,.slice f7p f7n f7c,.slice f8p f8n f8c,.bool f9,.slice f10p f10n f10c,.slice f11p f11n f11c,.bool f12,.bool f13],.agg #[.bool p0,.slice p1p p1n p1c,.slice p2p p2n p2c,.bool p3,.slice p4p p4n p4c,.slice p5p p5n p5c]] V R:=
 fn_does (LF:=LF0) (RF:=[71,1000007]) (β0:=(fun _=>0)) tab_ok mixed [] [] func24 (by kernel_rfl)
  [(0,.agg [.v (.bool f0),.v (.slice f1p f1n f1c),.v (.bool f2),.v (.slice f3p f3n f3c),.v (.bool f4),.v (.slice f5p f5n f5c),.v (.bool f6),.v (.slice f7p f7n f7c),.v (.slice f8p f8n f8c),.v (.bool f9),.v (.slice f10p f10n f10c),.v (.slice f11p f11n f11c),.v (.bool f12),.v (.bool f13)]),(1,.agg [.v (.bool p0),.v (.slice p1p p1n p1c),.v (.slice p2p p2n p2c),.v (.bool p3),.v (.slice p4p p4n p4c),.v (.slice p5p p5n p5c)])]
  [] (by kernel_rfl) trivial h (by kernel_rfl)
end Go.Proofs.Tryz
/- Contracts of the reference's num: Over; ref04's q. -/
namespace Go.Proofs.Tryz
open Go.Eng Go.Big
theorem c_num_Over {V:View} {v w:Value} {x y:Rat} (hx:RQ V v x) (hy:RQ V w y) (hy0:y.num≠0) {k m:Nat} (hk:Sz k x) (hm:Sz m y) (hkm:k + m < 274877906944) :
  Acts prog 111 #[v,w] V fun r V'=>RQ V' r (x * y⁻¹):=by
 obtain ⟨p,n,c,p',n',c',rfl,hx1,hx2⟩:=hx
 obtain ⟨q,i,e,q',i',e',rfl,hy1,hy2⟩:=hy
 have hmi:=sz_inv hm
 have q1:=digs_len_bits hk.1
 have q2:=digs_len_bits hk.2
 have q3:=digs_len_bits hm.1
 have q4:=digs_len_bits hmi.1
 have iv:(y⁻¹).num=(if decide (y.num < 0)=true then -((y.den:Nat):Int) else ((y.den:Nat):Int))/\(y⁻¹).den=y.num.natAbs:=by
  rcases Int.lt_or_gt_of_ne hy0 with h | h
  ·rw [if_pos (decide_eq_true h)]; exact inv_neg h
  ·rw [if_neg (fun hh=>by have:=of_decide_eq_true hh; omega)]; exact inv_pos h
 have hxy:x * y⁻¹=mkRat (x.num * (y⁻¹).num) (x.den * (y⁻¹).den):=Rat.mul_def' x y⁻¹
 have b1:(x.num * (y⁻¹).num).natAbs < 2 ^ (k + m):=by rw [Int.natAbs_mul]; exact pow_mul_lt hk.1 hmi.1
 have b2:x.den * (y⁻¹).den < 2 ^ (k + m):=pow_mul_lt hk.2 hmi.2
 refine vc_num_Over _ p n c p' n' c' _ q i e q' i' e' V _ fun V1 l1=>(c_num_Den y _ (hy2.le l1)).mono ?_
 rintro r V2 l2 ⟨p1,n1,c1,rfl,g1⟩
 refine ⟨_,_,_,rfl,fun V3 l3=>(c_num_Make _ (g1.le l3)).mono ?_⟩
 rw [← iv.1]
 rintro r V4 l4 ⟨p4,n4,c4,rfl,g4⟩
 refine ⟨_,_,_,_,rfl,fun V5 l5=>(c_num_Mul x.num (y⁻¹).num (hx1.le (l1.trans (l2.trans (l3.trans (l4.trans l5))))) (g4.le l5) (by omega)).mono ?_⟩
 rintro r V6 l6 ⟨p6,n6,c6,rfl,g6⟩
 have l06:=l1.trans (l2.trans (l3.trans (l4.trans (l5.trans l6))))
 refine ⟨_,_,_,_,rfl,fun V7 l7=>(c_num_Den x _ (hx2.le (l06.trans l7))).mono ?_⟩
 rintro r V8 l8 ⟨p8,n8,c8,rfl,g8⟩
 refine ⟨_,_,_,rfl,fun V9 l9=>(c_num_Product (g8.le l9) (hy1.le (l06.trans (l7.trans (l8.trans l9)))) (by omega)).mono ?_⟩
 rintro r V10 l10 ⟨p10,n10,c10,rfl,g10⟩
 rw [val_digs,val_digs,← iv.2] at g10
 refine ⟨_,_,_,rfl,fun V11 l11=>(c_num_Frac _ (g6.le (l7.trans (l8.trans (l9.trans (l10.trans l11))))) (g10.le l11) (Nat.le_trans (digs_len_bits b1) (by omega)) (Nat.le_trans (digs_len_bits b2) (by omega)) (Nat.mul_ne_zero x.den_nz (y⁻¹).den_nz)).mono ?_⟩
 rw [hxy]
 rintro r V22 l22 ⟨p21,n21,c21,p22,n22,c22,rfl,g21,g22⟩
 exact ⟨_,_,_,_,_,_,_,rfl,fun V23 l23=>⟨_,_,_,_,_,_,rfl,g21.le l23,g22.le l23⟩⟩
theorem c_ref04_q {V:View} (z:Int) {p:OA} {n c:Nat} (h:RD V p n c (digs z.natAbs)) :
  Acts prog 99 #[.agg #[.bool (decide (z < 0)),.slice p n c]] V fun r V'=>RQ V' r (z:Rat):=
 vc_ref04_q _ p n c V _ fun V1 l1=>rq_of (z:=z) (d:=1) rfl rfl (h.le l1) RD.nil rfl
end Go.Proofs.Tryz
/- Contracts of the reference 04: Through. -/
namespace Go.Proofs.Tryz
open Go.Eng Go.Big
theorem RQ.int {V:View} {q:Rat} {b:Bool} {p:OA} {n c:Nat} {p':OA} {n' c':Nat} (h:RQ V (.agg #[.bool b,.slice p n c,.slice p' n' c']) q):RI V (.agg #[.bool b,.slice p n c]) q.num:=by
 obtain ⟨p1,n1,c1,p2,n2,c2,e,h1,h2⟩:=h
 cases e
 exact ⟨_,_,_,rfl,h1⟩
theorem RQ.den {V:View} {q:Rat} {b:Bool} {p:OA} {n c:Nat} {p':OA} {n' c':Nat} (h:RQ V (.agg #[.bool b,.slice p n c,.slice p' n' c']) q):RD V p' n' c' (dend q.den):=by
 obtain ⟨p1,n1,c1,p2,n2,c2,e,h1,h2⟩:=h
 cases e
 exact h2
end Go.Proofs.Tryz
/- Contracts of points and lines of the reference (printed by straight_ref.py). -/
namespace Go.Proofs.Tryz
open Go.Eng Go.Big
theorem c_num_Opp' {V:View} {v:Value} {q:Rat} (h:RQ V v q) {k:Nat} (_s:Sz k q) (_hk:k<=1099511627776):Acts prog 72 #[v] V fun r V'=>RQ V' r (-q):=by
 obtain ⟨p,n,c,p',n',c',rfl,h1,h2⟩:=h
 exact c_num_Opp q h1 h2
theorem c_ref04_q' {V:View} {z:Int} {p:OA} {n c:Nat} (h:RD V p n c (digs z.natAbs)) {k:Nat} (_s:Sz k (z:Rat)) (_hk:k<=1099511627776) :
  Acts prog 99 #[.agg #[.bool (decide (z < 0)),.slice p n c]] V fun r V'=>RQ V' r (z:Rat):=c_ref04_q z h
theorem c_ref04_Dir {V:View} {l:Value} {l_0 l_1 l_2:Int} (hl:RL V l l_0 l_1 l_2) {k:Nat} (sl_0:Sz k ((l_0:Int):Rat)) (sl_1:Sz k ((l_1:Int):Rat)) (sl_2:Sz k ((l_2:Int):Rat)) (hk:1 * k + 1 < 274877906944) :
  Acts prog 46 #[l] V fun r V'=>RP V' r (((l_1:Int):Rat)) (-(((l_0:Int):Rat))):=by
 have hl0:=hl
 obtain ⟨l0,l1,l2,l3,l4,l5,l6,l7,l8,rfl,hl_0,hl_1,hl_2⟩:=hl
 refine vc_ref04_Dir _ l0 l1 l2 _ l3 l4 l5 _ l6 l7 l8 V _ fun V1 l1=>(c_ref04_q' (hl_1.le (l1)) sl_1 (by omega)).mono ?_
 rintro r V2 l2 g1
 have g10:=g1
 obtain ⟨w0a,w0b,w0c,w0d,w0e,w0f,rfl⟩:=g1.shape
 have z1_0:Sz (1 * k + 0) (((l_1:Int):Rat)):=Sz.mono (sl_1) (by omega)
 refine ⟨_,_,_,_,_,_,_,rfl,fun V3 l3=>(c_ref04_q' (hl_0.le (l1.trans (l2.trans (l3)))) sl_0 (by omega)).mono ?_⟩
 rintro r V4 l4 g2
 have g20:=g2
 obtain ⟨w1a,w1b,w1c,w1d,w1e,w1f,rfl⟩:=g2.shape
 have z2_0:Sz (1 * k + 0) (((l_0:Int):Rat)):=Sz.mono (sl_0) (by omega)
 refine ⟨_,_,_,_,_,_,_,rfl,fun V5 l5=>(c_num_Opp' (g20.le (l5)) z2_0 (by omega)).mono ?_⟩
 rintro r V6 l6 g3
 have g30:=g3
 obtain ⟨w2a,w2b,w2c,w2d,w2e,w2f,rfl⟩:=g3.shape
 have z3_0:Sz (1 * k + 0) (-(((l_0:Int):Rat))):=Sz.mono (Sz.neg z2_0) (by omega)
 exact ⟨_,_,_,_,_,_,_,rfl,fun V7 l7=>⟨_,_,_,_,_,_,_,_,_,_,_,_,rfl,(g10.le (l3.trans (l4.trans (l5.trans (l6.trans (l7)))))),(g30.le (l7))⟩⟩
theorem z_ref04_Dir_0 {l_0:Int} {l_1:Int} {l_2:Int} {k:Nat} (sl_0:Sz k ((l_0:Int):Rat)) (sl_1:Sz k ((l_1:Int):Rat)) (sl_2:Sz k ((l_2:Int):Rat)):Sz (1 * k + 0) (((l_1:Int):Rat)):=by
 have z1_0:Sz (1 * k + 0) (((l_1:Int):Rat)):=Sz.mono (sl_1) (by omega)
 have z2_0:Sz (1 * k + 0) (((l_0:Int):Rat)):=Sz.mono (sl_0) (by omega)
 have z3_0:Sz (1 * k + 0) (-(((l_0:Int):Rat))):=Sz.mono (Sz.neg z2_0) (by omega)
 exact Sz.mono z1_0 (by omega)
theorem z_ref04_Dir_1 {l_0:Int} {l_1:Int} {l_2:Int} {k:Nat} (sl_0:Sz k ((l_0:Int):Rat)) (sl_1:Sz k ((l_1:Int):Rat)) (sl_2:Sz k ((l_2:Int):Rat)):Sz (1 * k + 0) (-(((l_0:Int):Rat))):=by
 have z1_0:Sz (1 * k + 0) (((l_1:Int):Rat)):=Sz.mono (sl_1) (by omega)
 have z2_0:Sz (1 * k + 0) (((l_0:Int):Rat)):=Sz.mono (sl_0) (by omega)
 have z3_0:Sz (1 * k + 0) (-(((l_0:Int):Rat))):=Sz.mono (Sz.neg z2_0) (by omega)
 exact Sz.mono z3_0 (by omega)
theorem c_ref04_Dot {V:View} {p:Value} {p_0 p_1:Rat} {q:Value} {q_0 q_1:Rat} (hp:RP V p p_0 p_1) (hq:RP V q q_0 q_1) {k:Nat} (sp_0:Sz k p_0) (sp_1:Sz k p_1) (sq_0:Sz k q_0) (sq_1:Sz k q_1) (hk:4 * k + 3 < 274877906944) :
  Acts prog 112 #[p,q] V fun r V'=>RQ V' r (((p_0) * (q_0)) + ((p_1) * (q_1))):=by
 have hp0:=hp
 obtain ⟨p0,p1,p2,p3,p4,p5,p6,p7,p8,p9,p10,p11,rfl,hp_0,hp_1⟩:=hp
 have hq0:=hq
 obtain ⟨q0,q1,q2,q3,q4,q5,q6,q7,q8,q9,q10,q11,rfl,hq_0,hq_1⟩:=hq
 refine vc_ref04_Dot _ p0 p1 p2 p3 p4 p5 _ p6 p7 p8 p9 p10 p11 _ q0 q1 q2 q3 q4 q5 _ q6 q7 q8 q9 q10 q11 V _ fun V1 l1=>(c_num_Times (hp_0.le (l1)) (hq_0.le (l1)) sp_0 sq_0 (by omega)).mono ?_
 rintro r V2 l2 g1
 have g10:=g1
 obtain ⟨w0a,w0b,w0c,w0d,w0e,w0f,rfl⟩:=g1.shape
 have z1_0:Sz (2 * k + 1) ((p_0) * (q_0)):=Sz.mono (Sz.mul sp_0 sq_0) (by omega)
 refine ⟨_,_,_,_,_,_,_,rfl,fun V3 l3=>(c_num_Times (hp_1.le (l1.trans (l2.trans (l3)))) (hq_1.le (l1.trans (l2.trans (l3)))) sp_1 sq_1 (by omega)).mono ?_⟩
 rintro r V4 l4 g2
 have g20:=g2
 obtain ⟨w1a,w1b,w1c,w1d,w1e,w1f,rfl⟩:=g2.shape
 have z2_0:Sz (2 * k + 1) ((p_1) * (q_1)):=Sz.mono (Sz.mul sp_1 sq_1) (by omega)
 refine ⟨_,_,_,_,_,_,_,rfl,fun V5 l5=>(c_num_Plus (g10.le (l3.trans (l4.trans (l5)))) (g20.le (l5)) z1_0 z2_0 (by omega)).mono ?_⟩
 rintro r V6 l6 g3
 have g30:=g3
 obtain ⟨w2a,w2b,w2c,w2d,w2e,w2f,rfl⟩:=g3.shape
 have z3_0:Sz (4 * k + 3) (((p_0) * (q_0)) + ((p_1) * (q_1))):=Sz.mono (Sz.add z1_0 z2_0) (by omega)
 exact ⟨_,_,_,_,_,_,_,rfl,fun V7 l7=>(g30.le (l7))⟩
theorem z_ref04_Dot_0 {p_0:Rat} {p_1:Rat} {q_0:Rat} {q_1:Rat} {k:Nat} (sp_0:Sz k p_0) (sp_1:Sz k p_1) (sq_0:Sz k q_0) (sq_1:Sz k q_1):Sz (4 * k + 3) (((p_0) * (q_0)) + ((p_1) * (q_1))):=by
 have z1_0:Sz (2 * k + 1) ((p_0) * (q_0)):=Sz.mono (Sz.mul sp_0 sq_0) (by omega)
 have z2_0:Sz (2 * k + 1) ((p_1) * (q_1)):=Sz.mono (Sz.mul sp_1 sq_1) (by omega)
 have z3_0:Sz (4 * k + 3) (((p_0) * (q_0)) + ((p_1) * (q_1))):=Sz.mono (Sz.add z1_0 z2_0) (by omega)
 exact Sz.mono z3_0 (by omega)
theorem c_ref04_Value {V:View} {l:Value} {l_0 l_1 l_2:Int} {p:Value} {p_0 p_1:Rat} (hl:RL V l l_0 l_1 l_2) (hp:RP V p p_0 p_1) {k:Nat} (sl_0:Sz k ((l_0:Int):Rat)) (sl_1:Sz k ((l_1:Int):Rat)) (sl_2:Sz k ((l_2:Int):Rat)) (sp_0:Sz k p_0) (sp_1:Sz k p_1) (hk:5 * k + 4 < 274877906944) :
  Acts prog 94 #[l,p] V fun r V'=>RQ V' r ((((((l_0:Int):Rat)) * (p_0)) + ((((l_1:Int):Rat)) * (p_1))) + (((l_2:Int):Rat))):=by
 have hl0:=hl
 obtain ⟨l0,l1,l2,l3,l4,l5,l6,l7,l8,rfl,hl_0,hl_1,hl_2⟩:=hl
 have hp0:=hp
 obtain ⟨p0,p1,p2,p3,p4,p5,p6,p7,p8,p9,p10,p11,rfl,hp_0,hp_1⟩:=hp
 refine vc_ref04_Value _ l0 l1 l2 _ l3 l4 l5 _ l6 l7 l8 _ p0 p1 p2 p3 p4 p5 _ p6 p7 p8 p9 p10 p11 V _ fun V1 l1=>(c_ref04_q' (hl_0.le (l1)) sl_0 (by omega)).mono ?_
 rintro r V2 l2 g1
 have g10:=g1
 obtain ⟨w0a,w0b,w0c,w0d,w0e,w0f,rfl⟩:=g1.shape
 have z1_0:Sz (1 * k + 0) (((l_0:Int):Rat)):=Sz.mono (sl_0) (by omega)
 refine ⟨_,_,_,_,_,_,_,rfl,fun V3 l3=>(c_num_Times (g10.le (l3)) (hp_0.le (l1.trans (l2.trans (l3)))) z1_0 sp_0 (by omega)).mono ?_⟩
 rintro r V4 l4 g2
 have g20:=g2
 obtain ⟨w1a,w1b,w1c,w1d,w1e,w1f,rfl⟩:=g2.shape
 have z2_0:Sz (2 * k + 1) ((((l_0:Int):Rat)) * (p_0)):=Sz.mono (Sz.mul z1_0 sp_0) (by omega)
 refine ⟨_,_,_,_,_,_,_,rfl,fun V5 l5=>(c_ref04_q' (hl_1.le (l1.trans (l2.trans (l3.trans (l4.trans (l5)))))) sl_1 (by omega)).mono ?_⟩
 rintro r V6 l6 g3
 have g30:=g3
 obtain ⟨w2a,w2b,w2c,w2d,w2e,w2f,rfl⟩:=g3.shape
 have z3_0:Sz (1 * k + 0) (((l_1:Int):Rat)):=Sz.mono (sl_1) (by omega)
 refine ⟨_,_,_,_,_,_,_,rfl,fun V7 l7=>(c_num_Times (g30.le (l7)) (hp_1.le (l1.trans (l2.trans (l3.trans (l4.trans (l5.trans (l6.trans (l7)))))))) z3_0 sp_1 (by omega)).mono ?_⟩
 rintro r V8 l8 g4
 have g40:=g4
 obtain ⟨w3a,w3b,w3c,w3d,w3e,w3f,rfl⟩:=g4.shape
 have z4_0:Sz (2 * k + 1) ((((l_1:Int):Rat)) * (p_1)):=Sz.mono (Sz.mul z3_0 sp_1) (by omega)
 refine ⟨_,_,_,_,_,_,_,rfl,fun V9 l9=>(c_num_Plus (g20.le (l5.trans (l6.trans (l7.trans (l8.trans (l9)))))) (g40.le (l9)) z2_0 z4_0 (by omega)).mono ?_⟩
 rintro r V10 l10 g5
 have g50:=g5
 obtain ⟨w4a,w4b,w4c,w4d,w4e,w4f,rfl⟩:=g5.shape
 have z5_0:Sz (4 * k + 3) (((((l_0:Int):Rat)) * (p_0)) + ((((l_1:Int):Rat)) * (p_1))):=Sz.mono (Sz.add z2_0 z4_0) (by omega)
 refine ⟨_,_,_,_,_,_,_,rfl,fun V11 l11=>(c_ref04_q' (hl_2.le (l1.trans (l2.trans (l3.trans (l4.trans (l5.trans (l6.trans (l7.trans (l8.trans (l9.trans (l10.trans (l11)))))))))))) sl_2 (by omega)).mono ?_⟩
 rintro r V12 l12 g6
 have g60:=g6
 obtain ⟨w5a,w5b,w5c,w5d,w5e,w5f,rfl⟩:=g6.shape
 have z6_0:Sz (1 * k + 0) (((l_2:Int):Rat)):=Sz.mono (sl_2) (by omega)
 refine ⟨_,_,_,_,_,_,_,rfl,fun V13 l13=>(c_num_Plus (g50.le (l11.trans (l12.trans (l13)))) (g60.le (l13)) z5_0 z6_0 (by omega)).mono ?_⟩
 rintro r V14 l14 g7
 have g70:=g7
 obtain ⟨w6a,w6b,w6c,w6d,w6e,w6f,rfl⟩:=g7.shape
 have z7_0:Sz (5 * k + 4) ((((((l_0:Int):Rat)) * (p_0)) + ((((l_1:Int):Rat)) * (p_1))) + (((l_2:Int):Rat))):=Sz.mono (Sz.add z5_0 z6_0) (by omega)
 exact ⟨_,_,_,_,_,_,_,rfl,fun V15 l15=>(g70.le (l15))⟩
theorem c_ref04_Param {V:View} {l:Value} {l_0 l_1 l_2:Int} {p:Value} {p_0 p_1:Rat} (hl:RL V l l_0 l_1 l_2) (hp:RP V p p_0 p_1) (hd0:((((((l_1:Int):Rat))) * ((((l_1:Int):Rat)))) + (((-(((l_0:Int):Rat)))) * ((-(((l_0:Int):Rat)))))).num≠0) {k:Nat} (sl_0:Sz k ((l_0:Int):Rat)) (sl_1:Sz k ((l_1:Int):Rat)) (sl_2:Sz k ((l_2:Int):Rat)) (sp_0:Sz k p_0) (sp_1:Sz k p_1) (hk:8 * k + 7 < 274877906944) :
  Acts prog 52 #[l,p] V fun r V'=>RQ V' r ((((p_0) * ((((l_1:Int):Rat)))) + ((p_1) * ((-(((l_0:Int):Rat)))))) * ((((((l_1:Int):Rat))) * ((((l_1:Int):Rat)))) + (((-(((l_0:Int):Rat)))) * ((-(((l_0:Int):Rat))))))⁻¹):=by
 have hl0:=hl
 obtain ⟨l0,l1,l2,l3,l4,l5,l6,l7,l8,rfl,hl_0,hl_1,hl_2⟩:=hl
 have hp0:=hp
 obtain ⟨p0,p1,p2,p3,p4,p5,p6,p7,p8,p9,p10,p11,rfl,hp_0,hp_1⟩:=hp
 refine vc_ref04_Param _ l0 l1 l2 _ l3 l4 l5 _ l6 l7 l8 _ p0 p1 p2 p3 p4 p5 _ p6 p7 p8 p9 p10 p11 V _ fun V1 l1=>(c_ref04_Dir (hl0.le (l1)) (Sz.mono sl_0 (by omega):Sz (1 * k + 0) _) (Sz.mono sl_1 (by omega):Sz (1 * k + 0) _) (Sz.mono sl_2 (by omega):Sz (1 * k + 0) _) (by omega)).mono ?_
 rintro r V2 l2 g1
 have g10:=g1
 obtain ⟨w0_0,w0_1,w0_2,w0_3,w0_4,w0_5,w0_6,w0_7,w0_8,w0_9,w0_10,w0_11,rfl,g1p0,g1p1⟩:=g1
 have z1_0:Sz (1 * k + 0) (((l_1:Int):Rat)):=Sz.mono ((z_ref04_Dir_0 (Sz.mono sl_0 (by omega):Sz (1 * k + 0) _) (Sz.mono sl_1 (by omega):Sz (1 * k + 0) _) (Sz.mono sl_2 (by omega):Sz (1 * k + 0) _))) (by omega)
 have z1_1:Sz (1 * k + 0) (-(((l_0:Int):Rat))):=Sz.mono ((z_ref04_Dir_1 (Sz.mono sl_0 (by omega):Sz (1 * k + 0) _) (Sz.mono sl_1 (by omega):Sz (1 * k + 0) _) (Sz.mono sl_2 (by omega):Sz (1 * k + 0) _))) (by omega)
 refine ⟨_,_,_,_,_,_,_,_,_,_,_,_,_,_,rfl,fun V3 l3=>(c_ref04_Dot (hp0.le (l1.trans (l2.trans (l3)))) (g10.le (l3)) (Sz.mono sp_0 (by omega):Sz (1 * k + 0) _) (Sz.mono sp_1 (by omega):Sz (1 * k + 0) _) (Sz.mono z1_0 (by omega):Sz (1 * k + 0) _) (Sz.mono z1_1 (by omega):Sz (1 * k + 0) _) (by omega)).mono ?_⟩
 rintro r V4 l4 g2
 have g20:=g2
 obtain ⟨w1a,w1b,w1c,w1d,w1e,w1f,rfl⟩:=g2.shape
 have z2_0:Sz (4 * k + 3) (((p_0) * ((((l_1:Int):Rat)))) + ((p_1) * ((-(((l_0:Int):Rat)))))):=Sz.mono ((z_ref04_Dot_0 (Sz.mono sp_0 (by omega):Sz (1 * k + 0) _) (Sz.mono sp_1 (by omega):Sz (1 * k + 0) _) (Sz.mono z1_0 (by omega):Sz (1 * k + 0) _) (Sz.mono z1_1 (by omega):Sz (1 * k + 0) _))) (by omega)
 refine ⟨_,_,_,_,_,_,_,rfl,fun V5 l5=>(c_ref04_Dot (g10.le (l3.trans (l4.trans (l5)))) (g10.le (l3.trans (l4.trans (l5)))) (Sz.mono z1_0 (by omega):Sz (1 * k + 0) _) (Sz.mono z1_1 (by omega):Sz (1 * k + 0) _) (Sz.mono z1_0 (by omega):Sz (1 * k + 0) _) (Sz.mono z1_1 (by omega):Sz (1 * k + 0) _) (by omega)).mono ?_⟩
 rintro r V6 l6 g3
 have g30:=g3
 obtain ⟨w2a,w2b,w2c,w2d,w2e,w2f,rfl⟩:=g3.shape
 have z3_0:Sz (4 * k + 3) ((((((l_1:Int):Rat))) * ((((l_1:Int):Rat)))) + (((-(((l_0:Int):Rat)))) * ((-(((l_0:Int):Rat)))))):=Sz.mono ((z_ref04_Dot_0 (Sz.mono z1_0 (by omega):Sz (1 * k + 0) _) (Sz.mono z1_1 (by omega):Sz (1 * k + 0) _) (Sz.mono z1_0 (by omega):Sz (1 * k + 0) _) (Sz.mono z1_1 (by omega):Sz (1 * k + 0) _))) (by omega)
 refine ⟨_,_,_,_,_,_,_,rfl,fun V7 l7=>(c_num_Over (g20.le (l5.trans (l6.trans (l7)))) (g30.le (l7)) hd0 z2_0 z3_0 (by omega)).mono ?_⟩
 rintro r V8 l8 g4
 have g40:=g4
 obtain ⟨w3a,w3b,w3c,w3d,w3e,w3f,rfl⟩:=g4.shape
 have z4_0:Sz (8 * k + 7) ((((p_0) * ((((l_1:Int):Rat)))) + ((p_1) * ((-(((l_0:Int):Rat)))))) * ((((((l_1:Int):Rat))) * ((((l_1:Int):Rat)))) + (((-(((l_0:Int):Rat)))) * ((-(((l_0:Int):Rat))))))⁻¹):=Sz.mono (Sz.mul z2_0 (sz_inv z3_0)) (by omega)
 exact ⟨_,_,_,_,_,_,_,rfl,fun V9 l9=>(g40.le (l9))⟩
end Go.Proofs.Tryz
