/- A part of the proof (joined by program from: VRefF, NumK, RefD, RefE, PtB, TreeP, LineA, VScene, SceneA, LineP, LineQ). -/
import Derived.Test.YtalijajeenhebaaGreatDoorM5
import Derived.Test.YtalijajeenhebaaGreatDoorM12
import Derived.Test.YtalijajeenhebaaGreatDoorM10
import Derived.Test.YtalijajeenhebaaGreatDoorM13
set_option linter.unusedVariables false
open Go.IntKind (i64 u64 u32)
/- By program: the conditions of the functions, from their loaded code. -/
namespace Go.Proofs.Tryz
open Go.Eng
set_option maxRecDepth 100000
theorem vc_ref01_ToQ (a0:Bool) (a1p:OA) (a1n a1c:Nat) (a2p:OA) (a2n a2c:Nat) (V:View) (R:Value->View->Prop)
  (h:(∀V1,V.Le V1->Acts prog 93 #[.agg #[.bool a0,.slice a1p a1n a1c]] V1 fun r1_ V2=>∃b1_,∃p2_ n2_ c2_,r1_=.agg #[.bool b1_,.slice p2_ n2_ c2_]/\(∀V3,V2.Le V3->Acts prog 106 #[.agg #[.bool a0,.slice a1p a1n a1c,.slice a2p a2n a2c]] V3 fun r3_ V4=>∃p3_ n3_ c3_,r3_=.slice p3_ n3_ c3_/\(∀V5,V4.Le V5->Acts prog 105 #[.slice p3_ n3_ c3_] V5 fun r5_ V6=>∃p4_ n4_ c4_,r5_=.slice p4_ n4_ c4_/\(∀V7,V6.Le V7->R (.agg #[.bool b1_,.slice p2_ n2_ c2_,.slice p4_ n4_ c4_]) V7))))) :
  Acts prog 50 #[.agg #[.bool a0,.slice a1p a1n a1c,.slice a2p a2n a2c]] V R:=
 fn_does (LF:=LF0) (RF:=[1000007]) (β0:=(fun _=>0)) tab_ok mixed [] [] func50 (by kernel_rfl)
  [(0,.agg [.v (.bool a0),.v (.slice a1p a1n a1c),.v (.slice a2p a2n a2c)])]
  [] (by kernel_rfl) trivial h (by kernel_rfl)
theorem vc_ref01_SameQ (a0:Bool) (a1p:OA) (a1n a1c:Nat) (a2p:OA) (a2n a2c:Nat) (b0:Bool) (b1p:OA) (b1n b1c:Nat) (b2p:OA) (b2n b2c:Nat) (V:View) (R:Value->View->Prop)
  (h:(∀V1,V.Le V1->Acts prog 114 #[.agg #[.bool a0,.slice a1p a1n a1c],.agg #[.bool b0,.slice b1p b1n b1c]] V1 fun r1_ V2=>∃b1_,r1_=.bool b1_/\((b1_=true->(∀V3,V2.Le V3->Acts prog 119 #[.slice a2p a2n a2c,.slice b2p b2n b2c] V3 fun r3_ V4=>∃b2_,r3_=.bool b2_/\(∀V5,V4.Le V5->R (.bool b2_) V5)))/\(b1_=false->(∀V6,V2.Le V6->R (.bool false) V6))))) :
  Acts prog 63 #[.agg #[.bool a0,.slice a1p a1n a1c,.slice a2p a2n a2c],.agg #[.bool b0,.slice b1p b1n b1c,.slice b2p b2n b2c]] V R:=
 fn_does (LF:=LF0) (RF:=[1000007]) (β0:=(fun _=>0)) tab_ok mixed [] [] func63 (by kernel_rfl)
  [(0,.agg [.v (.bool a0),.v (.slice a1p a1n a1c),.v (.slice a2p a2n a2c)]),(1,.agg [.v (.bool b0),.v (.slice b1p b1n b1c),.v (.slice b2p b2n b2c)])]
  [] (by kernel_rfl) trivial h (by kernel_rfl)
theorem vc_ref04_SameP (p0:Bool) (p1p:OA) (p1n p1c:Nat) (p2p:OA) (p2n p2c:Nat) (p3:Bool) (p4p:OA) (p4n p4c:Nat) (p5p:OA) (p5n p5c:Nat) (q0:Bool) (q1p:OA) (q1n q1c:Nat) (q2p:OA) (q2n q2c:Nat) (q3:Bool) (q4p:OA) (q4n q4c:Nat) (q5p:OA) (q5n q5c:Nat) (V:View) (R:Value->View->Prop)
  (h:(∀V1,V.Le V1->Acts prog 63 #[.agg #[.bool p0,.slice p1p p1n p1c,.slice p2p p2n p2c],.agg #[.bool q0,.slice q1p q1n q1c,.slice q2p q2n q2c]] V1 fun r1_ V2=>∃b1_,r1_=.bool b1_/\((b1_=true->(∀V3,V2.Le V3->Acts prog 63 #[.agg #[.bool p3,.slice p4p p4n p4c,.slice p5p p5n p5c],.agg #[.bool q3,.slice q4p q4n q4c,.slice q5p q5n q5c]] V3 fun r3_ V4=>∃b2_,r3_=.bool b2_/\(∀V5,V4.Le V5->R (.bool b2_) V5)))/\(b1_=false->(∀V6,V2.Le V6->R (.bool false) V6))))) :
  Acts prog 18 #[.agg #[.bool p0,.slice p1p p1n p1c,.slice p2p p2n p2c,.bool p3,.slice p4p p4n p4c,.slice p5p p5n p5c],.agg #[.bool q0,.slice q1p q1n q1c,.slice q2p q2n q2c,.bool q3,.slice q4p q4n q4c,.slice q5p q5n q5c]] V R:=
 fn_does (LF:=LF0) (RF:=[1000007]) (β0:=(fun _=>0)) tab_ok mixed [] [] func18 (by kernel_rfl)
  [(0,.agg [.v (.bool p0),.v (.slice p1p p1n p1c),.v (.slice p2p p2n p2c),.v (.bool p3),.v (.slice p4p p4n p4c),.v (.slice p5p p5n p5c)]),(1,.agg [.v (.bool q0),.v (.slice q1p q1n q1c),.v (.slice q2p q2n q2c),.v (.bool q3),.v (.slice q4p q4n q4c),.v (.slice q5p q5n q5c)])]
  [] (by kernel_rfl) trivial h (by kernel_rfl)
theorem vc_ref04_Dot (p0:Bool) (p1p:OA) (p1n p1c:Nat) (p2p:OA) (p2n p2c:Nat) (p3:Bool) (p4p:OA) (p4n p4c:Nat) (p5p:OA) (p5n p5c:Nat) (q0:Bool) (q1p:OA) (q1n q1c:Nat) (q2p:OA) (q2n q2c:Nat) (q3:Bool) (q4p:OA) (q4n q4c:Nat) (q5p:OA) (q5n q5c:Nat) (V:View) (R:Value->View->Prop)
  (h:(∀V1,V.Le V1->Acts prog 98 #[.agg #[.bool p0,.slice p1p p1n p1c,.slice p2p p2n p2c],.agg #[.bool q0,.slice q1p q1n q1c,.slice q2p q2n q2c]] V1 fun r1_ V2=>∃b1_,∃p2_ n2_ c2_,∃p3_ n3_ c3_,r1_=.agg #[.bool b1_,.slice p2_ n2_ c2_,.slice p3_ n3_ c3_]/\(∀V3,V2.Le V3->Acts prog 98 #[.agg #[.bool p3,.slice p4p p4n p4c,.slice p5p p5n p5c],.agg #[.bool q3,.slice q4p q4n q4c,.slice q5p q5n q5c]] V3 fun r3_ V4=>∃b4_,∃p5_ n5_ c5_,∃p6_ n6_ c6_,r3_=.agg #[.bool b4_,.slice p5_ n5_ c5_,.slice p6_ n6_ c6_]/\(∀V5,V4.Le V5->Acts prog 80 #[.agg #[.bool b1_,.slice p2_ n2_ c2_,.slice p3_ n3_ c3_],.agg #[.bool b4_,.slice p5_ n5_ c5_,.slice p6_ n6_ c6_]] V5 fun r5_ V6=>∃b7_,∃p8_ n8_ c8_,∃p9_ n9_ c9_,r5_=.agg #[.bool b7_,.slice p8_ n8_ c8_,.slice p9_ n9_ c9_]/\(∀V7,V6.Le V7->R (.agg #[.bool b7_,.slice p8_ n8_ c8_,.slice p9_ n9_ c9_]) V7))))) :
  Acts prog 112 #[.agg #[.bool p0,.slice p1p p1n p1c,.slice p2p p2n p2c,.bool p3,.slice p4p p4n p4c,.slice p5p p5n p5c],.agg #[.bool q0,.slice q1p q1n q1c,.slice q2p q2n q2c,.bool q3,.slice q4p q4n q4c,.slice q5p q5n q5c]] V R:=
 fn_does (LF:=LF0) (RF:=[1000007]) (β0:=(fun _=>0)) tab_ok mixed [] [] func112 (by kernel_rfl)
  [(0,.agg [.v (.bool p0),.v (.slice p1p p1n p1c),.v (.slice p2p p2n p2c),.v (.bool p3),.v (.slice p4p p4n p4c),.v (.slice p5p p5n p5c)]),(1,.agg [.v (.bool q0),.v (.slice q1p q1n q1c),.v (.slice q2p q2n q2c),.v (.bool q3),.v (.slice q4p q4n q4c),.v (.slice q5p q5n q5c)])]
  [] (by kernel_rfl) trivial h (by kernel_rfl)
theorem vc_ref04_Dir (l0:Bool) (l1p:OA) (l1n l1c:Nat) (l2:Bool) (l3p:OA) (l3n l3c:Nat) (l4:Bool) (l5p:OA) (l5n l5c:Nat) (V:View) (R:Value->View->Prop)
  (h:(∀V1,V.Le V1->Acts prog 99 #[.agg #[.bool l2,.slice l3p l3n l3c]] V1 fun r1_ V2=>∃b1_,∃p2_ n2_ c2_,∃p3_ n3_ c3_,r1_=.agg #[.bool b1_,.slice p2_ n2_ c2_,.slice p3_ n3_ c3_]/\(∀V3,V2.Le V3->Acts prog 99 #[.agg #[.bool l0,.slice l1p l1n l1c]] V3 fun r3_ V4=>∃b4_,∃p5_ n5_ c5_,∃p6_ n6_ c6_,r3_=.agg #[.bool b4_,.slice p5_ n5_ c5_,.slice p6_ n6_ c6_]/\(∀V5,V4.Le V5->Acts prog 72 #[.agg #[.bool b4_,.slice p5_ n5_ c5_,.slice p6_ n6_ c6_]] V5 fun r5_ V6=>∃b7_,∃p8_ n8_ c8_,∃p9_ n9_ c9_,r5_=.agg #[.bool b7_,.slice p8_ n8_ c8_,.slice p9_ n9_ c9_]/\(∀V7,V6.Le V7->R (.agg #[.bool b1_,.slice p2_ n2_ c2_,.slice p3_ n3_ c3_,.bool b7_,.slice p8_ n8_ c8_,.slice p9_ n9_ c9_]) V7))))) :
  Acts prog 46 #[.agg #[.bool l0,.slice l1p l1n l1c,.bool l2,.slice l3p l3n l3c,.bool l4,.slice l5p l5n l5c]] V R:=
 fn_does (LF:=LF0) (RF:=[1000007]) (β0:=(fun _=>0)) tab_ok mixed [] [] func46 (by kernel_rfl)
  [(0,.agg [.v (.bool l0),.v (.slice l1p l1n l1c),.v (.bool l2),.v (.slice l3p l3n l3c),.v (.bool l4),.v (.slice l5p l5n l5c)])]
  [] (by kernel_rfl) trivial h (by kernel_rfl)
theorem vc_ref04_q (a0:Bool) (a1p:OA) (a1n a1c:Nat) (V:View) (R:Value->View->Prop)
  (h:(∀V1,V.Le V1->R (.agg #[.bool a0,.slice a1p a1n a1c,.slice none 0 0]) V1)) :
  Acts prog 99 #[.agg #[.bool a0,.slice a1p a1n a1c]] V R:=
 fn_does (LF:=LF0) (RF:=[1000007]) (β0:=(fun _=>0)) tab_ok mixed [] [] func99 (by kernel_rfl)
  [(0,.agg [.v (.bool a0),.v (.slice a1p a1n a1c)])]
  [] (by kernel_rfl) trivial h (by kernel_rfl)
theorem vc_ref04_Value (l0:Bool) (l1p:OA) (l1n l1c:Nat) (l2:Bool) (l3p:OA) (l3n l3c:Nat) (l4:Bool) (l5p:OA) (l5n l5c:Nat) (p0:Bool) (p1p:OA) (p1n p1c:Nat) (p2p:OA) (p2n p2c:Nat) (p3:Bool) (p4p:OA) (p4n p4c:Nat) (p5p:OA) (p5n p5c:Nat) (V:View) (R:Value->View->Prop)
  (h:(∀V1,V.Le V1->Acts prog 99 #[.agg #[.bool l0,.slice l1p l1n l1c]] V1 fun r1_ V2=>∃b1_,∃p2_ n2_ c2_,∃p3_ n3_ c3_,r1_=.agg #[.bool b1_,.slice p2_ n2_ c2_,.slice p3_ n3_ c3_]/\(∀V3,V2.Le V3->Acts prog 98 #[.agg #[.bool b1_,.slice p2_ n2_ c2_,.slice p3_ n3_ c3_],.agg #[.bool p0,.slice p1p p1n p1c,.slice p2p p2n p2c]] V3 fun r3_ V4=>∃b4_,∃p5_ n5_ c5_,∃p6_ n6_ c6_,r3_=.agg #[.bool b4_,.slice p5_ n5_ c5_,.slice p6_ n6_ c6_]/\(∀V5,V4.Le V5->Acts prog 99 #[.agg #[.bool l2,.slice l3p l3n l3c]] V5 fun r5_ V6=>∃b7_,∃p8_ n8_ c8_,∃p9_ n9_ c9_,r5_=.agg #[.bool b7_,.slice p8_ n8_ c8_,.slice p9_ n9_ c9_]/\(∀V7,V6.Le V7->Acts prog 98 #[.agg #[.bool b7_,.slice p8_ n8_ c8_,.slice p9_ n9_ c9_],.agg #[.bool p3,.slice p4p p4n p4c,.slice p5p p5n p5c]] V7 fun r7_ V8=>∃b10_,∃p11_ n11_ c11_,∃p12_ n12_ c12_,r7_=.agg #[.bool b10_,.slice p11_ n11_ c11_,.slice p12_ n12_ c12_]/\(∀V9,V8.Le V9->Acts prog 80 #[.agg #[.bool b4_,.slice p5_ n5_ c5_,.slice p6_ n6_ c6_],.agg #[.bool b10_,.slice p11_ n11_ c11_,.slice p12_ n12_ c12_]] V9 fun r9_ V10=>∃b13_,∃p14_ n14_ c14_,∃p15_ n15_ c15_,r9_=.agg #[.bool b13_,.slice p14_ n14_ c14_,.slice p15_ n15_ c15_]/\(∀V11,V10.Le V11->Acts prog 99 #[.agg #[.bool l4,.slice l5p l5n l5c]] V11 fun r11_ V12=>∃b16_,∃p17_ n17_ c17_,∃p18_ n18_ c18_,r11_=.agg #[.bool b16_,.slice p17_ n17_ c17_,.slice p18_ n18_ c18_]/\(∀V13,V12.Le V13->Acts prog 80 #[.agg #[.bool b13_,.slice p14_ n14_ c14_,.slice p15_ n15_ c15_],.agg #[.bool b16_,.slice p17_ n17_ c17_,.slice p18_ n18_ c18_]] V13 fun r13_ V14=>∃b19_,∃p20_ n20_ c20_,∃p21_ n21_ c21_,r13_=.agg #[.bool b19_,.slice p20_ n20_ c20_,.slice p21_ n21_ c21_]/\(∀V15,V14.Le V15->R (.agg #[.bool b19_,.slice p20_ n20_ c20_,.slice p21_ n21_ c21_]) V15))))))))) :
  Acts prog 94 #[.agg #[.bool l0,.slice l1p l1n l1c,.bool l2,.slice l3p l3n l3c,.bool l4,.slice l5p l5n l5c],.agg #[.bool p0,.slice p1p p1n p1c,.slice p2p p2n p2c,.bool p3,.slice p4p p4n p4c,.slice p5p p5n p5c]] V R:=
 fn_does (LF:=LF0) (RF:=[1000007]) (β0:=(fun _=>0)) tab_ok mixed [] [] func94 (by kernel_rfl)
  [(0,.agg [.v (.bool l0),.v (.slice l1p l1n l1c),.v (.bool l2),.v (.slice l3p l3n l3c),.v (.bool l4),.v (.slice l5p l5n l5c)]),(1,.agg [.v (.bool p0),.v (.slice p1p p1n p1c),.v (.slice p2p p2n p2c),.v (.bool p3),.v (.slice p4p p4n p4c),.v (.slice p5p p5n p5c)])]
  [] (by kernel_rfl) trivial h (by kernel_rfl)
theorem vc_ref04_Side (l0:Bool) (l1p:OA) (l1n l1c:Nat) (l2:Bool) (l3p:OA) (l3n l3c:Nat) (l4:Bool) (l5p:OA) (l5n l5c:Nat) (p0:Bool) (p1p:OA) (p1n p1c:Nat) (p2p:OA) (p2n p2c:Nat) (p3:Bool) (p4p:OA) (p4n p4c:Nat) (p5p:OA) (p5n p5c:Nat) (V:View) (R:Value->View->Prop)
  (h:(∀V1,V.Le V1->Acts prog 94 #[.agg #[.bool l0,.slice l1p l1n l1c,.bool l2,.slice l3p l3n l3c,.bool l4,.slice l5p l5n l5c],.agg #[.bool p0,.slice p1p p1n p1c,.slice p2p p2n p2c,.bool p3,.slice p4p p4n p4c,.slice p5p p5n p5c]] V1 fun r1_ V2=>∃b1_,∃p2_ n2_ c2_,∃p3_ n3_ c3_,r1_=.agg #[.bool b1_,.slice p2_ n2_ c2_,.slice p3_ n3_ c3_]/\(∀V3,V2.Le V3->Acts prog 44 #[.agg #[.bool b1_,.slice p2_ n2_ c2_,.slice p3_ n3_ c3_]] V3 fun r3_ V4=>∃x4_,r3_=.int .i64 x4_/\(∀V5,V4.Le V5->R (.int .i64 x4_) V5)))) :
  Acts prog 42 #[.agg #[.bool l0,.slice l1p l1n l1c,.bool l2,.slice l3p l3n l3c,.bool l4,.slice l5p l5n l5c],.agg #[.bool p0,.slice p1p p1n p1c,.slice p2p p2n p2c,.bool p3,.slice p4p p4n p4c,.slice p5p p5n p5c]] V R:=
 fn_does (LF:=LF0) (RF:=[1000007]) (β0:=(fun _=>0)) tab_ok mixed [] [] func42 (by kernel_rfl)
  [(0,.agg [.v (.bool l0),.v (.slice l1p l1n l1c),.v (.bool l2),.v (.slice l3p l3n l3c),.v (.bool l4),.v (.slice l5p l5n l5c)]),(1,.agg [.v (.bool p0),.v (.slice p1p p1n p1c),.v (.slice p2p p2n p2c),.v (.bool p3),.v (.slice p4p p4n p4c),.v (.slice p5p p5n p5c)])]
  [] (by kernel_rfl) trivial h (by kernel_rfl)
theorem vc_ref04_Base (l0:Bool) (l1p:OA) (l1n l1c:Nat) (l2:Bool) (l3p:OA) (l3n l3c:Nat) (l4:Bool) (l5p:OA) (l5n l5c:Nat) (V:View) (R:Value->View->Prop)
  (h:(∀V1,V.Le V1->Acts prog 46 #[.agg #[.bool l0,.slice l1p l1n l1c,.bool l2,.slice l3p l3n l3c,.bool l4,.slice l5p l5n l5c]] V1 fun r1_ V2=>∃b1_,∃p2_ n2_ c2_,∃p3_ n3_ c3_,∃b4_,∃p5_ n5_ c5_,∃p6_ n6_ c6_,r1_=.agg #[.bool b1_,.slice p2_ n2_ c2_,.slice p3_ n3_ c3_,.bool b4_,.slice p5_ n5_ c5_,.slice p6_ n6_ c6_]/\(∀V3,V2.Le V3->Acts prog 99 #[.agg #[.bool l4,.slice l5p l5n l5c]] V3 fun r3_ V4=>∃b7_,∃p8_ n8_ c8_,∃p9_ n9_ c9_,r3_=.agg #[.bool b7_,.slice p8_ n8_ c8_,.slice p9_ n9_ c9_]/\(∀V5,V4.Le V5->Acts prog 112 #[.agg #[.bool b1_,.slice p2_ n2_ c2_,.slice p3_ n3_ c3_,.bool b4_,.slice p5_ n5_ c5_,.slice p6_ n6_ c6_],.agg #[.bool b1_,.slice p2_ n2_ c2_,.slice p3_ n3_ c3_,.bool b4_,.slice p5_ n5_ c5_,.slice p6_ n6_ c6_]] V5 fun r5_ V6=>∃b10_,∃p11_ n11_ c11_,∃p12_ n12_ c12_,r5_=.agg #[.bool b10_,.slice p11_ n11_ c11_,.slice p12_ n12_ c12_]/\(∀V7,V6.Le V7->Acts prog 111 #[.agg #[.bool b7_,.slice p8_ n8_ c8_,.slice p9_ n9_ c9_],.agg #[.bool b10_,.slice p11_ n11_ c11_,.slice p12_ n12_ c12_]] V7 fun r7_ V8=>∃b13_,∃p14_ n14_ c14_,∃p15_ n15_ c15_,r7_=.agg #[.bool b13_,.slice p14_ n14_ c14_,.slice p15_ n15_ c15_]/\(∀V9,V8.Le V9->Acts prog 72 #[.agg #[.bool b13_,.slice p14_ n14_ c14_,.slice p15_ n15_ c15_]] V9 fun r9_ V10=>∃b16_,∃p17_ n17_ c17_,∃p18_ n18_ c18_,r9_=.agg #[.bool b16_,.slice p17_ n17_ c17_,.slice p18_ n18_ c18_]/\(∀V11,V10.Le V11->Acts prog 99 #[.agg #[.bool l0,.slice l1p l1n l1c]] V11 fun r11_ V12=>∃b19_,∃p20_ n20_ c20_,∃p21_ n21_ c21_,r11_=.agg #[.bool b19_,.slice p20_ n20_ c20_,.slice p21_ n21_ c21_]/\(∀V13,V12.Le V13->Acts prog 98 #[.agg #[.bool b16_,.slice p17_ n17_ c17_,.slice p18_ n18_ c18_],.agg #[.bool b19_,.slice p20_ n20_ c20_,.slice p21_ n21_ c21_]] V13 fun r13_ V14=>∃b22_,∃p23_ n23_ c23_,∃p24_ n24_ c24_,r13_=.agg #[.bool b22_,.slice p23_ n23_ c23_,.slice p24_ n24_ c24_]/\(∀V15,V14.Le V15->Acts prog 99 #[.agg #[.bool l2,.slice l3p l3n l3c]] V15 fun r15_ V16=>∃b25_,∃p26_ n26_ c26_,∃p27_ n27_ c27_,r15_=.agg #[.bool b25_,.slice p26_ n26_ c26_,.slice p27_ n27_ c27_]/\(∀V17,V16.Le V17->Acts prog 98 #[.agg #[.bool b16_,.slice p17_ n17_ c17_,.slice p18_ n18_ c18_],.agg #[.bool b25_,.slice p26_ n26_ c26_,.slice p27_ n27_ c27_]] V17 fun r17_ V18=>∃b28_,∃p29_ n29_ c29_,∃p30_ n30_ c30_,r17_=.agg #[.bool b28_,.slice p29_ n29_ c29_,.slice p30_ n30_ c30_]/\(∀V19,V18.Le V19->R (.agg #[.bool b22_,.slice p23_ n23_ c23_,.slice p24_ n24_ c24_,.bool b28_,.slice p29_ n29_ c29_,.slice p30_ n30_ c30_]) V19))))))))))) :
  Acts prog 64 #[.agg #[.bool l0,.slice l1p l1n l1c,.bool l2,.slice l3p l3n l3c,.bool l4,.slice l5p l5n l5c]] V R:=
 fn_does (LF:=LF0) (RF:=[1000007]) (β0:=(fun _=>0)) tab_ok mixed [] [] func64 (by kernel_rfl)
  [(0,.agg [.v (.bool l0),.v (.slice l1p l1n l1c),.v (.bool l2),.v (.slice l3p l3n l3c),.v (.bool l4),.v (.slice l5p l5n l5c)])]
  [] (by kernel_rfl) trivial h (by kernel_rfl)
theorem vc_ref04_At (l0:Bool) (l1p:OA) (l1n l1c:Nat) (l2:Bool) (l3p:OA) (l3n l3c:Nat) (l4:Bool) (l5p:OA) (l5n l5c:Nat) (t0:Bool) (t1p:OA) (t1n t1c:Nat) (t2p:OA) (t2n t2c:Nat) (V:View) (R:Value->View->Prop)
  (h:(∀V1,V.Le V1->Acts prog 64 #[.agg #[.bool l0,.slice l1p l1n l1c,.bool l2,.slice l3p l3n l3c,.bool l4,.slice l5p l5n l5c]] V1 fun r1_ V2=>∃b1_,∃p2_ n2_ c2_,∃p3_ n3_ c3_,∃b4_,∃p5_ n5_ c5_,∃p6_ n6_ c6_,r1_=.agg #[.bool b1_,.slice p2_ n2_ c2_,.slice p3_ n3_ c3_,.bool b4_,.slice p5_ n5_ c5_,.slice p6_ n6_ c6_]/\(∀V3,V2.Le V3->Acts prog 46 #[.agg #[.bool l0,.slice l1p l1n l1c,.bool l2,.slice l3p l3n l3c,.bool l4,.slice l5p l5n l5c]] V3 fun r3_ V4=>∃b7_,∃p8_ n8_ c8_,∃p9_ n9_ c9_,∃b10_,∃p11_ n11_ c11_,∃p12_ n12_ c12_,r3_=.agg #[.bool b7_,.slice p8_ n8_ c8_,.slice p9_ n9_ c9_,.bool b10_,.slice p11_ n11_ c11_,.slice p12_ n12_ c12_]/\(∀V5,V4.Le V5->Acts prog 56 #[.agg #[.bool b1_,.slice p2_ n2_ c2_,.slice p3_ n3_ c3_,.bool b4_,.slice p5_ n5_ c5_,.slice p6_ n6_ c6_],.agg #[.bool t0,.slice t1p t1n t1c,.slice t2p t2n t2c],.agg #[.bool b7_,.slice p8_ n8_ c8_,.slice p9_ n9_ c9_,.bool b10_,.slice p11_ n11_ c11_,.slice p12_ n12_ c12_]] V5 fun r5_ V6=>∃b13_,∃p14_ n14_ c14_,∃p15_ n15_ c15_,∃b16_,∃p17_ n17_ c17_,∃p18_ n18_ c18_,r5_=.agg #[.bool b13_,.slice p14_ n14_ c14_,.slice p15_ n15_ c15_,.bool b16_,.slice p17_ n17_ c17_,.slice p18_ n18_ c18_]/\(∀V7,V6.Le V7->R (.agg #[.bool b13_,.slice p14_ n14_ c14_,.slice p15_ n15_ c15_,.bool b16_,.slice p17_ n17_ c17_,.slice p18_ n18_ c18_]) V7))))) :
  Acts prog 19 #[.agg #[.bool l0,.slice l1p l1n l1c,.bool l2,.slice l3p l3n l3c,.bool l4,.slice l5p l5n l5c],.agg #[.bool t0,.slice t1p t1n t1c,.slice t2p t2n t2c]] V R:=
 fn_does (LF:=LF0) (RF:=[1000007]) (β0:=(fun _=>0)) tab_ok mixed [] [] func19 (by kernel_rfl)
  [(0,.agg [.v (.bool l0),.v (.slice l1p l1n l1c),.v (.bool l2),.v (.slice l3p l3n l3c),.v (.bool l4),.v (.slice l5p l5n l5c)]),(1,.agg [.v (.bool t0),.v (.slice t1p t1n t1c),.v (.slice t2p t2n t2c)])]
  [] (by kernel_rfl) trivial h (by kernel_rfl)
theorem vc_ref04_Param (l0:Bool) (l1p:OA) (l1n l1c:Nat) (l2:Bool) (l3p:OA) (l3n l3c:Nat) (l4:Bool) (l5p:OA) (l5n l5c:Nat) (p0:Bool) (p1p:OA) (p1n p1c:Nat) (p2p:OA) (p2n p2c:Nat) (p3:Bool) (p4p:OA) (p4n p4c:Nat) (p5p:OA) (p5n p5c:Nat) (V:View) (R:Value->View->Prop)
  (h:(∀V1,V.Le V1->Acts prog 46 #[.agg #[.bool l0,.slice l1p l1n l1c,.bool l2,.slice l3p l3n l3c,.bool l4,.slice l5p l5n l5c]] V1 fun r1_ V2=>∃b1_,∃p2_ n2_ c2_,∃p3_ n3_ c3_,∃b4_,∃p5_ n5_ c5_,∃p6_ n6_ c6_,r1_=.agg #[.bool b1_,.slice p2_ n2_ c2_,.slice p3_ n3_ c3_,.bool b4_,.slice p5_ n5_ c5_,.slice p6_ n6_ c6_]/\(∀V3,V2.Le V3->Acts prog 112 #[.agg #[.bool p0,.slice p1p p1n p1c,.slice p2p p2n p2c,.bool p3,.slice p4p p4n p4c,.slice p5p p5n p5c],.agg #[.bool b1_,.slice p2_ n2_ c2_,.slice p3_ n3_ c3_,.bool b4_,.slice p5_ n5_ c5_,.slice p6_ n6_ c6_]] V3 fun r3_ V4=>∃b7_,∃p8_ n8_ c8_,∃p9_ n9_ c9_,r3_=.agg #[.bool b7_,.slice p8_ n8_ c8_,.slice p9_ n9_ c9_]/\(∀V5,V4.Le V5->Acts prog 112 #[.agg #[.bool b1_,.slice p2_ n2_ c2_,.slice p3_ n3_ c3_,.bool b4_,.slice p5_ n5_ c5_,.slice p6_ n6_ c6_],.agg #[.bool b1_,.slice p2_ n2_ c2_,.slice p3_ n3_ c3_,.bool b4_,.slice p5_ n5_ c5_,.slice p6_ n6_ c6_]] V5 fun r5_ V6=>∃b10_,∃p11_ n11_ c11_,∃p12_ n12_ c12_,r5_=.agg #[.bool b10_,.slice p11_ n11_ c11_,.slice p12_ n12_ c12_]/\(∀V7,V6.Le V7->Acts prog 111 #[.agg #[.bool b7_,.slice p8_ n8_ c8_,.slice p9_ n9_ c9_],.agg #[.bool b10_,.slice p11_ n11_ c11_,.slice p12_ n12_ c12_]] V7 fun r7_ V8=>∃b13_,∃p14_ n14_ c14_,∃p15_ n15_ c15_,r7_=.agg #[.bool b13_,.slice p14_ n14_ c14_,.slice p15_ n15_ c15_]/\(∀V9,V8.Le V9->R (.agg #[.bool b13_,.slice p14_ n14_ c14_,.slice p15_ n15_ c15_]) V9)))))) :
  Acts prog 52 #[.agg #[.bool l0,.slice l1p l1n l1c,.bool l2,.slice l3p l3n l3c,.bool l4,.slice l5p l5n l5c],.agg #[.bool p0,.slice p1p p1n p1c,.slice p2p p2n p2c,.bool p3,.slice p4p p4n p4c,.slice p5p p5n p5c]] V R:=
 fn_does (LF:=LF0) (RF:=[1000007]) (β0:=(fun _=>0)) tab_ok mixed [] [] func52 (by kernel_rfl)
  [(0,.agg [.v (.bool l0),.v (.slice l1p l1n l1c),.v (.bool l2),.v (.slice l3p l3n l3c),.v (.bool l4),.v (.slice l5p l5n l5c)]),(1,.agg [.v (.bool p0),.v (.slice p1p p1n p1c),.v (.slice p2p p2n p2c),.v (.bool p3),.v (.slice p4p p4n p4c),.v (.slice p5p p5n p5c)])]
  [] (by kernel_rfl) trivial h (by kernel_rfl)
theorem vc_ref06_Full  (V:View) (R:Value->View->Prop)
  (h:(∀V1,V.Le V1->R (.agg #[.bool false,.slice none 0 0,.slice none 0 0,.bool false,.slice none 0 0,.slice none 0 0,.bool true,.bool true]) V1)) :
  Acts prog 81 #[] V R:=
 fn_does (LF:=LF0) (RF:=[1000007]) (β0:=(fun _=>0)) tab_ok mixed [] [] func81 (by kernel_rfl)
  []
  [] (by kernel_rfl) trivial h (by kernel_rfl)
theorem vc_ref06_zero (a0:Bool) (a1p:OA) (a1n a1c:Nat) (a2p:OA) (a2n a2c:Nat) (V:View) (R:Value->View->Prop)
  (h:(((!a0)=true->(((((a1n:Nat):Int) == (0:Int))=true->(∀V1,V.Le V1->R (.bool (((a2n:Nat):Int) == (0:Int))) V1))/\((((a1n:Nat):Int) == (0:Int))=false->(∀V2,V.Le V2->R (.bool false) V2))))/\((!a0)=false->(∀V3,V.Le V3->R (.bool false) V3)))) :
  Acts prog 136 #[.agg #[.bool a0,.slice a1p a1n a1c,.slice a2p a2n a2c]] V R:=
 fn_does (LF:=LF0) (RF:=[1000007]) (β0:=(fun _=>0)) tab_ok mixed [] [] func136 (by kernel_rfl)
  [(0,.agg [.v (.bool a0),.v (.slice a1p a1n a1c),.v (.slice a2p a2n a2c)])]
  [] (by kernel_rfl) trivial h (by kernel_rfl)
theorem vc_ref06_Write (s0:Bool) (s1p:OA) (s1n s1c:Nat) (s2p:OA) (s2n s2c:Nat) (s3:Bool) (s4p:OA) (s4n s4c:Nat) (s5p:OA) (s5n s5c:Nat) (s6:Bool) (s7:Bool) (V:View) (R:Value->View->Prop)
  (h:(((!s6)=true->(∀V1,V.Le V1->Acts prog 50 #[.agg #[.bool s0,.slice s1p s1n s1c,.slice s2p s2n s2c]] V1 fun r1_ V2=>∃b1_,∃p2_ n2_ c2_,∃p3_ n3_ c3_,r1_=.agg #[.bool b1_,.slice p2_ n2_ c2_,.slice p3_ n3_ c3_]/\(((!s7)=true->(∀V3,V2.Le V3->Acts prog 50 #[.agg #[.bool s3,.slice s4p s4n s4c,.slice s5p s5n s5c]] V3 fun r3_ V4=>∃b4_,∃p5_ n5_ c5_,∃p6_ n6_ c6_,r3_=.agg #[.bool b4_,.slice p5_ n5_ c5_,.slice p6_ n6_ c6_]/\(∀V5,V4.Le V5->R (.agg #[.bool b1_,.slice p2_ n2_ c2_,.slice p3_ n3_ c3_,.bool b4_,.slice p5_ n5_ c5_,.slice p6_ n6_ c6_,.bool s6,.bool s7]) V5)))/\((!s7)=false->(∀V6,V2.Le V6->R (.agg #[.bool b1_,.slice p2_ n2_ c2_,.slice p3_ n3_ c3_,.bool false,.slice none 0 0,.slice none 0 0,.bool s6,.bool s7]) V6)))))/\((!s6)=false->(((!s7)=true->(∀V7,V.Le V7->Acts prog 50 #[.agg #[.bool s3,.slice s4p s4n s4c,.slice s5p s5n s5c]] V7 fun r7_ V8=>∃b7_,∃p8_ n8_ c8_,∃p9_ n9_ c9_,r7_=.agg #[.bool b7_,.slice p8_ n8_ c8_,.slice p9_ n9_ c9_]/\(∀V9,V8.Le V9->R (.agg #[.bool false,.slice none 0 0,.slice none 0 0,.bool b7_,.slice p8_ n8_ c8_,.slice p9_ n9_ c9_,.bool s6,.bool s7]) V9)))/\((!s7)=false->(∀V10,V.Le V10->R (.agg #[.bool false,.slice none 0 0,.slice none 0 0,.bool false,.slice none 0 0,.slice none 0 0,.bool s6,.bool s7]) V10)))))) :
  Acts prog 59 #[.agg #[.bool s0,.slice s1p s1n s1c,.slice s2p s2n s2c,.bool s3,.slice s4p s4n s4c,.slice s5p s5n s5c,.bool s6,.bool s7]] V R:=
 fn_does (LF:=LF0) (RF:=[1000007]) (β0:=(fun _=>0)) tab_ok mixed [] [] func59 (by kernel_rfl)
  [(0,.agg [.v (.bool s0),.v (.slice s1p s1n s1c),.v (.slice s2p s2n s2c),.v (.bool s3),.v (.slice s4p s4n s4c),.v (.slice s5p s5n s5c),.v (.bool s6),.v (.bool s7)])]
  [] (by kernel_rfl) trivial h (by kernel_rfl)
theorem vc_ref06_WriteF (f0:Bool) (f1p:OA) (f1n f1c:Nat) (f2:Bool) (f3p:OA) (f3n f3c:Nat) (f4:Bool) (f5p:OA) (f5n f5c:Nat) (f6:Bool) (f7p:OA) (f7n f7c:Nat) (f8p:OA) (f8n f8c:Nat) (f9:Bool) (f10p:OA) (f10n f10c:Nat) (f11p:OA) (f11n f11c:Nat) (f12:Bool) (f13:Bool) (V:View) (R:Value->View->Prop)
  (h:(∀V1,V.Le V1->Acts prog 41 #[.agg #[.bool f0,.slice f1p f1n f1c,.bool f2,.slice f3p f3n f3c,.bool f4,.slice f5p f5n f5c]] V1 fun r1_ V2=>∃b1_,∃p2_ n2_ c2_,∃b3_,∃p4_ n4_ c4_,∃b5_,∃p6_ n6_ c6_,r1_=.agg #[.bool b1_,.slice p2_ n2_ c2_,.bool b3_,.slice p4_ n4_ c4_,.bool b5_,.slice p6_ n6_ c6_]/\(∀V3,V2.Le V3->Acts prog 59 #[.agg #[.bool f6,.slice f7p f7n f7c,.slice f8p f8n f8c,.bool f9,.slice f10p f10n f10c,.slice f11p f11n f11c,.bool f12,.bool f13]] V3 fun r3_ V4=>∃b7_,∃p8_ n8_ c8_,∃p9_ n9_ c9_,∃b10_,∃p11_ n11_ c11_,∃p12_ n12_ c12_,∃b13_,∃b14_,r3_=.agg #[.bool b7_,.slice p8_ n8_ c8_,.slice p9_ n9_ c9_,.bool b10_,.slice p11_ n11_ c11_,.slice p12_ n12_ c12_,.bool b13_,.bool b14_]/\(∀V5,V4.Le V5->R (.agg #[.bool b1_,.slice p2_ n2_ c2_,.bool b3_,.slice p4_ n4_ c4_,.bool b5_,.slice p6_ n6_ c6_,.bool b7_,.slice p8_ n8_ c8_,.slice p9_ n9_ c9_,.bool b10_,.slice p11_ n11_ c11_,.slice p12_ n12_ c12_,.bool b13_,.bool b14_]) V5)))) :
  Acts prog 15 #[.agg #[.bool f0,.slice f1p f1n f1c,.bool f2,.slice f3p f3n f3c,.bool f4,.slice f5p f5n f5c,.bool f6,.slice f7p f7n f7c,.slice f8p f8n f8c,.bool f9,.slice f10p f10n f10c,.slice f11p f11n f11c,.bool f12,.bool f13]] V R:=
 fn_does (LF:=LF0) (RF:=[1000007]) (β0:=(fun _=>0)) tab_ok mixed [] [] func15 (by kernel_rfl)
  [(0,.agg [.v (.bool f0),.v (.slice f1p f1n f1c),.v (.bool f2),.v (.slice f3p f3n f3c),.v (.bool f4),.v (.slice f5p f5n f5c),.v (.bool f6),.v (.slice f7p f7n f7c),.v (.slice f8p f8n f8c),.v (.bool f9),.v (.slice f10p f10n f10c),.v (.slice f11p f11n f11c),.v (.bool f12),.v (.bool f13)])]
  [] (by kernel_rfl) trivial h (by kernel_rfl)
theorem vc_ref06_Segment (p0:Bool) (p1p:OA) (p1n p1c:Nat) (p2p:OA) (p2n p2c:Nat) (p3:Bool) (p4p:OA) (p4n p4c:Nat) (p5p:OA) (p5n p5c:Nat) (q0:Bool) (q1p:OA) (q1n q1c:Nat) (q2p:OA) (q2n q2c:Nat) (q3:Bool) (q4p:OA) (q4n q4c:Nat) (q5p:OA) (q5n q5c:Nat) (V:View) (R:Value->View->Prop)
  (h:(∀V1,V.Le V1->Acts prog 51 #[.agg #[.bool p0,.slice p1p p1n p1c,.slice p2p p2n p2c,.bool p3,.slice p4p p4n p4c,.slice p5p p5n p5c],.agg #[.bool q0,.slice q1p q1n q1c,.slice q2p q2n q2c,.bool q3,.slice q4p q4n q4c,.slice q5p q5n q5c]] V1 fun r1_ V2=>∃b1_,∃p2_ n2_ c2_,∃b3_,∃p4_ n4_ c4_,∃b5_,∃p6_ n6_ c6_,∃b7_,r1_=.tuple #[.agg #[.bool b1_,.slice p2_ n2_ c2_,.bool b3_,.slice p4_ n4_ c4_,.bool b5_,.slice p6_ n6_ c6_],.bool b7_]/\(((!b7_)=true->(∀V3,V2.Le V3->R (.tuple #[.agg #[.bool false,.slice none 0 0,.bool false,.slice none 0 0,.bool false,.slice none 0 0,.bool false,.slice none 0 0,.slice none 0 0,.bool false,.slice none 0 0,.slice none 0 0,.bool false,.bool false],.bool false]) V3))/\((!b7_)=false->(∀V4,V2.Le V4->Acts prog 52 #[.agg #[.bool b1_,.slice p2_ n2_ c2_,.bool b3_,.slice p4_ n4_ c4_,.bool b5_,.slice p6_ n6_ c6_],.agg #[.bool p0,.slice p1p p1n p1c,.slice p2p p2n p2c,.bool p3,.slice p4p p4n p4c,.slice p5p p5n p5c]] V4 fun r4_ V5=>∃b8_,∃p9_ n9_ c9_,∃p10_ n10_ c10_,r4_=.agg #[.bool b8_,.slice p9_ n9_ c9_,.slice p10_ n10_ c10_]/\(∀V6,V5.Le V6->Acts prog 52 #[.agg #[.bool b1_,.slice p2_ n2_ c2_,.bool b3_,.slice p4_ n4_ c4_,.bool b5_,.slice p6_ n6_ c6_],.agg #[.bool q0,.slice q1p q1n q1c,.slice q2p q2n q2c,.bool q3,.slice q4p q4n q4c,.slice q5p q5n q5c]] V6 fun r6_ V7=>∃b11_,∃p12_ n12_ c12_,∃p13_ n13_ c13_,r6_=.agg #[.bool b11_,.slice p12_ n12_ c12_,.slice p13_ n13_ c13_]/\(∀V8,V7.Le V8->R (.tuple #[.agg #[.bool b1_,.slice p2_ n2_ c2_,.bool b3_,.slice p4_ n4_ c4_,.bool b5_,.slice p6_ n6_ c6_,.bool b8_,.slice p9_ n9_ c9_,.slice p10_ n10_ c10_,.bool b11_,.slice p12_ n12_ c12_,.slice p13_ n13_ c13_,.bool false,.bool false],.bool true]) V8))))))) :
  Acts prog 11 #[.agg #[.bool p0,.slice p1p p1n p1c,.slice p2p p2n p2c,.bool p3,.slice p4p p4n p4c,.slice p5p p5n p5c],.agg #[.bool q0,.slice q1p q1n q1c,.slice q2p q2n q2c,.bool q3,.slice q4p q4n q4c,.slice q5p q5n q5c]] V R:=
 fn_does (LF:=LF0) (RF:=[1000007]) (β0:=(fun _=>0)) tab_ok mixed [] [] func11 (by kernel_rfl)
  [(0,.agg [.v (.bool p0),.v (.slice p1p p1n p1c),.v (.slice p2p p2n p2c),.v (.bool p3),.v (.slice p4p p4n p4c),.v (.slice p5p p5n p5c)]),(1,.agg [.v (.bool q0),.v (.slice q1p q1n q1c),.v (.slice q2p q2n q2c),.v (.bool q3),.v (.slice q4p q4n q4c),.v (.slice q5p q5n q5c)])]
  [] (by kernel_rfl) trivial h (by kernel_rfl)
end Go.Proofs.Tryz
/- Contracts of the reference's num: Over; ref04's q. -/
namespace Go.Proofs.Tryz
open Go.Eng Go.Big
theorem c_num_Over {V:View} {v w:Value} {x y:Rat} (hx:RQ V v x) (hy:RQ V w y) (hy0:y.num≠0) {k m:Nat} (hk:Sz k x) (hm:Sz m y) (hkm:k + m < 274877906944) :
  Acts prog 111 #[v,w] V fun r V'=>RQ V' r (x * y⁻¹):=by
 obtain ⟨p,n,c,p',n',c',rfl,hx1,hx2⟩:=hx
 obtain ⟨q,i,e,q',i',e',rfl,hy1,hy2⟩:=hy
 have hmi:=sz_inv hm
 have q1:=digs_len_bits hk.1
 have q2:=digs_len_bits hk.2
 have q3:=digs_len_bits hm.1
 have q4:=digs_len_bits hmi.1
 have iv:(y⁻¹).num=(if decide (y.num < 0)=true then -((y.den:Nat):Int) else ((y.den:Nat):Int))/\(y⁻¹).den=y.num.natAbs:=by
  rcases Int.lt_or_gt_of_ne hy0 with h | h
  ·rw [if_pos (decide_eq_true h)]; exact inv_neg h
  ·rw [if_neg (fun hh=>by have:=of_decide_eq_true hh; omega)]; exact inv_pos h
 have hxy:x * y⁻¹=mkRat (x.num * (y⁻¹).num) (x.den * (y⁻¹).den):=Rat.mul_def' x y⁻¹
 have b1:(x.num * (y⁻¹).num).natAbs < 2 ^ (k + m):=by rw [Int.natAbs_mul]; exact pow_mul_lt hk.1 hmi.1
 have b2:x.den * (y⁻¹).den < 2 ^ (k + m):=pow_mul_lt hk.2 hmi.2
 refine vc_num_Over _ p n c p' n' c' _ q i e q' i' e' V _ fun V1 l1=>(c_num_Den y _ (hy2.le l1)).mono ?_
 rintro r V2 l2 ⟨p1,n1,c1,rfl,g1⟩
 refine ⟨_,_,_,rfl,fun V3 l3=>(c_num_Make _ (g1.le l3)).mono ?_⟩
 rw [← iv.1]
 rintro r V4 l4 ⟨p4,n4,c4,rfl,g4⟩
 refine ⟨_,_,_,_,rfl,fun V5 l5=>(c_num_Mul x.num (y⁻¹).num (hx1.le (l1.trans (l2.trans (l3.trans (l4.trans l5))))) (g4.le l5) (by omega)).mono ?_⟩
 rintro r V6 l6 ⟨p6,n6,c6,rfl,g6⟩
 have l06:=l1.trans (l2.trans (l3.trans (l4.trans (l5.trans l6))))
 refine ⟨_,_,_,_,rfl,fun V7 l7=>(c_num_Den x _ (hx2.le (l06.trans l7))).mono ?_⟩
 rintro r V8 l8 ⟨p8,n8,c8,rfl,g8⟩
 refine ⟨_,_,_,rfl,fun V9 l9=>(c_num_Product (g8.le l9) (hy1.le (l06.trans (l7.trans (l8.trans l9)))) (by omega)).mono ?_⟩
 rintro r V10 l10 ⟨p10,n10,c10,rfl,g10⟩
 rw [val_digs,val_digs,← iv.2] at g10
 refine ⟨_,_,_,rfl,fun V11 l11=>(c_num_Frac _ (g6.le (l7.trans (l8.trans (l9.trans (l10.trans l11))))) (g10.le l11) (Nat.le_trans (digs_len_bits b1) (by omega)) (Nat.le_trans (digs_len_bits b2) (by omega)) (Nat.mul_ne_zero x.den_nz (y⁻¹).den_nz)).mono ?_⟩
 rw [hxy]
 rintro r V22 l22 ⟨p21,n21,c21,p22,n22,c22,rfl,g21,g22⟩
 exact ⟨_,_,_,_,_,_,_,rfl,fun V23 l23=>⟨_,_,_,_,_,_,rfl,g21.le l23,g22.le l23⟩⟩
theorem c_ref04_q {V:View} (z:Int) {p:OA} {n c:Nat} (h:RD V p n c (digs z.natAbs)) :
  Acts prog 99 #[.agg #[.bool (decide (z < 0)),.slice p n c]] V fun r V'=>RQ V' r (z:Rat):=
 vc_ref04_q _ p n c V _ fun V1 l1=>rq_of (z:=z) (d:=1) rfl rfl (h.le l1) RD.nil rfl
end Go.Proofs.Tryz
/- Contracts of the reference 04: Through. -/
namespace Go.Proofs.Tryz
open Go.Eng Go.Big
theorem RQ.ofNat {V:View} {p:OA} {n c x:Nat} (h:RN V p n c x) {b:Bool} (hb:b=decide ((x:Int) < 0)):RQ V (.agg #[.bool b,.slice p n c,.slice none 0 0]) ((x:Int):Rat):=
 rq_of (z:=(x:Int)) (d:=1) rfl rfl h RD.nil hb
theorem RQ.int {V:View} {q:Rat} {b:Bool} {p:OA} {n c:Nat} {p':OA} {n' c':Nat} (h:RQ V (.agg #[.bool b,.slice p n c,.slice p' n' c']) q):RI V (.agg #[.bool b,.slice p n c]) q.num:=by
 obtain ⟨p1,n1,c1,p2,n2,c2,e,h1,h2⟩:=h
 cases e
 exact ⟨_,_,_,rfl,h1⟩
theorem RQ.den {V:View} {q:Rat} {b:Bool} {p:OA} {n c:Nat} {p':OA} {n' c':Nat} (h:RQ V (.agg #[.bool b,.slice p n c,.slice p' n' c']) q):RD V p' n' c' (dend q.den):=by
 obtain ⟨p1,n1,c1,p2,n2,c2,e,h1,h2⟩:=h
 cases e
 exact h2
/-- The coefficients that Through hands to MakeL. -/
def thr (px py qx qy:Rat):Rat × Rat × Rat:=
 let a:=-(qy - py); let b:=qx - px; let c:=-(a * px + b * py)
 let f:Rat:=(((a.den * b.den * c.den:Nat):Int):Rat)
 (a * f,b * f,c * f)
theorem sz_nat {n k:Nat} (h:n < 2 ^ k) (hk:0 < k):Sz k (((n:Nat):Int):Rat):=by
 refine ⟨?_,?_⟩
 ·show ((n:Nat):Int).natAbs < _
  simpa using h
 ·show 1 < 2 ^ k
  exact Nat.one_lt_two_pow (by omega)
theorem c_ref04_Through {V:View} {u w:Value} {px py qx qy:Rat} (hp:RP V u px py) (hq:RP V w qx qy) {k:Nat} (s1:Sz k px) (s2:Sz k py) (s3:Sz k qx) (s4:Sz k qy) (hk1:1<=k) (hk:64 * k + 64 < 274877906944) :
  Acts prog 51 #[u,w] V fun r V'=>((thr px py qx qy).1.num=0/\(thr px py qx qy).2.1.num=0->∃l,r=.tuple #[l,.bool false]/\RL V' l 0 0 0) /\
   (¬ ((thr px py qx qy).1.num=0/\(thr px py qx qy).2.1.num=0)->∃l,r=.tuple #[l,.bool true] /\
    RL V' l ((thr px py qx qy).1.num / (gcd3 (thr px py qx qy).1.num (thr px py qx qy).2.1.num (thr px py qx qy).2.2.num:Int)) ((thr px py qx qy).2.1.num / (gcd3 (thr px py qx qy).1.num (thr px py qx qy).2.1.num (thr px py qx qy).2.2.num:Int)) ((thr px py qx qy).2.2.num / (gcd3 (thr px py qx qy).1.num (thr px py qx qy).2.1.num (thr px py qx qy).2.2.num:Int))):=by
 have hp0:=hp
 have hq0:=hq
 obtain ⟨p1,n1,c1,p2,n2,c2,p3,n3,c3,p4,n4,c4,rfl,hp1,hp2⟩:=hp
 obtain ⟨q1,m1,e1,q2,m2,e2,q3,m3,e3,q4,m4,e4,rfl,-,-⟩:=hq
 refine vc_ref04_Through _ p1 n1 c1 p2 n2 c2 _ p3 n3 c3 p4 n4 c4 _ q1 m1 e1 q2 m2 e2 _ q3 m3 e3 q4 m4 e4 V _ fun V1 l1=>(c_ref04_Sub (hq0.le l1) (hp0.le l1) s3 s4 s1 s2 hk1 (by omega)).mono ?_
 rintro r V2 l2 ⟨a1,a2,a3,a4,a5,a6,a7,a8,a9,a10,a11,a12,rfl,hb,hd⟩
 have tb:Sz (k + k + 1) (qx - px):=s3.sub s1
 have td:Sz (k + k + 1) (qy - py):=s4.sub s2
 have l02:=l1.trans l2
 refine ⟨_,_,_,_,_,_,_,_,_,_,_,_,_,_,rfl,fun V3 l3=>(c_num_Opp (qy - py) (by obtain ⟨_,_,_,_,_,_,e,h1,h2⟩:=hd.le l3; cases e; exact h1) (RQ.den (hd.le l3))).mono ?_⟩
 rintro r V4 l4 ha
 obtain ⟨b1,b2,b3,b4,b5,b6,rfl⟩:=ha.shape
 have ta:=td.neg
 have hthr:thr px py qx qy=(-(qy - py) * (((((-(qy - py)).den * (qx - px).den * (-(-(qy - py) * px + (qx - px) * py)).den:Nat):Int):Rat)),(qx - px) * (((((-(qy - py)).den * (qx - px).den * (-(-(qy - py) * px + (qx - px) * py)).den:Nat):Int):Rat)),(-(-(qy - py) * px + (qx - px) * py)) * (((((-(qy - py)).den * (qx - px).den * (-(-(qy - py) * px + (qx - px) * py)).den:Nat):Int):Rat))):=rfl
 rw [hthr]
 generalize -(qy - py)=A at *
 generalize qx - px=B at *
 replace hb:=hb.le (l3.trans l4)
 replace hp1:=hp1.le (l02.trans (l3.trans l4))
 replace hp2:=hp2.le (l02.trans (l3.trans l4))
 refine ⟨_,_,_,_,_,_,_,rfl,fun V5 l5=>(c_num_Times (ha.le l5) (hp1.le l5) ta s1 (by omega)).mono ?_⟩
 rintro r V6 l6 g6
 obtain ⟨d1,d2,d3,d4,d5,d6,rfl⟩:=g6.shape
 refine ⟨_,_,_,_,_,_,_,rfl,fun V7 l7=>(c_num_Times (hb.le (l5.trans (l6.trans l7))) (hp2.le (l5.trans (l6.trans l7))) tb s2 (by omega)).mono ?_⟩
 rintro r V8 l8 g8
 obtain ⟨f1,f2,f3,f4,f5,f6,rfl⟩:=g8.shape
 refine ⟨_,_,_,_,_,_,_,rfl,fun V9 l9=>(c_num_Plus (g6.le (l7.trans (l8.trans l9))) (g8.le l9) (ta.mul s1) (tb.mul s2) (by omega)).mono ?_⟩
 rintro r V10 l10 g10
 have tc:=((ta.mul s1).add (tb.mul s2)).neg
 obtain ⟨i1,i2,i3,i4,i5,i6,rfl⟩:=g10.shape
 refine ⟨_,_,_,_,_,_,_,rfl,fun V11 l11=>(c_num_Opp (A * px + B * py) (by obtain ⟨_,_,_,_,_,_,e,h1,h2⟩:=g10.le l11; cases e; exact h1) (RQ.den (g10.le l11))).mono ?_⟩
 rintro r V12 l12 hc
 generalize -(A * px + B * py)=C at *
 obtain ⟨j1,j2,j3,j4,j5,j6,rfl⟩:=hc.shape
 have l012:=l5.trans (l6.trans (l7.trans (l8.trans (l9.trans (l10.trans (l11.trans l12))))))
 replace ha:=ha.le l012
 replace hb:=hb.le l012
 refine ⟨_,_,_,_,_,_,_,rfl,fun V13 l13=>(c_num_Den A _ (RQ.den (ha.le l13))).mono ?_⟩
 rintro r V14 l14 ⟨k1,k2,k3,rfl,g14⟩
 refine ⟨_,_,_,rfl,fun V15 l15=>(c_num_Den B _ (RQ.den (hb.le (l13.trans (l14.trans l15))))).mono ?_⟩
 rintro r V16 l16 ⟨k4,k5,k6,rfl,g16⟩
 obtain ⟨-,da,-⟩:=den_one_len ta
 obtain ⟨-,db,-⟩:=den_one_len tb
 obtain ⟨-,dc,-⟩:=den_one_len tc
 refine ⟨_,_,_,rfl,fun V17 l17=>(c_num_Product (g14.le (l15.trans (l16.trans l17))) (g16.le l17) (by omega)).mono ?_⟩
 rintro r V18 l18 ⟨k7,k8,k9,rfl,g18⟩
 rw [val_digs,val_digs] at g18
 refine ⟨_,_,_,rfl,fun V19 l19=>(c_num_Den C _ (RQ.den (hc.le (l13.trans (l14.trans (l15.trans (l16.trans (l17.trans (l18.trans l19))))))))).mono ?_⟩
 rintro r V20 l20 ⟨k10,k11,k12,rfl,g20⟩
 have dab:=digs_mul_len (a:=A.den) (b:=B.den)
 refine ⟨_,_,_,rfl,fun V21 l21=>(c_num_Product (g18.le (l19.trans (l20.trans l21))) (g20.le l21) (by omega)).mono ?_⟩
 rintro r V22 l22 ⟨k13,k14,k15,rfl,g22⟩
 rw [val_digs,val_digs] at g22
 have tf:Sz (k + k + 1 + (k + k + 1) + (k + k + 1 + k + 1 + (k + k + 1 + k + 1) + 1)) (((A.den * B.den * C.den:Nat):Int):Rat):=sz_nat (pow_mul_lt (pow_mul_lt ta.2 tb.2) tc.2) (by omega)
 generalize A.den * B.den * C.den=M at *
 refine ⟨_,_,_,rfl,fun V23 l23=>(c_num_pos (g22.le l23)).mono ?_⟩
 rintro r V24 l24 ⟨k16,k17,k18,rfl,g24⟩
 have hf:=RQ.ofNat g24 rfl
 have l024:=l13.trans (l14.trans (l15.trans (l16.trans (l17.trans (l18.trans (l19.trans (l20.trans (l21.trans (l22.trans (l23.trans l24))))))))))
 refine ⟨_,_,_,_,rfl,fun V25 l25=>(c_num_Times (ha.le (l024.trans l25)) (hf.le l25) ta tf (by omega)).mono ?_⟩
 rintro r V26 l26 g26
 obtain ⟨o1,o2,o3,o4,o5,o6,rfl⟩:=g26.shape
 refine ⟨_,_,_,_,_,_,_,rfl,fun V27 l27=>(c_num_Times (hb.le (l024.trans (l25.trans (l26.trans l27)))) (hf.le (l25.trans (l26.trans l27))) tb tf (by omega)).mono ?_⟩
 rintro r V28 l28 g28
 obtain ⟨o7,o8,o9,o10,o11,o12,rfl⟩:=g28.shape
 refine ⟨_,_,_,_,_,_,_,rfl,fun V29 l29=>(c_num_Times (hc.le (l024.trans (l25.trans (l26.trans (l27.trans (l28.trans l29)))))) (hf.le (l25.trans (l26.trans (l27.trans (l28.trans l29))))) tc tf (by omega)).mono ?_⟩
 rintro r V30 l30 g30
 obtain ⟨t1,t2,t3,t4,t5,t6,rfl⟩:=g30.shape
 refine ⟨_,_,_,_,_,_,_,rfl,fun V31 l31=>(c_ref04_MakeL (RQ.int (g26.le (l27.trans (l28.trans (l29.trans (l30.trans l31)))))) (RQ.int (g28.le (l29.trans (l30.trans l31)))) (RQ.int (g30.le l31)) (Nat.le_trans (den_one_len (ta.mul tf)).1 (by omega)) (Nat.le_trans (den_one_len (tb.mul tf)).1 (by omega)) (Nat.le_trans (den_one_len (tc.mul tf)).1 (by omega))).mono ?_⟩
 rintro r V32 l32 ⟨z1,z2⟩
 by_cases hz:(A * ((M:Int):Rat)).num=0/\(B * ((M:Int):Rat)).num=0
 ·obtain ⟨l,rfl,y1,y2,y3,y4,y5,y6,y7,y8,y9,rfl,w1,w2,w3⟩:=z1 hz
  exact ⟨_,_,_,_,_,_,_,_,_,_,_,_,_,rfl,fun V33 l33=>⟨fun _=>⟨_,rfl,_,_,_,_,_,_,_,_,_,rfl,w1.le l33,w2.le l33,w3.le l33⟩,fun h=>absurd hz h⟩⟩
 ·obtain ⟨l,rfl,y1,y2,y3,y4,y5,y6,y7,y8,y9,rfl,w1,w2,w3⟩:=z2 hz
  exact ⟨_,_,_,_,_,_,_,_,_,_,_,_,_,rfl,fun V33 l33=>⟨fun h=>absurd h hz,fun _=>⟨_,rfl,_,_,_,_,_,_,_,_,_,rfl,w1.le l33,w2.le l33,w3.le l33⟩⟩⟩
end Go.Proofs.Tryz
/- Contracts of points and lines of the reference (printed by straight_ref.py). -/
namespace Go.Proofs.Tryz
open Go.Eng Go.Big
theorem c_num_Opp' {V:View} {v:Value} {q:Rat} (h:RQ V v q) {k:Nat} (_s:Sz k q) (_hk:k<=1099511627776):Acts prog 72 #[v] V fun r V'=>RQ V' r (-q):=by
 obtain ⟨p,n,c,p',n',c',rfl,h1,h2⟩:=h
 exact c_num_Opp q h1 h2
theorem c_ref04_q' {V:View} {z:Int} {p:OA} {n c:Nat} (h:RD V p n c (digs z.natAbs)) {k:Nat} (_s:Sz k (z:Rat)) (_hk:k<=1099511627776) :
  Acts prog 99 #[.agg #[.bool (decide (z < 0)),.slice p n c]] V fun r V'=>RQ V' r (z:Rat):=c_ref04_q z h
theorem c_ref04_Dir {V:View} {l:Value} {l_0 l_1 l_2:Int} (hl:RL V l l_0 l_1 l_2) {k:Nat} (sl_0:Sz k ((l_0:Int):Rat)) (sl_1:Sz k ((l_1:Int):Rat)) (sl_2:Sz k ((l_2:Int):Rat)) (hk:1 * k + 1 < 274877906944) :
  Acts prog 46 #[l] V fun r V'=>RP V' r (((l_1:Int):Rat)) (-(((l_0:Int):Rat))):=by
 have hl0:=hl
 obtain ⟨l0,l1,l2,l3,l4,l5,l6,l7,l8,rfl,hl_0,hl_1,hl_2⟩:=hl
 refine vc_ref04_Dir _ l0 l1 l2 _ l3 l4 l5 _ l6 l7 l8 V _ fun V1 l1=>(c_ref04_q' (hl_1.le (l1)) sl_1 (by omega)).mono ?_
 rintro r V2 l2 g1
 have g10:=g1
 obtain ⟨w0a,w0b,w0c,w0d,w0e,w0f,rfl⟩:=g1.shape
 have z1_0:Sz (1 * k + 0) (((l_1:Int):Rat)):=Sz.mono (sl_1) (by omega)
 refine ⟨_,_,_,_,_,_,_,rfl,fun V3 l3=>(c_ref04_q' (hl_0.le (l1.trans (l2.trans (l3)))) sl_0 (by omega)).mono ?_⟩
 rintro r V4 l4 g2
 have g20:=g2
 obtain ⟨w1a,w1b,w1c,w1d,w1e,w1f,rfl⟩:=g2.shape
 have z2_0:Sz (1 * k + 0) (((l_0:Int):Rat)):=Sz.mono (sl_0) (by omega)
 refine ⟨_,_,_,_,_,_,_,rfl,fun V5 l5=>(c_num_Opp' (g20.le (l5)) z2_0 (by omega)).mono ?_⟩
 rintro r V6 l6 g3
 have g30:=g3
 obtain ⟨w2a,w2b,w2c,w2d,w2e,w2f,rfl⟩:=g3.shape
 have z3_0:Sz (1 * k + 0) (-(((l_0:Int):Rat))):=Sz.mono (Sz.neg z2_0) (by omega)
 exact ⟨_,_,_,_,_,_,_,rfl,fun V7 l7=>⟨_,_,_,_,_,_,_,_,_,_,_,_,rfl,(g10.le (l3.trans (l4.trans (l5.trans (l6.trans (l7)))))),(g30.le (l7))⟩⟩
theorem z_ref04_Dir_0 {l_0:Int} {l_1:Int} {l_2:Int} {k:Nat} (sl_0:Sz k ((l_0:Int):Rat)) (sl_1:Sz k ((l_1:Int):Rat)) (sl_2:Sz k ((l_2:Int):Rat)):Sz (1 * k + 0) (((l_1:Int):Rat)):=by
 have z1_0:Sz (1 * k + 0) (((l_1:Int):Rat)):=Sz.mono (sl_1) (by omega)
 have z2_0:Sz (1 * k + 0) (((l_0:Int):Rat)):=Sz.mono (sl_0) (by omega)
 have z3_0:Sz (1 * k + 0) (-(((l_0:Int):Rat))):=Sz.mono (Sz.neg z2_0) (by omega)
 exact Sz.mono z1_0 (by omega)
theorem z_ref04_Dir_1 {l_0:Int} {l_1:Int} {l_2:Int} {k:Nat} (sl_0:Sz k ((l_0:Int):Rat)) (sl_1:Sz k ((l_1:Int):Rat)) (sl_2:Sz k ((l_2:Int):Rat)):Sz (1 * k + 0) (-(((l_0:Int):Rat))):=by
 have z1_0:Sz (1 * k + 0) (((l_1:Int):Rat)):=Sz.mono (sl_1) (by omega)
 have z2_0:Sz (1 * k + 0) (((l_0:Int):Rat)):=Sz.mono (sl_0) (by omega)
 have z3_0:Sz (1 * k + 0) (-(((l_0:Int):Rat))):=Sz.mono (Sz.neg z2_0) (by omega)
 exact Sz.mono z3_0 (by omega)
theorem c_ref04_Dot {V:View} {p:Value} {p_0 p_1:Rat} {q:Value} {q_0 q_1:Rat} (hp:RP V p p_0 p_1) (hq:RP V q q_0 q_1) {k:Nat} (sp_0:Sz k p_0) (sp_1:Sz k p_1) (sq_0:Sz k q_0) (sq_1:Sz k q_1) (hk:4 * k + 3 < 274877906944) :
  Acts prog 112 #[p,q] V fun r V'=>RQ V' r (((p_0) * (q_0)) + ((p_1) * (q_1))):=by
 have hp0:=hp
 obtain ⟨p0,p1,p2,p3,p4,p5,p6,p7,p8,p9,p10,p11,rfl,hp_0,hp_1⟩:=hp
 have hq0:=hq
 obtain ⟨q0,q1,q2,q3,q4,q5,q6,q7,q8,q9,q10,q11,rfl,hq_0,hq_1⟩:=hq
 refine vc_ref04_Dot _ p0 p1 p2 p3 p4 p5 _ p6 p7 p8 p9 p10 p11 _ q0 q1 q2 q3 q4 q5 _ q6 q7 q8 q9 q10 q11 V _ fun V1 l1=>(c_num_Times (hp_0.le (l1)) (hq_0.le (l1)) sp_0 sq_0 (by omega)).mono ?_
 rintro r V2 l2 g1
 have g10:=g1
 obtain ⟨w0a,w0b,w0c,w0d,w0e,w0f,rfl⟩:=g1.shape
 have z1_0:Sz (2 * k + 1) ((p_0) * (q_0)):=Sz.mono (Sz.mul sp_0 sq_0) (by omega)
 refine ⟨_,_,_,_,_,_,_,rfl,fun V3 l3=>(c_num_Times (hp_1.le (l1.trans (l2.trans (l3)))) (hq_1.le (l1.trans (l2.trans (l3)))) sp_1 sq_1 (by omega)).mono ?_⟩
 rintro r V4 l4 g2
 have g20:=g2
 obtain ⟨w1a,w1b,w1c,w1d,w1e,w1f,rfl⟩:=g2.shape
 have z2_0:Sz (2 * k + 1) ((p_1) * (q_1)):=Sz.mono (Sz.mul sp_1 sq_1) (by omega)
 refine ⟨_,_,_,_,_,_,_,rfl,fun V5 l5=>(c_num_Plus (g10.le (l3.trans (l4.trans (l5)))) (g20.le (l5)) z1_0 z2_0 (by omega)).mono ?_⟩
 rintro r V6 l6 g3
 have g30:=g3
 obtain ⟨w2a,w2b,w2c,w2d,w2e,w2f,rfl⟩:=g3.shape
 have z3_0:Sz (4 * k + 3) (((p_0) * (q_0)) + ((p_1) * (q_1))):=Sz.mono (Sz.add z1_0 z2_0) (by omega)
 exact ⟨_,_,_,_,_,_,_,rfl,fun V7 l7=>(g30.le (l7))⟩
theorem z_ref04_Dot_0 {p_0:Rat} {p_1:Rat} {q_0:Rat} {q_1:Rat} {k:Nat} (sp_0:Sz k p_0) (sp_1:Sz k p_1) (sq_0:Sz k q_0) (sq_1:Sz k q_1):Sz (4 * k + 3) (((p_0) * (q_0)) + ((p_1) * (q_1))):=by
 have z1_0:Sz (2 * k + 1) ((p_0) * (q_0)):=Sz.mono (Sz.mul sp_0 sq_0) (by omega)
 have z2_0:Sz (2 * k + 1) ((p_1) * (q_1)):=Sz.mono (Sz.mul sp_1 sq_1) (by omega)
 have z3_0:Sz (4 * k + 3) (((p_0) * (q_0)) + ((p_1) * (q_1))):=Sz.mono (Sz.add z1_0 z2_0) (by omega)
 exact Sz.mono z3_0 (by omega)
theorem c_ref04_Value {V:View} {l:Value} {l_0 l_1 l_2:Int} {p:Value} {p_0 p_1:Rat} (hl:RL V l l_0 l_1 l_2) (hp:RP V p p_0 p_1) {k:Nat} (sl_0:Sz k ((l_0:Int):Rat)) (sl_1:Sz k ((l_1:Int):Rat)) (sl_2:Sz k ((l_2:Int):Rat)) (sp_0:Sz k p_0) (sp_1:Sz k p_1) (hk:5 * k + 4 < 274877906944) :
  Acts prog 94 #[l,p] V fun r V'=>RQ V' r ((((((l_0:Int):Rat)) * (p_0)) + ((((l_1:Int):Rat)) * (p_1))) + (((l_2:Int):Rat))):=by
 have hl0:=hl
 obtain ⟨l0,l1,l2,l3,l4,l5,l6,l7,l8,rfl,hl_0,hl_1,hl_2⟩:=hl
 have hp0:=hp
 obtain ⟨p0,p1,p2,p3,p4,p5,p6,p7,p8,p9,p10,p11,rfl,hp_0,hp_1⟩:=hp
 refine vc_ref04_Value _ l0 l1 l2 _ l3 l4 l5 _ l6 l7 l8 _ p0 p1 p2 p3 p4 p5 _ p6 p7 p8 p9 p10 p11 V _ fun V1 l1=>(c_ref04_q' (hl_0.le (l1)) sl_0 (by omega)).mono ?_
 rintro r V2 l2 g1
 have g10:=g1
 obtain ⟨w0a,w0b,w0c,w0d,w0e,w0f,rfl⟩:=g1.shape
 have z1_0:Sz (1 * k + 0) (((l_0:Int):Rat)):=Sz.mono (sl_0) (by omega)
 refine ⟨_,_,_,_,_,_,_,rfl,fun V3 l3=>(c_num_Times (g10.le (l3)) (hp_0.le (l1.trans (l2.trans (l3)))) z1_0 sp_0 (by omega)).mono ?_⟩
 rintro r V4 l4 g2
 have g20:=g2
 obtain ⟨w1a,w1b,w1c,w1d,w1e,w1f,rfl⟩:=g2.shape
 have z2_0:Sz (2 * k + 1) ((((l_0:Int):Rat)) * (p_0)):=Sz.mono (Sz.mul z1_0 sp_0) (by omega)
 refine ⟨_,_,_,_,_,_,_,rfl,fun V5 l5=>(c_ref04_q' (hl_1.le (l1.trans (l2.trans (l3.trans (l4.trans (l5)))))) sl_1 (by omega)).mono ?_⟩
 rintro r V6 l6 g3
 have g30:=g3
 obtain ⟨w2a,w2b,w2c,w2d,w2e,w2f,rfl⟩:=g3.shape
 have z3_0:Sz (1 * k + 0) (((l_1:Int):Rat)):=Sz.mono (sl_1) (by omega)
 refine ⟨_,_,_,_,_,_,_,rfl,fun V7 l7=>(c_num_Times (g30.le (l7)) (hp_1.le (l1.trans (l2.trans (l3.trans (l4.trans (l5.trans (l6.trans (l7)))))))) z3_0 sp_1 (by omega)).mono ?_⟩
 rintro r V8 l8 g4
 have g40:=g4
 obtain ⟨w3a,w3b,w3c,w3d,w3e,w3f,rfl⟩:=g4.shape
 have z4_0:Sz (2 * k + 1) ((((l_1:Int):Rat)) * (p_1)):=Sz.mono (Sz.mul z3_0 sp_1) (by omega)
 refine ⟨_,_,_,_,_,_,_,rfl,fun V9 l9=>(c_num_Plus (g20.le (l5.trans (l6.trans (l7.trans (l8.trans (l9)))))) (g40.le (l9)) z2_0 z4_0 (by omega)).mono ?_⟩
 rintro r V10 l10 g5
 have g50:=g5
 obtain ⟨w4a,w4b,w4c,w4d,w4e,w4f,rfl⟩:=g5.shape
 have z5_0:Sz (4 * k + 3) (((((l_0:Int):Rat)) * (p_0)) + ((((l_1:Int):Rat)) * (p_1))):=Sz.mono (Sz.add z2_0 z4_0) (by omega)
 refine ⟨_,_,_,_,_,_,_,rfl,fun V11 l11=>(c_ref04_q' (hl_2.le (l1.trans (l2.trans (l3.trans (l4.trans (l5.trans (l6.trans (l7.trans (l8.trans (l9.trans (l10.trans (l11)))))))))))) sl_2 (by omega)).mono ?_⟩
 rintro r V12 l12 g6
 have g60:=g6
 obtain ⟨w5a,w5b,w5c,w5d,w5e,w5f,rfl⟩:=g6.shape
 have z6_0:Sz (1 * k + 0) (((l_2:Int):Rat)):=Sz.mono (sl_2) (by omega)
 refine ⟨_,_,_,_,_,_,_,rfl,fun V13 l13=>(c_num_Plus (g50.le (l11.trans (l12.trans (l13)))) (g60.le (l13)) z5_0 z6_0 (by omega)).mono ?_⟩
 rintro r V14 l14 g7
 have g70:=g7
 obtain ⟨w6a,w6b,w6c,w6d,w6e,w6f,rfl⟩:=g7.shape
 have z7_0:Sz (5 * k + 4) ((((((l_0:Int):Rat)) * (p_0)) + ((((l_1:Int):Rat)) * (p_1))) + (((l_2:Int):Rat))):=Sz.mono (Sz.add z5_0 z6_0) (by omega)
 exact ⟨_,_,_,_,_,_,_,rfl,fun V15 l15=>(g70.le (l15))⟩
theorem c_ref04_Param {V:View} {l:Value} {l_0 l_1 l_2:Int} {p:Value} {p_0 p_1:Rat} (hl:RL V l l_0 l_1 l_2) (hp:RP V p p_0 p_1) (hd0:((((((l_1:Int):Rat))) * ((((l_1:Int):Rat)))) + (((-(((l_0:Int):Rat)))) * ((-(((l_0:Int):Rat)))))).num≠0) {k:Nat} (sl_0:Sz k ((l_0:Int):Rat)) (sl_1:Sz k ((l_1:Int):Rat)) (sl_2:Sz k ((l_2:Int):Rat)) (sp_0:Sz k p_0) (sp_1:Sz k p_1) (hk:8 * k + 7 < 274877906944) :
  Acts prog 52 #[l,p] V fun r V'=>RQ V' r ((((p_0) * ((((l_1:Int):Rat)))) + ((p_1) * ((-(((l_0:Int):Rat)))))) * ((((((l_1:Int):Rat))) * ((((l_1:Int):Rat)))) + (((-(((l_0:Int):Rat)))) * ((-(((l_0:Int):Rat))))))⁻¹):=by
 have hl0:=hl
 obtain ⟨l0,l1,l2,l3,l4,l5,l6,l7,l8,rfl,hl_0,hl_1,hl_2⟩:=hl
 have hp0:=hp
 obtain ⟨p0,p1,p2,p3,p4,p5,p6,p7,p8,p9,p10,p11,rfl,hp_0,hp_1⟩:=hp
 refine vc_ref04_Param _ l0 l1 l2 _ l3 l4 l5 _ l6 l7 l8 _ p0 p1 p2 p3 p4 p5 _ p6 p7 p8 p9 p10 p11 V _ fun V1 l1=>(c_ref04_Dir (hl0.le (l1)) (Sz.mono sl_0 (by omega):Sz (1 * k + 0) _) (Sz.mono sl_1 (by omega):Sz (1 * k + 0) _) (Sz.mono sl_2 (by omega):Sz (1 * k + 0) _) (by omega)).mono ?_
 rintro r V2 l2 g1
 have g10:=g1
 obtain ⟨w0_0,w0_1,w0_2,w0_3,w0_4,w0_5,w0_6,w0_7,w0_8,w0_9,w0_10,w0_11,rfl,g1p0,g1p1⟩:=g1
 have z1_0:Sz (1 * k + 0) (((l_1:Int):Rat)):=Sz.mono ((z_ref04_Dir_0 (Sz.mono sl_0 (by omega):Sz (1 * k + 0) _) (Sz.mono sl_1 (by omega):Sz (1 * k + 0) _) (Sz.mono sl_2 (by omega):Sz (1 * k + 0) _))) (by omega)
 have z1_1:Sz (1 * k + 0) (-(((l_0:Int):Rat))):=Sz.mono ((z_ref04_Dir_1 (Sz.mono sl_0 (by omega):Sz (1 * k + 0) _) (Sz.mono sl_1 (by omega):Sz (1 * k + 0) _) (Sz.mono sl_2 (by omega):Sz (1 * k + 0) _))) (by omega)
 refine ⟨_,_,_,_,_,_,_,_,_,_,_,_,_,_,rfl,fun V3 l3=>(c_ref04_Dot (hp0.le (l1.trans (l2.trans (l3)))) (g10.le (l3)) (Sz.mono sp_0 (by omega):Sz (1 * k + 0) _) (Sz.mono sp_1 (by omega):Sz (1 * k + 0) _) (Sz.mono z1_0 (by omega):Sz (1 * k + 0) _) (Sz.mono z1_1 (by omega):Sz (1 * k + 0) _) (by omega)).mono ?_⟩
 rintro r V4 l4 g2
 have g20:=g2
 obtain ⟨w1a,w1b,w1c,w1d,w1e,w1f,rfl⟩:=g2.shape
 have z2_0:Sz (4 * k + 3) (((p_0) * ((((l_1:Int):Rat)))) + ((p_1) * ((-(((l_0:Int):Rat)))))):=Sz.mono ((z_ref04_Dot_0 (Sz.mono sp_0 (by omega):Sz (1 * k + 0) _) (Sz.mono sp_1 (by omega):Sz (1 * k + 0) _) (Sz.mono z1_0 (by omega):Sz (1 * k + 0) _) (Sz.mono z1_1 (by omega):Sz (1 * k + 0) _))) (by omega)
 refine ⟨_,_,_,_,_,_,_,rfl,fun V5 l5=>(c_ref04_Dot (g10.le (l3.trans (l4.trans (l5)))) (g10.le (l3.trans (l4.trans (l5)))) (Sz.mono z1_0 (by omega):Sz (1 * k + 0) _) (Sz.mono z1_1 (by omega):Sz (1 * k + 0) _) (Sz.mono z1_0 (by omega):Sz (1 * k + 0) _) (Sz.mono z1_1 (by omega):Sz (1 * k + 0) _) (by omega)).mono ?_⟩
 rintro r V6 l6 g3
 have g30:=g3
 obtain ⟨w2a,w2b,w2c,w2d,w2e,w2f,rfl⟩:=g3.shape
 have z3_0:Sz (4 * k + 3) ((((((l_1:Int):Rat))) * ((((l_1:Int):Rat)))) + (((-(((l_0:Int):Rat)))) * ((-(((l_0:Int):Rat)))))):=Sz.mono ((z_ref04_Dot_0 (Sz.mono z1_0 (by omega):Sz (1 * k + 0) _) (Sz.mono z1_1 (by omega):Sz (1 * k + 0) _) (Sz.mono z1_0 (by omega):Sz (1 * k + 0) _) (Sz.mono z1_1 (by omega):Sz (1 * k + 0) _))) (by omega)
 refine ⟨_,_,_,_,_,_,_,rfl,fun V7 l7=>(c_num_Over (g20.le (l5.trans (l6.trans (l7)))) (g30.le (l7)) hd0 z2_0 z3_0 (by omega)).mono ?_⟩
 rintro r V8 l8 g4
 have g40:=g4
 obtain ⟨w3a,w3b,w3c,w3d,w3e,w3f,rfl⟩:=g4.shape
 have z4_0:Sz (8 * k + 7) ((((p_0) * ((((l_1:Int):Rat)))) + ((p_1) * ((-(((l_0:Int):Rat)))))) * ((((((l_1:Int):Rat))) * ((((l_1:Int):Rat)))) + (((-(((l_0:Int):Rat)))) * ((-(((l_0:Int):Rat))))))⁻¹):=Sz.mono (Sz.mul z2_0 (sz_inv z3_0)) (by omega)
 exact ⟨_,_,_,_,_,_,_,rfl,fun V9 l9=>(g40.le (l9))⟩
theorem c_ref04_Base {V:View} {l:Value} {l_0 l_1 l_2:Int} (hl:RL V l l_0 l_1 l_2) (hd0:((((((l_1:Int):Rat))) * ((((l_1:Int):Rat)))) + (((-(((l_0:Int):Rat)))) * ((-(((l_0:Int):Rat)))))).num≠0) {k:Nat} (sl_0:Sz k ((l_0:Int):Rat)) (sl_1:Sz k ((l_1:Int):Rat)) (sl_2:Sz k ((l_2:Int):Rat)) (hk:6 * k + 5 < 274877906944) :
  Acts prog 64 #[l] V fun r V'=>RP V' r ((-((((l_2:Int):Rat)) * ((((((l_1:Int):Rat))) * ((((l_1:Int):Rat)))) + (((-(((l_0:Int):Rat)))) * ((-(((l_0:Int):Rat))))))⁻¹)) * (((l_0:Int):Rat))) ((-((((l_2:Int):Rat)) * ((((((l_1:Int):Rat))) * ((((l_1:Int):Rat)))) + (((-(((l_0:Int):Rat)))) * ((-(((l_0:Int):Rat))))))⁻¹)) * (((l_1:Int):Rat))):=by
 have hl0:=hl
 obtain ⟨l0,l1,l2,l3,l4,l5,l6,l7,l8,rfl,hl_0,hl_1,hl_2⟩:=hl
 refine vc_ref04_Base _ l0 l1 l2 _ l3 l4 l5 _ l6 l7 l8 V _ fun V1 l1=>(c_ref04_Dir (hl0.le (l1)) (Sz.mono sl_0 (by omega):Sz (1 * k + 0) _) (Sz.mono sl_1 (by omega):Sz (1 * k + 0) _) (Sz.mono sl_2 (by omega):Sz (1 * k + 0) _) (by omega)).mono ?_
 rintro r V2 l2 g1
 have g10:=g1
 obtain ⟨w0_0,w0_1,w0_2,w0_3,w0_4,w0_5,w0_6,w0_7,w0_8,w0_9,w0_10,w0_11,rfl,g1p0,g1p1⟩:=g1
 have z1_0:Sz (1 * k + 0) (((l_1:Int):Rat)):=Sz.mono ((z_ref04_Dir_0 (Sz.mono sl_0 (by omega):Sz (1 * k + 0) _) (Sz.mono sl_1 (by omega):Sz (1 * k + 0) _) (Sz.mono sl_2 (by omega):Sz (1 * k + 0) _))) (by omega)
 have z1_1:Sz (1 * k + 0) (-(((l_0:Int):Rat))):=Sz.mono ((z_ref04_Dir_1 (Sz.mono sl_0 (by omega):Sz (1 * k + 0) _) (Sz.mono sl_1 (by omega):Sz (1 * k + 0) _) (Sz.mono sl_2 (by omega):Sz (1 * k + 0) _))) (by omega)
 refine ⟨_,_,_,_,_,_,_,_,_,_,_,_,_,_,rfl,fun V3 l3=>(c_ref04_q' (hl_2.le (l1.trans (l2.trans (l3)))) sl_2 (by omega)).mono ?_⟩
 rintro r V4 l4 g2
 have g20:=g2
 obtain ⟨w1a,w1b,w1c,w1d,w1e,w1f,rfl⟩:=g2.shape
 have z2_0:Sz (1 * k + 0) (((l_2:Int):Rat)):=Sz.mono (sl_2) (by omega)
 refine ⟨_,_,_,_,_,_,_,rfl,fun V5 l5=>(c_ref04_Dot (g10.le (l3.trans (l4.trans (l5)))) (g10.le (l3.trans (l4.trans (l5)))) (Sz.mono z1_0 (by omega):Sz (1 * k + 0) _) (Sz.mono z1_1 (by omega):Sz (1 * k + 0) _) (Sz.mono z1_0 (by omega):Sz (1 * k + 0) _) (Sz.mono z1_1 (by omega):Sz (1 * k + 0) _) (by omega)).mono ?_⟩
 rintro r V6 l6 g3
 have g30:=g3
 obtain ⟨w2a,w2b,w2c,w2d,w2e,w2f,rfl⟩:=g3.shape
 have z3_0:Sz (4 * k + 3) ((((((l_1:Int):Rat))) * ((((l_1:Int):Rat)))) + (((-(((l_0:Int):Rat)))) * ((-(((l_0:Int):Rat)))))):=Sz.mono ((z_ref04_Dot_0 (Sz.mono z1_0 (by omega):Sz (1 * k + 0) _) (Sz.mono z1_1 (by omega):Sz (1 * k + 0) _) (Sz.mono z1_0 (by omega):Sz (1 * k + 0) _) (Sz.mono z1_1 (by omega):Sz (1 * k + 0) _))) (by omega)
 refine ⟨_,_,_,_,_,_,_,rfl,fun V7 l7=>(c_num_Over (g20.le (l5.trans (l6.trans (l7)))) (g30.le (l7)) hd0 z2_0 z3_0 (by omega)).mono ?_⟩
 rintro r V8 l8 g4
 have g40:=g4
 obtain ⟨w3a,w3b,w3c,w3d,w3e,w3f,rfl⟩:=g4.shape
 have z4_0:Sz (5 * k + 4) ((((l_2:Int):Rat)) * ((((((l_1:Int):Rat))) * ((((l_1:Int):Rat)))) + (((-(((l_0:Int):Rat)))) * ((-(((l_0:Int):Rat))))))⁻¹):=Sz.mono (Sz.mul z2_0 (sz_inv z3_0)) (by omega)
 refine ⟨_,_,_,_,_,_,_,rfl,fun V9 l9=>(c_num_Opp' (g40.le (l9)) z4_0 (by omega)).mono ?_⟩
 rintro r V10 l10 g5
 have g50:=g5
 obtain ⟨w4a,w4b,w4c,w4d,w4e,w4f,rfl⟩:=g5.shape
 have z5_0:Sz (5 * k + 4) (-((((l_2:Int):Rat)) * ((((((l_1:Int):Rat))) * ((((l_1:Int):Rat)))) + (((-(((l_0:Int):Rat)))) * ((-(((l_0:Int):Rat))))))⁻¹)):=Sz.mono (Sz.neg z4_0) (by omega)
 refine ⟨_,_,_,_,_,_,_,rfl,fun V11 l11=>(c_ref04_q' (hl_0.le (l1.trans (l2.trans (l3.trans (l4.trans (l5.trans (l6.trans (l7.trans (l8.trans (l9.trans (l10.trans (l11)))))))))))) sl_0 (by omega)).mono ?_⟩
 rintro r V12 l12 g6
 have g60:=g6
 obtain ⟨w5a,w5b,w5c,w5d,w5e,w5f,rfl⟩:=g6.shape
 have z6_0:Sz (1 * k + 0) (((l_0:Int):Rat)):=Sz.mono (sl_0) (by omega)
 refine ⟨_,_,_,_,_,_,_,rfl,fun V13 l13=>(c_num_Times (g50.le (l11.trans (l12.trans (l13)))) (g60.le (l13)) z5_0 z6_0 (by omega)).mono ?_⟩
 rintro r V14 l14 g7
 have g70:=g7
 obtain ⟨w6a,w6b,w6c,w6d,w6e,w6f,rfl⟩:=g7.shape
 have z7_0:Sz (6 * k + 5) ((-((((l_2:Int):Rat)) * ((((((l_1:Int):Rat))) * ((((l_1:Int):Rat)))) + (((-(((l_0:Int):Rat)))) * ((-(((l_0:Int):Rat))))))⁻¹)) * (((l_0:Int):Rat))):=Sz.mono (Sz.mul z5_0 z6_0) (by omega)
 refine ⟨_,_,_,_,_,_,_,rfl,fun V15 l15=>(c_ref04_q' (hl_1.le (l1.trans (l2.trans (l3.trans (l4.trans (l5.trans (l6.trans (l7.trans (l8.trans (l9.trans (l10.trans (l11.trans (l12.trans (l13.trans (l14.trans (l15)))))))))))))))) sl_1 (by omega)).mono ?_⟩
 rintro r V16 l16 g8
 have g80:=g8
 obtain ⟨w7a,w7b,w7c,w7d,w7e,w7f,rfl⟩:=g8.shape
 have z8_0:Sz (1 * k + 0) (((l_1:Int):Rat)):=Sz.mono (sl_1) (by omega)
 refine ⟨_,_,_,_,_,_,_,rfl,fun V17 l17=>(c_num_Times (g50.le (l11.trans (l12.trans (l13.trans (l14.trans (l15.trans (l16.trans (l17)))))))) (g80.le (l17)) z5_0 z8_0 (by omega)).mono ?_⟩
 rintro r V18 l18 g9
 have g90:=g9
 obtain ⟨w8a,w8b,w8c,w8d,w8e,w8f,rfl⟩:=g9.shape
 have z9_0:Sz (6 * k + 5) ((-((((l_2:Int):Rat)) * ((((((l_1:Int):Rat))) * ((((l_1:Int):Rat)))) + (((-(((l_0:Int):Rat)))) * ((-(((l_0:Int):Rat))))))⁻¹)) * (((l_1:Int):Rat))):=Sz.mono (Sz.mul z5_0 z8_0) (by omega)
 exact ⟨_,_,_,_,_,_,_,rfl,fun V19 l19=>⟨_,_,_,_,_,_,_,_,_,_,_,_,rfl,(g70.le (l15.trans (l16.trans (l17.trans (l18.trans (l19)))))),(g90.le (l19))⟩⟩
theorem z_ref04_Base_0 {l_0:Int} {l_1:Int} {l_2:Int} {k:Nat} (sl_0:Sz k ((l_0:Int):Rat)) (sl_1:Sz k ((l_1:Int):Rat)) (sl_2:Sz k ((l_2:Int):Rat)):Sz (6 * k + 5) ((-((((l_2:Int):Rat)) * ((((((l_1:Int):Rat))) * ((((l_1:Int):Rat)))) + (((-(((l_0:Int):Rat)))) * ((-(((l_0:Int):Rat))))))⁻¹)) * (((l_0:Int):Rat))):=by
 have z1_0:Sz (1 * k + 0) (((l_1:Int):Rat)):=Sz.mono ((z_ref04_Dir_0 (Sz.mono sl_0 (by omega):Sz (1 * k + 0) _) (Sz.mono sl_1 (by omega):Sz (1 * k + 0) _) (Sz.mono sl_2 (by omega):Sz (1 * k + 0) _))) (by omega)
 have z1_1:Sz (1 * k + 0) (-(((l_0:Int):Rat))):=Sz.mono ((z_ref04_Dir_1 (Sz.mono sl_0 (by omega):Sz (1 * k + 0) _) (Sz.mono sl_1 (by omega):Sz (1 * k + 0) _) (Sz.mono sl_2 (by omega):Sz (1 * k + 0) _))) (by omega)
 have z2_0:Sz (1 * k + 0) (((l_2:Int):Rat)):=Sz.mono (sl_2) (by omega)
 have z3_0:Sz (4 * k + 3) ((((((l_1:Int):Rat))) * ((((l_1:Int):Rat)))) + (((-(((l_0:Int):Rat)))) * ((-(((l_0:Int):Rat)))))):=Sz.mono ((z_ref04_Dot_0 (Sz.mono z1_0 (by omega):Sz (1 * k + 0) _) (Sz.mono z1_1 (by omega):Sz (1 * k + 0) _) (Sz.mono z1_0 (by omega):Sz (1 * k + 0) _) (Sz.mono z1_1 (by omega):Sz (1 * k + 0) _))) (by omega)
 have z4_0:Sz (5 * k + 4) ((((l_2:Int):Rat)) * ((((((l_1:Int):Rat))) * ((((l_1:Int):Rat)))) + (((-(((l_0:Int):Rat)))) * ((-(((l_0:Int):Rat))))))⁻¹):=Sz.mono (Sz.mul z2_0 (sz_inv z3_0)) (by omega)
 have z5_0:Sz (5 * k + 4) (-((((l_2:Int):Rat)) * ((((((l_1:Int):Rat))) * ((((l_1:Int):Rat)))) + (((-(((l_0:Int):Rat)))) * ((-(((l_0:Int):Rat))))))⁻¹)):=Sz.mono (Sz.neg z4_0) (by omega)
 have z6_0:Sz (1 * k + 0) (((l_0:Int):Rat)):=Sz.mono (sl_0) (by omega)
 have z7_0:Sz (6 * k + 5) ((-((((l_2:Int):Rat)) * ((((((l_1:Int):Rat))) * ((((l_1:Int):Rat)))) + (((-(((l_0:Int):Rat)))) * ((-(((l_0:Int):Rat))))))⁻¹)) * (((l_0:Int):Rat))):=Sz.mono (Sz.mul z5_0 z6_0) (by omega)
 have z8_0:Sz (1 * k + 0) (((l_1:Int):Rat)):=Sz.mono (sl_1) (by omega)
 have z9_0:Sz (6 * k + 5) ((-((((l_2:Int):Rat)) * ((((((l_1:Int):Rat))) * ((((l_1:Int):Rat)))) + (((-(((l_0:Int):Rat)))) * ((-(((l_0:Int):Rat))))))⁻¹)) * (((l_1:Int):Rat))):=Sz.mono (Sz.mul z5_0 z8_0) (by omega)
 exact Sz.mono z7_0 (by omega)
theorem z_ref04_Base_1 {l_0:Int} {l_1:Int} {l_2:Int} {k:Nat} (sl_0:Sz k ((l_0:Int):Rat)) (sl_1:Sz k ((l_1:Int):Rat)) (sl_2:Sz k ((l_2:Int):Rat)):Sz (6 * k + 5) ((-((((l_2:Int):Rat)) * ((((((l_1:Int):Rat))) * ((((l_1:Int):Rat)))) + (((-(((l_0:Int):Rat)))) * ((-(((l_0:Int):Rat))))))⁻¹)) * (((l_1:Int):Rat))):=by
 have z1_0:Sz (1 * k + 0) (((l_1:Int):Rat)):=Sz.mono ((z_ref04_Dir_0 (Sz.mono sl_0 (by omega):Sz (1 * k + 0) _) (Sz.mono sl_1 (by omega):Sz (1 * k + 0) _) (Sz.mono sl_2 (by omega):Sz (1 * k + 0) _))) (by omega)
 have z1_1:Sz (1 * k + 0) (-(((l_0:Int):Rat))):=Sz.mono ((z_ref04_Dir_1 (Sz.mono sl_0 (by omega):Sz (1 * k + 0) _) (Sz.mono sl_1 (by omega):Sz (1 * k + 0) _) (Sz.mono sl_2 (by omega):Sz (1 * k + 0) _))) (by omega)
 have z2_0:Sz (1 * k + 0) (((l_2:Int):Rat)):=Sz.mono (sl_2) (by omega)
 have z3_0:Sz (4 * k + 3) ((((((l_1:Int):Rat))) * ((((l_1:Int):Rat)))) + (((-(((l_0:Int):Rat)))) * ((-(((l_0:Int):Rat)))))):=Sz.mono ((z_ref04_Dot_0 (Sz.mono z1_0 (by omega):Sz (1 * k + 0) _) (Sz.mono z1_1 (by omega):Sz (1 * k + 0) _) (Sz.mono z1_0 (by omega):Sz (1 * k + 0) _) (Sz.mono z1_1 (by omega):Sz (1 * k + 0) _))) (by omega)
 have z4_0:Sz (5 * k + 4) ((((l_2:Int):Rat)) * ((((((l_1:Int):Rat))) * ((((l_1:Int):Rat)))) + (((-(((l_0:Int):Rat)))) * ((-(((l_0:Int):Rat))))))⁻¹):=Sz.mono (Sz.mul z2_0 (sz_inv z3_0)) (by omega)
 have z5_0:Sz (5 * k + 4) (-((((l_2:Int):Rat)) * ((((((l_1:Int):Rat))) * ((((l_1:Int):Rat)))) + (((-(((l_0:Int):Rat)))) * ((-(((l_0:Int):Rat))))))⁻¹)):=Sz.mono (Sz.neg z4_0) (by omega)
 have z6_0:Sz (1 * k + 0) (((l_0:Int):Rat)):=Sz.mono (sl_0) (by omega)
 have z7_0:Sz (6 * k + 5) ((-((((l_2:Int):Rat)) * ((((((l_1:Int):Rat))) * ((((l_1:Int):Rat)))) + (((-(((l_0:Int):Rat)))) * ((-(((l_0:Int):Rat))))))⁻¹)) * (((l_0:Int):Rat))):=Sz.mono (Sz.mul z5_0 z6_0) (by omega)
 have z8_0:Sz (1 * k + 0) (((l_1:Int):Rat)):=Sz.mono (sl_1) (by omega)
 have z9_0:Sz (6 * k + 5) ((-((((l_2:Int):Rat)) * ((((((l_1:Int):Rat))) * ((((l_1:Int):Rat)))) + (((-(((l_0:Int):Rat)))) * ((-(((l_0:Int):Rat))))))⁻¹)) * (((l_1:Int):Rat))):=Sz.mono (Sz.mul z5_0 z8_0) (by omega)
 exact Sz.mono z9_0 (by omega)
theorem c_ref04_At {V:View} {l:Value} {l_0 l_1 l_2:Int} {t:Value} {t_0:Rat} (hl:RL V l l_0 l_1 l_2) (ht:RQ V t t_0) (hd0:((((((l_1:Int):Rat))) * ((((l_1:Int):Rat)))) + (((-(((l_0:Int):Rat)))) * ((-(((l_0:Int):Rat)))))).num≠0) {k:Nat} (sl_0:Sz k ((l_0:Int):Rat)) (sl_1:Sz k ((l_1:Int):Rat)) (sl_2:Sz k ((l_2:Int):Rat)) (st_0:Sz k t_0) (hk:18 * k + 16 < 274877906944) :
  Acts prog 19 #[l,t] V fun r V'=>RP V' r (((-((((l_2:Int):Rat)) * ((((((l_1:Int):Rat))) * ((((l_1:Int):Rat)))) + (((-(((l_0:Int):Rat)))) * ((-(((l_0:Int):Rat))))))⁻¹)) * (((l_0:Int):Rat))) + (t_0) * (((l_1:Int):Rat))) (((-((((l_2:Int):Rat)) * ((((((l_1:Int):Rat))) * ((((l_1:Int):Rat)))) + (((-(((l_0:Int):Rat)))) * ((-(((l_0:Int):Rat))))))⁻¹)) * (((l_1:Int):Rat))) + (t_0) * (-(((l_0:Int):Rat)))):=by
 have hl0:=hl
 obtain ⟨l0,l1,l2,l3,l4,l5,l6,l7,l8,rfl,hl_0,hl_1,hl_2⟩:=hl
 have ht0:=ht
 obtain ⟨t0,t1,t2,t3,t4,t5,rfl⟩:=ht.shape
 refine vc_ref04_At _ l0 l1 l2 _ l3 l4 l5 _ l6 l7 l8 _ t0 t1 t2 t3 t4 t5 V _ fun V1 l1=>(c_ref04_Base (hl0.le (l1)) hd0 (Sz.mono sl_0 (by omega):Sz (1 * k + 0) _) (Sz.mono sl_1 (by omega):Sz (1 * k + 0) _) (Sz.mono sl_2 (by omega):Sz (1 * k + 0) _) (by omega)).mono ?_
 rintro r V2 l2 g1
 have g10:=g1
 obtain ⟨w0_0,w0_1,w0_2,w0_3,w0_4,w0_5,w0_6,w0_7,w0_8,w0_9,w0_10,w0_11,rfl,g1p0,g1p1⟩:=g1
 have z1_0:Sz (6 * k + 5) ((-((((l_2:Int):Rat)) * ((((((l_1:Int):Rat))) * ((((l_1:Int):Rat)))) + (((-(((l_0:Int):Rat)))) * ((-(((l_0:Int):Rat))))))⁻¹)) * (((l_0:Int):Rat))):=Sz.mono ((z_ref04_Base_0 (Sz.mono sl_0 (by omega):Sz (1 * k + 0) _) (Sz.mono sl_1 (by omega):Sz (1 * k + 0) _) (Sz.mono sl_2 (by omega):Sz (1 * k + 0) _))) (by omega)
 have z1_1:Sz (6 * k + 5) ((-((((l_2:Int):Rat)) * ((((((l_1:Int):Rat))) * ((((l_1:Int):Rat)))) + (((-(((l_0:Int):Rat)))) * ((-(((l_0:Int):Rat))))))⁻¹)) * (((l_1:Int):Rat))):=Sz.mono ((z_ref04_Base_1 (Sz.mono sl_0 (by omega):Sz (1 * k + 0) _) (Sz.mono sl_1 (by omega):Sz (1 * k + 0) _) (Sz.mono sl_2 (by omega):Sz (1 * k + 0) _))) (by omega)
 refine ⟨_,_,_,_,_,_,_,_,_,_,_,_,_,_,rfl,fun V3 l3=>(c_ref04_Dir (hl0.le (l1.trans (l2.trans (l3)))) (Sz.mono sl_0 (by omega):Sz (1 * k + 0) _) (Sz.mono sl_1 (by omega):Sz (1 * k + 0) _) (Sz.mono sl_2 (by omega):Sz (1 * k + 0) _) (by omega)).mono ?_⟩
 rintro r V4 l4 g2
 have g20:=g2
 obtain ⟨w1_0,w1_1,w1_2,w1_3,w1_4,w1_5,w1_6,w1_7,w1_8,w1_9,w1_10,w1_11,rfl,g2p0,g2p1⟩:=g2
 have z2_0:Sz (1 * k + 0) (((l_1:Int):Rat)):=Sz.mono ((z_ref04_Dir_0 (Sz.mono sl_0 (by omega):Sz (1 * k + 0) _) (Sz.mono sl_1 (by omega):Sz (1 * k + 0) _) (Sz.mono sl_2 (by omega):Sz (1 * k + 0) _))) (by omega)
 have z2_1:Sz (1 * k + 0) (-(((l_0:Int):Rat))):=Sz.mono ((z_ref04_Dir_1 (Sz.mono sl_0 (by omega):Sz (1 * k + 0) _) (Sz.mono sl_1 (by omega):Sz (1 * k + 0) _) (Sz.mono sl_2 (by omega):Sz (1 * k + 0) _))) (by omega)
 refine ⟨_,_,_,_,_,_,_,_,_,_,_,_,_,_,rfl,fun V5 l5=>(c_ref04_Add (g10.le (l3.trans (l4.trans (l5)))) (ht0.le (l1.trans (l2.trans (l3.trans (l4.trans (l5)))))) (g20.le (l5)) (Sz.mono z1_0 (by omega):Sz (6 * k + 5) _) (Sz.mono z1_1 (by omega):Sz (6 * k + 5) _) (Sz.mono st_0 (by omega):Sz (6 * k + 5) _) (Sz.mono z2_0 (by omega):Sz (6 * k + 5) _) (Sz.mono z2_1 (by omega):Sz (6 * k + 5) _) (by omega)).mono ?_⟩
 rintro r V6 l6 g3
 have g30:=g3
 obtain ⟨w2_0,w2_1,w2_2,w2_3,w2_4,w2_5,w2_6,w2_7,w2_8,w2_9,w2_10,w2_11,rfl,g3p0,g3p1⟩:=g3
 have z3_0:Sz (18 * k + 17) (((-((((l_2:Int):Rat)) * ((((((l_1:Int):Rat))) * ((((l_1:Int):Rat)))) + (((-(((l_0:Int):Rat)))) * ((-(((l_0:Int):Rat))))))⁻¹)) * (((l_0:Int):Rat))) + (t_0) * (((l_1:Int):Rat))):=Sz.mono (Sz.add (Sz.mono z1_0 (by omega):Sz (6 * k + 5) _) (Sz.mul (Sz.mono st_0 (by omega):Sz (6 * k + 5) _) (Sz.mono z2_0 (by omega):Sz (6 * k + 5) _))) (by omega)
 have z3_1:Sz (18 * k + 17) (((-((((l_2:Int):Rat)) * ((((((l_1:Int):Rat))) * ((((l_1:Int):Rat)))) + (((-(((l_0:Int):Rat)))) * ((-(((l_0:Int):Rat))))))⁻¹)) * (((l_1:Int):Rat))) + (t_0) * (-(((l_0:Int):Rat)))):=Sz.mono (Sz.add (Sz.mono z1_1 (by omega):Sz (6 * k + 5) _) (Sz.mul (Sz.mono st_0 (by omega):Sz (6 * k + 5) _) (Sz.mono z2_1 (by omega):Sz (6 * k + 5) _))) (by omega)
 exact ⟨_,_,_,_,_,_,_,_,_,_,_,_,_,_,rfl,fun V7 l7=>⟨_,_,_,_,_,_,_,_,_,_,_,_,rfl,(g3p0.le (l7)),(g3p1.le (l7))⟩⟩
end Go.Proofs.Tryz
/- Contracts: points of package api, read, written and compared. -/
namespace Go.Proofs.Tryz
open Go.Eng Go.Big
theorem RA.shape {V:View} {v:Value} {q:Rat} (h:RA V v q):∃b p n c p' n' c',v=.agg #[.bool b,.slice p n c,.slice p' n' c']:=by
 obtain ⟨p,n,c,p',n',c',e,-⟩:=h; exact ⟨_,_,_,_,_,_,_,e⟩
/-- A point of package api in normal form. -/
def RAP (V:View) (v:Value) (x y:Rat):Prop:=∃b p n c p' n' c' d q m e q' m' e',v=.agg #[.bool b,.slice p n c,.slice p' n' c',.bool d,.slice q m e,.slice q' m' e'] /\
 RA V (.agg #[.bool b,.slice p n c,.slice p' n' c']) x/\RA V (.agg #[.bool d,.slice q m e,.slice q' m' e']) y
theorem RAP.le {V V':View} {v:Value} {x y:Rat} (h:RAP V v x y) (l:V.Le V'):RAP V' v x y:=by
 obtain ⟨b,p,n,c,p',n',c',d,q,m,e,q',m',e',rfl,h1,h2⟩:=h
 exact ⟨_,_,_,_,_,_,_,_,_,_,_,_,_,_,rfl,h1.le l,h2.le l⟩
theorem c_geo_PtOf {V:View} {v:Value} {x y:Rat} (h:RAP V v x y) {k:Nat} (s1:Sz k x) (s2:Sz k y) (hk:k<=1099511627776) :
  Acts prog 48 #[v] V fun r V'=>RPt V' r x y:=by
 obtain ⟨b,p,n,c,p',n',c',d,q,m,e,q',m',e',rfl,h1,h2⟩:=h
 refine vc_geo_PtOf b p n c p' n' c' d q m e q' m' e' V _ fun V1 l1=>(c_frac_Of (h1.le l1) s1 hk).mono ?_
 rintro r V2 l2 g1
 have g10:=g1
 obtain ⟨u,v,w,rfl⟩:=g1.shape
 refine ⟨_,_,_,rfl,fun V3 l3=>(c_frac_Of (h2.le (l1.trans (l2.trans l3))) s2 hk).mono ?_⟩
 rintro r V4 l4 g2
 have g20:=g2
 obtain ⟨u,v,w,rfl⟩:=g2.shape
 exact ⟨_,_,_,rfl,fun V5 l5=>⟨_,_,_,_,_,_,rfl,g10.le (l3.trans (l4.trans l5)),g20.le l5⟩⟩
theorem c_geo_Pt_API {V:View} {v:Value} {x y:Rat} (h:RPt V v x y) {k:Nat} (s1:Sz k x) (s2:Sz k y) (hk:k<=1099511627776) :
  Acts prog 83 #[v] V fun r V'=>RAP V' r x y:=by
 obtain ⟨p0,p1,p2,p3,p4,p5,rfl,h1,h2⟩:=h
 refine vc_geo_Pt_API p0 p1 p2 p3 p4 p5 V _ fun V1 l1=>(c_R_API (h1.le l1) s1 hk).mono ?_
 rintro r V2 l2 g1
 have g10:=g1
 obtain ⟨_,_,_,_,_,_,_,rfl⟩:=g1.shape
 refine ⟨_,_,_,_,_,_,_,rfl,fun V3 l3=>(c_R_API (h2.le (l1.trans (l2.trans l3))) s2 hk).mono ?_⟩
 rintro r V4 l4 g2
 have g20:=g2
 obtain ⟨_,_,_,_,_,_,_,rfl⟩:=g2.shape
 exact ⟨_,_,_,_,_,_,_,rfl,fun V5 l5=>⟨_,_,_,_,_,_,_,_,_,_,_,_,_,_,rfl,g10.le (l3.trans (l4.trans l5)),g20.le l5⟩⟩
theorem c_geo_Pt_Equal {V:View} {v w:Value} {x y x' y':Rat} (h:RPt V v x y) (h':RPt V w x' y') {k:Nat} (s1:Sz k x) (s2:Sz k y) (s3:Sz k x') (s4:Sz k y') (hk:2 * k < 1099511627776) :
  Acts prog 128 #[v,w] V fun r V'=>r=.bool (decide (x=x'/\y=y')):=by
 obtain ⟨p0,p1,p2,p3,p4,p5,rfl,h1,h2⟩:=h
 obtain ⟨q0,q1,q2,q3,q4,q5,rfl,h3,h4⟩:=h'
 refine vc_geo_Pt_Equal p0 p1 p2 p3 p4 p5 q0 q1 q2 q3 q4 q5 V _ fun V1 l1=>(c_R_Equal (h1.le l1) (h3.le l1) s1 s3 (by omega)).mono ?_
 rintro r V2 l2 rfl
 refine ⟨_,rfl,fun g V3 l3=>(c_R_Equal (h2.le (l1.trans (l2.trans l3))) (h4.le (l1.trans (l2.trans l3))) s2 s4 (by omega)).mono ?_,fun g V6 l6=>?_⟩
 ·have g:=of_decide_eq_true g
  rintro r V4 l4 rfl
  exact ⟨_,rfl,fun V5 l5=>by simp [g]⟩
 ·have g:=of_decide_eq_false g
  simp [g]
theorem c_ref01_ToQ {V:View} {v:Value} {q:Rat} (h:RQ V v q) {k:Nat} (s:Sz k q) (hk:k<=1099511627776):Acts prog 50 #[v] V fun r V'=>RA V' r q:=by
 obtain ⟨p,n,c,p',n',c',rfl,h1,h2⟩:=h
 have q1:=digs_len_bits s.1
 have q2:=digs_len_bits s.2
 refine vc_ref01_ToQ _ p n c p' n' c' V _ fun V1 l1=>(c_ref01_ToI ⟨_,_,_,rfl,h1.le l1⟩ (by omega)).mono ?_
 rintro r V2 l2 ⟨p1,n1,c1,rfl,g1⟩
 refine ⟨_,_,_,_,rfl,fun V3 l3=>(c_num_Den q _ (h2.le (l1.trans (l2.trans l3)))).mono ?_⟩
 rintro r V4 l4 ⟨p2,n2,c2,rfl,g2⟩
 refine ⟨_,_,_,rfl,fun V5 l5=>(c_ref01_ToN (g2.le l5) (by omega)).mono ?_⟩
 rintro r V6 l6 ⟨p3,n3,c3,rfl,g3⟩
 exact ⟨_,_,_,rfl,fun V7 l7=>⟨_,_,_,_,_,_,rfl,g1.le (l3.trans (l4.trans (l5.trans (l6.trans l7)))),g3.le l7⟩⟩
theorem c_ref01_SameQ {V:View} {v w:Value} {x y:Rat} (hx:RA V v x) (hy:RA V w y) {k:Nat} (s:Sz k x) (hk:k<=1099511627776) :
  Acts prog 63 #[v,w] V fun r V'=>r=.bool (decide (x=y)):=by
 obtain ⟨p,n,c,p',n',c',rfl,h1,h2⟩:=hx
 obtain ⟨q,m,e,q',m',e',rfl,h3,h4⟩:=hy
 have q1:=digs_len_bits s.1
 have q2:=digs_len_bits s.2
 refine vc_ref01_SameQ _ p n c p' n' c' _ q m e q' m' e' V _ fun V1 l1=>(c_ref01_SameI (h1.le l1) (h3.le l1) (by omega)).mono ?_
 rintro r V2 l2 rfl
 refine ⟨_,rfl,fun g V3 l3=>(c_ref01_SameN (h2.le (l1.trans (l2.trans l3))) (h4.le (l1.trans (l2.trans l3))) (by omega)).mono ?_,fun g V6 l6=>?_⟩
 ·have g:=of_decide_eq_true g
  rintro r V4 l4 rfl
  refine ⟨_,rfl,fun V5 l5=>?_⟩
  have e:digs x.den=digs y.den↔x=y:=⟨fun h=>Rat.ext g (by have:=congrArg val h; rwa [val_digs,val_digs] at this),fun h=>by rw [h]⟩
  rw [show decide (digs x.den=digs y.den)=decide (x=y) from by rw [decide_eq_decide]; exact e]
 ·have g:=of_decide_eq_false g
  rw [decide_eq_false (fun h=>g (by rw [h]))]
theorem c_ref04_SameP {V:View} {v w:Value} {x y x' y':Rat} (h:RAP V v x y) (h':RAP V w x' y') {k:Nat} (s1:Sz k x) (s2:Sz k y) (hk:k<=1099511627776) :
  Acts prog 18 #[v,w] V fun r V'=>r=.bool (decide (x=x'/\y=y')):=by
 obtain ⟨b,p,n,c,p',n',c',d,q,m,e,q',m',e',rfl,h1,h2⟩:=h
 obtain ⟨b1,p1,n1,c1,p1',n1',c1',d1,q1,m1,e1,q1',m1',e1',rfl,h3,h4⟩:=h'
 refine vc_ref04_SameP b p n c p' n' c' d q m e q' m' e' b1 p1 n1 c1 p1' n1' c1' d1 q1 m1 e1 q1' m1' e1' V _ fun V1 l1=>(c_ref01_SameQ (h1.le l1) (h3.le l1) s1 hk).mono ?_
 rintro r V2 l2 rfl
 refine ⟨_,rfl,fun g V3 l3=>(c_ref01_SameQ (h2.le (l1.trans (l2.trans l3))) (h4.le (l1.trans (l2.trans l3))) s2 hk).mono ?_,fun g V6 l6=>?_⟩
 ·have g:=of_decide_eq_true g
  rintro r V4 l4 rfl
  exact ⟨_,rfl,fun V5 l5=>by simp [g]⟩
 ·have g:=of_decide_eq_false g
  simp [g]
end Go.Proofs.Tryz
/- Trees and their lists of nodes: plain laws, no program in sight. -/
namespace Go.Proofs.Tryz
open Go.Eng Go.Big
/-- A line: its integer coefficients. -/
abbrev L3:=Int × Int × Int
def okL (x:L3):Bool:=decide (¬ (x.1=0/\x.2.1=0)) && decide (gcd3 x.1 x.2.1 x.2.2=1)
def Bd (x:L3):Prop:=x.1.natAbs < 2 ^ 1000/\x.2.1.natAbs < 2 ^ 1000/\x.2.2.natAbs < 2 ^ 1000
inductive Tr where
 | leaf (i:Bool) | node (l:L3) (a b:Tr)
 deriving DecidableEq
structure Nd where
 ln:L3
 left:Int
 right:Int
 deriving DecidableEq
def Tr.size:Tr->Nat
 | .leaf _=>0
 | .node _ a b=>a.size + b.size + 1
def Tr.All (p:L3->Prop):Tr->Prop
 | .leaf _=>True
 | .node l a b=>p l/\a.All p/\b.All p
theorem Tr.All.imp {p q:L3->Prop} (h:∀x,p x->q x):∀{t:Tr},t.All p->t.All q
 | .leaf _,_=>trivial
 | .node _ _ _,⟨h1,h2,h3⟩=>⟨h _ h1,Tr.All.imp h h2,Tr.All.imp h h3⟩
/-! reading a list of nodes -/
structure RS where
 seen:List Bool
 cnt:Nat
 bad:Bool
/-! the nodes in another order -/
def mvN (n by_ i:Nat):Nat:=n - 1 - (i + by_) % n
def mv (n by_:Nat) (i:Int):Int:=if i < 0 then i else (mvN n by_ i.toNat:Int)
end Go.Proofs.Tryz
/- Lines in normal form, in memory. -/
namespace Go.Proofs.Tryz
open Go.Eng Go.Big
theorem okLn_okL {a b c:Int}:okLn (decide (a < 0)) (digs a.natAbs) (decide (b < 0)) (digs b.natAbs) (decide (c < 0)) (digs c.natAbs)=okL (a,b,c):=by
 have hn:∀z:Int,NrmI (decide (z < 0)) (digs z.natAbs)=true:=by
  intro z
  unfold NrmI
  rw [val_digs]
  simp only [decide_true,Bool.true_and]
  by_cases h:z < 0
  ·simp only [h,decide_true,Bool.not_true,Bool.false_or,decide_eq_true_eq]
   intro e
   have:=digs_eq_nil.1 e
   omega
  ·simp [h]
 have hg:gcdQ (gcdQ (a:Rat) (b:Rat)) (c:Rat)=((gcd3 a b c:Nat):Int):=by
  have g2:∀x y:Int,gcdQ (x:Rat) (y:Rat)=((Nat.gcd x.natAbs y.natAbs:Nat):Int):=by
   intro x y
   unfold gcdQ
   have e1:((x:Rat)).num=x:=rfl
   have e2:((y:Rat)).num=y:=rfl
   have e3:((x:Rat)).den=1:=rfl
   have e4:((y:Rat)).den=1:=rfl
   rw [e1,e2,e3,e4]
   simp only [Nat.mul_one]
   exact Rat.mkRat_one _
  rw [g2,g2]
  rfl
 unfold okLn okL
 rw [hn,hn,hn,ival_digs,ival_digs,ival_digs,hg]
 have h0:∀z:Int,((z:Rat)=0)↔z=0:=fun z=>by exact Rat.intCast_eq_zero_iff
 simp only [Bool.true_and,h0]
 rw [Bool.eq_iff_iff]
 simp only [Bool.and_eq_true,Bool.not_eq_true',Bool.and_eq_false_iff,decide_eq_false_iff_not,decide_eq_true_eq]
 have h1:(((gcd3 a b c:Nat):Int):Rat)=((1:Int):Rat)↔gcd3 a b c=1:=by
  rw [Rat.intCast_inj]; omega
 rw [h1]
 constructor
 ·rintro ⟨h,h'⟩; exact ⟨fun e=>by rcases h with h | h; exact h e.1; exact h e.2,h'⟩
 ·rintro ⟨h,h'⟩
  refine ⟨?_,h'⟩
  by_cases ha:a=0
  ·exact .inr fun hb=>h ⟨ha,hb⟩
  ·exact .inl ha
theorem sz_int {z:Int} {k:Nat} (h:z.natAbs < 2 ^ k) (hk:0 < k):Sz k (z:Rat):=⟨h,Nat.one_lt_two_pow (by omega)⟩
theorem Bd.digs {x:L3} (h:Bd x):(digs x.1.natAbs).length<=1000/\(digs x.2.1.natAbs).length<=1000/\(digs x.2.2.natAbs).length<=1000:=⟨digs_len_bits h.1,digs_len_bits h.2.1,digs_len_bits h.2.2⟩
theorem Bd.sz {x:L3} (h:Bd x):Sz 1000 (x.1:Rat)/\Sz 1000 (x.2.1:Rat)/\Sz 1000 (x.2.2:Rat):=⟨sz_int h.1 (by omega),sz_int h.2.1 (by omega),sz_int h.2.2 (by omega)⟩
end Go.Proofs.Tryz
/- By program: the conditions of the functions, from their loaded code. -/
namespace Go.Proofs.Tryz
open Go.Eng
set_option maxRecDepth 100000
theorem vc_scene_New (lp:OA) (ln lc:Nat) (V:View) (R:Value->View->Prop)
  (h:(0<=(minI ((ln:Nat):Int) (400))/\(minI ((ln:Nat):Int) (400))<=((lc:Nat):Int))/\(∀V1,V.Le V1->∀bk1_:Nat,(V1.blk bk1_ (.cells #[.slice lp ((minI ((ln:Nat):Int) (400)).toNat) lc,.int .i64 0] 105 (0,0)))->R (.pointer (some ⟨bk1_,0,none⟩)) V1)) :
  Acts prog 7 #[.slice lp ln lc] V R:=
 fn_does (LF:=LF0) (RF:=[1000007]) (β0:=(fun _=>0)) tab_ok mixed [] [] func7 (by kernel_rfl)
  [(0,.c (.v (.slice lp ln lc)))]
  [] (by kernel_rfl) trivial h (by kernel_rfl)
theorem vc_scene_Tape_Next (tb:Nat) (lp:OA) (ln lc:Nat) (at_:Int) (a1:Int) (V:View) (R:Value->View->Prop) (hw100000:V.w.heap[tb]?=some (.cells #[.slice lp ln lc,.int .i64 at_] 105 (0,0))) (hx100000:V.X tb)
  (h:(((decide (at_ ≥ ((ln:Nat):Int)))=true->(∀V1,V.Le V1->V1.w.heap[tb]?=some (.cells #[.slice lp ln lc,.int .i64 at_] 105 (0,0))->R (.int .i64 0) V1))/\((decide (at_ ≥ ((ln:Nat):Int)))=false->(lp.isSome=true)/\(0<=at_/\at_ < ((ln:Nat):Int))/\(∃x1_,(∃a2_,addrAdd lp (at_.toNat * 1)=some a2_/\V.at a2_ (.int .i64 x1_))/\(a1≠0)/\(((decide ((x1_.tmod a1) < (0:Int)))=true->(∀V2,V.Le V2->V2.w.heap[tb]?=some (.cells #[.slice lp ln lc,.int .i64 (i64.wrap (at_ + (1:Int)))] 105 (0,0))->R (.int .i64 (i64.wrap ((x1_.tmod a1) + a1))) V2))/\((decide ((x1_.tmod a1) < (0:Int)))=false->(∀V3,V.Le V3->V3.w.heap[tb]?=some (.cells #[.slice lp ln lc,.int .i64 (i64.wrap (at_ + (1:Int)))] 105 (0,0))->R (.int .i64 (x1_.tmod a1)) V3))))))) :
  Acts prog 33 #[.pointer (some ⟨tb,0,none⟩),.int .i64 a1] V R:=
 fn_does (LF:=LF0) (RF:=[1000007]) (β0:=(upd1 (fun _=>0) 100000 tb)) tab_ok mixed [] [] func33 (by kernel_rfl)
  [(0,.c (.ptr 100000 0)),(1,.c (.v (.int .i64 a1)))]
  [(100000,⟨.lit [.v (.slice lp ln lc),.v (.int .i64 at_)],105⟩)] (by kernel_rfl) ⟨⟨hw100000,hx100000⟩,trivial,trivial⟩ h (by kernel_rfl)
theorem vc_scene_Tape_P (tb:Nat) (lp:OA) (ln lc:Nat) (at_:Int) (V:View) (R:Value->View->Prop) (hw100000:V.w.heap[tb]?=some (.cells #[.slice lp ln lc,.int .i64 at_] 105 (0,0))) (hx100000:V.X tb)
  (h:(∀V1,V.Le V1->∀bk1_:Nat,(V1.w.heap[bk1_]?=some (.cells #[.slice lp ln lc,.int .i64 at_] 105 (0,0)))->(V1.H bk1_)->Acts prog 33 #[.pointer (some ⟨bk1_,0,none⟩),.int .i64 9] (V1.lend [bk1_]) fun r1_ V2=>∃x2_,r1_=.int .i64 x2_/\∃p3_ n3_ c3_,∃x4_,V2.w.heap[bk1_]?=some (.cells #[.slice p3_ n3_ c3_,.int .i64 x4_] 105 (0,0))/\(∀V3,V2.shut.Le V3->∀bk5_:Nat,(V3.w.heap[bk5_]?=some (.cells #[.slice p3_ n3_ c3_,.int .i64 x4_] 105 (0,0)))->(V3.H bk5_)->Acts prog 33 #[.pointer (some ⟨bk5_,0,none⟩),.int .i64 9] (V3.lend [bk5_]) fun r3_ V4=>∃x6_,r3_=.int .i64 x6_/\∃p7_ n7_ c7_,∃x8_,V4.w.heap[bk5_]?=some (.cells #[.slice p7_ n7_ c7_,.int .i64 x8_] 105 (0,0))/\(∀V5,V4.shut.Le V5->Acts prog 115 #[.int .i64 (i64.wrap (x2_ - (4:Int))),.int .i64 (i64.wrap (x6_ - (4:Int)))] V5 fun r5_ V6=>∃b9_,∃p10_ n10_ c10_,∃p11_ n11_ c11_,∃b12_,∃p13_ n13_ c13_,∃p14_ n14_ c14_,r5_=.agg #[.bool b9_,.slice p10_ n10_ c10_,.slice p11_ n11_ c11_,.bool b12_,.slice p13_ n13_ c13_,.slice p14_ n14_ c14_]/\(∀V7,V6.Le V7->V7.w.heap[tb]?=some (.cells #[.slice p7_ n7_ c7_,.int .i64 x8_] 105 (0,0))->R (.agg #[.bool b9_,.slice p10_ n10_ c10_,.slice p11_ n11_ c11_,.bool b12_,.slice p13_ n13_ c13_,.slice p14_ n14_ c14_]) V7))))) :
  Acts prog 55 #[.pointer (some ⟨tb,0,none⟩)] V R:=
 fn_does (LF:=LF0) (RF:=[1000007]) (β0:=(upd1 (fun _=>0) 100000 tb)) tab_ok mixed [] [] func55 (by kernel_rfl)
  [(0,.c (.ptr 100000 0))]
  [(100000,⟨.lit [.v (.slice lp ln lc),.v (.int .i64 at_)],105⟩)] (by kernel_rfl) ⟨⟨hw100000,hx100000⟩,trivial,trivial⟩ h (by kernel_rfl)
theorem vc_scene_Tape_V (tb:Nat) (lp:OA) (ln lc:Nat) (at_:Int) (V:View) (R:Value->View->Prop) (hw100000:V.w.heap[tb]?=some (.cells #[.slice lp ln lc,.int .i64 at_] 105 (0,0))) (hx100000:V.X tb)
  (h:(∀V1,V.Le V1->∀bk1_:Nat,(V1.w.heap[bk1_]?=some (.cells #[.slice lp ln lc,.int .i64 at_] 105 (0,0)))->(V1.H bk1_)->Acts prog 55 #[.pointer (some ⟨bk1_,0,none⟩)] (V1.lend [bk1_]) fun r1_ V2=>∃b2_,∃p3_ n3_ c3_,∃p4_ n4_ c4_,∃b5_,∃p6_ n6_ c6_,∃p7_ n7_ c7_,r1_=.agg #[.bool b2_,.slice p3_ n3_ c3_,.slice p4_ n4_ c4_,.bool b5_,.slice p6_ n6_ c6_,.slice p7_ n7_ c7_]/\∃p8_ n8_ c8_,∃x9_,V2.w.heap[bk1_]?=some (.cells #[.slice p8_ n8_ c8_,.int .i64 x9_] 105 (0,0))/\(∀V3,V2.shut.Le V3->Acts prog 117 #[.agg #[.bool b2_,.slice p3_ n3_ c3_,.slice p4_ n4_ c4_,.bool b5_,.slice p6_ n6_ c6_,.slice p7_ n7_ c7_],.agg #[.bool false,.slice none 0 0,.slice none 0 0,.bool false,.slice none 0 0,.slice none 0 0]] V3 fun r3_ V4=>∃b10_,r3_=.bool b10_/\((b10_=true->(∀V5,V4.Le V5->Acts prog 115 #[.int .i64 1,.int .i64 0] V5 fun r5_ V6=>∃b11_,∃p12_ n12_ c12_,∃p13_ n13_ c13_,∃b14_,∃p15_ n15_ c15_,∃p16_ n16_ c16_,r5_=.agg #[.bool b11_,.slice p12_ n12_ c12_,.slice p13_ n13_ c13_,.bool b14_,.slice p15_ n15_ c15_,.slice p16_ n16_ c16_]/\(∀V7,V6.Le V7->V7.w.heap[tb]?=some (.cells #[.slice p8_ n8_ c8_,.int .i64 x9_] 105 (0,0))->R (.agg #[.bool b11_,.slice p12_ n12_ c12_,.slice p13_ n13_ c13_,.bool b14_,.slice p15_ n15_ c15_,.slice p16_ n16_ c16_]) V7)))/\(b10_=false->(∀V8,V4.Le V8->V8.w.heap[tb]?=some (.cells #[.slice p8_ n8_ c8_,.int .i64 x9_] 105 (0,0))->R (.agg #[.bool b2_,.slice p3_ n3_ c3_,.slice p4_ n4_ c4_,.bool b5_,.slice p6_ n6_ c6_,.slice p7_ n7_ c7_]) V8)))))) :
  Acts prog 58 #[.pointer (some ⟨tb,0,none⟩)] V R:=
 fn_does (LF:=LF0) (RF:=[1000007]) (β0:=(upd1 (fun _=>0) 100000 tb)) tab_ok mixed [] [] func58 (by kernel_rfl)
  [(0,.c (.ptr 100000 0))]
  [(100000,⟨.lit [.v (.slice lp ln lc),.v (.int .i64 at_)],105⟩)] (by kernel_rfl) ⟨⟨hw100000,hx100000⟩,trivial,trivial⟩ h (by kernel_rfl)
theorem vc_scene_Tape_L (tb:Nat) (lp:OA) (ln lc:Nat) (at_:Int) (V:View) (R:Value->View->Prop) (hw100000:V.w.heap[tb]?=some (.cells #[.slice lp ln lc,.int .i64 at_] 105 (0,0))) (hx100000:V.X tb)
  (h:(∀V1,V.Le V1->∀bk1_:Nat,(V1.w.heap[bk1_]?=some (.cells #[.slice lp ln lc,.int .i64 at_] 105 (0,0)))->(V1.H bk1_)->Acts prog 55 #[.pointer (some ⟨bk1_,0,none⟩)] (V1.lend [bk1_]) fun r1_ V2=>∃b2_,∃p3_ n3_ c3_,∃p4_ n4_ c4_,∃b5_,∃p6_ n6_ c6_,∃p7_ n7_ c7_,r1_=.agg #[.bool b2_,.slice p3_ n3_ c3_,.slice p4_ n4_ c4_,.bool b5_,.slice p6_ n6_ c6_,.slice p7_ n7_ c7_]/\∃p8_ n8_ c8_,∃x9_,V2.w.heap[bk1_]?=some (.cells #[.slice p8_ n8_ c8_,.int .i64 x9_] 105 (0,0))/\(∀V3,V2.shut.Le V3->Acts prog 57 #[.int .i64 1] V3 fun r3_ V4=>∃b10_,∃p11_ n11_ c11_,∃p12_ n12_ c12_,r3_=.agg #[.bool b10_,.slice p11_ n11_ c11_,.slice p12_ n12_ c12_]/\(∀V5,V4.Le V5->∀bk13_:Nat,(V5.w.heap[bk13_]?=some (.cells #[.slice p8_ n8_ c8_,.int .i64 x9_] 105 (0,0)))->(V5.H bk13_)->Acts prog 58 #[.pointer (some ⟨bk13_,0,none⟩)] (V5.lend [bk13_]) fun r5_ V6=>∃b14_,∃p15_ n15_ c15_,∃p16_ n16_ c16_,∃b17_,∃p18_ n18_ c18_,∃p19_ n19_ c19_,r5_=.agg #[.bool b14_,.slice p15_ n15_ c15_,.slice p16_ n16_ c16_,.bool b17_,.slice p18_ n18_ c18_,.slice p19_ n19_ c19_]/\∃p20_ n20_ c20_,∃x21_,V6.w.heap[bk13_]?=some (.cells #[.slice p20_ n20_ c20_,.int .i64 x21_] 105 (0,0))/\(∀V7,V6.shut.Le V7->Acts prog 56 #[.agg #[.bool b2_,.slice p3_ n3_ c3_,.slice p4_ n4_ c4_,.bool b5_,.slice p6_ n6_ c6_,.slice p7_ n7_ c7_],.agg #[.bool b10_,.slice p11_ n11_ c11_,.slice p12_ n12_ c12_],.agg #[.bool b14_,.slice p15_ n15_ c15_,.slice p16_ n16_ c16_,.bool b17_,.slice p18_ n18_ c18_,.slice p19_ n19_ c19_]] V7 fun r7_ V8=>∃b22_,∃p23_ n23_ c23_,∃p24_ n24_ c24_,∃b25_,∃p26_ n26_ c26_,∃p27_ n27_ c27_,r7_=.agg #[.bool b22_,.slice p23_ n23_ c23_,.slice p24_ n24_ c24_,.bool b25_,.slice p26_ n26_ c26_,.slice p27_ n27_ c27_]/\(∀V9,V8.Le V9->Acts prog 51 #[.agg #[.bool b2_,.slice p3_ n3_ c3_,.slice p4_ n4_ c4_,.bool b5_,.slice p6_ n6_ c6_,.slice p7_ n7_ c7_],.agg #[.bool b22_,.slice p23_ n23_ c23_,.slice p24_ n24_ c24_,.bool b25_,.slice p26_ n26_ c26_,.slice p27_ n27_ c27_]] V9 fun r9_ V10=>∃b28_,∃p29_ n29_ c29_,∃b30_,∃p31_ n31_ c31_,∃b32_,∃p33_ n33_ c33_,∃b34_,r9_=.tuple #[.agg #[.bool b28_,.slice p29_ n29_ c29_,.bool b30_,.slice p31_ n31_ c31_,.bool b32_,.slice p33_ n33_ c33_],.bool b34_]/\(∀V11,V10.Le V11->V11.w.heap[tb]?=some (.cells #[.slice p20_ n20_ c20_,.int .i64 x21_] 105 (0,0))->R (.agg #[.bool b28_,.slice p29_ n29_ c29_,.bool b30_,.slice p31_ n31_ c31_,.bool b32_,.slice p33_ n33_ c33_]) V11))))))) :
  Acts prog 39 #[.pointer (some ⟨tb,0,none⟩)] V R:=
 fn_does (LF:=LF0) (RF:=[1000007]) (β0:=(upd1 (fun _=>0) 100000 tb)) tab_ok mixed [] [] func39 (by kernel_rfl)
  [(0,.c (.ptr 100000 0))]
  [(100000,⟨.lit [.v (.slice lp ln lc),.v (.int .i64 at_)],105⟩)] (by kernel_rfl) ⟨⟨hw100000,hx100000⟩,trivial,trivial⟩ h (by kernel_rfl)
end Go.Proofs.Tryz
/- The scene's tape: Next, P, V, L, Tree; lines and trees that it makes. -/
namespace Go.Proofs.Tryz
open Go.Eng Go.Big
/-! plain laws: the line through two points of the grid -/
theorem thr_int (x y u w:Int):thr (x:Rat) (y:Rat) ((x:Rat) + ((1:Int):Rat) * (u:Rat)) ((y:Rat) + ((1:Int):Rat) * (w:Rat))=(((-w:Int):Rat),((u:Int):Rat),((w * x - u * y:Int):Rat)):=by
 have e1:(x:Rat) + ((1:Int):Rat) * (u:Rat)=((x + u:Int):Rat):=by rw [← Rat.intCast_mul,← Rat.intCast_add,Int.one_mul]
 have e2:(y:Rat) + ((1:Int):Rat) * (w:Rat)=((y + w:Int):Rat):=by rw [← Rat.intCast_mul,← Rat.intCast_add,Int.one_mul]
 rw [e1,e2]
 have ha:-(((y + w:Int):Rat) - (y:Rat))=((-w:Int):Rat):=by rw [← Rat.intCast_sub,← Rat.intCast_neg]; congr 1; omega
 have hb:((x + u:Int):Rat) - (x:Rat)=((u:Int):Rat):=by rw [← Rat.intCast_sub]; congr 1; omega
 have hc:-(((-w:Int):Rat) * (x:Rat) + ((u:Int):Rat) * (y:Rat))=((w * x - u * y:Int):Rat):=by
  rw [← Rat.intCast_mul,← Rat.intCast_mul,← Rat.intCast_add,← Rat.intCast_neg]; congr 1; rw [Int.neg_mul]; omega
 have hf:(((((-w:Int):Rat).den * ((u:Int):Rat).den * ((w * x - u * y:Int):Rat).den:Nat):Int):Rat)=1:=rfl
 unfold thr
 dsimp only
 rw [ha,hb,hc,hf,Rat.mul_one,Rat.mul_one,Rat.mul_one]
/-- Divided by their common divisor. -/
def lnOf (a b c:Int):L3:=(a / (gcd3 a b c:Int),b / (gcd3 a b c:Int),c / (gcd3 a b c:Int))
def small (z:Int) (k:Nat):Bool:=decide (z.natAbs<=k)
theorem lnOf_fin:∀i:Fin 9,∀j:Fin 9,∀k:Fin 65,(i.1=4/\j.1=4) \/ (okL (lnOf ((i.1:Int) - 4) ((j.1:Int) - 4) ((k.1:Int) - 32)) && small (lnOf ((i.1:Int) - 4) ((j.1:Int) - 4) ((k.1:Int) - 32)).1 32 && small (lnOf ((i.1:Int) - 4) ((j.1:Int) - 4) ((k.1:Int) - 32)).2.1 32 && small (lnOf ((i.1:Int) - 4) ((j.1:Int) - 4) ((k.1:Int) - 32)).2.2 32)=true:=by decide +kernel
theorem bd32 (k:Nat) (hk:6<=k) {z:Int} (h:z.natAbs<=32):z.natAbs < 2 ^ k:=Nat.lt_of_le_of_lt h (Nat.lt_of_lt_of_le (by decide:32 < 2 ^ 6) (Nat.pow_le_pow_right (by decide) hk))
theorem bd32' (k:Nat) (hk:6<=k) {x:L3} (h1:x.1.natAbs<=32) (h2:x.2.1.natAbs<=32) (h3:x.2.2.natAbs<=32):x.1.natAbs < 2 ^ k/\x.2.1.natAbs < 2 ^ k/\x.2.2.natAbs < 2 ^ k:=⟨bd32 k hk h1,bd32 k hk h2,bd32 k hk h3⟩
theorem lnOf_ok {a b c:Int} (h1:-4<=a/\a<=4) (h2:-4<=b/\b<=4) (h3:-32<=c/\c<=32) (h:¬ (a=0/\b=0)):okL (lnOf a b c)=true/\Bd (lnOf a b c):=by
 have:=lnOf_fin ⟨(a + 4).toNat,by omega⟩ ⟨(b + 4).toNat,by omega⟩ ⟨(c + 32).toNat,by omega⟩
 dsimp only at this
 rw [show (((a + 4).toNat:Nat):Int) - 4=a from by omega,show (((b + 4).toNat:Nat):Int) - 4=b from by omega,show (((c + 32).toNat:Nat):Int) - 32=c from by omega] at this
 rcases this with h' | h'
 ·omega
 ·simp only [Bool.and_eq_true,small,decide_eq_true_eq] at h'
  exact ⟨h'.1.1.1,bd32' 1000 (by decide) h'.1.1.2 h'.1.2 h'.2⟩
theorem mul_bd {x y:Int} (h1:-4<=x/\x<=4) (h2:-4<=y/\y<=4):-16<=x * y/\x * y<=16:=by
 have:(x * y).natAbs<=4 * 4:=by rw [Int.natAbs_mul]; exact Nat.mul_le_mul (by omega) (by omega)
 omega
end Go.Proofs.Tryz
/- Plain laws: the line in normal form. -/
namespace Go.Proofs.Tryz
open Go.Eng Go.Big
theorem num_mul {r:Rat} {f:Nat} {a:Int} (hf:f≠0) (h:r * ((f:Nat):Int)=(a:Rat)):r.num * f=a * r.den:=by
 have hd:=r.den_nz
 rw [← Rat.mkRat_self r,← Rat.mkRat_one f,← Rat.mkRat_one a,Rat.mkRat_mul_mkRat,Rat.mkRat_eq_iff (by simpa using hd) (by omega)] at h
 simpa using h
/-- The divisor of two numbers with one denominator. -/
theorem gcdQ_scale {r s:Rat} {f:Nat} {a b:Int} (hf:f≠0) (hr:r * ((f:Nat):Int)=(a:Rat)) (hs:s * ((f:Nat):Int)=(b:Rat)):gcdQ r s * ((f:Nat):Int)=(((Nat.gcd a.natAbs b.natAbs:Nat):Int):Rat):=by
 have h1:=num_mul hf hr
 have h2:=num_mul hf hs
 have d1:=r.den_nz
 have d2:=s.den_nz
 have e1:r.num.natAbs * f=a.natAbs * r.den:=by have:=congrArg Int.natAbs h1; rwa [Int.natAbs_mul,Int.natAbs_mul,Int.natAbs_natCast,Int.natAbs_natCast] at this
 have e2:s.num.natAbs * f=b.natAbs * s.den:=by have:=congrArg Int.natAbs h2; rwa [Int.natAbs_mul,Int.natAbs_mul,Int.natAbs_natCast,Int.natAbs_natCast] at this
 have e3:Nat.gcd (r.num.natAbs * s.den) (s.num.natAbs * r.den) * f=Nat.gcd a.natAbs b.natAbs * (r.den * s.den):=by
  rw [← Nat.gcd_mul_right,← Nat.gcd_mul_right]
  congr 1
  ·rw [Nat.mul_right_comm,e1,Nat.mul_assoc]
  ·rw [Nat.mul_right_comm,e2,Nat.mul_assoc,Nat.mul_comm s.den]
 unfold gcdQ
 rw [← Rat.mkRat_one ((f:Nat):Int),Rat.mkRat_mul_mkRat,← Rat.mkRat_one (((Nat.gcd a.natAbs b.natAbs:Nat):Int)),Rat.mkRat_eq_iff (by simpa using Nat.mul_ne_zero d1 d2) (by omega)]
 simp only [Nat.mul_one]
 have:=congrArg (Nat.cast (R:=Int)) e3
 simpa using this
end Go.Proofs.Tryz
/- Plain laws: the line through two points: program and reference agree. -/
namespace Go.Proofs.Tryz
open Go.Eng Go.Big
theorem mul_den_num (q:Rat) (m:Nat):q * (((q.den * m:Nat):Int):Rat)=((q.num * m:Int):Rat):=by
 have e:q * (((q.den:Nat):Int):Rat)=((q.num:Int):Rat):=by
  have h:=q.den_nz
  have h1:mkRat q.num q.den * mkRat ((q.den:Nat):Int) 1=mkRat q.num 1:=by
   rw [Rat.mkRat_mul_mkRat,Rat.mkRat_eq_iff (by simpa using h) (by omega)]
   simp
  rwa [Rat.mkRat_self,Rat.mkRat_one,Rat.mkRat_one] at h1
 rw [Int.natCast_mul,Rat.intCast_mul,← Rat.mul_assoc,e,← Rat.intCast_mul]
theorem int_div_cast {a:Int} {g:Nat} (hg:g≠0) (h:(g:Int) ∣ a):((a / (g:Int):Int):Rat)=(a:Rat) / ((g:Int):Rat):=by
 obtain ⟨k,rfl⟩:=h
 have h0:((g:Int):Rat)≠0:=by exact_mod_cast hg
 rw [Int.mul_ediv_cancel_left _ (by omega),Rat.intCast_mul,Rat.div_def,Rat.mul_comm ((g:Int):Rat),Rat.mul_assoc,Rat.mul_inv_cancel _ h0,Rat.mul_one]
/-- The line of three rational coefficients, in lowest terms. -/
def mkLn (a b c:Rat):L3:=
 let f:Nat:=a.den * b.den * c.den
 lnOf (a * ((f:Int):Rat)).num (b * ((f:Int):Rat)).num (c * ((f:Int):Rat)).num
theorem mkLn_spec {a b c:Rat} (h:¬ (a=0/\b=0)):let g:=gcdQ (gcdQ a b) c
  g≠0/\a * g⁻¹=((mkLn a b c).1:Rat)/\b * g⁻¹=((mkLn a b c).2.1:Rat)/\c * g⁻¹=((mkLn a b c).2.2:Rat):=by
 intro g
 have hf:a.den * b.den * c.den≠0:=Nat.mul_ne_zero (Nat.mul_ne_zero a.den_nz b.den_nz) c.den_nz
 have ea:a * (((a.den * b.den * c.den:Nat):Int):Rat)=((a.num * (b.den * c.den:Nat):Int):Rat):=by rw [Nat.mul_assoc,mul_den_num]
 have eb:b * (((a.den * b.den * c.den:Nat):Int):Rat)=((b.num * (a.den * c.den:Nat):Int):Rat):=by rw [Nat.mul_comm a.den,Nat.mul_assoc,mul_den_num]
 have ec:c * (((a.den * b.den * c.den:Nat):Int):Rat)=((c.num * (a.den * b.den:Nat):Int):Rat):=by rw [Nat.mul_comm (a.den * b.den),mul_den_num]
 have hm:mkLn a b c=lnOf (a.num * (b.den * c.den:Nat)) (b.num * (a.den * c.den:Nat)) (c.num * (a.den * b.den:Nat)):=by
  unfold mkLn
  dsimp only
  rw [ea,eb,ec,Rat.num_intCast,Rat.num_intCast,Rat.num_intCast]
 have g1:=gcdQ_scale hf ea eb
 have g2:=gcdQ_scale hf g1 ec
 rw [hm]
 have hA:a.num * (b.den * c.den:Nat)=0↔a=0:=by
  rw [Int.mul_eq_zero,Rat.num_eq_zero]
  have:=Nat.mul_ne_zero b.den_nz c.den_nz
  constructor
  ·rintro (h | h)
   ·exact h
   ·omega
  ·exact .inl
 have hB:b.num * (a.den * c.den:Nat)=0↔b=0:=by
  rw [Int.mul_eq_zero,Rat.num_eq_zero]
  have:=Nat.mul_ne_zero a.den_nz c.den_nz
  constructor
  ·rintro (h | h)
   ·exact h
   ·omega
  ·exact .inl
 generalize a.num * (b.den * c.den:Nat)=A at *
 generalize b.num * (a.den * c.den:Nat)=B at *
 generalize c.num * (a.den * b.den:Nat)=C at *
 generalize a.den * b.den * c.den=f at *
 have e3:Nat.gcd (((Nat.gcd A.natAbs B.natAbs:Nat):Int)).natAbs C.natAbs=gcd3 A B C:=by unfold gcd3; rw [Int.natAbs_natCast]
 rw [e3] at g2
 change g * ((f:Int):Rat)=_ at g2
 have hG:gcd3 A B C≠0:=by
  intro e
  have:=Nat.gcd_eq_zero_iff.1 e
  have:=Nat.gcd_eq_zero_iff.1 this.1
  exact h ⟨hA.1 (by omega),hB.1 (by omega)⟩
 have hf':((f:Int):Rat)≠0:=by exact_mod_cast hf
 have hG':((gcd3 A B C:Int):Rat)≠0:=by exact_mod_cast hG
 have hg:g≠0:=by intro e; rw [e,Rat.zero_mul] at g2; exact hG' g2.symm
 have dA:((gcd3 A B C:Nat):Int) ∣ A:=Int.natAbs_dvd_natAbs.1 (by rw [Int.natAbs_natCast]; exact Nat.dvd_trans (Nat.gcd_dvd_left _ _) (Nat.gcd_dvd_left _ _))
 have dB:((gcd3 A B C:Nat):Int) ∣ B:=Int.natAbs_dvd_natAbs.1 (by rw [Int.natAbs_natCast]; exact Nat.dvd_trans (Nat.gcd_dvd_left _ _) (Nat.gcd_dvd_right _ _))
 have dC:((gcd3 A B C:Nat):Int) ∣ C:=Int.natAbs_dvd_natAbs.1 (by rw [Int.natAbs_natCast]; exact Nat.gcd_dvd_right _ _)
 have key:∀{x:Rat} {X:Int},x * ((f:Int):Rat)=(X:Rat)->((gcd3 A B C:Nat):Int) ∣ X->x * g⁻¹=((X / (gcd3 A B C:Int):Int):Rat):=by
  intro x X hx hd
  rw [int_div_cast hG hd,← hx,← g2]
  grind
 exact ⟨hg,key ea dA,key eb dB,key ec dC⟩
theorem mkLn_nz {a b c:Rat} (h:¬ (a=0/\b=0)):¬ ((mkLn a b c).1=0/\(mkLn a b c).2.1=0):=by
 obtain ⟨g0,g1,g2,-⟩:=mkLn_spec (c:=c) h
 rintro ⟨e1,e2⟩
 rw [e1] at g1
 rw [e2] at g2
 have hi:(gcdQ (gcdQ a b) c)⁻¹≠0:=fun e=>by
  have h1:=Rat.mul_inv_cancel _ g0
  rw [e,Rat.mul_zero] at h1
  exact absurd h1 (by decide)
 apply h
 constructor
 ·rcases Rat.mul_eq_zero.1 (by simpa using g1) with e | e
  ·exact e
  ·exact absurd e hi
 ·rcases Rat.mul_eq_zero.1 (by simpa using g2) with e | e
  ·exact e
  ·exact absurd e hi
end Go.Proofs.Tryz
