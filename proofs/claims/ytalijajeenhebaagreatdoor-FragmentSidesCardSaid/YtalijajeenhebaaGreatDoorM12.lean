/- A part of the proof (joined by program from: VNumQ, NumH, NumI, NumJ, VRef, RefA, RefB, RefC, VGeo, GeoA). -/
import Derived.Test.YtalijajeenhebaaGreatDoorM5
import Derived.Test.YtalijajeenhebaaGreatDoorM11
import Derived.Test.YtalijajeenhebaaGreatDoorM9
import Derived.Test.YtalijajeenhebaaGreatDoorM10
set_option linter.unusedVariables false
open Go.IntKind (i64 u64 u32)
/- By program: the conditions of the functions, from their loaded code. -/
namespace Go.Proofs.Tryz
open Go.Eng
set_option maxRecDepth 100000
theorem vc_num_Make (neg:Bool) (mp:OA) (mn mc:Nat) (V:View) (R:Value->View->Prop)
  (h:((neg=true->(∀V1,V.Le V1->R (.agg #[.bool (decide (((mn:Nat):Int) > (0:Int))),.slice mp mn mc]) V1))/\(neg=false->(∀V2,V.Le V2->R (.agg #[.bool false,.slice mp mn mc]) V2)))) :
  Acts prog 109 #[.bool neg,.slice mp mn mc] V R:=
 fn_does (LF:=LF0) (RF:=[1000007]) (β0:=(fun _=>0)) tab_ok mixed [] [] func109 (by kernel_rfl)
  [(0,.c (.v (.bool neg))),(1,.c (.v (.slice mp mn mc)))]
  [] (by kernel_rfl) trivial h (by kernel_rfl)
theorem vc_num_Int (n:Int) (V:View) (R:Value->View->Prop)
  (h:(((decide (n < (0:Int)))=true->(∀V1,V.Le V1->Acts prog 121 #[.int .u64 (u64.wrap (0 - (u64.wrap n)))] V1 fun r1_ V2=>∃p1_ n1_ c1_,r1_=.slice p1_ n1_ c1_/\(∀V3,V2.Le V3->Acts prog 109 #[.bool true,.slice p1_ n1_ c1_] V3 fun r3_ V4=>∃b2_,∃p3_ n3_ c3_,r3_=.agg #[.bool b2_,.slice p3_ n3_ c3_]/\(∀V5,V4.Le V5->R (.agg #[.bool b2_,.slice p3_ n3_ c3_]) V5))))/\((decide (n < (0:Int)))=false->(∀V6,V.Le V6->Acts prog 121 #[.int .u64 (u64.wrap n)] V6 fun r6_ V7=>∃p4_ n4_ c4_,r6_=.slice p4_ n4_ c4_/\(∀V8,V7.Le V8->Acts prog 109 #[.bool false,.slice p4_ n4_ c4_] V8 fun r8_ V9=>∃b5_,∃p6_ n6_ c6_,r8_=.agg #[.bool b5_,.slice p6_ n6_ c6_]/\(∀V10,V9.Le V10->R (.agg #[.bool b5_,.slice p6_ n6_ c6_]) V10)))))) :
  Acts prog 116 #[.int .i64 n] V R:=
 fn_does (LF:=LF0) (RF:=[1000007]) (β0:=(fun _=>0)) tab_ok mixed [] [] func116 (by kernel_rfl)
  [(0,.c (.v (.int .i64 n)))]
  [] (by kernel_rfl) trivial h (by kernel_rfl)
theorem vc_num_Sign (a0:Bool) (a1p:OA) (a1n a1c:Nat) (V:View) (R:Value->View->Prop)
  (h:(((((a1n:Nat):Int) == (0:Int))=true->(∀V1,V.Le V1->R (.int .i64 0) V1))/\((((a1n:Nat):Int) == (0:Int))=false->((a0=true->(∀V2,V.Le V2->R (.int .i64 (-1)) V2))/\(a0=false->(∀V3,V.Le V3->R (.int .i64 1) V3)))))) :
  Acts prog 97 #[.agg #[.bool a0,.slice a1p a1n a1c]] V R:=
 fn_does (LF:=LF0) (RF:=[1000007]) (β0:=(fun _=>0)) tab_ok mixed [] [] func97 (by kernel_rfl)
  [(0,.agg [.v (.bool a0),.v (.slice a1p a1n a1c)])]
  [] (by kernel_rfl) trivial h (by kernel_rfl)
theorem vc_num_Minus (a0:Bool) (a1p:OA) (a1n a1c:Nat) (V:View) (R:Value->View->Prop)
  (h:(∀V1,V.Le V1->Acts prog 109 #[.bool (!a0),.slice a1p a1n a1c] V1 fun r1_ V2=>∃b1_,∃p2_ n2_ c2_,r1_=.agg #[.bool b1_,.slice p2_ n2_ c2_]/\(∀V3,V2.Le V3->R (.agg #[.bool b1_,.slice p2_ n2_ c2_]) V3))) :
  Acts prog 130 #[.agg #[.bool a0,.slice a1p a1n a1c]] V R:=
 fn_does (LF:=LF0) (RF:=[1000007]) (β0:=(fun _=>0)) tab_ok mixed [] [] func130 (by kernel_rfl)
  [(0,.agg [.v (.bool a0),.v (.slice a1p a1n a1c)])]
  [] (by kernel_rfl) trivial h (by kernel_rfl)
theorem vc_num_Add (a0:Bool) (a1p:OA) (a1n a1c:Nat) (b0:Bool) (b1p:OA) (b1n b1c:Nat) (V:View) (R:Value->View->Prop)
  (h:(((a0 == b0)=true->(∀V1,V.Le V1->Acts prog 180 #[.slice a1p a1n a1c,.slice b1p b1n b1c] V1 fun r1_ V2=>∃p1_ n1_ c1_,r1_=.slice p1_ n1_ c1_/\(∀V3,V2.Le V3->Acts prog 109 #[.bool a0,.slice p1_ n1_ c1_] V3 fun r3_ V4=>∃b2_,∃p3_ n3_ c3_,r3_=.agg #[.bool b2_,.slice p3_ n3_ c3_]/\(∀V5,V4.Le V5->R (.agg #[.bool b2_,.slice p3_ n3_ c3_]) V5))))/\((a0 == b0)=false->(∀V6,V.Le V6->Acts prog 134 #[.slice a1p a1n a1c,.slice b1p b1n b1c] V6 fun r6_ V7=>∃x4_,r6_=.int .i64 x4_/\(((decide (x4_ < (0:Int)))=true->(∀V8,V7.Le V8->Acts prog 181 #[.slice b1p b1n b1c,.slice a1p a1n a1c] V8 fun r8_ V9=>∃p5_ n5_ c5_,r8_=.slice p5_ n5_ c5_/\(∀V10,V9.Le V10->Acts prog 109 #[.bool b0,.slice p5_ n5_ c5_] V10 fun r10_ V11=>∃b6_,∃p7_ n7_ c7_,r10_=.agg #[.bool b6_,.slice p7_ n7_ c7_]/\(∀V12,V11.Le V12->R (.agg #[.bool b6_,.slice p7_ n7_ c7_]) V12))))/\((decide (x4_ < (0:Int)))=false->(∀V13,V7.Le V13->Acts prog 181 #[.slice a1p a1n a1c,.slice b1p b1n b1c] V13 fun r13_ V14=>∃p8_ n8_ c8_,r13_=.slice p8_ n8_ c8_/\(∀V15,V14.Le V15->Acts prog 109 #[.bool a0,.slice p8_ n8_ c8_] V15 fun r15_ V16=>∃b9_,∃p10_ n10_ c10_,r15_=.agg #[.bool b9_,.slice p10_ n10_ c10_]/\(∀V17,V16.Le V17->R (.agg #[.bool b9_,.slice p10_ n10_ c10_]) V17))))))))) :
  Acts prog 139 #[.agg #[.bool a0,.slice a1p a1n a1c],.agg #[.bool b0,.slice b1p b1n b1c]] V R:=
 fn_does (LF:=LF0) (RF:=[1000007]) (β0:=(fun _=>0)) tab_ok mixed [] [] func139 (by kernel_rfl)
  [(0,.agg [.v (.bool a0),.v (.slice a1p a1n a1c)]),(1,.agg [.v (.bool b0),.v (.slice b1p b1n b1c)])]
  [] (by kernel_rfl) trivial h (by kernel_rfl)
theorem vc_num_Mul (a0:Bool) (a1p:OA) (a1n a1c:Nat) (b0:Bool) (b1p:OA) (b1n b1c:Nat) (V:View) (R:Value->View->Prop)
  (h:(∀V1,V.Le V1->Acts prog 108 #[.slice a1p a1n a1c,.slice b1p b1n b1c] V1 fun r1_ V2=>∃p1_ n1_ c1_,r1_=.slice p1_ n1_ c1_/\(∀V3,V2.Le V3->Acts prog 109 #[.bool (!(a0 == b0)),.slice p1_ n1_ c1_] V3 fun r3_ V4=>∃b2_,∃p3_ n3_ c3_,r3_=.agg #[.bool b2_,.slice p3_ n3_ c3_]/\(∀V5,V4.Le V5->R (.agg #[.bool b2_,.slice p3_ n3_ c3_]) V5)))) :
  Acts prog 140 #[.agg #[.bool a0,.slice a1p a1n a1c],.agg #[.bool b0,.slice b1p b1n b1c]] V R:=
 fn_does (LF:=LF0) (RF:=[1000007]) (β0:=(fun _=>0)) tab_ok mixed [] [] func140 (by kernel_rfl)
  [(0,.agg [.v (.bool a0),.v (.slice a1p a1n a1c)]),(1,.agg [.v (.bool b0),.v (.slice b1p b1n b1c)])]
  [] (by kernel_rfl) trivial h (by kernel_rfl)
theorem vc_num_Den (a0:Bool) (a1p:OA) (a1n a1c:Nat) (a2p:OA) (a2n a2c:Nat) (V:View) (R:Value->View->Prop)
  (h:(((((a2n:Nat):Int) == (0:Int))=true->(∀V1,V.Le V1->Acts prog 135 #[] V1 fun r1_ V2=>∃p1_ n1_ c1_,r1_=.slice p1_ n1_ c1_/\(∀V3,V2.Le V3->R (.slice p1_ n1_ c1_) V3)))/\((((a2n:Nat):Int) == (0:Int))=false->(∀V4,V.Le V4->R (.slice a2p a2n a2c) V4)))) :
  Acts prog 106 #[.agg #[.bool a0,.slice a1p a1n a1c,.slice a2p a2n a2c]] V R:=
 fn_does (LF:=LF0) (RF:=[1000007]) (β0:=(fun _=>0)) tab_ok mixed [] [] func106 (by kernel_rfl)
  [(0,.agg [.v (.bool a0),.v (.slice a1p a1n a1c),.v (.slice a2p a2n a2c)])]
  [] (by kernel_rfl) trivial h (by kernel_rfl)
theorem vc_num_Frac (x0:Bool) (x1p:OA) (x1n x1c:Nat) (dp:OA) (dn dc:Nat) (V:View) (R:Value->View->Prop)
  (h:(∀V1,V.Le V1->Acts prog 133 #[.slice x1p x1n x1c,.slice dp dn dc] V1 fun r1_ V2=>∃p1_ n1_ c1_,r1_=.slice p1_ n1_ c1_/\(∀V3,V2.Le V3->Acts prog 135 #[] V3 fun r3_ V4=>∃p2_ n2_ c2_,r3_=.slice p2_ n2_ c2_/\(∀V5,V4.Le V5->Acts prog 134 #[.slice p1_ n1_ c1_,.slice p2_ n2_ c2_] V5 fun r5_ V6=>∃x3_,r5_=.int .i64 x3_/\(((x3_ != (0:Int))=true->(∀V7,V6.Le V7->Acts prog 167 #[.slice x1p x1n x1c,.slice p1_ n1_ c1_] V7 fun r7_ V8=>∃p4_ n4_ c4_,∃p5_ n5_ c5_,r7_=.tuple #[.slice p4_ n4_ c4_,.slice p5_ n5_ c5_]/\(∀V9,V8.Le V9->Acts prog 109 #[.bool x0,.slice p4_ n4_ c4_] V9 fun r9_ V10=>∃b6_,∃p7_ n7_ c7_,r9_=.agg #[.bool b6_,.slice p7_ n7_ c7_]/\(∀V11,V10.Le V11->Acts prog 167 #[.slice dp dn dc,.slice p1_ n1_ c1_] V11 fun r11_ V12=>∃p8_ n8_ c8_,∃p9_ n9_ c9_,r11_=.tuple #[.slice p8_ n8_ c8_,.slice p9_ n9_ c9_]/\(∀V13,V12.Le V13->Acts prog 135 #[] V13 fun r13_ V14=>∃p10_ n10_ c10_,r13_=.slice p10_ n10_ c10_/\(∀V15,V14.Le V15->Acts prog 134 #[.slice p8_ n8_ c8_,.slice p10_ n10_ c10_] V15 fun r15_ V16=>∃x11_,r15_=.int .i64 x11_/\(((x11_ == (0:Int))=true->(∀V17,V16.Le V17->R (.agg #[.bool b6_,.slice p7_ n7_ c7_,.slice none 0 0]) V17))/\((x11_ == (0:Int))=false->(∀V18,V16.Le V18->R (.agg #[.bool b6_,.slice p7_ n7_ c7_,.slice p8_ n8_ c8_]) V18)))))))))/\((x3_ != (0:Int))=false->(∀V19,V6.Le V19->Acts prog 135 #[] V19 fun r19_ V20=>∃p12_ n12_ c12_,r19_=.slice p12_ n12_ c12_/\(∀V21,V20.Le V21->Acts prog 134 #[.slice dp dn dc,.slice p12_ n12_ c12_] V21 fun r21_ V22=>∃x13_,r21_=.int .i64 x13_/\(((x13_ == (0:Int))=true->(∀V23,V22.Le V23->R (.agg #[.bool x0,.slice x1p x1n x1c,.slice none 0 0]) V23))/\((x13_ == (0:Int))=false->(∀V24,V22.Le V24->R (.agg #[.bool x0,.slice x1p x1n x1c,.slice dp dn dc]) V24))))))))))) :
  Acts prog 120 #[.agg #[.bool x0,.slice x1p x1n x1c],.slice dp dn dc] V R:=
 fn_does (LF:=LF0) (RF:=[1000007]) (β0:=(fun _=>0)) tab_ok mixed [] [] func120 (by kernel_rfl)
  [(0,.agg [.v (.bool x0),.v (.slice x1p x1n x1c)]),(1,.c (.v (.slice dp dn dc)))]
  [] (by kernel_rfl) trivial h (by kernel_rfl)
theorem vc_num_Of (n:Int) (V:View) (R:Value->View->Prop)
  (h:(∀V1,V.Le V1->Acts prog 116 #[.int .i64 n] V1 fun r1_ V2=>∃b1_,∃p2_ n2_ c2_,r1_=.agg #[.bool b1_,.slice p2_ n2_ c2_]/\(∀V3,V2.Le V3->R (.agg #[.bool b1_,.slice p2_ n2_ c2_,.slice none 0 0]) V3))) :
  Acts prog 57 #[.int .i64 n] V R:=
 fn_does (LF:=LF0) (RF:=[1000007]) (β0:=(fun _=>0)) tab_ok mixed [] [] func57 (by kernel_rfl)
  [(0,.c (.v (.int .i64 n)))]
  [] (by kernel_rfl) trivial h (by kernel_rfl)
theorem vc_num_Part (n:Int) (d:Int) (V:View) (R:Value->View->Prop)
  (h:(∀V1,V.Le V1->Acts prog 116 #[.int .i64 n] V1 fun r1_ V2=>∃b1_,∃p2_ n2_ c2_,r1_=.agg #[.bool b1_,.slice p2_ n2_ c2_]/\(∀V3,V2.Le V3->Acts prog 121 #[.int .u64 (u64.wrap d)] V3 fun r3_ V4=>∃p3_ n3_ c3_,r3_=.slice p3_ n3_ c3_/\(∀V5,V4.Le V5->Acts prog 120 #[.agg #[.bool b1_,.slice p2_ n2_ c2_],.slice p3_ n3_ c3_] V5 fun r5_ V6=>∃b4_,∃p5_ n5_ c5_,∃p6_ n6_ c6_,r5_=.agg #[.bool b4_,.slice p5_ n5_ c5_,.slice p6_ n6_ c6_]/\(∀V7,V6.Le V7->R (.agg #[.bool b4_,.slice p5_ n5_ c5_,.slice p6_ n6_ c6_]) V7))))) :
  Acts prog 65 #[.int .i64 n,.int .i64 d] V R:=
 fn_does (LF:=LF0) (RF:=[1000007]) (β0:=(fun _=>0)) tab_ok mixed [] [] func65 (by kernel_rfl)
  [(0,.c (.v (.int .i64 n))),(1,.c (.v (.int .i64 d)))]
  [] (by kernel_rfl) trivial h (by kernel_rfl)
theorem vc_num_S (a0:Bool) (a1p:OA) (a1n a1c:Nat) (a2p:OA) (a2n a2c:Nat) (V:View) (R:Value->View->Prop)
  (h:(∀V1,V.Le V1->Acts prog 97 #[.agg #[.bool a0,.slice a1p a1n a1c]] V1 fun r1_ V2=>∃x1_,r1_=.int .i64 x1_/\(∀V3,V2.Le V3->R (.int .i64 x1_) V3))) :
  Acts prog 44 #[.agg #[.bool a0,.slice a1p a1n a1c,.slice a2p a2n a2c]] V R:=
 fn_does (LF:=LF0) (RF:=[1000007]) (β0:=(fun _=>0)) tab_ok mixed [] [] func44 (by kernel_rfl)
  [(0,.agg [.v (.bool a0),.v (.slice a1p a1n a1c),.v (.slice a2p a2n a2c)])]
  [] (by kernel_rfl) trivial h (by kernel_rfl)
theorem vc_num_Opp (a0:Bool) (a1p:OA) (a1n a1c:Nat) (a2p:OA) (a2n a2c:Nat) (V:View) (R:Value->View->Prop)
  (h:(∀V1,V.Le V1->Acts prog 130 #[.agg #[.bool a0,.slice a1p a1n a1c]] V1 fun r1_ V2=>∃b1_,∃p2_ n2_ c2_,r1_=.agg #[.bool b1_,.slice p2_ n2_ c2_]/\(∀V3,V2.Le V3->R (.agg #[.bool b1_,.slice p2_ n2_ c2_,.slice a2p a2n a2c]) V3))) :
  Acts prog 72 #[.agg #[.bool a0,.slice a1p a1n a1c,.slice a2p a2n a2c]] V R:=
 fn_does (LF:=LF0) (RF:=[1000007]) (β0:=(fun _=>0)) tab_ok mixed [] [] func72 (by kernel_rfl)
  [(0,.agg [.v (.bool a0),.v (.slice a1p a1n a1c),.v (.slice a2p a2n a2c)])]
  [] (by kernel_rfl) trivial h (by kernel_rfl)
theorem vc_num_Plus (a0:Bool) (a1p:OA) (a1n a1c:Nat) (a2p:OA) (a2n a2c:Nat) (b0:Bool) (b1p:OA) (b1n b1c:Nat) (b2p:OA) (b2n b2c:Nat) (V:View) (R:Value->View->Prop)
  (h:(((((a2n:Nat):Int) == (0:Int))=true->(((((b2n:Nat):Int) == (0:Int))=true->(∀V1,V.Le V1->Acts prog 139 #[.agg #[.bool a0,.slice a1p a1n a1c],.agg #[.bool b0,.slice b1p b1n b1c]] V1 fun r1_ V2=>∃b1_,∃p2_ n2_ c2_,r1_=.agg #[.bool b1_,.slice p2_ n2_ c2_]/\(∀V3,V2.Le V3->R (.agg #[.bool b1_,.slice p2_ n2_ c2_,.slice none 0 0]) V3)))/\((((b2n:Nat):Int) == (0:Int))=false->(∀V4,V.Le V4->Acts prog 106 #[.agg #[.bool b0,.slice b1p b1n b1c,.slice b2p b2n b2c]] V4 fun r4_ V5=>∃p3_ n3_ c3_,r4_=.slice p3_ n3_ c3_/\(∀V6,V5.Le V6->Acts prog 109 #[.bool false,.slice p3_ n3_ c3_] V6 fun r6_ V7=>∃b4_,∃p5_ n5_ c5_,r6_=.agg #[.bool b4_,.slice p5_ n5_ c5_]/\(∀V8,V7.Le V8->Acts prog 140 #[.agg #[.bool a0,.slice a1p a1n a1c],.agg #[.bool b4_,.slice p5_ n5_ c5_]] V8 fun r8_ V9=>∃b6_,∃p7_ n7_ c7_,r8_=.agg #[.bool b6_,.slice p7_ n7_ c7_]/\(∀V10,V9.Le V10->Acts prog 106 #[.agg #[.bool a0,.slice a1p a1n a1c,.slice a2p a2n a2c]] V10 fun r10_ V11=>∃p8_ n8_ c8_,r10_=.slice p8_ n8_ c8_/\(∀V12,V11.Le V12->Acts prog 109 #[.bool false,.slice p8_ n8_ c8_] V12 fun r12_ V13=>∃b9_,∃p10_ n10_ c10_,r12_=.agg #[.bool b9_,.slice p10_ n10_ c10_]/\(∀V14,V13.Le V14->Acts prog 140 #[.agg #[.bool b0,.slice b1p b1n b1c],.agg #[.bool b9_,.slice p10_ n10_ c10_]] V14 fun r14_ V15=>∃b11_,∃p12_ n12_ c12_,r14_=.agg #[.bool b11_,.slice p12_ n12_ c12_]/\(∀V16,V15.Le V16->Acts prog 139 #[.agg #[.bool b6_,.slice p7_ n7_ c7_],.agg #[.bool b11_,.slice p12_ n12_ c12_]] V16 fun r16_ V17=>∃b13_,∃p14_ n14_ c14_,r16_=.agg #[.bool b13_,.slice p14_ n14_ c14_]/\(∀V18,V17.Le V18->Acts prog 106 #[.agg #[.bool a0,.slice a1p a1n a1c,.slice a2p a2n a2c]] V18 fun r18_ V19=>∃p15_ n15_ c15_,r18_=.slice p15_ n15_ c15_/\(∀V20,V19.Le V20->Acts prog 106 #[.agg #[.bool b0,.slice b1p b1n b1c,.slice b2p b2n b2c]] V20 fun r20_ V21=>∃p16_ n16_ c16_,r20_=.slice p16_ n16_ c16_/\(∀V22,V21.Le V22->Acts prog 108 #[.slice p15_ n15_ c15_,.slice p16_ n16_ c16_] V22 fun r22_ V23=>∃p17_ n17_ c17_,r22_=.slice p17_ n17_ c17_/\(∀V24,V23.Le V24->Acts prog 120 #[.agg #[.bool b13_,.slice p14_ n14_ c14_],.slice p17_ n17_ c17_] V24 fun r24_ V25=>∃b18_,∃p19_ n19_ c19_,∃p20_ n20_ c20_,r24_=.agg #[.bool b18_,.slice p19_ n19_ c19_,.slice p20_ n20_ c20_]/\(∀V26,V25.Le V26->R (.agg #[.bool b18_,.slice p19_ n19_ c19_,.slice p20_ n20_ c20_]) V26)))))))))))))))/\((((a2n:Nat):Int) == (0:Int))=false->(∀V27,V.Le V27->Acts prog 106 #[.agg #[.bool b0,.slice b1p b1n b1c,.slice b2p b2n b2c]] V27 fun r27_ V28=>∃p21_ n21_ c21_,r27_=.slice p21_ n21_ c21_/\(∀V29,V28.Le V29->Acts prog 109 #[.bool false,.slice p21_ n21_ c21_] V29 fun r29_ V30=>∃b22_,∃p23_ n23_ c23_,r29_=.agg #[.bool b22_,.slice p23_ n23_ c23_]/\(∀V31,V30.Le V31->Acts prog 140 #[.agg #[.bool a0,.slice a1p a1n a1c],.agg #[.bool b22_,.slice p23_ n23_ c23_]] V31 fun r31_ V32=>∃b24_,∃p25_ n25_ c25_,r31_=.agg #[.bool b24_,.slice p25_ n25_ c25_]/\(∀V33,V32.Le V33->Acts prog 106 #[.agg #[.bool a0,.slice a1p a1n a1c,.slice a2p a2n a2c]] V33 fun r33_ V34=>∃p26_ n26_ c26_,r33_=.slice p26_ n26_ c26_/\(∀V35,V34.Le V35->Acts prog 109 #[.bool false,.slice p26_ n26_ c26_] V35 fun r35_ V36=>∃b27_,∃p28_ n28_ c28_,r35_=.agg #[.bool b27_,.slice p28_ n28_ c28_]/\(∀V37,V36.Le V37->Acts prog 140 #[.agg #[.bool b0,.slice b1p b1n b1c],.agg #[.bool b27_,.slice p28_ n28_ c28_]] V37 fun r37_ V38=>∃b29_,∃p30_ n30_ c30_,r37_=.agg #[.bool b29_,.slice p30_ n30_ c30_]/\(∀V39,V38.Le V39->Acts prog 139 #[.agg #[.bool b24_,.slice p25_ n25_ c25_],.agg #[.bool b29_,.slice p30_ n30_ c30_]] V39 fun r39_ V40=>∃b31_,∃p32_ n32_ c32_,r39_=.agg #[.bool b31_,.slice p32_ n32_ c32_]/\(∀V41,V40.Le V41->Acts prog 106 #[.agg #[.bool a0,.slice a1p a1n a1c,.slice a2p a2n a2c]] V41 fun r41_ V42=>∃p33_ n33_ c33_,r41_=.slice p33_ n33_ c33_/\(∀V43,V42.Le V43->Acts prog 106 #[.agg #[.bool b0,.slice b1p b1n b1c,.slice b2p b2n b2c]] V43 fun r43_ V44=>∃p34_ n34_ c34_,r43_=.slice p34_ n34_ c34_/\(∀V45,V44.Le V45->Acts prog 108 #[.slice p33_ n33_ c33_,.slice p34_ n34_ c34_] V45 fun r45_ V46=>∃p35_ n35_ c35_,r45_=.slice p35_ n35_ c35_/\(∀V47,V46.Le V47->Acts prog 120 #[.agg #[.bool b31_,.slice p32_ n32_ c32_],.slice p35_ n35_ c35_] V47 fun r47_ V48=>∃b36_,∃p37_ n37_ c37_,∃p38_ n38_ c38_,r47_=.agg #[.bool b36_,.slice p37_ n37_ c37_,.slice p38_ n38_ c38_]/\(∀V49,V48.Le V49->R (.agg #[.bool b36_,.slice p37_ n37_ c37_,.slice p38_ n38_ c38_]) V49))))))))))))))) :
  Acts prog 80 #[.agg #[.bool a0,.slice a1p a1n a1c,.slice a2p a2n a2c],.agg #[.bool b0,.slice b1p b1n b1c,.slice b2p b2n b2c]] V R:=
 fn_does (LF:=LF0) (RF:=[1000007]) (β0:=(fun _=>0)) tab_ok mixed [] [] func80 (by kernel_rfl)
  [(0,.agg [.v (.bool a0),.v (.slice a1p a1n a1c),.v (.slice a2p a2n a2c)]),(1,.agg [.v (.bool b0),.v (.slice b1p b1n b1c),.v (.slice b2p b2n b2c)])]
  [] (by kernel_rfl) trivial h (by kernel_rfl)
theorem vc_num_Sub (a0:Bool) (a1p:OA) (a1n a1c:Nat) (a2p:OA) (a2n a2c:Nat) (b0:Bool) (b1p:OA) (b1n b1c:Nat) (b2p:OA) (b2n b2c:Nat) (V:View) (R:Value->View->Prop)
  (h:(∀V1,V.Le V1->Acts prog 72 #[.agg #[.bool b0,.slice b1p b1n b1c,.slice b2p b2n b2c]] V1 fun r1_ V2=>∃b1_,∃p2_ n2_ c2_,∃p3_ n3_ c3_,r1_=.agg #[.bool b1_,.slice p2_ n2_ c2_,.slice p3_ n3_ c3_]/\(∀V3,V2.Le V3->Acts prog 80 #[.agg #[.bool a0,.slice a1p a1n a1c,.slice a2p a2n a2c],.agg #[.bool b1_,.slice p2_ n2_ c2_,.slice p3_ n3_ c3_]] V3 fun r3_ V4=>∃b4_,∃p5_ n5_ c5_,∃p6_ n6_ c6_,r3_=.agg #[.bool b4_,.slice p5_ n5_ c5_,.slice p6_ n6_ c6_]/\(∀V5,V4.Le V5->R (.agg #[.bool b4_,.slice p5_ n5_ c5_,.slice p6_ n6_ c6_]) V5)))) :
  Acts prog 95 #[.agg #[.bool a0,.slice a1p a1n a1c,.slice a2p a2n a2c],.agg #[.bool b0,.slice b1p b1n b1c,.slice b2p b2n b2c]] V R:=
 fn_does (LF:=LF0) (RF:=[1000007]) (β0:=(fun _=>0)) tab_ok mixed [] [] func95 (by kernel_rfl)
  [(0,.agg [.v (.bool a0),.v (.slice a1p a1n a1c),.v (.slice a2p a2n a2c)]),(1,.agg [.v (.bool b0),.v (.slice b1p b1n b1c),.v (.slice b2p b2n b2c)])]
  [] (by kernel_rfl) trivial h (by kernel_rfl)
theorem vc_num_Times (a0:Bool) (a1p:OA) (a1n a1c:Nat) (a2p:OA) (a2n a2c:Nat) (b0:Bool) (b1p:OA) (b1n b1c:Nat) (b2p:OA) (b2n b2c:Nat) (V:View) (R:Value->View->Prop)
  (h:(((((a2n:Nat):Int) == (0:Int))=true->(((((b2n:Nat):Int) == (0:Int))=true->(∀V1,V.Le V1->Acts prog 140 #[.agg #[.bool a0,.slice a1p a1n a1c],.agg #[.bool b0,.slice b1p b1n b1c]] V1 fun r1_ V2=>∃b1_,∃p2_ n2_ c2_,r1_=.agg #[.bool b1_,.slice p2_ n2_ c2_]/\(∀V3,V2.Le V3->R (.agg #[.bool b1_,.slice p2_ n2_ c2_,.slice none 0 0]) V3)))/\((((b2n:Nat):Int) == (0:Int))=false->(∀V4,V.Le V4->Acts prog 140 #[.agg #[.bool a0,.slice a1p a1n a1c],.agg #[.bool b0,.slice b1p b1n b1c]] V4 fun r4_ V5=>∃b3_,∃p4_ n4_ c4_,r4_=.agg #[.bool b3_,.slice p4_ n4_ c4_]/\(∀V6,V5.Le V6->Acts prog 106 #[.agg #[.bool a0,.slice a1p a1n a1c,.slice a2p a2n a2c]] V6 fun r6_ V7=>∃p5_ n5_ c5_,r6_=.slice p5_ n5_ c5_/\(∀V8,V7.Le V8->Acts prog 106 #[.agg #[.bool b0,.slice b1p b1n b1c,.slice b2p b2n b2c]] V8 fun r8_ V9=>∃p6_ n6_ c6_,r8_=.slice p6_ n6_ c6_/\(∀V10,V9.Le V10->Acts prog 108 #[.slice p5_ n5_ c5_,.slice p6_ n6_ c6_] V10 fun r10_ V11=>∃p7_ n7_ c7_,r10_=.slice p7_ n7_ c7_/\(∀V12,V11.Le V12->Acts prog 120 #[.agg #[.bool b3_,.slice p4_ n4_ c4_],.slice p7_ n7_ c7_] V12 fun r12_ V13=>∃b8_,∃p9_ n9_ c9_,∃p10_ n10_ c10_,r12_=.agg #[.bool b8_,.slice p9_ n9_ c9_,.slice p10_ n10_ c10_]/\(∀V14,V13.Le V14->R (.agg #[.bool b8_,.slice p9_ n9_ c9_,.slice p10_ n10_ c10_]) V14)))))))))/\((((a2n:Nat):Int) == (0:Int))=false->(∀V15,V.Le V15->Acts prog 140 #[.agg #[.bool a0,.slice a1p a1n a1c],.agg #[.bool b0,.slice b1p b1n b1c]] V15 fun r15_ V16=>∃b11_,∃p12_ n12_ c12_,r15_=.agg #[.bool b11_,.slice p12_ n12_ c12_]/\(∀V17,V16.Le V17->Acts prog 106 #[.agg #[.bool a0,.slice a1p a1n a1c,.slice a2p a2n a2c]] V17 fun r17_ V18=>∃p13_ n13_ c13_,r17_=.slice p13_ n13_ c13_/\(∀V19,V18.Le V19->Acts prog 106 #[.agg #[.bool b0,.slice b1p b1n b1c,.slice b2p b2n b2c]] V19 fun r19_ V20=>∃p14_ n14_ c14_,r19_=.slice p14_ n14_ c14_/\(∀V21,V20.Le V21->Acts prog 108 #[.slice p13_ n13_ c13_,.slice p14_ n14_ c14_] V21 fun r21_ V22=>∃p15_ n15_ c15_,r21_=.slice p15_ n15_ c15_/\(∀V23,V22.Le V23->Acts prog 120 #[.agg #[.bool b11_,.slice p12_ n12_ c12_],.slice p15_ n15_ c15_] V23 fun r23_ V24=>∃b16_,∃p17_ n17_ c17_,∃p18_ n18_ c18_,r23_=.agg #[.bool b16_,.slice p17_ n17_ c17_,.slice p18_ n18_ c18_]/\(∀V25,V24.Le V25->R (.agg #[.bool b16_,.slice p17_ n17_ c17_,.slice p18_ n18_ c18_]) V25))))))))) :
  Acts prog 98 #[.agg #[.bool a0,.slice a1p a1n a1c,.slice a2p a2n a2c],.agg #[.bool b0,.slice b1p b1n b1c,.slice b2p b2n b2c]] V R:=
 fn_does (LF:=LF0) (RF:=[1000007]) (β0:=(fun _=>0)) tab_ok mixed [] [] func98 (by kernel_rfl)
  [(0,.agg [.v (.bool a0),.v (.slice a1p a1n a1c),.v (.slice a2p a2n a2c)]),(1,.agg [.v (.bool b0),.v (.slice b1p b1n b1c),.v (.slice b2p b2n b2c)])]
  [] (by kernel_rfl) trivial h (by kernel_rfl)
theorem vc_num_Over (a0:Bool) (a1p:OA) (a1n a1c:Nat) (a2p:OA) (a2n a2c:Nat) (b0:Bool) (b1p:OA) (b1n b1c:Nat) (b2p:OA) (b2n b2c:Nat) (V:View) (R:Value->View->Prop)
  (h:(∀V1,V.Le V1->Acts prog 106 #[.agg #[.bool b0,.slice b1p b1n b1c,.slice b2p b2n b2c]] V1 fun r1_ V2=>∃p1_ n1_ c1_,r1_=.slice p1_ n1_ c1_/\(∀V3,V2.Le V3->Acts prog 109 #[.bool b0,.slice p1_ n1_ c1_] V3 fun r3_ V4=>∃b2_,∃p3_ n3_ c3_,r3_=.agg #[.bool b2_,.slice p3_ n3_ c3_]/\(∀V5,V4.Le V5->Acts prog 140 #[.agg #[.bool a0,.slice a1p a1n a1c],.agg #[.bool b2_,.slice p3_ n3_ c3_]] V5 fun r5_ V6=>∃b4_,∃p5_ n5_ c5_,r5_=.agg #[.bool b4_,.slice p5_ n5_ c5_]/\(∀V7,V6.Le V7->Acts prog 106 #[.agg #[.bool a0,.slice a1p a1n a1c,.slice a2p a2n a2c]] V7 fun r7_ V8=>∃p6_ n6_ c6_,r7_=.slice p6_ n6_ c6_/\(∀V9,V8.Le V9->Acts prog 108 #[.slice p6_ n6_ c6_,.slice b1p b1n b1c] V9 fun r9_ V10=>∃p7_ n7_ c7_,r9_=.slice p7_ n7_ c7_/\(∀V11,V10.Le V11->Acts prog 120 #[.agg #[.bool b4_,.slice p5_ n5_ c5_],.slice p7_ n7_ c7_] V11 fun r11_ V12=>∃b8_,∃p9_ n9_ c9_,∃p10_ n10_ c10_,r11_=.agg #[.bool b8_,.slice p9_ n9_ c9_,.slice p10_ n10_ c10_]/\(∀V13,V12.Le V13->R (.agg #[.bool b8_,.slice p9_ n9_ c9_,.slice p10_ n10_ c10_]) V13)))))))) :
  Acts prog 111 #[.agg #[.bool a0,.slice a1p a1n a1c,.slice a2p a2n a2c],.agg #[.bool b0,.slice b1p b1n b1c,.slice b2p b2n b2c]] V R:=
 fn_does (LF:=LF0) (RF:=[1000007]) (β0:=(fun _=>0)) tab_ok mixed [] [] func111 (by kernel_rfl)
  [(0,.agg [.v (.bool a0),.v (.slice a1p a1n a1c),.v (.slice a2p a2n a2c)]),(1,.agg [.v (.bool b0),.v (.slice b1p b1n b1c),.v (.slice b2p b2n b2c)])]
  [] (by kernel_rfl) trivial h (by kernel_rfl)
theorem vc_num_C (a0:Bool) (a1p:OA) (a1n a1c:Nat) (a2p:OA) (a2n a2c:Nat) (b0:Bool) (b1p:OA) (b1n b1c:Nat) (b2p:OA) (b2n b2c:Nat) (V:View) (R:Value->View->Prop)
  (h:(∀V1,V.Le V1->Acts prog 95 #[.agg #[.bool a0,.slice a1p a1n a1c,.slice a2p a2n a2c],.agg #[.bool b0,.slice b1p b1n b1c,.slice b2p b2n b2c]] V1 fun r1_ V2=>∃b1_,∃p2_ n2_ c2_,∃p3_ n3_ c3_,r1_=.agg #[.bool b1_,.slice p2_ n2_ c2_,.slice p3_ n3_ c3_]/\(∀V3,V2.Le V3->Acts prog 44 #[.agg #[.bool b1_,.slice p2_ n2_ c2_,.slice p3_ n3_ c3_]] V3 fun r3_ V4=>∃x4_,r3_=.int .i64 x4_/\(∀V5,V4.Le V5->R (.int .i64 x4_) V5)))) :
  Acts prog 129 #[.agg #[.bool a0,.slice a1p a1n a1c,.slice a2p a2n a2c],.agg #[.bool b0,.slice b1p b1n b1c,.slice b2p b2n b2c]] V R:=
 fn_does (LF:=LF0) (RF:=[1000007]) (β0:=(fun _=>0)) tab_ok mixed [] [] func129 (by kernel_rfl)
  [(0,.agg [.v (.bool a0),.v (.slice a1p a1n a1c),.v (.slice a2p a2n a2c)]),(1,.agg [.v (.bool b0),.v (.slice b1p b1n b1c),.v (.slice b2p b2n b2c)])]
  [] (by kernel_rfl) trivial h (by kernel_rfl)
theorem vc_num_Half (a0:Bool) (a1p:OA) (a1n a1c:Nat) (a2p:OA) (a2n a2c:Nat) (V:View) (R:Value->View->Prop)
  (h:(∀V1,V.Le V1->Acts prog 57 #[.int .i64 2] V1 fun r1_ V2=>∃b1_,∃p2_ n2_ c2_,∃p3_ n3_ c3_,r1_=.agg #[.bool b1_,.slice p2_ n2_ c2_,.slice p3_ n3_ c3_]/\(∀V3,V2.Le V3->Acts prog 111 #[.agg #[.bool a0,.slice a1p a1n a1c,.slice a2p a2n a2c],.agg #[.bool b1_,.slice p2_ n2_ c2_,.slice p3_ n3_ c3_]] V3 fun r3_ V4=>∃b4_,∃p5_ n5_ c5_,∃p6_ n6_ c6_,r3_=.agg #[.bool b4_,.slice p5_ n5_ c5_,.slice p6_ n6_ c6_]/\(∀V5,V4.Le V5->R (.agg #[.bool b4_,.slice p5_ n5_ c5_,.slice p6_ n6_ c6_]) V5)))) :
  Acts prog 156 #[.agg #[.bool a0,.slice a1p a1n a1c,.slice a2p a2n a2c]] V R:=
 fn_does (LF:=LF0) (RF:=[1000007]) (β0:=(fun _=>0)) tab_ok mixed [] [] func156 (by kernel_rfl)
  [(0,.agg [.v (.bool a0),.v (.slice a1p a1n a1c),.v (.slice a2p a2n a2c)])]
  [] (by kernel_rfl) trivial h (by kernel_rfl)
theorem vc_num_Mid (a0:Bool) (a1p:OA) (a1n a1c:Nat) (a2p:OA) (a2n a2c:Nat) (b0:Bool) (b1p:OA) (b1n b1c:Nat) (b2p:OA) (b2n b2c:Nat) (V:View) (R:Value->View->Prop)
  (h:(∀V1,V.Le V1->Acts prog 80 #[.agg #[.bool a0,.slice a1p a1n a1c,.slice a2p a2n a2c],.agg #[.bool b0,.slice b1p b1n b1c,.slice b2p b2n b2c]] V1 fun r1_ V2=>∃b1_,∃p2_ n2_ c2_,∃p3_ n3_ c3_,r1_=.agg #[.bool b1_,.slice p2_ n2_ c2_,.slice p3_ n3_ c3_]/\(∀V3,V2.Le V3->Acts prog 156 #[.agg #[.bool b1_,.slice p2_ n2_ c2_,.slice p3_ n3_ c3_]] V3 fun r3_ V4=>∃b4_,∃p5_ n5_ c5_,∃p6_ n6_ c6_,r3_=.agg #[.bool b4_,.slice p5_ n5_ c5_,.slice p6_ n6_ c6_]/\(∀V5,V4.Le V5->R (.agg #[.bool b4_,.slice p5_ n5_ c5_,.slice p6_ n6_ c6_]) V5)))) :
  Acts prog 96 #[.agg #[.bool a0,.slice a1p a1n a1c,.slice a2p a2n a2c],.agg #[.bool b0,.slice b1p b1n b1c,.slice b2p b2n b2c]] V R:=
 fn_does (LF:=LF0) (RF:=[1000007]) (β0:=(fun _=>0)) tab_ok mixed [] [] func96 (by kernel_rfl)
  [(0,.agg [.v (.bool a0),.v (.slice a1p a1n a1c),.v (.slice a2p a2n a2c)]),(1,.agg [.v (.bool b0),.v (.slice b1p b1n b1c),.v (.slice b2p b2n b2c)])]
  [] (by kernel_rfl) trivial h (by kernel_rfl)
end Go.Proofs.Tryz
/- Contracts of the reference's integers: Make, Int, Sign, Minus, Add, Mul. -/
namespace Go.Proofs.Tryz
open Go.Eng Go.Big
theorem c_num_Make {V:View} (b:Bool) {p:OA} {n c x:Nat} (h:RN V p n c x) :
  Acts prog 109 #[.bool b,.slice p n c] V fun r V'=>RI V' r (if b then -(x:Int) else x):=by
 have hp:=len_pos_digs h.len
 refine vc_num_Make b p n c V _ ⟨fun h0 V1 l1=>?_,fun h0 V1 l1=>?_⟩
 ·rw [if_pos h0]
  refine RI.mk ?_ ?_
  ·rw [Bool.eq_iff_iff,decide_eq_true_eq,decide_eq_true_eq]
   omega
  ·rw [Int.natAbs_neg,Int.natAbs_natCast]; exact h.le l1
 ·rw [h0,if_neg (by decide)]
  refine RI.mk ?_ ?_
  ·symm; rw [decide_eq_false_iff_not]; omega
  ·rw [Int.natAbs_natCast]; exact h.le l1
theorem make_fin {V:View} {b:Bool} {p:OA} {n c x:Nat} {z:Int} (h:RN V p n c x) (hz:(if b then -(x:Int) else x)=z) :
  Acts prog 109 #[.bool b,.slice p n c] V fun r V'=>∃(b1_:Bool) (p2_:OA) (n2_ c2_:Nat),r=.agg #[.bool b1_,.slice p2_ n2_ c2_]/\∀V3:View,V'.Le V3->RI V3 (.agg #[.bool b1_,.slice p2_ n2_ c2_]) z:=by
 refine (c_num_Make b h).mono ?_
 rintro r V2 l2 ⟨p1,n1,c1,rfl,g⟩
 rw [hz] at g ⊢
 exact ⟨_,_,_,_,rfl,fun V3 l3=>⟨_,_,_,rfl,g.le l3⟩⟩
theorem c_num_Int {V:View} (n:Int) (h0:-9223372036854775808<=n) (h1:n<=9223372036854775807) :
  Acts prog 116 #[.int .i64 n] V fun r V'=>RI V' r n:=by
 refine vc_num_Int n V _ ⟨fun h2 V1 l1=>?_,fun h2 V1 l1=>?_⟩
 ·have h2:n < 0:=by simpa using h2
  have e:u64.wrap (0 - u64.wrap n)=((-n).toNat:Int):=by rw [u64m,u64m]; omega
  rw [e]
  refine (c_num_Word _ (by omega)).mono ?_
  rintro r V2 l2 ⟨p1,n1,c1,rfl,g1⟩
  exact ⟨_,_,_,rfl,fun V3 l3=>make_fin (g1.le l3) (by simp; omega)⟩
 ·have h2:0<=n:=by simpa using h2
  have e:u64.wrap n=(n.toNat:Int):=by rw [u64w (by omega)]; omega
  rw [e]
  refine (c_num_Word _ (by omega)).mono ?_
  rintro r V2 l2 ⟨p1,n1,c1,rfl,g1⟩
  exact ⟨_,_,_,rfl,fun V3 l3=>make_fin (g1.le l3) (by simp; omega)⟩
theorem c_num_Sign {V:View} (z:Int) {p:OA} {n c:Nat} (h:RN V p n c z.natAbs) :
  Acts prog 97 #[.agg #[.bool (decide (z < 0)),.slice p n c]] V fun r V'=>r=.int .i64 z.sign:=by
 have hp:=len_pos_digs h.len
 refine vc_num_Sign _ p n c V _ ⟨fun h0 V1 l1=>?_,fun h0=>⟨fun h1 V1 l1=>?_,fun h1 V1 l1=>?_⟩⟩
 ·have:z=0:=by simp at h0; omega
  rw [this]; rfl
 ·rw [decide_eq_true_eq] at h1
  rw [Int.sign_eq_neg_one_of_neg h1]
 ·rw [decide_eq_false_iff_not] at h1
  have:0 < z:=by simp at h0; omega
  rw [Int.sign_eq_one_of_pos this]
theorem c_num_Minus {V:View} (z:Int) {p:OA} {n c:Nat} (h:RN V p n c z.natAbs) :
  Acts prog 130 #[.agg #[.bool (decide (z < 0)),.slice p n c]] V fun r V'=>RI V' r (-z):=by
 refine vc_num_Minus _ p n c V _ fun V1 l1=>make_fin (h.le l1) ?_
 by_cases hz:z < 0 <;> simp [hz] <;> omega
theorem c_num_Mul {V:View} (z w:Int) {p q:OA} {n c m e:Nat} (ha:RN V p n c z.natAbs) (hb:RN V q m e w.natAbs) (hm:(digs z.natAbs).length + (digs w.natAbs).length<=1099511627776) :
  Acts prog 140 #[.agg #[.bool (decide (z < 0)),.slice p n c],.agg #[.bool (decide (w < 0)),.slice q m e]] V fun r V'=>RI V' r (z * w):=by
 refine vc_num_Mul _ p n c _ q m e V _ fun V1 l1=>(c_num_Product (ha.le l1) (hb.le l1) hm).mono ?_
 rintro r V2 l2 ⟨p1,n1,c1,rfl,g1⟩
 rw [val_digs,val_digs] at g1
 refine ⟨_,_,_,rfl,fun V3 l3=>make_fin (g1.le l3) ?_⟩
 have e1:z=ival (decide (z < 0)) (digs z.natAbs):=(ival_digs z).symm
 have e2:w=ival (decide (w < 0)) (digs w.natAbs):=(ival_digs w).symm
 conv=>rhs; rw [e1,e2]
 unfold ival
 rw [val_digs,val_digs]
 cases decide (z < 0) <;> cases decide (w < 0) <;> simp [Int.neg_mul,Int.mul_neg]
theorem c_num_Add {V:View} (z w:Int) {p q:OA} {n c m e:Nat} (ha:RN V p n c z.natAbs) (hb:RN V q m e w.natAbs) (hm:(digs z.natAbs).length<=1099511627776) (hn:(digs w.natAbs).length<=1099511627776) :
  Acts prog 139 #[.agg #[.bool (decide (z < 0)),.slice p n c],.agg #[.bool (decide (w < 0)),.slice q m e]] V fun r V'=>RI V' r (z + w):=by
 refine vc_num_Add _ p n c _ q m e V _ ⟨fun h0 V1 l1=>(c_num_Sum (ha.le l1) (hb.le l1) hm hn).mono ?_,fun h0 V1 l1=>(c_num_Cmp (ha.le l1) (hb.le l1) hm hn).mono ?_⟩
 ·rintro r V2 l2 ⟨p1,n1,c1,rfl,g1⟩
  rw [val_digs,val_digs] at g1
  refine ⟨_,_,_,rfl,fun V3 l3=>make_fin (g1.le l3) ?_⟩
  by_cases hz:z < 0 <;> by_cases hw:w < 0 <;> simp [hz,hw] at h0 ⊢ <;> omega
 ·rintro r V2 l2 rfl
  refine ⟨_,rfl,fun h2 V3 l3=>?_,fun h2 V3 l3=>?_⟩
  ·have h2:z.natAbs < w.natAbs:=by simpa [cmpN_neg] using h2
   refine (c_num_Less (hb.le (l1.trans (l2.trans l3))) (ha.le (l1.trans (l2.trans l3))) hn (digs_len_mono (Nat.le_of_lt h2)) (by rw [val_digs,val_digs]; omega)).mono ?_
   rintro r V4 l4 ⟨p1,n1,c1,rfl,g1⟩
   rw [val_digs,val_digs] at g1
   refine ⟨_,_,_,rfl,fun V5 l5=>make_fin (g1.le l5) ?_⟩
   by_cases hz:z < 0 <;> by_cases hw:w < 0 <;> simp [hz,hw] at h0 ⊢ <;> omega
  ·have h2:w.natAbs<=z.natAbs:=by simpa [← Int.not_lt,cmpN_neg] using h2
   refine (c_num_Less (ha.le (l1.trans (l2.trans l3))) (hb.le (l1.trans (l2.trans l3))) hm (digs_len_mono h2) (by rw [val_digs,val_digs]; omega)).mono ?_
   rintro r V4 l4 ⟨p1,n1,c1,rfl,g1⟩
   rw [val_digs,val_digs] at g1
   refine ⟨_,_,_,rfl,fun V5 l5=>make_fin (g1.le l5) ?_⟩
   by_cases hz:z < 0 <;> by_cases hw:w < 0 <;> simp [hz,hw] at h0 ⊢ <;> omega
end Go.Proofs.Tryz
/- Contracts of the reference's rational numbers: Den, Frac, Of, S, Opp. -/
namespace Go.Eng
open Go.Big
/-- The digits of a denominator; none stands for 1. -/
def dend (d:Nat):List Nat:=if d=1 then [] else digs d
/-- A rational number of the reference. -/
def RQ (V:View) (v:Value) (q:Rat):Prop:=∃p n c p' n' c',v=.agg #[.bool (decide (q.num < 0)),.slice p n c,.slice p' n' c'] /\
 RD V p n c (digs q.num.natAbs)/\RD V p' n' c' (dend q.den)
theorem RQ.le {V V':View} {v:Value} {q:Rat} (h:RQ V v q) (l:V.Le V'):RQ V' v q:=by
 obtain ⟨p,n,c,p',n',c',e,h1,h2⟩:=h
 exact ⟨p,n,c,p',n',c',e,h1.le l,h2.le l⟩
theorem dend_nil {q:Rat}:dend q.den=[]↔q.den=1:=by
 unfold dend
 split
 ·rename_i h; simp [h]
 ·rename_i h
  rw [digs_eq_nil]
  have:=q.den_nz
  omega
end Go.Eng
namespace Go.Proofs.Tryz
open Go.Eng Go.Big
theorem dend_len {V:View} {q:Rat} {p:OA} {n c:Nat} (h:RD V p n c (dend q.den)):n=0↔q.den=1:=by
 rw [← dend_nil,h.len,List.length_eq_zero_iff]
theorem c_num_Den {V:View} (q:Rat) {p p':OA} {n c n' c':Nat} (b:Bool) (h2:RD V p' n' c' (dend q.den)) :
  Acts prog 106 #[.agg #[.bool b,.slice p n c,.slice p' n' c']] V fun r V'=>∃p1 n1 c1,r=.slice p1 n1 c1/\RN V' p1 n1 c1 q.den:=by
 have hl:=dend_len h2
 refine vc_num_Den b p n c p' n' c' V _ ⟨fun h0 V1 l1=>c_num_One.mono ?_,fun h0 V1 l1=>⟨_,_,_,rfl,?_⟩⟩
 ·rintro r V2 l2 ⟨p1,n1,c1,rfl,g⟩
  have:q.den=1:=hl.1 (by simp at h0; omega)
  rw [this]
  exact ⟨_,_,_,rfl,fun V3 l3=>⟨_,_,_,rfl,g.le l3⟩⟩
 ·have:q.den≠1:=fun e=>by have:=hl.2 e; simp at h0; omega
  unfold dend at h2
  rw [if_neg this] at h2
  exact h2.le l1
theorem rq_of {V:View} {q:Rat} {z:Int} {d:Nat} {p p':OA} {n c n' c':Nat} (hn:q.num=z) (hd:q.den=d) (h1:RD V p n c (digs z.natAbs)) (h2:RD V p' n' c' (dend d)) {b:Bool} (hb:b=decide (z < 0)) :
  RQ V (.agg #[.bool b,.slice p n c,.slice p' n' c']) q:=by
 subst hn hd hb
 exact ⟨_,_,_,_,_,_,rfl,h1,h2⟩
theorem c_num_Frac {V:View} (z:Int) {d:Nat} {p q:OA} {n c m e:Nat} (hx:RN V p n c z.natAbs) (hy:RN V q m e d) (hm:(digs z.natAbs).length<=274877906944) (hn:(digs d).length<=274877906944) (hd:d≠0) :
  Acts prog 120 #[.agg #[.bool (decide (z < 0)),.slice p n c],.slice q m e] V fun r V'=>RQ V' r (mkRat z d):=by
 refine vc_num_Frac _ p n c q m e V _ fun V1 l1=>(c_num_Common (hx.le l1) (hy.le l1) hm hn).mono ?_
 rintro r V2 l2 ⟨p1,n1,c1,rfl,hg⟩
 have hgd:=Nat.gcd_dvd_right z.natAbs d
 have hgx:=Nat.gcd_dvd_left z.natAbs d
 have hgp:0 < Nat.gcd z.natAbs d:=Nat.gcd_pos_of_pos_right _ (by omega)
 have hgl:(digs (Nat.gcd z.natAbs d)).length<=274877906944:=Nat.le_trans (digs_len_mono (Nat.le_of_dvd (by omega) hgd)) hn
 have hnum:(mkRat z d).num=z / (Nat.gcd d z.natAbs:Nat):=by rw [Rat.num_mkRat,if_neg hd]
 have hden:(mkRat z d).den=d / Nat.gcd d z.natAbs:=by rw [Rat.den_mkRat,if_neg hd]
 rw [Nat.gcd_comm d] at hnum hden
 generalize hG:Nat.gcd z.natAbs d=g at *
 generalize mkRat z d=w at *
 refine ⟨_,_,_,rfl,fun V3 l3=>c_num_One.mono ?_⟩
 rintro r V4 l4 ⟨p2,n2,c2,rfl,h1⟩
 refine ⟨_,_,_,rfl,fun V5 l5=>(c_num_Cmp (hg.le (l3.trans (l4.trans l5))) (h1.le l5) (by omega) (by decide)).mono ?_⟩
 rintro r V6 l6 rfl
 replace hx:=hx.le (l1.trans (l2.trans (l3.trans (l4.trans (l5.trans l6)))))
 replace hy:=hy.le (l1.trans (l2.trans (l3.trans (l4.trans (l5.trans l6)))))
 replace hg:=hg.le (l3.trans (l4.trans (l5.trans l6)))
 refine ⟨_,rfl,fun h0 V7 l7=>(c_num_Divide (hx.le l7) (hg.le l7) hm hgl hgp).mono ?_,fun h0 V19 l19=>c_num_One.mono ?_⟩
 ·rintro r V8 l8 ⟨p4,n4,c4,p5,n5,c5,rfl,g1,-⟩
  have hnd:(mkRat z d).num.natAbs=(mkRat z d).num.natAbs:=rfl
  obtain ⟨k,hk⟩:=hgx
  have hk1:z.natAbs / g=k:=by rw [hk,Nat.mul_div_cancel_left _ hgp]
  rw [hk1] at g1
  have hz:z=(g:Int) * (if z < 0 then -(k:Int) else k):=by
   split
   ·rw [Int.mul_neg,← Int.natCast_mul,← hk]; omega
   ·rw [← Int.natCast_mul,← hk]; omega
  have hwn:w.num=(if z < 0 then -(k:Int) else k):=by
   rw [hnum]
   generalize (if z < 0 then -(k:Int) else k)=t at *
   rw [hz,Int.mul_ediv_cancel_left _ (by omega)]
  refine ⟨_,_,_,_,_,_,rfl,fun V9 l9=>(c_num_Make _ (g1.le l9)).mono ?_⟩
  have hite:(if decide (z < 0)=true then -(k:Int) else k)=w.num:=by
   rw [hwn]; simp
  rw [hite]
  rintro r V10 l10 ⟨p7,n7,c7,rfl,g2⟩
  refine ⟨_,_,_,_,rfl,fun V11 l11=>(c_num_Divide (hy.le (l7.trans (l8.trans (l9.trans (l10.trans l11))))) (hg.le (l7.trans (l8.trans (l9.trans (l10.trans l11))))) hn hgl hgp).mono ?_⟩
  rintro r V12 l12 ⟨p8,n8,c8,p9,n9,c9,rfl,g3,-⟩
  rw [← hden] at g3
  refine ⟨_,_,_,_,_,_,rfl,fun V13 l13=>c_num_One.mono ?_⟩
  rintro r V14 l14 ⟨p10,n10,c10,rfl,g4⟩
  have hdl:(digs w.den).length<=274877906944:=by rw [hden]; exact Nat.le_trans (digs_len_mono (Nat.div_le_self _ _)) hn
  refine ⟨_,_,_,rfl,fun V15 l15=>(c_num_Cmp (g3.le (l13.trans (l14.trans l15))) (g4.le l15) (by omega) (by decide)).mono ?_⟩
  rintro r V16 l16 rfl
  refine ⟨_,rfl,fun h9 V17 l17=>rq_of rfl rfl (g2.le (l11.trans (l12.trans (l13.trans (l14.trans (l15.trans (l16.trans l17))))))) ?_ rfl,fun h9 V18 l18=>rq_of rfl rfl (g2.le (l11.trans (l12.trans (l13.trans (l14.trans (l15.trans (l16.trans l18))))))) ?_ rfl⟩
  ·have:w.den=1:=cmpN_zero.1 (by simpa using h9)
   rw [dend_nil.2 this]; exact RD.nil
  ·have:w.den≠1:=fun e=>by rw [cmpN_zero.2 e] at h9; simp at h9
   unfold dend
   rw [if_neg this]
   exact g3.le (l13.trans (l14.trans (l15.trans (l16.trans l18))))
 ·have hg1:g=1:=cmpN_zero.1 (by simpa using h0)
  have hwn:w.num=z:=by rw [hnum,hg1]; simp
  have hwd:w.den=d:=by rw [hden,hg1]; simp
  rintro r V20 l20 ⟨p12,n12,c12,rfl,g4⟩
  refine ⟨_,_,_,rfl,fun V21 l21=>(c_num_Cmp (hy.le (l19.trans (l20.trans l21))) (g4.le l21) (by omega) (by decide)).mono ?_⟩
  rintro r V22 l22 rfl
  refine ⟨_,rfl,fun h9 V17 l17=>rq_of hwn hwd (hx.le (l19.trans (l20.trans (l21.trans (l22.trans l17))))) ?_ rfl,fun h9 V18 l18=>rq_of hwn hwd (hx.le (l19.trans (l20.trans (l21.trans (l22.trans l18))))) ?_ rfl⟩
  ·have:d=1:=cmpN_zero.1 (by simpa using h9)
   unfold dend
   rw [if_pos this]; exact RD.nil
  ·have:d≠1:=fun e=>by rw [cmpN_zero.2 e] at h9; simp at h9
   unfold dend
   rw [if_neg this]
   exact hy.le (l19.trans (l20.trans (l21.trans (l22.trans l18))))
theorem c_num_Of {V:View} (n:Int) (h0:-9223372036854775808<=n) (h1:n<=9223372036854775807) :
  Acts prog 57 #[.int .i64 n] V fun r V'=>RQ V' r (n:Rat):=by
 refine vc_num_Of n V _ fun V1 l1=>(c_num_Int n h0 h1).mono ?_
 rintro r V2 l2 ⟨p,m,c,rfl,g⟩
 exact ⟨_,_,_,_,rfl,fun V3 l3=>rq_of (z:=n) (d:=1) rfl rfl (g.le l3) RD.nil rfl⟩
theorem c_num_S {V:View} (q:Rat) {p p':OA} {n c n' c':Nat} (h1:RD V p n c (digs q.num.natAbs)) :
  Acts prog 44 #[.agg #[.bool (decide (q.num < 0)),.slice p n c,.slice p' n' c']] V fun r V'=>r=.int .i64 q.num.sign:=by
 refine vc_num_S _ p n c p' n' c' V _ fun V1 l1=>(c_num_Sign q.num (h1.le l1)).mono ?_
 rintro r V2 l2 rfl
 exact ⟨_,rfl,fun V3 l3=>rfl⟩
theorem c_num_Opp {V:View} (q:Rat) {p p':OA} {n c n' c':Nat} (h1:RD V p n c (digs q.num.natAbs)) (h2:RD V p' n' c' (dend q.den)) :
  Acts prog 72 #[.agg #[.bool (decide (q.num < 0)),.slice p n c,.slice p' n' c']] V fun r V'=>RQ V' r (-q):=by
 refine vc_num_Opp _ p n c p' n' c' V _ fun V1 l1=>(c_num_Minus q.num (h1.le l1)).mono ?_
 rintro r V2 l2 ⟨p1,n1,c1,rfl,g⟩
 exact ⟨_,_,_,_,rfl,fun V3 l3=>rq_of (q:=-q) (z:=-q.num) (d:=q.den) (by rfl) (by rfl) (g.le l3) ((h2.le l1).le (l2.trans l3)) rfl⟩
end Go.Proofs.Tryz
/- Contracts of the reference's rational numbers: Plus, Sub, Times, C. -/
namespace Go.Proofs.Tryz
open Go.Eng Go.Big
theorem c_num_pos {V:View} {p:OA} {n c x:Nat} (h:RN V p n c x) :
  Acts prog 109 #[.bool false,.slice p n c] V fun r V'=>RI V' r (x:Int):=by
 have:=c_num_Make false h
 rwa [if_neg (by decide)] at this
theorem den_one_len {x:Rat} {k:Nat} (h:Sz k x):(digs x.num.natAbs).length<=k/\(digs x.den).length<=k/\(digs (x.den:Int).natAbs).length<=k:=⟨digs_len_bits h.1,digs_len_bits h.2,digs_len_bits h.2⟩
theorem c_num_Plus {V:View} {v w:Value} {x y:Rat} (hx:RQ V v x) (hy:RQ V w y) {k m:Nat} (hk:Sz k x) (hm:Sz m y) (hkm:k + m < 274877906944) :
  Acts prog 80 #[v,w] V fun r V'=>RQ V' r (x + y):=by
 obtain ⟨p,n,c,p',n',c',rfl,hx1,hx2⟩:=hx
 obtain ⟨q,i,e,q',i',e',rfl,hy1,hy2⟩:=hy
 have hlx:=dend_len hx2
 have hly:=dend_len hy2
 obtain ⟨b1,b2,b3,b4⟩:=add_bits hk hm
 obtain ⟨d1,d2,d3⟩:=den_one_len hk
 obtain ⟨d4,d5,d6⟩:=den_one_len hm
 have hxy:x + y=mkRat (x.num * y.den + y.num * x.den) (x.den * y.den):=Rat.add_def' x y
 refine (fun tail=>vc_num_Plus _ p n c p' n' c' _ q i e q' i' e' V _ ⟨fun h0=>⟨fun h1 V1 l1=>?_,fun _=>tail⟩,fun _=>tail⟩) ?_
 ·clear tail
  have h0:x.den=1:=hlx.1 (by simp at h0; omega)
  have h1:y.den=1:=hly.1 (by simp at h1; omega)
  refine (c_num_Add x.num y.num (hx1.le l1) (hy1.le l1) (by omega) (by omega)).mono ?_
  rintro r V2 l2 ⟨p2,n2,c2,rfl,g⟩
  have e1:x + y=((x.num + y.num:Int):Rat):=by
   rw [hxy,h0,h1]; simp [Rat.mkRat_one]
  rw [e1]
  exact ⟨_,_,_,_,rfl,fun V3 l3=>rq_of (z:=x.num + y.num) (d:=1) rfl rfl (g.le l3) RD.nil rfl⟩
 ·intro V1 l1
  refine (c_num_Den y _ (hy2.le l1)).mono ?_
  rintro r V2 l2 ⟨p1,n1,c1,rfl,g1⟩
  refine ⟨_,_,_,rfl,fun V3 l3=>(c_num_pos (g1.le l3)).mono ?_⟩
  rintro r V4 l4 ⟨p3,n3,c3,rfl,g3⟩
  have l04:=l1.trans (l2.trans (l3.trans l4))
  refine ⟨_,_,_,_,rfl,fun V5 l5=>(c_num_Mul x.num y.den (hx1.le (l04.trans l5)) (g3.le l5) (by omega)).mono ?_⟩
  rintro r V6 l6 ⟨p5,n5,c5,rfl,g5⟩
  have l06:=l04.trans (l5.trans l6)
  refine ⟨_,_,_,_,rfl,fun V7 l7=>(c_num_Den x _ (hx2.le (l06.trans l7))).mono ?_⟩
  rintro r V8 l8 ⟨p7,n7,c7,rfl,g7⟩
  have l08:=l06.trans (l7.trans l8)
  refine ⟨_,_,_,rfl,fun V9 l9=>(c_num_pos (g7.le l9)).mono ?_⟩
  rintro r V10 l10 ⟨p9,n9,c9,rfl,g9⟩
  have l10':=l08.trans (l9.trans l10)
  refine ⟨_,_,_,_,rfl,fun V11 l11=>(c_num_Mul y.num x.den (hy1.le (l10'.trans l11)) (g9.le l11) (by omega)).mono ?_⟩
  rintro r V12 l12 ⟨p11,n11,c11,rfl,g11⟩
  have l012:=l10'.trans (l11.trans l12)
  refine ⟨_,_,_,_,rfl,fun V13 l13=>(c_num_Add _ _ (g5.le (l7.trans (l8.trans (l9.trans (l10.trans (l11.trans (l12.trans l13))))))) (g11.le l13) (Nat.le_trans (digs_len_bits b1) (by omega)) (Nat.le_trans (digs_len_bits b2) (by omega))).mono ?_⟩
  rintro r V14 l14 ⟨p13,n13,c13,rfl,g13⟩
  have l014:=l012.trans (l13.trans l14)
  refine ⟨_,_,_,_,rfl,fun V15 l15=>(c_num_Den x _ (hx2.le (l014.trans l15))).mono ?_⟩
  rintro r V16 l16 ⟨p15,n15,c15,rfl,g15⟩
  have l016:=l014.trans (l15.trans l16)
  refine ⟨_,_,_,rfl,fun V17 l17=>(c_num_Den y _ (hy2.le (l016.trans l17))).mono ?_⟩
  rintro r V18 l18 ⟨p17,n17,c17,rfl,g17⟩
  refine ⟨_,_,_,rfl,fun V19 l19=>(c_num_Product (g15.le (l17.trans (l18.trans l19))) (g17.le l19) (by omega)).mono ?_⟩
  rintro r V20 l20 ⟨p19,n19,c19,rfl,g19⟩
  rw [val_digs,val_digs] at g19
  refine ⟨_,_,_,rfl,fun V21 l21=>(c_num_Frac _ (g13.le (l15.trans (l16.trans (l17.trans (l18.trans (l19.trans (l20.trans l21))))))) (g19.le l21) (Nat.le_trans (digs_len_bits b3) (by omega)) (Nat.le_trans (digs_len_bits b4) (by omega)) (Nat.mul_ne_zero x.den_nz y.den_nz)).mono ?_⟩
  rw [hxy]
  rintro r V22 l22 ⟨p21,n21,c21,p22,n22,c22,rfl,g21,g22⟩
  exact ⟨_,_,_,_,_,_,_,rfl,fun V23 l23=>⟨_,_,_,_,_,_,rfl,g21.le l23,g22.le l23⟩⟩
theorem c_num_Sub {V:View} {v w:Value} {x y:Rat} (hx:RQ V v x) (hy:RQ V w y) {k m:Nat} (hk:Sz k x) (hm:Sz m y) (hkm:k + m < 274877906944) :
  Acts prog 95 #[v,w] V fun r V'=>RQ V' r (x - y):=by
 have hx0:=hx
 obtain ⟨p,n,c,p',n',c',rfl,hx1,hx2⟩:=hx
 obtain ⟨q,i,e,q',i',e',rfl,hy1,hy2⟩:=hy
 refine vc_num_Sub _ p n c p' n' c' _ q i e q' i' e' V _ fun V1 l1=>(c_num_Opp y (hy1.le l1) (hy2.le l1)).mono ?_
 rintro r V2 l2 h2
 obtain ⟨p1,n1,c1,p2,n2,c2,rfl,g1,g2⟩:=id h2
 refine ⟨_,_,_,_,_,_,_,rfl,fun V3 l3=>(c_num_Plus (hx0.le (l1.trans (l2.trans l3))) (h2.le l3) hk hm.neg hkm).mono ?_⟩
 rw [← Rat.sub_eq_add_neg]
 rintro r V4 l4 ⟨p3,n3,c3,p4,n4,c4,rfl,g3,g4⟩
 exact ⟨_,_,_,_,_,_,_,rfl,fun V5 l5=>⟨_,_,_,_,_,_,rfl,g3.le l5,g4.le l5⟩⟩
theorem c_num_C {V:View} {v w:Value} {x y:Rat} (hx:RQ V v x) (hy:RQ V w y) {k m:Nat} (hk:Sz k x) (hm:Sz m y) (hkm:k + m < 274877906944) :
  Acts prog 129 #[v,w] V fun r V'=>r=.int .i64 (cmpQ x y):=by
 have hx0:=hx
 have hy0:=hy
 obtain ⟨p,n,c,p',n',c',rfl,hx1,hx2⟩:=hx
 obtain ⟨q,i,e,q',i',e',rfl,hy1,hy2⟩:=hy
 refine vc_num_C _ p n c p' n' c' _ q i e q' i' e' V _ fun V1 l1=>(c_num_Sub (hx0.le l1) (hy0.le l1) hk hm hkm).mono ?_
 rintro r V2 l2 ⟨p1,n1,c1,p2,n2,c2,rfl,g1,g2⟩
 refine ⟨_,_,_,_,_,_,_,rfl,fun V3 l3=>(c_num_S (x - y) (g1.le l3)).mono ?_⟩
 rintro r V4 l4 rfl
 exact ⟨_,rfl,fun V5 l5=>rfl⟩
theorem c_num_Times {V:View} {v w:Value} {x y:Rat} (hx:RQ V v x) (hy:RQ V w y) {k m:Nat} (hk:Sz k x) (hm:Sz m y) (hkm:k + m < 274877906944) :
  Acts prog 98 #[v,w] V fun r V'=>RQ V' r (x * y):=by
 obtain ⟨p,n,c,p',n',c',rfl,hx1,hx2⟩:=hx
 obtain ⟨q,i,e,q',i',e',rfl,hy1,hy2⟩:=hy
 have hlx:=dend_len hx2
 have hly:=dend_len hy2
 obtain ⟨d1,d2,d3⟩:=den_one_len hk
 obtain ⟨d4,d5,d6⟩:=den_one_len hm
 have hxy:x * y=mkRat (x.num * y.num) (x.den * y.den):=Rat.mul_def' x y
 have b1:(x.num * y.num).natAbs < 2 ^ (k + m):=by rw [Int.natAbs_mul]; exact pow_mul_lt hk.1 hm.1
 have b2:x.den * y.den < 2 ^ (k + m):=pow_mul_lt hk.2 hm.2
 refine (fun tail=>vc_num_Times _ p n c p' n' c' _ q i e q' i' e' V _ ⟨fun h0=>⟨fun h1 V1 l1=>?_,fun _=>tail⟩,fun _=>tail⟩) ?_
 ·clear tail
  have h0:x.den=1:=hlx.1 (by simp at h0; omega)
  have h1:y.den=1:=hly.1 (by simp at h1; omega)
  refine (c_num_Mul x.num y.num (hx1.le l1) (hy1.le l1) (by omega)).mono ?_
  rintro r V2 l2 ⟨p2,n2,c2,rfl,g⟩
  have e1:x * y=((x.num * y.num:Int):Rat):=by
   rw [hxy,h0,h1]; simp [Rat.mkRat_one]
  rw [e1]
  exact ⟨_,_,_,_,rfl,fun V3 l3=>rq_of (z:=x.num * y.num) (d:=1) rfl rfl (g.le l3) RD.nil rfl⟩
 ·intro V1 l1
  refine (c_num_Mul x.num y.num (hx1.le l1) (hy1.le l1) (by omega)).mono ?_
  rintro r V2 l2 ⟨p2,n2,c2,rfl,g2⟩
  refine ⟨_,_,_,_,rfl,fun V3 l3=>(c_num_Den x _ (hx2.le (l1.trans (l2.trans l3)))).mono ?_⟩
  rintro r V4 l4 ⟨p4,n4,c4,rfl,g4⟩
  refine ⟨_,_,_,rfl,fun V5 l5=>(c_num_Den y _ (hy2.le (l1.trans (l2.trans (l3.trans (l4.trans l5)))))).mono ?_⟩
  rintro r V6 l6 ⟨p6,n6,c6,rfl,g6⟩
  refine ⟨_,_,_,rfl,fun V7 l7=>(c_num_Product (g4.le (l5.trans (l6.trans l7))) (g6.le l7) (by omega)).mono ?_⟩
  rintro r V8 l8 ⟨p8,n8,c8,rfl,g8⟩
  rw [val_digs,val_digs] at g8
  refine ⟨_,_,_,rfl,fun V9 l9=>(c_num_Frac _ (g2.le (l3.trans (l4.trans (l5.trans (l6.trans (l7.trans (l8.trans l9))))))) (g8.le l9) (Nat.le_trans (digs_len_bits b1) (by omega)) (Nat.le_trans (digs_len_bits b2) (by omega)) (Nat.mul_ne_zero x.den_nz y.den_nz)).mono ?_⟩
  rw [hxy]
  rintro r V22 l22 ⟨p21,n21,c21,p22,n22,c22,rfl,g21,g22⟩
  exact ⟨_,_,_,_,_,_,_,rfl,fun V23 l23=>⟨_,_,_,_,_,_,rfl,g21.le l23,g22.le l23⟩⟩
end Go.Proofs.Tryz
/- By program: the conditions of the functions, from their loaded code. -/
namespace Go.Proofs.Tryz
open Go.Eng
set_option maxRecDepth 100000
theorem vc_ref01_ToN (ap:OA) (an ac:Nat) (V:View) (R:Value->View->Prop)
  (h:(∃xs1_:List Value,V.sl ap xs1_/\xs1_.length=an * 1/\((0 + an) * 4<=140737488355328/\0<=0/\0 * 1<=([]:List Value).length/\xs1_.length=an * 1/\(∀v ∈ xs1_,v.oneCell'=true)/\∀(bk4_:Nat) (J5_:C->Value) (sp2_:List Value) (c3_:Nat),0 + an<=c3_->c3_ * 1<=(0 + an) * 1 + sp2_.length->(∀V1,V.Le V1->∀bk6_:Nat,(V1.blk bk6_ (.cells (([]:List Value).take (0 * 1)++xs1_++sp2_).toArray 244 (0,0)))->R (.slice (some ⟨bk6_,0,none⟩) (0 + an) c3_) V1)))) :
  Acts prog 105 #[.slice ap an ac] V R:=
 fn_does (LF:=LF0) (RF:=[1000007]) (β0:=(fun _=>0)) tab_ok mixed [] [] func105 (by kernel_rfl)
  [(0,.c (.v (.slice ap an ac)))]
  [] (by kernel_rfl) trivial h (by kernel_rfl)
theorem vc_ref01_ToI (a0:Bool) (a1p:OA) (a1n a1c:Nat) (V:View) (R:Value->View->Prop)
  (h:(∀V1,V.Le V1->Acts prog 105 #[.slice a1p a1n a1c] V1 fun r1_ V2=>∃p1_ n1_ c1_,r1_=.slice p1_ n1_ c1_/\(∀V3,V2.Le V3->R (.agg #[.bool a0,.slice p1_ n1_ c1_]) V3))) :
  Acts prog 93 #[.agg #[.bool a0,.slice a1p a1n a1c]] V R:=
 fn_does (LF:=LF0) (RF:=[1000007]) (β0:=(fun _=>0)) tab_ok mixed [] [] func93 (by kernel_rfl)
  [(0,.agg [.v (.bool a0),.v (.slice a1p a1n a1c)])]
  [] (by kernel_rfl) trivial h (by kernel_rfl)
theorem vc_ref01_SameN (ap:OA) (an ac:Nat) (bp:OA) (bn bc:Nat) (V:View) (R:Value->View->Prop)
  (h:(((((an:Nat):Int) != ((bn:Nat):Int))=true->(∀V1,V.Le V1->R (.bool false) V1))/\((((an:Nat):Int) != ((bn:Nat):Int))=false->(∃(I1_:Int->View->Prop) (m2_:Int->Nat),(∃z3_:Int,(sm ap/\sm an/\sm ac/\sm bp/\sm bn/\sm bc/\sm ((an:Nat):Int)/\((0:Int)=z3_))/\I1_ z3_ V)/\∀(z4_:Int) (V2:View),V.Le V2->I1_ z4_ V2->(true=true/\(((decide (z4_ < ((an:Nat):Int)))=true->(ap.isSome=true)/\(0<=z4_/\z4_ < ((an:Nat):Int))/\(∃x5_,(∃a6_,addrAdd ap (z4_.toNat * 1)=some a6_/\V2.at a6_ (.int .u32 x5_))/\(bp.isSome=true)/\(0<=z4_/\z4_ < ((bn:Nat):Int))/\(∃x7_,(∃a8_,addrAdd bp (z4_.toNat * 1)=some a8_/\V2.at a8_ (.int .u32 x7_))/\(((x5_ != x7_)=true->(∀V3,V2.Le V3->R (.bool false) V3))/\((x5_ != x7_)=false->(∃z9_:Int,m2_ z9_ < m2_ z4_/\(sm ap/\sm an/\sm ac/\sm bp/\sm bn/\sm bc/\sm ((an:Nat):Int)/\((i64.wrap (z4_ + (1:Int)))=z9_))/\I1_ z9_ V2))))))/\((decide (z4_ < ((an:Nat):Int)))=false->(∀V4,V2.Le V4->R (.bool true) V4)))))))) :
  Acts prog 119 #[.slice ap an ac,.slice bp bn bc] V R:=
 fn_does (LF:=LF0) (RF:=[1000007]) (β0:=(fun _=>0)) tab_ok mixed [(4,{ τ:=Int,keep:=[0,1,12],keepB:=[],slots:=fun z=>[(13,.c (.v (.int .i64 z)))],boxes:=fun z=>[] })] [] func119 (by kernel_rfl)
  [(0,.c (.v (.slice ap an ac))),(1,.c (.v (.slice bp bn bc)))]
  [] (by kernel_rfl) trivial h (by kernel_rfl)
theorem vc_ref01_SameI (a0:Bool) (a1p:OA) (a1n a1c:Nat) (b0:Bool) (b1p:OA) (b1n b1c:Nat) (V:View) (R:Value->View->Prop)
  (h:(((a0 == b0)=true->(∀V1,V.Le V1->Acts prog 119 #[.slice a1p a1n a1c,.slice b1p b1n b1c] V1 fun r1_ V2=>∃b1_,r1_=.bool b1_/\(∀V3,V2.Le V3->R (.bool b1_) V3)))/\((a0 == b0)=false->(∀V4,V.Le V4->R (.bool false) V4)))) :
  Acts prog 114 #[.agg #[.bool a0,.slice a1p a1n a1c],.agg #[.bool b0,.slice b1p b1n b1c]] V R:=
 fn_does (LF:=LF0) (RF:=[1000007]) (β0:=(fun _=>0)) tab_ok mixed [] [] func114 (by kernel_rfl)
  [(0,.agg [.v (.bool a0),.v (.slice a1p a1n a1c)]),(1,.agg [.v (.bool b0),.v (.slice b1p b1n b1c)])]
  [] (by kernel_rfl) trivial h (by kernel_rfl)
theorem vc_ref04_Xy (x:Int) (y:Int) (V:View) (R:Value->View->Prop)
  (h:(∀V1,V.Le V1->Acts prog 57 #[.int .i64 x] V1 fun r1_ V2=>∃b1_,∃p2_ n2_ c2_,∃p3_ n3_ c3_,r1_=.agg #[.bool b1_,.slice p2_ n2_ c2_,.slice p3_ n3_ c3_]/\(∀V3,V2.Le V3->Acts prog 57 #[.int .i64 y] V3 fun r3_ V4=>∃b4_,∃p5_ n5_ c5_,∃p6_ n6_ c6_,r3_=.agg #[.bool b4_,.slice p5_ n5_ c5_,.slice p6_ n6_ c6_]/\(∀V5,V4.Le V5->R (.agg #[.bool b1_,.slice p2_ n2_ c2_,.slice p3_ n3_ c3_,.bool b4_,.slice p5_ n5_ c5_,.slice p6_ n6_ c6_]) V5)))) :
  Acts prog 115 #[.int .i64 x,.int .i64 y] V R:=
 fn_does (LF:=LF0) (RF:=[1000007]) (β0:=(fun _=>0)) tab_ok mixed [] [] func115 (by kernel_rfl)
  [(0,.c (.v (.int .i64 x))),(1,.c (.v (.int .i64 y)))]
  [] (by kernel_rfl) trivial h (by kernel_rfl)
theorem vc_ref04_Add (p0:Bool) (p1p:OA) (p1n p1c:Nat) (p2p:OA) (p2n p2c:Nat) (p3:Bool) (p4p:OA) (p4n p4c:Nat) (p5p:OA) (p5n p5c:Nat) (c0:Bool) (c1p:OA) (c1n c1c:Nat) (c2p:OA) (c2n c2c:Nat) (q0:Bool) (q1p:OA) (q1n q1c:Nat) (q2p:OA) (q2n q2c:Nat) (q3:Bool) (q4p:OA) (q4n q4c:Nat) (q5p:OA) (q5n q5c:Nat) (V:View) (R:Value->View->Prop)
  (h:(∀V1,V.Le V1->Acts prog 98 #[.agg #[.bool c0,.slice c1p c1n c1c,.slice c2p c2n c2c],.agg #[.bool q0,.slice q1p q1n q1c,.slice q2p q2n q2c]] V1 fun r1_ V2=>∃b1_,∃p2_ n2_ c2_,∃p3_ n3_ c3_,r1_=.agg #[.bool b1_,.slice p2_ n2_ c2_,.slice p3_ n3_ c3_]/\(∀V3,V2.Le V3->Acts prog 80 #[.agg #[.bool p0,.slice p1p p1n p1c,.slice p2p p2n p2c],.agg #[.bool b1_,.slice p2_ n2_ c2_,.slice p3_ n3_ c3_]] V3 fun r3_ V4=>∃b4_,∃p5_ n5_ c5_,∃p6_ n6_ c6_,r3_=.agg #[.bool b4_,.slice p5_ n5_ c5_,.slice p6_ n6_ c6_]/\(∀V5,V4.Le V5->Acts prog 98 #[.agg #[.bool c0,.slice c1p c1n c1c,.slice c2p c2n c2c],.agg #[.bool q3,.slice q4p q4n q4c,.slice q5p q5n q5c]] V5 fun r5_ V6=>∃b7_,∃p8_ n8_ c8_,∃p9_ n9_ c9_,r5_=.agg #[.bool b7_,.slice p8_ n8_ c8_,.slice p9_ n9_ c9_]/\(∀V7,V6.Le V7->Acts prog 80 #[.agg #[.bool p3,.slice p4p p4n p4c,.slice p5p p5n p5c],.agg #[.bool b7_,.slice p8_ n8_ c8_,.slice p9_ n9_ c9_]] V7 fun r7_ V8=>∃b10_,∃p11_ n11_ c11_,∃p12_ n12_ c12_,r7_=.agg #[.bool b10_,.slice p11_ n11_ c11_,.slice p12_ n12_ c12_]/\(∀V9,V8.Le V9->R (.agg #[.bool b4_,.slice p5_ n5_ c5_,.slice p6_ n6_ c6_,.bool b10_,.slice p11_ n11_ c11_,.slice p12_ n12_ c12_]) V9)))))) :
  Acts prog 56 #[.agg #[.bool p0,.slice p1p p1n p1c,.slice p2p p2n p2c,.bool p3,.slice p4p p4n p4c,.slice p5p p5n p5c],.agg #[.bool c0,.slice c1p c1n c1c,.slice c2p c2n c2c],.agg #[.bool q0,.slice q1p q1n q1c,.slice q2p q2n q2c,.bool q3,.slice q4p q4n q4c,.slice q5p q5n q5c]] V R:=
 fn_does (LF:=LF0) (RF:=[1000007]) (β0:=(fun _=>0)) tab_ok mixed [] [] func56 (by kernel_rfl)
  [(0,.agg [.v (.bool p0),.v (.slice p1p p1n p1c),.v (.slice p2p p2n p2c),.v (.bool p3),.v (.slice p4p p4n p4c),.v (.slice p5p p5n p5c)]),(1,.agg [.v (.bool c0),.v (.slice c1p c1n c1c),.v (.slice c2p c2n c2c)]),(2,.agg [.v (.bool q0),.v (.slice q1p q1n q1c),.v (.slice q2p q2n q2c),.v (.bool q3),.v (.slice q4p q4n q4c),.v (.slice q5p q5n q5c)])]
  [] (by kernel_rfl) trivial h (by kernel_rfl)
theorem vc_ref04_Sub (p0:Bool) (p1p:OA) (p1n p1c:Nat) (p2p:OA) (p2n p2c:Nat) (p3:Bool) (p4p:OA) (p4n p4c:Nat) (p5p:OA) (p5n p5c:Nat) (q0:Bool) (q1p:OA) (q1n q1c:Nat) (q2p:OA) (q2n q2c:Nat) (q3:Bool) (q4p:OA) (q4n q4c:Nat) (q5p:OA) (q5n q5c:Nat) (V:View) (R:Value->View->Prop)
  (h:(∀V1,V.Le V1->Acts prog 57 #[.int .i64 (-1)] V1 fun r1_ V2=>∃b1_,∃p2_ n2_ c2_,∃p3_ n3_ c3_,r1_=.agg #[.bool b1_,.slice p2_ n2_ c2_,.slice p3_ n3_ c3_]/\(∀V3,V2.Le V3->Acts prog 56 #[.agg #[.bool p0,.slice p1p p1n p1c,.slice p2p p2n p2c,.bool p3,.slice p4p p4n p4c,.slice p5p p5n p5c],.agg #[.bool b1_,.slice p2_ n2_ c2_,.slice p3_ n3_ c3_],.agg #[.bool q0,.slice q1p q1n q1c,.slice q2p q2n q2c,.bool q3,.slice q4p q4n q4c,.slice q5p q5n q5c]] V3 fun r3_ V4=>∃b4_,∃p5_ n5_ c5_,∃p6_ n6_ c6_,∃b7_,∃p8_ n8_ c8_,∃p9_ n9_ c9_,r3_=.agg #[.bool b4_,.slice p5_ n5_ c5_,.slice p6_ n6_ c6_,.bool b7_,.slice p8_ n8_ c8_,.slice p9_ n9_ c9_]/\(∀V5,V4.Le V5->R (.agg #[.bool b4_,.slice p5_ n5_ c5_,.slice p6_ n6_ c6_,.bool b7_,.slice p8_ n8_ c8_,.slice p9_ n9_ c9_]) V5)))) :
  Acts prog 107 #[.agg #[.bool p0,.slice p1p p1n p1c,.slice p2p p2n p2c,.bool p3,.slice p4p p4n p4c,.slice p5p p5n p5c],.agg #[.bool q0,.slice q1p q1n q1c,.slice q2p q2n q2c,.bool q3,.slice q4p q4n q4c,.slice q5p q5n q5c]] V R:=
 fn_does (LF:=LF0) (RF:=[1000007]) (β0:=(fun _=>0)) tab_ok mixed [] [] func107 (by kernel_rfl)
  [(0,.agg [.v (.bool p0),.v (.slice p1p p1n p1c),.v (.slice p2p p2n p2c),.v (.bool p3),.v (.slice p4p p4n p4c),.v (.slice p5p p5n p5c)]),(1,.agg [.v (.bool q0),.v (.slice q1p q1n q1c),.v (.slice q2p q2n q2c),.v (.bool q3),.v (.slice q4p q4n q4c),.v (.slice q5p q5n q5c)])]
  [] (by kernel_rfl) trivial h (by kernel_rfl)
theorem vc_ref04_Same (p0:Bool) (p1p:OA) (p1n p1c:Nat) (p2p:OA) (p2n p2c:Nat) (p3:Bool) (p4p:OA) (p4n p4c:Nat) (p5p:OA) (p5n p5c:Nat) (q0:Bool) (q1p:OA) (q1n q1c:Nat) (q2p:OA) (q2n q2c:Nat) (q3:Bool) (q4p:OA) (q4n q4c:Nat) (q5p:OA) (q5n q5c:Nat) (V:View) (R:Value->View->Prop)
  (h:(∀V1,V.Le V1->Acts prog 129 #[.agg #[.bool p0,.slice p1p p1n p1c,.slice p2p p2n p2c],.agg #[.bool q0,.slice q1p q1n q1c,.slice q2p q2n q2c]] V1 fun r1_ V2=>∃x1_,r1_=.int .i64 x1_/\(((x1_ == (0:Int))=true->(∀V3,V2.Le V3->Acts prog 129 #[.agg #[.bool p3,.slice p4p p4n p4c,.slice p5p p5n p5c],.agg #[.bool q3,.slice q4p q4n q4c,.slice q5p q5n q5c]] V3 fun r3_ V4=>∃x2_,r3_=.int .i64 x2_/\(∀V5,V4.Le V5->R (.bool (x2_ == (0:Int))) V5)))/\((x1_ == (0:Int))=false->(∀V6,V2.Le V6->R (.bool false) V6))))) :
  Acts prog 117 #[.agg #[.bool p0,.slice p1p p1n p1c,.slice p2p p2n p2c,.bool p3,.slice p4p p4n p4c,.slice p5p p5n p5c],.agg #[.bool q0,.slice q1p q1n q1c,.slice q2p q2n q2c,.bool q3,.slice q4p q4n q4c,.slice q5p q5n q5c]] V R:=
 fn_does (LF:=LF0) (RF:=[1000007]) (β0:=(fun _=>0)) tab_ok mixed [] [] func117 (by kernel_rfl)
  [(0,.agg [.v (.bool p0),.v (.slice p1p p1n p1c),.v (.slice p2p p2n p2c),.v (.bool p3),.v (.slice p4p p4n p4c),.v (.slice p5p p5n p5c)]),(1,.agg [.v (.bool q0),.v (.slice q1p q1n q1c),.v (.slice q2p q2n q2c),.v (.bool q3),.v (.slice q4p q4n q4c),.v (.slice q5p q5n q5c)])]
  [] (by kernel_rfl) trivial h (by kernel_rfl)
theorem vc_ref04_MakeL (a0:Bool) (a1p:OA) (a1n a1c:Nat) (b0:Bool) (b1p:OA) (b1n b1c:Nat) (c0:Bool) (c1p:OA) (c1n c1c:Nat) (V:View) (R:Value->View->Prop)
  (h:(∀V1,V.Le V1->Acts prog 133 #[.slice a1p a1n a1c,.slice b1p b1n b1c] V1 fun r1_ V2=>∃p1_ n1_ c1_,r1_=.slice p1_ n1_ c1_/\(((((n1_:Nat):Int) == (0:Int))=true->(∀V3,V2.Le V3->R (.tuple #[.agg #[.bool false,.slice none 0 0,.bool false,.slice none 0 0,.bool false,.slice none 0 0],.bool false]) V3))/\((((n1_:Nat):Int) == (0:Int))=false->(∀V4,V2.Le V4->Acts prog 133 #[.slice p1_ n1_ c1_,.slice c1p c1n c1c] V4 fun r4_ V5=>∃p2_ n2_ c2_,r4_=.slice p2_ n2_ c2_/\(∀V6,V5.Le V6->Acts prog 167 #[.slice a1p a1n a1c,.slice p2_ n2_ c2_] V6 fun r6_ V7=>∃p3_ n3_ c3_,∃p4_ n4_ c4_,r6_=.tuple #[.slice p3_ n3_ c3_,.slice p4_ n4_ c4_]/\(∀V8,V7.Le V8->Acts prog 167 #[.slice b1p b1n b1c,.slice p2_ n2_ c2_] V8 fun r8_ V9=>∃p5_ n5_ c5_,∃p6_ n6_ c6_,r8_=.tuple #[.slice p5_ n5_ c5_,.slice p6_ n6_ c6_]/\(∀V10,V9.Le V10->Acts prog 167 #[.slice c1p c1n c1c,.slice p2_ n2_ c2_] V10 fun r10_ V11=>∃p7_ n7_ c7_,∃p8_ n8_ c8_,r10_=.tuple #[.slice p7_ n7_ c7_,.slice p8_ n8_ c8_]/\(∀V12,V11.Le V12->Acts prog 109 #[.bool a0,.slice p3_ n3_ c3_] V12 fun r12_ V13=>∃b9_,∃p10_ n10_ c10_,r12_=.agg #[.bool b9_,.slice p10_ n10_ c10_]/\(∀V14,V13.Le V14->Acts prog 109 #[.bool b0,.slice p5_ n5_ c5_] V14 fun r14_ V15=>∃b11_,∃p12_ n12_ c12_,r14_=.agg #[.bool b11_,.slice p12_ n12_ c12_]/\(∀V16,V15.Le V16->Acts prog 109 #[.bool c0,.slice p7_ n7_ c7_] V16 fun r16_ V17=>∃b13_,∃p14_ n14_ c14_,r16_=.agg #[.bool b13_,.slice p14_ n14_ c14_]/\(∀V18,V17.Le V18->R (.tuple #[.agg #[.bool b9_,.slice p10_ n10_ c10_,.bool b11_,.slice p12_ n12_ c12_,.bool b13_,.slice p14_ n14_ c14_],.bool true]) V18)))))))))))) :
  Acts prog 110 #[.agg #[.bool a0,.slice a1p a1n a1c],.agg #[.bool b0,.slice b1p b1n b1c],.agg #[.bool c0,.slice c1p c1n c1c]] V R:=
 fn_does (LF:=LF0) (RF:=[1000007]) (β0:=(fun _=>0)) tab_ok mixed [] [] func110 (by kernel_rfl)
  [(0,.agg [.v (.bool a0),.v (.slice a1p a1n a1c)]),(1,.agg [.v (.bool b0),.v (.slice b1p b1n b1c)]),(2,.agg [.v (.bool c0),.v (.slice c1p c1n c1c)])]
  [] (by kernel_rfl) trivial h (by kernel_rfl)
theorem vc_ref04_Through (p0:Bool) (p1p:OA) (p1n p1c:Nat) (p2p:OA) (p2n p2c:Nat) (p3:Bool) (p4p:OA) (p4n p4c:Nat) (p5p:OA) (p5n p5c:Nat) (q0:Bool) (q1p:OA) (q1n q1c:Nat) (q2p:OA) (q2n q2c:Nat) (q3:Bool) (q4p:OA) (q4n q4c:Nat) (q5p:OA) (q5n q5c:Nat) (V:View) (R:Value->View->Prop)
  (h:(∀V1,V.Le V1->Acts prog 107 #[.agg #[.bool q0,.slice q1p q1n q1c,.slice q2p q2n q2c,.bool q3,.slice q4p q4n q4c,.slice q5p q5n q5c],.agg #[.bool p0,.slice p1p p1n p1c,.slice p2p p2n p2c,.bool p3,.slice p4p p4n p4c,.slice p5p p5n p5c]] V1 fun r1_ V2=>∃b1_,∃p2_ n2_ c2_,∃p3_ n3_ c3_,∃b4_,∃p5_ n5_ c5_,∃p6_ n6_ c6_,r1_=.agg #[.bool b1_,.slice p2_ n2_ c2_,.slice p3_ n3_ c3_,.bool b4_,.slice p5_ n5_ c5_,.slice p6_ n6_ c6_]/\(∀V3,V2.Le V3->Acts prog 72 #[.agg #[.bool b4_,.slice p5_ n5_ c5_,.slice p6_ n6_ c6_]] V3 fun r3_ V4=>∃b7_,∃p8_ n8_ c8_,∃p9_ n9_ c9_,r3_=.agg #[.bool b7_,.slice p8_ n8_ c8_,.slice p9_ n9_ c9_]/\(∀V5,V4.Le V5->Acts prog 98 #[.agg #[.bool b7_,.slice p8_ n8_ c8_,.slice p9_ n9_ c9_],.agg #[.bool p0,.slice p1p p1n p1c,.slice p2p p2n p2c]] V5 fun r5_ V6=>∃b10_,∃p11_ n11_ c11_,∃p12_ n12_ c12_,r5_=.agg #[.bool b10_,.slice p11_ n11_ c11_,.slice p12_ n12_ c12_]/\(∀V7,V6.Le V7->Acts prog 98 #[.agg #[.bool b1_,.slice p2_ n2_ c2_,.slice p3_ n3_ c3_],.agg #[.bool p3,.slice p4p p4n p4c,.slice p5p p5n p5c]] V7 fun r7_ V8=>∃b13_,∃p14_ n14_ c14_,∃p15_ n15_ c15_,r7_=.agg #[.bool b13_,.slice p14_ n14_ c14_,.slice p15_ n15_ c15_]/\(∀V9,V8.Le V9->Acts prog 80 #[.agg #[.bool b10_,.slice p11_ n11_ c11_,.slice p12_ n12_ c12_],.agg #[.bool b13_,.slice p14_ n14_ c14_,.slice p15_ n15_ c15_]] V9 fun r9_ V10=>∃b16_,∃p17_ n17_ c17_,∃p18_ n18_ c18_,r9_=.agg #[.bool b16_,.slice p17_ n17_ c17_,.slice p18_ n18_ c18_]/\(∀V11,V10.Le V11->Acts prog 72 #[.agg #[.bool b16_,.slice p17_ n17_ c17_,.slice p18_ n18_ c18_]] V11 fun r11_ V12=>∃b19_,∃p20_ n20_ c20_,∃p21_ n21_ c21_,r11_=.agg #[.bool b19_,.slice p20_ n20_ c20_,.slice p21_ n21_ c21_]/\(∀V13,V12.Le V13->Acts prog 106 #[.agg #[.bool b7_,.slice p8_ n8_ c8_,.slice p9_ n9_ c9_]] V13 fun r13_ V14=>∃p22_ n22_ c22_,r13_=.slice p22_ n22_ c22_/\(∀V15,V14.Le V15->Acts prog 106 #[.agg #[.bool b1_,.slice p2_ n2_ c2_,.slice p3_ n3_ c3_]] V15 fun r15_ V16=>∃p23_ n23_ c23_,r15_=.slice p23_ n23_ c23_/\(∀V17,V16.Le V17->Acts prog 108 #[.slice p22_ n22_ c22_,.slice p23_ n23_ c23_] V17 fun r17_ V18=>∃p24_ n24_ c24_,r17_=.slice p24_ n24_ c24_/\(∀V19,V18.Le V19->Acts prog 106 #[.agg #[.bool b19_,.slice p20_ n20_ c20_,.slice p21_ n21_ c21_]] V19 fun r19_ V20=>∃p25_ n25_ c25_,r19_=.slice p25_ n25_ c25_/\(∀V21,V20.Le V21->Acts prog 108 #[.slice p24_ n24_ c24_,.slice p25_ n25_ c25_] V21 fun r21_ V22=>∃p26_ n26_ c26_,r21_=.slice p26_ n26_ c26_/\(∀V23,V22.Le V23->Acts prog 109 #[.bool false,.slice p26_ n26_ c26_] V23 fun r23_ V24=>∃b27_,∃p28_ n28_ c28_,r23_=.agg #[.bool b27_,.slice p28_ n28_ c28_]/\(∀V25,V24.Le V25->Acts prog 98 #[.agg #[.bool b7_,.slice p8_ n8_ c8_,.slice p9_ n9_ c9_],.agg #[.bool b27_,.slice p28_ n28_ c28_,.slice none 0 0]] V25 fun r25_ V26=>∃b29_,∃p30_ n30_ c30_,∃p31_ n31_ c31_,r25_=.agg #[.bool b29_,.slice p30_ n30_ c30_,.slice p31_ n31_ c31_]/\(∀V27,V26.Le V27->Acts prog 98 #[.agg #[.bool b1_,.slice p2_ n2_ c2_,.slice p3_ n3_ c3_],.agg #[.bool b27_,.slice p28_ n28_ c28_,.slice none 0 0]] V27 fun r27_ V28=>∃b32_,∃p33_ n33_ c33_,∃p34_ n34_ c34_,r27_=.agg #[.bool b32_,.slice p33_ n33_ c33_,.slice p34_ n34_ c34_]/\(∀V29,V28.Le V29->Acts prog 98 #[.agg #[.bool b19_,.slice p20_ n20_ c20_,.slice p21_ n21_ c21_],.agg #[.bool b27_,.slice p28_ n28_ c28_,.slice none 0 0]] V29 fun r29_ V30=>∃b35_,∃p36_ n36_ c36_,∃p37_ n37_ c37_,r29_=.agg #[.bool b35_,.slice p36_ n36_ c36_,.slice p37_ n37_ c37_]/\(∀V31,V30.Le V31->Acts prog 110 #[.agg #[.bool b29_,.slice p30_ n30_ c30_],.agg #[.bool b32_,.slice p33_ n33_ c33_],.agg #[.bool b35_,.slice p36_ n36_ c36_]] V31 fun r31_ V32=>∃b38_,∃p39_ n39_ c39_,∃b40_,∃p41_ n41_ c41_,∃b42_,∃p43_ n43_ c43_,∃b44_,r31_=.tuple #[.agg #[.bool b38_,.slice p39_ n39_ c39_,.bool b40_,.slice p41_ n41_ c41_,.bool b42_,.slice p43_ n43_ c43_],.bool b44_]/\(∀V33,V32.Le V33->R (.tuple #[.agg #[.bool b38_,.slice p39_ n39_ c39_,.bool b40_,.slice p41_ n41_ c41_,.bool b42_,.slice p43_ n43_ c43_],.bool b44_]) V33)))))))))))))))))) :
  Acts prog 51 #[.agg #[.bool p0,.slice p1p p1n p1c,.slice p2p p2n p2c,.bool p3,.slice p4p p4n p4c,.slice p5p p5n p5c],.agg #[.bool q0,.slice q1p q1n q1c,.slice q2p q2n q2c,.bool q3,.slice q4p q4n q4c,.slice q5p q5n q5c]] V R:=
 fn_does (LF:=LF0) (RF:=[1000007]) (β0:=(fun _=>0)) tab_ok mixed [] [] func51 (by kernel_rfl)
  [(0,.agg [.v (.bool p0),.v (.slice p1p p1n p1c),.v (.slice p2p p2n p2c),.v (.bool p3),.v (.slice p4p p4n p4c),.v (.slice p5p p5n p5c)]),(1,.agg [.v (.bool q0),.v (.slice q1p q1n q1c),.v (.slice q2p q2n q2c),.v (.bool q3),.v (.slice q4p q4n q4c),.v (.slice q5p q5n q5c)])]
  [] (by kernel_rfl) trivial h (by kernel_rfl)
theorem vc_ref04_ToL (l0:Bool) (l1p:OA) (l1n l1c:Nat) (l2:Bool) (l3p:OA) (l3n l3c:Nat) (l4:Bool) (l5p:OA) (l5n l5c:Nat) (V:View) (R:Value->View->Prop)
  (h:(∀V1,V.Le V1->Acts prog 93 #[.agg #[.bool l0,.slice l1p l1n l1c]] V1 fun r1_ V2=>∃b1_,∃p2_ n2_ c2_,r1_=.agg #[.bool b1_,.slice p2_ n2_ c2_]/\(∀V3,V2.Le V3->Acts prog 93 #[.agg #[.bool l2,.slice l3p l3n l3c]] V3 fun r3_ V4=>∃b3_,∃p4_ n4_ c4_,r3_=.agg #[.bool b3_,.slice p4_ n4_ c4_]/\(∀V5,V4.Le V5->Acts prog 93 #[.agg #[.bool l4,.slice l5p l5n l5c]] V5 fun r5_ V6=>∃b5_,∃p6_ n6_ c6_,r5_=.agg #[.bool b5_,.slice p6_ n6_ c6_]/\(∀V7,V6.Le V7->R (.agg #[.bool b1_,.slice p2_ n2_ c2_,.bool b3_,.slice p4_ n4_ c4_,.bool b5_,.slice p6_ n6_ c6_]) V7))))) :
  Acts prog 41 #[.agg #[.bool l0,.slice l1p l1n l1c,.bool l2,.slice l3p l3n l3c,.bool l4,.slice l5p l5n l5c]] V R:=
 fn_does (LF:=LF0) (RF:=[1000007]) (β0:=(fun _=>0)) tab_ok mixed [] [] func41 (by kernel_rfl)
  [(0,.agg [.v (.bool l0),.v (.slice l1p l1n l1c),.v (.bool l2),.v (.slice l3p l3n l3c),.v (.bool l4),.v (.slice l5p l5n l5c)])]
  [] (by kernel_rfl) trivial h (by kernel_rfl)
end Go.Proofs.Tryz
/- Contracts of the references 01 and 04: ToN, ToI, SameN, SameI, points. -/
namespace Go.Eng
open Go.Big
/-- A point of the reference. -/
def RP (V:View) (v:Value) (x y:Rat):Prop:=∃p n c p' n' c' q m e q' m' e',v=.agg #[.bool (decide (x.num < 0)),.slice p n c,.slice p' n' c',.bool (decide (y.num < 0)),.slice q m e,.slice q' m' e'] /\
 RQ V (.agg #[.bool (decide (x.num < 0)),.slice p n c,.slice p' n' c']) x/\RQ V (.agg #[.bool (decide (y.num < 0)),.slice q m e,.slice q' m' e']) y
theorem RP.le {V V':View} {v:Value} {x y:Rat} (h:RP V v x y) (l:V.Le V'):RP V' v x y:=by
 obtain ⟨p,n,c,p',n',c',q,m,e,q',m',e',rfl,h1,h2⟩:=h
 exact ⟨p,n,c,p',n',c',q,m,e,q',m',e',rfl,h1.le l,h2.le l⟩
theorem RQ.shape {V:View} {v:Value} {q:Rat} (h:RQ V v q):∃p n c p' n' c',v=.agg #[.bool (decide (q.num < 0)),.slice p n c,.slice p' n' c']:=by
 obtain ⟨p,n,c,p',n',c',e,-⟩:=h; exact ⟨_,_,_,_,_,_,e⟩
end Go.Eng
namespace Go.Proofs.Tryz
open Go.Eng Go.Big
theorem c_ref01_ToN {V:View} {p:OA} {n c:Nat} {ds:List Nat} (h:RD V p n c ds) (hm:ds.length<=1099511627776) :
  Acts prog 105 #[.slice p n c] V fun r V'=>∃p1 n1 c1,r=.slice p1 n1 c1/\RD V' p1 n1 c1 ds:=by
 have hl:=h.len
 refine vc_ref01_ToN p n c V _ ⟨u32s ds,h.sl,by simp [hl],by omega,by omega,by simp,by simp [hl],?_,?_⟩
 ·intro v hv
  simp only [u32s,List.mem_map] at hv
  obtain ⟨d,-,rfl⟩:=hv
  rfl
 ·intro bk J sp c' h1 h2 V1 l1 b hb
  refine ⟨_,_,_,rfl,?_⟩
  simp only [Nat.zero_add,Nat.zero_mul,List.take_zero,List.nil_append] at hb h1 ⊢
  exact copied h.dig hl h1 hb
theorem c_ref01_ToI {V:View} {v:Value} {z:Int} (h:RI V v z) (hm:(digs z.natAbs).length<=1099511627776) :
  Acts prog 93 #[v] V fun r V'=>RI V' r z:=by
 obtain ⟨p,n,c,rfl,h⟩:=h
 refine vc_ref01_ToI _ p n c V _ fun V1 l1=>(c_ref01_ToN (h.le l1) hm).mono ?_
 rintro r V2 l2 ⟨p1,n1,c1,rfl,g⟩
 exact ⟨_,_,_,rfl,fun V3 l3=>⟨_,_,_,rfl,g.le l3⟩⟩
theorem c_ref04_Xy {V:View} (x y:Int) (h0:-9223372036854775808<=x) (h1:x<=9223372036854775807) (h2:-9223372036854775808<=y) (h3:y<=9223372036854775807) :
  Acts prog 115 #[.int .i64 x,.int .i64 y] V fun r V'=>RP V' r (x:Rat) (y:Rat):=by
 refine vc_ref04_Xy x y V _ fun V1 l1=>(c_num_Of x h0 h1).mono ?_
 rintro r V2 l2 hx
 obtain ⟨p,n,c,p',n',c',rfl⟩:=hx.shape
 refine ⟨_,_,_,_,_,_,_,rfl,fun V3 l3=>(c_num_Of y h2 h3).mono ?_⟩
 rintro r V4 l4 hy
 obtain ⟨q,m,e,q',m',e',rfl⟩:=hy.shape
 exact ⟨_,_,_,_,_,_,_,rfl,fun V5 l5=>⟨_,_,_,_,_,_,_,_,_,_,_,_,rfl,hx.le (l3.trans (l4.trans l5)),hy.le l5⟩⟩
theorem c_ref04_Add {V:View} {u v w:Value} {px py c qx qy:Rat} (hp:RP V u px py) (hc:RQ V v c) (hq:RP V w qx qy) {k m:Nat} (s1:Sz k px) (s2:Sz k py) (s3:Sz m c) (s4:Sz m qx) (s5:Sz m qy) (hkm:k + (m + m + 1) < 274877906944) :
  Acts prog 56 #[u,v,w] V fun r V'=>RP V' r (px + c * qx) (py + c * qy):=by
 obtain ⟨p1,n1,c1,p2,n2,c2,p3,n3,c3,p4,n4,c4,rfl,hp1,hp2⟩:=hp
 obtain ⟨p5,n5,c5,p6,n6,c6,rfl⟩:=hc.shape
 obtain ⟨q1,m1,e1,q2,m2,e2,q3,m3,e3,q4,m4,e4,rfl,hq1,hq2⟩:=hq
 refine vc_ref04_Add _ p1 n1 c1 p2 n2 c2 _ p3 n3 c3 p4 n4 c4 _ p5 n5 c5 p6 n6 c6 _ q1 m1 e1 q2 m2 e2 _ q3 m3 e3 q4 m4 e4 V _ fun V1 l1=>(c_num_Times (hc.le l1) (hq1.le l1) s3 s4 (by omega)).mono ?_
 rintro r V2 l2 g1
 obtain ⟨a1,a2,a3,a4,a5,a6,rfl⟩:=g1.shape
 refine ⟨_,_,_,_,_,_,_,rfl,fun V3 l3=>(c_num_Plus (hp1.le (l1.trans (l2.trans l3))) (g1.le l3) s1 (s3.mul s4) (by omega)).mono ?_⟩
 rintro r V4 l4 g2
 obtain ⟨b1,b2,b3,b4,b5,b6,rfl⟩:=g2.shape
 have l04:=l1.trans (l2.trans (l3.trans l4))
 refine ⟨_,_,_,_,_,_,_,rfl,fun V5 l5=>(c_num_Times (hc.le (l04.trans l5)) (hq2.le (l04.trans l5)) s3 s5 (by omega)).mono ?_⟩
 rintro r V6 l6 g3
 obtain ⟨d1,d2,d3,d4,d5,d6,rfl⟩:=g3.shape
 refine ⟨_,_,_,_,_,_,_,rfl,fun V7 l7=>(c_num_Plus (hp2.le (l04.trans (l5.trans (l6.trans l7)))) (g3.le l7) s2 (s3.mul s5) (by omega)).mono ?_⟩
 rintro r V8 l8 g4
 obtain ⟨f1,f2,f3,f4,f5,f6,rfl⟩:=g4.shape
 exact ⟨_,_,_,_,_,_,_,rfl,fun V9 l9=>⟨_,_,_,_,_,_,_,_,_,_,_,_,rfl,g2.le (l5.trans (l6.trans (l7.trans (l8.trans l9)))),g4.le l9⟩⟩
theorem sz_neg1:Sz 1 ((-1:Int):Rat):=by unfold Sz; decide
theorem c_ref04_Sub {V:View} {u w:Value} {px py qx qy:Rat} (hp:RP V u px py) (hq:RP V w qx qy) {k m:Nat} (s1:Sz k px) (s2:Sz k py) (s4:Sz m qx) (s5:Sz m qy) (hm:1<=m) (hkm:k + (m + m + 1) < 274877906944) :
  Acts prog 107 #[u,w] V fun r V'=>RP V' r (px - qx) (py - qy):=by
 have hp0:=hp
 have hq0:=hq
 obtain ⟨p1,n1,c1,p2,n2,c2,p3,n3,c3,p4,n4,c4,rfl,-,-⟩:=hp
 obtain ⟨q1,m1,e1,q2,m2,e2,q3,m3,e3,q4,m4,e4,rfl,-,-⟩:=hq
 refine vc_ref04_Sub _ p1 n1 c1 p2 n2 c2 _ p3 n3 c3 p4 n4 c4 _ q1 m1 e1 q2 m2 e2 _ q3 m3 e3 q4 m4 e4 V _ fun V1 l1=>(c_num_Of (-1) (by omega) (by omega)).mono ?_
 rintro r V2 l2 g1
 obtain ⟨a1,a2,a3,a4,a5,a6,rfl⟩:=g1.shape
 have l02:=l1.trans l2
 refine ⟨_,_,_,_,_,_,_,rfl,fun V3 l3=>(c_ref04_Add (hp0.le (l02.trans l3)) (g1.le l3) (hq0.le (l02.trans l3)) s1 s2 (sz_neg1.mono hm) s4 s5 hkm).mono ?_⟩
 have e1:∀a b:Rat,a + ((-1:Int):Rat) * b=a - b:=by
  intro a b
  have:((-1:Int):Rat)=-1:=rfl
  rw [this,Rat.neg_mul,Rat.one_mul,Rat.sub_eq_add_neg]
 rw [e1,e1]
 rintro r V4 l4 ⟨b1,b2,b3,b4,b5,b6,b7,b8,b9,b10,b11,b12,rfl,g2,g3⟩
 exact ⟨_,_,_,_,_,_,_,_,_,_,_,_,_,_,rfl,fun V5 l5=>⟨_,_,_,_,_,_,_,_,_,_,_,_,rfl,g2.le l5,g3.le l5⟩⟩
theorem c_ref04_Same {V:View} {u w:Value} {px py qx qy:Rat} (hp:RP V u px py) (hq:RP V w qx qy) {k m:Nat} (s1:Sz k px) (s2:Sz k py) (s4:Sz m qx) (s5:Sz m qy) (hkm:k + m < 274877906944) :
  Acts prog 117 #[u,w] V fun r V'=>r=.bool (decide (px=qx/\py=qy)):=by
 obtain ⟨p1,n1,c1,p2,n2,c2,p3,n3,c3,p4,n4,c4,rfl,hp1,hp2⟩:=hp
 obtain ⟨q1,m1,e1,q2,m2,e2,q3,m3,e3,q4,m4,e4,rfl,hq1,hq2⟩:=hq
 refine vc_ref04_Same _ p1 n1 c1 p2 n2 c2 _ p3 n3 c3 p4 n4 c4 _ q1 m1 e1 q2 m2 e2 _ q3 m3 e3 q4 m4 e4 V _ fun V1 l1=>(c_num_C (hp1.le l1) (hq1.le l1) s1 s4 hkm).mono ?_
 rintro r V2 l2 rfl
 refine ⟨_,rfl,fun h0 V3 l3=>(c_num_C (hp2.le (l1.trans (l2.trans l3))) (hq2.le (l1.trans (l2.trans l3))) s2 s5 hkm).mono ?_,fun h0 V3 l3=>?_⟩
 ·have h0:px=qx:=cmpQ_eq.2 (by simpa using h0)
  rintro r V4 l4 rfl
  refine ⟨_,rfl,fun V5 l5=>?_⟩
  congr 1
  rw [Bool.eq_iff_iff,decide_eq_true_eq,beq_iff_eq,← cmpQ_eq]
  exact ⟨fun h=>⟨h0,h⟩,fun h=>h.2⟩
 ·have h0:¬ px=qx:=fun e=>by rw [cmpQ_eq.1 e] at h0; simp at h0
  rw [decide_eq_false fun h=>h0 h.1]
end Go.Proofs.Tryz
/- Contracts of the references 01 and 04: SameN, SameI, lines. -/
namespace Go.Eng
open Go.Big
/-- A line with integer coefficients, of the reference or of package api. -/
def RL (V:View) (v:Value) (a b c:Int):Prop:=∃p n s p' n' s' q m e,v=.agg #[.bool (decide (a < 0)),.slice p n s,.bool (decide (b < 0)),.slice p' n' s',.bool (decide (c < 0)),.slice q m e] /\
 RD V p n s (digs a.natAbs)/\RD V p' n' s' (digs b.natAbs)/\RD V q m e (digs c.natAbs)
theorem RL.le {V V':View} {v:Value} {a b c:Int} (h:RL V v a b c) (l:V.Le V'):RL V' v a b c:=by
 obtain ⟨p,n,s,p',n',s',q,m,e,rfl,h1,h2,h3⟩:=h
 exact ⟨p,n,s,p',n',s',q,m,e,rfl,h1.le l,h2.le l,h3.le l⟩
end Go.Eng
namespace Go.Proofs.Tryz
open Go.Eng Go.Big
theorem c_ref01_SameN {V:View} {p q:OA} {n c m e:Nat} {xs ys:List Nat} (hx:RD V p n c xs) (hy:RD V q m e ys) (hm:xs.length<=1099511627776) :
  Acts prog 119 #[.slice p n c,.slice q m e] V fun r V'=>r=.bool (decide (xs=ys)):=by
 have hlx:=hx.len
 have hly:=hy.len
 refine vc_ref01_SameN p n c q m e V _ ⟨fun h0 V1 l1=>?_,fun h0=>?_⟩
 ·have h0:n≠m:=by simp at h0; omega
  rw [decide_eq_false fun h=>h0 (by rw [hlx,hly,h])]
 ·have h0:n=m:=by simp at h0; omega
  refine ⟨fun z V'=>0<=z/\z<=n/\xs.take z.toNat=ys.take z.toNat,fun z=>n - z.toNat,⟨0,by (try dsimp only); and_intros <;> first | exact True.intro | rfl,by (try dsimp only); omega,by (try dsimp only); omega,rfl⟩,?_⟩
  rintro i V2 l2 ⟨hi0,hi1,ht⟩
  dsimp only at hi1 ht ⊢
  obtain ⟨i,rfl⟩:=Int.eq_ofNat_of_zero_le hi0
  simp only [Int.toNat_natCast] at ht
  refine ⟨by trivial,fun h3=>?_,fun h3 V4 l4=>?_⟩
  ·have h3:i < n:=by simpa using h3
   refine (hx.le l2).rd i rfl (by omega) ((hy.le l2).rd i rfl (by omega) ⟨fun h4 V8 l8=>?_,fun h4=>?_⟩)
   ·have h4:xs[i]≠ys[i]:=by simp at h4; omega
    rw [decide_eq_false fun h=>h4 (by subst h; rfl)]
   ·have h4:xs[i]=ys[i]:=by simp at h4; omega
    have w:i64.wrap ((i:Int) + 1)=((i + 1:Nat):Int):=by rw [i64w (by omega)]; omega
    simp only [w]
    refine ⟨((i + 1:Nat):Int),?_,by (try dsimp only); and_intros <;> first | exact True.intro | rfl,by (try dsimp only); omega,by (try dsimp only); omega,?_⟩
    ·(try dsimp only); omega
    ·(try dsimp only)
     simp only [Int.toNat_natCast]
     rw [List.take_succ_eq_append_getElem (by omega),List.take_succ_eq_append_getElem (l:=ys) (by omega),ht,h4]
  ·have h3:i=n:=by simp at h3; omega
   rw [List.take_of_length_le (by omega),List.take_of_length_le (by omega)] at ht
   rw [decide_eq_true ht]
theorem same_int {z w:Int}:(decide (z < 0) == decide (w < 0))=true->(decide (digs z.natAbs=digs w.natAbs)=decide (z=w)):=by
 intro h
 have h1:(z < 0↔w < 0):=by simpa using h
 rw [Bool.eq_iff_iff,decide_eq_true_eq,decide_eq_true_eq]
 constructor
 ·intro h2
  have:=digs_inj h2
  omega
 ·intro h2; rw [h2]
theorem c_ref01_SameI {V:View} {z w:Int} {p q:OA} {n c m e:Nat} (hx:RD V p n c (digs z.natAbs)) (hy:RD V q m e (digs w.natAbs)) (hm:(digs z.natAbs).length<=1099511627776) :
  Acts prog 114 #[.agg #[.bool (decide (z < 0)),.slice p n c],.agg #[.bool (decide (w < 0)),.slice q m e]] V fun r V'=>r=.bool (decide (z=w)):=by
 refine vc_ref01_SameI _ p n c _ q m e V _ ⟨fun h0 V1 l1=>(c_ref01_SameN (hx.le l1) (hy.le l1) hm).mono ?_,fun h0 V1 l1=>?_⟩
 ·rintro r V2 l2 rfl
  refine ⟨_,rfl,fun V3 l3=>?_⟩
  rw [same_int h0]
 ·rw [decide_eq_false fun h=>by subst h; simp at h0]
theorem c_ref04_ToL {V:View} {v:Value} {a b c:Int} (hx:RL V v a b c) (h1:(digs a.natAbs).length<=1099511627776) (h2:(digs b.natAbs).length<=1099511627776) (h3:(digs c.natAbs).length<=1099511627776) :
  Acts prog 41 #[v] V fun r V'=>RL V' r a b c:=by
 obtain ⟨p,n,s,p',n',s',q,m,e,rfl,x1,x2,x3⟩:=hx
 refine vc_ref04_ToL _ p n s _ p' n' s' _ q m e V _ fun V1 l1=>(c_ref01_ToI ⟨_,_,_,rfl,x1.le l1⟩ h1).mono ?_
 rintro r V2 l2 ⟨p1,n1,c1,rfl,g1⟩
 refine ⟨_,_,_,_,rfl,fun V3 l3=>(c_ref01_ToI ⟨_,_,_,rfl,x2.le (l1.trans (l2.trans l3))⟩ h2).mono ?_⟩
 rintro r V4 l4 ⟨p2,n2,c2,rfl,g2⟩
 refine ⟨_,_,_,_,rfl,fun V5 l5=>(c_ref01_ToI ⟨_,_,_,rfl,x3.le (l1.trans (l2.trans (l3.trans (l4.trans l5))))⟩ h3).mono ?_⟩
 rintro r V6 l6 ⟨p3,n3,c3,rfl,g3⟩
 exact ⟨_,_,_,_,rfl,fun V7 l7=>⟨_,_,_,_,_,_,_,_,_,rfl,g1.le (l3.trans (l4.trans (l5.trans (l6.trans l7)))),g2.le (l5.trans (l6.trans l7)),g3.le l7⟩⟩
end Go.Proofs.Tryz
/- Contracts of the reference 04: MakeL. -/
namespace Go.Proofs.Tryz
open Go.Eng Go.Big
theorem div_sign {z:Int} {g:Nat} (hg:0 < g) (hd:g ∣ z.natAbs):(if decide (z < 0)=true then -((z.natAbs / g:Nat):Int) else ((z.natAbs / g:Nat):Int))=z / (g:Int):=by
 obtain ⟨k,hk⟩:=hd
 have hk1:z.natAbs / g=k:=by rw [hk,Nat.mul_div_cancel_left _ hg]
 rw [hk1]
 have hz:z=(g:Int) * (if decide (z < 0)=true then -(k:Int) else k):=by
  split
  ·rename_i h
   rw [decide_eq_true_eq] at h
   rw [Int.mul_neg,← Int.natCast_mul,← hk]; omega
  ·rename_i h
   rw [decide_eq_true_eq] at h
   rw [← Int.natCast_mul,← hk]; omega
 generalize (if decide (z < 0)=true then -(k:Int) else k)=t at *
 rw [hz,Int.mul_ediv_cancel_left _ (by omega)]
/-- The greatest common divisor of three coefficients. -/
def gcd3 (a b c:Int):Nat:=Nat.gcd (Nat.gcd a.natAbs b.natAbs) c.natAbs
theorem c_ref04_MakeL {V:View} {u v w:Value} {a b c:Int} (ha:RI V u a) (hb:RI V v b) (hc:RI V w c) (h1:(digs a.natAbs).length<=274877906944) (h2:(digs b.natAbs).length<=274877906944) (h3:(digs c.natAbs).length<=274877906944) :
  Acts prog 110 #[u,v,w] V fun r V'=>(a=0/\b=0->∃l,r=.tuple #[l,.bool false]/\RL V' l 0 0 0) /\
   (¬ (a=0/\b=0)->∃l,r=.tuple #[l,.bool true]/\RL V' l (a / (gcd3 a b c:Int)) (b / (gcd3 a b c:Int)) (c / (gcd3 a b c:Int))):=by
 obtain ⟨p,n,s,rfl,ha⟩:=ha
 obtain ⟨p',n',s',rfl,hb⟩:=hb
 obtain ⟨q,m,e,rfl,hc⟩:=hc
 refine vc_ref04_MakeL _ p n s _ p' n' s' _ q m e V _ fun V1 l1=>(c_num_Common (ha.le l1) (hb.le l1) h1 h2).mono ?_
 rintro r V2 l2 ⟨p1,n1,c1,rfl,g1⟩
 have hp:=len_pos_digs g1.len
 have hab:Nat.gcd a.natAbs b.natAbs=0↔a=0/\b=0:=by rw [Nat.gcd_eq_zero_iff]; omega
 refine ⟨_,_,_,rfl,fun h0 V3 l3=>⟨fun _=>⟨_,rfl,_,_,_,_,_,_,_,_,_,rfl,RD.nil,RD.nil,RD.nil⟩,fun h=>?_⟩,fun h0 V4 l4=>?_⟩
 ·exact absurd (hab.1 (by simp at h0; omega)) h
 have hne:¬ (a=0/\b=0):=fun h=>by have:=hab.2 h; simp at h0; omega
 have hg0:0 < Nat.gcd a.natAbs b.natAbs:=by have:=hab; omega
 have hgl:(digs (Nat.gcd a.natAbs b.natAbs)).length<=274877906944:=by
  rcases Nat.eq_zero_or_pos a.natAbs with h | h
  ·rw [h,Nat.gcd_zero_left]; exact h2
  ·exact Nat.le_trans (digs_len_mono (Nat.gcd_le_left _ h)) h1
 refine (c_num_Common (g1.le l4) (hc.le (l1.trans (l2.trans l4))) hgl h3).mono ?_
 rintro r V5 l5 ⟨p2,n2,c2,rfl,g2⟩
 have l05:=l1.trans (l2.trans (l4.trans l5))
 have e3:Nat.gcd (Nat.gcd a.natAbs b.natAbs) c.natAbs=gcd3 a b c:=rfl
 have hG0:0 < gcd3 a b c:=Nat.gcd_pos_of_pos_left _ hg0
 have hGl:(digs (gcd3 a b c)).length<=274877906944:=Nat.le_trans (digs_len_mono (Nat.gcd_le_left _ hg0)) hgl
 have da:gcd3 a b c ∣ a.natAbs:=Nat.dvd_trans (Nat.gcd_dvd_left _ _) (Nat.gcd_dvd_left _ _)
 have db:gcd3 a b c ∣ b.natAbs:=Nat.dvd_trans (Nat.gcd_dvd_left _ _) (Nat.gcd_dvd_right _ _)
 have dc:gcd3 a b c ∣ c.natAbs:=Nat.gcd_dvd_right _ _
 have sa:=div_sign hG0 da
 have sb:=div_sign hG0 db
 have sc:=div_sign hG0 dc
 rw [e3] at g2
 generalize gcd3 a b c=G at *
 refine ⟨_,_,_,rfl,fun V6 l6=>(c_num_Divide (ha.le (l05.trans l6)) (g2.le l6) h1 hGl hG0).mono ?_⟩
 rintro r V7 l7 ⟨p3,n3,c3,p4,n4,c4,rfl,g3,-⟩
 have l07:=l6.trans l7
 refine ⟨_,_,_,_,_,_,rfl,fun V8 l8=>(c_num_Divide (hb.le (l05.trans (l07.trans l8))) (g2.le (l07.trans l8)) h2 hGl hG0).mono ?_⟩
 rintro r V9 l9 ⟨p5,n5,c5,p6,n6,c6,rfl,g5,-⟩
 have l09:=l07.trans (l8.trans l9)
 refine ⟨_,_,_,_,_,_,rfl,fun V10 l10=>(c_num_Divide (hc.le (l05.trans (l09.trans l10))) (g2.le (l09.trans l10)) h3 hGl hG0).mono ?_⟩
 rintro r V11 l11 ⟨p7,n7,c7,p8,n8,c8,rfl,g7,-⟩
 refine ⟨_,_,_,_,_,_,rfl,fun V12 l12=>(c_num_Make _ (g3.le (l8.trans (l9.trans (l10.trans (l11.trans l12)))))).mono ?_⟩
 rw [sa]
 rintro r V13 l13 ⟨p9,n9,c9,rfl,g9⟩
 refine ⟨_,_,_,_,rfl,fun V14 l14=>(c_num_Make _ (g5.le (l10.trans (l11.trans (l12.trans (l13.trans l14)))))).mono ?_⟩
 rw [sb]
 rintro r V15 l15 ⟨p10,n10,c10,rfl,g10⟩
 refine ⟨_,_,_,_,rfl,fun V16 l16=>(c_num_Make _ (g7.le (l12.trans (l13.trans (l14.trans (l15.trans l16)))))).mono ?_⟩
 rw [sc]
 rintro r V17 l17 ⟨p11,n11,c11,rfl,g11⟩
 refine ⟨_,_,_,_,rfl,fun V18 l18=>⟨fun h=>absurd h hne,fun _=>⟨_,rfl,_,_,_,_,_,_,_,_,_,rfl,?_,?_,?_⟩⟩⟩
 ·exact g9.le (l14.trans (l15.trans (l16.trans (l17.trans l18))))
 ·exact g10.le (l16.trans (l17.trans l18))
 ·exact g11.le l18
end Go.Proofs.Tryz
/- By program: the conditions of the functions, from their loaded code. -/
namespace Go.Proofs.Tryz
open Go.Eng
set_option maxRecDepth 100000
theorem vc_geo_LnOf (l0:Bool) (l1p:OA) (l1n l1c:Nat) (l2:Bool) (l3p:OA) (l3n l3c:Nat) (l4:Bool) (l5p:OA) (l5n l5c:Nat) (V:View) (R:Value->View->Prop)
  (h:(∀V1,V.Le V1->Acts prog 151 #[.agg #[.bool l0,.slice l1p l1n l1c]] V1 fun r1_ V2=>∃b1_,r1_=.bool b1_/\(((!b1_)=true->(∀V3,V2.Le V3->R (.tuple #[.agg #[.int .i64 0,.int .i64 0,.pointer none,.int .i64 0,.int .i64 0,.pointer none,.int .i64 0,.int .i64 0,.pointer none],.bool false]) V3))/\((!b1_)=false->(∀V4,V2.Le V4->Acts prog 151 #[.agg #[.bool l2,.slice l3p l3n l3c]] V4 fun r4_ V5=>∃b2_,r4_=.bool b2_/\(((!b2_)=true->(∀V6,V5.Le V6->R (.tuple #[.agg #[.int .i64 0,.int .i64 0,.pointer none,.int .i64 0,.int .i64 0,.pointer none,.int .i64 0,.int .i64 0,.pointer none],.bool false]) V6))/\((!b2_)=false->(∀V7,V5.Le V7->Acts prog 151 #[.agg #[.bool l4,.slice l5p l5n l5c]] V7 fun r7_ V8=>∃b3_,r7_=.bool b3_/\(((!b3_)=true->(∀V9,V8.Le V9->R (.tuple #[.agg #[.int .i64 0,.int .i64 0,.pointer none,.int .i64 0,.int .i64 0,.pointer none,.int .i64 0,.int .i64 0,.pointer none],.bool false]) V9))/\((!b3_)=false->(∀V10,V8.Le V10->Acts prog 152 #[.agg #[.bool l0,.slice l1p l1n l1c]] V10 fun r10_ V11=>∃x4_,∃x5_,∃p6_,r10_=.agg #[.int .i64 x4_,.int .i64 x5_,.pointer p6_]/\(∀V12,V11.Le V12->Acts prog 152 #[.agg #[.bool l2,.slice l3p l3n l3c]] V12 fun r12_ V13=>∃x7_,∃x8_,∃p9_,r12_=.agg #[.int .i64 x7_,.int .i64 x8_,.pointer p9_]/\(∀V14,V13.Le V14->Acts prog 152 #[.agg #[.bool l4,.slice l5p l5n l5c]] V14 fun r14_ V15=>∃x10_,∃x11_,∃p12_,r14_=.agg #[.int .i64 x10_,.int .i64 x11_,.pointer p12_]/\(∀V16,V15.Le V16->Acts prog 153 #[.agg #[.int .i64 x4_,.int .i64 x5_,.pointer p6_]] V16 fun r16_ V17=>∃b13_,r16_=.bool b13_/\((b13_=true->(∀V18,V17.Le V18->Acts prog 153 #[.agg #[.int .i64 x7_,.int .i64 x8_,.pointer p9_]] V18 fun r18_ V19=>∃b14_,r18_=.bool b14_/\((b14_=true->(∀V20,V19.Le V20->R (.tuple #[.agg #[.int .i64 0,.int .i64 0,.pointer none,.int .i64 0,.int .i64 0,.pointer none,.int .i64 0,.int .i64 0,.pointer none],.bool false]) V20))/\(b14_=false->(∀V21,V19.Le V21->Acts prog 154 #[.agg #[.int .i64 x4_,.int .i64 x5_,.pointer p6_],.agg #[.int .i64 x7_,.int .i64 x8_,.pointer p9_]] V21 fun r21_ V22=>∃x15_,∃x16_,∃p17_,r21_=.agg #[.int .i64 x15_,.int .i64 x16_,.pointer p17_]/\(∀V23,V22.Le V23->Acts prog 154 #[.agg #[.int .i64 x15_,.int .i64 x16_,.pointer p17_],.agg #[.int .i64 x10_,.int .i64 x11_,.pointer p12_]] V23 fun r23_ V24=>∃x18_,∃x19_,∃p20_,r23_=.agg #[.int .i64 x18_,.int .i64 x19_,.pointer p20_]/\(∀V25,V24.Le V25->Acts prog 127 #[.int .i64 1] V25 fun r25_ V26=>∃x21_,∃x22_,∃p23_,r25_=.agg #[.int .i64 x21_,.int .i64 x22_,.pointer p23_]/\(∀V27,V26.Le V27->Acts prog 143 #[.agg #[.int .i64 x18_,.int .i64 x19_,.pointer p20_],.agg #[.int .i64 x21_,.int .i64 x22_,.pointer p23_]] V27 fun r27_ V28=>∃b24_,r27_=.bool b24_/\(((!b24_)=true->(∀V29,V28.Le V29->R (.tuple #[.agg #[.int .i64 0,.int .i64 0,.pointer none,.int .i64 0,.int .i64 0,.pointer none,.int .i64 0,.int .i64 0,.pointer none],.bool false]) V29))/\((!b24_)=false->(∀V30,V28.Le V30->R (.tuple #[.agg #[.int .i64 x4_,.int .i64 x5_,.pointer p6_,.int .i64 x7_,.int .i64 x8_,.pointer p9_,.int .i64 x10_,.int .i64 x11_,.pointer p12_],.bool true]) V30)))))))))))/\(b13_=false->(∀V31,V17.Le V31->Acts prog 154 #[.agg #[.int .i64 x4_,.int .i64 x5_,.pointer p6_],.agg #[.int .i64 x7_,.int .i64 x8_,.pointer p9_]] V31 fun r31_ V32=>∃x25_,∃x26_,∃p27_,r31_=.agg #[.int .i64 x25_,.int .i64 x26_,.pointer p27_]/\(∀V33,V32.Le V33->Acts prog 154 #[.agg #[.int .i64 x25_,.int .i64 x26_,.pointer p27_],.agg #[.int .i64 x10_,.int .i64 x11_,.pointer p12_]] V33 fun r33_ V34=>∃x28_,∃x29_,∃p30_,r33_=.agg #[.int .i64 x28_,.int .i64 x29_,.pointer p30_]/\(∀V35,V34.Le V35->Acts prog 127 #[.int .i64 1] V35 fun r35_ V36=>∃x31_,∃x32_,∃p33_,r35_=.agg #[.int .i64 x31_,.int .i64 x32_,.pointer p33_]/\(∀V37,V36.Le V37->Acts prog 143 #[.agg #[.int .i64 x28_,.int .i64 x29_,.pointer p30_],.agg #[.int .i64 x31_,.int .i64 x32_,.pointer p33_]] V37 fun r37_ V38=>∃b34_,r37_=.bool b34_/\(((!b34_)=true->(∀V39,V38.Le V39->R (.tuple #[.agg #[.int .i64 0,.int .i64 0,.pointer none,.int .i64 0,.int .i64 0,.pointer none,.int .i64 0,.int .i64 0,.pointer none],.bool false]) V39))/\((!b34_)=false->(∀V40,V38.Le V40->R (.tuple #[.agg #[.int .i64 x4_,.int .i64 x5_,.pointer p6_,.int .i64 x7_,.int .i64 x8_,.pointer p9_,.int .i64 x10_,.int .i64 x11_,.pointer p12_],.bool true]) V40))))))))))))))))))))))) :
  Acts prog 90 #[.agg #[.bool l0,.slice l1p l1n l1c,.bool l2,.slice l3p l3n l3c,.bool l4,.slice l5p l5n l5c]] V R:=
 fn_does (LF:=LF0) (RF:=[1000007]) (β0:=(fun _=>0)) tab_ok mixed [] [] func90 (by kernel_rfl)
  [(0,.agg [.v (.bool l0),.v (.slice l1p l1n l1c),.v (.bool l2),.v (.slice l3p l3n l3c),.v (.bool l4),.v (.slice l5p l5n l5c)])]
  [] (by kernel_rfl) trivial h (by kernel_rfl)
theorem vc_geo_Ln_API (l0:Int) (l1:Int) (l2:OA) (l3:Int) (l4:Int) (l5:OA) (l6:Int) (l7:Int) (l8:OA) (V:View) (R:Value->View->Prop)
  (h:(∀V1,V.Le V1->Acts prog 165 #[.agg #[.int .i64 l0,.int .i64 l1,.pointer l2]] V1 fun r1_ V2=>∃b1_,∃p2_ n2_ c2_,r1_=.agg #[.bool b1_,.slice p2_ n2_ c2_]/\(∀V3,V2.Le V3->Acts prog 165 #[.agg #[.int .i64 l3,.int .i64 l4,.pointer l5]] V3 fun r3_ V4=>∃b3_,∃p4_ n4_ c4_,r3_=.agg #[.bool b3_,.slice p4_ n4_ c4_]/\(∀V5,V4.Le V5->Acts prog 165 #[.agg #[.int .i64 l6,.int .i64 l7,.pointer l8]] V5 fun r5_ V6=>∃b5_,∃p6_ n6_ c6_,r5_=.agg #[.bool b5_,.slice p6_ n6_ c6_]/\(∀V7,V6.Le V7->R (.agg #[.bool b1_,.slice p2_ n2_ c2_,.bool b3_,.slice p4_ n4_ c4_,.bool b5_,.slice p6_ n6_ c6_]) V7))))) :
  Acts prog 103 #[.agg #[.int .i64 l0,.int .i64 l1,.pointer l2,.int .i64 l3,.int .i64 l4,.pointer l5,.int .i64 l6,.int .i64 l7,.pointer l8]] V R:=
 fn_does (LF:=LF0) (RF:=[1000007]) (β0:=(fun _=>0)) tab_ok mixed [] [] func103 (by kernel_rfl)
  [(0,.agg [.v (.int .i64 l0),.v (.int .i64 l1),.v (.pointer l2),.v (.int .i64 l3),.v (.int .i64 l4),.v (.pointer l5),.v (.int .i64 l6),.v (.int .i64 l7),.v (.pointer l8)])]
  [] (by kernel_rfl) trivial h (by kernel_rfl)
theorem vc_cmp_Or (valsp:OA) (valsn valsc:Nat) (V:View) (R:Value->View->Prop)
  (h:(∃(I1_:Int->View->Prop) (m2_:Int->Nat),(∃z3_:Int,(((0:Int)=(0:Int))/\sm valsp/\sm valsn/\sm valsc/\sm ((valsn:Nat):Int)/\((0:Int)=z3_))/\I1_ z3_ V)/\∀(z4_:Int) (V1:View),V.Le V1->I1_ z4_ V1->(true=true/\(((decide (z4_ < ((valsn:Nat):Int)))=true->(valsp.isSome=true)/\(0<=z4_/\z4_ < ((valsn:Nat):Int))/\(∃x5_,(∃a6_,addrAdd valsp (z4_.toNat * 1)=some a6_/\V1.at a6_ (.int .i64 x5_))/\(((x5_ != (0:Int))=true->(∀V2,V1.Le V2->R (.int .i64 x5_) V2))/\((x5_ != (0:Int))=false->(∃z7_:Int,m2_ z7_ < m2_ z4_/\(((0:Int)=(0:Int))/\sm valsp/\sm valsn/\sm valsc/\sm ((valsn:Nat):Int)/\((i64.wrap (z4_ + (1:Int)))=z7_))/\I1_ z7_ V1)))))/\((decide (z4_ < ((valsn:Nat):Int)))=false->(∀V3,V1.Le V3->R (.int .i64 0) V3)))))) :
  Acts prog 226 #[.slice valsp valsn valsc] V R:=
 fn_does (LF:=LF0) (RF:=[1000007]) (β0:=(fun _=>0)) tab_ok mixed [(3,{ τ:=Int,keep:=[3,6,7],keepB:=[],slots:=fun z=>[(8,.c (.v (.int .i64 z)))],boxes:=fun z=>[] })] [] func226 (by kernel_rfl)
  [(0,.c (.v (.slice valsp valsn valsc)))]
  [] (by kernel_rfl) trivial h (by kernel_rfl)
theorem vc_geo_Ln_Cmp (l0:Int) (l1:Int) (l2:OA) (l3:Int) (l4:Int) (l5:OA) (l6:Int) (l7:Int) (l8:OA) (m0:Int) (m1:Int) (m2:OA) (m3:Int) (m4:Int) (m5:OA) (m6:Int) (m7:Int) (m8:OA) (V:View) (R:Value->View->Prop)
  (h:(∀V1,V.Le V1->Acts prog 175 #[.agg #[.int .i64 l0,.int .i64 l1,.pointer l2],.agg #[.int .i64 m0,.int .i64 m1,.pointer m2]] V1 fun r1_ V2=>∃x1_,r1_=.int .i64 x1_/\(∀V3,V2.Le V3->Acts prog 175 #[.agg #[.int .i64 l3,.int .i64 l4,.pointer l5],.agg #[.int .i64 m3,.int .i64 m4,.pointer m5]] V3 fun r3_ V4=>∃x2_,r3_=.int .i64 x2_/\(∀V5,V4.Le V5->Acts prog 175 #[.agg #[.int .i64 l6,.int .i64 l7,.pointer l8],.agg #[.int .i64 m6,.int .i64 m7,.pointer m8]] V5 fun r5_ V6=>∃x3_,r5_=.int .i64 x3_/\(∀V7,V6.Le V7->∀bk4_:Nat,(V7.blk bk4_ (.cells #[.int .i64 x1_,.int .i64 x2_,.int .i64 x3_] 3 (0,0)))->Acts prog 226 #[.slice (some ⟨bk4_,0,none⟩) 3 3] V7 fun r7_ V8=>∃x5_,r7_=.int .i64 x5_/\∀J6_:C->Value,(∀V9,V8.Le V9->R (.int .i64 x5_) V9)))))) :
  Acts prog 213 #[.agg #[.int .i64 l0,.int .i64 l1,.pointer l2,.int .i64 l3,.int .i64 l4,.pointer l5,.int .i64 l6,.int .i64 l7,.pointer l8],.agg #[.int .i64 m0,.int .i64 m1,.pointer m2,.int .i64 m3,.int .i64 m4,.pointer m5,.int .i64 m6,.int .i64 m7,.pointer m8]] V R:=
 fn_does (LF:=LF0) (RF:=[226,1000007]) (β0:=(fun _=>0)) tab_ok mixed [] [] func213 (by kernel_rfl)
  [(0,.agg [.v (.int .i64 l0),.v (.int .i64 l1),.v (.pointer l2),.v (.int .i64 l3),.v (.int .i64 l4),.v (.pointer l5),.v (.int .i64 l6),.v (.int .i64 l7),.v (.pointer l8)]),(1,.agg [.v (.int .i64 m0),.v (.int .i64 m1),.v (.pointer m2),.v (.int .i64 m3),.v (.int .i64 m4),.v (.pointer m5),.v (.int .i64 m6),.v (.int .i64 m7),.v (.pointer m8)])]
  [] (by kernel_rfl) trivial h (by kernel_rfl)
theorem vc_geo_Ln_Equal (l0:Int) (l1:Int) (l2:OA) (l3:Int) (l4:Int) (l5:OA) (l6:Int) (l7:Int) (l8:OA) (m0:Int) (m1:Int) (m2:OA) (m3:Int) (m4:Int) (m5:OA) (m6:Int) (m7:Int) (m8:OA) (V:View) (R:Value->View->Prop)
  (h:(∀V1,V.Le V1->Acts prog 213 #[.agg #[.int .i64 l0,.int .i64 l1,.pointer l2,.int .i64 l3,.int .i64 l4,.pointer l5,.int .i64 l6,.int .i64 l7,.pointer l8],.agg #[.int .i64 m0,.int .i64 m1,.pointer m2,.int .i64 m3,.int .i64 m4,.pointer m5,.int .i64 m6,.int .i64 m7,.pointer m8]] V1 fun r1_ V2=>∃x1_,r1_=.int .i64 x1_/\(∀V3,V2.Le V3->R (.bool (x1_ == (0:Int))) V3))) :
  Acts prog 182 #[.agg #[.int .i64 l0,.int .i64 l1,.pointer l2,.int .i64 l3,.int .i64 l4,.pointer l5,.int .i64 l6,.int .i64 l7,.pointer l8],.agg #[.int .i64 m0,.int .i64 m1,.pointer m2,.int .i64 m3,.int .i64 m4,.pointer m5,.int .i64 m6,.int .i64 m7,.pointer m8]] V R:=
 fn_does (LF:=LF0) (RF:=[1000007]) (β0:=(fun _=>0)) tab_ok mixed [] [] func182 (by kernel_rfl)
  [(0,.agg [.v (.int .i64 l0),.v (.int .i64 l1),.v (.pointer l2),.v (.int .i64 l3),.v (.int .i64 l4),.v (.pointer l5),.v (.int .i64 l6),.v (.int .i64 l7),.v (.pointer l8)]),(1,.agg [.v (.int .i64 m0),.v (.int .i64 m1),.v (.pointer m2),.v (.int .i64 m3),.v (.int .i64 m4),.v (.pointer m5),.v (.int .i64 m6),.v (.int .i64 m7),.v (.pointer m8)])]
  [] (by kernel_rfl) trivial h (by kernel_rfl)
end Go.Proofs.Tryz
/- Contracts of package geo: lines. -/
namespace Go.Eng
open Go.Big
/-- A line of package geo. -/
def RLn (V:View) (v:Value) (a b c:Rat):Prop:=∃(x1 x2:Int) (p:OA) (y1 y2:Int) (q:OA) (z1 z2:Int) (r:OA),v=.agg #[.int .i64 x1,.int .i64 x2,.pointer p,.int .i64 y1,.int .i64 y2,.pointer q,.int .i64 z1,.int .i64 z2,.pointer r] /\
 RR V (.agg #[.int .i64 x1,.int .i64 x2,.pointer p]) a/\RR V (.agg #[.int .i64 y1,.int .i64 y2,.pointer q]) b/\RR V (.agg #[.int .i64 z1,.int .i64 z2,.pointer r]) c
/-- The shape of a line of package geo. -/
def LnSh (v:Value):Prop:=∃(x1 x2:Int) (x3:OA) (y1 y2:Int) (y3:OA) (z1 z2:Int) (z3:OA),v=.agg #[.int .i64 x1,.int .i64 x2,.pointer x3,.int .i64 y1,.int .i64 y2,.pointer y3,.int .i64 z1,.int .i64 z2,.pointer z3]
theorem RLn.le {V V':View} {v:Value} {a b c:Rat} (h:RLn V v a b c) (l:V.Le V'):RLn V' v a b c:=by
 obtain ⟨x1,x2,p,y1,y2,q,z1,z2,r,rfl,h1,h2,h3⟩:=h
 exact ⟨x1,x2,p,y1,y2,q,z1,z2,r,rfl,h1.le l,h2.le l,h3.le l⟩
end Go.Eng
namespace Go.Proofs.Tryz
open Go.Eng Go.Big
theorem c_geo_API {V:View} {v:Value} {a b c:Rat} (h:RLn V v a b c) {k:Nat} (s1:Sz k a) (s2:Sz k b) (s3:Sz k c) (hk:k<=1099511627776) :
  Acts prog 103 #[v] V fun r V'=>RL V' r a.num b.num c.num:=by
 obtain ⟨x1,x2,p,y1,y2,q,z1,z2,r,rfl,h1,h2,h3⟩:=h
 refine vc_geo_Ln_API _ _ _ _ _ _ _ _ _ V _ fun V1 l1=>(c_R_Num (h1.le l1) s1 hk).mono ?_
 rintro r V2 l2 ⟨p1,n1,c1,rfl,g1⟩
 refine ⟨_,_,_,_,rfl,fun V3 l3=>(c_R_Num (h2.le (l1.trans (l2.trans l3))) s2 hk).mono ?_⟩
 rintro r V4 l4 ⟨p2,n2,c2,rfl,g2⟩
 refine ⟨_,_,_,_,rfl,fun V5 l5=>(c_R_Num (h3.le (l1.trans (l2.trans (l3.trans (l4.trans l5))))) s3 hk).mono ?_⟩
 rintro r V6 l6 ⟨p3,n3,c3,rfl,g3⟩
 exact ⟨_,_,_,_,rfl,fun V7 l7=>⟨_,_,_,_,_,_,_,_,_,rfl,g1.le (l3.trans (l4.trans (l5.trans (l6.trans l7)))),g2.le (l5.trans (l6.trans l7)),g3.le l7⟩⟩
end Go.Proofs.Tryz
