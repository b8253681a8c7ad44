/- A part of the proof (joined by program from: VFrac, FracA, FracB, FracC). -/
import Derived.Test.YtalijajeenhebaaGreatDoorM5
import Derived.Test.YtalijajeenhebaaGreatDoorM8
set_option linter.unusedVariables false
open Go.IntKind (i64 u64 u32)
/- By program: the conditions of the functions, from their loaded code. -/
namespace Go.Proofs.Tryz
open Go.Eng
set_option maxRecDepth 100000
theorem vc_frac_Int (n:Int) (V:View) (R:Value->View->Prop)
  (h:(((decide (n<=(-4611686018427387904:Int)))=true->(∀V1,V.Le V1->Acts prog 176 #[.int .i64 n] V1 fun r1_ V2=>∃b1_,∃p2_ n2_ c2_,r1_=.agg #[.bool b1_,.slice p2_ n2_ c2_]/\(∀V3,V2.Le V3->∀bk3_:Nat,(V3.blk bk3_ (.cells #[.int .u32 1] 244 (0,0)))->Acts prog 164 #[.agg #[.bool b1_,.slice p2_ n2_ c2_],.slice (some ⟨bk3_,0,none⟩) 1 1] V3 fun r3_ V4=>∃x4_,∃x5_,∃p6_,r3_=.agg #[.int .i64 x4_,.int .i64 x5_,.pointer p6_]/\∀J7_:C->Value,(∀V5,V4.Le V5->R (.agg #[.int .i64 x4_,.int .i64 x5_,.pointer p6_]) V5))))/\((decide (n<=(-4611686018427387904:Int)))=false->(((decide (n ≥ (4611686018427387904:Int)))=true->(∀V6,V.Le V6->Acts prog 176 #[.int .i64 n] V6 fun r6_ V7=>∃b8_,∃p9_ n9_ c9_,r6_=.agg #[.bool b8_,.slice p9_ n9_ c9_]/\(∀V8,V7.Le V8->∀bk10_:Nat,(V8.blk bk10_ (.cells #[.int .u32 1] 244 (0,0)))->Acts prog 164 #[.agg #[.bool b8_,.slice p9_ n9_ c9_],.slice (some ⟨bk10_,0,none⟩) 1 1] V8 fun r8_ V9=>∃x11_,∃x12_,∃p13_,r8_=.agg #[.int .i64 x11_,.int .i64 x12_,.pointer p13_]/\∀J14_:C->Value,(∀V10,V9.Le V10->R (.agg #[.int .i64 x11_,.int .i64 x12_,.pointer p13_]) V10))))/\((decide (n ≥ (4611686018427387904:Int)))=false->(∀V11,V.Le V11->R (.agg #[.int .i64 n,.int .i64 0,.pointer none]) V11)))))) :
  Acts prog 127 #[.int .i64 n] V R:=
 fn_does (LF:=LF0) (RF:=[1000007]) (β0:=(fun _=>0)) tab_ok mixed [] [] func127 (by kernel_rfl)
  [(0,.c (.v (.int .i64 n)))]
  [] (by kernel_rfl) trivial h (by kernel_rfl)
theorem vc_frac_reduce (num0:Bool) (num1p:OA) (num1n num1c:Nat) (denp:OA) (denn denc:Nat) (V:View) (R:Value->View->Prop)
  (h:(∀V1,V.Le V1->Acts prog 200 #[.slice denp denn denc] V1 fun r1_ V2=>∃x1_,r1_=.int .i64 x1_/\(((x1_ == (0:Int))=true->(∀V3,V2.Le V3->R (.agg #[.int .i64 0,.int .i64 0,.pointer none]) V3))/\((x1_ == (0:Int))=false->(∀V4,V2.Le V4->Acts prog 201 #[.agg #[.bool num0,.slice num1p num1n num1c]] V4 fun r4_ V5=>∃x2_,r4_=.int .i64 x2_/\(((x2_ == (0:Int))=true->(∀V6,V5.Le V6->R (.agg #[.int .i64 0,.int .i64 0,.pointer none]) V6))/\((x2_ == (0:Int))=false->(∀V7,V5.Le V7->Acts prog 195 #[.slice num1p num1n num1c,.slice denp denn denc] V7 fun r7_ V8=>∃p3_ n3_ c3_,r7_=.slice p3_ n3_ c3_/\(∀V9,V8.Le V9->Acts prog 200 #[.slice p3_ n3_ c3_] V9 fun r9_ V10=>∃x4_,r9_=.int .i64 x4_/\(∃I5_:((OA) × Nat × Nat × Bool × (OA) × Nat × Nat)->View->Prop,(((decide (x4_ > (1:Int)))=true->(∀V11,V10.Le V11->Acts prog 202 #[.slice num1p num1n num1c,.slice p3_ n3_ c3_] V11 fun r11_ V12=>∃p6_ n6_ c6_,∃p7_ n7_ c7_,∃b8_,r11_=.tuple #[.slice p6_ n6_ c6_,.slice p7_ n7_ c7_,.bool b8_]/\(∀V13,V12.Le V13->Acts prog 202 #[.slice denp denn denc,.slice p3_ n3_ c3_] V13 fun r13_ V14=>∃p9_ n9_ c9_,∃p10_ n10_ c10_,∃b11_,r13_=.tuple #[.slice p9_ n9_ c9_,.slice p10_ n10_ c10_,.bool b11_]/\(∃z12_:(OA) × Nat × Nat × Bool × (OA) × Nat × Nat,(sm 0/\sm 0/\((p9_:OA)=z12_.1)/\((n9_:Nat)=z12_.2.1)/\((c9_:Nat)=z12_.2.2.1)/\((0:Int)=(0:Int))/\((0:Int)=(0:Int))/\((none:OA)=none)/\(num0=z12_.2.2.2.1)/\((p6_:OA)=z12_.2.2.2.2.1)/\((n6_:Nat)=z12_.2.2.2.2.2.1)/\((c6_:Nat)=z12_.2.2.2.2.2.2))/\I5_ z12_ V14))))/\((decide (x4_ > (1:Int)))=false->(∃z13_:(OA) × Nat × Nat × Bool × (OA) × Nat × Nat,(sm 0/\sm 0/\((denp:OA)=z13_.1)/\((denn:Nat)=z13_.2.1)/\((denc:Nat)=z13_.2.2.1)/\((0:Int)=(0:Int))/\((0:Int)=(0:Int))/\((none:OA)=none)/\(num0=z13_.2.2.2.1)/\((num1p:OA)=z13_.2.2.2.2.1)/\((num1n:Nat)=z13_.2.2.2.2.2.1)/\((num1c:Nat)=z13_.2.2.2.2.2.2))/\I5_ z13_ V10)))/\∀(z14_:(OA) × Nat × Nat × Bool × (OA) × Nat × Nat) (V15:View),V10.Le V15->I5_ z14_ V15->(true=true/\(∀V16,V15.Le V16->Acts prog 200 #[.slice z14_.2.2.2.2.1 z14_.2.2.2.2.2.1 z14_.2.2.2.2.2.2] V16 fun r16_ V17=>∃x15_,r16_=.int .i64 x15_/\(((decide (x15_<=(62:Int)))=true->(∀V18,V17.Le V18->Acts prog 200 #[.slice z14_.1 z14_.2.1 z14_.2.2.1] V18 fun r18_ V19=>∃x16_,r18_=.int .i64 x16_/\(((decide (x16_<=(62:Int)))=true->(∀V20,V19.Le V20->Acts prog 203 #[.agg #[.bool z14_.2.2.2.1,.slice z14_.2.2.2.2.1 z14_.2.2.2.2.2.1 z14_.2.2.2.2.2.2]] V20 fun r20_ V21=>∃x17_,∃b18_,r20_=.tuple #[.int .i64 x17_,.bool b18_]/\(∀V22,V21.Le V22->Acts prog 204 #[.slice z14_.1 z14_.2.1 z14_.2.2.1] V22 fun r22_ V23=>∃x19_,∃b20_,r22_=.tuple #[.int .u64 x19_,.bool b20_]/\(∀V24,V23.Le V24->R (.agg #[.int .i64 x17_,.int .i64 (i64.wrap ((i64.wrap x19_) - (1:Int))),.pointer none]) V24))))/\((decide (x16_<=(62:Int)))=false->(∀V25,V19.Le V25->Acts prog 205 #[.agg #[.bool z14_.2.2.2.1,.slice z14_.2.2.2.2.1 z14_.2.2.2.2.2.1 z14_.2.2.2.2.2.2]] V25 fun r25_ V26=>∃b21_,∃p22_ n22_ c22_,r25_=.agg #[.bool b21_,.slice p22_ n22_ c22_]/\(∀V27,V26.Le V27->Acts prog 206 #[.slice z14_.1 z14_.2.1 z14_.2.2.1] V27 fun r27_ V28=>∃p23_ n23_ c23_,r27_=.slice p23_ n23_ c23_/\(∀V29,V28.Le V29->∀bk24_:Nat,(V29.blk bk24_ (.cells #[.bool b21_,.slice p22_ n22_ c22_,.slice p23_ n23_ c23_] 267 (0,0)))->R (.agg #[.int .i64 0,.int .i64 0,.pointer (some ⟨bk24_,0,none⟩)]) V29)))))))/\((decide (x15_<=(62:Int)))=false->(∀V30,V17.Le V30->Acts prog 205 #[.agg #[.bool z14_.2.2.2.1,.slice z14_.2.2.2.2.1 z14_.2.2.2.2.2.1 z14_.2.2.2.2.2.2]] V30 fun r30_ V31=>∃b25_,∃p26_ n26_ c26_,r30_=.agg #[.bool b25_,.slice p26_ n26_ c26_]/\(∀V32,V31.Le V32->Acts prog 206 #[.slice z14_.1 z14_.2.1 z14_.2.2.1] V32 fun r32_ V33=>∃p27_ n27_ c27_,r32_=.slice p27_ n27_ c27_/\(∀V34,V33.Le V34->∀bk28_:Nat,(V34.blk bk28_ (.cells #[.bool b25_,.slice p26_ n26_ c26_,.slice p27_ n27_ c27_] 267 (0,0)))->R (.agg #[.int .i64 0,.int .i64 0,.pointer (some ⟨bk28_,0,none⟩)]) V34))))))))))))))))) :
  Acts prog 164 #[.agg #[.bool num0,.slice num1p num1n num1c],.slice denp denn denc] V R:=
 fn_does (LF:=LF0) (RF:=[1000007]) (β0:=(fun _=>0)) tab_ok mixed [] [(5,{ τ:=(OA) × Nat × Nat × Bool × (OA) × Nat × Nat,keep:=[2,4],keepB:=[4],slots:=fun z=>[(1,.c (.v (.slice z.1 z.2.1 z.2.2.1)))],boxes:=fun z=>[(2,⟨.lit [.v (.bool z.2.2.2.1),.v (.slice z.2.2.2.2.1 z.2.2.2.2.2.1 z.2.2.2.2.2.2)],36⟩)] })] func164 (by kernel_rfl)
  [(0,.agg [.v (.bool num0),.v (.slice num1p num1n num1c)]),(1,.c (.v (.slice denp denn denc)))]
  [] (by kernel_rfl) trivial h (by kernel_rfl)
theorem vc_frac_Of (a0:Bool) (a1p:OA) (a1n a1c:Nat) (a2p:OA) (a2n a2c:Nat) (V:View) (R:Value->View->Prop)
  (h:(∀V1,V.Le V1->Acts prog 164 #[.agg #[.bool a0,.slice a1p a1n a1c],.slice a2p a2n a2c] V1 fun r1_ V2=>∃x1_,∃x2_,∃p3_,r1_=.agg #[.int .i64 x1_,.int .i64 x2_,.pointer p3_]/\(∀V3,V2.Le V3->R (.agg #[.int .i64 x1_,.int .i64 x2_,.pointer p3_]) V3))) :
  Acts prog 102 #[.agg #[.bool a0,.slice a1p a1n a1c,.slice a2p a2n a2c]] V R:=
 fn_does (LF:=LF0) (RF:=[1000007]) (β0:=(fun _=>0)) tab_ok mixed [] [] func102 (by kernel_rfl)
  [(0,.agg [.v (.bool a0),.v (.slice a1p a1n a1c),.v (.slice a2p a2n a2c)])]
  [] (by kernel_rfl) trivial h (by kernel_rfl)
theorem vc_frac_Whole (a0:Bool) (a1p:OA) (a1n a1c:Nat) (V:View) (R:Value->View->Prop)
  (h:(∀V1,V.Le V1->∀bk1_:Nat,(V1.blk bk1_ (.cells #[.int .u32 1] 244 (0,0)))->Acts prog 164 #[.agg #[.bool a0,.slice a1p a1n a1c],.slice (some ⟨bk1_,0,none⟩) 1 1] V1 fun r1_ V2=>∃x2_,∃x3_,∃p4_,r1_=.agg #[.int .i64 x2_,.int .i64 x3_,.pointer p4_]/\∀J5_:C->Value,(∀V3,V2.Le V3->R (.agg #[.int .i64 x2_,.int .i64 x3_,.pointer p4_]) V3))) :
  Acts prog 152 #[.agg #[.bool a0,.slice a1p a1n a1c]] V R:=
 fn_does (LF:=LF0) (RF:=[1000007]) (β0:=(fun _=>0)) tab_ok mixed [] [] func152 (by kernel_rfl)
  [(0,.agg [.v (.bool a0),.v (.slice a1p a1n a1c)])]
  [] (by kernel_rfl) trivial h (by kernel_rfl)
theorem vc_frac_Normal (a0:Bool) (a1p:OA) (a1n a1c:Nat) (a2p:OA) (a2n a2c:Nat) (V:View) (R:Value->View->Prop)
  (h:(∀V1,V.Le V1->Acts prog 151 #[.agg #[.bool a0,.slice a1p a1n a1c]] V1 fun r1_ V2=>∃b1_,r1_=.bool b1_/\(((!b1_)=true->(∀V3,V2.Le V3->R (.bool false) V3))/\((!b1_)=false->(∀V4,V2.Le V4->Acts prog 191 #[.slice a2p a2n a2c] V4 fun r4_ V5=>∃b2_,r4_=.bool b2_/\(((!b2_)=true->(∀V6,V5.Le V6->R (.bool false) V6))/\((!b2_)=false->(((((a2n:Nat):Int) == (0:Int))=true->(∀V7,V5.Le V7->R (.bool false) V7))/\((((a2n:Nat):Int) == (0:Int))=false->(∀V8,V5.Le V8->Acts prog 195 #[.slice a1p a1n a1c,.slice a2p a2n a2c] V8 fun r8_ V9=>∃p3_ n3_ c3_,r8_=.slice p3_ n3_ c3_/\(∀V10,V9.Le V10->Acts prog 200 #[.slice p3_ n3_ c3_] V10 fun r10_ V11=>∃x4_,r10_=.int .i64 x4_/\(∀V12,V11.Le V12->R (.bool (x4_ == (1:Int))) V12)))))))))))) :
  Acts prog 209 #[.agg #[.bool a0,.slice a1p a1n a1c,.slice a2p a2n a2c]] V R:=
 fn_does (LF:=LF0) (RF:=[1000007]) (β0:=(fun _=>0)) tab_ok mixed [] [] func209 (by kernel_rfl)
  [(0,.agg [.v (.bool a0),.v (.slice a1p a1n a1c),.v (.slice a2p a2n a2c)])]
  [] (by kernel_rfl) trivial h (by kernel_rfl)
theorem vc_frac_R_Num (r0:Int) (r1:Int) (r2:OA) (V:View) (R:Value->View->Prop)
  (h:(((!r2.isNone)=true->(r2.isSome=true)/\(r2.isSome=true)/\(∃b1_,∃p2_ n2_ c2_,∃a3_,addrAdd r2 0=some a3_/\V.at (a3_.add 0) (.bool b1_)/\V.at (a3_.add 1) (.slice p2_ n2_ c2_)/\(∀V1,V.Le V1->Acts prog 205 #[.agg #[.bool b1_,.slice p2_ n2_ c2_]] V1 fun r1_ V2=>∃b4_,∃p5_ n5_ c5_,r1_=.agg #[.bool b4_,.slice p5_ n5_ c5_]/\(∀V3,V2.Le V3->R (.agg #[.bool b4_,.slice p5_ n5_ c5_]) V3))))/\((!r2.isNone)=false->(∀V4,V.Le V4->Acts prog 176 #[.int .i64 r0] V4 fun r4_ V5=>∃b6_,∃p7_ n7_ c7_,r4_=.agg #[.bool b6_,.slice p7_ n7_ c7_]/\(∀V6,V5.Le V6->R (.agg #[.bool b6_,.slice p7_ n7_ c7_]) V6))))) :
  Acts prog 165 #[.agg #[.int .i64 r0,.int .i64 r1,.pointer r2]] V R:=
 fn_does (LF:=LF0) (RF:=[1000007]) (β0:=(fun _=>0)) tab_ok mixed [] [] func165 (by kernel_rfl)
  [(0,.agg [.v (.int .i64 r0),.v (.int .i64 r1),.v (.pointer r2)])]
  [] (by kernel_rfl) trivial h (by kernel_rfl)
theorem vc_frac_R_Den (r0:Int) (r1:Int) (r2:OA) (V:View) (R:Value->View->Prop)
  (h:(((!r2.isNone)=true->(r2.isSome=true)/\(r2.isSome=true)/\(∃p1_ n1_ c1_,(∃a2_,addrAdd r2 2=some a2_/\V.at a2_ (.slice p1_ n1_ c1_))/\(∀V1,V.Le V1->Acts prog 206 #[.slice p1_ n1_ c1_] V1 fun r1_ V2=>∃p3_ n3_ c3_,r1_=.slice p3_ n3_ c3_/\(∀V3,V2.Le V3->R (.slice p3_ n3_ c3_) V3))))/\((!r2.isNone)=false->(∀V4,V.Le V4->Acts prog 210 #[.int .u64 (u64.wrap (i64.wrap (r1 + (1:Int))))] V4 fun r4_ V5=>∃p4_ n4_ c4_,r4_=.slice p4_ n4_ c4_/\(∀V6,V5.Le V6->R (.slice p4_ n4_ c4_) V6))))) :
  Acts prog 187 #[.agg #[.int .i64 r0,.int .i64 r1,.pointer r2]] V R:=
 fn_does (LF:=LF0) (RF:=[1000007]) (β0:=(fun _=>0)) tab_ok mixed [] [] func187 (by kernel_rfl)
  [(0,.agg [.v (.int .i64 r0),.v (.int .i64 r1),.v (.pointer r2)])]
  [] (by kernel_rfl) trivial h (by kernel_rfl)
theorem vc_frac_R_API (r0:Int) (r1:Int) (r2:OA) (V:View) (R:Value->View->Prop)
  (h:(∀V1,V.Le V1->Acts prog 165 #[.agg #[.int .i64 r0,.int .i64 r1,.pointer r2]] V1 fun r1_ V2=>∃b1_,∃p2_ n2_ c2_,r1_=.agg #[.bool b1_,.slice p2_ n2_ c2_]/\(∀V3,V2.Le V3->Acts prog 187 #[.agg #[.int .i64 r0,.int .i64 r1,.pointer r2]] V3 fun r3_ V4=>∃p3_ n3_ c3_,r3_=.slice p3_ n3_ c3_/\(∀V5,V4.Le V5->R (.agg #[.bool b1_,.slice p2_ n2_ c2_,.slice p3_ n3_ c3_]) V5)))) :
  Acts prog 144 #[.agg #[.int .i64 r0,.int .i64 r1,.pointer r2]] V R:=
 fn_does (LF:=LF0) (RF:=[1000007]) (β0:=(fun _=>0)) tab_ok mixed [] [] func144 (by kernel_rfl)
  [(0,.agg [.v (.int .i64 r0),.v (.int .i64 r1),.v (.pointer r2)])]
  [] (by kernel_rfl) trivial h (by kernel_rfl)
theorem vc_frac_abs (n:Int) (V:View) (R:Value->View->Prop)
  (h:(((decide (n < (0:Int)))=true->(∀V1,V.Le V1->R (.int .u64 (u64.wrap (i64.wrap (0 - n)))) V1))/\((decide (n < (0:Int)))=false->(∀V2,V.Le V2->R (.int .u64 (u64.wrap n)) V2)))) :
  Acts prog 193 #[.int .i64 n] V R:=
 fn_does (LF:=LF0) (RF:=[1000007]) (β0:=(fun _=>0)) tab_ok mixed [] [] func193 (by kernel_rfl)
  [(0,.c (.v (.int .i64 n)))]
  [] (by kernel_rfl) trivial h (by kernel_rfl)
theorem vc_frac_gcd (a:Int) (b:Int) (V:View) (R:Value->View->Prop)
  (h:(∃(I1_:(Int × Int)->View->Prop) (m2_:(Int × Int)->Nat),(∃z3_:Int × Int,((a=z3_.1)/\(b=z3_.2))/\I1_ z3_ V)/\∀(z4_:Int × Int) (V1:View),V.Le V1->I1_ z4_ V1->(true=true/\(((z4_.2 != (0:Int))=true->(z4_.2≠0)/\(∃z5_:Int × Int,m2_ z5_ < m2_ z4_/\((z4_.2=z5_.1)/\((z4_.1.tmod z4_.2)=z5_.2))/\I1_ z5_ V1))/\((z4_.2 != (0:Int))=false->(∀V2,V1.Le V2->R (.int .u64 z4_.1) V2)))))) :
  Acts prog 192 #[.int .u64 a,.int .u64 b] V R:=
 fn_does (LF:=LF0) (RF:=[1000007]) (β0:=(fun _=>0)) tab_ok mixed [(1,{ τ:=Int × Int,keep:=[],keepB:=[],slots:=fun z=>[(0,.c (.v (.int .u64 z.1))),(1,.c (.v (.int .u64 z.2)))],boxes:=fun z=>[] })] [] func192 (by kernel_rfl)
  [(0,.c (.v (.int .u64 a))),(1,.c (.v (.int .u64 b)))]
  [] (by kernel_rfl) trivial h (by kernel_rfl)
theorem vc_frac_times (a:Int) (b:Int) (V:View) (R:Value->View->Prop)
  (h:(∀V1,V.Le V1->Acts prog 193 #[.int .i64 a] V1 fun r1_ V2=>∃x1_,r1_=.int .u64 x1_/\(∀V3,V2.Le V3->Acts prog 193 #[.int .i64 b] V3 fun r3_ V4=>∃x2_,r3_=.int .u64 x2_/\(∀V5,V4.Le V5->Acts prog 227 #[.int .u64 x1_,.int .u64 x2_] V5 fun r5_ V6=>∃x3_,∃x4_,r5_=.tuple #[.int .u64 x3_,.int .u64 x4_]/\(((x3_ != (0:Int))=true->(∀V7,V6.Le V7->R (.tuple #[.int .i64 0,.bool false]) V7))/\((x3_ != (0:Int))=false->(((decide (x4_ ≥ (4611686018427387904:Int)))=true->(∀V8,V6.Le V8->R (.tuple #[.int .i64 0,.bool false]) V8))/\((decide (x4_ ≥ (4611686018427387904:Int)))=false->(((!((decide (a < (0:Int))) == (decide (b < (0:Int)))))=true->(∀V9,V6.Le V9->R (.tuple #[.int .i64 (i64.wrap (0 - (i64.wrap x4_))),.bool true]) V9))/\((!((decide (a < (0:Int))) == (decide (b < (0:Int)))))=false->(∀V10,V6.Le V10->R (.tuple #[.int .i64 (i64.wrap x4_),.bool true]) V10))))))))))) :
  Acts prog 214 #[.int .i64 a,.int .i64 b] V R:=
 fn_does (LF:=LF0) (RF:=[1000007]) (β0:=(fun _=>0)) tab_ok mixed [] [] func214 (by kernel_rfl)
  [(0,.c (.v (.int .i64 a))),(1,.c (.v (.int .i64 b)))]
  [] (by kernel_rfl) trivial h (by kernel_rfl)
theorem vc_frac_lowest (n:Int) (d:Int) (V:View) (R:Value->View->Prop)
  (h:(∀V1,V.Le V1->Acts prog 193 #[.int .i64 n] V1 fun r1_ V2=>∃x1_,r1_=.int .u64 x1_/\(∀V3,V2.Le V3->Acts prog 192 #[.int .u64 x1_,.int .u64 (u64.wrap d)] V3 fun r3_ V4=>∃x2_,r3_=.int .u64 x2_/\(((decide ((i64.wrap x2_) > (1:Int)))=true->((i64.wrap x2_)≠0)/\((i64.wrap x2_)≠0)/\(∀V5,V4.Le V5->R (.agg #[.int .i64 (i64.wrap (n.tdiv (i64.wrap x2_))),.int .i64 (i64.wrap ((i64.wrap (d.tdiv (i64.wrap x2_))) - (1:Int))),.pointer none]) V5))/\((decide ((i64.wrap x2_) > (1:Int)))=false->(∀V6,V4.Le V6->R (.agg #[.int .i64 n,.int .i64 (i64.wrap (d - (1:Int))),.pointer none]) V6)))))) :
  Acts prog 215 #[.int .i64 n,.int .i64 d] V R:=
 fn_does (LF:=LF0) (RF:=[1000007]) (β0:=(fun _=>0)) tab_ok mixed [] [] func215 (by kernel_rfl)
  [(0,.c (.v (.int .i64 n))),(1,.c (.v (.int .i64 d)))]
  [] (by kernel_rfl) trivial h (by kernel_rfl)
theorem vc_frac_R_Add (r0:Int) (r1:Int) (r2:OA) (s0:Int) (s1:Int) (s2:OA) (V:View) (R:Value->View->Prop)
  (h:((r2.isNone=true->(∃I1_:Unit->View->Prop,((s2.isNone=true->(((r1 == (0:Int))=true->(((s1 == (0:Int))=true->(∀V1,V.Le V1->Acts prog 127 #[.int .i64 (i64.wrap (r0 + s0))] V1 fun r1_ V2=>∃x2_,∃x3_,∃p4_,r1_=.agg #[.int .i64 x2_,.int .i64 x3_,.pointer p4_]/\(∀V3,V2.Le V3->R (.agg #[.int .i64 x2_,.int .i64 x3_,.pointer p4_]) V3)))/\((s1 == (0:Int))=false->(∀V4,V.Le V4->Acts prog 214 #[.int .i64 r0,.int .i64 (i64.wrap (s1 + (1:Int)))] V4 fun r4_ V5=>∃x5_,∃b6_,r4_=.tuple #[.int .i64 x5_,.bool b6_]/\(∀V6,V5.Le V6->Acts prog 214 #[.int .i64 s0,.int .i64 (i64.wrap (r1 + (1:Int)))] V6 fun r6_ V7=>∃x7_,∃b8_,r6_=.tuple #[.int .i64 x7_,.bool b8_]/\(∀V8,V7.Le V8->Acts prog 214 #[.int .i64 (i64.wrap (r1 + (1:Int))),.int .i64 (i64.wrap (s1 + (1:Int)))] V8 fun r8_ V9=>∃x9_,∃b10_,r8_=.tuple #[.int .i64 x9_,.bool b10_]/\((b6_=true->((b8_=true->((b10_=true->(((decide ((i64.wrap (x5_ + x7_)) > (-4611686018427387904:Int)))=true->(((decide ((i64.wrap (x5_ + x7_)) < (4611686018427387904:Int)))=true->(∀V10,V9.Le V10->Acts prog 215 #[.int .i64 (i64.wrap (x5_ + x7_)),.int .i64 x9_] V10 fun r10_ V11=>∃x11_,∃x12_,∃p13_,r10_=.agg #[.int .i64 x11_,.int .i64 x12_,.pointer p13_]/\(∀V12,V11.Le V12->R (.agg #[.int .i64 x11_,.int .i64 x12_,.pointer p13_]) V12)))/\((decide ((i64.wrap (x5_ + x7_)) < (4611686018427387904:Int)))=false->(∃z14_:Unit,(sm 0/\sm 0/\sm 0/\(r0=r0)/\(r1=r1)/\sm r2/\(s0=s0)/\(s1=s1)/\sm s2/\((0:Int)=(0:Int))/\((0:Int)=(0:Int))/\((none:OA)=none))/\I1_ z14_ V9))))/\((decide ((i64.wrap (x5_ + x7_)) > (-4611686018427387904:Int)))=false->(∃z15_:Unit,(sm 0/\sm 0/\sm 0/\(r0=r0)/\(r1=r1)/\sm r2/\(s0=s0)/\(s1=s1)/\sm s2/\((0:Int)=(0:Int))/\((0:Int)=(0:Int))/\((none:OA)=none))/\I1_ z15_ V9))))/\(b10_=false->(∃z16_:Unit,(sm 0/\sm 0/\sm 0/\(r0=r0)/\(r1=r1)/\sm r2/\(s0=s0)/\(s1=s1)/\sm s2/\((0:Int)=(0:Int))/\((0:Int)=(0:Int))/\((none:OA)=none))/\I1_ z16_ V9))))/\(b8_=false->(∃z17_:Unit,(sm 0/\sm 0/\sm 0/\(r0=r0)/\(r1=r1)/\sm r2/\(s0=s0)/\(s1=s1)/\sm s2/\((0:Int)=(0:Int))/\((0:Int)=(0:Int))/\((none:OA)=none))/\I1_ z17_ V9))))/\(b6_=false->(∃z18_:Unit,(sm 0/\sm 0/\sm 0/\(r0=r0)/\(r1=r1)/\sm r2/\(s0=s0)/\(s1=s1)/\sm s2/\((0:Int)=(0:Int))/\((0:Int)=(0:Int))/\((none:OA)=none))/\I1_ z18_ V9)))))))))/\((r1 == (0:Int))=false->(∀V13,V.Le V13->Acts prog 214 #[.int .i64 r0,.int .i64 (i64.wrap (s1 + (1:Int)))] V13 fun r13_ V14=>∃x19_,∃b20_,r13_=.tuple #[.int .i64 x19_,.bool b20_]/\(∀V15,V14.Le V15->Acts prog 214 #[.int .i64 s0,.int .i64 (i64.wrap (r1 + (1:Int)))] V15 fun r15_ V16=>∃x21_,∃b22_,r15_=.tuple #[.int .i64 x21_,.bool b22_]/\(∀V17,V16.Le V17->Acts prog 214 #[.int .i64 (i64.wrap (r1 + (1:Int))),.int .i64 (i64.wrap (s1 + (1:Int)))] V17 fun r17_ V18=>∃x23_,∃b24_,r17_=.tuple #[.int .i64 x23_,.bool b24_]/\((b20_=true->((b22_=true->((b24_=true->(((decide ((i64.wrap (x19_ + x21_)) > (-4611686018427387904:Int)))=true->(((decide ((i64.wrap (x19_ + x21_)) < (4611686018427387904:Int)))=true->(∀V19,V18.Le V19->Acts prog 215 #[.int .i64 (i64.wrap (x19_ + x21_)),.int .i64 x23_] V19 fun r19_ V20=>∃x25_,∃x26_,∃p27_,r19_=.agg #[.int .i64 x25_,.int .i64 x26_,.pointer p27_]/\(∀V21,V20.Le V21->R (.agg #[.int .i64 x25_,.int .i64 x26_,.pointer p27_]) V21)))/\((decide ((i64.wrap (x19_ + x21_)) < (4611686018427387904:Int)))=false->(∃z28_:Unit,(sm 0/\sm 0/\sm 0/\(r0=r0)/\(r1=r1)/\sm r2/\(s0=s0)/\(s1=s1)/\sm s2/\((0:Int)=(0:Int))/\((0:Int)=(0:Int))/\((none:OA)=none))/\I1_ z28_ V18))))/\((decide ((i64.wrap (x19_ + x21_)) > (-4611686018427387904:Int)))=false->(∃z29_:Unit,(sm 0/\sm 0/\sm 0/\(r0=r0)/\(r1=r1)/\sm r2/\(s0=s0)/\(s1=s1)/\sm s2/\((0:Int)=(0:Int))/\((0:Int)=(0:Int))/\((none:OA)=none))/\I1_ z29_ V18))))/\(b24_=false->(∃z30_:Unit,(sm 0/\sm 0/\sm 0/\(r0=r0)/\(r1=r1)/\sm r2/\(s0=s0)/\(s1=s1)/\sm s2/\((0:Int)=(0:Int))/\((0:Int)=(0:Int))/\((none:OA)=none))/\I1_ z30_ V18))))/\(b22_=false->(∃z31_:Unit,(sm 0/\sm 0/\sm 0/\(r0=r0)/\(r1=r1)/\sm r2/\(s0=s0)/\(s1=s1)/\sm s2/\((0:Int)=(0:Int))/\((0:Int)=(0:Int))/\((none:OA)=none))/\I1_ z31_ V18))))/\(b20_=false->(∃z32_:Unit,(sm 0/\sm 0/\sm 0/\(r0=r0)/\(r1=r1)/\sm r2/\(s0=s0)/\(s1=s1)/\sm s2/\((0:Int)=(0:Int))/\((0:Int)=(0:Int))/\((none:OA)=none))/\I1_ z32_ V18)))))))))/\(s2.isNone=false->(∃z33_:Unit,(sm 0/\sm 0/\sm 0/\(r0=r0)/\(r1=r1)/\sm r2/\(s0=s0)/\(s1=s1)/\sm s2/\((0:Int)=(0:Int))/\((0:Int)=(0:Int))/\((none:OA)=none))/\I1_ z33_ V)))/\∀(z34_:Unit) (V22:View),V.Le V22->I1_ z34_ V22->(true=true/\(∀V23,V22.Le V23->Acts prog 165 #[.agg #[.int .i64 r0,.int .i64 r1,.pointer r2]] V23 fun r23_ V24=>∃b35_,∃p36_ n36_ c36_,r23_=.agg #[.bool b35_,.slice p36_ n36_ c36_]/\(∀V25,V24.Le V25->Acts prog 187 #[.agg #[.int .i64 s0,.int .i64 s1,.pointer s2]] V25 fun r25_ V26=>∃p37_ n37_ c37_,r25_=.slice p37_ n37_ c37_/\(∀V27,V26.Le V27->Acts prog 216 #[.agg #[.bool b35_,.slice p36_ n36_ c36_],.agg #[.bool false,.slice p37_ n37_ c37_]] V27 fun r27_ V28=>∃b38_,∃p39_ n39_ c39_,r27_=.agg #[.bool b38_,.slice p39_ n39_ c39_]/\(∀V29,V28.Le V29->Acts prog 165 #[.agg #[.int .i64 s0,.int .i64 s1,.pointer s2]] V29 fun r29_ V30=>∃b40_,∃p41_ n41_ c41_,r29_=.agg #[.bool b40_,.slice p41_ n41_ c41_]/\(∀V31,V30.Le V31->Acts prog 187 #[.agg #[.int .i64 r0,.int .i64 r1,.pointer r2]] V31 fun r31_ V32=>∃p42_ n42_ c42_,r31_=.slice p42_ n42_ c42_/\(∀V33,V32.Le V33->Acts prog 216 #[.agg #[.bool b40_,.slice p41_ n41_ c41_],.agg #[.bool false,.slice p42_ n42_ c42_]] V33 fun r33_ V34=>∃b43_,∃p44_ n44_ c44_,r33_=.agg #[.bool b43_,.slice p44_ n44_ c44_]/\(∀V35,V34.Le V35->Acts prog 218 #[.agg #[.bool b38_,.slice p39_ n39_ c39_],.agg #[.bool b43_,.slice p44_ n44_ c44_]] V35 fun r35_ V36=>∃b45_,∃p46_ n46_ c46_,r35_=.agg #[.bool b45_,.slice p46_ n46_ c46_]/\(∀V37,V36.Le V37->Acts prog 187 #[.agg #[.int .i64 r0,.int .i64 r1,.pointer r2]] V37 fun r37_ V38=>∃p47_ n47_ c47_,r37_=.slice p47_ n47_ c47_/\(∀V39,V38.Le V39->Acts prog 187 #[.agg #[.int .i64 s0,.int .i64 s1,.pointer s2]] V39 fun r39_ V40=>∃p48_ n48_ c48_,r39_=.slice p48_ n48_ c48_/\(∀V41,V40.Le V41->Acts prog 194 #[.slice p47_ n47_ c47_,.slice p48_ n48_ c48_] V41 fun r41_ V42=>∃p49_ n49_ c49_,r41_=.slice p49_ n49_ c49_/\(∀V43,V42.Le V43->Acts prog 164 #[.agg #[.bool b45_,.slice p46_ n46_ c46_],.slice p49_ n49_ c49_] V43 fun r43_ V44=>∃x50_,∃x51_,∃p52_,r43_=.agg #[.int .i64 x50_,.int .i64 x51_,.pointer p52_]/\(∀V45,V44.Le V45->R (.agg #[.int .i64 x50_,.int .i64 x51_,.pointer p52_]) V45)))))))))))))))/\(r2.isNone=false->(∀V46,V.Le V46->Acts prog 165 #[.agg #[.int .i64 r0,.int .i64 r1,.pointer r2]] V46 fun r46_ V47=>∃b53_,∃p54_ n54_ c54_,r46_=.agg #[.bool b53_,.slice p54_ n54_ c54_]/\(∀V48,V47.Le V48->Acts prog 187 #[.agg #[.int .i64 s0,.int .i64 s1,.pointer s2]] V48 fun r48_ V49=>∃p55_ n55_ c55_,r48_=.slice p55_ n55_ c55_/\(∀V50,V49.Le V50->Acts prog 216 #[.agg #[.bool b53_,.slice p54_ n54_ c54_],.agg #[.bool false,.slice p55_ n55_ c55_]] V50 fun r50_ V51=>∃b56_,∃p57_ n57_ c57_,r50_=.agg #[.bool b56_,.slice p57_ n57_ c57_]/\(∀V52,V51.Le V52->Acts prog 165 #[.agg #[.int .i64 s0,.int .i64 s1,.pointer s2]] V52 fun r52_ V53=>∃b58_,∃p59_ n59_ c59_,r52_=.agg #[.bool b58_,.slice p59_ n59_ c59_]/\(∀V54,V53.Le V54->Acts prog 187 #[.agg #[.int .i64 r0,.int .i64 r1,.pointer r2]] V54 fun r54_ V55=>∃p60_ n60_ c60_,r54_=.slice p60_ n60_ c60_/\(∀V56,V55.Le V56->Acts prog 216 #[.agg #[.bool b58_,.slice p59_ n59_ c59_],.agg #[.bool false,.slice p60_ n60_ c60_]] V56 fun r56_ V57=>∃b61_,∃p62_ n62_ c62_,r56_=.agg #[.bool b61_,.slice p62_ n62_ c62_]/\(∀V58,V57.Le V58->Acts prog 218 #[.agg #[.bool b56_,.slice p57_ n57_ c57_],.agg #[.bool b61_,.slice p62_ n62_ c62_]] V58 fun r58_ V59=>∃b63_,∃p64_ n64_ c64_,r58_=.agg #[.bool b63_,.slice p64_ n64_ c64_]/\(∀V60,V59.Le V60->Acts prog 187 #[.agg #[.int .i64 r0,.int .i64 r1,.pointer r2]] V60 fun r60_ V61=>∃p65_ n65_ c65_,r60_=.slice p65_ n65_ c65_/\(∀V62,V61.Le V62->Acts prog 187 #[.agg #[.int .i64 s0,.int .i64 s1,.pointer s2]] V62 fun r62_ V63=>∃p66_ n66_ c66_,r62_=.slice p66_ n66_ c66_/\(∀V64,V63.Le V64->Acts prog 194 #[.slice p65_ n65_ c65_,.slice p66_ n66_ c66_] V64 fun r64_ V65=>∃p67_ n67_ c67_,r64_=.slice p67_ n67_ c67_/\(∀V66,V65.Le V66->Acts prog 164 #[.agg #[.bool b63_,.slice p64_ n64_ c64_],.slice p67_ n67_ c67_] V66 fun r66_ V67=>∃x68_,∃x69_,∃p70_,r66_=.agg #[.int .i64 x68_,.int .i64 x69_,.pointer p70_]/\(∀V68,V67.Le V68->R (.agg #[.int .i64 x68_,.int .i64 x69_,.pointer p70_]) V68))))))))))))))) :
  Acts prog 198 #[.agg #[.int .i64 r0,.int .i64 r1,.pointer r2],.agg #[.int .i64 s0,.int .i64 s1,.pointer s2]] V R:=
 fn_does (LF:=LF0) (RF:=[1000007]) (β0:=(fun _=>0)) tab_ok mixed [] [(2,{ τ:=Unit,keep:=[2,3,4],keepB:=[2,3,4],slots:=fun z=>[],boxes:=fun z=>[] })] func198 (by kernel_rfl)
  [(0,.agg [.v (.int .i64 r0),.v (.int .i64 r1),.v (.pointer r2)]),(1,.agg [.v (.int .i64 s0),.v (.int .i64 s1),.v (.pointer s2)])]
  [] (by kernel_rfl) trivial h (by kernel_rfl)
theorem vc_frac_R_Neg (r0:Int) (r1:Int) (r2:OA) (V:View) (R:Value->View->Prop)
  (h:(((!r2.isNone)=true->(r2.isSome=true)/\(r2.isSome=true)/\(∃b1_,∃p2_ n2_ c2_,∃a3_,addrAdd r2 0=some a3_/\V.at (a3_.add 0) (.bool b1_)/\V.at (a3_.add 1) (.slice p2_ n2_ c2_)/\(r2.isSome=true)/\(r2.isSome=true)/\(∃p4_ n4_ c4_,(∃a5_,addrAdd r2 2=some a5_/\V.at a5_ (.slice p4_ n4_ c4_))/\(∀V1,V.Le V1->Acts prog 199 #[.agg #[.bool b1_,.slice p2_ n2_ c2_]] V1 fun r1_ V2=>∃b6_,∃p7_ n7_ c7_,r1_=.agg #[.bool b6_,.slice p7_ n7_ c7_]/\(∀V3,V2.Le V3->∀bk8_:Nat,(V3.blk bk8_ (.cells #[.bool b6_,.slice p7_ n7_ c7_,.slice p4_ n4_ c4_] 267 (0,0)))->R (.agg #[.int .i64 0,.int .i64 0,.pointer (some ⟨bk8_,0,none⟩)]) V3)))))/\((!r2.isNone)=false->(∀V4,V.Le V4->R (.agg #[.int .i64 (i64.wrap (0 - r0)),.int .i64 r1,.pointer none]) V4)))) :
  Acts prog 161 #[.agg #[.int .i64 r0,.int .i64 r1,.pointer r2]] V R:=
 fn_does (LF:=LF0) (RF:=[1000007]) (β0:=(fun _=>0)) tab_ok mixed [] [] func161 (by kernel_rfl)
  [(0,.agg [.v (.int .i64 r0),.v (.int .i64 r1),.v (.pointer r2)])]
  [] (by kernel_rfl) trivial h (by kernel_rfl)
theorem vc_frac_R_Sub (r0:Int) (r1:Int) (r2:OA) (s0:Int) (s1:Int) (s2:OA) (V:View) (R:Value->View->Prop)
  (h:(∀V1,V.Le V1->Acts prog 161 #[.agg #[.int .i64 s0,.int .i64 s1,.pointer s2]] V1 fun r1_ V2=>∃x1_,∃x2_,∃p3_,r1_=.agg #[.int .i64 x1_,.int .i64 x2_,.pointer p3_]/\(∀V3,V2.Le V3->Acts prog 198 #[.agg #[.int .i64 r0,.int .i64 r1,.pointer r2],.agg #[.int .i64 x1_,.int .i64 x2_,.pointer p3_]] V3 fun r3_ V4=>∃x4_,∃x5_,∃p6_,r3_=.agg #[.int .i64 x4_,.int .i64 x5_,.pointer p6_]/\(∀V5,V4.Le V5->R (.agg #[.int .i64 x4_,.int .i64 x5_,.pointer p6_]) V5)))) :
  Acts prog 186 #[.agg #[.int .i64 r0,.int .i64 r1,.pointer r2],.agg #[.int .i64 s0,.int .i64 s1,.pointer s2]] V R:=
 fn_does (LF:=LF0) (RF:=[1000007]) (β0:=(fun _=>0)) tab_ok mixed [] [] func186 (by kernel_rfl)
  [(0,.agg [.v (.int .i64 r0),.v (.int .i64 r1),.v (.pointer r2)]),(1,.agg [.v (.int .i64 s0),.v (.int .i64 s1),.v (.pointer s2)])]
  [] (by kernel_rfl) trivial h (by kernel_rfl)
theorem vc_frac_R_Mul (r0:Int) (r1:Int) (r2:OA) (s0:Int) (s1:Int) (s2:OA) (V:View) (R:Value->View->Prop)
  (h:((r2.isNone=true->(∃I1_:Unit->View->Prop,((s2.isNone=true->(∀V1,V.Le V1->Acts prog 214 #[.int .i64 r0,.int .i64 s0] V1 fun r1_ V2=>∃x2_,∃b3_,r1_=.tuple #[.int .i64 x2_,.bool b3_]/\(∀V3,V2.Le V3->Acts prog 214 #[.int .i64 (i64.wrap (r1 + (1:Int))),.int .i64 (i64.wrap (s1 + (1:Int)))] V3 fun r3_ V4=>∃x4_,∃b5_,r3_=.tuple #[.int .i64 x4_,.bool b5_]/\((b3_=true->((b5_=true->(∀V5,V4.Le V5->Acts prog 215 #[.int .i64 x2_,.int .i64 x4_] V5 fun r5_ V6=>∃x6_,∃x7_,∃p8_,r5_=.agg #[.int .i64 x6_,.int .i64 x7_,.pointer p8_]/\(∀V7,V6.Le V7->R (.agg #[.int .i64 x6_,.int .i64 x7_,.pointer p8_]) V7)))/\(b5_=false->(∃z9_:Unit,(sm 0/\sm 0/\sm 0/\(r0=r0)/\(r1=r1)/\sm r2/\(s0=s0)/\(s1=s1)/\sm s2/\((0:Int)=(0:Int))/\((0:Int)=(0:Int))/\((none:OA)=none))/\I1_ z9_ V4))))/\(b3_=false->(∃z10_:Unit,(sm 0/\sm 0/\sm 0/\(r0=r0)/\(r1=r1)/\sm r2/\(s0=s0)/\(s1=s1)/\sm s2/\((0:Int)=(0:Int))/\((0:Int)=(0:Int))/\((none:OA)=none))/\I1_ z10_ V4))))))/\(s2.isNone=false->(∃z11_:Unit,(sm 0/\sm 0/\sm 0/\(r0=r0)/\(r1=r1)/\sm r2/\(s0=s0)/\(s1=s1)/\sm s2/\((0:Int)=(0:Int))/\((0:Int)=(0:Int))/\((none:OA)=none))/\I1_ z11_ V)))/\∀(z12_:Unit) (V8:View),V.Le V8->I1_ z12_ V8->(true=true/\(∀V9,V8.Le V9->Acts prog 165 #[.agg #[.int .i64 r0,.int .i64 r1,.pointer r2]] V9 fun r9_ V10=>∃b13_,∃p14_ n14_ c14_,r9_=.agg #[.bool b13_,.slice p14_ n14_ c14_]/\(∀V11,V10.Le V11->Acts prog 165 #[.agg #[.int .i64 s0,.int .i64 s1,.pointer s2]] V11 fun r11_ V12=>∃b15_,∃p16_ n16_ c16_,r11_=.agg #[.bool b15_,.slice p16_ n16_ c16_]/\(∀V13,V12.Le V13->Acts prog 216 #[.agg #[.bool b13_,.slice p14_ n14_ c14_],.agg #[.bool b15_,.slice p16_ n16_ c16_]] V13 fun r13_ V14=>∃b17_,∃p18_ n18_ c18_,r13_=.agg #[.bool b17_,.slice p18_ n18_ c18_]/\(∀V15,V14.Le V15->Acts prog 187 #[.agg #[.int .i64 r0,.int .i64 r1,.pointer r2]] V15 fun r15_ V16=>∃p19_ n19_ c19_,r15_=.slice p19_ n19_ c19_/\(∀V17,V16.Le V17->Acts prog 187 #[.agg #[.int .i64 s0,.int .i64 s1,.pointer s2]] V17 fun r17_ V18=>∃p20_ n20_ c20_,r17_=.slice p20_ n20_ c20_/\(∀V19,V18.Le V19->Acts prog 194 #[.slice p19_ n19_ c19_,.slice p20_ n20_ c20_] V19 fun r19_ V20=>∃p21_ n21_ c21_,r19_=.slice p21_ n21_ c21_/\(∀V21,V20.Le V21->Acts prog 164 #[.agg #[.bool b17_,.slice p18_ n18_ c18_],.slice p21_ n21_ c21_] V21 fun r21_ V22=>∃x22_,∃x23_,∃p24_,r21_=.agg #[.int .i64 x22_,.int .i64 x23_,.pointer p24_]/\(∀V23,V22.Le V23->R (.agg #[.int .i64 x22_,.int .i64 x23_,.pointer p24_]) V23)))))))))))/\(r2.isNone=false->(∀V24,V.Le V24->Acts prog 165 #[.agg #[.int .i64 r0,.int .i64 r1,.pointer r2]] V24 fun r24_ V25=>∃b25_,∃p26_ n26_ c26_,r24_=.agg #[.bool b25_,.slice p26_ n26_ c26_]/\(∀V26,V25.Le V26->Acts prog 165 #[.agg #[.int .i64 s0,.int .i64 s1,.pointer s2]] V26 fun r26_ V27=>∃b27_,∃p28_ n28_ c28_,r26_=.agg #[.bool b27_,.slice p28_ n28_ c28_]/\(∀V28,V27.Le V28->Acts prog 216 #[.agg #[.bool b25_,.slice p26_ n26_ c26_],.agg #[.bool b27_,.slice p28_ n28_ c28_]] V28 fun r28_ V29=>∃b29_,∃p30_ n30_ c30_,r28_=.agg #[.bool b29_,.slice p30_ n30_ c30_]/\(∀V30,V29.Le V30->Acts prog 187 #[.agg #[.int .i64 r0,.int .i64 r1,.pointer r2]] V30 fun r30_ V31=>∃p31_ n31_ c31_,r30_=.slice p31_ n31_ c31_/\(∀V32,V31.Le V32->Acts prog 187 #[.agg #[.int .i64 s0,.int .i64 s1,.pointer s2]] V32 fun r32_ V33=>∃p32_ n32_ c32_,r32_=.slice p32_ n32_ c32_/\(∀V34,V33.Le V34->Acts prog 194 #[.slice p31_ n31_ c31_,.slice p32_ n32_ c32_] V34 fun r34_ V35=>∃p33_ n33_ c33_,r34_=.slice p33_ n33_ c33_/\(∀V36,V35.Le V36->Acts prog 164 #[.agg #[.bool b29_,.slice p30_ n30_ c30_],.slice p33_ n33_ c33_] V36 fun r36_ V37=>∃x34_,∃x35_,∃p36_,r36_=.agg #[.int .i64 x34_,.int .i64 x35_,.pointer p36_]/\(∀V38,V37.Le V38->R (.agg #[.int .i64 x34_,.int .i64 x35_,.pointer p36_]) V38))))))))))) :
  Acts prog 185 #[.agg #[.int .i64 r0,.int .i64 r1,.pointer r2],.agg #[.int .i64 s0,.int .i64 s1,.pointer s2]] V R:=
 fn_does (LF:=LF0) (RF:=[1000007]) (β0:=(fun _=>0)) tab_ok mixed [] [(2,{ τ:=Unit,keep:=[2,3,4],keepB:=[2,3,4],slots:=fun z=>[],boxes:=fun z=>[] })] func185 (by kernel_rfl)
  [(0,.agg [.v (.int .i64 r0),.v (.int .i64 r1),.v (.pointer r2)]),(1,.agg [.v (.int .i64 s0),.v (.int .i64 s1),.v (.pointer s2)])]
  [] (by kernel_rfl) trivial h (by kernel_rfl)
theorem vc_frac_R_Inv (r0:Int) (r1:Int) (r2:OA) (V:View) (R:Value->View->Prop)
  (h:(((!r2.isNone)=true->(r2.isSome=true)/\(r2.isSome=true)/\((addrAdd r2 0).isSome=true)/\(∃b1_,(∃a2_,addrAdd (addrAdd r2 0) 0=some a2_/\V.at a2_ (.bool b1_))/\(r2.isSome=true)/\(r2.isSome=true)/\(∃p3_ n3_ c3_,(∃a4_,addrAdd r2 2=some a4_/\V.at a4_ (.slice p3_ n3_ c3_))/\(r2.isSome=true)/\(r2.isSome=true)/\((addrAdd r2 0).isSome=true)/\(∃p5_ n5_ c5_,(∃a6_,addrAdd (addrAdd r2 0) 1=some a6_/\V.at a6_ (.slice p5_ n5_ c5_))/\(∀V1,V.Le V1->Acts prog 164 #[.agg #[.bool b1_,.slice p3_ n3_ c3_],.slice p5_ n5_ c5_] V1 fun r1_ V2=>∃x7_,∃x8_,∃p9_,r1_=.agg #[.int .i64 x7_,.int .i64 x8_,.pointer p9_]/\(∀V3,V2.Le V3->R (.agg #[.int .i64 x7_,.int .i64 x8_,.pointer p9_]) V3))))))/\((!r2.isNone)=false->(((decide (r0 < (0:Int)))=true->(∀V4,V.Le V4->R (.agg #[.int .i64 (i64.wrap (0 - (i64.wrap (r1 + (1:Int))))),.int .i64 (i64.wrap ((i64.wrap (0 - r0)) - (1:Int))),.pointer none]) V4))/\((decide (r0 < (0:Int)))=false->(((r0 == (0:Int))=true->(∀V5,V.Le V5->R (.agg #[.int .i64 0,.int .i64 0,.pointer none]) V5))/\((r0 == (0:Int))=false->(∀V6,V.Le V6->R (.agg #[.int .i64 (i64.wrap (r1 + (1:Int))),.int .i64 (i64.wrap (r0 - (1:Int))),.pointer none]) V6)))))))) :
  Acts prog 197 #[.agg #[.int .i64 r0,.int .i64 r1,.pointer r2]] V R:=
 fn_does (LF:=LF0) (RF:=[1000007]) (β0:=(fun _=>0)) tab_ok mixed [] [] func197 (by kernel_rfl)
  [(0,.agg [.v (.int .i64 r0),.v (.int .i64 r1),.v (.pointer r2)])]
  [] (by kernel_rfl) trivial h (by kernel_rfl)
theorem vc_frac_R_Quo (r0:Int) (r1:Int) (r2:OA) (s0:Int) (s1:Int) (s2:OA) (V:View) (R:Value->View->Prop)
  (h:(∀V1,V.Le V1->Acts prog 197 #[.agg #[.int .i64 s0,.int .i64 s1,.pointer s2]] V1 fun r1_ V2=>∃x1_,∃x2_,∃p3_,r1_=.agg #[.int .i64 x1_,.int .i64 x2_,.pointer p3_]/\(∀V3,V2.Le V3->Acts prog 185 #[.agg #[.int .i64 r0,.int .i64 r1,.pointer r2],.agg #[.int .i64 x1_,.int .i64 x2_,.pointer p3_]] V3 fun r3_ V4=>∃x4_,∃x5_,∃p6_,r3_=.agg #[.int .i64 x4_,.int .i64 x5_,.pointer p6_]/\(∀V5,V4.Le V5->R (.agg #[.int .i64 x4_,.int .i64 x5_,.pointer p6_]) V5)))) :
  Acts prog 163 #[.agg #[.int .i64 r0,.int .i64 r1,.pointer r2],.agg #[.int .i64 s0,.int .i64 s1,.pointer s2]] V R:=
 fn_does (LF:=LF0) (RF:=[1000007]) (β0:=(fun _=>0)) tab_ok mixed [] [] func163 (by kernel_rfl)
  [(0,.agg [.v (.int .i64 r0),.v (.int .i64 r1),.v (.pointer r2)]),(1,.agg [.v (.int .i64 s0),.v (.int .i64 s1),.v (.pointer s2)])]
  [] (by kernel_rfl) trivial h (by kernel_rfl)
theorem vc_frac_R_Sign (r0:Int) (r1:Int) (r2:OA) (V:View) (R:Value->View->Prop)
  (h:(((!r2.isNone)=true->(r2.isSome=true)/\(r2.isSome=true)/\(∃b1_,∃p2_ n2_ c2_,∃a3_,addrAdd r2 0=some a3_/\V.at (a3_.add 0) (.bool b1_)/\V.at (a3_.add 1) (.slice p2_ n2_ c2_)/\(∀V1,V.Le V1->Acts prog 201 #[.agg #[.bool b1_,.slice p2_ n2_ c2_]] V1 fun r1_ V2=>∃x4_,r1_=.int .i64 x4_/\(∀V3,V2.Le V3->R (.int .i64 x4_) V3))))/\((!r2.isNone)=false->(((decide (r0 < (0:Int)))=true->(∀V4,V.Le V4->R (.int .i64 (-1)) V4))/\((decide (r0 < (0:Int)))=false->(((decide (r0 > (0:Int)))=true->(∀V5,V.Le V5->R (.int .i64 1) V5))/\((decide (r0 > (0:Int)))=false->(∀V6,V.Le V6->R (.int .i64 0) V6)))))))) :
  Acts prog 174 #[.agg #[.int .i64 r0,.int .i64 r1,.pointer r2]] V R:=
 fn_does (LF:=LF0) (RF:=[1000007]) (β0:=(fun _=>0)) tab_ok mixed [] [] func174 (by kernel_rfl)
  [(0,.agg [.v (.int .i64 r0),.v (.int .i64 r1),.v (.pointer r2)])]
  [] (by kernel_rfl) trivial h (by kernel_rfl)
theorem vc_frac_R_Zero (r0:Int) (r1:Int) (r2:OA) (V:View) (R:Value->View->Prop)
  (h:((r2.isNone=true->(∀V1,V.Le V1->R (.bool (r0 == (0:Int))) V1))/\(r2.isNone=false->(∀V2,V.Le V2->R (.bool false) V2)))) :
  Acts prog 153 #[.agg #[.int .i64 r0,.int .i64 r1,.pointer r2]] V R:=
 fn_does (LF:=LF0) (RF:=[1000007]) (β0:=(fun _=>0)) tab_ok mixed [] [] func153 (by kernel_rfl)
  [(0,.agg [.v (.int .i64 r0),.v (.int .i64 r1),.v (.pointer r2)])]
  [] (by kernel_rfl) trivial h (by kernel_rfl)
theorem vc_frac_R_Cmp (r0:Int) (r1:Int) (r2:OA) (s0:Int) (s1:Int) (s2:OA) (V:View) (R:Value->View->Prop)
  (h:((r2.isNone=true->((s2.isNone=true->(((r1 == s1)=true->(((decide (r0 < s0))=true->(∀V1,V.Le V1->R (.int .i64 (-1)) V1))/\((decide (r0 < s0))=false->(((decide (r0 > s0))=true->(∀V2,V.Le V2->R (.int .i64 1) V2))/\((decide (r0 > s0))=false->(∀V3,V.Le V3->R (.int .i64 0) V3))))))/\((r1 == s1)=false->(∀V4,V.Le V4->Acts prog 186 #[.agg #[.int .i64 r0,.int .i64 r1,.pointer r2],.agg #[.int .i64 s0,.int .i64 s1,.pointer s2]] V4 fun r4_ V5=>∃x1_,∃x2_,∃p3_,r4_=.agg #[.int .i64 x1_,.int .i64 x2_,.pointer p3_]/\(∀V6,V5.Le V6->Acts prog 174 #[.agg #[.int .i64 x1_,.int .i64 x2_,.pointer p3_]] V6 fun r6_ V7=>∃x4_,r6_=.int .i64 x4_/\(∀V8,V7.Le V8->R (.int .i64 x4_) V8))))))/\(s2.isNone=false->(∀V9,V.Le V9->Acts prog 186 #[.agg #[.int .i64 r0,.int .i64 r1,.pointer r2],.agg #[.int .i64 s0,.int .i64 s1,.pointer s2]] V9 fun r9_ V10=>∃x5_,∃x6_,∃p7_,r9_=.agg #[.int .i64 x5_,.int .i64 x6_,.pointer p7_]/\(∀V11,V10.Le V11->Acts prog 174 #[.agg #[.int .i64 x5_,.int .i64 x6_,.pointer p7_]] V11 fun r11_ V12=>∃x8_,r11_=.int .i64 x8_/\(∀V13,V12.Le V13->R (.int .i64 x8_) V13))))))/\(r2.isNone=false->(∀V14,V.Le V14->Acts prog 186 #[.agg #[.int .i64 r0,.int .i64 r1,.pointer r2],.agg #[.int .i64 s0,.int .i64 s1,.pointer s2]] V14 fun r14_ V15=>∃x9_,∃x10_,∃p11_,r14_=.agg #[.int .i64 x9_,.int .i64 x10_,.pointer p11_]/\(∀V16,V15.Le V16->Acts prog 174 #[.agg #[.int .i64 x9_,.int .i64 x10_,.pointer p11_]] V16 fun r16_ V17=>∃x12_,r16_=.int .i64 x12_/\(∀V18,V17.Le V18->R (.int .i64 x12_) V18)))))) :
  Acts prog 175 #[.agg #[.int .i64 r0,.int .i64 r1,.pointer r2],.agg #[.int .i64 s0,.int .i64 s1,.pointer s2]] V R:=
 fn_does (LF:=LF0) (RF:=[1000007]) (β0:=(fun _=>0)) tab_ok mixed [] [] func175 (by kernel_rfl)
  [(0,.agg [.v (.int .i64 r0),.v (.int .i64 r1),.v (.pointer r2)]),(1,.agg [.v (.int .i64 s0),.v (.int .i64 s1),.v (.pointer s2)])]
  [] (by kernel_rfl) trivial h (by kernel_rfl)
theorem vc_frac_R_Equal (r0:Int) (r1:Int) (r2:OA) (s0:Int) (s1:Int) (s2:OA) (V:View) (R:Value->View->Prop)
  (h:(∀V1,V.Le V1->Acts prog 175 #[.agg #[.int .i64 r0,.int .i64 r1,.pointer r2],.agg #[.int .i64 s0,.int .i64 s1,.pointer s2]] V1 fun r1_ V2=>∃x1_,r1_=.int .i64 x1_/\(∀V3,V2.Le V3->R (.bool (x1_ == (0:Int))) V3))) :
  Acts prog 143 #[.agg #[.int .i64 r0,.int .i64 r1,.pointer r2],.agg #[.int .i64 s0,.int .i64 s1,.pointer s2]] V R:=
 fn_does (LF:=LF0) (RF:=[1000007]) (β0:=(fun _=>0)) tab_ok mixed [] [] func143 (by kernel_rfl)
  [(0,.agg [.v (.int .i64 r0),.v (.int .i64 r1),.v (.pointer r2)]),(1,.agg [.v (.int .i64 s0),.v (.int .i64 s1),.v (.pointer s2)])]
  [] (by kernel_rfl) trivial h (by kernel_rfl)
theorem vc_frac_Gcd (r0:Int) (r1:Int) (r2:OA) (s0:Int) (s1:Int) (s2:OA) (V:View) (R:Value->View->Prop)
  (h:((r2.isNone=true->((s2.isNone=true->(((r1 == (0:Int))=true->(∃I1_:Unit->View->Prop,(((s1 == (0:Int))=true->(∀V1,V.Le V1->Acts prog 193 #[.int .i64 r0] V1 fun r1_ V2=>∃x2_,r1_=.int .u64 x2_/\(∀V3,V2.Le V3->Acts prog 193 #[.int .i64 s0] V3 fun r3_ V4=>∃x3_,r3_=.int .u64 x3_/\(∀V5,V4.Le V5->Acts prog 192 #[.int .u64 x2_,.int .u64 x3_] V5 fun r5_ V6=>∃x4_,r5_=.int .u64 x4_/\(∀V7,V6.Le V7->R (.agg #[.int .i64 (i64.wrap x4_),.int .i64 0,.pointer none]) V7)))))/\((s1 == (0:Int))=false->(∃z5_:Unit,(sm 0/\sm 0/\sm 0/\(r0=r0)/\(r1=r1)/\sm r2/\(s0=s0)/\(s1=s1)/\sm s2/\((0:Int)=(0:Int))/\((0:Int)=(0:Int))/\((none:OA)=none))/\I1_ z5_ V)))/\∀(z6_:Unit) (V8:View),V.Le V8->I1_ z6_ V8->(true=true/\(∀V9,V8.Le V9->Acts prog 187 #[.agg #[.int .i64 r0,.int .i64 r1,.pointer r2]] V9 fun r9_ V10=>∃p7_ n7_ c7_,r9_=.slice p7_ n7_ c7_/\(∀V11,V10.Le V11->Acts prog 187 #[.agg #[.int .i64 s0,.int .i64 s1,.pointer s2]] V11 fun r11_ V12=>∃p8_ n8_ c8_,r11_=.slice p8_ n8_ c8_/\(∀V13,V12.Le V13->Acts prog 194 #[.slice p7_ n7_ c7_,.slice p8_ n8_ c8_] V13 fun r13_ V14=>∃p9_ n9_ c9_,r13_=.slice p9_ n9_ c9_/\(∀V15,V14.Le V15->Acts prog 165 #[.agg #[.int .i64 r0,.int .i64 r1,.pointer r2]] V15 fun r15_ V16=>∃b10_,∃p11_ n11_ c11_,r15_=.agg #[.bool b10_,.slice p11_ n11_ c11_]/\(∀V17,V16.Le V17->Acts prog 187 #[.agg #[.int .i64 s0,.int .i64 s1,.pointer s2]] V17 fun r17_ V18=>∃p12_ n12_ c12_,r17_=.slice p12_ n12_ c12_/\(∀V19,V18.Le V19->Acts prog 194 #[.slice p11_ n11_ c11_,.slice p12_ n12_ c12_] V19 fun r19_ V20=>∃p13_ n13_ c13_,r19_=.slice p13_ n13_ c13_/\(∀V21,V20.Le V21->Acts prog 165 #[.agg #[.int .i64 s0,.int .i64 s1,.pointer s2]] V21 fun r21_ V22=>∃b14_,∃p15_ n15_ c15_,r21_=.agg #[.bool b14_,.slice p15_ n15_ c15_]/\(∀V23,V22.Le V23->Acts prog 187 #[.agg #[.int .i64 r0,.int .i64 r1,.pointer r2]] V23 fun r23_ V24=>∃p16_ n16_ c16_,r23_=.slice p16_ n16_ c16_/\(∀V25,V24.Le V25->Acts prog 194 #[.slice p15_ n15_ c15_,.slice p16_ n16_ c16_] V25 fun r25_ V26=>∃p17_ n17_ c17_,r25_=.slice p17_ n17_ c17_/\(∀V27,V26.Le V27->Acts prog 195 #[.slice p13_ n13_ c13_,.slice p17_ n17_ c17_] V27 fun r27_ V28=>∃p18_ n18_ c18_,r27_=.slice p18_ n18_ c18_/\(∀V29,V28.Le V29->Acts prog 164 #[.agg #[.bool false,.slice p18_ n18_ c18_],.slice p9_ n9_ c9_] V29 fun r29_ V30=>∃x19_,∃x20_,∃p21_,r29_=.agg #[.int .i64 x19_,.int .i64 x20_,.pointer p21_]/\(∀V31,V30.Le V31->R (.agg #[.int .i64 x19_,.int .i64 x20_,.pointer p21_]) V31)))))))))))))))/\((r1 == (0:Int))=false->(∀V32,V.Le V32->Acts prog 187 #[.agg #[.int .i64 r0,.int .i64 r1,.pointer r2]] V32 fun r32_ V33=>∃p22_ n22_ c22_,r32_=.slice p22_ n22_ c22_/\(∀V34,V33.Le V34->Acts prog 187 #[.agg #[.int .i64 s0,.int .i64 s1,.pointer s2]] V34 fun r34_ V35=>∃p23_ n23_ c23_,r34_=.slice p23_ n23_ c23_/\(∀V36,V35.Le V36->Acts prog 194 #[.slice p22_ n22_ c22_,.slice p23_ n23_ c23_] V36 fun r36_ V37=>∃p24_ n24_ c24_,r36_=.slice p24_ n24_ c24_/\(∀V38,V37.Le V38->Acts prog 165 #[.agg #[.int .i64 r0,.int .i64 r1,.pointer r2]] V38 fun r38_ V39=>∃b25_,∃p26_ n26_ c26_,r38_=.agg #[.bool b25_,.slice p26_ n26_ c26_]/\(∀V40,V39.Le V40->Acts prog 187 #[.agg #[.int .i64 s0,.int .i64 s1,.pointer s2]] V40 fun r40_ V41=>∃p27_ n27_ c27_,r40_=.slice p27_ n27_ c27_/\(∀V42,V41.Le V42->Acts prog 194 #[.slice p26_ n26_ c26_,.slice p27_ n27_ c27_] V42 fun r42_ V43=>∃p28_ n28_ c28_,r42_=.slice p28_ n28_ c28_/\(∀V44,V43.Le V44->Acts prog 165 #[.agg #[.int .i64 s0,.int .i64 s1,.pointer s2]] V44 fun r44_ V45=>∃b29_,∃p30_ n30_ c30_,r44_=.agg #[.bool b29_,.slice p30_ n30_ c30_]/\(∀V46,V45.Le V46->Acts prog 187 #[.agg #[.int .i64 r0,.int .i64 r1,.pointer r2]] V46 fun r46_ V47=>∃p31_ n31_ c31_,r46_=.slice p31_ n31_ c31_/\(∀V48,V47.Le V48->Acts prog 194 #[.slice p30_ n30_ c30_,.slice p31_ n31_ c31_] V48 fun r48_ V49=>∃p32_ n32_ c32_,r48_=.slice p32_ n32_ c32_/\(∀V50,V49.Le V50->Acts prog 195 #[.slice p28_ n28_ c28_,.slice p32_ n32_ c32_] V50 fun r50_ V51=>∃p33_ n33_ c33_,r50_=.slice p33_ n33_ c33_/\(∀V52,V51.Le V52->Acts prog 164 #[.agg #[.bool false,.slice p33_ n33_ c33_],.slice p24_ n24_ c24_] V52 fun r52_ V53=>∃x34_,∃x35_,∃p36_,r52_=.agg #[.int .i64 x34_,.int .i64 x35_,.pointer p36_]/\(∀V54,V53.Le V54->R (.agg #[.int .i64 x34_,.int .i64 x35_,.pointer p36_]) V54)))))))))))))))/\(s2.isNone=false->(∀V55,V.Le V55->Acts prog 187 #[.agg #[.int .i64 r0,.int .i64 r1,.pointer r2]] V55 fun r55_ V56=>∃p37_ n37_ c37_,r55_=.slice p37_ n37_ c37_/\(∀V57,V56.Le V57->Acts prog 187 #[.agg #[.int .i64 s0,.int .i64 s1,.pointer s2]] V57 fun r57_ V58=>∃p38_ n38_ c38_,r57_=.slice p38_ n38_ c38_/\(∀V59,V58.Le V59->Acts prog 194 #[.slice p37_ n37_ c37_,.slice p38_ n38_ c38_] V59 fun r59_ V60=>∃p39_ n39_ c39_,r59_=.slice p39_ n39_ c39_/\(∀V61,V60.Le V61->Acts prog 165 #[.agg #[.int .i64 r0,.int .i64 r1,.pointer r2]] V61 fun r61_ V62=>∃b40_,∃p41_ n41_ c41_,r61_=.agg #[.bool b40_,.slice p41_ n41_ c41_]/\(∀V63,V62.Le V63->Acts prog 187 #[.agg #[.int .i64 s0,.int .i64 s1,.pointer s2]] V63 fun r63_ V64=>∃p42_ n42_ c42_,r63_=.slice p42_ n42_ c42_/\(∀V65,V64.Le V65->Acts prog 194 #[.slice p41_ n41_ c41_,.slice p42_ n42_ c42_] V65 fun r65_ V66=>∃p43_ n43_ c43_,r65_=.slice p43_ n43_ c43_/\(∀V67,V66.Le V67->Acts prog 165 #[.agg #[.int .i64 s0,.int .i64 s1,.pointer s2]] V67 fun r67_ V68=>∃b44_,∃p45_ n45_ c45_,r67_=.agg #[.bool b44_,.slice p45_ n45_ c45_]/\(∀V69,V68.Le V69->Acts prog 187 #[.agg #[.int .i64 r0,.int .i64 r1,.pointer r2]] V69 fun r69_ V70=>∃p46_ n46_ c46_,r69_=.slice p46_ n46_ c46_/\(∀V71,V70.Le V71->Acts prog 194 #[.slice p45_ n45_ c45_,.slice p46_ n46_ c46_] V71 fun r71_ V72=>∃p47_ n47_ c47_,r71_=.slice p47_ n47_ c47_/\(∀V73,V72.Le V73->Acts prog 195 #[.slice p43_ n43_ c43_,.slice p47_ n47_ c47_] V73 fun r73_ V74=>∃p48_ n48_ c48_,r73_=.slice p48_ n48_ c48_/\(∀V75,V74.Le V75->Acts prog 164 #[.agg #[.bool false,.slice p48_ n48_ c48_],.slice p39_ n39_ c39_] V75 fun r75_ V76=>∃x49_,∃x50_,∃p51_,r75_=.agg #[.int .i64 x49_,.int .i64 x50_,.pointer p51_]/\(∀V77,V76.Le V77->R (.agg #[.int .i64 x49_,.int .i64 x50_,.pointer p51_]) V77)))))))))))))))/\(r2.isNone=false->(∀V78,V.Le V78->Acts prog 187 #[.agg #[.int .i64 r0,.int .i64 r1,.pointer r2]] V78 fun r78_ V79=>∃p52_ n52_ c52_,r78_=.slice p52_ n52_ c52_/\(∀V80,V79.Le V80->Acts prog 187 #[.agg #[.int .i64 s0,.int .i64 s1,.pointer s2]] V80 fun r80_ V81=>∃p53_ n53_ c53_,r80_=.slice p53_ n53_ c53_/\(∀V82,V81.Le V82->Acts prog 194 #[.slice p52_ n52_ c52_,.slice p53_ n53_ c53_] V82 fun r82_ V83=>∃p54_ n54_ c54_,r82_=.slice p54_ n54_ c54_/\(∀V84,V83.Le V84->Acts prog 165 #[.agg #[.int .i64 r0,.int .i64 r1,.pointer r2]] V84 fun r84_ V85=>∃b55_,∃p56_ n56_ c56_,r84_=.agg #[.bool b55_,.slice p56_ n56_ c56_]/\(∀V86,V85.Le V86->Acts prog 187 #[.agg #[.int .i64 s0,.int .i64 s1,.pointer s2]] V86 fun r86_ V87=>∃p57_ n57_ c57_,r86_=.slice p57_ n57_ c57_/\(∀V88,V87.Le V88->Acts prog 194 #[.slice p56_ n56_ c56_,.slice p57_ n57_ c57_] V88 fun r88_ V89=>∃p58_ n58_ c58_,r88_=.slice p58_ n58_ c58_/\(∀V90,V89.Le V90->Acts prog 165 #[.agg #[.int .i64 s0,.int .i64 s1,.pointer s2]] V90 fun r90_ V91=>∃b59_,∃p60_ n60_ c60_,r90_=.agg #[.bool b59_,.slice p60_ n60_ c60_]/\(∀V92,V91.Le V92->Acts prog 187 #[.agg #[.int .i64 r0,.int .i64 r1,.pointer r2]] V92 fun r92_ V93=>∃p61_ n61_ c61_,r92_=.slice p61_ n61_ c61_/\(∀V94,V93.Le V94->Acts prog 194 #[.slice p60_ n60_ c60_,.slice p61_ n61_ c61_] V94 fun r94_ V95=>∃p62_ n62_ c62_,r94_=.slice p62_ n62_ c62_/\(∀V96,V95.Le V96->Acts prog 195 #[.slice p58_ n58_ c58_,.slice p62_ n62_ c62_] V96 fun r96_ V97=>∃p63_ n63_ c63_,r96_=.slice p63_ n63_ c63_/\(∀V98,V97.Le V98->Acts prog 164 #[.agg #[.bool false,.slice p63_ n63_ c63_],.slice p54_ n54_ c54_] V98 fun r98_ V99=>∃x64_,∃x65_,∃p66_,r98_=.agg #[.int .i64 x64_,.int .i64 x65_,.pointer p66_]/\(∀V100,V99.Le V100->R (.agg #[.int .i64 x64_,.int .i64 x65_,.pointer p66_]) V100))))))))))))))) :
  Acts prog 154 #[.agg #[.int .i64 r0,.int .i64 r1,.pointer r2],.agg #[.int .i64 s0,.int .i64 s1,.pointer s2]] V R:=
 fn_does (LF:=LF0) (RF:=[1000007]) (β0:=(fun _=>0)) tab_ok mixed [] [(2,{ τ:=Unit,keep:=[2,3,4],keepB:=[2,3,4],slots:=fun z=>[],boxes:=fun z=>[] })] func154 (by kernel_rfl)
  [(0,.agg [.v (.int .i64 r0),.v (.int .i64 r1),.v (.pointer r2)]),(1,.agg [.v (.int .i64 s0),.v (.int .i64 s1),.v (.pointer s2)])]
  [] (by kernel_rfl) trivial h (by kernel_rfl)
theorem vc_frac_Min (r0:Int) (r1:Int) (r2:OA) (s0:Int) (s1:Int) (s2:OA) (V:View) (R:Value->View->Prop)
  (h:(∀V1,V.Le V1->Acts prog 175 #[.agg #[.int .i64 s0,.int .i64 s1,.pointer s2],.agg #[.int .i64 r0,.int .i64 r1,.pointer r2]] V1 fun r1_ V2=>∃x1_,r1_=.int .i64 x1_/\(((decide (x1_ < (0:Int)))=true->(∀V3,V2.Le V3->R (.agg #[.int .i64 s0,.int .i64 s1,.pointer s2]) V3))/\((decide (x1_ < (0:Int)))=false->(∀V4,V2.Le V4->R (.agg #[.int .i64 r0,.int .i64 r1,.pointer r2]) V4))))) :
  Acts prog 190 #[.agg #[.int .i64 r0,.int .i64 r1,.pointer r2],.agg #[.int .i64 s0,.int .i64 s1,.pointer s2]] V R:=
 fn_does (LF:=LF0) (RF:=[1000007]) (β0:=(fun _=>0)) tab_ok mixed [] [] func190 (by kernel_rfl)
  [(0,.agg [.v (.int .i64 r0),.v (.int .i64 r1),.v (.pointer r2)]),(1,.agg [.v (.int .i64 s0),.v (.int .i64 s1),.v (.pointer s2)])]
  [] (by kernel_rfl) trivial h (by kernel_rfl)
theorem vc_frac_Max (r0:Int) (r1:Int) (r2:OA) (s0:Int) (s1:Int) (s2:OA) (V:View) (R:Value->View->Prop)
  (h:(∀V1,V.Le V1->Acts prog 175 #[.agg #[.int .i64 s0,.int .i64 s1,.pointer s2],.agg #[.int .i64 r0,.int .i64 r1,.pointer r2]] V1 fun r1_ V2=>∃x1_,r1_=.int .i64 x1_/\(((decide (x1_ > (0:Int)))=true->(∀V3,V2.Le V3->R (.agg #[.int .i64 s0,.int .i64 s1,.pointer s2]) V3))/\((decide (x1_ > (0:Int)))=false->(∀V4,V2.Le V4->R (.agg #[.int .i64 r0,.int .i64 r1,.pointer r2]) V4))))) :
  Acts prog 189 #[.agg #[.int .i64 r0,.int .i64 r1,.pointer r2],.agg #[.int .i64 s0,.int .i64 s1,.pointer s2]] V R:=
 fn_does (LF:=LF0) (RF:=[1000007]) (β0:=(fun _=>0)) tab_ok mixed [] [] func189 (by kernel_rfl)
  [(0,.agg [.v (.int .i64 r0),.v (.int .i64 r1),.v (.pointer r2)]),(1,.agg [.v (.int .i64 s0),.v (.int .i64 s1),.v (.pointer s2)])]
  [] (by kernel_rfl) trivial h (by kernel_rfl)
end Go.Proofs.Tryz
/- Contracts of package frac: reduce, Num, Den, words. -/
namespace Go.Eng
open Go.Big
/-- A number that fits machine words. -/
def Wd (q:Rat):Prop:=q.num.natAbs < 4611686018427387904/\q.den < 4611686018427387904
/-- A rational number of package frac. -/
def RR (V:View) (v:Value) (q:Rat):Prop:=
 (v=.agg #[.int .i64 q.num,.int .i64 ((q.den:Int) - 1),.pointer none]/\Wd q) \/
 (∃a b p n c p' n' c',v=.agg #[.int .i64 0,.int .i64 0,.pointer (some a)]/\V.at (a.add 0) (.bool b)/\V.at (a.add 1) (.slice p n c)/\V.at (a.add 2) (.slice p' n' c') /\
  RI V (.agg #[.bool b,.slice p n c]) q.num/\RD V p' n' c' (digs q.den)/\¬ Wd q)
theorem RR.le {V V':View} {v:Value} {q:Rat} (h:RR V v q) (l:V.Le V'):RR V' v q:=by
 rcases h with h | ⟨a,b,p,n,c,p',n',c',e,h1,h2,h3,h4,h5,h6⟩
 ·exact .inl h
 ·exact .inr ⟨a,b,p,n,c,p',n',c',e,l.at h1,l.at h2,l.at h3,h4.le l,h5.le l,h6⟩
/-- Its size: binary digits. -/
def Sz (k:Nat) (q:Rat):Prop:=q.num.natAbs < 2 ^ k/\q.den < 2 ^ k
theorem Sz.mono {k m:Nat} {q:Rat} (h:Sz k q) (hm:k<=m):Sz m q:=
 ⟨Nat.lt_of_lt_of_le h.1 (Nat.pow_le_pow_right (by omega) hm),Nat.lt_of_lt_of_le h.2 (Nat.pow_le_pow_right (by omega) hm)⟩
theorem digs_len_bits {n k:Nat} (h:n < 2 ^ k):(digs n).length<=k:=by
 rw [digs_len_le]
 exact Nat.lt_of_lt_of_le h (Nat.pow_le_pow_left (by omega) k)
theorem Wd.sz {q:Rat} (h:Wd q):Sz 62 q:=h
theorem RR.shape {V:View} {v:Value} {q:Rat} (h:RR V v q):∃(n d:Int) (p:OA),v=.agg #[.int .i64 n,.int .i64 d,.pointer p]:=by
 rcases h with ⟨e,-⟩ | ⟨a,b,p,n,c,p',n',c',e,-⟩
 ·exact ⟨_,_,_,e⟩
 ·exact ⟨_,_,_,e⟩
end Go.Eng
namespace Go.Proofs.Tryz
open Go.Eng Go.Big
theorem blen62 (n:Nat):decide ((blen n:Int)<=62)=decide (n < 4611686018427387904):=by
 have:=@blen_le n 62
 rw [Bool.eq_iff_iff,decide_eq_true_eq,decide_eq_true_eq]
 omega
/-- num / den in lowest terms. -/
theorem mkRat_low {z:Int} {d:Nat} (hd:d≠0) (hg:Nat.gcd z.natAbs d=1):(mkRat z d).num=z/\(mkRat z d).den=d:=by
 have:Nat.gcd d z.natAbs=1:=by rw [Nat.gcd_comm]; exact hg
 rw [Rat.num_mkRat,Rat.den_mkRat,if_neg hd,if_neg hd,this]
 simp
theorem c_frac_reduce {V:View} (b:Bool) {p q:OA} {n c m e:Nat} {xs ys:List Nat} (hx:RD V p n c xs) (hy:RD V q m e ys) (hm:xs.length<=1099511627776) (hn:ys.length<=1099511627776) :
  Acts prog 164 #[.agg #[.bool b,.slice p n c],.slice q m e] V fun r V'=>RR V' r (mkRat (ival b xs) (val ys)):=by
 have zero:∀V':View,RR V' (.agg #[.int .i64 0,.int .i64 0,.pointer none]) 0:=fun V'=>.inl ⟨rfl,by unfold Wd; decide⟩
 refine vc_frac_reduce b p n c q m e V _ fun V1 l1=>(c_nat_Bits (hy.le l1) hn).mono ?_
 rintro r V2 l2 rfl
 refine ⟨_,rfl,fun h0 V3 l3=>?_,fun h0 V4 l4=>(c_integer_Sign b (hx.le (l1.trans (l2.trans l4))) hm).mono ?_⟩
 ·have:val ys=0:=blen_zero.1 (by simp at h0; omega)
  rw [this,Rat.mkRat_zero]; exact zero _
 rintro r V5 l5 rfl
 have hy0:val ys≠0:=fun e=>by simp [blen_zero.2 e] at h0
 refine ⟨_,rfl,fun h1 V6 l6=>?_,fun h1 V7 l7=>?_⟩
 ·have:ival b xs=0:=Int.sign_eq_zero_iff_zero.1 (by simpa using h1)
  rw [this,Rat.zero_mkRat]; exact zero _
 have hx0:ival b xs≠0:=fun e=>by simp [e] at h1
 have hx0':val xs≠0:=by rw [← ival_natAbs b xs]; omega
 replace hx:=hx.le (l1.trans (l2.trans (l4.trans (l5.trans l7))))
 replace hy:=hy.le (l1.trans (l2.trans (l4.trans (l5.trans l7))))
 refine (c_nat_Gcd hx hy hm hn).mono ?_
 rintro r V8 l8 ⟨p3,n3,c3,rfl,hg⟩
 replace hx:=hx.le l8
 replace hy:=hy.le l8
 have hgl:Nat.gcd (val xs) (val ys)<=val ys:=Nat.le_of_dvd (by omega) (Nat.gcd_dvd_right _ _)
 have hgd:(digs (Nat.gcd (val xs) (val ys))).length<=1099511627776:=Nat.le_trans (digs_len_mono hgl) (by have:=digs_val_len hy.dig; omega)
 have hgp:Nat.gcd (val xs) (val ys)≠0:=by
  intro e0; exact hx0' (Nat.eq_zero_of_gcd_eq_zero_left e0)
 refine ⟨_,_,_,rfl,fun V9 l9=>(c_nat_Bits (hg.le l9) hgd).mono ?_⟩
 rintro r V10 l10 rfl
 rw [val_digs]
 replace hx:=hx.le (l9.trans l10)
 replace hy:=hy.le (l9.trans l10)
 replace hg:=hg.le (l9.trans l10)
 refine ⟨_,rfl,fun z V'=>∃(us vs:List Nat),z.2.2.2.1=b/\RD V' z.2.2.2.2.1 z.2.2.2.2.2.1 z.2.2.2.2.2.2 us/\RD V' z.1 z.2.1 z.2.2.1 vs/\us.length<=1099511627776/\vs.length<=1099511627776/\val vs≠0 /\
  Nat.gcd (val us) (val vs)=1/\mkRat (ival b xs) (val ys)=mkRat (ival b us) (val vs),⟨fun h2 V11 l11=>?_,fun h2=>?_⟩,?_⟩
 ·refine (c_nat_DivMod (hx.le l11) (hg.le l11) hm hgd (by rw [val_digs]; exact hgp)).mono ?_
  rintro r V12 l12 ⟨p4,n4,c4,p5,n5,c5,rfl,g1,g2⟩
  refine ⟨_,_,_,_,_,_,_,rfl,fun V13 l13=>(c_nat_DivMod (hy.le (l11.trans (l12.trans l13))) (hg.le (l11.trans (l12.trans l13))) hn hgd (by rw [val_digs]; exact hgp)).mono ?_⟩
  rintro r V14 l14 ⟨p6,n6,c6,p7,n7,c7,rfl,g3,g4⟩
  rw [val_digs] at g1 g3
  have e1:val (digs (val xs / Nat.gcd (val xs) (val ys)))=val xs / Nat.gcd (val xs) (val ys):=val_digs _
  have e2:val (digs (val ys / Nat.gcd (val xs) (val ys)))=val ys / Nat.gcd (val xs) (val ys):=val_digs _
  have d1:=Nat.gcd_dvd_left (val xs) (val ys)
  have d2:=Nat.gcd_dvd_right (val xs) (val ys)
  have hdy:val ys / Nat.gcd (val xs) (val ys)≠0:=by
   intro e0
   have:=Nat.div_mul_cancel d2
   rw [e0,Nat.zero_mul] at this
   exact hy0 this.symm
  refine ⟨_,_,_,_,_,_,_,rfl,(p6,n6,c6,b,p4,n4,c4),by (try dsimp only); and_intros <;> trivial,_,_,rfl,g1.le (l13.trans l14),g3,?_,?_,?_,?_,?_⟩
  ·exact Nat.le_trans (digs_len_mono (Nat.div_le_self _ _)) (by have:=digs_val_len hx.dig; omega)
  ·exact Nat.le_trans (digs_len_mono (Nat.div_le_self _ _)) (by have:=digs_val_len hy.dig; omega)
  ·rw [e2]; exact hdy
  ·rw [e1,e2]; exact Nat.gcd_div_gcd_div_gcd_of_pos_left (by omega)
  ·rw [e2]
   have k1:val ys=val ys / Nat.gcd (val xs) (val ys) * Nat.gcd (val xs) (val ys):=(Nat.div_mul_cancel d2).symm
   have k2:ival b xs=ival b (digs (val xs / Nat.gcd (val xs) (val ys))) * (Nat.gcd (val xs) (val ys):Nat):=by
    have k3:(val xs:Int)=((val xs / Nat.gcd (val xs) (val ys):Nat):Int) * (Nat.gcd (val xs) (val ys):Nat):=by
     rw [← Int.natCast_mul,Nat.div_mul_cancel d1]
    unfold ival
    rw [e1]
    cases b
    ·simpa using k3
    ·simp only [if_true]; rw [Int.neg_mul,← k3]
   conv=>lhs; rw [k1,k2]
   exact Rat.mkRat_mul_right hgp
 ·have hg1:Nat.gcd (val xs) (val ys)=1:=by
   have h3:¬ (1 < blen (Nat.gcd (val xs) (val ys))):=by simp at h2; omega
   have:=@blen_le (Nat.gcd (val xs) (val ys)) 1
   omega
  exact ⟨(q,m,e,b,p,n,c),by (try dsimp only); and_intros <;> trivial,xs,ys,rfl,hx,hy,hm,hn,hy0,hg1,rfl⟩
 ·rintro ⟨q,m,e,b',p,n,c⟩ V15 l15 ⟨us,vs,hbb,hu,hv,hul,hvl,hv0,hgc,hq⟩
  dsimp only at hbb hu hv ⊢
  subst hbb
  rw [hq]
  obtain ⟨hnum,hden⟩:=mkRat_low (z:=ival b' us) hv0 (by rw [ival_natAbs]; exact hgc)
  generalize mkRat (ival b' us) (val vs)=w at *
  have hW:Wd w↔val us < 4611686018427387904/\val vs < 4611686018427387904:=by
   unfold Wd; rw [hnum,hden,ival_natAbs]
  have big:∀V1:View,V15.Le V1->¬ Wd w->Acts prog 205 #[.agg #[.bool b',.slice p n c]] V1 fun r V2=>∃(b1_:Bool) (p2_:OA) (n2_ c2_:Nat),r=.agg #[.bool b1_,.slice p2_ n2_ c2_] /\
    (∀V3:View,V2.Le V3->Acts prog 206 #[.slice q m e] V3 fun r V4=>∃(p3_:OA) (n3_ c3_:Nat),r=.slice p3_ n3_ c3_ /\
    (∀V5:View,V4.Le V5->∀bk:Nat,V5.blk bk (.cells #[.bool b1_,.slice p2_ n2_ c2_,.slice p3_ n3_ c3_] 267 (0,0))->RR V5 (.agg #[.int .i64 0,.int .i64 0,.pointer (some ⟨bk,0,none⟩)]) w)):=by
   intro V1 l1 hw
   refine (c_integer_Norm b' (hu.le l1) hul).mono ?_
   rintro r V2 l2 hri
   obtain ⟨p2,n2,c2,rfl,h2⟩:=hri
   have hri:RI V2 (.agg #[.bool (decide (ival b' us < 0)),.slice p2 n2 c2]) (ival b' us):=⟨_,_,_,rfl,h2⟩
   refine ⟨_,_,_,_,rfl,fun V3 l3=>(c_nat_Norm (hv.le (l1.trans (l2.trans l3))) hvl).mono ?_⟩
   rintro r V4 l4 ⟨p3,n3,c3,rfl,h3⟩
   refine ⟨_,_,_,rfl,fun V5 l5 bk hb=>.inr ⟨⟨bk,0,none⟩,decide (ival b' us < 0),p2,n2,c2,p3,n3,c3,rfl,?_,?_,?_,?_,?_,hw⟩⟩
   ·rw [add_zero']; exact blk_at (xs:=[_,_,_]) hb rfl
   ·rw [add_zero']; exact blk_at (xs:=[_,_,_]) hb rfl
   ·rw [add_zero']; exact blk_at (xs:=[_,_,_]) hb rfl
   ·rw [hnum]; exact hri.le (l3.trans (l4.trans l5))
   ·rw [hden]; exact h3.le l5
  refine ⟨by trivial,fun V16 l16=>(c_nat_Bits (hu.le l16) hul).mono ?_⟩
  rintro r V17 l17 rfl
  refine ⟨_,rfl,fun h3 V18 l18=>(c_nat_Bits (hv.le (l16.trans (l17.trans l18))) hvl).mono ?_,fun h3 V30 l30=>big V30 (l16.trans (l17.trans l30)) ?_⟩
  ·rintro r V19 l19 rfl
   rw [blen62,decide_eq_true_eq] at h3
   refine ⟨_,rfl,fun h4 V20 l20=>?_,fun h4 V25 l25=>big V25 (l16.trans (l17.trans (l18.trans (l19.trans l25)))) ?_⟩
   ·rw [blen62,decide_eq_true_eq] at h4
    refine (c_integer_Int64 b' (hu.le (l16.trans (l17.trans (l18.trans (l19.trans l20))))) hul h3).mono ?_
    rintro r V21 l21 rfl
    refine ⟨_,_,rfl,fun V22 l22=>(c_nat_Uint (hv.le (l16.trans (l17.trans (l18.trans (l19.trans (l20.trans (l21.trans l22))))))) hvl).mono ?_⟩
    rintro r V23 l23 rfl
    rw [if_pos (by omega)]
    refine ⟨_,_,rfl,fun V24 l24=>.inl ⟨?_,hW.2 ⟨h3,h4⟩⟩⟩
    rw [i64w (x:=((val vs:Nat):Int)) (by omega),i64w (by omega),hnum,hden]
   ·rw [blen62,decide_eq_false_iff_not] at h4
    rw [hW]; omega
  ·rw [blen62,decide_eq_false_iff_not] at h3
   rw [hW]; omega
end Go.Proofs.Tryz
/- Contracts of package frac: Num, Den, words, Int, Whole, Neg, Sign. -/
namespace Go.Eng
open Go.Big
theorem RI.inv {V:View} {b:Bool} {p:OA} {n c:Nat} {z:Int} (h:RI V (.agg #[.bool b,.slice p n c]) z):b=decide (z < 0)/\RD V p n c (digs z.natAbs):=by
 obtain ⟨p1,n1,c1,e,hn⟩:=h
 simp at e
 obtain ⟨rfl,rfl,rfl,rfl⟩:=e
 exact ⟨rfl,hn⟩
end Go.Eng
namespace Go.Proofs.Tryz
open Go.Eng Go.Big
theorem c_R_Num {V:View} {v:Value} {q:Rat} (h:RR V v q) {k:Nat} (hs:Sz k q) (hk:k<=1099511627776) :
  Acts prog 165 #[v] V fun r V'=>RI V' r q.num:=by
 rcases h with ⟨rfl,hw⟩ | ⟨a,b,p,n,c,p',n',c',rfl,h1,h2,h3,h4,h5,hw⟩
 ·have:=hw.1
  refine vc_frac_R_Num _ _ _ V _ ⟨(fun h0=>nomatch h0),fun _ V1 l1=>(c_integer_FromInt _ (by omega) (by omega)).mono ?_⟩
  rintro r V2 l2 ⟨p,n,c,rfl,g⟩
  exact ⟨_,_,_,_,rfl,fun V3 l3=>⟨_,_,_,rfl,g.le l3⟩⟩
 ·obtain ⟨rfl,hn⟩:=h4.inv
  refine vc_frac_R_Num _ _ _ V _ ⟨fun _=>⟨rfl,rfl,decide (q.num < 0),p,n,c,a.add 0,rfl,?_,?_,fun V1 l1=>(c_integer_Norm _ (hn.le l1) (Nat.le_trans (digs_len_bits hs.1) hk)).mono ?_⟩,fun h0=>nomatch h0⟩
  ·exact h1
  ·simpa [Addr.add] using h2
  ·rintro r V2 l2 ⟨p,n,c,rfl,g⟩
   rw [ival_digs] at g ⊢
   exact ⟨_,_,_,_,rfl,fun V3 l3=>⟨_,_,_,rfl,g.le l3⟩⟩
theorem c_R_Den {V:View} {v:Value} {q:Rat} (h:RR V v q) {k:Nat} (hs:Sz k q) (hk:k<=1099511627776) :
  Acts prog 187 #[v] V fun r V'=>∃p n c,r=.slice p n c/\RN V' p n c q.den:=by
 rcases h with ⟨rfl,hw⟩ | ⟨a,b,p,n,c,p',n',c',rfl,h1,h2,h3,h4,h5,hw⟩
 ·have:=hw.2
  have hd:=q.den_nz
  refine vc_frac_R_Den _ _ _ V _ ⟨(fun h0=>nomatch h0),fun _ V1 l1=>?_⟩
  rw [i64w (by omega),u64w (by omega)]
  refine (c_nat_FromUint _ (by omega) (by omega)).mono ?_
  rintro r V2 l2 ⟨p,n,c,rfl,g⟩
  rw [show ((q.den:Int) - 1 + 1).toNat=q.den from by omega] at g
  exact ⟨_,_,_,rfl,fun V3 l3=>⟨_,_,_,rfl,g.le l3⟩⟩
 ·refine vc_frac_R_Den _ _ _ V _ ⟨fun _=>⟨rfl,rfl,_,_,_,⟨_,rfl,h3⟩,fun V1 l1=>(c_nat_Norm (h5.le l1) (Nat.le_trans (digs_len_bits hs.2) hk)).mono ?_⟩,fun h0=>nomatch h0⟩
  rintro r V2 l2 ⟨p,n,c,rfl,g⟩
  rw [val_digs] at g
  exact ⟨_,_,_,rfl,fun V3 l3=>⟨_,_,_,rfl,g.le l3⟩⟩
theorem c_frac_abs {V:View} (n:Int) (h0:-9223372036854775808 < n) (h1:n<=9223372036854775807) :
  Acts prog 193 #[.int .i64 n] V fun r V'=>r=.int .u64 (n.natAbs:Int):=by
 refine vc_frac_abs n V _ ⟨fun h2 V1 l1=>?_,fun h2 V1 l1=>?_⟩
 ·have h2:n < 0:=by simpa using h2
  rw [i64w (by omega),u64w (by omega)]; congr 1; omega
 ·have h2:0<=n:=by simpa using h2
  rw [u64w (by omega)]; congr 1; omega
theorem c_frac_gcd {V:View} (x y:Nat) (hx:x < 18446744073709551616) (hy:y < 18446744073709551616) :
  Acts prog 192 #[.int .u64 (x:Int),.int .u64 (y:Int)] V fun r V'=>r=.int .u64 (Nat.gcd x y:Int):=by
 refine vc_frac_gcd _ _ V _ ⟨fun z V'=>∃a b:Nat,z=((a:Int),(b:Int))/\Nat.gcd a b=Nat.gcd x y,fun z=>z.2.toNat,
  ⟨((x:Int),(y:Int)),by (try dsimp only); and_intros <;> trivial,x,y,rfl,rfl⟩,?_⟩
 rintro _ V16 l16 ⟨a,b,rfl,hab⟩
 dsimp only
 refine ⟨by trivial,fun h3=>?_,fun h3 V17 l17=>?_⟩
 ·have h3:b≠0:=by rw [bne_iff_ne] at h3; omega
  have hlt:a % b < b:=Nat.mod_lt _ (by omega)
  have e4:(a:Int).tmod (b:Int)=((a % b:Nat):Int):=by rw [Int.tmod_eq_emod_of_nonneg (by omega),← Int.natCast_emod]
  rw [e4]
  exact ⟨by omega,((b:Int),((a % b:Nat):Int)),by (try dsimp only); rw [Int.toNat_natCast,Int.toNat_natCast]; exact hlt,by (try dsimp only); and_intros <;> trivial,b,a % b,rfl,by rw [gcd_step,hab]⟩
 ·have h3:b=0:=by rw [bne_eq_false_iff_eq] at h3; omega
  subst h3
  rw [Nat.gcd_zero_right] at hab
  rw [hab]
theorem c_frac_times {V:View} (a b:Int) (ha:a.natAbs < 4611686018427387904) (hb:b.natAbs < 4611686018427387904) :
  Acts prog 214 #[.int .i64 a,.int .i64 b] V fun r V'=>∃z:Int,r=.tuple #[.int .i64 z,.bool (decide ((a * b).natAbs < 4611686018427387904))]/\((a * b).natAbs < 4611686018427387904->z=a * b):=by
 refine vc_frac_times a b V _ fun V1 l1=>(c_frac_abs a (by omega) (by omega)).mono ?_
 rintro r V2 l2 rfl
 refine ⟨_,rfl,fun V3 l3=>(c_frac_abs b (by omega) (by omega)).mono ?_⟩
 rintro r V4 l4 rfl
 refine ⟨_,rfl,fun V5 l5=>(c_Mul64 _ _ (by omega) (by omega)).mono ?_⟩
 rintro r V6 l6 rfl
 have hab:(a * b).natAbs=a.natAbs * b.natAbs:=Int.natAbs_mul a b
 have hsg:a * b=if (decide (a < 0) == decide (b < 0)) then ((a.natAbs * b.natAbs:Nat):Int) else -((a.natAbs * b.natAbs:Nat):Int):=by
  rw [Int.natCast_mul]
  by_cases h1:a < 0 <;> by_cases h2:b < 0
  ·rw [decide_eq_true h1,decide_eq_true h2,show (a.natAbs:Int)=-a from by omega,show (b.natAbs:Int)=-b from by omega]; simp [Int.neg_mul,Int.mul_neg]
  ·rw [decide_eq_true h1,decide_eq_false h2,if_neg (by decide),show (a.natAbs:Int)=-a from by omega,show (b.natAbs:Int)=b from by omega]; simp [Int.neg_mul]
  ·rw [decide_eq_false h1,decide_eq_true h2,if_neg (by decide),show (a.natAbs:Int)=a from by omega,show (b.natAbs:Int)=-b from by omega]; simp [Int.mul_neg]
  ·rw [decide_eq_false h1,decide_eq_false h2,show (a.natAbs:Int)=a from by omega,show (b.natAbs:Int)=b from by omega]; simp
 rw [hab]
 generalize a.natAbs * b.natAbs=p at *
 refine ⟨_,_,rfl,fun h0 V7 l7=>?_,fun h0=>⟨fun h1 V7 l7=>?_,fun h1=>⟨fun h2 V7 l7=>?_,fun h2 V7 l7=>?_⟩⟩⟩
 ·have h0:18446744073709551616<=p:=by rw [bne_iff_ne] at h0; omega
  rw [decide_eq_false (by omega)]
  exact ⟨_,rfl,fun h=>by omega⟩
 ·have h1:4611686018427387904<=p:=by
   rw [decide_eq_true_eq] at h1; omega
  rw [decide_eq_false (by omega)]
  exact ⟨_,rfl,fun h=>by omega⟩
 ·have h0:p / 18446744073709551616=0:=by rw [bne_eq_false_iff_eq] at h0; omega
  have h1:p < 4611686018427387904:=by rw [decide_eq_false_iff_not] at h1; omega
  rw [decide_eq_true h1,i64w (x:=((p % 18446744073709551616:Nat):Int)) (by omega),i64w (by omega)]
  refine ⟨_,rfl,fun _=>?_⟩
  have h2:(decide (a < 0) == decide (b < 0))=false:=by simpa using h2
  rw [hsg,h2,if_neg (by decide)]; omega
 ·have h0:p / 18446744073709551616=0:=by rw [bne_eq_false_iff_eq] at h0; omega
  have h1:p < 4611686018427387904:=by rw [decide_eq_false_iff_not] at h1; omega
  rw [decide_eq_true h1,i64w (x:=((p % 18446744073709551616:Nat):Int)) (by omega)]
  refine ⟨_,rfl,fun _=>?_⟩
  have h2:(decide (a < 0) == decide (b < 0))=true:=by simpa using h2
  rw [hsg,h2,if_pos rfl]; omega
theorem c_frac_lowest {V:View} (n:Int) (d:Nat) (hn:n.natAbs < 4611686018427387904) (hd:d < 4611686018427387904) (hd0:d≠0) :
  Acts prog 215 #[.int .i64 n,.int .i64 (d:Int)] V fun r V'=>RR V' r (mkRat n d):=by
 refine vc_frac_lowest n _ V _ fun V1 l1=>(c_frac_abs n (by omega) (by omega)).mono ?_
 rintro r V2 l2 rfl
 rw [u64w (x:=(d:Int)) (by omega)]
 refine ⟨_,rfl,fun V3 l3=>(c_frac_gcd _ _ (by omega) (by omega)).mono ?_⟩
 rintro r V4 l4 rfl
 have hgl:Nat.gcd n.natAbs d<=d:=Nat.le_of_dvd (by omega) (Nat.gcd_dvd_right _ _)
 have hgp:0 < Nat.gcd n.natAbs d:=Nat.gcd_pos_of_pos_right _ (by omega)
 have hnum:=Rat.num_mkRat n d
 have hden:=Rat.den_mkRat n d
 rw [if_neg hd0,Nat.gcd_comm] at hnum hden
 have hdvd:(Nat.gcd n.natAbs d:Int) ∣ n:=Int.ofNat_dvd_left.2 (Nat.gcd_dvd_left _ _)
 have hdl:d / Nat.gcd n.natAbs d<=d:=Nat.div_le_self _ _
 have hnl:(n / (Nat.gcd n.natAbs d:Int)).natAbs<=n.natAbs:=by
  rw [Int.natAbs_ediv_of_dvd hdvd,Int.natAbs_natCast]; exact Nat.div_le_self _ _
 have hW:Wd (mkRat n d):=by unfold Wd; rw [hnum,hden]; omega
 refine ⟨_,rfl,?_⟩
 rw [i64w (x:=((Nat.gcd n.natAbs d:Nat):Int)) (by omega)]
 refine ⟨fun h0=>⟨by omega,by omega,fun V5 l5=>.inl ⟨?_,hW⟩⟩,fun h0 V5 l5=>.inl ⟨?_,hW⟩⟩
 ·rw [hnum,hden]
  have e1:n.tdiv (Nat.gcd n.natAbs d:Int)=n / (Nat.gcd n.natAbs d:Int):=Int.tdiv_eq_ediv_of_dvd hdvd
  have e2:(d:Int).tdiv (Nat.gcd n.natAbs d:Int)=((d / Nat.gcd n.natAbs d:Nat):Int):=by rw [Int.tdiv_eq_ediv_of_nonneg (by omega),← Int.natCast_ediv]
  rw [e1,e2]
  generalize n / (Nat.gcd n.natAbs d:Int)=nn at *
  generalize d / Nat.gcd n.natAbs d=dd at *
  rw [i64w (by omega),i64w (x:=(dd:Int)) (by omega),i64w (by omega)]
 ·have h0:Nat.gcd n.natAbs d=1:=by rw [decide_eq_false_iff_not] at h0; omega
  rw [hnum,hden,h0,i64w (by omega)]
  simp
end Go.Proofs.Tryz
/- Contracts of package frac: Int, Whole, Neg, Sign, Add, Cmp, Gcd. -/
namespace Go.Proofs.Tryz
open Go.Eng Go.Big
theorem mkRat_one (z:Int):mkRat z 1=(z:Rat):=by
 apply Rat.ext
 ·rw [Rat.num_mkRat]; simp
 ·rw [Rat.den_mkRat]; simp
theorem RD.one {V:View} {bk:Nat} {ty:TypeId} {m:Nat × Nat} (h:V.blk bk (.cells #[.int .u32 1] ty m)):RD V (some ⟨bk,0,none⟩) 1 1 [1]:=
 RD.blk (ds:=[1]) h (by simp [Dig]) rfl (Nat.le_refl _)
theorem c_frac_Whole {V:View} (b:Bool) {p:OA} {n c:Nat} {ds:List Nat} (h:RD V p n c ds) (hm:ds.length<=1099511627776) :
  Acts prog 152 #[.agg #[.bool b,.slice p n c]] V fun r V'=>RR V' r (ival b ds:Rat):=by
 refine vc_frac_Whole b p n c V _ fun V1 l1 bk hb=>(c_frac_reduce b (h.le l1) (RD.one hb) hm (by simp)).mono ?_
 rintro r V2 l2 hr
 have e:mkRat (ival b ds) (val [1])=(ival b ds:Rat):=mkRat_one _
 rw [e] at hr
 obtain ⟨n,d,p,rfl⟩:=hr.shape
 exact ⟨_,_,_,rfl,fun _ V3 l3=>hr.le l3⟩
theorem intCast_wd {z:Int} (h:z.natAbs < 4611686018427387904):Wd (z:Rat):=⟨h,by show (1:Nat) < _; decide⟩
theorem c_frac_Int {V:View} (n:Int) (h0:-9223372036854775808<=n) (h1:n<=9223372036854775807) :
  Acts prog 127 #[.int .i64 n] V fun r V'=>RR V' r (n:Rat):=by
 have big:∀V1:View,V.Le V1->Acts prog 176 #[.int .i64 n] V1 fun r1_ V2=>∃b1_:Bool,∃(p2_:OA) (n2_ c2_:Nat),r1_=.agg #[.bool b1_,.slice p2_ n2_ c2_]/\(∀V3:View,V2.Le V3->∀bk3_:Nat,V3.blk bk3_ (.cells #[.int .u32 1] 244 (0,0))->Acts prog 164 #[.agg #[.bool b1_,.slice p2_ n2_ c2_],.slice (some ⟨bk3_,0,none⟩) 1 1] V3 fun r3_ V4=>∃x4_:Int,∃x5_:Int,∃p6_:OA,r3_=.agg #[.int .i64 x4_,.int .i64 x5_,.pointer p6_]/\∀J7_:C->Value,(∀V5:View,V4.Le V5->RR V5 (.agg #[.int .i64 x4_,.int .i64 x5_,.pointer p6_]) (n:Rat))):=by
  intro V1 l1
  refine (c_integer_FromInt n h0 h1).mono ?_
  rintro r V2 l2 ⟨p,m,c,rfl,g⟩
  refine ⟨_,_,_,_,rfl,fun V3 l3 bk hb=>(c_frac_reduce _ (g.le l3) (RD.one hb) (Nat.le_trans (digs_len_bits (k:=64) (by omega)) (by omega)) (by simp)).mono ?_⟩
  rintro r V4 l4 hr
  have e:mkRat (ival (decide (n < 0)) (digs n.natAbs)) (val [1])=(n:Rat):=by rw [ival_digs]; exact mkRat_one _
  rw [e] at hr
  obtain ⟨n,d,p,rfl⟩:=hr.shape
  exact ⟨_,_,_,rfl,fun _ V3 l3=>hr.le l3⟩
 refine vc_frac_Int n V _ ⟨fun _=>big,fun h2=>⟨fun _=>big,fun h3 V1 l1=>.inl ⟨rfl,intCast_wd ?_⟩⟩⟩
 rw [decide_eq_false_iff_not] at h2 h3
 omega
theorem c_R_Sign {V:View} {v:Value} {q:Rat} (h:RR V v q) {k:Nat} (hs:Sz k q) (hk:k<=1099511627776) :
  Acts prog 174 #[v] V fun r V'=>r=.int .i64 q.num.sign:=by
 rcases h with ⟨rfl,hw⟩ | ⟨a,b,p,n,c,p',n',c',rfl,h1,h2,h3,h4,h5,hw⟩
 ·refine vc_frac_R_Sign _ _ _ V _ ⟨(fun h0=>nomatch h0),fun _=>⟨fun h V1 l1=>?_,fun h=>⟨fun h' V1 l1=>?_,fun h' V1 l1=>?_⟩⟩⟩
  ·rw [Int.sign_eq_neg_one_of_neg (by simpa using h)]
  ·rw [Int.sign_eq_one_of_pos (by simpa using h')]
  ·have:q.num=0:=by rw [decide_eq_false_iff_not] at h h'; omega
   rw [this]; rfl
 ·obtain ⟨rfl,hn⟩:=h4.inv
  refine vc_frac_R_Sign _ _ _ V _ ⟨fun _=>⟨rfl,rfl,decide (q.num < 0),p,n,c,a.add 0,rfl,?_,?_,fun V1 l1=>(c_integer_Sign _ (hn.le l1) (Nat.le_trans (digs_len_bits hs.1) hk)).mono ?_⟩,(fun h0=>nomatch h0)⟩
  ·exact h1
  ·simpa [Addr.add] using h2
  ·rintro r V2 l2 rfl
   rw [ival_digs]
   exact ⟨_,rfl,fun V3 l3=>rfl⟩
theorem c_R_Zero {V:View} {v:Value} {q:Rat} (h:RR V v q):Acts prog 153 #[v] V fun r V'=>r=.bool (decide (q=0)):=by
 rcases h with ⟨rfl,hw⟩ | ⟨a,b,p,n,c,p',n',c',rfl,h1,h2,h3,h4,h5,hw⟩
 ·refine vc_frac_R_Zero _ _ _ V _ ⟨fun _ V1 l1=>?_,(fun h0=>nomatch h0)⟩
  congr 1
  rw [Bool.eq_iff_iff,beq_iff_eq,decide_eq_true_eq]
  exact Rat.num_eq_zero
 ·refine vc_frac_R_Zero _ _ _ V _ ⟨(fun h0=>nomatch h0),fun _ V1 l1=>?_⟩
  congr 1
  symm; rw [decide_eq_false_iff_not]
  intro e; subst e; exact hw ⟨by decide,by decide⟩
theorem c_R_Neg {V:View} {v:Value} {q:Rat} (h:RR V v q) {k:Nat} (hs:Sz k q) (hk:k<=1099511627776) :
  Acts prog 161 #[v] V fun r V'=>RR V' r (-q):=by
 rcases h with ⟨rfl,hw⟩ | ⟨a,b,p,n,c,p',n',c',rfl,h1,h2,h3,h4,h5,hw⟩
 ·have:=hw.1
  refine vc_frac_R_Neg _ _ _ V _ ⟨(fun h0=>nomatch h0),fun _ V1 l1=>.inl ⟨?_,by unfold Wd; rw [Rat.neg_num,Rat.neg_den,Int.natAbs_neg]; exact hw⟩⟩
  rw [i64w (by omega),Rat.neg_num,Rat.neg_den,Int.zero_sub]
 ·obtain ⟨rfl,hn⟩:=h4.inv
  refine vc_frac_R_Neg _ _ _ V _ ⟨fun _=>⟨rfl,rfl,decide (q.num < 0),p,n,c,a.add 0,rfl,?_,?_,rfl,rfl,p',n',c',⟨_,rfl,h3⟩,fun V1 l1=>(c_integer_Neg _ (hn.le l1) (Nat.le_trans (digs_len_bits hs.1) hk)).mono ?_⟩,(fun h0=>nomatch h0)⟩
  ·exact h1
  ·simpa [Addr.add] using h2
  ·rintro r V2 l2 hri
   rw [ival_digs] at hri
   obtain ⟨p2,n2,c2,rfl,g⟩:=hri
   refine ⟨_,_,_,_,rfl,fun V3 l3 bk hb=>.inr ⟨⟨bk,0,none⟩,decide (-q.num < 0),p2,n2,c2,p',n',c',rfl,?_,?_,?_,?_,?_,?_⟩⟩
   ·rw [add_zero']; exact blk_at (xs:=[_,_,_]) hb rfl
   ·rw [add_zero']; exact blk_at (xs:=[_,_,_]) hb rfl
   ·rw [add_zero']; exact blk_at (xs:=[_,_,_]) hb rfl
   ·exact ⟨_,_,_,rfl,g.le l3⟩
   ·exact h5.le (l1.trans (l2.trans l3))
   ·unfold Wd; rw [Rat.neg_num,Rat.neg_den,Int.natAbs_neg]; exact hw
theorem _root_.Go.Eng.Sz.neg {k:Nat} {q:Rat} (h:Sz k q):Sz k (-q):=by unfold Sz; rw [Rat.neg_num,Rat.neg_den,Int.natAbs_neg]; exact h
theorem natAbs_ediv_le (z:Int) (g:Nat) (h:(g:Int) ∣ z):(z / g).natAbs<=z.natAbs:=by
 rw [Int.natAbs_ediv_of_dvd h,Int.natAbs_natCast]; exact Nat.div_le_self _ _
theorem _root_.Go.Eng.Sz.mkRat {k:Nat} {z:Int} {d:Nat} (h1:z.natAbs < 2 ^ k) (h2:d < 2 ^ k) (hk:0 < k):Sz k (mkRat z d):=by
 have h3:1 < 2 ^ k:=Nat.one_lt_two_pow (by omega)
 unfold Sz
 rw [Rat.num_mkRat,Rat.den_mkRat]
 split
 ·exact ⟨Nat.two_pow_pos k,h3⟩
 ·refine ⟨Nat.lt_of_le_of_lt (natAbs_ediv_le _ _ (Int.ofNat_dvd_left.2 (Nat.gcd_dvd_right _ _))) h1,Nat.lt_of_le_of_lt (Nat.div_le_self _ _) h2⟩
theorem pow_mul_lt {a b k m:Nat} (h1:a < 2 ^ k) (h2:b < 2 ^ m):a * b < 2 ^ (k + m):=by rw [Nat.pow_add]; exact Nat.mul_lt_mul'' h1 h2
theorem add_bits {x y:Rat} {k m:Nat} (hx:Sz k x) (hy:Sz m y):(x.num * y.den).natAbs < 2 ^ (k + m)/\(y.num * x.den).natAbs < 2 ^ (k + m)/\(x.num * y.den + y.num * x.den).natAbs < 2 ^ (k + m + 1)/\x.den * y.den < 2 ^ (k + m):=by
 have h1:(x.num * y.den).natAbs < 2 ^ (k + m):=by rw [Int.natAbs_mul,Int.natAbs_natCast]; exact pow_mul_lt hx.1 hy.2
 have h2:(y.num * x.den).natAbs < 2 ^ (k + m):=by rw [Int.natAbs_mul,Int.natAbs_natCast,Nat.add_comm]; exact pow_mul_lt hy.1 hx.2
 refine ⟨h1,h2,?_,pow_mul_lt hx.2 hy.2⟩
 rw [Nat.pow_succ]; omega
theorem _root_.Go.Eng.Sz.add {x y:Rat} {k m:Nat} (hx:Sz k x) (hy:Sz m y):Sz (k + m + 1) (x + y):=by
 obtain ⟨-,-,h3,h4⟩:=add_bits hx hy
 rw [Rat.add_def']
 exact Go.Eng.Sz.mkRat h3 (Nat.lt_of_lt_of_le h4 (Nat.pow_le_pow_right (by omega) (by omega))) (by omega)
theorem _root_.Go.Eng.Sz.sub {x y:Rat} {k m:Nat} (hx:Sz k x) (hy:Sz m y):Sz (k + m + 1) (x - y):=by
 rw [Rat.sub_eq_add_neg]; exact hx.add hy.neg
theorem _root_.Go.Eng.Sz.mul {x y:Rat} {k m:Nat} (hx:Sz k x) (hy:Sz m y):Sz (k + m + 1) (x * y):=by
 rw [Rat.mul_def']
 refine (Go.Eng.Sz.mkRat (k:=k + m + 1) ?_ ?_ (by omega))
 ·rw [Int.natAbs_mul]; exact Nat.lt_of_lt_of_le (pow_mul_lt hx.1 hy.1) (Nat.pow_le_pow_right (by omega) (by omega))
 ·exact Nat.lt_of_lt_of_le (pow_mul_lt hx.2 hy.2) (Nat.pow_le_pow_right (by omega) (by omega))
theorem c_R_Add {V:View} {v w:Value} {x y:Rat} (hx:RR V v x) (hy:RR V w y) {k m:Nat} (hk:Sz k x) (hm:Sz m y) (hkm:k + m < 1099511627776) :
  Acts prog 198 #[v,w] V fun r V'=>RR V' r (x + y):=by
 obtain ⟨r0,r1,r2,rfl⟩:=hx.shape
 obtain ⟨s0,s1,s2,rfl⟩:=hy.shape
 have hxy:x + y=mkRat (x.num * y.den + y.num * x.den) (x.den * y.den):=Rat.add_def' x y
 obtain ⟨b1,b2,b3,b4⟩:=add_bits hk hm
 have gen:(∀V46:View,V.Le V46->Acts prog 165 #[.agg #[.int .i64 r0,.int .i64 r1,.pointer r2]] V46 fun r46_ V47=>∃b53_:Bool,∃(p54_:OA) (n54_ c54_:Nat),r46_=.agg #[.bool b53_,.slice p54_ n54_ c54_]/\(∀V48:View,V47.Le V48->Acts prog 187 #[.agg #[.int .i64 s0,.int .i64 s1,.pointer s2]] V48 fun r48_ V49=>∃(p55_:OA) (n55_ c55_:Nat),r48_=.slice p55_ n55_ c55_/\(∀V50:View,V49.Le V50->Acts prog 216 #[.agg #[.bool b53_,.slice p54_ n54_ c54_],.agg #[.bool false,.slice p55_ n55_ c55_]] V50 fun r50_ V51=>∃b56_:Bool,∃(p57_:OA) (n57_ c57_:Nat),r50_=.agg #[.bool b56_,.slice p57_ n57_ c57_]/\(∀V52:View,V51.Le V52->Acts prog 165 #[.agg #[.int .i64 s0,.int .i64 s1,.pointer s2]] V52 fun r52_ V53=>∃b58_:Bool,∃(p59_:OA) (n59_ c59_:Nat),r52_=.agg #[.bool b58_,.slice p59_ n59_ c59_]/\(∀V54:View,V53.Le V54->Acts prog 187 #[.agg #[.int .i64 r0,.int .i64 r1,.pointer r2]] V54 fun r54_ V55=>∃(p60_:OA) (n60_ c60_:Nat),r54_=.slice p60_ n60_ c60_/\(∀V56:View,V55.Le V56->Acts prog 216 #[.agg #[.bool b58_,.slice p59_ n59_ c59_],.agg #[.bool false,.slice p60_ n60_ c60_]] V56 fun r56_ V57=>∃b61_:Bool,∃(p62_:OA) (n62_ c62_:Nat),r56_=.agg #[.bool b61_,.slice p62_ n62_ c62_]/\(∀V58:View,V57.Le V58->Acts prog 218 #[.agg #[.bool b56_,.slice p57_ n57_ c57_],.agg #[.bool b61_,.slice p62_ n62_ c62_]] V58 fun r58_ V59=>∃b63_:Bool,∃(p64_:OA) (n64_ c64_:Nat),r58_=.agg #[.bool b63_,.slice p64_ n64_ c64_]/\(∀V60:View,V59.Le V60->Acts prog 187 #[.agg #[.int .i64 r0,.int .i64 r1,.pointer r2]] V60 fun r60_ V61=>∃(p65_:OA) (n65_ c65_:Nat),r60_=.slice p65_ n65_ c65_/\(∀V62:View,V61.Le V62->Acts prog 187 #[.agg #[.int .i64 s0,.int .i64 s1,.pointer s2]] V62 fun r62_ V63=>∃(p66_:OA) (n66_ c66_:Nat),r62_=.slice p66_ n66_ c66_/\(∀V64:View,V63.Le V64->Acts prog 194 #[.slice p65_ n65_ c65_,.slice p66_ n66_ c66_] V64 fun r64_ V65=>∃(p67_:OA) (n67_ c67_:Nat),r64_=.slice p67_ n67_ c67_/\(∀V66:View,V65.Le V66->Acts prog 164 #[.agg #[.bool b63_,.slice p64_ n64_ c64_],.slice p67_ n67_ c67_] V66 fun r66_ V67=>∃x68_:Int,∃x69_:Int,∃p70_:OA,r66_=.agg #[.int .i64 x68_,.int .i64 x69_,.pointer p70_]/\(∀V68:View,V67.Le V68->RR V68 (.agg #[.int .i64 x68_,.int .i64 x69_,.pointer p70_]) (x + y))))))))))))):=by
  intro V1 l1
  refine (c_R_Num (hx.le l1) hk (by omega)).mono ?_
  rintro r V2 l2 ⟨p1,n1,c1,rfl,g1⟩
  refine ⟨_,_,_,_,rfl,fun V3 l3=>(c_R_Den (hy.le (l1.trans (l2.trans l3))) hm (by omega)).mono ?_⟩
  rintro r V4 l4 ⟨p2,n2,c2,rfl,g2⟩
  have q1:=digs_len_bits hk.1
  have q2:=digs_len_bits hk.2
  have q3:=digs_len_bits hm.1
  have q4:=digs_len_bits hm.2
  refine ⟨_,_,_,rfl,fun V5 l5=>(c_integer_Mul _ false (g1.le (l3.trans (l4.trans l5))) (g2.le l5) (by omega)).mono ?_⟩
  rintro r V6 l6 h6
  rw [ival_digs,ival_false,val_digs] at h6
  obtain ⟨p3,n3,c3,rfl,g3⟩:=h6
  refine ⟨_,_,_,_,rfl,fun V7 l7=>(c_R_Num (hy.le (l1.trans (l2.trans (l3.trans (l4.trans (l5.trans (l6.trans l7))))))) hm (by omega)).mono ?_⟩
  rintro r V8 l8 ⟨p4,n4,c4,rfl,g4⟩
  refine ⟨_,_,_,_,rfl,fun V9 l9=>(c_R_Den (hx.le (l1.trans (l2.trans (l3.trans (l4.trans (l5.trans (l6.trans (l7.trans (l8.trans l9))))))))) hk (by omega)).mono ?_⟩
  rintro r V10 l10 ⟨p5,n5,c5,rfl,g5⟩
  refine ⟨_,_,_,rfl,fun V11 l11=>(c_integer_Mul _ false (g4.le (l9.trans (l10.trans l11))) (g5.le l11) (by omega)).mono ?_⟩
  rintro r V12 l12 h12
  rw [ival_digs,ival_false,val_digs] at h12
  obtain ⟨p6,n6,c6,rfl,g6⟩:=h12
  have q5:=digs_len_bits b1
  have q6:=digs_len_bits b2
  refine ⟨_,_,_,_,rfl,fun V13 l13=>(c_integer_Add _ _ (g3.le (l7.trans (l8.trans (l9.trans (l10.trans (l11.trans (l12.trans l13))))))) (g6.le l13) (by omega) (by omega)).mono ?_⟩
  rintro r V14 l14 h14
  rw [ival_digs,ival_digs] at h14
  obtain ⟨p7,n7,c7,rfl,g7⟩:=h14
  have L14:=l1.trans (l2.trans (l3.trans (l4.trans (l5.trans (l6.trans (l7.trans (l8.trans (l9.trans (l10.trans (l11.trans (l12.trans (l13.trans l14))))))))))))
  refine ⟨_,_,_,_,rfl,fun V15 l15=>(c_R_Den (hx.le (L14.trans l15)) hk (by omega)).mono ?_⟩
  rintro r V16 l16 ⟨p8,n8,c8,rfl,g8⟩
  refine ⟨_,_,_,rfl,fun V17 l17=>(c_R_Den (hy.le (L14.trans (l15.trans (l16.trans l17)))) hm (by omega)).mono ?_⟩
  rintro r V18 l18 ⟨p9,n9,c9,rfl,g9⟩
  refine ⟨_,_,_,rfl,fun V19 l19=>(c_nat_Mul (g8.le (l17.trans (l18.trans l19))) (g9.le l19) (by omega)).mono ?_⟩
  rintro r V20 l20 ⟨p10,n10,c10,rfl,g10⟩
  rw [val_digs,val_digs] at g10
  have q7:=digs_len_bits b3
  have q8:=digs_len_bits b4
  refine ⟨_,_,_,rfl,fun V21 l21=>(c_frac_reduce _ (g7.le (l15.trans (l16.trans (l17.trans (l18.trans (l19.trans (l20.trans l21))))))) (g10.le l21) (by omega) (by omega)).mono ?_⟩
  rintro r V22 l22 h22
  rw [ival_digs,val_digs,← hxy] at h22
  obtain ⟨n,d,p,rfl⟩:=h22.shape
  exact ⟨_,_,_,rfl,fun V23 l23=>h22.le l23⟩
 have lift:∀V1:View,V.Le V1->∀V2:View,V1.Le V2->V.Le V2:=fun _ h _ h'=>h.trans h'
 rcases hx with ⟨ex,wx⟩ | ⟨a,b,p,n,c,p',n',c',ex,-,-,-,-,-,wx⟩
 ·rcases hy with ⟨ey,wy⟩ | ⟨a,b,p,n,c,p',n',c',ey,-,-,-,-,-,wy⟩
  ·simp only [Value.agg.injEq,Array.mk.injEq,List.cons.injEq,Value.int.injEq,Value.pointer.injEq,true_and,and_true] at ex ey
   obtain ⟨rfl,rfl,rfl⟩:=ex
   obtain ⟨rfl,rfl,rfl⟩:=ey
   obtain ⟨wx1,wx2⟩:=wx
   obtain ⟨wy1,wy2⟩:=wy
   have dx:=x.den_nz
   have dy:=y.den_nz
   have e1:i64.wrap ((x.den:Int) - 1 + 1)=x.den:=by rw [i64w (by omega)]; omega
   have e2:i64.wrap ((y.den:Int) - 1 + 1)=y.den:=by rw [i64w (by omega)]; omega
   refine vc_frac_R_Add _ _ _ _ _ _ V _ ⟨fun _=>⟨fun _ _=>True,⟨fun _=>⟨fun h1=>⟨fun h2 V1 l1=>?_,fun h2=>?_⟩,fun h1=>?_⟩,(fun h=>nomatch h)⟩,fun _ V1 l1 _=>⟨by trivial,fun V2 l2=>gen V2 (l1.trans l2)⟩⟩,(fun h=>nomatch h)⟩
   ·have h1:x.den=1:=by rw [beq_iff_eq] at h1; omega
    have h2:y.den=1:=by rw [beq_iff_eq] at h2; omega
    rw [i64w (by omega)]
    refine (c_frac_Int _ (by omega) (by omega)).mono ?_
    rintro r V2 l2 hr
    have e:((x.num + y.num:Int):Rat)=x + y:=by
     rw [hxy,h1,h2]
     simp only [Nat.mul_one,Int.natCast_one,Int.mul_one]
     exact (mkRat_one _).symm
    rw [e] at hr
    obtain ⟨n,d,p,rfl⟩:=hr.shape
    exact ⟨_,_,_,rfl,fun V3 l3=>hr.le l3⟩
   all_goals
    rw [e1,e2]
    refine fun V4 l4=>(c_frac_times _ _ wx1 (by omega)).mono ?_
    rintro r V5 l5 ⟨z1,rfl,hz1⟩
    refine ⟨_,_,rfl,fun V6 l6=>(c_frac_times _ _ wy1 (by omega)).mono ?_⟩
    rintro r V7 l7 ⟨z2,rfl,hz2⟩
    refine ⟨_,_,rfl,fun V8 l8=>(c_frac_times _ _ (by omega) (by omega)).mono ?_⟩
    rintro r V9 l9 ⟨z3,rfl,hz3⟩
    refine ⟨_,_,rfl,fun g1=>⟨fun g2=>⟨fun g3=>⟨fun g4=>⟨fun g5 V10 l10=>?_,fun _=>⟨(),by and_intros <;> rfl,trivial⟩⟩,fun _=>⟨(),by and_intros <;> rfl,trivial⟩⟩,fun _=>⟨(),by and_intros <;> rfl,trivial⟩⟩,fun _=>⟨(),by and_intros <;> rfl,trivial⟩⟩,fun _=>⟨(),by and_intros <;> rfl,trivial⟩⟩
    rw [decide_eq_true_eq] at g1 g2 g3 g4 g5
    have k1:=hz1 g1
    have k2:=hz2 g2
    have k3:=hz3 g3
    rw [← k1] at g1
    rw [← k2] at g2
    rw [← Int.natCast_mul,Int.natAbs_natCast] at g3
    rw [← Int.natCast_mul] at k3
    rw [i64w (by omega)] at g4 g5 ⊢
    rw [k3]
    refine (c_frac_lowest _ _ (by omega) g3 (Nat.mul_ne_zero dx dy)).mono ?_
    rintro r V11 l11 hr
    rw [k1,k2,← hxy] at hr
    obtain ⟨n,d,p,rfl⟩:=hr.shape
    exact ⟨_,_,_,rfl,fun V3 l3=>hr.le l3⟩
  ·simp only [Value.agg.injEq,Array.mk.injEq,List.cons.injEq,Value.int.injEq,Value.pointer.injEq,true_and,and_true] at ex ey
   obtain ⟨rfl,rfl,rfl⟩:=ex
   obtain ⟨rfl,rfl,rfl⟩:=ey
   exact vc_frac_R_Add _ _ _ _ _ _ V _ ⟨fun _=>⟨fun _ _=>True,⟨(fun h=>nomatch h),fun _=>⟨(),by and_intros <;> rfl,trivial⟩⟩,fun _ V1 l1 _=>⟨by trivial,fun V2 l2=>gen V2 (l1.trans l2)⟩⟩,(fun h=>nomatch h)⟩
 ·simp only [Value.agg.injEq,Array.mk.injEq,List.cons.injEq,Value.int.injEq,Value.pointer.injEq,true_and,and_true] at ex
  obtain ⟨rfl,rfl,rfl⟩:=ex
  exact vc_frac_R_Add _ _ _ _ _ _ V _ ⟨(fun h=>nomatch h),fun _=>gen⟩
end Go.Proofs.Tryz
