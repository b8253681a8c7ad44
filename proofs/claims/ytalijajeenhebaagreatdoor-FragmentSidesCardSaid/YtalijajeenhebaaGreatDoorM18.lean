/- A part of the proof (joined by program from: VFrB, RefI, RefJ). -/
import Derived.Test.YtalijajeenhebaaGreatDoorM5
import Derived.Test.YtalijajeenhebaaGreatDoorM16
import Derived.Test.YtalijajeenhebaaGreatDoorM17
set_option linter.unusedVariables false
open Go.IntKind (i64 u64 u32)
/- By program: the conditions of the functions, from their loaded code. -/
namespace Go.Proofs.Tryz
open Go.Eng
set_option maxRecDepth 100000
theorem vc_ref01_N (ap:OA) (an ac:Nat) (V:View) (R:Value->View->Prop)
  (h:(∃xs1_:List Value,V.sl ap xs1_/\xs1_.length=an * 1/\((0 + an) * 4<=140737488355328/\0<=0/\0 * 1<=([]:List Value).length/\xs1_.length=an * 1/\(∀v ∈ xs1_,v.oneCell'=true)/\∀(bk4_:Nat) (J5_:C->Value) (sp2_:List Value) (c3_:Nat),0 + an<=c3_->c3_ * 1<=(0 + an) * 1 + sp2_.length->(∀V1,V.Le V1->∀bk6_:Nat,(V1.blk bk6_ (.cells (([]:List Value).take (0 * 1)++xs1_++sp2_).toArray 244 (0,0)))->Acts prog 166 #[.slice (some ⟨bk6_,0,none⟩) (0 + an) c3_] V1 fun r1_ V2=>∃p7_ n7_ c7_,r1_=.slice p7_ n7_ c7_/\∀J8_:C->Value,(∀V3,V2.Le V3->R (.slice p7_ n7_ c7_) V3))))) :
  Acts prog 138 #[.slice ap an ac] V R:=
 fn_does (LF:=LF0) (RF:=[1000007]) (β0:=(fun _=>0)) tab_ok mixed [] [] func138 (by kernel_rfl)
  [(0,.c (.v (.slice ap an ac)))]
  [] (by kernel_rfl) trivial h (by kernel_rfl)
theorem vc_ref01_I (a0:Bool) (a1p:OA) (a1n a1c:Nat) (V:View) (R:Value->View->Prop)
  (h:(∀V1,V.Le V1->Acts prog 138 #[.slice a1p a1n a1c] V1 fun r1_ V2=>∃p1_ n1_ c1_,r1_=.slice p1_ n1_ c1_/\(∀V3,V2.Le V3->Acts prog 109 #[.bool a0,.slice p1_ n1_ c1_] V3 fun r3_ V4=>∃b2_,∃p3_ n3_ c3_,r3_=.agg #[.bool b2_,.slice p3_ n3_ c3_]/\(∀V5,V4.Le V5->R (.agg #[.bool b2_,.slice p3_ n3_ c3_]) V5)))) :
  Acts prog 132 #[.agg #[.bool a0,.slice a1p a1n a1c]] V R:=
 fn_does (LF:=LF0) (RF:=[1000007]) (β0:=(fun _=>0)) tab_ok mixed [] [] func132 (by kernel_rfl)
  [(0,.agg [.v (.bool a0),.v (.slice a1p a1n a1c)])]
  [] (by kernel_rfl) trivial h (by kernel_rfl)
theorem vc_ref01_Q (a0:Bool) (a1p:OA) (a1n a1c:Nat) (a2p:OA) (a2n a2c:Nat) (V:View) (R:Value->View->Prop)
  (h:(∀V1,V.Le V1->Acts prog 138 #[.slice a2p a2n a2c] V1 fun r1_ V2=>∃p1_ n1_ c1_,r1_=.slice p1_ n1_ c1_/\(((((n1_:Nat):Int) == (0:Int))=true->(∀V3,V2.Le V3->R (.agg #[.bool false,.slice none 0 0,.slice none 0 0]) V3))/\((((n1_:Nat):Int) == (0:Int))=false->(∀V4,V2.Le V4->Acts prog 132 #[.agg #[.bool a0,.slice a1p a1n a1c]] V4 fun r4_ V5=>∃b2_,∃p3_ n3_ c3_,r4_=.agg #[.bool b2_,.slice p3_ n3_ c3_]/\(∀V6,V5.Le V6->Acts prog 120 #[.agg #[.bool b2_,.slice p3_ n3_ c3_],.slice p1_ n1_ c1_] V6 fun r6_ V7=>∃b4_,∃p5_ n5_ c5_,∃p6_ n6_ c6_,r6_=.agg #[.bool b4_,.slice p5_ n5_ c5_,.slice p6_ n6_ c6_]/\(∀V8,V7.Le V8->R (.agg #[.bool b4_,.slice p5_ n5_ c5_,.slice p6_ n6_ c6_]) V8))))))) :
  Acts prog 79 #[.agg #[.bool a0,.slice a1p a1n a1c,.slice a2p a2n a2c]] V R:=
 fn_does (LF:=LF0) (RF:=[1000007]) (β0:=(fun _=>0)) tab_ok mixed [] [] func79 (by kernel_rfl)
  [(0,.agg [.v (.bool a0),.v (.slice a1p a1n a1c),.v (.slice a2p a2n a2c)])]
  [] (by kernel_rfl) trivial h (by kernel_rfl)
theorem vc_ref01_NormalN (ap:OA) (an ac:Nat) (V:View) (R:Value->View->Prop)
  (h:(((((an:Nat):Int) == (0:Int))=true->(∀V1,V.Le V1->R (.bool true) V1))/\((((an:Nat):Int) == (0:Int))=false->(ap.isSome=true)/\(0<=(i64.wrap (((an:Nat):Int) - (1:Int)))/\(i64.wrap (((an:Nat):Int) - (1:Int))) < ((an:Nat):Int))/\(∃x1_,(∃a2_,addrAdd ap (((i64.wrap (((an:Nat):Int) - (1:Int))).toNat) * 1)=some a2_/\V.at a2_ (.int .u32 x1_))/\(∀V2,V.Le V2->R (.bool (x1_ != (0:Int))) V2))))) :
  Acts prog 177 #[.slice ap an ac] V R:=
 fn_does (LF:=LF0) (RF:=[1000007]) (β0:=(fun _=>0)) tab_ok mixed [] [] func177 (by kernel_rfl)
  [(0,.c (.v (.slice ap an ac)))]
  [] (by kernel_rfl) trivial h (by kernel_rfl)
theorem vc_ref01_NormalI (a0:Bool) (a1p:OA) (a1n a1c:Nat) (V:View) (R:Value->View->Prop)
  (h:(∀V1,V.Le V1->Acts prog 177 #[.slice a1p a1n a1c] V1 fun r1_ V2=>∃b1_,r1_=.bool b1_/\((b1_=true->(((!a0)=true->(∀V3,V2.Le V3->R (.bool true) V3))/\((!a0)=false->(∀V4,V2.Le V4->R (.bool (decide (((a1n:Nat):Int) > (0:Int)))) V4))))/\(b1_=false->(∀V5,V2.Le V5->R (.bool false) V5))))) :
  Acts prog 131 #[.agg #[.bool a0,.slice a1p a1n a1c]] V R:=
 fn_does (LF:=LF0) (RF:=[1000007]) (β0:=(fun _=>0)) tab_ok mixed [] [] func131 (by kernel_rfl)
  [(0,.agg [.v (.bool a0),.v (.slice a1p a1n a1c)])]
  [] (by kernel_rfl) trivial h (by kernel_rfl)
theorem vc_ref01_NormalQ (a0:Bool) (a1p:OA) (a1n a1c:Nat) (a2p:OA) (a2n a2c:Nat) (V:View) (R:Value->View->Prop)
  (h:(∀V1,V.Le V1->Acts prog 79 #[.agg #[.bool a0,.slice a1p a1n a1c,.slice a2p a2n a2c]] V1 fun r1_ V2=>∃b1_,∃p2_ n2_ c2_,∃p3_ n3_ c3_,r1_=.agg #[.bool b1_,.slice p2_ n2_ c2_,.slice p3_ n3_ c3_]/\(∀V3,V2.Le V3->Acts prog 50 #[.agg #[.bool b1_,.slice p2_ n2_ c2_,.slice p3_ n3_ c3_]] V3 fun r3_ V4=>∃b4_,∃p5_ n5_ c5_,∃p6_ n6_ c6_,r3_=.agg #[.bool b4_,.slice p5_ n5_ c5_,.slice p6_ n6_ c6_]/\(∀V5,V4.Le V5->Acts prog 63 #[.agg #[.bool a0,.slice a1p a1n a1c,.slice a2p a2n a2c],.agg #[.bool b4_,.slice p5_ n5_ c5_,.slice p6_ n6_ c6_]] V5 fun r5_ V6=>∃b7_,r5_=.bool b7_/\((b7_=true->(∀V7,V6.Le V7->R (.bool (decide (((a2n:Nat):Int) > (0:Int)))) V7))/\(b7_=false->(∀V8,V6.Le V8->R (.bool false) V8))))))) :
  Acts prog 137 #[.agg #[.bool a0,.slice a1p a1n a1c,.slice a2p a2n a2c]] V R:=
 fn_does (LF:=LF0) (RF:=[1000007]) (β0:=(fun _=>0)) tab_ok mixed [] [] func137 (by kernel_rfl)
  [(0,.agg [.v (.bool a0),.v (.slice a1p a1n a1c),.v (.slice a2p a2n a2c)])]
  [] (by kernel_rfl) trivial h (by kernel_rfl)
theorem vc_ref04_Ln (l0:Bool) (l1p:OA) (l1n l1c:Nat) (l2:Bool) (l3p:OA) (l3n l3c:Nat) (l4:Bool) (l5p:OA) (l5n l5c:Nat) (V:View) (R:Value->View->Prop)
  (h:(∀V1,V.Le V1->Acts prog 131 #[.agg #[.bool l0,.slice l1p l1n l1c]] V1 fun r1_ V2=>∃b1_,r1_=.bool b1_/\(((!b1_)=true->(∀V3,V2.Le V3->R (.tuple #[.agg #[.bool false,.slice none 0 0,.bool false,.slice none 0 0,.bool false,.slice none 0 0],.bool false]) V3))/\((!b1_)=false->(∀V4,V2.Le V4->Acts prog 131 #[.agg #[.bool l2,.slice l3p l3n l3c]] V4 fun r4_ V5=>∃b2_,r4_=.bool b2_/\(((!b2_)=true->(∀V6,V5.Le V6->R (.tuple #[.agg #[.bool false,.slice none 0 0,.bool false,.slice none 0 0,.bool false,.slice none 0 0],.bool false]) V6))/\((!b2_)=false->(∀V7,V5.Le V7->Acts prog 131 #[.agg #[.bool l4,.slice l5p l5n l5c]] V7 fun r7_ V8=>∃b3_,r7_=.bool b3_/\(((!b3_)=true->(∀V9,V8.Le V9->R (.tuple #[.agg #[.bool false,.slice none 0 0,.bool false,.slice none 0 0,.bool false,.slice none 0 0],.bool false]) V9))/\((!b3_)=false->(∀V10,V8.Le V10->Acts prog 132 #[.agg #[.bool l0,.slice l1p l1n l1c]] V10 fun r10_ V11=>∃b4_,∃p5_ n5_ c5_,r10_=.agg #[.bool b4_,.slice p5_ n5_ c5_]/\(∀V12,V11.Le V12->Acts prog 132 #[.agg #[.bool l2,.slice l3p l3n l3c]] V12 fun r12_ V13=>∃b6_,∃p7_ n7_ c7_,r12_=.agg #[.bool b6_,.slice p7_ n7_ c7_]/\(∀V14,V13.Le V14->Acts prog 132 #[.agg #[.bool l4,.slice l5p l5n l5c]] V14 fun r14_ V15=>∃b8_,∃p9_ n9_ c9_,r14_=.agg #[.bool b8_,.slice p9_ n9_ c9_]/\(∀V16,V15.Le V16->Acts prog 133 #[.slice p5_ n5_ c5_,.slice p7_ n7_ c7_] V16 fun r16_ V17=>∃p10_ n10_ c10_,r16_=.slice p10_ n10_ c10_/\(((decide (((n10_:Nat):Int) > (0:Int)))=true->(∀V18,V17.Le V18->Acts prog 133 #[.slice p10_ n10_ c10_,.slice p9_ n9_ c9_] V18 fun r18_ V19=>∃p11_ n11_ c11_,r18_=.slice p11_ n11_ c11_/\(∀V20,V19.Le V20->Acts prog 135 #[] V20 fun r20_ V21=>∃p12_ n12_ c12_,r20_=.slice p12_ n12_ c12_/\(∀V22,V21.Le V22->Acts prog 134 #[.slice p11_ n11_ c11_,.slice p12_ n12_ c12_] V22 fun r22_ V23=>∃x13_,r22_=.int .i64 x13_/\(∀V24,V23.Le V24->R (.tuple #[.agg #[.bool b4_,.slice p5_ n5_ c5_,.bool b6_,.slice p7_ n7_ c7_,.bool b8_,.slice p9_ n9_ c9_],.bool (x13_ == (0:Int))]) V24)))))/\((decide (((n10_:Nat):Int) > (0:Int)))=false->(∀V25,V17.Le V25->R (.tuple #[.agg #[.bool b4_,.slice p5_ n5_ c5_,.bool b6_,.slice p7_ n7_ c7_,.bool b8_,.slice p9_ n9_ c9_],.bool false]) V25))))))))))))))))) :
  Acts prog 75 #[.agg #[.bool l0,.slice l1p l1n l1c,.bool l2,.slice l3p l3n l3c,.bool l4,.slice l5p l5n l5c]] V R:=
 fn_does (LF:=LF0) (RF:=[1000007]) (β0:=(fun _=>0)) tab_ok mixed [] [] func75 (by kernel_rfl)
  [(0,.agg [.v (.bool l0),.v (.slice l1p l1n l1c),.v (.bool l2),.v (.slice l3p l3n l3c),.v (.bool l4),.v (.slice l5p l5n l5c)])]
  [] (by kernel_rfl) trivial h (by kernel_rfl)
theorem vc_ref06_Read (s0:Bool) (s1p:OA) (s1n s1c:Nat) (s2p:OA) (s2n s2c:Nat) (s3:Bool) (s4p:OA) (s4n s4c:Nat) (s5p:OA) (s5n s5c:Nat) (s6:Bool) (s7:Bool) (V:View) (R:Value->View->Prop)
  (h:(∃I1_:Bool->View->Prop,((s6=true->(∀V1,V.Le V1->Acts prog 136 #[.agg #[.bool s0,.slice s1p s1n s1c,.slice s2p s2n s2c]] V1 fun r1_ V2=>∃b2_,r1_=.bool b2_/\(((!b2_)=true->(∃z3_:Bool,(sm 0/\sm 0/\(true=z3_)/\(s0=s0)/\sm s1p/\sm s1n/\sm s1c/\sm s2p/\sm s2n/\sm s2c/\(s3=s3)/\sm s4p/\sm s4n/\sm s4c/\sm s5p/\sm s5n/\sm s5c/\(s6=s6)/\(s7=s7)/\((none:OA)=none)/\sm 0/\sm 0/\((none:OA)=none)/\sm 0/\sm 0/\((none:OA)=none)/\sm 0/\sm 0/\((none:OA)=none)/\sm 0/\sm 0)/\I1_ z3_ V2))/\((!b2_)=false->(((!s6)=true->(∀V3,V2.Le V3->Acts prog 137 #[.agg #[.bool s0,.slice s1p s1n s1c,.slice s2p s2n s2c]] V3 fun r3_ V4=>∃b4_,r3_=.bool b4_/\(((!b4_)=true->(∃z5_:Bool,(sm 0/\sm 0/\(true=z5_)/\(s0=s0)/\sm s1p/\sm s1n/\sm s1c/\sm s2p/\sm s2n/\sm s2c/\(s3=s3)/\sm s4p/\sm s4n/\sm s4c/\sm s5p/\sm s5n/\sm s5c/\(s6=s6)/\(s7=s7)/\((none:OA)=none)/\sm 0/\sm 0/\((none:OA)=none)/\sm 0/\sm 0/\((none:OA)=none)/\sm 0/\sm 0/\((none:OA)=none)/\sm 0/\sm 0)/\I1_ z5_ V4))/\((!b4_)=false->((s7=true->(∀V5,V4.Le V5->Acts prog 136 #[.agg #[.bool s3,.slice s4p s4n s4c,.slice s5p s5n s5c]] V5 fun r5_ V6=>∃b6_,r5_=.bool b6_/\(((!b6_)=true->(∃z7_:Bool,(sm 0/\sm 0/\(true=z7_)/\(s0=s0)/\sm s1p/\sm s1n/\sm s1c/\sm s2p/\sm s2n/\sm s2c/\(s3=s3)/\sm s4p/\sm s4n/\sm s4c/\sm s5p/\sm s5n/\sm s5c/\(s6=s6)/\(s7=s7)/\((none:OA)=none)/\sm 0/\sm 0/\((none:OA)=none)/\sm 0/\sm 0/\((none:OA)=none)/\sm 0/\sm 0/\((none:OA)=none)/\sm 0/\sm 0)/\I1_ z7_ V6))/\((!b6_)=false->(((!s7)=true->(∀V7,V6.Le V7->Acts prog 137 #[.agg #[.bool s3,.slice s4p s4n s4c,.slice s5p s5n s5c]] V7 fun r7_ V8=>∃b8_,r7_=.bool b8_/\(∃z9_:Bool,(sm 0/\sm 0/\((!b8_)=z9_)/\(s0=s0)/\sm s1p/\sm s1n/\sm s1c/\sm s2p/\sm s2n/\sm s2c/\(s3=s3)/\sm s4p/\sm s4n/\sm s4c/\sm s5p/\sm s5n/\sm s5c/\(s6=s6)/\(s7=s7)/\((none:OA)=none)/\sm 0/\sm 0/\((none:OA)=none)/\sm 0/\sm 0/\((none:OA)=none)/\sm 0/\sm 0/\((none:OA)=none)/\sm 0/\sm 0)/\I1_ z9_ V8)))/\((!s7)=false->(∃z10_:Bool,(sm 0/\sm 0/\(false=z10_)/\(s0=s0)/\sm s1p/\sm s1n/\sm s1c/\sm s2p/\sm s2n/\sm s2c/\(s3=s3)/\sm s4p/\sm s4n/\sm s4c/\sm s5p/\sm s5n/\sm s5c/\(s6=s6)/\(s7=s7)/\((none:OA)=none)/\sm 0/\sm 0/\((none:OA)=none)/\sm 0/\sm 0/\((none:OA)=none)/\sm 0/\sm 0/\((none:OA)=none)/\sm 0/\sm 0)/\I1_ z10_ V6)))))))/\(s7=false->(((!s7)=true->(∀V9,V4.Le V9->Acts prog 137 #[.agg #[.bool s3,.slice s4p s4n s4c,.slice s5p s5n s5c]] V9 fun r9_ V10=>∃b11_,r9_=.bool b11_/\(∃z12_:Bool,(sm 0/\sm 0/\((!b11_)=z12_)/\(s0=s0)/\sm s1p/\sm s1n/\sm s1c/\sm s2p/\sm s2n/\sm s2c/\(s3=s3)/\sm s4p/\sm s4n/\sm s4c/\sm s5p/\sm s5n/\sm s5c/\(s6=s6)/\(s7=s7)/\((none:OA)=none)/\sm 0/\sm 0/\((none:OA)=none)/\sm 0/\sm 0/\((none:OA)=none)/\sm 0/\sm 0/\((none:OA)=none)/\sm 0/\sm 0)/\I1_ z12_ V10)))/\((!s7)=false->(∃z13_:Bool,(sm 0/\sm 0/\(false=z13_)/\(s0=s0)/\sm s1p/\sm s1n/\sm s1c/\sm s2p/\sm s2n/\sm s2c/\(s3=s3)/\sm s4p/\sm s4n/\sm s4c/\sm s5p/\sm s5n/\sm s5c/\(s6=s6)/\(s7=s7)/\((none:OA)=none)/\sm 0/\sm 0/\((none:OA)=none)/\sm 0/\sm 0/\((none:OA)=none)/\sm 0/\sm 0/\((none:OA)=none)/\sm 0/\sm 0)/\I1_ z13_ V4)))))))))/\((!s6)=false->((s7=true->(∀V11,V2.Le V11->Acts prog 136 #[.agg #[.bool s3,.slice s4p s4n s4c,.slice s5p s5n s5c]] V11 fun r11_ V12=>∃b14_,r11_=.bool b14_/\(((!b14_)=true->(∃z15_:Bool,(sm 0/\sm 0/\(true=z15_)/\(s0=s0)/\sm s1p/\sm s1n/\sm s1c/\sm s2p/\sm s2n/\sm s2c/\(s3=s3)/\sm s4p/\sm s4n/\sm s4c/\sm s5p/\sm s5n/\sm s5c/\(s6=s6)/\(s7=s7)/\((none:OA)=none)/\sm 0/\sm 0/\((none:OA)=none)/\sm 0/\sm 0/\((none:OA)=none)/\sm 0/\sm 0/\((none:OA)=none)/\sm 0/\sm 0)/\I1_ z15_ V12))/\((!b14_)=false->(((!s7)=true->(∀V13,V12.Le V13->Acts prog 137 #[.agg #[.bool s3,.slice s4p s4n s4c,.slice s5p s5n s5c]] V13 fun r13_ V14=>∃b16_,r13_=.bool b16_/\(∃z17_:Bool,(sm 0/\sm 0/\((!b16_)=z17_)/\(s0=s0)/\sm s1p/\sm s1n/\sm s1c/\sm s2p/\sm s2n/\sm s2c/\(s3=s3)/\sm s4p/\sm s4n/\sm s4c/\sm s5p/\sm s5n/\sm s5c/\(s6=s6)/\(s7=s7)/\((none:OA)=none)/\sm 0/\sm 0/\((none:OA)=none)/\sm 0/\sm 0/\((none:OA)=none)/\sm 0/\sm 0/\((none:OA)=none)/\sm 0/\sm 0)/\I1_ z17_ V14)))/\((!s7)=false->(∃z18_:Bool,(sm 0/\sm 0/\(false=z18_)/\(s0=s0)/\sm s1p/\sm s1n/\sm s1c/\sm s2p/\sm s2n/\sm s2c/\(s3=s3)/\sm s4p/\sm s4n/\sm s4c/\sm s5p/\sm s5n/\sm s5c/\(s6=s6)/\(s7=s7)/\((none:OA)=none)/\sm 0/\sm 0/\((none:OA)=none)/\sm 0/\sm 0/\((none:OA)=none)/\sm 0/\sm 0/\((none:OA)=none)/\sm 0/\sm 0)/\I1_ z18_ V12)))))))/\(s7=false->(((!s7)=true->(∀V15,V2.Le V15->Acts prog 137 #[.agg #[.bool s3,.slice s4p s4n s4c,.slice s5p s5n s5c]] V15 fun r15_ V16=>∃b19_,r15_=.bool b19_/\(∃z20_:Bool,(sm 0/\sm 0/\((!b19_)=z20_)/\(s0=s0)/\sm s1p/\sm s1n/\sm s1c/\sm s2p/\sm s2n/\sm s2c/\(s3=s3)/\sm s4p/\sm s4n/\sm s4c/\sm s5p/\sm s5n/\sm s5c/\(s6=s6)/\(s7=s7)/\((none:OA)=none)/\sm 0/\sm 0/\((none:OA)=none)/\sm 0/\sm 0/\((none:OA)=none)/\sm 0/\sm 0/\((none:OA)=none)/\sm 0/\sm 0)/\I1_ z20_ V16)))/\((!s7)=false->(∃z21_:Bool,(sm 0/\sm 0/\(false=z21_)/\(s0=s0)/\sm s1p/\sm s1n/\sm s1c/\sm s2p/\sm s2n/\sm s2c/\(s3=s3)/\sm s4p/\sm s4n/\sm s4c/\sm s5p/\sm s5n/\sm s5c/\(s6=s6)/\(s7=s7)/\((none:OA)=none)/\sm 0/\sm 0/\((none:OA)=none)/\sm 0/\sm 0/\((none:OA)=none)/\sm 0/\sm 0/\((none:OA)=none)/\sm 0/\sm 0)/\I1_ z21_ V2)))))))))))/\(s6=false->(((!s6)=true->(∀V17,V.Le V17->Acts prog 137 #[.agg #[.bool s0,.slice s1p s1n s1c,.slice s2p s2n s2c]] V17 fun r17_ V18=>∃b22_,r17_=.bool b22_/\(((!b22_)=true->(∃z23_:Bool,(sm 0/\sm 0/\(true=z23_)/\(s0=s0)/\sm s1p/\sm s1n/\sm s1c/\sm s2p/\sm s2n/\sm s2c/\(s3=s3)/\sm s4p/\sm s4n/\sm s4c/\sm s5p/\sm s5n/\sm s5c/\(s6=s6)/\(s7=s7)/\((none:OA)=none)/\sm 0/\sm 0/\((none:OA)=none)/\sm 0/\sm 0/\((none:OA)=none)/\sm 0/\sm 0/\((none:OA)=none)/\sm 0/\sm 0)/\I1_ z23_ V18))/\((!b22_)=false->((s7=true->(∀V19,V18.Le V19->Acts prog 136 #[.agg #[.bool s3,.slice s4p s4n s4c,.slice s5p s5n s5c]] V19 fun r19_ V20=>∃b24_,r19_=.bool b24_/\(((!b24_)=true->(∃z25_:Bool,(sm 0/\sm 0/\(true=z25_)/\(s0=s0)/\sm s1p/\sm s1n/\sm s1c/\sm s2p/\sm s2n/\sm s2c/\(s3=s3)/\sm s4p/\sm s4n/\sm s4c/\sm s5p/\sm s5n/\sm s5c/\(s6=s6)/\(s7=s7)/\((none:OA)=none)/\sm 0/\sm 0/\((none:OA)=none)/\sm 0/\sm 0/\((none:OA)=none)/\sm 0/\sm 0/\((none:OA)=none)/\sm 0/\sm 0)/\I1_ z25_ V20))/\((!b24_)=false->(((!s7)=true->(∀V21,V20.Le V21->Acts prog 137 #[.agg #[.bool s3,.slice s4p s4n s4c,.slice s5p s5n s5c]] V21 fun r21_ V22=>∃b26_,r21_=.bool b26_/\(∃z27_:Bool,(sm 0/\sm 0/\((!b26_)=z27_)/\(s0=s0)/\sm s1p/\sm s1n/\sm s1c/\sm s2p/\sm s2n/\sm s2c/\(s3=s3)/\sm s4p/\sm s4n/\sm s4c/\sm s5p/\sm s5n/\sm s5c/\(s6=s6)/\(s7=s7)/\((none:OA)=none)/\sm 0/\sm 0/\((none:OA)=none)/\sm 0/\sm 0/\((none:OA)=none)/\sm 0/\sm 0/\((none:OA)=none)/\sm 0/\sm 0)/\I1_ z27_ V22)))/\((!s7)=false->(∃z28_:Bool,(sm 0/\sm 0/\(false=z28_)/\(s0=s0)/\sm s1p/\sm s1n/\sm s1c/\sm s2p/\sm s2n/\sm s2c/\(s3=s3)/\sm s4p/\sm s4n/\sm s4c/\sm s5p/\sm s5n/\sm s5c/\(s6=s6)/\(s7=s7)/\((none:OA)=none)/\sm 0/\sm 0/\((none:OA)=none)/\sm 0/\sm 0/\((none:OA)=none)/\sm 0/\sm 0/\((none:OA)=none)/\sm 0/\sm 0)/\I1_ z28_ V20)))))))/\(s7=false->(((!s7)=true->(∀V23,V18.Le V23->Acts prog 137 #[.agg #[.bool s3,.slice s4p s4n s4c,.slice s5p s5n s5c]] V23 fun r23_ V24=>∃b29_,r23_=.bool b29_/\(∃z30_:Bool,(sm 0/\sm 0/\((!b29_)=z30_)/\(s0=s0)/\sm s1p/\sm s1n/\sm s1c/\sm s2p/\sm s2n/\sm s2c/\(s3=s3)/\sm s4p/\sm s4n/\sm s4c/\sm s5p/\sm s5n/\sm s5c/\(s6=s6)/\(s7=s7)/\((none:OA)=none)/\sm 0/\sm 0/\((none:OA)=none)/\sm 0/\sm 0/\((none:OA)=none)/\sm 0/\sm 0/\((none:OA)=none)/\sm 0/\sm 0)/\I1_ z30_ V24)))/\((!s7)=false->(∃z31_:Bool,(sm 0/\sm 0/\(false=z31_)/\(s0=s0)/\sm s1p/\sm s1n/\sm s1c/\sm s2p/\sm s2n/\sm s2c/\(s3=s3)/\sm s4p/\sm s4n/\sm s4c/\sm s5p/\sm s5n/\sm s5c/\(s6=s6)/\(s7=s7)/\((none:OA)=none)/\sm 0/\sm 0/\((none:OA)=none)/\sm 0/\sm 0/\((none:OA)=none)/\sm 0/\sm 0/\((none:OA)=none)/\sm 0/\sm 0)/\I1_ z31_ V18)))))))))/\((!s6)=false->((s7=true->(∀V25,V.Le V25->Acts prog 136 #[.agg #[.bool s3,.slice s4p s4n s4c,.slice s5p s5n s5c]] V25 fun r25_ V26=>∃b32_,r25_=.bool b32_/\(((!b32_)=true->(∃z33_:Bool,(sm 0/\sm 0/\(true=z33_)/\(s0=s0)/\sm s1p/\sm s1n/\sm s1c/\sm s2p/\sm s2n/\sm s2c/\(s3=s3)/\sm s4p/\sm s4n/\sm s4c/\sm s5p/\sm s5n/\sm s5c/\(s6=s6)/\(s7=s7)/\((none:OA)=none)/\sm 0/\sm 0/\((none:OA)=none)/\sm 0/\sm 0/\((none:OA)=none)/\sm 0/\sm 0/\((none:OA)=none)/\sm 0/\sm 0)/\I1_ z33_ V26))/\((!b32_)=false->(((!s7)=true->(∀V27,V26.Le V27->Acts prog 137 #[.agg #[.bool s3,.slice s4p s4n s4c,.slice s5p s5n s5c]] V27 fun r27_ V28=>∃b34_,r27_=.bool b34_/\(∃z35_:Bool,(sm 0/\sm 0/\((!b34_)=z35_)/\(s0=s0)/\sm s1p/\sm s1n/\sm s1c/\sm s2p/\sm s2n/\sm s2c/\(s3=s3)/\sm s4p/\sm s4n/\sm s4c/\sm s5p/\sm s5n/\sm s5c/\(s6=s6)/\(s7=s7)/\((none:OA)=none)/\sm 0/\sm 0/\((none:OA)=none)/\sm 0/\sm 0/\((none:OA)=none)/\sm 0/\sm 0/\((none:OA)=none)/\sm 0/\sm 0)/\I1_ z35_ V28)))/\((!s7)=false->(∃z36_:Bool,(sm 0/\sm 0/\(false=z36_)/\(s0=s0)/\sm s1p/\sm s1n/\sm s1c/\sm s2p/\sm s2n/\sm s2c/\(s3=s3)/\sm s4p/\sm s4n/\sm s4c/\sm s5p/\sm s5n/\sm s5c/\(s6=s6)/\(s7=s7)/\((none:OA)=none)/\sm 0/\sm 0/\((none:OA)=none)/\sm 0/\sm 0/\((none:OA)=none)/\sm 0/\sm 0/\((none:OA)=none)/\sm 0/\sm 0)/\I1_ z36_ V26)))))))/\(s7=false->(((!s7)=true->(∀V29,V.Le V29->Acts prog 137 #[.agg #[.bool s3,.slice s4p s4n s4c,.slice s5p s5n s5c]] V29 fun r29_ V30=>∃b37_,r29_=.bool b37_/\(∃z38_:Bool,(sm 0/\sm 0/\((!b37_)=z38_)/\(s0=s0)/\sm s1p/\sm s1n/\sm s1c/\sm s2p/\sm s2n/\sm s2c/\(s3=s3)/\sm s4p/\sm s4n/\sm s4c/\sm s5p/\sm s5n/\sm s5c/\(s6=s6)/\(s7=s7)/\((none:OA)=none)/\sm 0/\sm 0/\((none:OA)=none)/\sm 0/\sm 0/\((none:OA)=none)/\sm 0/\sm 0/\((none:OA)=none)/\sm 0/\sm 0)/\I1_ z38_ V30)))/\((!s7)=false->(∃z39_:Bool,(sm 0/\sm 0/\(false=z39_)/\(s0=s0)/\sm s1p/\sm s1n/\sm s1c/\sm s2p/\sm s2n/\sm s2c/\(s3=s3)/\sm s4p/\sm s4n/\sm s4c/\sm s5p/\sm s5n/\sm s5c/\(s6=s6)/\(s7=s7)/\((none:OA)=none)/\sm 0/\sm 0/\((none:OA)=none)/\sm 0/\sm 0/\((none:OA)=none)/\sm 0/\sm 0/\((none:OA)=none)/\sm 0/\sm 0)/\I1_ z39_ V)))))))))/\∀(z40_:Bool) (V31:View),V.Le V31->I1_ z40_ V31->(true=true/\((z40_=true->(∀V32,V31.Le V32->R (.tuple #[.agg #[.bool false,.slice none 0 0,.slice none 0 0,.bool false,.slice none 0 0,.slice none 0 0,.bool false,.bool false],.bool false]) V32))/\(z40_=false->(∀V33,V31.Le V33->Acts prog 79 #[.agg #[.bool s0,.slice s1p s1n s1c,.slice s2p s2n s2c]] V33 fun r33_ V34=>∃b41_,∃p42_ n42_ c42_,∃p43_ n43_ c43_,r33_=.agg #[.bool b41_,.slice p42_ n42_ c42_,.slice p43_ n43_ c43_]/\(∀V35,V34.Le V35->Acts prog 79 #[.agg #[.bool s3,.slice s4p s4n s4c,.slice s5p s5n s5c]] V35 fun r35_ V36=>∃b44_,∃p45_ n45_ c45_,∃p46_ n46_ c46_,r35_=.agg #[.bool b44_,.slice p45_ n45_ c45_,.slice p46_ n46_ c46_]/\((s6=true->(∀V37,V36.Le V37->R (.tuple #[.agg #[.bool b41_,.slice p42_ n42_ c42_,.slice p43_ n43_ c43_,.bool b44_,.slice p45_ n45_ c45_,.slice p46_ n46_ c46_,.bool s6,.bool s7],.bool true]) V37))/\(s6=false->((s7=true->(∀V38,V36.Le V38->R (.tuple #[.agg #[.bool b41_,.slice p42_ n42_ c42_,.slice p43_ n43_ c43_,.bool b44_,.slice p45_ n45_ c45_,.slice p46_ n46_ c46_,.bool s6,.bool s7],.bool true]) V38))/\(s7=false->(∀V39,V36.Le V39->Acts prog 129 #[.agg #[.bool b41_,.slice p42_ n42_ c42_,.slice p43_ n43_ c43_],.agg #[.bool b44_,.slice p45_ n45_ c45_,.slice p46_ n46_ c46_]] V39 fun r39_ V40=>∃x47_,r39_=.int .i64 x47_/\(∀V41,V40.Le V41->R (.tuple #[.agg #[.bool b41_,.slice p42_ n42_ c42_,.slice p43_ n43_ c43_,.bool b44_,.slice p45_ n45_ c45_,.slice p46_ n46_ c46_,.bool s6,.bool s7],.bool (decide (x47_ < (0:Int)))]) V41))))))))))))) :
  Acts prog 76 #[.agg #[.bool s0,.slice s1p s1n s1c,.slice s2p s2n s2c,.bool s3,.slice s4p s4n s4c,.slice s5p s5n s5c,.bool s6,.bool s7]] V R:=
 fn_does (LF:=LF0) (RF:=[1000007]) (β0:=(fun _=>0)) tab_ok mixed [] [(600001,{ τ:=Bool,keep:=[1,2],keepB:=[1,2],slots:=fun z=>[(44,.c (.v (.bool z)))],boxes:=fun z=>[] })] func76 (by kernel_rfl)
  [(0,.agg [.v (.bool s0),.v (.slice s1p s1n s1c),.v (.slice s2p s2n s2c),.v (.bool s3),.v (.slice s4p s4n s4c),.v (.slice s5p s5n s5c),.v (.bool s6),.v (.bool s7)])]
  [] (by kernel_rfl) trivial h (by kernel_rfl)
theorem vc_ref06_ReadF (f0:Bool) (f1p:OA) (f1n f1c:Nat) (f2:Bool) (f3p:OA) (f3n f3c:Nat) (f4:Bool) (f5p:OA) (f5n f5c:Nat) (f6:Bool) (f7p:OA) (f7n f7c:Nat) (f8p:OA) (f8n f8c:Nat) (f9:Bool) (f10p:OA) (f10n f10c:Nat) (f11p:OA) (f11n f11c:Nat) (f12:Bool) (f13:Bool) (V:View) (R:Value->View->Prop)
  (h:(∀V1,V.Le V1->Acts prog 75 #[.agg #[.bool f0,.slice f1p f1n f1c,.bool f2,.slice f3p f3n f3c,.bool f4,.slice f5p f5n f5c]] V1 fun r1_ V2=>∃b1_,∃p2_ n2_ c2_,∃b3_,∃p4_ n4_ c4_,∃b5_,∃p6_ n6_ c6_,∃b7_,r1_=.tuple #[.agg #[.bool b1_,.slice p2_ n2_ c2_,.bool b3_,.slice p4_ n4_ c4_,.bool b5_,.slice p6_ n6_ c6_],.bool b7_]/\(∀V3,V2.Le V3->Acts prog 76 #[.agg #[.bool f6,.slice f7p f7n f7c,.slice f8p f8n f8c,.bool f9,.slice f10p f10n f10c,.slice f11p f11n f11c,.bool f12,.bool f13]] V3 fun r3_ V4=>∃b8_,∃p9_ n9_ c9_,∃p10_ n10_ c10_,∃b11_,∃p12_ n12_ c12_,∃p13_ n13_ c13_,∃b14_,∃b15_,∃b16_,r3_=.tuple #[.agg #[.bool b8_,.slice p9_ n9_ c9_,.slice p10_ n10_ c10_,.bool b11_,.slice p12_ n12_ c12_,.slice p13_ n13_ c13_,.bool b14_,.bool b15_],.bool b16_]/\((b7_=true->(∀V5,V4.Le V5->R (.tuple #[.agg #[.bool b1_,.slice p2_ n2_ c2_,.bool b3_,.slice p4_ n4_ c4_,.bool b5_,.slice p6_ n6_ c6_,.bool b8_,.slice p9_ n9_ c9_,.slice p10_ n10_ c10_,.bool b11_,.slice p12_ n12_ c12_,.slice p13_ n13_ c13_,.bool b14_,.bool b15_],.bool b16_]) V5))/\(b7_=false->(∀V6,V4.Le V6->R (.tuple #[.agg #[.bool b1_,.slice p2_ n2_ c2_,.bool b3_,.slice p4_ n4_ c4_,.bool b5_,.slice p6_ n6_ c6_,.bool b8_,.slice p9_ n9_ c9_,.slice p10_ n10_ c10_,.bool b11_,.slice p12_ n12_ c12_,.slice p13_ n13_ c13_,.bool b14_,.bool b15_],.bool false]) V6)))))) :
  Acts prog 29 #[.agg #[.bool f0,.slice f1p f1n f1c,.bool f2,.slice f3p f3n f3c,.bool f4,.slice f5p f5n f5c,.bool f6,.slice f7p f7n f7c,.slice f8p f8n f8c,.bool f9,.slice f10p f10n f10c,.slice f11p f11n f11c,.bool f12,.bool f13]] V R:=
 fn_does (LF:=LF0) (RF:=[1000007]) (β0:=(fun _=>0)) tab_ok mixed [] [] func29 (by kernel_rfl)
  [(0,.agg [.v (.bool f0),.v (.slice f1p f1n f1c),.v (.bool f2),.v (.slice f3p f3n f3c),.v (.bool f4),.v (.slice f5p f5n f5c),.v (.bool f6),.v (.slice f7p f7n f7c),.v (.slice f8p f8n f8c),.v (.bool f9),.v (.slice f10p f10n f10c),.v (.slice f11p f11n f11c),.v (.bool f12),.v (.bool f13)])]
  [] (by kernel_rfl) trivial h (by kernel_rfl)
end Go.Proofs.Tryz
/- Contracts: the reference reads numbers, points, lines, spans, fragments of package api in any form. -/
namespace Go.Proofs.Tryz
open Go.Eng Go.Big
theorem c_zero_raw {V:View} {v:Value} {b:Bool} {xs ys:List Nat} (h:RRw V v b xs ys):Acts prog 136 #[v] V fun r V'=>r=.bool (zerQ b xs ys):=by
 obtain ⟨p,n,c,q,m,e,rfl,hx,hy⟩:=h
 have hl:=hx.len
 have hl':=hy.len
 refine vc_ref06_zero b p n c q m e V _ ⟨fun h=>⟨fun h1 V1 l1=>?_,fun h1 V2 l2=>?_⟩,fun h V3 l3=>?_⟩
 ·have e1:xs=[]:=by
   have h:((n:Nat):Int)=0:=by simpa using h1
   exact List.length_eq_zero_iff.1 (by omega)
  have e2:(((m:Nat):Int) == 0)=decide (ys=[]):=by
   rw [Bool.eq_iff_iff,beq_iff_eq,decide_eq_true_eq,← List.length_eq_zero_iff]; omega
  rw [Bool.not_eq_true'] at h
  simp [zerQ,h,e1,← e2]
 ·have e1:xs≠[]:=fun e=>by
   have h:¬ ((n:Nat):Int)=0:=by simpa using h1
   rw [e] at hl; exact h (by simp at hl; omega)
  simp [zerQ,e1]
 ·rw [Bool.not_eq_false'] at h
  simp [zerQ,h]
theorem c_ref01_N {V:View} {p:OA} {n c:Nat} {ds:List Nat} (h:RD V p n c ds) (hm:ds.length<=1099511627776) :
  Acts prog 138 #[.slice p n c] V fun r V'=>∃p1 n1 c1,r=.slice p1 n1 c1/\RN V' p1 n1 c1 (val ds):=by
 have hl:=h.len
 refine vc_ref01_N p n c V _ ⟨u32s ds,h.sl,by simp [hl],by omega,by omega,by simp,by simp [hl],?_,?_⟩
 ·intro v hv
  simp only [u32s,List.mem_map] at hv
  obtain ⟨d,-,rfl⟩:=hv
  rfl
 ·intro bk J sp c' h1 h2 V1 l1 b hb
  simp only [Nat.zero_add,Nat.zero_mul,List.take_zero,List.nil_append] at hb h1 ⊢
  refine (c_num_Trim (copied h.dig hl h1 hb) (by omega)).mono ?_
  rintro r V2 l2 ⟨k,rfl,g⟩
  rw [trimD_eq h.dig] at g
  exact ⟨_,_,_,rfl,fun J' V3 l3=>⟨_,_,_,rfl,g.le l3⟩⟩
theorem c_ref01_I {V:View} (b:Bool) {p:OA} {n c:Nat} {ds:List Nat} (h:RD V p n c ds) (hm:ds.length<=1099511627776) :
  Acts prog 132 #[.agg #[.bool b,.slice p n c]] V fun r V'=>RI V' r (ival b ds):=by
 refine vc_ref01_I b p n c V _ fun V1 l1=>(c_ref01_N (h.le l1) hm).mono ?_
 rintro r V2 l2 ⟨p1,n1,c1,rfl,g⟩
 refine ⟨_,_,_,rfl,fun V3 l3=>(c_num_Make b (g.le l3)).mono ?_⟩
 rintro r V4 l4 ⟨p2,n2,c2,rfl,g2⟩
 exact ⟨_,_,_,_,rfl,fun V5 l5=>⟨_,_,_,rfl,g2.le l5⟩⟩
theorem ival_len {b:Bool} {ds:List Nat} (h:Dig ds):(digs (ival b ds).natAbs).length<=ds.length:=by
 rw [ival_natAbs]; exact digs_val_len h
theorem c_ref01_Q {V:View} {v:Value} {b:Bool} {xs ys:List Nat} (h:RRw V v b xs ys) (m1:xs.length<=274877906944) (m2:ys.length<=274877906944) :
  Acts prog 79 #[v] V fun r V'=>RQ V' r (rawQ b xs ys):=by
 obtain ⟨p,n,c,q,m,e,rfl,hx,hy⟩:=h
 have d1:=ival_len (b:=b) hx.dig
 have d2:=digs_val_len hy.dig
 refine vc_ref01_Q b p n c q m e V _ fun V1 l1=>(c_ref01_N (hy.le l1) (by omega)).mono ?_
 rintro r V2 l2 ⟨p1,n1,c1,rfl,g⟩
 have gl:=g.len
 refine ⟨_,_,_,rfl,fun h0 V3 l3=>?_,fun h0 V4 l4=>(c_ref01_I b (hx.le (l1.trans (l2.trans l4))) (by omega)).mono ?_⟩
 ·have h0:((n1:Nat):Int)=0:=by simpa using h0
  have:digs (val ys)=[]:=List.length_eq_zero_iff.1 (by omega)
  have:val ys=0:=digs_eq_nil.1 this
  unfold rawQ
  rw [this,Rat.mkRat_zero]
  have:=RQ.zero (V:=V3)
  simpa using this
 ·have hd:val ys≠0:=fun e=>by
   rw [e] at gl
   have h0:¬ ((n1:Nat):Int)=0:=by simpa using h0
   exact h0 (by rw [gl]; rfl)
  rintro r V5 l5 ⟨p2,n2,c2,rfl,g2⟩
  refine ⟨_,_,_,_,rfl,fun V6 l6=>(c_num_Frac _ (g2.le l6) (g.le (l4.trans (l5.trans l6))) (by omega) (by omega) hd).mono ?_⟩
  rintro r V7 l7 k
  have k0:=k
  obtain ⟨_,_,_,_,_,_,rfl⟩:=k.shape
  exact ⟨_,_,_,_,_,_,_,rfl,fun V8 l8=>k0.le l8⟩
theorem c_ref01_NormalN {V:View} {p:OA} {n c:Nat} {ds:List Nat} (h:RD V p n c ds) (hm:ds.length<=1099511627776) :
  Acts prog 177 #[.slice p n c] V fun r V'=>r=.bool (decide (digs (val ds)=ds)):=by
 have hl:=h.len
 refine vc_ref01_NormalN p n c V _ ⟨fun h0 V1 l1=>?_,fun h0=>?_⟩
 ·have:ds=[]:=List.length_eq_zero_iff.1 (by simp at h0; omega)
  subst this; rfl
 ·have h0:0 < n:=by simp at h0; omega
  simp (disch:=omega) only [i64w]
  refine h.rd (n - 1) (by omega) (by omega) fun V1 l1=>?_
  congr 1
  rw [Bool.eq_iff_iff]
  simp only [bne_iff_ne,ne_eq,decide_eq_true_eq]
  subst hl
  constructor
  ·intro hz
   exact digs_val h.dig (nrm_of_last fun _=>by simpa using hz)
  ·intro he hz
   have:Nrm ds:=by rw [← he]; exact nrm_digs _
   exact this.last (by omega) (by simpa using hz)
theorem c_ref01_NormalI {V:View} (b:Bool) {p:OA} {n c:Nat} {ds:List Nat} (h:RD V p n c ds) (hm:ds.length<=1099511627776) :
  Acts prog 131 #[.agg #[.bool b,.slice p n c]] V fun r V'=>r=.bool (NrmI b ds):=by
 have hl:=h.len
 refine vc_ref01_NormalI b p n c V _ fun V1 l1=>(c_ref01_NormalN (h.le l1) hm).mono ?_
 rintro r V2 l2 rfl
 refine ⟨_,rfl,fun h1=>⟨fun h2 V3 l3=>?_,fun h2 V4 l4=>?_⟩,fun h1 V5 l5=>?_⟩
 ·rw [Bool.not_eq_true'] at h2
  simp [NrmI,h1,h2]
 ·rw [Bool.not_eq_false'] at h2
  have e:decide (((n:Nat):Int) > 0)=!decide (ds=[]):=by
   rw [Bool.eq_iff_iff,decide_eq_true_eq,Bool.not_eq_true',decide_eq_false_iff_not,← List.length_eq_zero_iff]; omega
  rw [e]
  simp [NrmI,h1,h2]
 ·simp [NrmI,h1]
/-- A number in any form, held against one in normal form. -/
theorem c_SameQ_raw {V:View} {v w:Value} {b:Bool} {xs ys:List Nat} {q:Rat} (h:RRw V v b xs ys) (h':RA V w q) (m1:xs.length<=1099511627776) (m2:ys.length<=1099511627776) :
  Acts prog 63 #[v,w] V fun r V'=>r=.bool (decide (b=decide (q.num < 0)) && decide (xs=digs q.num.natAbs) && decide (ys=digs q.den)):=by
 obtain ⟨p,n,c,p',n',c',rfl,hx,hy⟩:=h
 obtain ⟨o,m,e,o',m',e',rfl,gx,gy⟩:=h'
 have hI:∀V1:View,V.Le V1->Acts prog 114 #[.agg #[.bool b,.slice p n c],.agg #[.bool (decide (q.num < 0)),.slice o m e]] V1 fun r V'=>r=.bool (decide (b=decide (q.num < 0)) && decide (xs=digs q.num.natAbs)):=by
  intro V1 l1
  refine vc_ref01_SameI b p n c _ o m e V1 _ ⟨fun h0 V2 l2=>(c_ref01_SameN (hx.le (l1.trans l2)) (gx.le (l1.trans l2)) m1).mono ?_,fun h0 V3 l3=>?_⟩
  ·rintro r V3 l3 rfl
   exact ⟨_,rfl,fun V4 l4=>by rw [beq_iff_eq] at h0; simp [h0]⟩
  ·rw [beq_eq_false_iff_ne] at h0
   simp [h0]
 refine vc_ref01_SameQ _ _ _ _ _ _ _ _ _ _ _ _ _ _ V _ fun V1 l1=>(hI V1 l1).mono ?_
 rintro r V2 l2 rfl
 refine ⟨_,rfl,fun h1 V3 l3=>(c_ref01_SameN (hy.le (l1.trans (l2.trans l3))) (gy.le (l1.trans (l2.trans l3))) m2).mono ?_,fun h1 V6 l6=>by rw [h1]; rfl⟩
 rintro r V4 l4 rfl
 exact ⟨_,rfl,fun V5 l5=>by rw [h1]; rfl⟩
theorem nrmQ_iff {b:Bool} {xs ys:List Nat}:nrmQ b xs ys=(decide (b=decide ((rawQ b xs ys).num < 0)) && decide (xs=digs (rawQ b xs ys).num.natAbs) && decide (ys=digs (rawQ b xs ys).den) && !decide (ys=[])):=by
 rw [Bool.eq_iff_iff]
 constructor
 ·intro h
  unfold nrmQ NrmI at h
  simp only [Bool.and_eq_true,decide_eq_true_eq,Bool.not_eq_true',decide_eq_false_iff_not,Bool.or_eq_true] at h
  obtain ⟨⟨⟨⟨h1,h2⟩,h3⟩,h4⟩,h5⟩:=h
  have hd:val ys≠0:=fun e=>h4 (by rw [← h3,e]; rfl)
  obtain ⟨e1,e2⟩:=mkRat_low (z:=ival b xs) (d:=val ys) hd (by rw [ival_natAbs]; exact h5)
  have e1:(rawQ b xs ys).num=ival b xs:=e1
  have e2:(rawQ b xs ys).den=val ys:=e2
  rw [e1,e2,ival_natAbs,h1,h3]
  have hb:b=decide (ival b xs < 0):=by
   cases b with
   | false=>simp [ival]
   | true=>
    have:xs≠[]:=by simpa using h2
    have:val xs≠0:=fun e=>this (by rw [← h1,e]; rfl)
    simp [ival]
    omega
  simp [← hb,h4]
 ·intro h
  simp only [Bool.and_eq_true,decide_eq_true_eq,Bool.not_eq_true',decide_eq_false_iff_not] at h
  obtain ⟨⟨⟨h1,h2⟩,h3⟩,h4⟩:=h
  have:=(nrm_gcd (q:=rawQ b xs ys)).1
  rwa [← h1,← h2,← h3] at this
theorem sz_of_len {b:Bool} {xs ys:List Nat} (hx:Dig xs) (hy:Dig ys) {k:Nat} (h1:xs.length<=k) (h2:ys.length<=k):Sz (32 * k + 1) (rawQ b xs ys):=by
 have b1:∀{ds:List Nat},Dig ds->ds.length<=k->val ds < 2 ^ (32 * k):=by
  intro ds hd hl
  have:=val_lt hd
  refine Nat.lt_of_lt_of_le this ?_
  have e:(4294967296:Nat) ^ ds.length<=4294967296 ^ k:=Nat.pow_le_pow_right (by omega) hl
  refine Nat.le_trans e ?_
  rw [show (4294967296:Nat)=2 ^ 32 from rfl,← Nat.pow_mul]
  exact Nat.le_refl _
 have c1:=b1 hx h1
 have c2:=b1 hy h2
 have up:(2:Nat) ^ (32 * k)<=2 ^ (32 * k + 1):=Nat.pow_le_pow_right (by omega) (by omega)
 have one:1 < 2 ^ (32 * k + 1):=Nat.one_lt_two_pow (by omega)
 unfold rawQ
 by_cases h0:val ys=0
 ·rw [h0,Rat.mkRat_zero]
  exact ⟨by show (0:Int).natAbs < _; omega,one⟩
 ·unfold Sz
  rw [Rat.num_mkRat,Rat.den_mkRat,if_neg h0,if_neg h0]
  constructor
  ·refine Nat.lt_of_le_of_lt ?_ (Nat.lt_of_lt_of_le c1 up)
   refine Nat.le_trans (Int.natAbs_ediv_le_natAbs _ _) ?_
   rw [ival_natAbs]
   exact Nat.le_refl _
  ·exact Nat.lt_of_le_of_lt (Nat.div_le_self _ _) (Nat.lt_of_lt_of_le c2 up)
theorem c_NormalQ_raw {V:View} {v:Value} {b:Bool} {xs ys:List Nat} (h:RRw V v b xs ys) (m1:xs.length<=1000000) (m2:ys.length<=1000000) :
  Acts prog 137 #[v] V fun r V'=>r=.bool (nrmQ b xs ys):=by
 have h0:=h
 obtain ⟨p,n,c,q,m,e,rfl,hx,hy⟩:=h
 have hl:=hy.len
 obtain ⟨K,hK⟩:∃K:Nat,K=32 * 1000000 + 1:=⟨_,rfl⟩
 have sq:Sz K (rawQ b xs ys):=by rw [hK]; exact sz_of_len hx.dig hy.dig m1 m2
 refine vc_ref01_NormalQ b p n c q m e V _ fun V1 l1=>(c_ref01_Q (h0.le l1) (by omega) (by omega)).mono ?_
 rintro r V2 l2 g
 have g0:=g
 obtain ⟨_,_,_,_,_,_,rfl⟩:=g.shape
 refine ⟨_,_,_,_,_,_,_,rfl,fun V3 l3=>(c_ref01_ToQ (g0.le l3) sq (by omega)).mono ?_⟩
 rintro r V4 l4 k
 have k0:=k
 obtain ⟨_,_,_,_,_,_,_,rfl⟩:=k.shape
 refine ⟨_,_,_,_,_,_,_,rfl,fun V5 l5=>(c_SameQ_raw (h0.le (l1.trans (l2.trans (l3.trans (l4.trans l5))))) (k0.le l5) (by omega) (by omega)).mono ?_⟩
 rintro r V6 l6 rfl
 have e:decide (((m:Nat):Int) > 0)=!decide (ys=[]):=by
  rw [Bool.eq_iff_iff,decide_eq_true_eq,Bool.not_eq_true',decide_eq_false_iff_not,← List.length_eq_zero_iff]; omega
 refine ⟨_,rfl,fun h1 V7 l7=>?_,fun h1 V8 l8=>?_⟩
 ·rw [e,nrmQ_iff,h1,Bool.true_and]
 ·rw [nrmQ_iff,h1,Bool.false_and]
/-- A line of package api in any form. -/
def RLw (V:View) (v:Value) (b1:Bool) (xs:List Nat) (b2:Bool) (ys:List Nat) (b3:Bool) (zs:List Nat):Prop:=∃p n c q m e s i j,v=.agg #[.bool b1,.slice p n c,.bool b2,.slice q m e,.bool b3,.slice s i j]/\RD V p n c xs/\RD V q m e ys/\RD V s i j zs
theorem RLw.le {V V':View} {v:Value} {b1:Bool} {xs:List Nat} {b2:Bool} {ys:List Nat} {b3:Bool} {zs:List Nat} (h:RLw V v b1 xs b2 ys b3 zs) (l:V.Le V'):RLw V' v b1 xs b2 ys b3 zs:=by
 obtain ⟨p,n,c,q,m,e,s,i,j,rfl,h1,h2,h3⟩:=h
 exact ⟨_,_,_,_,_,_,_,_,_,rfl,h1.le l,h2.le l,h3.le l⟩
/-- The shape of a line of integers. -/
def LSh (v:Value):Prop:=∃b1 p1 n1 c1 b2 p2 n2 c2 b3 p3 n3 c3,v=.agg #[.bool b1,.slice p1 n1 c1,.bool b2,.slice p2 n2 c2,.bool b3,.slice p3 n3 c3]
def lnW (b1:Bool) (xs:List Nat) (b2:Bool) (ys:List Nat) (b3:Bool) (zs:List Nat):L3:=(ival b1 xs,ival b2 ys,ival b3 zs)
theorem okLn_iff {b1:Bool} {xs:List Nat} {b2:Bool} {ys:List Nat} {b3:Bool} {zs:List Nat}:okLn b1 xs b2 ys b3 zs=(NrmI b1 xs && NrmI b2 ys && NrmI b3 zs && okL (lnW b1 xs b2 ys b3 zs)):=by
 have e:=okLn_okL (a:=ival b1 xs) (b:=ival b2 ys) (c:=ival b3 zs)
 have hn:∀z:Int,NrmI (decide (z < 0)) (digs z.natAbs)=true:=by
  intro z
  unfold NrmI
  rw [val_digs]
  by_cases h:z < 0
  ·have:digs z.natAbs≠[]:=fun e=>by have:=digs_eq_nil.1 e; omega
   simp [h,this]
  ·simp [h]
 unfold okLn at e ⊢
 rw [hn,hn,hn,ival_digs,ival_digs,ival_digs] at e
 simp only [Bool.true_and] at e
 unfold lnW
 rw [← e]
 simp only [Bool.and_assoc]
theorem c_ref04_Ln {V:View} {v:Value} {b1:Bool} {xs:List Nat} {b2:Bool} {ys:List Nat} {b3:Bool} {zs:List Nat} (h:RLw V v b1 xs b2 ys b3 zs) (m1:xs.length<=1000000) (m2:ys.length<=1000000) (m3:zs.length<=1000000) :
  Acts prog 75 #[v] V fun r V'=>∃w,r=.tuple #[w,.bool (okLn b1 xs b2 ys b3 zs)]/\LSh w/\(okLn b1 xs b2 ys b3 zs=true->RL V' w (ival b1 xs) (ival b2 ys) (ival b3 zs)):=by
 obtain ⟨p,n,c,q,m,e,s,i,j,rfl,hx,hy,hz⟩:=h
 have d1:=ival_len (b:=b1) hx.dig
 have d2:=ival_len (b:=b2) hy.dig
 have d3:=ival_len (b:=b3) hz.dig
 have bad:∀{V':View},okLn b1 xs b2 ys b3 zs=false->∃w,Value.tuple #[.agg #[.bool false,.slice none 0 0,.bool false,.slice none 0 0,.bool false,.slice none 0 0],.bool false]=.tuple #[w,.bool (okLn b1 xs b2 ys b3 zs)]/\LSh w/\(okLn b1 xs b2 ys b3 zs=true->RL V' w (ival b1 xs) (ival b2 ys) (ival b3 zs)):=fun h=>by
  rw [h]; exact ⟨_,rfl,⟨_,_,_,_,_,_,_,_,_,_,_,_,rfl⟩,(fun h=>nomatch h)⟩
 refine vc_ref04_Ln b1 p n c b2 q m e b3 s i j V _ fun V1 l1=>(c_ref01_NormalI b1 (hx.le l1) (by omega)).mono ?_
 rintro r V2 l2 rfl
 refine ⟨_,rfl,fun h1 V3 l3=>bad (by rw [Bool.not_eq_true'] at h1; rw [okLn_iff]; simp [h1]),fun h1 V4 l4=>(c_ref01_NormalI b2 (hy.le (l1.trans (l2.trans l4))) (by omega)).mono ?_⟩
 rintro r V5 l5 rfl
 refine ⟨_,rfl,fun h2 V6 l6=>bad (by rw [Bool.not_eq_true'] at h2; rw [okLn_iff]; simp [h2]),fun h2 V7 l7=>?_⟩
 have L7:V.Le V7:=l1.trans (l2.trans (l4.trans (l5.trans l7)))
 refine (c_ref01_NormalI b3 (hz.le L7) (by omega)).mono ?_
 rintro r V8 l8 rfl
 refine ⟨_,rfl,fun h3 V9 l9=>bad (by rw [Bool.not_eq_true'] at h3; rw [okLn_iff]; simp [h3]),fun h3 V10 l10=>?_⟩
 rw [Bool.not_eq_false'] at h1 h2 h3
 have L10:V.Le V10:=L7.trans (l8.trans l10)
 refine (c_ref01_I b1 (hx.le L10) (by omega)).mono ?_
 rintro r V11 l11 ⟨pa,na,ca,rfl,ga⟩
 refine ⟨_,_,_,_,rfl,fun V12 l12=>(c_ref01_I b2 (hy.le (L10.trans (l11.trans l12))) (by omega)).mono ?_⟩
 rintro r V13 l13 ⟨pb,nb,cb,rfl,gb⟩
 refine ⟨_,_,_,_,rfl,fun V14 l14=>(c_ref01_I b3 (hz.le (L10.trans (l11.trans (l12.trans (l13.trans l14))))) (by omega)).mono ?_⟩
 rintro r V15 l15 ⟨pc,nc,cc,rfl,gc⟩
 refine ⟨_,_,_,_,rfl,fun V16 l16=>(c_num_Common (x:=(ival b1 xs).natAbs) (y:=(ival b2 ys).natAbs) (ga.le (l12.trans (l13.trans (l14.trans (l15.trans l16))))) (gb.le (l14.trans (l15.trans l16))) (by omega) (by omega)).mono ?_⟩
 rintro r V17 l17 ⟨pg,ng,cg,rfl,gg⟩
 have hg:=gg.len
 have lgl:(digs (Nat.gcd (ival b1 xs).natAbs (ival b2 ys).natAbs)).length<=274877906944:=by
  by_cases h0:(ival b1 xs).natAbs=0
  ·rw [h0,Nat.gcd_zero_left]; omega
  ·have:=digs_len_mono (Nat.gcd_le_left (ival b2 ys).natAbs (Nat.pos_of_ne_zero h0)); omega
 have ok:okLn b1 xs b2 ys b3 zs=okL (lnW b1 xs b2 ys b3 zs):=by rw [okLn_iff,h1,h2,h3]; rfl
 have rl:∀V':View,V17.Le V'->RL V' (.agg #[.bool (decide (ival b1 xs < 0)),.slice pa na ca,.bool (decide (ival b2 ys < 0)),.slice pb nb cb,.bool (decide (ival b3 zs < 0)),.slice pc nc cc]) (ival b1 xs) (ival b2 ys) (ival b3 zs):=fun V' l'=>
  ⟨_,_,_,_,_,_,_,_,_,rfl,ga.le (l12.trans (l13.trans (l14.trans (l15.trans (l16.trans (l17.trans l')))))),gb.le (l14.trans (l15.trans (l16.trans (l17.trans l')))),gc.le (l16.trans (l17.trans l'))⟩
 have zg:(Nat.gcd (ival b1 xs).natAbs (ival b2 ys).natAbs=0)↔(ival b1 xs=0/\ival b2 ys=0):=by rw [Nat.gcd_eq_zero_iff]; omega
 have lenz:ng=0↔(ival b1 xs=0/\ival b2 ys=0):=by
  rw [← zg,← @digs_eq_nil (Nat.gcd (ival b1 xs).natAbs (ival b2 ys).natAbs),← List.length_eq_zero_iff]; omega
 refine ⟨_,_,_,rfl,fun hp V18 l18=>?_,fun hp V25 l25=>?_⟩
 ·have hp:¬ ng=0:=by have:=of_decide_eq_true hp; omega
  rw [lenz] at hp
  refine (c_num_Common (x:=Nat.gcd (ival b1 xs).natAbs (ival b2 ys).natAbs) (y:=(ival b3 zs).natAbs) (gg.le l18) (gc.le (l16.trans (l17.trans l18))) lgl (by omega)).mono ?_
  rintro r V19 l19 ⟨ph,nh,ch,rfl,gh⟩
  refine ⟨_,_,_,rfl,fun V20 l20=>c_num_One.mono ?_⟩
  rintro r V21 l21 ⟨po,no,co,rfl,go⟩
  have lg3:(digs (Nat.gcd (Nat.gcd (ival b1 xs).natAbs (ival b2 ys).natAbs) (ival b3 zs).natAbs)).length<=1099511627776:=by
   have:=digs_len_mono (Nat.gcd_le_left (ival b3 zs).natAbs (Nat.pos_of_ne_zero fun e=>hp (zg.1 e))); omega
  refine ⟨_,_,_,rfl,fun V22 l22=>(c_num_Cmp (x:=Nat.gcd (Nat.gcd (ival b1 xs).natAbs (ival b2 ys).natAbs) (ival b3 zs).natAbs) (y:=1) (gh.le (l20.trans (l21.trans l22))) (go.le l22) lg3 (by decide)).mono ?_⟩
  rintro r V23 l23 rfl
  have e1:(cmpN (Nat.gcd (Nat.gcd (ival b1 xs).natAbs (ival b2 ys).natAbs) (ival b3 zs).natAbs) 1 == 0)=okL (lnW b1 xs b2 ys b3 zs):=by
   unfold okL lnW gcd3
   dsimp only
   rw [decide_eq_true hp,Bool.true_and]
   rw [Bool.eq_iff_iff,beq_iff_eq,decide_eq_true_eq]
   exact cmpN_zero
  refine ⟨_,rfl,fun V24 l24=>⟨_,by rw [ok,← e1],⟨_,_,_,_,_,_,_,_,_,_,_,_,rfl⟩,fun _=>rl V24 (l18.trans (l19.trans (l20.trans (l21.trans (l22.trans (l23.trans l24))))))⟩⟩
 ·have hp:ng=0:=by have:=of_decide_eq_false hp; omega
  rw [lenz] at hp
  have e1:okL (lnW b1 xs b2 ys b3 zs)=false:=by unfold okL lnW; simp [hp.1,hp.2]
  exact ⟨_,by rw [ok,e1],⟨_,_,_,_,_,_,_,_,_,_,_,_,rfl⟩,fun h=>by rw [ok,e1] at h; cases h⟩
/-- The shape of a span of the reference. -/
def SpSh (v:Value):Prop:=∃b p n c p' n' c' d q m e q' m' e' b1 b2,v=.agg #[.bool b,.slice p n c,.slice p' n' c',.bool d,.slice q m e,.slice q' m' e',.bool b1,.bool b2]
theorem endQ_raw {b:Bool} {xs ys:List Nat} {no:Bool} (h:endOk b xs ys no=true):endQ b xs ys no=rawQ b xs ys:=by
 cases no with
 | false=>rfl
 | true=>
  have h:zerQ b xs ys=true:=h
  unfold zerQ at h
  simp only [Bool.and_eq_true,decide_eq_true_eq] at h
  obtain ⟨⟨h1,rfl⟩,rfl⟩:=h
  show (0:Rat)=mkRat _ (val [])
  rw [show val []=0 from rfl,Rat.mkRat_zero]
theorem c_ref06_Read {V:View} {v:Value} {b1:Bool} {xs1 ys1:List Nat} {b2:Bool} {xs2 ys2:List Nat} {na nb:Bool} (h:RSw V v b1 xs1 ys1 b2 xs2 ys2 na nb) (m1:xs1.length<=1000000) (m2:ys1.length<=1000000) (m3:xs2.length<=1000000) (m4:ys2.length<=1000000) :
  Acts prog 76 #[v] V fun r V'=>∃w,r=.tuple #[w,.bool (okW b1 xs1 ys1 b2 xs2 ys2 na nb)]/\SpSh w/\(okW b1 xs1 ys1 b2 xs2 ys2 na nb=true->RSs V' w (spW b1 xs1 ys1 b2 xs2 ys2 na nb)):=by
 obtain ⟨p,n,c,p',n',c',q,m,e,q',m',e',rfl,h1,h2⟩:=h
 have hd1:Dig xs1/\Dig ys1:=by obtain ⟨_,_,_,_,_,_,-,g1,g2⟩:=h1; exact ⟨g1.dig,g2.dig⟩
 have hd2:Dig xs2/\Dig ys2:=by obtain ⟨_,_,_,_,_,_,-,g1,g2⟩:=h2; exact ⟨g1.dig,g2.dig⟩
 obtain ⟨K,hK⟩:∃K:Nat,K=32 * 1000000 + 1:=⟨_,rfl⟩
 have s1:Sz K (rawQ b1 xs1 ys1):=by rw [hK]; exact sz_of_len hd1.1 hd1.2 m1 m2
 have s2:Sz K (rawQ b2 xs2 ys2):=by rw [hK]; exact sz_of_len hd2.1 hd2.2 m3 m4
 refine vc_ref06_Read b1 p n c p' n' c' b2 q m e q' m' e' na nb V _ ⟨fun z _=>z=!(endOk b1 xs1 ys1 na && endOk b2 xs2 ys2 nb),⟨?_,?_⟩,?_⟩
 ·rintro rfl V1 l1
  refine (c_zero_raw (h1.le l1)).mono ?_
  rintro r V2 l2 rfl
  refine ⟨_,rfl,fun hz=>⟨true,by and_intros <;> rfl,by rw [Bool.not_eq_true'] at hz; simp [endOk,hz]⟩,fun hy=>⟨(fun h=>nomatch h),fun _=>?_⟩⟩
  have L:=l1.trans l2
  cases nb with
  | true=>
   refine ⟨fun _ V5 l5=>(c_zero_raw (h2.le (L.trans l5))).mono ?_,(fun h=>nomatch h)⟩
   rintro r V6 l6 rfl
   exact ⟨_,rfl,fun hz=>⟨true,by and_intros <;> rfl,by rw [Bool.not_eq_true'] at hz; simp [endOk,hz]⟩,fun hz=>⟨(fun h=>nomatch h),fun _=>⟨false,by and_intros <;> rfl,by rw [Bool.not_eq_false'] at hz hy; simp [endOk,hz,hy]⟩⟩⟩
  | false=>
   refine ⟨(fun h=>nomatch h),fun _=>⟨fun _ V5 l5=>(c_NormalQ_raw (h2.le (L.trans l5)) m3 m4).mono ?_,(fun h=>nomatch h)⟩⟩
   rintro r V6 l6 rfl
   exact ⟨_,rfl,_,by and_intros <;> rfl,by rw [Bool.not_eq_false'] at hy; simp [endOk,hy]⟩
 ·rintro rfl
  refine ⟨fun _ V1 l1=>(c_NormalQ_raw (h1.le l1) m1 m2).mono ?_,(fun h=>nomatch h)⟩
  rintro r V2 l2 rfl
  refine ⟨_,rfl,fun hz=>⟨true,by and_intros <;> rfl,by rw [Bool.not_eq_true'] at hz; simp [endOk,hz]⟩,fun hy=>?_⟩
  have L:=l1.trans l2
  cases nb with
  | true=>
   refine ⟨fun _ V5 l5=>(c_zero_raw (h2.le (L.trans l5))).mono ?_,(fun h=>nomatch h)⟩
   rintro r V6 l6 rfl
   exact ⟨_,rfl,fun hz=>⟨true,by and_intros <;> rfl,by rw [Bool.not_eq_true'] at hz; simp [endOk,hz]⟩,fun hz=>⟨(fun h=>nomatch h),fun _=>⟨false,by and_intros <;> rfl,by rw [Bool.not_eq_false'] at hz hy; simp [endOk,hz,hy]⟩⟩⟩
  | false=>
   refine ⟨(fun h=>nomatch h),fun _=>⟨fun _ V5 l5=>(c_NormalQ_raw (h2.le (L.trans l5)) m3 m4).mono ?_,(fun h=>nomatch h)⟩⟩
   rintro r V6 l6 rfl
   exact ⟨_,rfl,_,by and_intros <;> rfl,by rw [Bool.not_eq_false'] at hy; simp [endOk,hy]⟩
 rintro z V31 l31 rfl
 refine ⟨rfl,fun hz V32 l32=>?_,fun hz V33 l33=>?_⟩
 ·rw [Bool.not_eq_true'] at hz
  have e:okW b1 xs1 ys1 b2 xs2 ys2 na nb=false:=by unfold okW; rw [hz]; rfl
  rw [e]
  exact ⟨_,rfl,⟨_,_,_,_,_,_,_,_,_,_,_,_,_,_,_,_,rfl⟩,(fun h=>nomatch h)⟩
 ·rw [Bool.not_eq_false',Bool.and_eq_true] at hz
  have k1:=endQ_raw hz.1
  have k2:=endQ_raw hz.2
  have ok:okW b1 xs1 ys1 b2 xs2 ys2 na nb=!(spW b1 xs1 ys1 b2 xs2 ys2 na nb).emp:=by unfold okW; rw [hz.1,hz.2]; rfl
  refine (c_ref01_Q (h1.le (l31.trans l33)) (by omega) (by omega)).mono ?_
  rintro r V34 l34 g
  have g0:=g
  obtain ⟨_,_,_,_,_,_,rfl⟩:=g.shape
  refine ⟨_,_,_,_,_,_,_,rfl,fun V35 l35=>(c_ref01_Q (h2.le (l31.trans (l33.trans (l34.trans l35)))) (by omega) (by omega)).mono ?_⟩
  rintro r V36 l36 k
  have k0:=k
  obtain ⟨_,_,_,_,_,_,rfl⟩:=k.shape
  have es:spW b1 xs1 ys1 b2 xs2 ys2 na nb=⟨rawQ b1 xs1 ys1,rawQ b2 xs2 ys2,na,nb⟩:=by unfold spW; rw [k1,k2]
  have rs:∀V':View,V36.Le V'->RSs V' _ (spW b1 xs1 ys1 b2 xs2 ys2 na nb):=fun V' l'=>by rw [es]; exact ⟨_,_,_,_,_,_,_,_,_,_,_,_,_,_,rfl,g0.le (l35.trans (l36.trans l')),k0.le l'⟩
  refine ⟨_,_,_,_,_,_,_,rfl,fun ha V37 l37=>⟨_,by rw [ok,es,ha]; rfl,⟨_,_,_,_,_,_,_,_,_,_,_,_,_,_,_,_,rfl⟩,fun _=>rs V37 l37⟩,fun ha=>⟨fun hb V38 l38=>⟨_,by rw [ok,es,ha,hb]; rfl,⟨_,_,_,_,_,_,_,_,_,_,_,_,_,_,_,_,rfl⟩,fun _=>rs V38 l38⟩,fun hb V39 l39=>(c_num_C (g0.le (l35.trans (l36.trans l39))) (k0.le l39) s1 s2 (by omega)).mono ?_⟩⟩
  rintro r V40 l40 rfl
  refine ⟨_,rfl,fun V41 l41=>⟨_,?_,⟨_,_,_,_,_,_,_,_,_,_,_,_,_,_,_,_,rfl⟩,fun _=>rs V41 (l39.trans (l40.trans l41))⟩⟩
  rw [ok,es]
  simp only [Sp.emp,ha,hb,Bool.not_false,Bool.true_and]
  have e:∀x:Int,decide (x < 0)=!decide (x ≥ 0):=fun x=>by rw [Bool.eq_iff_iff,decide_eq_true_eq,Bool.not_eq_true',decide_eq_false_iff_not]; omega
  rw [e (cmpQ _ _)]
/-- A fragment of package api in any form. -/
structure FW where
 b1:Bool
 xs:List Nat
 b2:Bool
 ys:List Nat
 b3:Bool
 zs:List Nat
 c1:Bool
 us:List Nat
 vs:List Nat
 c2:Bool
 ws:List Nat
 ts:List Nat
 na:Bool
 nb:Bool
def FW.ln (f:FW):L3:=lnW f.b1 f.xs f.b2 f.ys f.b3 f.zs
def FW.sp (f:FW):Sp:=spW f.c1 f.us f.vs f.c2 f.ws f.ts f.na f.nb
def FW.ok (f:FW):Bool:=okLn f.b1 f.xs f.b2 f.ys f.b3 f.zs && okW f.c1 f.us f.vs f.c2 f.ws f.ts f.na f.nb
structure FW.short (f:FW):Prop where
 x:f.xs.length<=1000000
 y:f.ys.length<=1000000
 z:f.zs.length<=1000000
 u:f.us.length<=1000000
 v:f.vs.length<=1000000
 w:f.ws.length<=1000000
 t:f.ts.length<=1000000
def RFw (V:View) (v:Value) (f:FW):Prop:=∃p1 n1 d1 p2 n2 d2 p3 n3 d3 p n c p' n' c' q m e q' m' e',
 v=.agg #[.bool f.b1,.slice p1 n1 d1,.bool f.b2,.slice p2 n2 d2,.bool f.b3,.slice p3 n3 d3,.bool f.c1,.slice p n c,.slice p' n' c',.bool f.c2,.slice q m e,.slice q' m' e',.bool f.na,.bool f.nb] /\
 RLw V (.agg #[.bool f.b1,.slice p1 n1 d1,.bool f.b2,.slice p2 n2 d2,.bool f.b3,.slice p3 n3 d3]) f.b1 f.xs f.b2 f.ys f.b3 f.zs /\
 RSw V (.agg #[.bool f.c1,.slice p n c,.slice p' n' c',.bool f.c2,.slice q m e,.slice q' m' e',.bool f.na,.bool f.nb]) f.c1 f.us f.vs f.c2 f.ws f.ts f.na f.nb
theorem RFw.le {V V':View} {v:Value} {f:FW} (h:RFw V v f) (l:V.Le V'):RFw V' v f:=by
 obtain ⟨p1,n1,d1,p2,n2,d2,p3,n3,d3,p,n,c,p',n',c',q,m,e,q',m',e',rfl,h1,h2⟩:=h
 exact ⟨_,_,_,_,_,_,_,_,_,_,_,_,_,_,_,_,_,_,_,_,_,rfl,h1.le l,h2.le l⟩
/-- The shape of a fragment of the reference. -/
def FSh (v:Value):Prop:=∃b1 p1 n1 c1 b2 p2 n2 c2 b3 p3 n3 c3 b p n c p' n' c' d q m e q' m' e' x y,v=.agg #[.bool b1,.slice p1 n1 c1,.bool b2,.slice p2 n2 c2,.bool b3,.slice p3 n3 c3,.bool b,.slice p n c,.slice p' n' c',.bool d,.slice q m e,.slice q' m' e',.bool x,.bool y]
theorem c_ref06_ReadF {V:View} {v:Value} {f:FW} (h:RFw V v f) (hs:f.short) :
  Acts prog 29 #[v] V fun r V'=>∃w,r=.tuple #[w,.bool f.ok]/\FSh w/\(f.ok=true->RF V' w f.ln f.sp):=by
 obtain ⟨p1,n1,d1,p2,n2,d2,p3,n3,d3,p,n,c,p',n',c',q,m,e,q',m',e',rfl,h1,h2⟩:=h
 refine vc_ref06_ReadF _ _ _ _ _ _ _ _ _ _ _ _ _ _ _ _ _ _ _ _ _ _ _ _ _ _ _ _ V _ fun V1 l1=>(c_ref04_Ln (h1.le l1) hs.x hs.y hs.z).mono ?_
 rintro r V2 l2 ⟨w,rfl,⟨_,_,_,_,_,_,_,_,_,_,_,_,rfl⟩,g⟩
 refine ⟨_,_,_,_,_,_,_,_,_,_,_,_,_,rfl,fun V3 l3=>(c_ref06_Read (h2.le (l1.trans (l2.trans l3))) hs.u hs.v hs.w hs.t).mono ?_⟩
 rintro r V4 l4 ⟨w,rfl,⟨_,_,_,_,_,_,_,_,_,_,_,_,_,_,_,_,rfl⟩,k⟩
 refine ⟨_,_,_,_,_,_,_,_,_,_,_,_,_,_,_,_,_,rfl,fun ho V5 l5=>⟨_,by unfold FW.ok; rw [ho]; rfl,⟨_,_,_,_,_,_,_,_,_,_,_,_,_,_,_,_,_,_,_,_,_,_,_,_,_,_,_,_,rfl⟩,fun h=>?_⟩,fun ho V6 l6=>⟨_,by unfold FW.ok; rw [ho]; rfl,⟨_,_,_,_,_,_,_,_,_,_,_,_,_,_,_,_,_,_,_,_,_,_,_,_,_,_,_,_,rfl⟩,fun h=>by unfold FW.ok at h; rw [ho] at h; cases h⟩⟩
 have hk:okW f.c1 f.us f.vs f.c2 f.ws f.ts f.na f.nb=true:=by unfold FW.ok at h; rw [ho] at h; exact h
 have k:=k hk
 obtain ⟨_,_,_,_,_,_,_,_,_,_,_,_,_,_,e,k1,k2⟩:=k
 have e':=congrArg Array.toList (Value.agg.inj e)
 simp only [List.cons.injEq,Value.bool.injEq,Value.slice.injEq,and_true] at e'
 obtain ⟨rfl,⟨rfl,rfl,rfl⟩,⟨rfl,rfl,rfl⟩,rfl,⟨rfl,rfl,rfl⟩,⟨rfl,rfl,rfl⟩,rfl,rfl⟩:=e'
 exact ⟨_,_,_,_,_,_,_,_,_,_,_,_,_,_,_,_,_,_,_,_,_,_,_,_,_,_,rfl,(g ho).le (l3.trans (l4.trans l5)),_,_,_,_,_,_,_,_,_,_,_,_,_,_,rfl,k1.le l5,k2.le l5⟩
end Go.Proofs.Tryz
/- Contracts: Half, Mid, Sample, Cross of the reference; it reads right fragments. -/
namespace Go.Proofs.Tryz
open Go.Eng Go.Big
theorem szi_two:Sz 2 (((2:Int):Rat)):=⟨by show (2:Int).natAbs < _; decide,by show (1:Nat) < _; decide⟩
theorem szi_one:Sz 2 (((1:Int):Rat)):=⟨by show (1:Int).natAbs < _; decide,by show (1:Nat) < _; decide⟩
theorem c_num_Half {V:View} {v:Value} {x:Rat} (h:RQ V v x) {k:Nat} (sx:Sz k x) (hk:k + 2 < 274877906944) :
  Acts prog 156 #[v] V fun r V'=>RQ V' r (x * ((2:Int):Rat)⁻¹):=by
 have h0:=h
 obtain ⟨_,_,_,_,_,_,rfl⟩:=h.shape
 refine vc_num_Half _ _ _ _ _ _ _ V _ fun V1 l1=>(c_num_Of 2 (by decide) (by decide)).mono ?_
 rintro r V2 l2 g
 have g0:=g
 obtain ⟨_,_,_,_,_,_,rfl⟩:=g.shape
 refine ⟨_,_,_,_,_,_,_,rfl,fun V3 l3=>(c_num_Over (h0.le (l1.trans (l2.trans l3))) (g0.le l3) (by show (2:Int)≠0; decide) sx szi_two hk).mono ?_⟩
 rintro r V4 l4 q
 have q0:=q
 obtain ⟨_,_,_,_,_,_,rfl⟩:=q.shape
 exact ⟨_,_,_,_,_,_,_,rfl,fun V5 l5=>q0.le l5⟩
theorem c_num_Mid {V:View} {v w:Value} {x y:Rat} (h:RQ V v x) (h':RQ V w y) {k:Nat} (sx:Sz k x) (sy:Sz k y) (hk:4 * k + 4 < 274877906944) :
  Acts prog 96 #[v,w] V fun r V'=>RQ V' r ((x + y) * ((2:Int):Rat)⁻¹):=by
 have h0:=h
 have h0':=h'
 obtain ⟨_,_,_,_,_,_,rfl⟩:=h.shape
 obtain ⟨_,_,_,_,_,_,rfl⟩:=h'.shape
 refine vc_num_Mid _ _ _ _ _ _ _ _ _ _ _ _ _ _ V _ fun V1 l1=>(c_num_Plus (h0.le l1) (h0'.le l1) sx sy (by omega)).mono ?_
 rintro r V2 l2 g
 have g0:=g
 obtain ⟨_,_,_,_,_,_,rfl⟩:=g.shape
 refine ⟨_,_,_,_,_,_,_,rfl,fun V3 l3=>(c_num_Half (g0.le l3) (sx.add sy) (by omega)).mono ?_⟩
 rintro r V4 l4 q
 have q0:=q
 obtain ⟨_,_,_,_,_,_,rfl⟩:=q.shape
 exact ⟨_,_,_,_,_,_,_,rfl,fun V5 l5=>q0.le l5⟩
theorem sz_samp {s:Sp} {k:Nat} (ss:s.sz k):Sz (2 * k + 10) s.samp:=by
 have z:Sz (2 * k + 10) (0:Rat):=⟨by show (0:Int).natAbs < _; exact Nat.lt_of_lt_of_le (by decide) (Nat.one_le_two_pow),Nat.one_lt_two_pow (by omega)⟩
 unfold Sp.samp
 split
 ·split
  ·exact z
  ·exact (ss.2.sub szi_one).mono (by omega)
 ·split
  ·exact (ss.1.add szi_one).mono (by omega)
  ·exact ((ss.1.add ss.2).mul (sz_inv szi_two)).mono (by omega)
theorem c_ref06_Sample {V:View} {v:Value} {s:Sp} (h:RSs V v s) {k:Nat} (ss:s.sz k) (hk:4 * k + 4 < 274877906944) :
  Acts prog 43 #[v] V fun r V'=>RQ V' r s.samp:=by
 obtain ⟨b,p,n,c,p',n',c',d,q,m,e,q',m',e',rfl,h1,h2⟩:=h
 have a1:s.a=true->s.b=true->s.samp=0:=fun x y=>by simp [Sp.samp,x,y]
 have a2:s.a=true->s.b=false->s.samp=s.hi - ((1:Int):Rat):=fun x y=>by simp [Sp.samp,x,y]
 have a3:s.a=false->s.b=true->s.samp=s.lo + ((1:Int):Rat):=fun x y=>by simp [Sp.samp,x,y]
 have a4:s.a=false->s.b=false->s.samp=(s.lo + s.hi) * ((2:Int):Rat)⁻¹:=fun x y=>by simp [Sp.samp,x,y]
 have no:∀{P:Prop},s.a=true->s.a=false->P:=fun x y=>by rw [x] at y; cases y
 refine vc_ref06_Sample b p n c p' n' c' d q m e q' m' e' s.a s.b V _ ⟨fun ha=>⟨fun hb V1 l1=>?_,fun hb=>⟨fun _ V2 l2=>(c_num_Of 1 (by decide) (by decide)).mono ?_,fun e=>no ha e⟩⟩,fun ha=>⟨fun e=>no e ha,fun _=>⟨fun hb V7 l7=>(c_num_Of 1 (by decide) (by decide)).mono ?_,fun hb V12 l12=>(c_num_Mid (h1.le l12) (h2.le l12) ss.1 ss.2 hk).mono ?_⟩⟩⟩
 ·rw [a1 ha hb]
  have:=RQ.zero (V:=V1)
  simpa using this
 ·rw [a2 ha hb]
  rintro r V3 l3 g
  have g0:=g
  obtain ⟨_,_,_,_,_,_,rfl⟩:=g.shape
  refine ⟨_,_,_,_,_,_,_,rfl,fun V4 l4=>(c_num_Sub (h2.le (l2.trans (l3.trans l4))) (g0.le l4) ss.2 szi_one (by omega)).mono ?_⟩
  rintro r V5 l5 q
  have q0:=q
  obtain ⟨_,_,_,_,_,_,rfl⟩:=q.shape
  exact ⟨_,_,_,_,_,_,_,rfl,fun V6 l6=>q0.le l6⟩
 ·rw [a3 ha hb]
  rintro r V3 l3 g
  have g0:=g
  obtain ⟨_,_,_,_,_,_,rfl⟩:=g.shape
  refine ⟨_,_,_,_,_,_,_,rfl,fun V4 l4=>(c_num_Plus (h1.le (l7.trans (l3.trans l4))) (g0.le l4) ss.1 szi_one (by omega)).mono ?_⟩
  rintro r V5 l5 q
  have q0:=q
  obtain ⟨_,_,_,_,_,_,rfl⟩:=q.shape
  exact ⟨_,_,_,_,_,_,_,rfl,fun V6 l6=>q0.le l6⟩
 ·rw [a4 ha hb]
  rintro r V5 l5 q
  have q0:=q
  obtain ⟨_,_,_,_,_,_,rfl⟩:=q.shape
  exact ⟨_,_,_,_,_,_,_,rfl,fun V6 l6=>q0.le l6⟩
theorem c_ref04_Cross {V:View} {v w:Value} {x y x' y':Rat} (h:RP V v x y) (h':RP V w x' y') {k:Nat} (s1:Sz k x) (s2:Sz k y) (s3:Sz k x') (s4:Sz k y') (hk:4 * k + 4 < 274877906944) :
  Acts prog 45 #[v,w] V fun r V'=>RQ V' r (x * y' - y * x'):=by
 obtain ⟨_,_,_,_,_,_,_,_,_,_,_,_,rfl,h1,h2⟩:=h
 obtain ⟨_,_,_,_,_,_,_,_,_,_,_,_,rfl,h3,h4⟩:=h'
 refine vc_ref04_Cross _ _ _ _ _ _ _ _ _ _ _ _ _ _ _ _ _ _ _ _ _ _ _ _ _ _ _ _ V _ fun V1 l1=>(c_num_Times (h1.le l1) (h4.le l1) s1 s4 (by omega)).mono ?_
 rintro r V2 l2 g
 have g0:=g
 obtain ⟨_,_,_,_,_,_,rfl⟩:=g.shape
 refine ⟨_,_,_,_,_,_,_,rfl,fun V3 l3=>(c_num_Times (h2.le (l1.trans (l2.trans l3))) (h3.le (l1.trans (l2.trans l3))) s2 s3 (by omega)).mono ?_⟩
 rintro r V4 l4 g'
 have g0':=g'
 obtain ⟨_,_,_,_,_,_,rfl⟩:=g'.shape
 refine ⟨_,_,_,_,_,_,_,rfl,fun V5 l5=>(c_num_Sub (g0.le (l3.trans (l4.trans l5))) (g0'.le l5) (s1.mul s4) (s2.mul s3) (by omega)).mono ?_⟩
 rintro r V6 l6 q
 have q0:=q
 obtain ⟨_,_,_,_,_,_,rfl⟩:=q.shape
 exact ⟨_,_,_,_,_,_,_,rfl,fun V7 l7=>q0.le l7⟩
/-- A right fragment of package api in normal form. -/
theorem RFa.raw {V:View} {v:Value} {l:L3} {s:Sp} (h:RFa V v l s) (ho:FOk l s) {k:Nat} (sl:SzL k l) (ss:s.sz k) (hk:k<=1000000):∃f:FW,RFw V v f/\f.ok=true/\f.ln=l/\f.sp=s/\f.short:=by
 obtain ⟨b1,p1,n1,c1,b2,p2,n2,c2,b3,p3,n3,c3,b,p,n,c,p',n',c',d,q,m,e,q',m',e',rfl,h1,h2⟩:=h
 obtain ⟨_,_,_,_,_,_,_,_,_,el,x1,x2,x3⟩:=h1
 have el:=congrArg Array.toList (Value.agg.inj el)
 simp only [List.cons.injEq,Value.bool.injEq,Value.slice.injEq,and_true] at el
 obtain ⟨rfl,⟨rfl,rfl,rfl⟩,rfl,⟨rfl,rfl,rfl⟩,rfl,rfl,rfl,rfl⟩:=el
 obtain ⟨_,_,_,_,_,_,_,_,_,_,_,_,_,_,es,y1,y2⟩:=h2
 have es:=congrArg Array.toList (Value.agg.inj es)
 simp only [List.cons.injEq,Value.bool.injEq,Value.slice.injEq,and_true] at es
 obtain ⟨rfl,⟨rfl,rfl,rfl⟩,⟨rfl,rfl,rfl⟩,rfl,⟨rfl,rfl,rfl⟩,⟨rfl,rfl,rfl⟩⟩:=es
 obtain ⟨ok,can,emp⟩:=ho
 obtain ⟨w1,us,vs,r1,o1,e1,z1⟩:=y1.raw can.1
 obtain ⟨w2,ws,ts,r2,o2,e2,z2⟩:=y2.raw can.2
 have i1:=r1
 have i2:=r2
 obtain ⟨_,_,_,_,_,_,f1,-,-⟩:=i1
 obtain ⟨_,_,_,_,_,_,f2,-,-⟩:=i2
 have f1:=congrArg Array.toList (Value.agg.inj f1)
 have f2:=congrArg Array.toList (Value.agg.inj f2)
 simp only [List.cons.injEq,Value.bool.injEq,Value.slice.injEq,and_true] at f1 f2
 obtain ⟨rfl,-⟩:=f1
 obtain ⟨rfl,-⟩:=f2
 have len:∀{z:Int},Sz k (z:Rat)->(digs z.natAbs).length<=1000000:=fun h=>Nat.le_trans (digs_len_bits h.1) hk
 have d1:=z1 k ss.1
 have d2:=z2 k ss.2
 refine ⟨⟨decide (l.1 < 0),digs l.1.natAbs,decide (l.2.1 < 0),digs l.2.1.natAbs,decide (l.2.2 < 0),digs l.2.2.natAbs,b,us,vs,d,ws,ts,s.a,s.b⟩,⟨_,_,_,_,_,_,_,_,_,_,_,_,_,_,_,_,_,_,_,_,_,rfl,⟨_,_,_,_,_,_,_,_,_,rfl,x1,x2,x3⟩,⟨_,_,_,_,_,_,_,_,_,_,_,_,rfl,r1,r2⟩⟩,?_,?_,?_,⟨len sl.1,len sl.2.1,len sl.2.2,Nat.le_trans d1.1 hk,Nat.le_trans d1.2 hk,Nat.le_trans d2.1 hk,Nat.le_trans d2.2 hk⟩⟩
 ·have e3:spW b us vs d ws ts s.a s.b=s:=by unfold spW; rw [e1,e2]
  unfold FW.ok okW
  dsimp only
  rw [okLn_okL,o1,o2,e3,emp]
  show okL l && true=true
  rw [ok]; rfl
 ·unfold FW.ln lnW
  dsimp only
  rw [ival_digs,ival_digs,ival_digs]
 ·unfold FW.sp spW
  dsimp only
  rw [e1,e2]
theorem c_ReadF_ok {V:View} {v:Value} {l:L3} {s:Sp} (h:RFa V v l s) (ho:FOk l s) {k:Nat} (sl:SzL k l) (ss:s.sz k) (hk:k<=1000000) :
  Acts prog 29 #[v] V fun r V'=>∃w,r=.tuple #[w,.bool true]/\RF V' w l s:=by
 obtain ⟨f,hf,ok,e1,e2,hs⟩:=h.raw ho sl ss hk
 refine (c_ref06_ReadF hf hs).mono ?_
 rintro r V' l ⟨w,rfl,-,g⟩
 rw [ok]
 exact ⟨w,rfl,by rw [← e1,← e2]; exact g ok⟩
end Go.Proofs.Tryz
