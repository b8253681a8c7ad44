/- A part of the proof (joined by program from: VLaw07, Law7A). -/
import Derived.Test.YtalijajeenhebaaGreatDoorM5
import Derived.Test.YtalijajeenhebaaGreatDoorM17
set_option linter.unusedVariables false
open Go.IntKind (i64 u64 u32)
/- By program: the conditions of the functions, from their loaded code. -/
namespace Go.Proofs.Tryz
open Go.Eng
set_option maxRecDepth 100000
theorem vc_law07_same (a0:Bool) (a1p:OA) (a1n a1c:Nat) (a2:Bool) (a3p:OA) (a3n a3c:Nat) (a4:Bool) (a5p:OA) (a5n a5c:Nat) (a6:Bool) (a7p:OA) (a7n a7c:Nat) (a8p:OA) (a8n a8c:Nat) (a9:Bool) (a10p:OA) (a10n a10c:Nat) (a11p:OA) (a11n a11c:Nat) (a12:Bool) (a13:Bool) (b0:Bool) (b1p:OA) (b1n b1c:Nat) (b2:Bool) (b3p:OA) (b3n b3c:Nat) (b4:Bool) (b5p:OA) (b5n b5c:Nat) (b6:Bool) (b7p:OA) (b7n b7c:Nat) (b8p:OA) (b8n b8c:Nat) (b9:Bool) (b10p:OA) (b10n b10c:Nat) (b11p:OA) (b11n b11c:Nat) (b12:Bool) (b13:Bool) (V:View) (R:Value→View→Prop)
    (h:(∀V1:View,V.Le V1→Acts prog 15 #[.agg #[.bool b0,.slice b1p b1n b1c,.bool b2,.slice b3p b3n b3c,.bool b4,.slice b5p b5n b5c,.bool b6,.slice b7p b7n b7c,.slice b8p b8n b8c,.bool b9,.slice b10p b10n b10c,.slice b11p b11n b11c,.bool b12,.bool b13]] V1 fun r1_ V2=>∃b1_:Bool,∃(p2_:OA) (n2_ c2_:Nat),∃b3_:Bool,∃(p4_:OA) (n4_ c4_:Nat),∃b5_:Bool,∃(p6_:OA) (n6_ c6_:Nat),∃b7_:Bool,∃(p8_:OA) (n8_ c8_:Nat),∃(p9_:OA) (n9_ c9_:Nat),∃b10_:Bool,∃(p11_:OA) (n11_ c11_:Nat),∃(p12_:OA) (n12_ c12_:Nat),∃b13_:Bool,∃b14_:Bool,r1_=.agg #[.bool b1_,.slice p2_ n2_ c2_,.bool b3_,.slice p4_ n4_ c4_,.bool b5_,.slice p6_ n6_ c6_,.bool b7_,.slice p8_ n8_ c8_,.slice p9_ n9_ c9_,.bool b10_,.slice p11_ n11_ c11_,.slice p12_ n12_ c12_,.bool b13_,.bool b14_]∧(∀V3:View,V2.Le V3→∀bk15_ bk16_:Nat,(V3.blk bk15_ (.cells #[.bool a0,.slice a1p a1n a1c,.bool a2,.slice a3p a3n a3c,.bool a4,.slice a5p a5n a5c,.bool a6,.slice a7p a7n a7c,.slice a8p a8n a8c,.bool a9,.slice a10p a10n a10c,.slice a11p a11n a11c,.bool a12,.bool a13] 44 (0,0)))→(V3.blk bk16_ (.cells #[.bool b1_,.slice p2_ n2_ c2_,.bool b3_,.slice p4_ n4_ c4_,.bool b5_,.slice p6_ n6_ c6_,.bool b7_,.slice p8_ n8_ c8_,.slice p9_ n9_ c9_,.bool b10_,.slice p11_ n11_ c11_,.slice p12_ n12_ c12_,.bool b13_,.bool b14_] 44 (0,0)))→Acts prog 53 #[.slice (some ⟨bk15_,0,none⟩) 1 1,.slice (some ⟨bk16_,0,none⟩) 1 1] V3 fun r3_ V4=>∃b17_:Bool,r3_=.bool b17_∧∀J18_:C→Value,(∀V5:View,V4.Le V5→R (.bool b17_) V5)))) :
    Acts prog 12 #[.agg #[.bool a0,.slice a1p a1n a1c,.bool a2,.slice a3p a3n a3c,.bool a4,.slice a5p a5n a5c,.bool a6,.slice a7p a7n a7c,.slice a8p a8n a8c,.bool a9,.slice a10p a10n a10c,.slice a11p a11n a11c,.bool a12,.bool a13],.agg #[.bool b0,.slice b1p b1n b1c,.bool b2,.slice b3p b3n b3c,.bool b4,.slice b5p b5n b5c,.bool b6,.slice b7p b7n b7c,.slice b8p b8n b8c,.bool b9,.slice b10p b10n b10c,.slice b11p b11n b11c,.bool b12,.bool b13]] V R:=
  fn_does (LF:=LF0) (RF:=[53,1000007]) (β0:=(fun _=>0)) tab_ok mixed [] [] func12 (by kernel_rfl)
    [(0,.agg [.v (.bool a0),.v (.slice a1p a1n a1c),.v (.bool a2),.v (.slice a3p a3n a3c),.v (.bool a4),.v (.slice a5p a5n a5c),.v (.bool a6),.v (.slice a7p a7n a7c),.v (.slice a8p a8n a8c),.v (.bool a9),.v (.slice a10p a10n a10c),.v (.slice a11p a11n a11c),.v (.bool a12),.v (.bool a13)]),(1,.agg [.v (.bool b0),.v (.slice b1p b1n b1c),.v (.bool b2),.v (.slice b3p b3n b3c),.v (.bool b4),.v (.slice b5p b5n b5c),.v (.bool b6),.v (.slice b7p b7n b7c),.v (.slice b8p b8n b8c),.v (.bool b9),.v (.slice b10p b10n b10c),.v (.slice b11p b11n b11c),.v (.bool b12),.v (.bool b13)])]
    [] (by kernel_rfl) trivial h (by kernel_rfl)
theorem vc_law07_same0 (f0:Bool) (f1p:OA) (f1n f1c:Nat) (f2:Bool) (f3p:OA) (f3n f3c:Nat) (f4:Bool) (f5p:OA) (f5n f5c:Nat) (f6:Bool) (f7p:OA) (f7n f7c:Nat) (f8p:OA) (f8n f8c:Nat) (f9:Bool) (f10p:OA) (f10n f10c:Nat) (f11p:OA) (f11n f11c:Nat) (f12:Bool) (f13:Bool) (V:View) (R:Value→View→Prop)
    (h:(∀V1:View,V.Le V1→Acts prog 54 #[.agg #[.bool f0,.slice f1p f1n f1c,.bool f2,.slice f3p f3n f3c,.bool f4,.slice f5p f5n f5c],.agg #[.bool false,.slice none 0 0,.bool false,.slice none 0 0,.bool false,.slice none 0 0]] V1 fun r1_ V2=>∃b1_:Bool,r1_=.bool b1_∧((b1_=true→(((!f12)=true→(((!f13)=true→(∀V3:View,V2.Le V3→R (.bool ((i64.wrap (((f8n:Nat):Int) + ((f11n:Nat):Int))) == (0:Int))) V3))∧((!f13)=false→(∀V4:View,V2.Le V4→R (.bool false) V4))))∧((!f12)=false→(∀V5:View,V2.Le V5→R (.bool false) V5))))∧(b1_=false→(∀V6:View,V2.Le V6→R (.bool false) V6))))) :
    Acts prog 13 #[.agg #[.bool f0,.slice f1p f1n f1c,.bool f2,.slice f3p f3n f3c,.bool f4,.slice f5p f5n f5c,.bool f6,.slice f7p f7n f7c,.slice f8p f8n f8c,.bool f9,.slice f10p f10n f10c,.slice f11p f11n f11c,.bool f12,.bool f13]] V R:=
  fn_does (LF:=LF0) (RF:=[1000007]) (β0:=(fun _=>0)) tab_ok mixed [] [] func13 (by kernel_rfl)
    [(0,.agg [.v (.bool f0),.v (.slice f1p f1n f1c),.v (.bool f2),.v (.slice f3p f3n f3c),.v (.bool f4),.v (.slice f5p f5n f5c),.v (.bool f6),.v (.slice f7p f7n f7c),.v (.slice f8p f8n f8c),.v (.bool f9),.v (.slice f10p f10n f10c),.v (.slice f11p f11n f11c),.v (.bool f12),.v (.bool f13)])]
    [] (by kernel_rfl) trivial h (by kernel_rfl)
theorem vc_law07_known  (V:View) (R:Value→View→Prop)
    (h:(∀V1:View,V.Le V1→Acts prog 69 #[.int .i64 0,.int .i64 0] V1 fun r1_ V2=>∃b1_:Bool,∃(p2_:OA) (n2_ c2_:Nat),∃(p3_:OA) (n3_ c3_:Nat),∃b4_:Bool,∃(p5_:OA) (n5_ c5_:Nat),∃(p6_:OA) (n6_ c6_:Nat),r1_=.agg #[.bool b1_,.slice p2_ n2_ c2_,.slice p3_ n3_ c3_,.bool b4_,.slice p5_ n5_ c5_,.slice p6_ n6_ c6_]∧(∀V3:View,V2.Le V3→Acts prog 69 #[.int .i64 2,.int .i64 0] V3 fun r3_ V4=>∃b7_:Bool,∃(p8_:OA) (n8_ c8_:Nat),∃(p9_:OA) (n9_ c9_:Nat),∃b10_:Bool,∃(p11_:OA) (n11_ c11_:Nat),∃(p12_:OA) (n12_ c12_:Nat),r3_=.agg #[.bool b7_,.slice p8_ n8_ c8_,.slice p9_ n9_ c9_,.bool b10_,.slice p11_ n11_ c11_,.slice p12_ n12_ c12_]∧(∀V5:View,V4.Le V5→Acts prog 9 #[.agg #[.bool b1_,.slice p2_ n2_ c2_,.slice p3_ n3_ c3_,.bool b4_,.slice p5_ n5_ c5_,.slice p6_ n6_ c6_],.agg #[.bool b7_,.slice p8_ n8_ c8_,.slice p9_ n9_ c9_,.bool b10_,.slice p11_ n11_ c11_,.slice p12_ n12_ c12_]] V5 fun r5_ V6=>∃b13_:Bool,∃(p14_:OA) (n14_ c14_:Nat),∃b15_:Bool,∃(p16_:OA) (n16_ c16_:Nat),∃b17_:Bool,∃(p18_:OA) (n18_ c18_:Nat),∃b19_:Bool,∃(p20_:OA) (n20_ c20_:Nat),∃(p21_:OA) (n21_ c21_:Nat),∃b22_:Bool,∃(p23_:OA) (n23_ c23_:Nat),∃(p24_:OA) (n24_ c24_:Nat),∃b25_:Bool,∃b26_:Bool,∃b27_:Bool,r5_=.tuple #[.agg #[.bool b13_,.slice p14_ n14_ c14_,.bool b15_,.slice p16_ n16_ c16_,.bool b17_,.slice p18_ n18_ c18_,.bool b19_,.slice p20_ n20_ c20_,.slice p21_ n21_ c21_,.bool b22_,.slice p23_ n23_ c23_,.slice p24_ n24_ c24_,.bool b25_,.bool b26_],.bool b27_]∧(∀V7:View,V6.Le V7→Acts prog 17 #[.agg #[.bool b13_,.slice p14_ n14_ c14_,.bool b15_,.slice p16_ n16_ c16_,.bool b17_,.slice p18_ n18_ c18_,.bool b19_,.slice p20_ n20_ c20_,.slice p21_ n21_ c21_,.bool b22_,.slice p23_ n23_ c23_,.slice p24_ n24_ c24_,.bool b25_,.bool b26_]] V7 fun r7_ V8=>∃b28_:Bool,∃(p29_:OA) (n29_ c29_:Nat),∃(p30_:OA) (n30_ c30_:Nat),∃b31_:Bool,∃(p32_:OA) (n32_ c32_:Nat),∃(p33_:OA) (n33_ c33_:Nat),∃b34_:Bool,r7_=.tuple #[.agg #[.bool b28_,.slice p29_ n29_ c29_,.slice p30_ n30_ c30_,.bool b31_,.slice p32_ n32_ c32_,.slice p33_ n33_ c33_],.bool b34_]∧((b27_=true→((b34_=true→(∀V9:View,V8.Le V9→Acts prog 30 #[.agg #[.bool b13_,.slice p14_ n14_ c14_,.bool b15_,.slice p16_ n16_ c16_,.bool b17_,.slice p18_ n18_ c18_,.bool b19_,.slice p20_ n20_ c20_,.slice p21_ n21_ c21_,.bool b22_,.slice p23_ n23_ c23_,.slice p24_ n24_ c24_,.bool b25_,.bool b26_]] V9 fun r9_ V10=>∃b35_:Bool,r9_=.bool b35_∧((b35_=true→(∀V11:View,V10.Le V11→Acts prog 69 #[.int .i64 2,.int .i64 0] V11 fun r11_ V12=>∃b36_:Bool,∃(p37_:OA) (n37_ c37_:Nat),∃(p38_:OA) (n38_ c38_:Nat),∃b39_:Bool,∃(p40_:OA) (n40_ c40_:Nat),∃(p41_:OA) (n41_ c41_:Nat),r11_=.agg #[.bool b36_,.slice p37_ n37_ c37_,.slice p38_ n38_ c38_,.bool b39_,.slice p40_ n40_ c40_,.slice p41_ n41_ c41_]∧(∀V13:View,V12.Le V13→Acts prog 70 #[.agg #[.bool b28_,.slice p29_ n29_ c29_,.slice p30_ n30_ c30_,.bool b31_,.slice p32_ n32_ c32_,.slice p33_ n33_ c33_],.agg #[.bool b36_,.slice p37_ n37_ c37_,.slice p38_ n38_ c38_,.bool b39_,.slice p40_ n40_ c40_,.slice p41_ n41_ c41_]] V13 fun r13_ V14=>∃b42_:Bool,r13_=.bool b42_∧(∀V15:View,V14.Le V15→R (.bool b42_) V15))))∧(b35_=false→(∀V16:View,V10.Le V16→R (.bool false) V16)))))∧(b34_=false→(∀V17:View,V8.Le V17→R (.bool false) V17))))∧(b27_=false→(∀V18:View,V8.Le V18→R (.bool false) V18)))))))) :
    Acts prog 23 #[] V R:=
  fn_does (LF:=LF0) (RF:=[1000007]) (β0:=(fun _=>0)) tab_ok mixed [] [] func23 (by kernel_rfl)
    []
    [] (by kernel_rfl) trivial h (by kernel_rfl)
theorem vc_law07_FragmentEnds (lp:OA) (ln lc:Nat) (V:View) (R:Value→View→Prop)
    (h:(∀V1:View,V.Le V1→Acts prog 7 #[.slice lp ln lc] V1 fun r1_ V2=>∃bk1_:Nat,∃(p2_:OA) (n2_ c2_:Nat),∃x3_:Int,r1_=.pointer (some ⟨bk1_,0,none⟩)∧V1.w.heap.size≤bk1_∧V2.blk bk1_ (.cells #[.slice p2_ n2_ c2_,.int .i64 x3_] 105 (0,0))∧(∀V3:View,(V2.hide bk1_).Le V3→∀bk4_:Nat,(V3.w.heap[bk4_]?=some (.cells #[.slice p2_ n2_ c2_,.int .i64 x3_] 105 (0,0)))→(V3.H bk4_)→Acts prog 8 #[.pointer (some ⟨bk4_,0,none⟩)] (V3.lend [bk4_]) fun r3_ V4=>∃b5_:Bool,∃(p6_:OA) (n6_ c6_:Nat),∃(p7_:OA) (n7_ c7_:Nat),∃b8_:Bool,∃(p9_:OA) (n9_ c9_:Nat),∃(p10_:OA) (n10_ c10_:Nat),r3_=.agg #[.bool b5_,.slice p6_ n6_ c6_,.slice p7_ n7_ c7_,.bool b8_,.slice p9_ n9_ c9_,.slice p10_ n10_ c10_]∧∃(p11_:OA) (n11_ c11_:Nat),∃x12_:Int,V4.w.heap[bk4_]?=some (.cells #[.slice p11_ n11_ c11_,.int .i64 x12_] 105 (0,0))∧(∀V5:View,V4.shut.Le V5→∀bk13_:Nat,(V5.w.heap[bk13_]?=some (.cells #[.slice p11_ n11_ c11_,.int .i64 x12_] 105 (0,0)))→(V5.H bk13_)→Acts prog 8 #[.pointer (some ⟨bk13_,0,none⟩)] (V5.lend [bk13_]) fun r5_ V6=>∃b14_:Bool,∃(p15_:OA) (n15_ c15_:Nat),∃(p16_:OA) (n16_ c16_:Nat),∃b17_:Bool,∃(p18_:OA) (n18_ c18_:Nat),∃(p19_:OA) (n19_ c19_:Nat),r5_=.agg #[.bool b14_,.slice p15_ n15_ c15_,.slice p16_ n16_ c16_,.bool b17_,.slice p18_ n18_ c18_,.slice p19_ n19_ c19_]∧∃(p20_:OA) (n20_ c20_:Nat),∃x21_:Int,V6.w.heap[bk13_]?=some (.cells #[.slice p20_ n20_ c20_,.int .i64 x21_] 105 (0,0))∧(∀V7:View,V6.shut.Le V7→Acts prog 10 #[.agg #[.bool b5_,.slice p6_ n6_ c6_,.slice p7_ n7_ c7_,.bool b8_,.slice p9_ n9_ c9_,.slice p10_ n10_ c10_]] V7 fun r7_ V8=>∃b22_:Bool,∃(p23_:OA) (n23_ c23_:Nat),∃(p24_:OA) (n24_ c24_:Nat),∃b25_:Bool,∃(p26_:OA) (n26_ c26_:Nat),∃(p27_:OA) (n27_ c27_:Nat),r7_=.agg #[.bool b22_,.slice p23_ n23_ c23_,.slice p24_ n24_ c24_,.bool b25_,.slice p26_ n26_ c26_,.slice p27_ n27_ c27_]∧(∀V9:View,V8.Le V9→Acts prog 10 #[.agg #[.bool b14_,.slice p15_ n15_ c15_,.slice p16_ n16_ c16_,.bool b17_,.slice p18_ n18_ c18_,.slice p19_ n19_ c19_]] V9 fun r9_ V10=>∃b28_:Bool,∃(p29_:OA) (n29_ c29_:Nat),∃(p30_:OA) (n30_ c30_:Nat),∃b31_:Bool,∃(p32_:OA) (n32_ c32_:Nat),∃(p33_:OA) (n33_ c33_:Nat),r9_=.agg #[.bool b28_,.slice p29_ n29_ c29_,.slice p30_ n30_ c30_,.bool b31_,.slice p32_ n32_ c32_,.slice p33_ n33_ c33_]∧(∀V11:View,V10.Le V11→Acts prog 9 #[.agg #[.bool b22_,.slice p23_ n23_ c23_,.slice p24_ n24_ c24_,.bool b25_,.slice p26_ n26_ c26_,.slice p27_ n27_ c27_],.agg #[.bool b28_,.slice p29_ n29_ c29_,.slice p30_ n30_ c30_,.bool b31_,.slice p32_ n32_ c32_,.slice p33_ n33_ c33_]] V11 fun r11_ V12=>∃b34_:Bool,∃(p35_:OA) (n35_ c35_:Nat),∃b36_:Bool,∃(p37_:OA) (n37_ c37_:Nat),∃b38_:Bool,∃(p39_:OA) (n39_ c39_:Nat),∃b40_:Bool,∃(p41_:OA) (n41_ c41_:Nat),∃(p42_:OA) (n42_ c42_:Nat),∃b43_:Bool,∃(p44_:OA) (n44_ c44_:Nat),∃(p45_:OA) (n45_ c45_:Nat),∃b46_:Bool,∃b47_:Bool,∃b48_:Bool,r11_=.tuple #[.agg #[.bool b34_,.slice p35_ n35_ c35_,.bool b36_,.slice p37_ n37_ c37_,.bool b38_,.slice p39_ n39_ c39_,.bool b40_,.slice p41_ n41_ c41_,.slice p42_ n42_ c42_,.bool b43_,.slice p44_ n44_ c44_,.slice p45_ n45_ c45_,.bool b46_,.bool b47_],.bool b48_]∧(∀V13:View,V12.Le V13→Acts prog 11 #[.agg #[.bool b5_,.slice p6_ n6_ c6_,.slice p7_ n7_ c7_,.bool b8_,.slice p9_ n9_ c9_,.slice p10_ n10_ c10_],.agg #[.bool b14_,.slice p15_ n15_ c15_,.slice p16_ n16_ c16_,.bool b17_,.slice p18_ n18_ c18_,.slice p19_ n19_ c19_]] V13 fun r13_ V14=>∃b49_:Bool,∃(p50_:OA) (n50_ c50_:Nat),∃b51_:Bool,∃(p52_:OA) (n52_ c52_:Nat),∃b53_:Bool,∃(p54_:OA) (n54_ c54_:Nat),∃b55_:Bool,∃(p56_:OA) (n56_ c56_:Nat),∃(p57_:OA) (n57_ c57_:Nat),∃b58_:Bool,∃(p59_:OA) (n59_ c59_:Nat),∃(p60_:OA) (n60_ c60_:Nat),∃b61_:Bool,∃b62_:Bool,∃b63_:Bool,r13_=.tuple #[.agg #[.bool b49_,.slice p50_ n50_ c50_,.bool b51_,.slice p52_ n52_ c52_,.bool b53_,.slice p54_ n54_ c54_,.bool b55_,.slice p56_ n56_ c56_,.slice p57_ n57_ c57_,.bool b58_,.slice p59_ n59_ c59_,.slice p60_ n60_ c60_,.bool b61_,.bool b62_],.bool b63_]∧(∃I64_:Bool→View→Prop,(((!(b48_ == b63_))=true→(∃z65_:Bool,(sm 0∧sm 0∧(true=z65_)∧sm b5_∧sm p6_∧sm n6_∧sm c6_∧sm p7_∧sm n7_∧sm c7_∧sm b8_∧sm p9_∧sm n9_∧sm c9_∧sm p10_∧sm n10_∧sm c10_∧sm p20_∧sm n20_∧sm c20_∧sm x21_)∧I64_ z65_ V14))∧((!(b48_ == b63_))=false→((b48_=true→(∀V15:View,V14.Le V15→Acts prog 12 #[.agg #[.bool b34_,.slice p35_ n35_ c35_,.bool b36_,.slice p37_ n37_ c37_,.bool b38_,.slice p39_ n39_ c39_,.bool b40_,.slice p41_ n41_ c41_,.slice p42_ n42_ c42_,.bool b43_,.slice p44_ n44_ c44_,.slice p45_ n45_ c45_,.bool b46_,.bool b47_],.agg #[.bool b49_,.slice p50_ n50_ c50_,.bool b51_,.slice p52_ n52_ c52_,.bool b53_,.slice p54_ n54_ c54_,.bool b55_,.slice p56_ n56_ c56_,.slice p57_ n57_ c57_,.bool b58_,.slice p59_ n59_ c59_,.slice p60_ n60_ c60_,.bool b61_,.bool b62_]] V15 fun r15_ V16=>∃b66_:Bool,r15_=.bool b66_∧(((!b66_)=true→(∃z67_:Bool,(sm 0∧sm 0∧(true=z67_)∧sm b5_∧sm p6_∧sm n6_∧sm c6_∧sm p7_∧sm n7_∧sm c7_∧sm b8_∧sm p9_∧sm n9_∧sm c9_∧sm p10_∧sm n10_∧sm c10_∧sm p20_∧sm n20_∧sm c20_∧sm x21_)∧I64_ z67_ V16))∧((!b66_)=false→(((!b48_)=true→(∀V17:View,V16.Le V17→Acts prog 13 #[.agg #[.bool b34_,.slice p35_ n35_ c35_,.bool b36_,.slice p37_ n37_ c37_,.bool b38_,.slice p39_ n39_ c39_,.bool b40_,.slice p41_ n41_ c41_,.slice p42_ n42_ c42_,.bool b43_,.slice p44_ n44_ c44_,.slice p45_ n45_ c45_,.bool b46_,.bool b47_]] V17 fun r17_ V18=>∃b68_:Bool,r17_=.bool b68_∧(∃z69_:Bool,(sm 0∧sm 0∧((!b68_)=z69_)∧sm b5_∧sm p6_∧sm n6_∧sm c6_∧sm p7_∧sm n7_∧sm c7_∧sm b8_∧sm p9_∧sm n9_∧sm c9_∧sm p10_∧sm n10_∧sm c10_∧sm p20_∧sm n20_∧sm c20_∧sm x21_)∧I64_ z69_ V18)))∧((!b48_)=false→(∃z70_:Bool,(sm 0∧sm 0∧(false=z70_)∧sm b5_∧sm p6_∧sm n6_∧sm c6_∧sm p7_∧sm n7_∧sm c7_∧sm b8_∧sm p9_∧sm n9_∧sm c9_∧sm p10_∧sm n10_∧sm c10_∧sm p20_∧sm n20_∧sm c20_∧sm x21_)∧I64_ z70_ V16)))))))∧(b48_=false→(((!b48_)=true→(∀V19:View,V14.Le V19→Acts prog 13 #[.agg #[.bool b34_,.slice p35_ n35_ c35_,.bool b36_,.slice p37_ n37_ c37_,.bool b38_,.slice p39_ n39_ c39_,.bool b40_,.slice p41_ n41_ c41_,.slice p42_ n42_ c42_,.bool b43_,.slice p44_ n44_ c44_,.slice p45_ n45_ c45_,.bool b46_,.bool b47_]] V19 fun r19_ V20=>∃b71_:Bool,r19_=.bool b71_∧(∃z72_:Bool,(sm 0∧sm 0∧((!b71_)=z72_)∧sm b5_∧sm p6_∧sm n6_∧sm c6_∧sm p7_∧sm n7_∧sm c7_∧sm b8_∧sm p9_∧sm n9_∧sm c9_∧sm p10_∧sm n10_∧sm c10_∧sm p20_∧sm n20_∧sm c20_∧sm x21_)∧I64_ z72_ V20)))∧((!b48_)=false→(∃z73_:Bool,(sm 0∧sm 0∧(false=z73_)∧sm b5_∧sm p6_∧sm n6_∧sm c6_∧sm p7_∧sm n7_∧sm c7_∧sm b8_∧sm p9_∧sm n9_∧sm c9_∧sm p10_∧sm n10_∧sm c10_∧sm p20_∧sm n20_∧sm c20_∧sm x21_)∧I64_ z73_ V14)))))))∧∀(z74_:Bool) (V21:View),V14.Le V21→I64_ z74_ V21→(true=true∧((z74_=true→(∀V22:View,V21.Le V22→R (.bool false) V22))∧(z74_=false→(∀V23:View,V21.Le V23→∀bk75_:Nat,(V23.w.heap[bk75_]?=some (.cells #[.slice p20_ n20_ c20_,.int .i64 x21_] 105 (0,0)))→(V23.H bk75_)→Acts prog 14 #[.pointer (some ⟨bk75_,0,none⟩)] (V23.lend [bk75_]) fun r23_ V24=>∃b76_:Bool,∃(p77_:OA) (n77_ c77_:Nat),∃b78_:Bool,∃(p79_:OA) (n79_ c79_:Nat),∃b80_:Bool,∃(p81_:OA) (n81_ c81_:Nat),∃b82_:Bool,∃(p83_:OA) (n83_ c83_:Nat),∃(p84_:OA) (n84_ c84_:Nat),∃b85_:Bool,∃(p86_:OA) (n86_ c86_:Nat),∃(p87_:OA) (n87_ c87_:Nat),∃b88_:Bool,∃b89_:Bool,r23_=.agg #[.bool b76_,.slice p77_ n77_ c77_,.bool b78_,.slice p79_ n79_ c79_,.bool b80_,.slice p81_ n81_ c81_,.bool b82_,.slice p83_ n83_ c83_,.slice p84_ n84_ c84_,.bool b85_,.slice p86_ n86_ c86_,.slice p87_ n87_ c87_,.bool b88_,.bool b89_]∧∃(p90_:OA) (n90_ c90_:Nat),∃x91_:Int,V24.w.heap[bk75_]?=some (.cells #[.slice p90_ n90_ c90_,.int .i64 x91_] 105 (0,0))∧(∀V25:View,V24.shut.Le V25→Acts prog 15 #[.agg #[.bool b76_,.slice p77_ n77_ c77_,.bool b78_,.slice p79_ n79_ c79_,.bool b80_,.slice p81_ n81_ c81_,.bool b82_,.slice p83_ n83_ c83_,.slice p84_ n84_ c84_,.bool b85_,.slice p86_ n86_ c86_,.slice p87_ n87_ c87_,.bool b88_,.bool b89_]] V25 fun r25_ V26=>∃b92_:Bool,∃(p93_:OA) (n93_ c93_:Nat),∃b94_:Bool,∃(p95_:OA) (n95_ c95_:Nat),∃b96_:Bool,∃(p97_:OA) (n97_ c97_:Nat),∃b98_:Bool,∃(p99_:OA) (n99_ c99_:Nat),∃(p100_:OA) (n100_ c100_:Nat),∃b101_:Bool,∃(p102_:OA) (n102_ c102_:Nat),∃(p103_:OA) (n103_ c103_:Nat),∃b104_:Bool,∃b105_:Bool,r25_=.agg #[.bool b92_,.slice p93_ n93_ c93_,.bool b94_,.slice p95_ n95_ c95_,.bool b96_,.slice p97_ n97_ c97_,.bool b98_,.slice p99_ n99_ c99_,.slice p100_ n100_ c100_,.bool b101_,.slice p102_ n102_ c102_,.slice p103_ n103_ c103_,.bool b104_,.bool b105_]∧(∀V27:View,V26.Le V27→Acts prog 16 #[.agg #[.bool b92_,.slice p93_ n93_ c93_,.bool b94_,.slice p95_ n95_ c95_,.bool b96_,.slice p97_ n97_ c97_,.bool b98_,.slice p99_ n99_ c99_,.slice p100_ n100_ c100_,.bool b101_,.slice p102_ n102_ c102_,.slice p103_ n103_ c103_,.bool b104_,.bool b105_]] V27 fun r27_ V28=>∃b106_:Bool,∃(p107_:OA) (n107_ c107_:Nat),∃(p108_:OA) (n108_ c108_:Nat),∃b109_:Bool,∃(p110_:OA) (n110_ c110_:Nat),∃(p111_:OA) (n111_ c111_:Nat),∃b112_:Bool,r27_=.tuple #[.agg #[.bool b106_,.slice p107_ n107_ c107_,.slice p108_ n108_ c108_,.bool b109_,.slice p110_ n110_ c110_,.slice p111_ n111_ c111_],.bool b112_]∧(∀V29:View,V28.Le V29→Acts prog 17 #[.agg #[.bool b92_,.slice p93_ n93_ c93_,.bool b94_,.slice p95_ n95_ c95_,.bool b96_,.slice p97_ n97_ c97_,.bool b98_,.slice p99_ n99_ c99_,.slice p100_ n100_ c100_,.bool b101_,.slice p102_ n102_ c102_,.slice p103_ n103_ c103_,.bool b104_,.bool b105_]] V29 fun r29_ V30=>∃b113_:Bool,∃(p114_:OA) (n114_ c114_:Nat),∃(p115_:OA) (n115_ c115_:Nat),∃b116_:Bool,∃(p117_:OA) (n117_ c117_:Nat),∃(p118_:OA) (n118_ c118_:Nat),∃b119_:Bool,r29_=.tuple #[.agg #[.bool b113_,.slice p114_ n114_ c114_,.slice p115_ n115_ c115_,.bool b116_,.slice p117_ n117_ c117_,.slice p118_ n118_ c118_],.bool b119_]∧(∃I120_:Bool→View→Prop,(((!(b112_ == (!b88_)))=true→(∃z121_:Bool,(sm 0∧sm 0∧sm 0∧sm 0∧(true=z121_)∧sm b5_∧sm p6_∧sm n6_∧sm c6_∧sm p7_∧sm n7_∧sm c7_∧sm b8_∧sm p9_∧sm n9_∧sm c9_∧sm p10_∧sm n10_∧sm c10_∧sm b76_∧sm p77_∧sm n77_∧sm c77_∧sm b78_∧sm p79_∧sm n79_∧sm c79_∧sm b80_∧sm p81_∧sm n81_∧sm c81_∧sm b82_∧sm p83_∧sm n83_∧sm c83_∧sm p84_∧sm n84_∧sm c84_∧sm b85_∧sm p86_∧sm n86_∧sm c86_∧sm p87_∧sm n87_∧sm c87_∧sm b88_∧sm b89_∧sm b92_∧sm p93_∧sm n93_∧sm c93_∧sm b94_∧sm p95_∧sm n95_∧sm c95_∧sm b96_∧sm p97_∧sm n97_∧sm c97_∧sm b98_∧sm p99_∧sm n99_∧sm c99_∧sm p100_∧sm n100_∧sm c100_∧sm b101_∧sm p102_∧sm n102_∧sm c102_∧sm p103_∧sm n103_∧sm c103_∧sm b104_∧sm b105_∧sm p90_∧sm n90_∧sm c90_∧sm x91_)∧I120_ z121_ V30))∧((!(b112_ == (!b88_)))=false→(((!(b119_ == (!b89_)))=true→(∃z122_:Bool,(sm 0∧sm 0∧sm 0∧sm 0∧(true=z122_)∧sm b5_∧sm p6_∧sm n6_∧sm c6_∧sm p7_∧sm n7_∧sm c7_∧sm b8_∧sm p9_∧sm n9_∧sm c9_∧sm p10_∧sm n10_∧sm c10_∧sm b76_∧sm p77_∧sm n77_∧sm c77_∧sm b78_∧sm p79_∧sm n79_∧sm c79_∧sm b80_∧sm p81_∧sm n81_∧sm c81_∧sm b82_∧sm p83_∧sm n83_∧sm c83_∧sm p84_∧sm n84_∧sm c84_∧sm b85_∧sm p86_∧sm n86_∧sm c86_∧sm p87_∧sm n87_∧sm c87_∧sm b88_∧sm b89_∧sm b92_∧sm p93_∧sm n93_∧sm c93_∧sm b94_∧sm p95_∧sm n95_∧sm c95_∧sm b96_∧sm p97_∧sm n97_∧sm c97_∧sm b98_∧sm p99_∧sm n99_∧sm c99_∧sm p100_∧sm n100_∧sm c100_∧sm b101_∧sm p102_∧sm n102_∧sm c102_∧sm p103_∧sm n103_∧sm c103_∧sm b104_∧sm b105_∧sm p90_∧sm n90_∧sm c90_∧sm x91_)∧I120_ z122_ V30))∧((!(b119_ == (!b89_)))=false→((b112_=true→(∀V31:View,V30.Le V31→Acts prog 19 #[.agg #[.bool b76_,.slice p77_ n77_ c77_,.bool b78_,.slice p79_ n79_ c79_,.bool b80_,.slice p81_ n81_ c81_],.agg #[.bool b82_,.slice p83_ n83_ c83_,.slice p84_ n84_ c84_]] V31 fun r31_ V32=>∃b123_:Bool,∃(p124_:OA) (n124_ c124_:Nat),∃(p125_:OA) (n125_ c125_:Nat),∃b126_:Bool,∃(p127_:OA) (n127_ c127_:Nat),∃(p128_:OA) (n128_ c128_:Nat),r31_=.agg #[.bool b123_,.slice p124_ n124_ c124_,.slice p125_ n125_ c125_,.bool b126_,.slice p127_ n127_ c127_,.slice p128_ n128_ c128_]∧(∀V33:View,V32.Le V33→Acts prog 10 #[.agg #[.bool b123_,.slice p124_ n124_ c124_,.slice p125_ n125_ c125_,.bool b126_,.slice p127_ n127_ c127_,.slice p128_ n128_ c128_]] V33 fun r33_ V34=>∃b129_:Bool,∃(p130_:OA) (n130_ c130_:Nat),∃(p131_:OA) (n131_ c131_:Nat),∃b132_:Bool,∃(p133_:OA) (n133_ c133_:Nat),∃(p134_:OA) (n134_ c134_:Nat),r33_=.agg #[.bool b129_,.slice p130_ n130_ c130_,.slice p131_ n131_ c131_,.bool b132_,.slice p133_ n133_ c133_,.slice p134_ n134_ c134_]∧(∀V35:View,V34.Le V35→Acts prog 18 #[.agg #[.bool b106_,.slice p107_ n107_ c107_,.slice p108_ n108_ c108_,.bool b109_,.slice p110_ n110_ c110_,.slice p111_ n111_ c111_],.agg #[.bool b129_,.slice p130_ n130_ c130_,.slice p131_ n131_ c131_,.bool b132_,.slice p133_ n133_ c133_,.slice p134_ n134_ c134_]] V35 fun r35_ V36=>∃b135_:Bool,r35_=.bool b135_∧(((!b135_)=true→(∃z136_:Bool,(sm 0∧sm 0∧sm 0∧sm 0∧(true=z136_)∧sm b5_∧sm p6_∧sm n6_∧sm c6_∧sm p7_∧sm n7_∧sm c7_∧sm b8_∧sm p9_∧sm n9_∧sm c9_∧sm p10_∧sm n10_∧sm c10_∧sm b76_∧sm p77_∧sm n77_∧sm c77_∧sm b78_∧sm p79_∧sm n79_∧sm c79_∧sm b80_∧sm p81_∧sm n81_∧sm c81_∧sm b82_∧sm p83_∧sm n83_∧sm c83_∧sm p84_∧sm n84_∧sm c84_∧sm b85_∧sm p86_∧sm n86_∧sm c86_∧sm p87_∧sm n87_∧sm c87_∧sm b88_∧sm b89_∧sm b92_∧sm p93_∧sm n93_∧sm c93_∧sm b94_∧sm p95_∧sm n95_∧sm c95_∧sm b96_∧sm p97_∧sm n97_∧sm c97_∧sm b98_∧sm p99_∧sm n99_∧sm c99_∧sm p100_∧sm n100_∧sm c100_∧sm b101_∧sm p102_∧sm n102_∧sm c102_∧sm p103_∧sm n103_∧sm c103_∧sm b104_∧sm b105_∧sm p90_∧sm n90_∧sm c90_∧sm x91_)∧I120_ z136_ V36))∧((!b135_)=false→((b119_=true→(∀V37:View,V36.Le V37→Acts prog 19 #[.agg #[.bool b76_,.slice p77_ n77_ c77_,.bool b78_,.slice p79_ n79_ c79_,.bool b80_,.slice p81_ n81_ c81_],.agg #[.bool b85_,.slice p86_ n86_ c86_,.slice p87_ n87_ c87_]] V37 fun r37_ V38=>∃b137_:Bool,∃(p138_:OA) (n138_ c138_:Nat),∃(p139_:OA) (n139_ c139_:Nat),∃b140_:Bool,∃(p141_:OA) (n141_ c141_:Nat),∃(p142_:OA) (n142_ c142_:Nat),r37_=.agg #[.bool b137_,.slice p138_ n138_ c138_,.slice p139_ n139_ c139_,.bool b140_,.slice p141_ n141_ c141_,.slice p142_ n142_ c142_]∧(∀V39:View,V38.Le V39→Acts prog 10 #[.agg #[.bool b137_,.slice p138_ n138_ c138_,.slice p139_ n139_ c139_,.bool b140_,.slice p141_ n141_ c141_,.slice p142_ n142_ c142_]] V39 fun r39_ V40=>∃b143_:Bool,∃(p144_:OA) (n144_ c144_:Nat),∃(p145_:OA) (n145_ c145_:Nat),∃b146_:Bool,∃(p147_:OA) (n147_ c147_:Nat),∃(p148_:OA) (n148_ c148_:Nat),r39_=.agg #[.bool b143_,.slice p144_ n144_ c144_,.slice p145_ n145_ c145_,.bool b146_,.slice p147_ n147_ c147_,.slice p148_ n148_ c148_]∧(∀V41:View,V40.Le V41→Acts prog 18 #[.agg #[.bool b113_,.slice p114_ n114_ c114_,.slice p115_ n115_ c115_,.bool b116_,.slice p117_ n117_ c117_,.slice p118_ n118_ c118_],.agg #[.bool b143_,.slice p144_ n144_ c144_,.slice p145_ n145_ c145_,.bool b146_,.slice p147_ n147_ c147_,.slice p148_ n148_ c148_]] V41 fun r41_ V42=>∃b149_:Bool,r41_=.bool b149_∧(∃z150_:Bool,(sm 0∧sm 0∧sm 0∧sm 0∧((!b149_)=z150_)∧sm b5_∧sm p6_∧sm n6_∧sm c6_∧sm p7_∧sm n7_∧sm c7_∧sm b8_∧sm p9_∧sm n9_∧sm c9_∧sm p10_∧sm n10_∧sm c10_∧sm b76_∧sm p77_∧sm n77_∧sm c77_∧sm b78_∧sm p79_∧sm n79_∧sm c79_∧sm b80_∧sm p81_∧sm n81_∧sm c81_∧sm b82_∧sm p83_∧sm n83_∧sm c83_∧sm p84_∧sm n84_∧sm c84_∧sm b85_∧sm p86_∧sm n86_∧sm c86_∧sm p87_∧sm n87_∧sm c87_∧sm b88_∧sm b89_∧sm b92_∧sm p93_∧sm n93_∧sm c93_∧sm b94_∧sm p95_∧sm n95_∧sm c95_∧sm b96_∧sm p97_∧sm n97_∧sm c97_∧sm b98_∧sm p99_∧sm n99_∧sm c99_∧sm p100_∧sm n100_∧sm c100_∧sm b101_∧sm p102_∧sm n102_∧sm c102_∧sm p103_∧sm n103_∧sm c103_∧sm b104_∧sm b105_∧sm p90_∧sm n90_∧sm c90_∧sm x91_)∧I120_ z150_ V42)))))∧(b119_=false→(∃z151_:Bool,(sm 0∧sm 0∧sm 0∧sm 0∧(false=z151_)∧sm b5_∧sm p6_∧sm n6_∧sm c6_∧sm p7_∧sm n7_∧sm c7_∧sm b8_∧sm p9_∧sm n9_∧sm c9_∧sm p10_∧sm n10_∧sm c10_∧sm b76_∧sm p77_∧sm n77_∧sm c77_∧sm b78_∧sm p79_∧sm n79_∧sm c79_∧sm b80_∧sm p81_∧sm n81_∧sm c81_∧sm b82_∧sm p83_∧sm n83_∧sm c83_∧sm p84_∧sm n84_∧sm c84_∧sm b85_∧sm p86_∧sm n86_∧sm c86_∧sm p87_∧sm n87_∧sm c87_∧sm b88_∧sm b89_∧sm b92_∧sm p93_∧sm n93_∧sm c93_∧sm b94_∧sm p95_∧sm n95_∧sm c95_∧sm b96_∧sm p97_∧sm n97_∧sm c97_∧sm b98_∧sm p99_∧sm n99_∧sm c99_∧sm p100_∧sm n100_∧sm c100_∧sm b101_∧sm p102_∧sm n102_∧sm c102_∧sm p103_∧sm n103_∧sm c103_∧sm b104_∧sm b105_∧sm p90_∧sm n90_∧sm c90_∧sm x91_)∧I120_ z151_ V36)))))))))∧(b112_=false→((b119_=true→(∀V43:View,V30.Le V43→Acts prog 19 #[.agg #[.bool b76_,.slice p77_ n77_ c77_,.bool b78_,.slice p79_ n79_ c79_,.bool b80_,.slice p81_ n81_ c81_],.agg #[.bool b85_,.slice p86_ n86_ c86_,.slice p87_ n87_ c87_]] V43 fun r43_ V44=>∃b152_:Bool,∃(p153_:OA) (n153_ c153_:Nat),∃(p154_:OA) (n154_ c154_:Nat),∃b155_:Bool,∃(p156_:OA) (n156_ c156_:Nat),∃(p157_:OA) (n157_ c157_:Nat),r43_=.agg #[.bool b152_,.slice p153_ n153_ c153_,.slice p154_ n154_ c154_,.bool b155_,.slice p156_ n156_ c156_,.slice p157_ n157_ c157_]∧(∀V45:View,V44.Le V45→Acts prog 10 #[.agg #[.bool b152_,.slice p153_ n153_ c153_,.slice p154_ n154_ c154_,.bool b155_,.slice p156_ n156_ c156_,.slice p157_ n157_ c157_]] V45 fun r45_ V46=>∃b158_:Bool,∃(p159_:OA) (n159_ c159_:Nat),∃(p160_:OA) (n160_ c160_:Nat),∃b161_:Bool,∃(p162_:OA) (n162_ c162_:Nat),∃(p163_:OA) (n163_ c163_:Nat),r45_=.agg #[.bool b158_,.slice p159_ n159_ c159_,.slice p160_ n160_ c160_,.bool b161_,.slice p162_ n162_ c162_,.slice p163_ n163_ c163_]∧(∀V47:View,V46.Le V47→Acts prog 18 #[.agg #[.bool b113_,.slice p114_ n114_ c114_,.slice p115_ n115_ c115_,.bool b116_,.slice p117_ n117_ c117_,.slice p118_ n118_ c118_],.agg #[.bool b158_,.slice p159_ n159_ c159_,.slice p160_ n160_ c160_,.bool b161_,.slice p162_ n162_ c162_,.slice p163_ n163_ c163_]] V47 fun r47_ V48=>∃b164_:Bool,r47_=.bool b164_∧(∃z165_:Bool,(sm 0∧sm 0∧sm 0∧sm 0∧((!b164_)=z165_)∧sm b5_∧sm p6_∧sm n6_∧sm c6_∧sm p7_∧sm n7_∧sm c7_∧sm b8_∧sm p9_∧sm n9_∧sm c9_∧sm p10_∧sm n10_∧sm c10_∧sm b76_∧sm p77_∧sm n77_∧sm c77_∧sm b78_∧sm p79_∧sm n79_∧sm c79_∧sm b80_∧sm p81_∧sm n81_∧sm c81_∧sm b82_∧sm p83_∧sm n83_∧sm c83_∧sm p84_∧sm n84_∧sm c84_∧sm b85_∧sm p86_∧sm n86_∧sm c86_∧sm p87_∧sm n87_∧sm c87_∧sm b88_∧sm b89_∧sm b92_∧sm p93_∧sm n93_∧sm c93_∧sm b94_∧sm p95_∧sm n95_∧sm c95_∧sm b96_∧sm p97_∧sm n97_∧sm c97_∧sm b98_∧sm p99_∧sm n99_∧sm c99_∧sm p100_∧sm n100_∧sm c100_∧sm b101_∧sm p102_∧sm n102_∧sm c102_∧sm p103_∧sm n103_∧sm c103_∧sm b104_∧sm b105_∧sm p90_∧sm n90_∧sm c90_∧sm x91_)∧I120_ z165_ V48)))))∧(b119_=false→(∃z166_:Bool,(sm 0∧sm 0∧sm 0∧sm 0∧(false=z166_)∧sm b5_∧sm p6_∧sm n6_∧sm c6_∧sm p7_∧sm n7_∧sm c7_∧sm b8_∧sm p9_∧sm n9_∧sm c9_∧sm p10_∧sm n10_∧sm c10_∧sm b76_∧sm p77_∧sm n77_∧sm c77_∧sm b78_∧sm p79_∧sm n79_∧sm c79_∧sm b80_∧sm p81_∧sm n81_∧sm c81_∧sm b82_∧sm p83_∧sm n83_∧sm c83_∧sm p84_∧sm n84_∧sm c84_∧sm b85_∧sm p86_∧sm n86_∧sm c86_∧sm p87_∧sm n87_∧sm c87_∧sm b88_∧sm b89_∧sm b92_∧sm p93_∧sm n93_∧sm c93_∧sm b94_∧sm p95_∧sm n95_∧sm c95_∧sm b96_∧sm p97_∧sm n97_∧sm c97_∧sm b98_∧sm p99_∧sm n99_∧sm c99_∧sm p100_∧sm n100_∧sm c100_∧sm b101_∧sm p102_∧sm n102_∧sm c102_∧sm p103_∧sm n103_∧sm c103_∧sm b104_∧sm b105_∧sm p90_∧sm n90_∧sm c90_∧sm x91_)∧I120_ z166_ V30)))))))))∧∀(z167_:Bool) (V49:View),V30.Le V49→I120_ z167_ V49→(true=true∧((z167_=true→(∀V50:View,V49.Le V50→R (.bool false) V50))∧(z167_=false→(∀V51:View,V49.Le V51→∀bk168_:Nat,(V51.w.heap[bk168_]?=some (.cells #[.slice p90_ n90_ c90_,.int .i64 x91_] 105 (0,0)))→(V51.H bk168_)→Acts prog 20 #[.pointer (some ⟨bk168_,0,none⟩)] (V51.lend [bk168_]) fun r51_ V52=>∃b169_:Bool,∃(p170_:OA) (n170_ c170_:Nat),∃(p171_:OA) (n171_ c171_:Nat),r51_=.agg #[.bool b169_,.slice p170_ n170_ c170_,.slice p171_ n171_ c171_]∧∃(p172_:OA) (n172_ c172_:Nat),∃x173_:Int,V52.w.heap[bk168_]?=some (.cells #[.slice p172_ n172_ c172_,.int .i64 x173_] 105 (0,0))∧(∀V53:View,V52.shut.Le V53→Acts prog 19 #[.agg #[.bool b76_,.slice p77_ n77_ c77_,.bool b78_,.slice p79_ n79_ c79_,.bool b80_,.slice p81_ n81_ c81_],.agg #[.bool b169_,.slice p170_ n170_ c170_,.slice p171_ n171_ c171_]] V53 fun r53_ V54=>∃b174_:Bool,∃(p175_:OA) (n175_ c175_:Nat),∃(p176_:OA) (n176_ c176_:Nat),∃b177_:Bool,∃(p178_:OA) (n178_ c178_:Nat),∃(p179_:OA) (n179_ c179_:Nat),r53_=.agg #[.bool b174_,.slice p175_ n175_ c175_,.slice p176_ n176_ c176_,.bool b177_,.slice p178_ n178_ c178_,.slice p179_ n179_ c179_]∧(∀V55:View,V54.Le V55→Acts prog 10 #[.agg #[.bool b174_,.slice p175_ n175_ c175_,.slice p176_ n176_ c176_,.bool b177_,.slice p178_ n178_ c178_,.slice p179_ n179_ c179_]] V55 fun r55_ V56=>∃b180_:Bool,∃(p181_:OA) (n181_ c181_:Nat),∃(p182_:OA) (n182_ c182_:Nat),∃b183_:Bool,∃(p184_:OA) (n184_ c184_:Nat),∃(p185_:OA) (n185_ c185_:Nat),r55_=.agg #[.bool b180_,.slice p181_ n181_ c181_,.slice p182_ n182_ c182_,.bool b183_,.slice p184_ n184_ c184_,.slice p185_ n185_ c185_]∧(∀V57:View,V56.Le V57→Acts prog 21 #[.agg #[.bool b92_,.slice p93_ n93_ c93_,.bool b94_,.slice p95_ n95_ c95_,.bool b96_,.slice p97_ n97_ c97_,.bool b98_,.slice p99_ n99_ c99_,.slice p100_ n100_ c100_,.bool b101_,.slice p102_ n102_ c102_,.slice p103_ n103_ c103_,.bool b104_,.bool b105_],.agg #[.bool b180_,.slice p181_ n181_ c181_,.slice p182_ n182_ c182_,.bool b183_,.slice p184_ n184_ c184_,.slice p185_ n185_ c185_]] V57 fun r57_ V58=>∃b186_:Bool,∃y187_:Value,r57_=.tuple #[.bool b186_,y187_]∧(∀V59:View,V58.Le V59→Acts prog 10 #[.agg #[.bool b5_,.slice p6_ n6_ c6_,.slice p7_ n7_ c7_,.bool b8_,.slice p9_ n9_ c9_,.slice p10_ n10_ c10_]] V59 fun r59_ V60=>∃b188_:Bool,∃(p189_:OA) (n189_ c189_:Nat),∃(p190_:OA) (n190_ c190_:Nat),∃b191_:Bool,∃(p192_:OA) (n192_ c192_:Nat),∃(p193_:OA) (n193_ c193_:Nat),r59_=.agg #[.bool b188_,.slice p189_ n189_ c189_,.slice p190_ n190_ c190_,.bool b191_,.slice p192_ n192_ c192_,.slice p193_ n193_ c193_]∧(∀V61:View,V60.Le V61→Acts prog 21 #[.agg #[.bool b92_,.slice p93_ n93_ c93_,.bool b94_,.slice p95_ n95_ c95_,.bool b96_,.slice p97_ n97_ c97_,.bool b98_,.slice p99_ n99_ c99_,.slice p100_ n100_ c100_,.bool b101_,.slice p102_ n102_ c102_,.slice p103_ n103_ c103_,.bool b104_,.bool b105_],.agg #[.bool b188_,.slice p189_ n189_ c189_,.slice p190_ n190_ c190_,.bool b191_,.slice p192_ n192_ c192_,.slice p193_ n193_ c193_]] V61 fun r61_ V62=>∃b194_:Bool,∃y195_:Value,r61_=.tuple #[.bool b194_,y195_]∧(∀V63:View,V62.Le V63→Acts prog 22 #[.agg #[.bool b92_,.slice p93_ n93_ c93_,.bool b94_,.slice p95_ n95_ c95_,.bool b96_,.slice p97_ n97_ c97_,.bool b98_,.slice p99_ n99_ c99_,.slice p100_ n100_ c100_,.bool b101_,.slice p102_ n102_ c102_,.slice p103_ n103_ c103_,.bool b104_,.bool b105_]] V63 fun r63_ V64=>∃b196_:Bool,∃(p197_:OA) (n197_ c197_:Nat),∃b198_:Bool,∃(p199_:OA) (n199_ c199_:Nat),∃b200_:Bool,∃(p201_:OA) (n201_ c201_:Nat),∃b202_:Bool,∃(p203_:OA) (n203_ c203_:Nat),∃(p204_:OA) (n204_ c204_:Nat),∃b205_:Bool,∃(p206_:OA) (n206_ c206_:Nat),∃(p207_:OA) (n207_ c207_:Nat),∃b208_:Bool,∃b209_:Bool,∃y210_:Value,r63_=.tuple #[.agg #[.bool b196_,.slice p197_ n197_ c197_,.bool b198_,.slice p199_ n199_ c199_,.bool b200_,.slice p201_ n201_ c201_,.bool b202_,.slice p203_ n203_ c203_,.slice p204_ n204_ c204_,.bool b205_,.slice p206_ n206_ c206_,.slice p207_ n207_ c207_,.bool b208_,.bool b209_],y210_]∧(∃I211_:Bool→View→Prop,(∀V65:View,V64.Le V65→Acts prog 23 #[] V65 fun r65_ V66=>∃b212_:Bool,r65_=.bool b212_∧((b212_=true→(IsIface y187_)∧(((isNilI y187_)=true→(IsIface y195_)∧(((isNilI y195_)=true→(IsIface y210_)∧(((isNilI y210_)=true→(∀V67:View,V66.Le V67→Acts prog 24 #[.agg #[.bool b76_,.slice p77_ n77_ c77_,.bool b78_,.slice p79_ n79_ c79_,.bool b80_,.slice p81_ n81_ c81_,.bool b82_,.slice p83_ n83_ c83_,.slice p84_ n84_ c84_,.bool b85_,.slice p86_ n86_ c86_,.slice p87_ n87_ c87_,.bool b88_,.bool b89_],.agg #[.bool b174_,.slice p175_ n175_ c175_,.slice p176_ n176_ c176_,.bool b177_,.slice p178_ n178_ c178_,.slice p179_ n179_ c179_]] V67 fun r67_ V68=>∃b213_:Bool,r67_=.bool b213_∧(((b186_ == b213_)=true→(∀V69:View,V68.Le V69→Acts prog 24 #[.agg #[.bool b76_,.slice p77_ n77_ c77_,.bool b78_,.slice p79_ n79_ c79_,.bool b80_,.slice p81_ n81_ c81_,.bool b82_,.slice p83_ n83_ c83_,.slice p84_ n84_ c84_,.bool b85_,.slice p86_ n86_ c86_,.slice p87_ n87_ c87_,.bool b88_,.bool b89_],.agg #[.bool b5_,.slice p6_ n6_ c6_,.slice p7_ n7_ c7_,.bool b8_,.slice p9_ n9_ c9_,.slice p10_ n10_ c10_]] V69 fun r69_ V70=>∃b214_:Bool,r69_=.bool b214_∧(((b194_ == b214_)=true→(∀V71:View,V70.Le V71→Acts prog 25 #[.agg #[.bool b76_,.slice p77_ n77_ c77_,.bool b78_,.slice p79_ n79_ c79_,.bool b80_,.slice p81_ n81_ c81_,.bool b82_,.slice p83_ n83_ c83_,.slice p84_ n84_ c84_,.bool b85_,.slice p86_ n86_ c86_,.slice p87_ n87_ c87_,.bool b88_,.bool b89_]] V71 fun r71_ V72=>∃b215_:Bool,∃(p216_:OA) (n216_ c216_:Nat),∃b217_:Bool,∃(p218_:OA) (n218_ c218_:Nat),∃b219_:Bool,∃(p220_:OA) (n220_ c220_:Nat),∃b221_:Bool,∃(p222_:OA) (n222_ c222_:Nat),∃(p223_:OA) (n223_ c223_:Nat),∃b224_:Bool,∃(p225_:OA) (n225_ c225_:Nat),∃(p226_:OA) (n226_ c226_:Nat),∃b227_:Bool,∃b228_:Bool,r71_=.agg #[.bool b215_,.slice p216_ n216_ c216_,.bool b217_,.slice p218_ n218_ c218_,.bool b219_,.slice p220_ n220_ c220_,.bool b221_,.slice p222_ n222_ c222_,.slice p223_ n223_ c223_,.bool b224_,.slice p225_ n225_ c225_,.slice p226_ n226_ c226_,.bool b227_,.bool b228_]∧(∀V73:View,V72.Le V73→Acts prog 12 #[.agg #[.bool b196_,.slice p197_ n197_ c197_,.bool b198_,.slice p199_ n199_ c199_,.bool b200_,.slice p201_ n201_ c201_,.bool b202_,.slice p203_ n203_ c203_,.slice p204_ n204_ c204_,.bool b205_,.slice p206_ n206_ c206_,.slice p207_ n207_ c207_,.bool b208_,.bool b209_],.agg #[.bool b215_,.slice p216_ n216_ c216_,.bool b217_,.slice p218_ n218_ c218_,.bool b219_,.slice p220_ n220_ c220_,.bool b221_,.slice p222_ n222_ c222_,.slice p223_ n223_ c223_,.bool b224_,.slice p225_ n225_ c225_,.slice p226_ n226_ c226_,.bool b227_,.bool b228_]] V73 fun r73_ V74=>∃b229_:Bool,r73_=.bool b229_∧(∃z230_:Bool,((b229_=z230_))∧I211_ z230_ V74))))∧((b194_ == b214_)=false→(∃z231_:Bool,((false=z231_))∧I211_ z231_ V70)))))∧((b186_ == b213_)=false→(∃z232_:Bool,((false=z232_))∧I211_ z232_ V68)))))∧((isNilI y210_)=false→(∃z233_:Bool,((false=z233_))∧I211_ z233_ V66))))∧((isNilI y195_)=false→(∃z234_:Bool,((false=z234_))∧I211_ z234_ V66))))∧((isNilI y187_)=false→(∃z235_:Bool,((false=z235_))∧I211_ z235_ V66))))∧(b212_=false→(∃z236_:Bool,((false=z236_))∧I211_ z236_ V66))))∧∀(z237_:Bool) (V75:View),V64.Le V75→I211_ z237_ V75→(true=true∧(∀V76:View,V75.Le V76→R (.bool z237_) V76)))))))))))))))))))))))))))))) :
    Acts prog 3 #[.slice lp ln lc] V R:=
  fn_does (LF:=LF0) (RF:=[1000007]) (β0:=(fun _=>0)) tab_ok mixed [] [(600005,{ τ:=Bool,keep:=[3,4],keepB:=[4,24],slots:=fun z=>[(63,.c (.v (.bool z)))],boxes:=fun z=>[] }),(600011,{ τ:=Bool,keep:=[3,4,10,11],keepB:=[4,10,11,24],slots:=fun z=>[(121,.c (.v (.bool z)))],boxes:=fun z=>[] }),(600017,{ τ:=Bool,keep:=[],keepB:=[],slots:=fun z=>[(2,.c (.v (.bool z)))],boxes:=fun z=>[] })] func3 (by kernel_rfl)
    [(0,.c (.v (.slice lp ln lc)))]
    [] (by kernel_rfl) trivial h (by kernel_rfl)
end Go.Proofs.Tryz
/- Law 07: same, same0, known; the law FragmentEnds. -/
namespace Go.Proofs.Tryz
open Go.Eng Go.Big
theorem c_same {V:View} {v w:Value} {l:L3} {s:Sp} (h:RFa V v l s) (h':RF V w l s) {k:Nat} (sl:SzL k l) (hs:s.sz k) (hk:k≤1099511627776) :
    Acts prog 12 #[v,w] V fun r V'=>r=.bool true:=by
  have h0:=h
  have h0':=h'
  obtain ⟨_,_,_,_,_,_,_,_,_,_,_,_,_,_,_,_,_,_,_,_,_,_,_,_,_,_,rfl⟩:=fa_shape h
  obtain ⟨_,_,_,_,_,_,_,_,_,_,_,_,_,_,_,_,_,_,_,_,_,_,_,_,_,_,rfl⟩:=rf_shape h'
  refine vc_law07_same _ _ _ _ _ _ _ _ _ _ _ _ _ _ _ _ _ _ _ _ _ _ _ _ _ _ _ _ _ _ _ _ _ _ _ _ _ _ _ _ _ _ _ _ _ _ _ _ _ _ _ _ _ _ _ _ V _ fun V1 l1=>(c_ref06_WriteF (h0'.le l1) sl hs hk).mono ?_
  rintro r V2 l2 g
  have g0:=g
  obtain ⟨_,_,_,_,_,_,_,_,_,_,_,_,_,_,_,_,_,_,_,_,_,_,_,_,_,_,rfl⟩:=fa_shape g
  refine ⟨_,_,_,_,_,_,_,_,_,_,_,_,_,_,_,_,_,_,_,_,_,_,_,_,_,_,_,_,rfl,fun V3 l3 bk1 bk2 b1 b2=>?_⟩
  have one:∀{bk:Nat} {xs:List Value} {ty:TypeId},V3.blk bk (.cells xs.toArray ty (0,0))→RFa V3 (.agg xs.toArray) l s→RFas V3 (some ⟨bk,0,none⟩) 1 [(l,s)]:=by
    intro bk xs ty hb hf
    refine ⟨rfl,fun i hi=>?_⟩
    obtain rfl:i=0:=by simpa using hi
    refine ⟨⟨bk,0,none⟩,by simp [addrAdd,add_zero'],_,hf,fun j x hx=>?_⟩
    rw [add_zero']
    exact blk_at hb hx
  refine (c_SameFs_same (fs:=[(l,s)]) (one b1 (h0.le (l1.trans (l2.trans l3)))) (one b2 (g0.le l3)) (k:=k) (by intro f hf; rw [List.mem_singleton] at hf; subst hf; exact ⟨sl,hs⟩) hk (by simp)).mono ?_
  rintro r V4 l4 rfl
  exact ⟨_,rfl,fun J V5 l5=>rfl⟩
theorem rl0 (V:View):RL V (.agg #[.bool false,.slice none 0 0,.bool false,.slice none 0 0,.bool false,.slice none 0 0]) 0 0 0:=⟨_,_,_,_,_,_,_,_,_,rfl,RD.nil,RD.nil,RD.nil⟩
theorem c_same0 {V:View} {v:Value} (h:FZero v):Acts prog 13 #[v] V fun r V'=>r=.bool true:=by
  obtain rfl:=h
  refine vc_law07_same0 _ _ _ _ _ _ _ _ _ _ _ _ _ _ _ _ _ _ _ _ _ _ _ _ _ _ _ _ V _ fun V1 l1=>(c_ref04_SameL (rl0 V1) (rl0 V1) (by decide) (by decide) (by decide)).mono ?_
  rintro r V2 l2 rfl
  exact ⟨_,rfl,fun _=>⟨fun _=>⟨fun _ V3 l3=>rfl,(fun h=>nomatch h)⟩,(fun h=>nomatch h)⟩,(by intro h; simp at h)⟩
theorem at_known:atX (thrL ((0:Int):Rat) ((0:Int):Rat) ((2:Int):Rat) ((0:Int):Rat)) (segS ((0:Int):Rat) ((0:Int):Rat) ((2:Int):Rat) ((0:Int):Rat)).hi=((2:Int):Rat) ∧
    atY (thrL ((0:Int):Rat) ((0:Int):Rat) ((2:Int):Rat) ((0:Int):Rat)) (segS ((0:Int):Rat) ((0:Int):Rat) ((2:Int):Rat) ((0:Int):Rat)).hi=((0:Int):Rat):=by decide +kernel
theorem c_known7 {V:View}:Acts prog 23 #[] V fun r V'=>r=.bool true:=by
  have s0:Sz 10 ((0:Int):Rat):=sz4 (by omega)
  have s2:Sz 10 ((2:Int):Rat):=sz4 (by omega)
  have ne:¬ (((0:Int):Rat)=((2:Int):Rat)∧((0:Int):Rat)=((0:Int):Rat)):=by decide
  have sl:=sz_thrL s0 s0 s2 s0 ne
  have ss:=sz_segS s0 s0 s2 s0 ne
  have sl':SzL 5000 (thrL ((0:Int):Rat) ((0:Int):Rat) ((2:Int):Rat) ((0:Int):Rat)):=⟨Sz.mono sl.1 (by omega),Sz.mono sl.2.1 (by omega),Sz.mono sl.2.2 (by omega)⟩
  have ss':(segS ((0:Int):Rat) ((0:Int):Rat) ((2:Int):Rat) ((0:Int):Rat)).sz 5000:=⟨Sz.mono ss.1 (by omega),Sz.mono ss.2 (by omega)⟩
  have ok:=seg_ok ne
  refine vc_law07_known V _ fun V1 l1=>(c_FromInts 0 0 (by omega) (by omega) (by omega) (by omega)).mono ?_
  rintro r V2 l2 g1
  have g10:=g1
  obtain ⟨_,_,_,_,_,_,_,_,_,_,_,_,_,_,rfl⟩:=ap_shape g1
  refine ⟨_,_,_,_,_,_,_,_,_,_,_,_,_,_,rfl,fun V3 l3=>(c_FromInts 2 0 (by omega) (by omega) (by omega) (by omega)).mono ?_⟩
  rintro r V4 l4 g2
  have g20:=g2
  obtain ⟨_,_,_,_,_,_,_,_,_,_,_,_,_,_,rfl⟩:=ap_shape g2
  refine ⟨_,_,_,_,_,_,_,_,_,_,_,_,_,_,rfl,fun V5 l5=>(c_FromPoints (g10.le (l3.trans (l4.trans l5))) (g20.le l5) s0 s0 s2 s0 (by omega)).mono ?_⟩
  rintro r V6 l6 ⟨-,m2⟩
  obtain ⟨f,rfl,gf⟩:=m2 ne
  have gf0:=gf
  obtain ⟨_,_,_,_,_,_,_,_,_,_,_,_,_,_,_,_,_,_,_,_,_,_,_,_,_,_,rfl⟩:=fa_shape gf
  refine ⟨_,_,_,_,_,_,_,_,_,_,_,_,_,_,_,_,_,_,_,_,_,_,_,_,_,_,_,_,_,rfl,fun V7 l7=>(c_End (gf0.le l7) ok sl' ss' (by omega)).mono ?_⟩
  rintro r V8 l8 ⟨w,rfl,e1,-⟩
  have e1:=e1 rfl
  rw [at_known.1,at_known.2] at e1
  have e10:=e1
  obtain ⟨_,_,_,_,_,_,_,_,_,_,_,_,_,_,rfl⟩:=ap_shape e1
  refine ⟨_,_,_,_,_,_,_,_,_,_,_,_,_,_,_,rfl,fun _=>⟨fun _ V9 l9=>(c_Valid_ok (gf0.le (l7.trans (l8.trans l9))) ok sl' ss' (by omega)).mono ?_,(fun h=>nomatch h)⟩,(fun h=>nomatch h)⟩
  rintro r V10 l10 rfl
  refine ⟨_,rfl,fun _ V11 l11=>(c_FromInts 2 0 (by omega) (by omega) (by omega) (by omega)).mono ?_,(fun h=>nomatch h)⟩
  rintro r V12 l12 g3
  have g30:=g3
  obtain ⟨_,_,_,_,_,_,_,_,_,_,_,_,_,_,rfl⟩:=ap_shape g3
  refine ⟨_,_,_,_,_,_,_,_,_,_,_,_,_,_,rfl,fun V13 l13=>(c_point_Same (e10.le (l9.trans (l10.trans (l11.trans (l12.trans l13))))) (g30.le l13) s2 s0 s2 s0 (by omega)).mono ?_⟩
  rintro r V14 l14 rfl
  exact ⟨_,rfl,fun V15 l15=>by simp⟩
theorem iface_nil:IsIface .nilIface:=.inl rfl
theorem c_FragmentEnds {V:View} {lp:OA} {ln lc:Nat} (hr:Rdl V lp ln) (hc:ln≤lc) :
    Acts prog 3 #[.slice lp ln lc] V fun r V'=>r=.bool true:=by
  refine vc_law07_FragmentEnds lp ln lc V _ fun V1 l1=>(c_scene_New hc).mono ?_
  rintro r V2 l2 ⟨bk1,rfl,hfr,hb⟩
  refine ⟨bk1,_,_,_,_,rfl,hfr,hb,fun V3 l3 bk4 e4 h4=>?_⟩
  have l13:V1.Le V3:=le_fresh l2 hfr l3
  have hmin:min ln 400≤400:=Nat.min_le_right _ _
  have hr:Rdl V lp (min ln 400):=fun i hi=>hr i (Nat.lt_of_lt_of_le hi (Nat.min_le_left _ _))
  generalize min ln 400=n at *
  have l03:V.Le V3:=l1.trans l13
  refine (c_Point (V:=V3.lend [bk4]) (hr.le fun b o h=>l03 b o h) hmin e4 ⟨by simp,h4⟩ (Int.le_refl 0)).mono ?_
  rintro r V4 l4 ⟨px,py,at1,gp,sp1,sp2,t1,hw1⟩
  have gp0:=gp
  obtain ⟨_,_,_,_,_,_,_,_,_,_,_,_,_,_,rfl⟩:=rp_shape gp
  refine ⟨_,_,_,_,_,_,_,_,_,_,_,_,_,_,rfl,_,_,_,_,hw1,fun V5 l5 bk13 e5 h5=>(c_Point (V:=V5.lend [bk13]) (hr.le fun b o h=>l5 b o (l4 b o (l03 b o h))) hmin e5 ⟨by simp,h5⟩ t1).mono ?_⟩
  rintro r V6 l6 ⟨qx,qy,at2,gq,sq1,sq2,t2,hw2⟩
  have gq0:=gq
  obtain ⟨_,_,_,_,_,_,_,_,_,_,_,_,_,_,rfl⟩:=rp_shape gq
  have l46:V4.Le V6:=fun b o h=>l6 b o (l5 b o h)
  have l06:V.Le V6:=fun b o h=>l46 b o (l4 b o (l03 b o h))
  refine ⟨_,_,_,_,_,_,_,_,_,_,_,_,_,_,rfl,_,_,_,_,hw2,fun V7 l7=>?_⟩
  replace l7:V6.Le V7:=fun b o h=>l7 b o h
  refine (c_ref04_ToP (gp0.le (l46.trans l7)) sp1 sp2 (by omega)).mono ?_
  rintro r V8 l8 ga
  have ga0:=ga
  obtain ⟨_,_,_,_,_,_,_,_,_,_,_,_,_,_,rfl⟩:=ap_shape ga
  refine ⟨_,_,_,_,_,_,_,_,_,_,_,_,_,_,rfl,fun V9 l9=>(c_ref04_ToP (gq0.le (l7.trans (l8.trans l9))) sq1 sq2 (by omega)).mono ?_⟩
  rintro r V10 l10 gb
  have gb0:=gb
  obtain ⟨_,_,_,_,_,_,_,_,_,_,_,_,_,_,rfl⟩:=ap_shape gb
  refine ⟨_,_,_,_,_,_,_,_,_,_,_,_,_,_,rfl,fun V11 l11=>(c_FromPoints (ga0.le (l9.trans (l10.trans l11))) (gb0.le l11) sp1 sp2 sq1 sq2 (by omega)).mono ?_⟩
  rintro r V12 l12 mx
  have l6_12:V6.Le V12:=l7.trans (l8.trans (l9.trans (l10.trans (l11.trans l12))))
  -- the first test: both make a segment, and the same
  have hx:∃x ok,r=.tuple #[x,.bool ok]∧ok=decide (¬ (px=qx∧py=qy))∧(px=qx∧py=qy→FZero x)∧(¬ (px=qx∧py=qy)→RFa V12 x (thrL px py qx qy) (segS px py qx qy)):=by
    by_cases h:px=qx∧py=qy
    · obtain ⟨x,rfl,hz⟩:=mx.1 h
      exact ⟨x,false,rfl,by simp [h],fun _=>hz,fun h'=>absurd h h'⟩
    · obtain ⟨x,rfl,hz⟩:=mx.2 h
      exact ⟨x,true,rfl,by simp [h],fun h'=>absurd h' h,fun _=>hz⟩
  clear mx
  obtain ⟨x,ok,rfl,hok,x1,x2⟩:=hx
  have xs:∃b1 p1 n1 c1 b2 p2 n2 c2 b3 p3 n3 c3 b p n c p' n' c' d q m e q' m' e' b4 b5,x=.agg #[.bool b1,.slice p1 n1 c1,.bool b2,.slice p2 n2 c2,.bool b3,.slice p3 n3 c3,.bool b,.slice p n c,.slice p' n' c',.bool d,.slice q m e,.slice q' m' e',.bool b4,.bool b5]:=by
    by_cases h:px=qx∧py=qy
    · exact ⟨_,_,_,_,_,_,_,_,_,_,_,_,_,_,_,_,_,_,_,_,_,_,_,_,_,_,_,_,x1 h⟩
    · obtain ⟨_,_,_,_,_,_,_,_,_,_,_,_,_,_,_,_,_,_,_,_,_,_,_,_,_,_,e⟩:=fa_shape (x2 h)
      exact ⟨_,_,_,_,_,_,_,_,_,_,_,_,_,_,_,_,_,_,_,_,_,_,_,_,_,_,_,_,e⟩
  obtain ⟨_,_,_,_,_,_,_,_,_,_,_,_,_,_,_,_,_,_,_,_,_,_,_,_,_,_,_,_,rfl⟩:=xs
  refine ⟨_,_,_,_,_,_,_,_,_,_,_,_,_,_,_,_,_,_,_,_,_,_,_,_,_,_,_,_,_,rfl,fun V13 l13'=>(c_ref06_Segment (gp0.le (l46.trans (l6_12.trans l13'))) (gq0.le (l6_12.trans l13')) sp1 sp2 sq1 sq2 (by omega) (by omega)).mono ?_⟩
  rintro r V14 l14 my
  have hy:∃y fine,r=.tuple #[y,.bool fine]∧fine=decide (¬ (px=qx∧py=qy))∧(∃l s,RF V14 y l s∧(¬ (px=qx∧py=qy)→l=thrL px py qx qy∧s=segS px py qx qy)):=by
    by_cases h:px=qx∧py=qy
    · obtain ⟨y,rfl,hz⟩:=my.1 h
      exact ⟨y,false,rfl,by simp [h],_,_,hz,fun h'=>absurd h h'⟩
    · obtain ⟨y,rfl,hz⟩:=my.2 h
      exact ⟨y,true,rfl,by simp [h],_,_,hz,fun _=>⟨rfl,rfl⟩⟩
  clear my
  obtain ⟨y,fine,rfl,hfine,ly,sy,y0,y2⟩:=hy
  have y00:=y0
  obtain ⟨_,_,_,_,_,_,_,_,_,_,_,_,_,_,_,_,_,_,_,_,_,_,_,_,_,_,rfl⟩:=rf_shape y0
  subst hok hfine
  have l12_14:=l13'.trans l14
  refine ⟨_,_,_,_,_,_,_,_,_,_,_,_,_,_,_,_,_,_,_,_,_,_,_,_,_,_,_,_,_,rfl,fun z V'=>z=false,⟨(by intro h; simp at h),fun _=>⟨fun h V15 l15=>?_,fun h=>⟨fun _ V19 l19=>?_,(by intro h'; rw [h] at h'; cases h')⟩⟩⟩,?_⟩
  · have h:=of_decide_eq_true h
    obtain ⟨rfl,rfl⟩:=y2 h
    have sl:=sz_thrL sp1 sp2 sq1 sq2 h
    have ss:=sz_segS sp1 sp2 sq1 sq2 h
    refine (c_same ((x2 h).le (l12_14.trans l15)) (y00.le l15) (k:=5000) ⟨Sz.mono sl.1 (by omega),Sz.mono sl.2.1 (by omega),Sz.mono sl.2.2 (by omega)⟩ ⟨Sz.mono ss.1 (by omega),Sz.mono ss.2 (by omega)⟩ (by omega)).mono ?_
    rintro r V16 l16 rfl
    exact ⟨_,rfl,(fun h=>nomatch h),fun _=>⟨(by intro h'; simp at h'; exact absurd (h'.1) (fun e=>h ⟨h'.1,h'.2⟩)),fun _=>⟨false,by and_intros <;> rfl,rfl⟩⟩⟩
  · have h:px=qx∧py=qy:=by simpa using h
    refine (c_same0 (x1 h)).mono ?_
    rintro r V20 l20 rfl
    exact ⟨_,rfl,false,by and_intros <;> rfl,rfl⟩
  clear x1 x2 y2 y00
  rintro z V21 l21 rfl
  refine ⟨rfl,(fun h=>nomatch h),fun _ V23 l23 bk75 e23 h23=>?_⟩
  have l6_23:V6.Le V23:=l6_12.trans (l12_14.trans (l21.trans l23))
  have l4_23:V4.Le V23:=l46.trans l6_23
  have l0_23:V.Le V23:=l06.trans l6_23
  refine (c_F (V:=V23.lend [bk75]) (hr.le fun b o h=>l0_23 b o h) hmin e23 ⟨by simp,h23⟩ t2).mono ?_
  rintro r V24 l24 ⟨l,s,at3,gf,fok,sl,ss,t3,hw3⟩
  have gf0:=gf
  obtain ⟨_,_,_,_,_,_,_,_,_,_,_,_,_,_,_,_,_,_,_,_,_,_,_,_,_,_,rfl⟩:=rf_shape gf
  have l4_24:V4.Le V24:=fun b o h=>l24 b o (l4_23 b o h)
  have l0_24:V.Le V24:=fun b o h=>l24 b o (l0_23 b o h)
  have nz:=okL_nz fok.1
  obtain ⟨K,hK⟩:∃K:Nat,K=5000:=⟨5000,rfl⟩
  obtain ⟨M,hM⟩:∃M:Nat,M=20 * K + 19:=⟨_,rfl⟩
  rw [← hK] at sl ss
  refine ⟨_,_,_,_,_,_,_,_,_,_,_,_,_,_,_,_,_,_,_,_,_,_,_,_,_,_,_,_,rfl,_,_,_,_,hw3,fun V25 l25=>?_⟩
  replace l25:V24.Le V25:=fun b o h=>l25 b o h
  refine (c_ref06_WriteF (gf0.le l25) sl ss (by omega)).mono ?_
  rintro r V26 l26 gz
  have gz0:=gz
  obtain ⟨_,_,_,_,_,_,_,_,_,_,_,_,_,_,_,_,_,_,_,_,_,_,_,_,_,_,rfl⟩:=fa_shape gz
  refine ⟨_,_,_,_,_,_,_,_,_,_,_,_,_,_,_,_,_,_,_,_,_,_,_,_,_,_,_,_,rfl,fun V27 l27=>(c_Start (gz0.le l27) fok sl ss (by omega)).mono ?_⟩
  rintro r V28 l28 ⟨a,rfl,a1,a2⟩
  have a10:=a1
  obtain ⟨_,_,_,_,_,_,_,_,_,_,_,_,_,_,rfl⟩:=end_shape a1 a2
  refine ⟨_,_,_,_,_,_,_,_,_,_,_,_,_,_,_,rfl,fun V29 l29=>(c_End (gz0.le (l27.trans (l28.trans l29))) fok sl ss (by omega)).mono ?_⟩
  rintro r V30 l30 ⟨b,rfl,b1,b2⟩
  have b10:=b1
  obtain ⟨_,_,_,_,_,_,_,_,_,_,_,_,_,_,rfl⟩:=end_shape b1 b2
  have l24_30:V24.Le V30:=l25.trans (l26.trans (l27.trans (l28.trans (l29.trans l30))))
  have l26_30:V26.Le V30:=l27.trans (l28.trans (l29.trans l30))
  -- the second test
  obtain ⟨_,_,_,_,_,_,_,_,_,_,_,_,_,_,_,_,_,_,_,_,_,_,_,_,_,_,ef,fl,fs⟩:=gf0
  have ef':=congrArg Array.toList (Value.agg.inj ef)
  simp only [List.cons.injEq,Value.bool.injEq,Value.slice.injEq,and_true] at ef'
  obtain ⟨rfl,⟨rfl,rfl,rfl⟩,rfl,⟨rfl,rfl,rfl⟩,rfl,⟨rfl,rfl,rfl⟩,rfl,⟨rfl,rfl,rfl⟩,⟨rfl,rfl,rfl⟩,rfl,⟨rfl,rfl,rfl⟩,⟨rfl,rfl,rfl⟩⟩:=ef'
  clear ef
  have gf0:RF V24 _ l s:=⟨_,_,_,_,_,_,_,_,_,_,_,_,_,_,_,_,_,_,_,_,_,_,_,_,_,_,rfl,fl,fs⟩
  obtain ⟨_,_,_,_,_,_,_,_,_,_,_,_,_,_,es,flo,fhi⟩:=fs
  have es':=congrArg Array.toList (Value.agg.inj es)
  simp only [List.cons.injEq,Value.bool.injEq,Value.slice.injEq,and_true] at es'
  obtain ⟨rfl,⟨rfl,rfl,rfl⟩,⟨rfl,rfl,rfl⟩,rfl,⟨rfl,rfl,rfl⟩,⟨rfl,rfl,rfl⟩⟩:=es'
  clear es
  have sx1:∀{t:Rat},Sz K t→Sz M (atX l t):=fun h=>by rw [hM]; exact sz_atX sl h
  have sx2:∀{t:Rat},Sz K t→Sz M (atY l t):=fun h=>by rw [hM]; exact sz_atY sl h
  refine ⟨_,_,_,_,_,_,_,_,_,_,_,_,_,_,_,rfl,fun z V'=>z=false,⟨(by intro h; simp at h),fun _=>⟨(by intro h; simp at h),fun _=>⟨fun ha V31 l31=>?_,fun ha=>⟨fun hb V43 l43=>?_,fun hb=>⟨false,by and_intros <;> rfl,rfl⟩⟩⟩⟩⟩,?_⟩
  · have ha:s.a=false:=by simpa using ha
    refine (r_At (fl.le (l24_30.trans l31)) (flo.le (l24_30.trans l31)) nz sl ss.1 (by omega)).mono ?_
    rintro r V32 l32 g1
    have g10:=g1
    obtain ⟨_,_,_,_,_,_,_,_,_,_,_,_,_,_,rfl⟩:=rp_shape g1
    refine ⟨_,_,_,_,_,_,_,_,_,_,_,_,_,_,rfl,fun V33 l33=>(c_ref04_ToP (g10.le l33) (sx1 ss.1) (sx2 ss.1) (by omega)).mono ?_⟩
    rintro r V34 l34 g2
    have g20:=g2
    obtain ⟨_,_,_,_,_,_,_,_,_,_,_,_,_,_,rfl⟩:=ap_shape g2
    refine ⟨_,_,_,_,_,_,_,_,_,_,_,_,_,_,rfl,fun V35 l35=>(c_ref04_SameP ((a10 ha).le (l29.trans (l30.trans (l31.trans (l32.trans (l33.trans (l34.trans l35))))))) (g20.le l35) (sx1 ss.1) (sx2 ss.1) (by omega)).mono ?_⟩
    rintro r V36 l36 rfl
    refine ⟨_,rfl,(by intro h; simp at h),fun _=>⟨fun hb V37 l37=>?_,fun hb=>⟨false,by and_intros <;> rfl,rfl⟩⟩⟩
    have hb:s.b=false:=by simpa using hb
    have l30_37:V30.Le V37:=l31.trans (l32.trans (l33.trans (l34.trans (l35.trans (l36.trans l37)))))
    refine (r_At (fl.le (l24_30.trans l30_37)) (fhi.le (l24_30.trans l30_37)) nz sl ss.2 (by omega)).mono ?_
    rintro r V38 l38 g3
    have g30:=g3
    obtain ⟨_,_,_,_,_,_,_,_,_,_,_,_,_,_,rfl⟩:=rp_shape g3
    refine ⟨_,_,_,_,_,_,_,_,_,_,_,_,_,_,rfl,fun V39 l39=>(c_ref04_ToP (g30.le l39) (sx1 ss.2) (sx2 ss.2) (by omega)).mono ?_⟩
    rintro r V40 l40 g4
    have g40:=g4
    obtain ⟨_,_,_,_,_,_,_,_,_,_,_,_,_,_,rfl⟩:=ap_shape g4
    refine ⟨_,_,_,_,_,_,_,_,_,_,_,_,_,_,rfl,fun V41 l41=>(c_ref04_SameP ((b10 hb).le (l30_37.trans (l38.trans (l39.trans (l40.trans l41))))) (g40.le l41) (sx1 ss.2) (sx2 ss.2) (by omega)).mono ?_⟩
    rintro r V42 l42 rfl
    exact ⟨_,rfl,_,by and_intros <;> rfl,by simp⟩
  · have hb:s.b=false:=by simpa using hb
    refine (r_At (fl.le (l24_30.trans l43)) (fhi.le (l24_30.trans l43)) nz sl ss.2 (by omega)).mono ?_
    rintro r V38 l38 g3
    have g30:=g3
    obtain ⟨_,_,_,_,_,_,_,_,_,_,_,_,_,_,rfl⟩:=rp_shape g3
    refine ⟨_,_,_,_,_,_,_,_,_,_,_,_,_,_,rfl,fun V39 l39=>(c_ref04_ToP (g30.le l39) (sx1 ss.2) (sx2 ss.2) (by omega)).mono ?_⟩
    rintro r V40 l40 g4
    have g40:=g4
    obtain ⟨_,_,_,_,_,_,_,_,_,_,_,_,_,_,rfl⟩:=ap_shape g4
    refine ⟨_,_,_,_,_,_,_,_,_,_,_,_,_,_,rfl,fun V41 l41=>(c_ref04_SameP ((b10 hb).le (l43.trans (l38.trans (l39.trans (l40.trans l41))))) (g40.le l41) (sx1 ss.2) (sx2 ss.2) (by omega)).mono ?_⟩
    rintro r V42 l42 rfl
    exact ⟨_,rfl,_,by and_intros <;> rfl,by simp⟩
  rintro z V49 l49 rfl
  refine ⟨rfl,(fun h=>nomatch h),fun _ V51 l51 bk168 e51 h51=>?_⟩
  have l24_51:V24.Le V51:=l24_30.trans (l49.trans l51)
  have l26_51:V26.Le V51:=l26_30.trans (l49.trans l51)
  refine (c_Q (V:=V51.lend [bk168]) (hr.le fun b o h=>l24_51 b o (l0_24 b o h)) hmin e51 ⟨by simp,h51⟩ t3).mono ?_
  rintro r V52 l52 ⟨t,at4,gt,st,t4,hw4⟩
  have gt0:=gt
  obtain ⟨_,_,_,_,_,_,rfl⟩:=gt.shape
  have l24_52:V24.Le V52:=fun b o h=>l52 b o (l24_51 b o h)
  have l26_52:V26.Le V52:=fun b o h=>l52 b o (l26_51 b o h)
  refine ⟨_,_,_,_,_,_,_,rfl,_,_,_,_,hw4,fun V53 l53=>?_⟩
  replace l53:V52.Le V53:=fun b o h=>l53 b o h
  have st':Sz K t:=Sz.mono st (by omega)
  refine (r_At (fl.le (l24_52.trans l53)) (gt0.le l53) nz sl st' (by omega)).mono ?_
  rintro r V54 l54 gr
  have gr0:=gr
  obtain ⟨_,_,_,_,_,_,_,_,_,_,_,_,_,_,rfl⟩:=rp_shape gr
  refine ⟨_,_,_,_,_,_,_,_,_,_,_,_,_,_,rfl,fun V55 l55=>(c_ref04_ToP (gr0.le l55) (sx1 st') (sx2 st') (by omega)).mono ?_⟩
  rintro r V56 l56 gra
  have gra0:=gra
  obtain ⟨_,_,_,_,_,_,_,_,_,_,_,_,_,_,rfl⟩:=ap_shape gra
  have sl6:SzL M l:=⟨Sz.mono sl.1 (by omega),Sz.mono sl.2.1 (by omega),Sz.mono sl.2.2 (by omega)⟩
  have ss6:s.sz M:=⟨Sz.mono ss.1 (by omega),Sz.mono ss.2 (by omega)⟩
  have l52_56:V52.Le V56:=l53.trans (l54.trans (l55.trans l56))
  refine ⟨_,_,_,_,_,_,_,_,_,_,_,_,_,_,rfl,fun V57 l57=>(c_Contains (gz0.le (l26_52.trans (l52_56.trans l57))) (gra0.le l57) fok sl6 ss6 (sx1 st') (sx2 st') (by omega)).mono ?_⟩
  rintro r V58 l58 rfl
  refine ⟨_,_,rfl,fun V59 l59=>(c_ref04_ToP (gp0.le (l4_24.trans (l24_52.trans (l52_56.trans (l57.trans (l58.trans l59)))))) sp1 sp2 (by omega)).mono ?_⟩
  rintro r V60 l60 gpa
  have gpa0:=gpa
  obtain ⟨_,_,_,_,_,_,_,_,_,_,_,_,_,_,rfl⟩:=ap_shape gpa
  refine ⟨_,_,_,_,_,_,_,_,_,_,_,_,_,_,rfl,fun V61 l61=>(c_Contains (gz0.le (l26_52.trans (l52_56.trans (l57.trans (l58.trans (l59.trans (l60.trans l61))))))) (gpa0.le l61) fok sl6 ss6 (Sz.mono sp1 (by omega)) (Sz.mono sp2 (by omega)) (by omega)).mono ?_⟩
  rintro r V62 l62 rfl
  have l52_62:V52.Le V62:=l52_56.trans (l57.trans (l58.trans (l59.trans (l60.trans (l61.trans l62)))))
  refine ⟨_,_,rfl,fun V63 l63=>(c_Reverse (gz0.le (l26_52.trans (l52_62.trans l63))) fok sl6 ss6 (by omega)).mono ?_⟩
  rintro r V64 l64 ⟨back,rfl,gback⟩
  have gback0:=gback
  obtain ⟨_,_,_,_,_,_,_,_,_,_,_,_,_,_,_,_,_,_,_,_,_,_,_,_,_,_,rfl⟩:=fa_shape gback
  have l52_64:V52.Le V64:=l52_62.trans (l63.trans l64)
  refine ⟨_,_,_,_,_,_,_,_,_,_,_,_,_,_,_,_,_,_,_,_,_,_,_,_,_,_,_,_,_,rfl,fun z V'=>z=true,?_,?_⟩
  · intro V65 l65
    refine c_known7.mono ?_
    rintro r V66 l66 rfl
    refine ⟨_,rfl,fun _=>⟨iface_nil,fun _=>⟨iface_nil,fun _=>⟨iface_nil,fun _ V67 l67=>(c_ref06_Has (gf0.le (l24_52.trans (l52_64.trans (l65.trans (l66.trans l67))))) (gr0.le (l55.trans (l56.trans (l57.trans (l58.trans (l59.trans (l60.trans (l61.trans (l62.trans (l63.trans (l64.trans (l65.trans (l66.trans l67))))))))))))) nz sl6 ss6 (sx1 st') (sx2 st') (by omega)).mono ?_,(fun h=>nomatch h)⟩,(fun h=>nomatch h)⟩,(fun h=>nomatch h)⟩,(fun h=>nomatch h)⟩
    rintro r V68 l68 rfl
    have l64_68:V64.Le V68:=l65.trans (l66.trans (l67.trans l68))
    refine ⟨_,rfl,fun _ V69 l69=>(c_ref06_Has (gf0.le (l24_52.trans (l52_64.trans (l64_68.trans l69)))) (gp0.le (l4_24.trans (l24_52.trans (l52_64.trans (l64_68.trans l69))))) nz sl6 ss6 (Sz.mono sp1 (by omega)) (Sz.mono sp2 (by omega)) (by omega)).mono ?_,(by intro h; simp at h)⟩
    rintro r V70 l70 rfl
    refine ⟨_,rfl,fun _ V71 l71=>(c_ref06_Rev (gf0.le (l24_52.trans (l52_64.trans (l64_68.trans (l69.trans (l70.trans l71))))))).mono ?_,(by intro h; simp at h)⟩
    rintro r V72 l72 gv
    have gv0:=gv
    obtain ⟨_,_,_,_,_,_,_,_,_,_,_,_,_,_,_,_,_,_,_,_,_,_,_,_,_,_,rfl⟩:=rf_shape gv
    refine ⟨_,_,_,_,_,_,_,_,_,_,_,_,_,_,_,_,_,_,_,_,_,_,_,_,_,_,_,_,rfl,fun V73 l73=>(c_same (gback0.le (l64_68.trans (l69.trans (l70.trans (l71.trans (l72.trans l73)))))) (gv0.le l73) sl6.rev (Sp.neg_sz ss6) (by omega)).mono ?_⟩
    rintro r V74 l74 rfl
    exact ⟨_,rfl,true,rfl,rfl⟩
  · rintro z V75 l75 rfl
    exact ⟨rfl,fun V76 l76=>rfl⟩
end Go.Proofs.Tryz
