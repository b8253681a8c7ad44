/- A part of the proof (joined by program from: VFrS, FrS, FrT). -/
import Derived.Test.YtalijajeenhebaaGreatDoorM5
import Derived.Test.YtalijajeenhebaaGreatDoorM16
set_option linter.unusedVariables false
open Go.IntKind (i64 u64 u32)
/- By program: the conditions of the functions, from their loaded code. -/
namespace Go.Proofs.Tryz
open Go.Eng
set_option maxRecDepth 100000
theorem vc_geo_Iv_Meet (v0:Int) (v1:Int) (v2:OA) (v3:Int) (v4:Int) (v5:OA) (v6:Bool) (v7:Bool) (w0:Int) (w1:Int) (w2:OA) (w3:Int) (w4:Int) (w5:OA) (w6:Bool) (w7:Bool) (V:View) (R:Value->View->Prop)
  (h:(∃I1_:(Int × Int × (OA) × Int × Int × (OA) × Bool × Bool)->View->Prop,((v6=true->(∃z2_:Int × Int × (OA) × Int × Int × (OA) × Bool × Bool,(sm 0/\sm 0/\sm 0/\sm 0/\(v0=v0)/\(v1=v1)/\sm v2/\(v3=v3)/\(v4=v4)/\sm v5/\(v6=v6)/\(v7=v7)/\(w0=w0)/\(w1=w1)/\sm w2/\(w3=w3)/\(w4=w4)/\sm w5/\(w6=w6)/\(w7=w7)/\((0:Int)=(0:Int))/\((0:Int)=(0:Int))/\((none:OA)=none)/\((0:Int)=(0:Int))/\((0:Int)=(0:Int))/\((none:OA)=none)/\(w0=z2_.1)/\(w1=z2_.2.1)/\((w2:OA)=z2_.2.2.1)/\(v3=z2_.2.2.2.1)/\(v4=z2_.2.2.2.2.1)/\((v5:OA)=z2_.2.2.2.2.2.1)/\(w6=z2_.2.2.2.2.2.2.1)/\(v7=z2_.2.2.2.2.2.2.2))/\I1_ z2_ V))/\(v6=false->(((!w6)=true->(∀V1,V.Le V1->Acts prog 189 #[.agg #[.int .i64 v0,.int .i64 v1,.pointer v2],.agg #[.int .i64 w0,.int .i64 w1,.pointer w2]] V1 fun r1_ V2=>∃x3_,∃x4_,∃p5_,r1_=.agg #[.int .i64 x3_,.int .i64 x4_,.pointer p5_]/\(∃z6_:Int × Int × (OA) × Int × Int × (OA) × Bool × Bool,(sm 0/\sm 0/\sm 0/\sm 0/\(v0=v0)/\(v1=v1)/\sm v2/\(v3=v3)/\(v4=v4)/\sm v5/\(v6=v6)/\(v7=v7)/\(w0=w0)/\(w1=w1)/\sm w2/\(w3=w3)/\(w4=w4)/\sm w5/\(w6=w6)/\(w7=w7)/\((0:Int)=(0:Int))/\((0:Int)=(0:Int))/\((none:OA)=none)/\((0:Int)=(0:Int))/\((0:Int)=(0:Int))/\((none:OA)=none)/\(x3_=z6_.1)/\(x4_=z6_.2.1)/\((p5_:OA)=z6_.2.2.1)/\(v3=z6_.2.2.2.1)/\(v4=z6_.2.2.2.2.1)/\((v5:OA)=z6_.2.2.2.2.2.1)/\(v6=z6_.2.2.2.2.2.2.1)/\(v7=z6_.2.2.2.2.2.2.2))/\I1_ z6_ V2)))/\((!w6)=false->(∃z7_:Int × Int × (OA) × Int × Int × (OA) × Bool × Bool,(sm 0/\sm 0/\sm 0/\sm 0/\(v0=v0)/\(v1=v1)/\sm v2/\(v3=v3)/\(v4=v4)/\sm v5/\(v6=v6)/\(v7=v7)/\(w0=w0)/\(w1=w1)/\sm w2/\(w3=w3)/\(w4=w4)/\sm w5/\(w6=w6)/\(w7=w7)/\((0:Int)=(0:Int))/\((0:Int)=(0:Int))/\((none:OA)=none)/\((0:Int)=(0:Int))/\((0:Int)=(0:Int))/\((none:OA)=none)/\(v0=z7_.1)/\(v1=z7_.2.1)/\((v2:OA)=z7_.2.2.1)/\(v3=z7_.2.2.2.1)/\(v4=z7_.2.2.2.2.1)/\((v5:OA)=z7_.2.2.2.2.2.1)/\(v6=z7_.2.2.2.2.2.2.1)/\(v7=z7_.2.2.2.2.2.2.2))/\I1_ z7_ V)))))/\∀(z8_:Int × Int × (OA) × Int × Int × (OA) × Bool × Bool) (V3:View),V.Le V3->I1_ z8_ V3->(true=true/\(∃I9_:(Int × Int × (OA) × Int × Int × (OA) × Bool × Bool)->View->Prop,((v7=true->(∃z10_:Int × Int × (OA) × Int × Int × (OA) × Bool × Bool,(sm 0/\sm 0/\((0:Int)=(0:Int))/\((0:Int)=(0:Int))/\((none:OA)=none)/\((0:Int)=(0:Int))/\((0:Int)=(0:Int))/\((none:OA)=none)/\(z8_.1=z10_.1)/\(z8_.2.1=z10_.2.1)/\((z8_.2.2.1:OA)=z10_.2.2.1)/\(w3=z10_.2.2.2.1)/\(w4=z10_.2.2.2.2.1)/\((w5:OA)=z10_.2.2.2.2.2.1)/\(z8_.2.2.2.2.2.2.1=z10_.2.2.2.2.2.2.1)/\(w7=z10_.2.2.2.2.2.2.2))/\I9_ z10_ V3))/\(v7=false->(((!w7)=true->(∀V4,V3.Le V4->Acts prog 190 #[.agg #[.int .i64 v3,.int .i64 v4,.pointer v5],.agg #[.int .i64 w3,.int .i64 w4,.pointer w5]] V4 fun r4_ V5=>∃x11_,∃x12_,∃p13_,r4_=.agg #[.int .i64 x11_,.int .i64 x12_,.pointer p13_]/\(∃z14_:Int × Int × (OA) × Int × Int × (OA) × Bool × Bool,(sm 0/\sm 0/\((0:Int)=(0:Int))/\((0:Int)=(0:Int))/\((none:OA)=none)/\((0:Int)=(0:Int))/\((0:Int)=(0:Int))/\((none:OA)=none)/\(z8_.1=z14_.1)/\(z8_.2.1=z14_.2.1)/\((z8_.2.2.1:OA)=z14_.2.2.1)/\(x11_=z14_.2.2.2.1)/\(x12_=z14_.2.2.2.2.1)/\((p13_:OA)=z14_.2.2.2.2.2.1)/\(z8_.2.2.2.2.2.2.1=z14_.2.2.2.2.2.2.1)/\(z8_.2.2.2.2.2.2.2=z14_.2.2.2.2.2.2.2))/\I9_ z14_ V5)))/\((!w7)=false->(∃z15_:Int × Int × (OA) × Int × Int × (OA) × Bool × Bool,(sm 0/\sm 0/\((0:Int)=(0:Int))/\((0:Int)=(0:Int))/\((none:OA)=none)/\((0:Int)=(0:Int))/\((0:Int)=(0:Int))/\((none:OA)=none)/\(z8_.1=z15_.1)/\(z8_.2.1=z15_.2.1)/\((z8_.2.2.1:OA)=z15_.2.2.1)/\(z8_.2.2.2.1=z15_.2.2.2.1)/\(z8_.2.2.2.2.1=z15_.2.2.2.2.1)/\((z8_.2.2.2.2.2.1:OA)=z15_.2.2.2.2.2.1)/\(z8_.2.2.2.2.2.2.1=z15_.2.2.2.2.2.2.1)/\(z8_.2.2.2.2.2.2.2=z15_.2.2.2.2.2.2.2))/\I9_ z15_ V3)))))/\∀(z16_:Int × Int × (OA) × Int × Int × (OA) × Bool × Bool) (V6:View),V3.Le V6->I9_ z16_ V6->(true=true/\(∀V7,V6.Le V7->Acts prog 172 #[.agg #[.int .i64 z16_.1,.int .i64 z16_.2.1,.pointer z16_.2.2.1,.int .i64 z16_.2.2.2.1,.int .i64 z16_.2.2.2.2.1,.pointer z16_.2.2.2.2.2.1,.bool z16_.2.2.2.2.2.2.1,.bool z16_.2.2.2.2.2.2.2]] V7 fun r7_ V8=>∃b17_,r7_=.bool b17_/\(∀V9,V8.Le V9->R (.tuple #[.agg #[.int .i64 z16_.1,.int .i64 z16_.2.1,.pointer z16_.2.2.1,.int .i64 z16_.2.2.2.1,.int .i64 z16_.2.2.2.2.1,.pointer z16_.2.2.2.2.2.1,.bool z16_.2.2.2.2.2.2.1,.bool z16_.2.2.2.2.2.2.2],.bool (!b17_)]) V9))))))) :
  Acts prog 146 #[.agg #[.int .i64 v0,.int .i64 v1,.pointer v2,.int .i64 v3,.int .i64 v4,.pointer v5,.bool v6,.bool v7],.agg #[.int .i64 w0,.int .i64 w1,.pointer w2,.int .i64 w3,.int .i64 w4,.pointer w5,.bool w6,.bool w7]] V R:=
 fn_does (LF:=LF0) (RF:=[1000007]) (β0:=(fun _=>0)) tab_ok mixed [] [(500000,{ τ:=Int × Int × (OA) × Int × Int × (OA) × Bool × Bool,keep:=[2,3,4,6],keepB:=[2,3,4],slots:=fun z=>[],boxes:=fun z=>[(6,⟨.lit [.v (.int .i64 z.1),.v (.int .i64 z.2.1),.v (.pointer z.2.2.1),.v (.int .i64 z.2.2.2.1),.v (.int .i64 z.2.2.2.2.1),.v (.pointer z.2.2.2.2.2.1),.v (.bool z.2.2.2.2.2.2.1),.v (.bool z.2.2.2.2.2.2.2)],112⟩)] }),(500001,{ τ:=Int × Int × (OA) × Int × Int × (OA) × Bool × Bool,keep:=[4,6],keepB:=[4],slots:=fun z=>[],boxes:=fun z=>[(6,⟨.lit [.v (.int .i64 z.1),.v (.int .i64 z.2.1),.v (.pointer z.2.2.1),.v (.int .i64 z.2.2.2.1),.v (.int .i64 z.2.2.2.2.1),.v (.pointer z.2.2.2.2.2.1),.v (.bool z.2.2.2.2.2.2.1),.v (.bool z.2.2.2.2.2.2.2)],112⟩)] })] func146 (by kernel_rfl)
  [(0,.agg [.v (.int .i64 v0),.v (.int .i64 v1),.v (.pointer v2),.v (.int .i64 v3),.v (.int .i64 v4),.v (.pointer v5),.v (.bool v6),.v (.bool v7)]),(1,.agg [.v (.int .i64 w0),.v (.int .i64 w1),.v (.pointer w2),.v (.int .i64 w3),.v (.int .i64 w4),.v (.pointer w5),.v (.bool w6),.v (.bool w7)])]
  [] (by kernel_rfl) trivial h (by kernel_rfl)
theorem vc_geo_Fr_Split (f0:Int) (f1:Int) (f2:OA) (f3:Int) (f4:Int) (f5:OA) (f6:Int) (f7:Int) (f8:OA) (f9:Int) (f10:Int) (f11:OA) (f12:Int) (f13:Int) (f14:OA) (f15:Bool) (f16:Bool) (l0:Int) (l1:Int) (l2:OA) (l3:Int) (l4:Int) (l5:OA) (l6:Int) (l7:Int) (l8:OA) (V:View) (R:Value->View->Prop)
  (h:(∀V1,V.Le V1->Acts prog 155 #[.agg #[.int .i64 f0,.int .i64 f1,.pointer f2,.int .i64 f3,.int .i64 f4,.pointer f5,.int .i64 f6,.int .i64 f7,.pointer f8],.agg #[.int .i64 f9,.int .i64 f10,.pointer f11,.int .i64 f12,.int .i64 f13,.pointer f14,.bool f15,.bool f16],.agg #[.int .i64 l0,.int .i64 l1,.pointer l2,.int .i64 l3,.int .i64 l4,.pointer l5,.int .i64 l6,.int .i64 l7,.pointer l8]] V1 fun r1_ V2=>∃x1_,∃x2_,∃p3_,∃x4_,∃x5_,∃p6_,∃b7_,∃b8_,∃b9_,r1_=.tuple #[.agg #[.int .i64 x1_,.int .i64 x2_,.pointer p3_,.int .i64 x4_,.int .i64 x5_,.pointer p6_,.bool b7_,.bool b8_],.bool b9_]/\((b9_=true->(∀V3,V2.Le V3->Acts prog 125 #[.agg #[.int .i64 l0,.int .i64 l1,.pointer l2,.int .i64 l3,.int .i64 l4,.pointer l5,.int .i64 l6,.int .i64 l7,.pointer l8]] V3 fun r3_ V4=>∃x10_,∃x11_,∃p12_,∃x13_,∃x14_,∃p15_,∃x16_,∃x17_,∃p18_,r3_=.agg #[.int .i64 x10_,.int .i64 x11_,.pointer p12_,.int .i64 x13_,.int .i64 x14_,.pointer p15_,.int .i64 x16_,.int .i64 x17_,.pointer p18_]/\(∀V5,V4.Le V5->Acts prog 155 #[.agg #[.int .i64 f0,.int .i64 f1,.pointer f2,.int .i64 f3,.int .i64 f4,.pointer f5,.int .i64 f6,.int .i64 f7,.pointer f8],.agg #[.int .i64 f9,.int .i64 f10,.pointer f11,.int .i64 f12,.int .i64 f13,.pointer f14,.bool f15,.bool f16],.agg #[.int .i64 x10_,.int .i64 x11_,.pointer p12_,.int .i64 x13_,.int .i64 x14_,.pointer p15_,.int .i64 x16_,.int .i64 x17_,.pointer p18_]] V5 fun r5_ V6=>∃x19_,∃x20_,∃p21_,∃x22_,∃x23_,∃p24_,∃b25_,∃b26_,∃b27_,r5_=.tuple #[.agg #[.int .i64 x19_,.int .i64 x20_,.pointer p21_,.int .i64 x22_,.int .i64 x23_,.pointer p24_,.bool b25_,.bool b26_],.bool b27_]/\((b27_=true->(∀V7,V6.Le V7->∀bk28_ bk29_:Nat,(V7.blk bk28_ (.cells #[.int .i64 f0,.int .i64 f1,.pointer f2,.int .i64 f3,.int .i64 f4,.pointer f5,.int .i64 f6,.int .i64 f7,.pointer f8,.int .i64 x1_,.int .i64 x2_,.pointer p3_,.int .i64 x4_,.int .i64 x5_,.pointer p6_,.bool b7_,.bool b8_] 114 (0,0)))->(V7.blk bk29_ (.cells #[.int .i64 f0,.int .i64 f1,.pointer f2,.int .i64 f3,.int .i64 f4,.pointer f5,.int .i64 f6,.int .i64 f7,.pointer f8,.int .i64 x19_,.int .i64 x20_,.pointer p21_,.int .i64 x22_,.int .i64 x23_,.pointer p24_,.bool b25_,.bool b26_] 114 (0,0)))->R (.tuple #[.slice (some ⟨bk28_,0,none⟩) 1 1,.slice (some ⟨bk29_,0,none⟩) 1 1]) V7))/\(b27_=false->(∀V8,V6.Le V8->∀bk30_:Nat,(V8.blk bk30_ (.cells #[.int .i64 f0,.int .i64 f1,.pointer f2,.int .i64 f3,.int .i64 f4,.pointer f5,.int .i64 f6,.int .i64 f7,.pointer f8,.int .i64 x1_,.int .i64 x2_,.pointer p3_,.int .i64 x4_,.int .i64 x5_,.pointer p6_,.bool b7_,.bool b8_] 114 (0,0)))->R (.tuple #[.slice (some ⟨bk30_,0,none⟩) 1 1,.slice none 0 0]) V8))))))/\(b9_=false->(∀V9,V2.Le V9->Acts prog 125 #[.agg #[.int .i64 l0,.int .i64 l1,.pointer l2,.int .i64 l3,.int .i64 l4,.pointer l5,.int .i64 l6,.int .i64 l7,.pointer l8]] V9 fun r9_ V10=>∃x31_,∃x32_,∃p33_,∃x34_,∃x35_,∃p36_,∃x37_,∃x38_,∃p39_,r9_=.agg #[.int .i64 x31_,.int .i64 x32_,.pointer p33_,.int .i64 x34_,.int .i64 x35_,.pointer p36_,.int .i64 x37_,.int .i64 x38_,.pointer p39_]/\(∀V11,V10.Le V11->Acts prog 155 #[.agg #[.int .i64 f0,.int .i64 f1,.pointer f2,.int .i64 f3,.int .i64 f4,.pointer f5,.int .i64 f6,.int .i64 f7,.pointer f8],.agg #[.int .i64 f9,.int .i64 f10,.pointer f11,.int .i64 f12,.int .i64 f13,.pointer f14,.bool f15,.bool f16],.agg #[.int .i64 x31_,.int .i64 x32_,.pointer p33_,.int .i64 x34_,.int .i64 x35_,.pointer p36_,.int .i64 x37_,.int .i64 x38_,.pointer p39_]] V11 fun r11_ V12=>∃x40_,∃x41_,∃p42_,∃x43_,∃x44_,∃p45_,∃b46_,∃b47_,∃b48_,r11_=.tuple #[.agg #[.int .i64 x40_,.int .i64 x41_,.pointer p42_,.int .i64 x43_,.int .i64 x44_,.pointer p45_,.bool b46_,.bool b47_],.bool b48_]/\((b48_=true->(∀V13,V12.Le V13->∀bk49_:Nat,(V13.blk bk49_ (.cells #[.int .i64 f0,.int .i64 f1,.pointer f2,.int .i64 f3,.int .i64 f4,.pointer f5,.int .i64 f6,.int .i64 f7,.pointer f8,.int .i64 x40_,.int .i64 x41_,.pointer p42_,.int .i64 x43_,.int .i64 x44_,.pointer p45_,.bool b46_,.bool b47_] 114 (0,0)))->R (.tuple #[.slice none 0 0,.slice (some ⟨bk49_,0,none⟩) 1 1]) V13))/\(b48_=false->(∀V14,V12.Le V14->R (.tuple #[.slice none 0 0,.slice none 0 0]) V14))))))))) :
  Acts prog 91 #[.agg #[.int .i64 f0,.int .i64 f1,.pointer f2,.int .i64 f3,.int .i64 f4,.pointer f5,.int .i64 f6,.int .i64 f7,.pointer f8,.int .i64 f9,.int .i64 f10,.pointer f11,.int .i64 f12,.int .i64 f13,.pointer f14,.bool f15,.bool f16],.agg #[.int .i64 l0,.int .i64 l1,.pointer l2,.int .i64 l3,.int .i64 l4,.pointer l5,.int .i64 l6,.int .i64 l7,.pointer l8]] V R:=
 fn_does (LF:=LF0) (RF:=[1000007]) (β0:=(fun _=>0)) tab_ok mixed [] [] func91 (by kernel_rfl)
  [(0,.agg [.v (.int .i64 f0),.v (.int .i64 f1),.v (.pointer f2),.v (.int .i64 f3),.v (.int .i64 f4),.v (.pointer f5),.v (.int .i64 f6),.v (.int .i64 f7),.v (.pointer f8),.v (.int .i64 f9),.v (.int .i64 f10),.v (.pointer f11),.v (.int .i64 f12),.v (.int .i64 f13),.v (.pointer f14),.v (.bool f15),.v (.bool f16)]),(1,.agg [.v (.int .i64 l0),.v (.int .i64 l1),.v (.pointer l2),.v (.int .i64 l3),.v (.int .i64 l4),.v (.pointer l5),.v (.int .i64 l6),.v (.int .i64 l7),.v (.pointer l8)])]
  [] (by kernel_rfl) trivial h (by kernel_rfl)
theorem vc_geo_WriteFrs (lp:OA) (ln lc:Nat) (V:View) (R:Value->View->Prop)
  (h:(∃(I1_:(Nat × Nat × (List Value) × Int)->View->Prop) (m2_:(Nat × Nat × (List Value) × Int)->Nat),(∃z3_:Nat × Nat × (List Value) × Int,(sm lp/\sm ln/\sm lc/\sm ((ln:Nat):Int)/\((none:OA)=none)/\((0:Nat)=z3_.1)/\((0:Nat)=z3_.2.1)/\sm 0/\((0:Int)=z3_.2.2.2)/\(z3_.2.2.1=[]))/\I1_ z3_ V)/\∀(z4_:Nat × Nat × (List Value) × Int) (V1:View),V.Le V1->I1_ z4_ V1->(true=true/\(((decide (z4_.2.2.2 < ((ln:Nat):Int)))=true->(lp.isSome=true)/\(0<=z4_.2.2.2/\z4_.2.2.2 < ((ln:Nat):Int))/\(∃x5_,∃x6_,∃p7_,∃x8_,∃x9_,∃p10_,∃x11_,∃x12_,∃p13_,∃x14_,∃x15_,∃p16_,∃x17_,∃x18_,∃p19_,∃b20_,∃b21_,∃a22_,addrAdd lp (z4_.2.2.2.toNat * 17)=some a22_/\V1.at (a22_.add 0) (.int .i64 x5_)/\V1.at (a22_.add 1) (.int .i64 x6_)/\V1.at (a22_.add 2) (.pointer p7_)/\V1.at (a22_.add 3) (.int .i64 x8_)/\V1.at (a22_.add 4) (.int .i64 x9_)/\V1.at (a22_.add 5) (.pointer p10_)/\V1.at (a22_.add 6) (.int .i64 x11_)/\V1.at (a22_.add 7) (.int .i64 x12_)/\V1.at (a22_.add 8) (.pointer p13_)/\V1.at (a22_.add 9) (.int .i64 x14_)/\V1.at (a22_.add 10) (.int .i64 x15_)/\V1.at (a22_.add 11) (.pointer p16_)/\V1.at (a22_.add 12) (.int .i64 x17_)/\V1.at (a22_.add 13) (.int .i64 x18_)/\V1.at (a22_.add 14) (.pointer p19_)/\V1.at (a22_.add 15) (.bool b20_)/\V1.at (a22_.add 16) (.bool b21_)/\(∀V2,V1.Le V2->Acts prog 49 #[.agg #[.int .i64 x5_,.int .i64 x6_,.pointer p7_,.int .i64 x8_,.int .i64 x9_,.pointer p10_,.int .i64 x11_,.int .i64 x12_,.pointer p13_,.int .i64 x14_,.int .i64 x15_,.pointer p16_,.int .i64 x17_,.int .i64 x18_,.pointer p19_,.bool b20_,.bool b21_]] V2 fun r2_ V3=>∃b23_,∃p24_ n24_ c24_,∃b25_,∃p26_ n26_ c26_,∃b27_,∃p28_ n28_ c28_,∃b29_,∃p30_ n30_ c30_,∃p31_ n31_ c31_,∃b32_,∃p33_ n33_ c33_,∃p34_ n34_ c34_,∃b35_,∃b36_,r2_=.agg #[.bool b23_,.slice p24_ n24_ c24_,.bool b25_,.slice p26_ n26_ c26_,.bool b27_,.slice p28_ n28_ c28_,.bool b29_,.slice p30_ n30_ c30_,.slice p31_ n31_ c31_,.bool b32_,.slice p33_ n33_ c33_,.slice p34_ n34_ c34_,.bool b35_,.bool b36_]/\((z4_.1 + 1) * 216<=140737488355328/\z4_.1<=z4_.2.1/\z4_.2.1 * 14<=z4_.2.2.1.length/\([.bool b23_,.slice p24_ n24_ c24_,.bool b25_,.slice p26_ n26_ c26_,.bool b27_,.slice p28_ n28_ c28_,.bool b29_,.slice p30_ n30_ c30_,.slice p31_ n31_ c31_,.bool b32_,.slice p33_ n33_ c33_,.slice p34_ n34_ c34_,.bool b35_,.bool b36_]:List Value).length=1 * 14/\(∀v ∈ ([.bool b23_,.slice p24_ n24_ c24_,.bool b25_,.slice p26_ n26_ c26_,.bool b27_,.slice p28_ n28_ c28_,.bool b29_,.slice p30_ n30_ c30_,.slice p31_ n31_ c31_,.bool b32_,.slice p33_ n33_ c33_,.slice p34_ n34_ c34_,.bool b35_,.bool b36_]:List Value),v.oneCell'=true)/\∀(sp37_:List Value) (c38_:Nat),z4_.1 + 1<=c38_->c38_ * 14<=(z4_.1 + 1) * 14 + sp37_.length->(∃z39_:Nat × Nat × (List Value) × Int,m2_ z39_ < m2_ z4_/\(sm lp/\sm ln/\sm lc/\sm ((ln:Nat):Int)/\((z4_.1 + 1:Nat)=z39_.1)/\((c38_:Nat)=z39_.2.1)/\((i64.wrap (z4_.2.2.2 + (1:Int)))=z39_.2.2.2)/\((z4_.2.2.1.take (z4_.1 * 14)++([.bool b23_,.slice p24_ n24_ c24_,.bool b25_,.slice p26_ n26_ c26_,.bool b27_,.slice p28_ n28_ c28_,.bool b29_,.slice p30_ n30_ c30_,.slice p31_ n31_ c31_,.bool b32_,.slice p33_ n33_ c33_,.slice p34_ n34_ c34_,.bool b35_,.bool b36_]:List Value)++sp37_)=z39_.2.2.1))/\I1_ z39_ V3)))))/\((decide (z4_.2.2.2 < ((ln:Nat):Int)))=false->(∀V4,V1.Le V4->∀bk40_:Nat,(z4_.2.2.1≠[]->V4.blk bk40_ (.cells z4_.2.2.1.toArray 44 (0,0)))->R (.slice (mA bk40_ z4_.2.1) z4_.1 z4_.2.1) V4)))))) :
  Acts prog 92 #[.slice lp ln lc] V R:=
 fn_does (LF:=LF0) (RF:=[1000007]) (β0:=(fun _=>0)) tab_ok mixed [(3,{ τ:=Nat × Nat × (List Value) × Int,keep:=[6,7],keepB:=[],slots:=fun z=>[(3,.c (.msl 3 z.1 z.2.1)),(8,.c (.v (.int .i64 z.2.2.2)))],boxes:=fun z=>[(3,⟨.mrow z.2.2.1,44⟩)] })] [] func92 (by kernel_rfl)
  [(0,.c (.v (.slice lp ln lc)))]
  [] (by kernel_rfl) trivial h (by kernel_rfl)
theorem vc_geo_Fr_Meet (f0:Int) (f1:Int) (f2:OA) (f3:Int) (f4:Int) (f5:OA) (f6:Int) (f7:Int) (f8:OA) (f9:Int) (f10:Int) (f11:OA) (f12:Int) (f13:Int) (f14:OA) (f15:Bool) (f16:Bool) (g0:Int) (g1:Int) (g2:OA) (g3:Int) (g4:Int) (g5:OA) (g6:Int) (g7:Int) (g8:OA) (g9:Int) (g10:Int) (g11:OA) (g12:Int) (g13:Int) (g14:OA) (g15:Bool) (g16:Bool) (V:View) (R:Value->View->Prop)
  (h:(∀V1,V.Le V1->Acts prog 141 #[.agg #[.int .i64 g0,.int .i64 g1,.pointer g2,.int .i64 g3,.int .i64 g4,.pointer g5,.int .i64 g6,.int .i64 g7,.pointer g8,.int .i64 g9,.int .i64 g10,.pointer g11,.int .i64 g12,.int .i64 g13,.pointer g14,.bool g15,.bool g16],.agg #[.int .i64 f0,.int .i64 f1,.pointer f2,.int .i64 f3,.int .i64 f4,.pointer f5,.int .i64 f6,.int .i64 f7,.pointer f8]] V1 fun r1_ V2=>∃x1_,∃x2_,∃p3_,∃x4_,∃x5_,∃p6_,∃b7_,∃b8_,∃b9_,r1_=.tuple #[.agg #[.int .i64 x1_,.int .i64 x2_,.pointer p3_,.int .i64 x4_,.int .i64 x5_,.pointer p6_,.bool b7_,.bool b8_],.bool b9_]/\(((!b9_)=true->(∀V3,V2.Le V3->Acts prog 142 #[.agg #[.int .i64 f0,.int .i64 f1,.pointer f2,.int .i64 f3,.int .i64 f4,.pointer f5,.int .i64 f6,.int .i64 f7,.pointer f8],.agg #[.int .i64 g0,.int .i64 g1,.pointer g2,.int .i64 g3,.int .i64 g4,.pointer g5,.int .i64 g6,.int .i64 g7,.pointer g8]] V3 fun r3_ V4=>∃x10_,∃x11_,∃p12_,∃x13_,∃x14_,∃p15_,∃b16_,r3_=.tuple #[.agg #[.int .i64 x10_,.int .i64 x11_,.pointer p12_,.int .i64 x13_,.int .i64 x14_,.pointer p15_],.bool b16_]/\(∃I17_:Bool->View->Prop,(((!b16_)=true->(∃z18_:Bool,(sm 0/\sm 0/\(true=z18_)/\((0:Int)=(0:Int))/\((0:Int)=(0:Int))/\((none:OA)=none)/\((0:Int)=(0:Int))/\((0:Int)=(0:Int))/\((none:OA)=none)/\sm x10_/\sm x11_/\sm p12_/\sm x13_/\sm x14_/\sm p15_)/\I17_ z18_ V4))/\((!b16_)=false->(∀V5,V4.Le V5->Acts prog 101 #[.agg #[.int .i64 f0,.int .i64 f1,.pointer f2,.int .i64 f3,.int .i64 f4,.pointer f5,.int .i64 f6,.int .i64 f7,.pointer f8],.agg #[.int .i64 x10_,.int .i64 x11_,.pointer p12_,.int .i64 x13_,.int .i64 x14_,.pointer p15_]] V5 fun r5_ V6=>∃x19_,∃x20_,∃p21_,r5_=.agg #[.int .i64 x19_,.int .i64 x20_,.pointer p21_]/\(∀V7,V6.Le V7->Acts prog 124 #[.agg #[.int .i64 f9,.int .i64 f10,.pointer f11,.int .i64 f12,.int .i64 f13,.pointer f14,.bool f15,.bool f16],.agg #[.int .i64 x19_,.int .i64 x20_,.pointer p21_]] V7 fun r7_ V8=>∃b22_,r7_=.bool b22_/\(((!b22_)=true->(∃z23_:Bool,(sm 0/\sm 0/\(true=z23_)/\((0:Int)=(0:Int))/\((0:Int)=(0:Int))/\((none:OA)=none)/\((0:Int)=(0:Int))/\((0:Int)=(0:Int))/\((none:OA)=none)/\sm x10_/\sm x11_/\sm p12_/\sm x13_/\sm x14_/\sm p15_)/\I17_ z23_ V8))/\((!b22_)=false->(∀V9,V8.Le V9->Acts prog 101 #[.agg #[.int .i64 g0,.int .i64 g1,.pointer g2,.int .i64 g3,.int .i64 g4,.pointer g5,.int .i64 g6,.int .i64 g7,.pointer g8],.agg #[.int .i64 x10_,.int .i64 x11_,.pointer p12_,.int .i64 x13_,.int .i64 x14_,.pointer p15_]] V9 fun r9_ V10=>∃x24_,∃x25_,∃p26_,r9_=.agg #[.int .i64 x24_,.int .i64 x25_,.pointer p26_]/\(∀V11,V10.Le V11->Acts prog 124 #[.agg #[.int .i64 g9,.int .i64 g10,.pointer g11,.int .i64 g12,.int .i64 g13,.pointer g14,.bool g15,.bool g16],.agg #[.int .i64 x24_,.int .i64 x25_,.pointer p26_]] V11 fun r11_ V12=>∃b27_,r11_=.bool b27_/\(∃z28_:Bool,(sm 0/\sm 0/\((!b27_)=z28_)/\((0:Int)=(0:Int))/\((0:Int)=(0:Int))/\((none:OA)=none)/\((0:Int)=(0:Int))/\((0:Int)=(0:Int))/\((none:OA)=none)/\sm x10_/\sm x11_/\sm p12_/\sm x13_/\sm x14_/\sm p15_)/\I17_ z28_ V12)))))))))/\∀(z29_:Bool) (V13:View),V4.Le V13->I17_ z29_ V13->(true=true/\((z29_=true->(∀V14,V13.Le V14->R (.tuple #[.agg #[.int .i64 0,.int .i64 0,.pointer none,.int .i64 0,.int .i64 0,.pointer none],.bool false]) V14))/\(z29_=false->(∀V15,V13.Le V15->R (.tuple #[.agg #[.int .i64 x10_,.int .i64 x11_,.pointer p12_,.int .i64 x13_,.int .i64 x14_,.pointer p15_],.bool true]) V15)))))))/\((!b9_)=false->(∃I30_:Bool->View->Prop,(((!f16)=true->(((!b7_)=true->(∀V16,V2.Le V16->Acts prog 143 #[.agg #[.int .i64 f12,.int .i64 f13,.pointer f14],.agg #[.int .i64 x1_,.int .i64 x2_,.pointer p3_]] V16 fun r16_ V17=>∃b31_,r16_=.bool b31_/\(∃z32_:Bool,(sm 0/\sm 0/\sm 0/\(b31_=z32_)/\(f0=f0)/\(f1=f1)/\sm f2/\(f3=f3)/\(f4=f4)/\sm f5/\(f6=f6)/\(f7=f7)/\sm f8/\(f9=f9)/\sm f10/\sm f11/\sm f12/\sm f13/\sm f14/\sm f15/\sm f16/\((0:Int)=(0:Int))/\((0:Int)=(0:Int))/\((none:OA)=none)/\((0:Int)=(0:Int))/\((0:Int)=(0:Int))/\((none:OA)=none)/\sm x1_/\sm x2_/\sm p3_/\sm x4_/\sm x5_/\sm p6_/\sm b7_/\sm b8_)/\I30_ z32_ V17)))/\((!b7_)=false->(∃z33_:Bool,(sm 0/\sm 0/\sm 0/\(false=z33_)/\(f0=f0)/\(f1=f1)/\sm f2/\(f3=f3)/\(f4=f4)/\sm f5/\(f6=f6)/\(f7=f7)/\sm f8/\(f9=f9)/\sm f10/\sm f11/\sm f12/\sm f13/\sm f14/\sm f15/\sm f16/\((0:Int)=(0:Int))/\((0:Int)=(0:Int))/\((none:OA)=none)/\((0:Int)=(0:Int))/\((0:Int)=(0:Int))/\((none:OA)=none)/\sm x1_/\sm x2_/\sm p3_/\sm x4_/\sm x5_/\sm p6_/\sm b7_/\sm b8_)/\I30_ z33_ V2))))/\((!f16)=false->(∃z34_:Bool,(sm 0/\sm 0/\sm 0/\(false=z34_)/\(f0=f0)/\(f1=f1)/\sm f2/\(f3=f3)/\(f4=f4)/\sm f5/\(f6=f6)/\(f7=f7)/\sm f8/\(f9=f9)/\sm f10/\sm f11/\sm f12/\sm f13/\sm f14/\sm f15/\sm f16/\((0:Int)=(0:Int))/\((0:Int)=(0:Int))/\((none:OA)=none)/\((0:Int)=(0:Int))/\((0:Int)=(0:Int))/\((none:OA)=none)/\sm x1_/\sm x2_/\sm p3_/\sm x4_/\sm x5_/\sm p6_/\sm b7_/\sm b8_)/\I30_ z34_ V2)))/\∀(z35_:Bool) (V18:View),V2.Le V18->I30_ z35_ V18->(true=true/\((z35_=true->(∀V19,V18.Le V19->Acts prog 118 #[.agg #[.int .i64 f0,.int .i64 f1,.pointer f2,.int .i64 f3,.int .i64 f4,.pointer f5,.int .i64 f6,.int .i64 f7,.pointer f8],.agg #[.int .i64 f12,.int .i64 f13,.pointer f14]] V19 fun r19_ V20=>∃x36_,∃x37_,∃p38_,∃x39_,∃x40_,∃p41_,r19_=.agg #[.int .i64 x36_,.int .i64 x37_,.pointer p38_,.int .i64 x39_,.int .i64 x40_,.pointer p41_]/\(∀V21,V20.Le V21->R (.tuple #[.agg #[.int .i64 x36_,.int .i64 x37_,.pointer p38_,.int .i64 x39_,.int .i64 x40_,.pointer p41_],.bool true]) V21)))/\(z35_=false->(∃I42_:Bool->View->Prop,(((!f15)=true->(((!b8_)=true->(∀V22,V18.Le V22->Acts prog 143 #[.agg #[.int .i64 f9,.int .i64 f10,.pointer f11],.agg #[.int .i64 x4_,.int .i64 x5_,.pointer p6_]] V22 fun r22_ V23=>∃b43_,r22_=.bool b43_/\(∃z44_:Bool,(sm 0/\sm 0/\(b43_=z44_)/\(f0=f0)/\(f1=f1)/\sm f2/\(f3=f3)/\(f4=f4)/\sm f5/\(f6=f6)/\(f7=f7)/\sm f8/\(f9=f9)/\sm f10/\sm f11/\sm f12/\sm f13/\sm f14/\sm f15/\sm f16/\((0:Int)=(0:Int))/\((0:Int)=(0:Int))/\((none:OA)=none)/\((0:Int)=(0:Int))/\((0:Int)=(0:Int))/\((none:OA)=none))/\I42_ z44_ V23)))/\((!b8_)=false->(∃z45_:Bool,(sm 0/\sm 0/\(false=z45_)/\(f0=f0)/\(f1=f1)/\sm f2/\(f3=f3)/\(f4=f4)/\sm f5/\(f6=f6)/\(f7=f7)/\sm f8/\(f9=f9)/\sm f10/\sm f11/\sm f12/\sm f13/\sm f14/\sm f15/\sm f16/\((0:Int)=(0:Int))/\((0:Int)=(0:Int))/\((none:OA)=none)/\((0:Int)=(0:Int))/\((0:Int)=(0:Int))/\((none:OA)=none))/\I42_ z45_ V18))))/\((!f15)=false->(∃z46_:Bool,(sm 0/\sm 0/\(false=z46_)/\(f0=f0)/\(f1=f1)/\sm f2/\(f3=f3)/\(f4=f4)/\sm f5/\(f6=f6)/\(f7=f7)/\sm f8/\(f9=f9)/\sm f10/\sm f11/\sm f12/\sm f13/\sm f14/\sm f15/\sm f16/\((0:Int)=(0:Int))/\((0:Int)=(0:Int))/\((none:OA)=none)/\((0:Int)=(0:Int))/\((0:Int)=(0:Int))/\((none:OA)=none))/\I42_ z46_ V18)))/\∀(z47_:Bool) (V24:View),V18.Le V24->I42_ z47_ V24->(true=true/\((z47_=true->(∀V25,V24.Le V25->Acts prog 118 #[.agg #[.int .i64 f0,.int .i64 f1,.pointer f2,.int .i64 f3,.int .i64 f4,.pointer f5,.int .i64 f6,.int .i64 f7,.pointer f8],.agg #[.int .i64 f9,.int .i64 f10,.pointer f11]] V25 fun r25_ V26=>∃x48_,∃x49_,∃p50_,∃x51_,∃x52_,∃p53_,r25_=.agg #[.int .i64 x48_,.int .i64 x49_,.pointer p50_,.int .i64 x51_,.int .i64 x52_,.pointer p53_]/\(∀V27,V26.Le V27->R (.tuple #[.agg #[.int .i64 x48_,.int .i64 x49_,.pointer p50_,.int .i64 x51_,.int .i64 x52_,.pointer p53_],.bool true]) V27)))/\(z47_=false->(∀V28,V24.Le V28->R (.tuple #[.agg #[.int .i64 0,.int .i64 0,.pointer none,.int .i64 0,.int .i64 0,.pointer none],.bool false]) V28))))))))))))) :
  Acts prog 82 #[.agg #[.int .i64 f0,.int .i64 f1,.pointer f2,.int .i64 f3,.int .i64 f4,.pointer f5,.int .i64 f6,.int .i64 f7,.pointer f8,.int .i64 f9,.int .i64 f10,.pointer f11,.int .i64 f12,.int .i64 f13,.pointer f14,.bool f15,.bool f16],.agg #[.int .i64 g0,.int .i64 g1,.pointer g2,.int .i64 g3,.int .i64 g4,.pointer g5,.int .i64 g6,.int .i64 g7,.pointer g8,.int .i64 g9,.int .i64 g10,.pointer g11,.int .i64 g12,.int .i64 g13,.pointer g14,.bool g15,.bool g16]] V R:=
 fn_does (LF:=LF0) (RF:=[1000007]) (β0:=(fun _=>0)) tab_ok mixed [] [(600004,{ τ:=Bool,keep:=[4,8],keepB:=[4,8],slots:=fun z=>[(48,.c (.v (.bool z)))],boxes:=fun z=>[] }),(600007,{ τ:=Bool,keep:=[2,4,6],keepB:=[2,4,6],slots:=fun z=>[(51,.c (.v (.bool z)))],boxes:=fun z=>[] }),(600009,{ τ:=Bool,keep:=[2,4],keepB:=[2,4],slots:=fun z=>[(75,.c (.v (.bool z)))],boxes:=fun z=>[] })] func82 (by kernel_rfl)
  [(0,.agg [.v (.int .i64 f0),.v (.int .i64 f1),.v (.pointer f2),.v (.int .i64 f3),.v (.int .i64 f4),.v (.pointer f5),.v (.int .i64 f6),.v (.int .i64 f7),.v (.pointer f8),.v (.int .i64 f9),.v (.int .i64 f10),.v (.pointer f11),.v (.int .i64 f12),.v (.int .i64 f13),.v (.pointer f14),.v (.bool f15),.v (.bool f16)]),(1,.agg [.v (.int .i64 g0),.v (.int .i64 g1),.v (.pointer g2),.v (.int .i64 g3),.v (.int .i64 g4),.v (.pointer g5),.v (.int .i64 g6),.v (.int .i64 g7),.v (.pointer g8),.v (.int .i64 g9),.v (.int .i64 g10),.v (.pointer g11),.v (.int .i64 g12),.v (.int .i64 g13),.v (.pointer g14),.v (.bool g15),.v (.bool g16)])]
  [] (by kernel_rfl) trivial h (by kernel_rfl)
theorem vc_geo_Fr_onto (f0:Int) (f1:Int) (f2:OA) (f3:Int) (f4:Int) (f5:OA) (f6:Int) (f7:Int) (f8:OA) (f9:Int) (f10:Int) (f11:OA) (f12:Int) (f13:Int) (f14:OA) (f15:Bool) (f16:Bool) (l0:Int) (l1:Int) (l2:OA) (l3:Int) (l4:Int) (l5:OA) (l6:Int) (l7:Int) (l8:OA) (V:View) (R:Value->View->Prop)
  (h:(∀V1,V.Le V1->Acts prog 182 #[.agg #[.int .i64 f0,.int .i64 f1,.pointer f2,.int .i64 f3,.int .i64 f4,.pointer f5,.int .i64 f6,.int .i64 f7,.pointer f8],.agg #[.int .i64 l0,.int .i64 l1,.pointer l2,.int .i64 l3,.int .i64 l4,.pointer l5,.int .i64 l6,.int .i64 l7,.pointer l8]] V1 fun r1_ V2=>∃b1_,r1_=.bool b1_/\((b1_=true->(∀V3,V2.Le V3->R (.tuple #[.agg #[.int .i64 f9,.int .i64 f10,.pointer f11,.int .i64 f12,.int .i64 f13,.pointer f14,.bool f15,.bool f16],.bool true]) V3))/\(b1_=false->(∀V4,V2.Le V4->Acts prog 125 #[.agg #[.int .i64 l0,.int .i64 l1,.pointer l2,.int .i64 l3,.int .i64 l4,.pointer l5,.int .i64 l6,.int .i64 l7,.pointer l8]] V4 fun r4_ V5=>∃x2_,∃x3_,∃p4_,∃x5_,∃x6_,∃p7_,∃x8_,∃x9_,∃p10_,r4_=.agg #[.int .i64 x2_,.int .i64 x3_,.pointer p4_,.int .i64 x5_,.int .i64 x6_,.pointer p7_,.int .i64 x8_,.int .i64 x9_,.pointer p10_]/\(∀V6,V5.Le V6->Acts prog 182 #[.agg #[.int .i64 f0,.int .i64 f1,.pointer f2,.int .i64 f3,.int .i64 f4,.pointer f5,.int .i64 f6,.int .i64 f7,.pointer f8],.agg #[.int .i64 x2_,.int .i64 x3_,.pointer p4_,.int .i64 x5_,.int .i64 x6_,.pointer p7_,.int .i64 x8_,.int .i64 x9_,.pointer p10_]] V6 fun r6_ V7=>∃b11_,r6_=.bool b11_/\((b11_=true->(∀V8,V7.Le V8->Acts prog 126 #[.agg #[.int .i64 f9,.int .i64 f10,.pointer f11,.int .i64 f12,.int .i64 f13,.pointer f14,.bool f15,.bool f16]] V8 fun r8_ V9=>∃x12_,∃x13_,∃p14_,∃x15_,∃x16_,∃p17_,∃b18_,∃b19_,r8_=.agg #[.int .i64 x12_,.int .i64 x13_,.pointer p14_,.int .i64 x15_,.int .i64 x16_,.pointer p17_,.bool b18_,.bool b19_]/\(∀V10,V9.Le V10->R (.tuple #[.agg #[.int .i64 x12_,.int .i64 x13_,.pointer p14_,.int .i64 x15_,.int .i64 x16_,.pointer p17_,.bool b18_,.bool b19_],.bool true]) V10)))/\(b11_=false->(∀V11,V7.Le V11->R (.tuple #[.agg #[.int .i64 0,.int .i64 0,.pointer none,.int .i64 0,.int .i64 0,.pointer none,.bool false,.bool false],.bool false]) V11))))))))) :
  Acts prog 141 #[.agg #[.int .i64 f0,.int .i64 f1,.pointer f2,.int .i64 f3,.int .i64 f4,.pointer f5,.int .i64 f6,.int .i64 f7,.pointer f8,.int .i64 f9,.int .i64 f10,.pointer f11,.int .i64 f12,.int .i64 f13,.pointer f14,.bool f15,.bool f16],.agg #[.int .i64 l0,.int .i64 l1,.pointer l2,.int .i64 l3,.int .i64 l4,.pointer l5,.int .i64 l6,.int .i64 l7,.pointer l8]] V R:=
 fn_does (LF:=LF0) (RF:=[1000007]) (β0:=(fun _=>0)) tab_ok mixed [] [] func141 (by kernel_rfl)
  [(0,.agg [.v (.int .i64 f0),.v (.int .i64 f1),.v (.pointer f2),.v (.int .i64 f3),.v (.int .i64 f4),.v (.pointer f5),.v (.int .i64 f6),.v (.int .i64 f7),.v (.pointer f8),.v (.int .i64 f9),.v (.int .i64 f10),.v (.pointer f11),.v (.int .i64 f12),.v (.int .i64 f13),.v (.pointer f14),.v (.bool f15),.v (.bool f16)]),(1,.agg [.v (.int .i64 l0),.v (.int .i64 l1),.v (.pointer l2),.v (.int .i64 l3),.v (.int .i64 l4),.v (.pointer l5),.v (.int .i64 l6),.v (.int .i64 l7),.v (.pointer l8)])]
  [] (by kernel_rfl) trivial h (by kernel_rfl)
theorem vc_fragment_Split (f0:Bool) (f1p:OA) (f1n f1c:Nat) (f2:Bool) (f3p:OA) (f3n f3c:Nat) (f4:Bool) (f5p:OA) (f5n f5c:Nat) (f6:Bool) (f7p:OA) (f7n f7c:Nat) (f8p:OA) (f8n f8c:Nat) (f9:Bool) (f10p:OA) (f10n f10c:Nat) (f11p:OA) (f11n f11c:Nat) (f12:Bool) (f13:Bool) (l0:Bool) (l1p:OA) (l1n l1c:Nat) (l2:Bool) (l3p:OA) (l3n l3c:Nat) (l4:Bool) (l5p:OA) (l5n l5c:Nat) (V:View) (R:Value->View->Prop)
  (h:(∀V1,V.Le V1->Acts prog 66 #[.agg #[.bool f0,.slice f1p f1n f1c,.bool f2,.slice f3p f3n f3c,.bool f4,.slice f5p f5n f5c,.bool f6,.slice f7p f7n f7c,.slice f8p f8n f8c,.bool f9,.slice f10p f10n f10c,.slice f11p f11n f11c,.bool f12,.bool f13]] V1 fun r1_ V2=>∃x1_,∃x2_,∃p3_,∃x4_,∃x5_,∃p6_,∃x7_,∃x8_,∃p9_,∃x10_,∃x11_,∃p12_,∃x13_,∃x14_,∃p15_,∃b16_,∃b17_,∃b18_,r1_=.tuple #[.agg #[.int .i64 x1_,.int .i64 x2_,.pointer p3_,.int .i64 x4_,.int .i64 x5_,.pointer p6_,.int .i64 x7_,.int .i64 x8_,.pointer p9_,.int .i64 x10_,.int .i64 x11_,.pointer p12_,.int .i64 x13_,.int .i64 x14_,.pointer p15_,.bool b16_,.bool b17_],.bool b18_]/\(∀V3,V2.Le V3->Acts prog 90 #[.agg #[.bool l0,.slice l1p l1n l1c,.bool l2,.slice l3p l3n l3c,.bool l4,.slice l5p l5n l5c]] V3 fun r3_ V4=>∃x19_,∃x20_,∃p21_,∃x22_,∃x23_,∃p24_,∃x25_,∃x26_,∃p27_,∃b28_,r3_=.tuple #[.agg #[.int .i64 x19_,.int .i64 x20_,.pointer p21_,.int .i64 x22_,.int .i64 x23_,.pointer p24_,.int .i64 x25_,.int .i64 x26_,.pointer p27_],.bool b28_]/\(((!b18_)=true->(∃y29_,(∃a30_,(some ⟨0,0,none⟩:OA)=some a30_/\V4.at a30_ (y29_))/\(∀V5,V4.Le V5->R (.tuple #[.slice none 0 0,.slice none 0 0,y29_]) V5)))/\((!b18_)=false->(((!b28_)=true->(∃y31_,(∃a32_,(some ⟨0,0,none⟩:OA)=some a32_/\V4.at a32_ (y31_))/\(∀V6,V4.Le V6->R (.tuple #[.slice none 0 0,.slice none 0 0,y31_]) V6)))/\((!b28_)=false->(∀V7,V4.Le V7->Acts prog 91 #[.agg #[.int .i64 x1_,.int .i64 x2_,.pointer p3_,.int .i64 x4_,.int .i64 x5_,.pointer p6_,.int .i64 x7_,.int .i64 x8_,.pointer p9_,.int .i64 x10_,.int .i64 x11_,.pointer p12_,.int .i64 x13_,.int .i64 x14_,.pointer p15_,.bool b16_,.bool b17_],.agg #[.int .i64 x19_,.int .i64 x20_,.pointer p21_,.int .i64 x22_,.int .i64 x23_,.pointer p24_,.int .i64 x25_,.int .i64 x26_,.pointer p27_]] V7 fun r7_ V8=>∃p33_ n33_ c33_,∃p34_ n34_ c34_,r7_=.tuple #[.slice p33_ n33_ c33_,.slice p34_ n34_ c34_]/\(∀V9,V8.Le V9->Acts prog 92 #[.slice p33_ n33_ c33_] V9 fun r9_ V10=>∃p35_ n35_ c35_,r9_=.slice p35_ n35_ c35_/\(∀V11,V10.Le V11->Acts prog 92 #[.slice p34_ n34_ c34_] V11 fun r11_ V12=>∃p36_ n36_ c36_,r11_=.slice p36_ n36_ c36_/\(∀V13,V12.Le V13->R (.tuple #[.slice p35_ n35_ c35_,.slice p36_ n36_ c36_,.nilIface]) V13))))))))))) :
  Acts prog 40 #[.agg #[.bool f0,.slice f1p f1n f1c,.bool f2,.slice f3p f3n f3c,.bool f4,.slice f5p f5n f5c,.bool f6,.slice f7p f7n f7c,.slice f8p f8n f8c,.bool f9,.slice f10p f10n f10c,.slice f11p f11n f11c,.bool f12,.bool f13],.agg #[.bool l0,.slice l1p l1n l1c,.bool l2,.slice l3p l3n l3c,.bool l4,.slice l5p l5n l5c]] V R:=
 fn_does (LF:=LF0) (RF:=[1000007]) (β0:=(fun _=>0)) tab_ok mixed [] [] func40 (by kernel_rfl)
  [(0,.agg [.v (.bool f0),.v (.slice f1p f1n f1c),.v (.bool f2),.v (.slice f3p f3n f3c),.v (.bool f4),.v (.slice f5p f5n f5c),.v (.bool f6),.v (.slice f7p f7n f7c),.v (.slice f8p f8n f8c),.v (.bool f9),.v (.slice f10p f10n f10c),.v (.slice f11p f11n f11c),.v (.bool f12),.v (.bool f13)]),(1,.agg [.v (.bool l0),.v (.slice l1p l1n l1c),.v (.bool l2),.v (.slice l3p l3n l3c),.v (.bool l4),.v (.slice l5p l5n l5c)])]
  [] (by kernel_rfl) trivial h (by kernel_rfl)
theorem vc_fragment_Meet (f0:Bool) (f1p:OA) (f1n f1c:Nat) (f2:Bool) (f3p:OA) (f3n f3c:Nat) (f4:Bool) (f5p:OA) (f5n f5c:Nat) (f6:Bool) (f7p:OA) (f7n f7c:Nat) (f8p:OA) (f8n f8c:Nat) (f9:Bool) (f10p:OA) (f10n f10c:Nat) (f11p:OA) (f11n f11c:Nat) (f12:Bool) (f13:Bool) (g0:Bool) (g1p:OA) (g1n g1c:Nat) (g2:Bool) (g3p:OA) (g3n g3c:Nat) (g4:Bool) (g5p:OA) (g5n g5c:Nat) (g6:Bool) (g7p:OA) (g7n g7c:Nat) (g8p:OA) (g8n g8c:Nat) (g9:Bool) (g10p:OA) (g10n g10c:Nat) (g11p:OA) (g11n g11c:Nat) (g12:Bool) (g13:Bool) (V:View) (R:Value->View->Prop)
  (h:(∀V1,V.Le V1->Acts prog 66 #[.agg #[.bool f0,.slice f1p f1n f1c,.bool f2,.slice f3p f3n f3c,.bool f4,.slice f5p f5n f5c,.bool f6,.slice f7p f7n f7c,.slice f8p f8n f8c,.bool f9,.slice f10p f10n f10c,.slice f11p f11n f11c,.bool f12,.bool f13]] V1 fun r1_ V2=>∃x1_,∃x2_,∃p3_,∃x4_,∃x5_,∃p6_,∃x7_,∃x8_,∃p9_,∃x10_,∃x11_,∃p12_,∃x13_,∃x14_,∃p15_,∃b16_,∃b17_,∃b18_,r1_=.tuple #[.agg #[.int .i64 x1_,.int .i64 x2_,.pointer p3_,.int .i64 x4_,.int .i64 x5_,.pointer p6_,.int .i64 x7_,.int .i64 x8_,.pointer p9_,.int .i64 x10_,.int .i64 x11_,.pointer p12_,.int .i64 x13_,.int .i64 x14_,.pointer p15_,.bool b16_,.bool b17_],.bool b18_]/\(∀V3,V2.Le V3->Acts prog 66 #[.agg #[.bool g0,.slice g1p g1n g1c,.bool g2,.slice g3p g3n g3c,.bool g4,.slice g5p g5n g5c,.bool g6,.slice g7p g7n g7c,.slice g8p g8n g8c,.bool g9,.slice g10p g10n g10c,.slice g11p g11n g11c,.bool g12,.bool g13]] V3 fun r3_ V4=>∃x19_,∃x20_,∃p21_,∃x22_,∃x23_,∃p24_,∃x25_,∃x26_,∃p27_,∃x28_,∃x29_,∃p30_,∃x31_,∃x32_,∃p33_,∃b34_,∃b35_,∃b36_,r3_=.tuple #[.agg #[.int .i64 x19_,.int .i64 x20_,.pointer p21_,.int .i64 x22_,.int .i64 x23_,.pointer p24_,.int .i64 x25_,.int .i64 x26_,.pointer p27_,.int .i64 x28_,.int .i64 x29_,.pointer p30_,.int .i64 x31_,.int .i64 x32_,.pointer p33_,.bool b34_,.bool b35_],.bool b36_]/\(((!b18_)=true->(∃y37_,(∃a38_,(some ⟨0,0,none⟩:OA)=some a38_/\V4.at a38_ (y37_))/\(∀V5,V4.Le V5->R (.tuple #[.agg #[.bool false,.slice none 0 0,.slice none 0 0,.bool false,.slice none 0 0,.slice none 0 0],.bool false,y37_]) V5)))/\((!b18_)=false->(((!b36_)=true->(∃y39_,(∃a40_,(some ⟨0,0,none⟩:OA)=some a40_/\V4.at a40_ (y39_))/\(∀V6,V4.Le V6->R (.tuple #[.agg #[.bool false,.slice none 0 0,.slice none 0 0,.bool false,.slice none 0 0,.slice none 0 0],.bool false,y39_]) V6)))/\((!b36_)=false->(∀V7,V4.Le V7->Acts prog 82 #[.agg #[.int .i64 x1_,.int .i64 x2_,.pointer p3_,.int .i64 x4_,.int .i64 x5_,.pointer p6_,.int .i64 x7_,.int .i64 x8_,.pointer p9_,.int .i64 x10_,.int .i64 x11_,.pointer p12_,.int .i64 x13_,.int .i64 x14_,.pointer p15_,.bool b16_,.bool b17_],.agg #[.int .i64 x19_,.int .i64 x20_,.pointer p21_,.int .i64 x22_,.int .i64 x23_,.pointer p24_,.int .i64 x25_,.int .i64 x26_,.pointer p27_,.int .i64 x28_,.int .i64 x29_,.pointer p30_,.int .i64 x31_,.int .i64 x32_,.pointer p33_,.bool b34_,.bool b35_]] V7 fun r7_ V8=>∃x41_,∃x42_,∃p43_,∃x44_,∃x45_,∃p46_,∃b47_,r7_=.tuple #[.agg #[.int .i64 x41_,.int .i64 x42_,.pointer p43_,.int .i64 x44_,.int .i64 x45_,.pointer p46_],.bool b47_]/\(((!b47_)=true->(∀V9,V8.Le V9->R (.tuple #[.agg #[.bool false,.slice none 0 0,.slice none 0 0,.bool false,.slice none 0 0,.slice none 0 0],.bool false,.nilIface]) V9))/\((!b47_)=false->(∀V10,V8.Le V10->Acts prog 83 #[.agg #[.int .i64 x41_,.int .i64 x42_,.pointer p43_,.int .i64 x44_,.int .i64 x45_,.pointer p46_]] V10 fun r10_ V11=>∃b48_,∃p49_ n49_ c49_,∃p50_ n50_ c50_,∃b51_,∃p52_ n52_ c52_,∃p53_ n53_ c53_,r10_=.agg #[.bool b48_,.slice p49_ n49_ c49_,.slice p50_ n50_ c50_,.bool b51_,.slice p52_ n52_ c52_,.slice p53_ n53_ c53_]/\(∀V12,V11.Le V12->R (.tuple #[.agg #[.bool b48_,.slice p49_ n49_ c49_,.slice p50_ n50_ c50_,.bool b51_,.slice p52_ n52_ c52_,.slice p53_ n53_ c53_],.bool true,.nilIface]) V12)))))))))))) :
  Acts prog 35 #[.agg #[.bool f0,.slice f1p f1n f1c,.bool f2,.slice f3p f3n f3c,.bool f4,.slice f5p f5n f5c,.bool f6,.slice f7p f7n f7c,.slice f8p f8n f8c,.bool f9,.slice f10p f10n f10c,.slice f11p f11n f11c,.bool f12,.bool f13],.agg #[.bool g0,.slice g1p g1n g1c,.bool g2,.slice g3p g3n g3c,.bool g4,.slice g5p g5n g5c,.bool g6,.slice g7p g7n g7c,.slice g8p g8n g8c,.bool g9,.slice g10p g10n g10c,.slice g11p g11n g11c,.bool g12,.bool g13]] V R:=
 fn_does (LF:=LF0) (RF:=[1000007]) (β0:=(fun _=>0)) tab_ok mixed [] [] func35 (by kernel_rfl)
  [(0,.agg [.v (.bool f0),.v (.slice f1p f1n f1c),.v (.bool f2),.v (.slice f3p f3n f3c),.v (.bool f4),.v (.slice f5p f5n f5c),.v (.bool f6),.v (.slice f7p f7n f7c),.v (.slice f8p f8n f8c),.v (.bool f9),.v (.slice f10p f10n f10c),.v (.slice f11p f11n f11c),.v (.bool f12),.v (.bool f13)]),(1,.agg [.v (.bool g0),.v (.slice g1p g1n g1c),.v (.bool g2),.v (.slice g3p g3n g3c),.v (.bool g4),.v (.slice g5p g5n g5c),.v (.bool g6),.v (.slice g7p g7n g7c),.v (.slice g8p g8n g8c),.v (.bool g9),.v (.slice g10p g10n g10c),.v (.slice g11p g11n g11c),.v (.bool g12),.v (.bool g13)])]
  [] (by kernel_rfl) trivial h (by kernel_rfl)
theorem vc_ref06_Sample (s0:Bool) (s1p:OA) (s1n s1c:Nat) (s2p:OA) (s2n s2c:Nat) (s3:Bool) (s4p:OA) (s4n s4c:Nat) (s5p:OA) (s5n s5c:Nat) (s6:Bool) (s7:Bool) (V:View) (R:Value->View->Prop)
  (h:((s6=true->((s7=true->(∀V1,V.Le V1->R (.agg #[.bool false,.slice none 0 0,.slice none 0 0]) V1))/\(s7=false->((s6=true->(∀V2,V.Le V2->Acts prog 57 #[.int .i64 1] V2 fun r2_ V3=>∃b1_,∃p2_ n2_ c2_,∃p3_ n3_ c3_,r2_=.agg #[.bool b1_,.slice p2_ n2_ c2_,.slice p3_ n3_ c3_]/\(∀V4,V3.Le V4->Acts prog 95 #[.agg #[.bool s3,.slice s4p s4n s4c,.slice s5p s5n s5c],.agg #[.bool b1_,.slice p2_ n2_ c2_,.slice p3_ n3_ c3_]] V4 fun r4_ V5=>∃b4_,∃p5_ n5_ c5_,∃p6_ n6_ c6_,r4_=.agg #[.bool b4_,.slice p5_ n5_ c5_,.slice p6_ n6_ c6_]/\(∀V6,V5.Le V6->R (.agg #[.bool b4_,.slice p5_ n5_ c5_,.slice p6_ n6_ c6_]) V6))))/\(s6=false->((s7=true->(∀V7,V.Le V7->Acts prog 57 #[.int .i64 1] V7 fun r7_ V8=>∃b7_,∃p8_ n8_ c8_,∃p9_ n9_ c9_,r7_=.agg #[.bool b7_,.slice p8_ n8_ c8_,.slice p9_ n9_ c9_]/\(∀V9,V8.Le V9->Acts prog 80 #[.agg #[.bool s0,.slice s1p s1n s1c,.slice s2p s2n s2c],.agg #[.bool b7_,.slice p8_ n8_ c8_,.slice p9_ n9_ c9_]] V9 fun r9_ V10=>∃b10_,∃p11_ n11_ c11_,∃p12_ n12_ c12_,r9_=.agg #[.bool b10_,.slice p11_ n11_ c11_,.slice p12_ n12_ c12_]/\(∀V11,V10.Le V11->R (.agg #[.bool b10_,.slice p11_ n11_ c11_,.slice p12_ n12_ c12_]) V11))))/\(s7=false->(∀V12,V.Le V12->Acts prog 96 #[.agg #[.bool s0,.slice s1p s1n s1c,.slice s2p s2n s2c],.agg #[.bool s3,.slice s4p s4n s4c,.slice s5p s5n s5c]] V12 fun r12_ V13=>∃b13_,∃p14_ n14_ c14_,∃p15_ n15_ c15_,r12_=.agg #[.bool b13_,.slice p14_ n14_ c14_,.slice p15_ n15_ c15_]/\(∀V14,V13.Le V14->R (.agg #[.bool b13_,.slice p14_ n14_ c14_,.slice p15_ n15_ c15_]) V14)))))))))/\(s6=false->((s6=true->(∀V15,V.Le V15->Acts prog 57 #[.int .i64 1] V15 fun r15_ V16=>∃b16_,∃p17_ n17_ c17_,∃p18_ n18_ c18_,r15_=.agg #[.bool b16_,.slice p17_ n17_ c17_,.slice p18_ n18_ c18_]/\(∀V17,V16.Le V17->Acts prog 95 #[.agg #[.bool s3,.slice s4p s4n s4c,.slice s5p s5n s5c],.agg #[.bool b16_,.slice p17_ n17_ c17_,.slice p18_ n18_ c18_]] V17 fun r17_ V18=>∃b19_,∃p20_ n20_ c20_,∃p21_ n21_ c21_,r17_=.agg #[.bool b19_,.slice p20_ n20_ c20_,.slice p21_ n21_ c21_]/\(∀V19,V18.Le V19->R (.agg #[.bool b19_,.slice p20_ n20_ c20_,.slice p21_ n21_ c21_]) V19))))/\(s6=false->((s7=true->(∀V20,V.Le V20->Acts prog 57 #[.int .i64 1] V20 fun r20_ V21=>∃b22_,∃p23_ n23_ c23_,∃p24_ n24_ c24_,r20_=.agg #[.bool b22_,.slice p23_ n23_ c23_,.slice p24_ n24_ c24_]/\(∀V22,V21.Le V22->Acts prog 80 #[.agg #[.bool s0,.slice s1p s1n s1c,.slice s2p s2n s2c],.agg #[.bool b22_,.slice p23_ n23_ c23_,.slice p24_ n24_ c24_]] V22 fun r22_ V23=>∃b25_,∃p26_ n26_ c26_,∃p27_ n27_ c27_,r22_=.agg #[.bool b25_,.slice p26_ n26_ c26_,.slice p27_ n27_ c27_]/\(∀V24,V23.Le V24->R (.agg #[.bool b25_,.slice p26_ n26_ c26_,.slice p27_ n27_ c27_]) V24))))/\(s7=false->(∀V25,V.Le V25->Acts prog 96 #[.agg #[.bool s0,.slice s1p s1n s1c,.slice s2p s2n s2c],.agg #[.bool s3,.slice s4p s4n s4c,.slice s5p s5n s5c]] V25 fun r25_ V26=>∃b28_,∃p29_ n29_ c29_,∃p30_ n30_ c30_,r25_=.agg #[.bool b28_,.slice p29_ n29_ c29_,.slice p30_ n30_ c30_]/\(∀V27,V26.Le V27->R (.agg #[.bool b28_,.slice p29_ n29_ c29_,.slice p30_ n30_ c30_]) V27))))))))) :
  Acts prog 43 #[.agg #[.bool s0,.slice s1p s1n s1c,.slice s2p s2n s2c,.bool s3,.slice s4p s4n s4c,.slice s5p s5n s5c,.bool s6,.bool s7]] V R:=
 fn_does (LF:=LF0) (RF:=[1000007]) (β0:=(fun _=>0)) tab_ok mixed [] [] func43 (by kernel_rfl)
  [(0,.agg [.v (.bool s0),.v (.slice s1p s1n s1c),.v (.slice s2p s2n s2c),.v (.bool s3),.v (.slice s4p s4n s4c),.v (.slice s5p s5n s5c),.v (.bool s6),.v (.bool s7)])]
  [] (by kernel_rfl) trivial h (by kernel_rfl)
theorem vc_ref04_Cross (p0:Bool) (p1p:OA) (p1n p1c:Nat) (p2p:OA) (p2n p2c:Nat) (p3:Bool) (p4p:OA) (p4n p4c:Nat) (p5p:OA) (p5n p5c:Nat) (q0:Bool) (q1p:OA) (q1n q1c:Nat) (q2p:OA) (q2n q2c:Nat) (q3:Bool) (q4p:OA) (q4n q4c:Nat) (q5p:OA) (q5n q5c:Nat) (V:View) (R:Value->View->Prop)
  (h:(∀V1,V.Le V1->Acts prog 98 #[.agg #[.bool p0,.slice p1p p1n p1c,.slice p2p p2n p2c],.agg #[.bool q3,.slice q4p q4n q4c,.slice q5p q5n q5c]] V1 fun r1_ V2=>∃b1_,∃p2_ n2_ c2_,∃p3_ n3_ c3_,r1_=.agg #[.bool b1_,.slice p2_ n2_ c2_,.slice p3_ n3_ c3_]/\(∀V3,V2.Le V3->Acts prog 98 #[.agg #[.bool p3,.slice p4p p4n p4c,.slice p5p p5n p5c],.agg #[.bool q0,.slice q1p q1n q1c,.slice q2p q2n q2c]] V3 fun r3_ V4=>∃b4_,∃p5_ n5_ c5_,∃p6_ n6_ c6_,r3_=.agg #[.bool b4_,.slice p5_ n5_ c5_,.slice p6_ n6_ c6_]/\(∀V5,V4.Le V5->Acts prog 95 #[.agg #[.bool b1_,.slice p2_ n2_ c2_,.slice p3_ n3_ c3_],.agg #[.bool b4_,.slice p5_ n5_ c5_,.slice p6_ n6_ c6_]] V5 fun r5_ V6=>∃b7_,∃p8_ n8_ c8_,∃p9_ n9_ c9_,r5_=.agg #[.bool b7_,.slice p8_ n8_ c8_,.slice p9_ n9_ c9_]/\(∀V7,V6.Le V7->R (.agg #[.bool b7_,.slice p8_ n8_ c8_,.slice p9_ n9_ c9_]) V7))))) :
  Acts prog 45 #[.agg #[.bool p0,.slice p1p p1n p1c,.slice p2p p2n p2c,.bool p3,.slice p4p p4n p4c,.slice p5p p5n p5c],.agg #[.bool q0,.slice q1p q1n q1c,.slice q2p q2n q2c,.bool q3,.slice q4p q4n q4c,.slice q5p q5n q5c]] V R:=
 fn_does (LF:=LF0) (RF:=[1000007]) (β0:=(fun _=>0)) tab_ok mixed [] [] func45 (by kernel_rfl)
  [(0,.agg [.v (.bool p0),.v (.slice p1p p1n p1c),.v (.slice p2p p2n p2c),.v (.bool p3),.v (.slice p4p p4n p4c),.v (.slice p5p p5n p5c)]),(1,.agg [.v (.bool q0),.v (.slice q1p q1n q1c),.v (.slice q2p q2n q2c),.v (.bool q3),.v (.slice q4p q4n q4c),.v (.slice q5p q5n q5c)])]
  [] (by kernel_rfl) trivial h (by kernel_rfl)
end Go.Proofs.Tryz
/- Contracts: the parts of a fragment on the sides of a line; the only common point of two fragments. -/
namespace Go.Proofs.Tryz
open Go.Eng Go.Big
theorem c_frac_Max {V:View} {v w:Value} {x y:Rat} (hx:RR V v x) (hy:RR V w y) {k:Nat} (sx:Sz k x) (sy:Sz k y) (hk:2 * k < 1099511627776) :
  Acts prog 189 #[v,w] V fun r V'=>RR V' r (maxQ x y):=by
 have hx0:=hx
 have hy0:=hy
 obtain ⟨a,b,c,rfl⟩:=hx.shape
 obtain ⟨d,e,f,rfl⟩:=hy.shape
 refine vc_frac_Max a b c d e f V _ fun V1 l1=>(c_R_Cmp (hy0.le l1) (hx0.le l1) sy sx (by omega)).mono ?_
 rintro r V2 l2 rfl
 unfold maxQ
 exact ⟨_,rfl,fun h V3 l3=>by rw [if_pos (of_decide_eq_true h)]; exact hy0.le (l1.trans (l2.trans l3)),fun h V4 l4=>by rw [if_neg (of_decide_eq_false h)]; exact hx0.le (l1.trans (l2.trans l4))⟩
theorem c_frac_Min {V:View} {v w:Value} {x y:Rat} (hx:RR V v x) (hy:RR V w y) {k:Nat} (sx:Sz k x) (sy:Sz k y) (hk:2 * k < 1099511627776) :
  Acts prog 190 #[v,w] V fun r V'=>RR V' r (minQ x y):=by
 have hx0:=hx
 have hy0:=hy
 obtain ⟨a,b,c,rfl⟩:=hx.shape
 obtain ⟨d,e,f,rfl⟩:=hy.shape
 refine vc_frac_Min a b c d e f V _ fun V1 l1=>(c_R_Cmp (hy0.le l1) (hx0.le l1) sy sx (by omega)).mono ?_
 rintro r V2 l2 rfl
 unfold minQ
 exact ⟨_,rfl,fun h V3 l3=>by rw [if_pos (of_decide_eq_true h)]; exact hy0.le (l1.trans (l2.trans l3)),fun h V4 l4=>by rw [if_neg (of_decide_eq_false h)]; exact hx0.le (l1.trans (l2.trans l4))⟩
theorem Sp.meet_sz {v w:Sp} {k:Nat} (h1:v.sz k) (h2:w.sz k):(v.meet w).sz k:=by
 unfold Sp.meet Sp.sz maxQ minQ
 constructor <;> dsimp only
 ·split
  ·exact h2.1
  ·split
   ·exact h1.1
   ·split
    ·exact h2.1
    ·exact h1.1
 ·split
  ·exact h2.2
  ·split
   ·exact h1.2
   ·split
    ·exact h2.2
    ·exact h1.2
theorem c_Iv_Meet {V:View} {v w:Value} {s t:Sp} (h:RIv V v s) (h':RIv V w t) {k:Nat} (hs:s.sz k) (ht:t.sz k) (hk:2 * k < 1099511627776) :
  Acts prog 146 #[v,w] V fun r V'=>∃u,r=.tuple #[u,.bool (!(s.meet t).emp)]/\RIv V' u (s.meet t):=by
 obtain ⟨x1,x2,p,y1,y2,q,rfl,h1,h2⟩:=h
 obtain ⟨u1,u2,o,w1,w2,j,rfl,g1,g2⟩:=h'
 have lo1:s.a=true->(s.meet t).lo=t.lo/\(s.meet t).a=t.a:=fun e=>by simp [Sp.meet,e]
 have lo2:s.a=false->t.a=false->(s.meet t).lo=maxQ s.lo t.lo:=fun e e'=>by simp [Sp.meet,e,e']
 have lo3:s.a=false->t.a=true->(s.meet t).lo=s.lo:=fun e e'=>by simp [Sp.meet,e,e']
 have lo4:s.a=false->(s.meet t).a=s.a:=fun e=>by simp [Sp.meet,e]
 have hi1:s.b=true->(s.meet t).hi=t.hi/\(s.meet t).b=t.b:=fun e=>by simp [Sp.meet,e]
 have hi2:s.b=false->t.b=false->(s.meet t).hi=minQ s.hi t.hi:=fun e e'=>by simp [Sp.meet,e,e']
 have hi3:s.b=false->t.b=true->(s.meet t).hi=s.hi:=fun e e'=>by simp [Sp.meet,e,e']
 have hi4:s.b=false->(s.meet t).b=s.b:=fun e=>by simp [Sp.meet,e]
 refine vc_geo_Iv_Meet x1 x2 p y1 y2 q s.a s.b u1 u2 o w1 w2 j t.a t.b V _ ⟨fun z V1=>RR V1 (.agg #[.int .i64 z.1,.int .i64 z.2.1,.pointer z.2.2.1]) (s.meet t).lo/\RR V1 (.agg #[.int .i64 z.2.2.2.1,.int .i64 z.2.2.2.2.1,.pointer z.2.2.2.2.2.1]) s.hi/\z.2.2.2.2.2.2.1=(s.meet t).a/\z.2.2.2.2.2.2.2=s.b,⟨fun ha=>?_,fun ha=>⟨fun hb V1 l1=>(c_frac_Max (h1.le l1) (g1.le l1) hs.1 ht.1 hk).mono ?_,fun hb=>?_⟩⟩,?_⟩
 ·refine ⟨(u1,u2,o,y1,y2,q,t.a,s.b),by and_intros <;> rfl,?_,h2,(lo1 ha).2.symm,rfl⟩
  rw [(lo1 ha).1]; exact g1
 ·rintro r V2 l2 g
  rw [Bool.not_eq_true'] at hb
  have g0:=g
  obtain ⟨a1,a2,a3,rfl⟩:=g.shape
  refine ⟨_,_,_,rfl,(a1,a2,a3,y1,y2,q,s.a,s.b),by and_intros <;> rfl,?_,h2.le (l1.trans l2),(lo4 ha).symm,rfl⟩
  rw [lo2 ha hb]; exact g0
 ·rw [Bool.not_eq_false'] at hb
  refine ⟨(x1,x2,p,y1,y2,q,s.a,s.b),by and_intros <;> rfl,?_,h2,(lo4 ha).symm,rfl⟩
  rw [lo3 ha hb]; exact h1
 ·rintro ⟨z1,z2,z3,z4,z5,z6,z7,z8⟩ V3 l3 ⟨k1,k2,k3,k4⟩
  dsimp only at k1 k2 k3 k4
  subst k3 k4
  refine ⟨rfl,fun z V1=>RR V1 (.agg #[.int .i64 z.1,.int .i64 z.2.1,.pointer z.2.2.1]) (s.meet t).lo/\RR V1 (.agg #[.int .i64 z.2.2.2.1,.int .i64 z.2.2.2.2.1,.pointer z.2.2.2.2.2.1]) (s.meet t).hi/\z.2.2.2.2.2.2.1=(s.meet t).a/\z.2.2.2.2.2.2.2=(s.meet t).b,⟨fun ha=>?_,fun ha=>⟨fun hb V4 l4=>(c_frac_Min (h2.le (l3.trans l4)) (g2.le (l3.trans l4)) hs.2 ht.2 hk).mono ?_,fun hb=>?_⟩⟩,?_⟩
  ·refine ⟨(z1,z2,z3,w1,w2,j,(s.meet t).a,t.b),by and_intros <;> rfl,k1,?_,rfl,(hi1 ha).2.symm⟩
   rw [(hi1 ha).1]; exact g2.le l3
  ·rintro r V5 l5 g
   rw [Bool.not_eq_true'] at hb
   have g0:=g
   obtain ⟨a1,a2,a3,rfl⟩:=g.shape
   refine ⟨_,_,_,rfl,(z1,z2,z3,a1,a2,a3,(s.meet t).a,s.b),by and_intros <;> rfl,k1.le (l4.trans l5),?_,rfl,(hi4 ha).symm⟩
   rw [hi2 ha hb]; exact g0
  ·rw [Bool.not_eq_false'] at hb
   refine ⟨(z1,z2,z3,z4,z5,z6,(s.meet t).a,s.b),by and_intros <;> rfl,k1,?_,rfl,(hi4 ha).symm⟩
   rw [hi3 ha hb]; exact k2
  ·rintro ⟨y1,y2,y3,y4,y5,y6,y7,y8⟩ V6 l6 ⟨j1,j2,j3,j4⟩
   dsimp only at j1 j2 j3 j4
   subst j3 j4
   refine ⟨rfl,fun V7 l7=>(c_Iv_empty ⟨_,_,_,_,_,_,rfl,j1.le l7,j2.le l7⟩ (Sp.meet_sz hs ht) hk).mono ?_⟩
   rintro r V8 l8 rfl
   exact ⟨_,rfl,fun V9 l9=>⟨_,rfl,_,_,_,_,_,_,rfl,j1.le (l7.trans (l8.trans l9)),j2.le (l7.trans (l8.trans l9))⟩⟩
theorem sz_dotL {L M:L3} {k:Nat} (sl:SzL k L) (sm:SzL k M):Sz (4 * k + 3) (dotL M L):=z_geo_Pt_Dot_0 sm.1 sm.2.1 sl.2.1 sl.1.neg
theorem bas_eq {L M:L3}:(((M.1:Rat) * ((L.1:Rat) * (((-(L.2.2:Rat)) * (((L.1:Rat) * (L.1:Rat)) + ((L.2.1:Rat) * (L.2.1:Rat)))⁻¹)))) + ((M.2.1:Rat) * ((L.2.1:Rat) * (((-(L.2.2:Rat)) * (((L.1:Rat) * (L.1:Rat)) + ((L.2.1:Rat) * (L.2.1:Rat)))⁻¹))))) + (M.2.2:Rat)=basL M L:=by
 unfold basL valL atX atY normL; grind
theorem sz_basL {L M:L3} {k:Nat} (sl:SzL k L) (sm:SzL k M):Sz (50 * k + 49) (basL M L):=by
 rw [← bas_eq]
 exact Sz.mono (z_geo_Ln_Value_0 (k:=10 * k + 9) (sm.1.mono (by omega)) (sm.2.1.mono (by omega)) (sm.2.2.mono (by omega)) (z_geo_Ln_Base_0 sl.1 sl.2.1 sl.2.2) (z_geo_Ln_Base_1 sl.1 sl.2.1 sl.2.2)) (by omega)
theorem sz_cutP {L M:L3} {k:Nat} (sl:SzL k L) (sm:SzL k M):Sz (60 * k + 60) (cutP M L):=Sz.mono ((sz_basL sl sm).mul (sz_inv (sz_dotL sl sm))).neg (by omega)
theorem szz (k:Nat) (hk:0 < k):Sz k (0:Rat):=⟨by show (0:Int).natAbs < _; exact Nat.lt_of_lt_of_le (by decide) (Nat.one_le_two_pow),Nat.one_lt_two_pow (by omega)⟩
theorem sz_cutS {L M:L3} {s:Sp} {k:Nat} (sl:SzL k L) (hs:s.sz k) (sm:SzL k M):(cutS L s M).sz (60 * k + 60):=by
 have hs':s.sz (60 * k + 60):=⟨hs.1.mono (by omega),hs.2.mono (by omega)⟩
 have z:=szz (60 * k + 60) (by omega)
 unfold cutS
 split
 ·exact hs'
 ·split
  ·exact Sp.meet_sz hs' ⟨sz_cutP sl sm,z⟩
  ·exact Sp.meet_sz hs' ⟨z,sz_cutP sl sm⟩
theorem c_Ln_Cut {V:View} {l v m:Value} {L:L3} {s:Sp} {M:L3} (hl:RLi V l L) (hv:RIv V v s) (hm:RLi V m M) {k:Nat} (sl:SzL k L) (hs:s.sz k) (sm:SzL k M) (hk:200 * k + 200 < 274877906944) :
  Acts prog 155 #[l,v,m] V fun r V'=>∃w,r=.tuple #[w,.bool (cutB L s M)]/\RIv V' w (cutS L s M):=by
 have hl0:=hl
 have hv0:=hv
 have hm0:=hm
 obtain ⟨_,_,_,_,_,_,_,_,_,rfl,-,-,-⟩:=hl
 obtain ⟨_,_,_,_,_,_,rfl,-,-⟩:=hv
 obtain ⟨_,_,_,_,_,_,_,_,_,rfl,-,-,-⟩:=hm
 have hs':s.sz (60 * k + 60):=⟨hs.1.mono (by omega),hs.2.mono (by omega)⟩
 have z:=szz (60 * k + 60) (by omega)
 refine vc_geo_Ln_Cut _ _ _ _ _ _ _ _ _ _ _ _ _ _ _ _ _ _ _ _ _ _ _ _ _ _ V _ fun V1 l1=>(c_geo_Ln_Normal (hm0.le l1) sm.1 sm.2.1 sm.2.2 (by omega)).mono ?_
 rintro r V2 l2 g1
 have g10:=g1
 obtain ⟨_,_,_,_,_,_,rfl,-,-⟩:=g1
 refine ⟨_,_,_,_,_,_,rfl,fun V3 l3=>(c_geo_Ln_Dir (hl0.le (l1.trans (l2.trans l3))) sl.1 sl.2.1 sl.2.2 (by omega)).mono ?_⟩
 rintro r V4 l4 g2
 have g20:=g2
 obtain ⟨_,_,_,_,_,_,rfl,-,-⟩:=g2
 refine ⟨_,_,_,_,_,_,rfl,fun V5 l5=>(c_geo_Pt_Dot (g10.le (l3.trans (l4.trans l5))) (g20.le l5) sm.1 sm.2.1 sl.2.1 sl.1.neg (by omega)).mono ?_⟩
 rintro r V6 l6 g3
 have g30:RR V6 r (dotL M L):=g3
 obtain ⟨_,_,_,rfl⟩:=g3.shape
 have L6:V.Le V6:=l1.trans (l2.trans (l3.trans (l4.trans (l5.trans l6))))
 refine ⟨_,_,_,rfl,fun V7 l7=>(c_geo_Ln_Base (hl0.le (L6.trans l7)) sl.1 sl.2.1 sl.2.2 (by omega)).mono ?_⟩
 rintro r V8 l8 g4
 have g40:=g4
 obtain ⟨_,_,_,_,_,_,rfl,-,-⟩:=g4
 refine ⟨_,_,_,_,_,_,rfl,fun V9 l9=>(c_geo_Ln_Value (k:=10 * k + 9) (hm0.le (L6.trans (l7.trans (l8.trans l9)))) (g40.le l9) (sm.1.mono (by omega)) (sm.2.1.mono (by omega)) (sm.2.2.mono (by omega)) (z_geo_Ln_Base_0 sl.1 sl.2.1 sl.2.2) (z_geo_Ln_Base_1 sl.1 sl.2.1 sl.2.2) (by omega)).mono ?_⟩
 rintro r V10 l10 g5
 rw [bas_eq] at g5
 have g50:=g5
 obtain ⟨_,_,_,rfl⟩:=g5.shape
 have L6_10:V6.Le V10:=l7.trans (l8.trans (l9.trans l10))
 refine ⟨_,_,_,rfl,fun V11 l11=>(c_R_Sign (g30.le (L6_10.trans l11)) (sz_dotL sl sm) (by omega)).mono ?_⟩
 rintro r V12 l12 rfl
 have L12:V10.Le V12:=l11.trans l12
 refine ⟨_,rfl,fun hz V13 l13=>(c_R_Sign (g50.le (L12.trans l13)) (sz_basL sl sm) (by omega)).mono ?_,fun hz=>⟨fun h1 V16 l16=>(c_R_Quo (g50.le (L12.trans l16)) (g30.le (L6_10.trans (L12.trans l16))) (sz_basL sl sm) (sz_dotL sl sm) (by omega)).mono ?_,fun h1 V23 l23=>(c_R_Quo (g50.le (L12.trans l23)) (g30.le (L6_10.trans (L12.trans l23))) (sz_basL sl sm) (sz_dotL sl sm) (by omega)).mono ?_⟩⟩
 ·rintro r V14 l14 rfl
  have eB:cutB L s M=decide ((basL M L).num.sign > 0):=by unfold cutB; rw [if_pos hz]
  have eS:cutS L s M=s:=by unfold cutS; rw [if_pos hz]
  rw [eB,eS]
  exact ⟨_,rfl,fun V15 l15=>⟨_,rfl,hv0.le (L6.trans (L6_10.trans (L12.trans (l13.trans (l14.trans l15)))))⟩⟩
 ·have eS:cutS L s M=s.meet ⟨cutP M L,0,false,true⟩:=by unfold cutS; rw [if_neg (by rw [hz]; exact Bool.false_ne_true),if_pos h1]
  have eB:cutB L s M=!(s.meet ⟨cutP M L,0,false,true⟩).emp:=by rw [← eS]; unfold cutB; rw [if_neg (by rw [hz]; exact Bool.false_ne_true)]
  rw [eB,eS]
  rintro r V17 l17 g6
  have g60:=g6
  obtain ⟨_,_,_,rfl⟩:=g6.shape
  refine ⟨_,_,_,rfl,fun V18 l18=>(c_R_Neg (g60.le l18) ((sz_basL sl sm).mul (sz_inv (sz_dotL sl sm))) (by omega)).mono ?_⟩
  rintro r V19 l19 g7
  have g70:RR V19 r (cutP M L):=g7
  obtain ⟨_,_,_,rfl⟩:=g7.shape
  refine ⟨_,_,_,rfl,fun V20 l20=>(c_Iv_Meet (t:=⟨cutP M L,0,false,true⟩) (hv0.le (L6.trans (L6_10.trans (L12.trans (l16.trans (l17.trans (l18.trans (l19.trans l20)))))))) ⟨_,_,_,_,_,_,rfl,g70.le l20,RR.zero _⟩ hs' ⟨sz_cutP sl sm,z⟩ (by omega)).mono ?_⟩
  rintro r V21 l21 ⟨w,rfl,g8⟩
  have g80:=g8
  obtain ⟨_,_,_,_,_,_,rfl,-,-⟩:=g8
  exact ⟨_,_,_,_,_,_,_,_,_,rfl,fun V22 l22=>⟨_,rfl,g80.le l22⟩⟩
 ·have eS:cutS L s M=s.meet ⟨0,cutP M L,true,false⟩:=by unfold cutS; rw [if_neg (by rw [hz]; exact Bool.false_ne_true),if_neg (by rw [h1]; exact Bool.false_ne_true)]
  have eB:cutB L s M=!(s.meet ⟨0,cutP M L,true,false⟩).emp:=by rw [← eS]; unfold cutB; rw [if_neg (by rw [hz]; exact Bool.false_ne_true)]
  rw [eB,eS]
  rintro r V17 l17 g6
  have g60:=g6
  obtain ⟨_,_,_,rfl⟩:=g6.shape
  refine ⟨_,_,_,rfl,fun V18 l18=>(c_R_Neg (g60.le l18) ((sz_basL sl sm).mul (sz_inv (sz_dotL sl sm))) (by omega)).mono ?_⟩
  rintro r V19 l19 g7
  have g70:RR V19 r (cutP M L):=g7
  obtain ⟨_,_,_,rfl⟩:=g7.shape
  refine ⟨_,_,_,rfl,fun V20 l20=>(c_Iv_Meet (t:=⟨0,cutP M L,true,false⟩) (hv0.le (L6.trans (L6_10.trans (L12.trans (l23.trans (l17.trans (l18.trans (l19.trans l20)))))))) ⟨_,_,_,_,_,_,rfl,RR.zero _,g70.le l20⟩ hs' ⟨z,sz_cutP sl sm⟩ (by omega)).mono ?_⟩
  rintro r V21 l21 ⟨w,rfl,g8⟩
  have g80:=g8
  obtain ⟨_,_,_,_,_,_,rfl,-,-⟩:=g8
  exact ⟨_,_,_,_,_,_,_,_,_,rfl,fun V22 l22=>⟨_,rfl,g80.le l22⟩⟩
/-- A list of fragments of package geo. -/
structure RFrs (V:View) (p:OA) (n:Nat) (fs:List (L3 × Sp)):Prop where
 len:n=fs.length
 at_:∀(i:Nat) (h:i < fs.length),∃ad,addrAdd p (i * 17)=some ad/\∃xs:List Value,RFr V (.agg xs.toArray) fs[i].1 fs[i].2/\∀j x,xs[j]?=some x->V.at (ad.add j) x
theorem RFrs.le {V V':View} {p:OA} {n:Nat} {fs:List (L3 × Sp)} (h:RFrs V p n fs) (e:V.Le V'):RFrs V' p n fs:=⟨h.len,fun i hi=>by obtain ⟨ad,h1,xs,h2,h3⟩:=h.at_ i hi; exact ⟨ad,h1,xs,h2.le e,fun j x hx=>e.at (h3 j x hx)⟩⟩
theorem RFrs.nil {V:View}:RFrs V none 0 []:=⟨rfl,fun i hi=>by simp at hi⟩
theorem RFrs.one {V:View} {bk:Nat} {xs:List Value} {ty:TypeId} {l:L3} {s:Sp} (hb:V.blk bk (.cells xs.toArray ty (0,0))) (hf:RFr V (.agg xs.toArray) l s):RFrs V (some ⟨bk,0,none⟩) 1 [(l,s)]:=by
 refine ⟨rfl,fun i hi=>?_⟩
 obtain rfl:i=0:=by simpa using hi
 refine ⟨⟨bk,0,none⟩,by simp [addrAdd,add_zero'],_,hf,fun j x hx=>?_⟩
 rw [add_zero']
 exact blk_at hb hx
def sideF (l:L3) (s:Sp) (m:L3):List (L3 × Sp):=if cutB l s m=true then [(l,cutS l s m)] else []
theorem sideF_pos {l:L3} {s:Sp} {m:L3} (h:cutB l s m=true):sideF l s m=[(l,cutS l s m)]:=if_pos h
theorem sideF_neg {l:L3} {s:Sp} {m:L3} (h:cutB l s m=false):sideF l s m=[]:=if_neg (by rw [h]; exact Bool.false_ne_true)
theorem c_Fr_Split {V:View} {v w:Value} {L:L3} {s:Sp} {M:L3} (h:RFr V v L s) (hm:RLi V w M) {k:Nat} (sl:SzL k L) (hs:s.sz k) (sm:SzL k M) (hk:200 * k + 200 < 274877906944) :
  Acts prog 91 #[v,w] V fun r V'=>∃p n c q m e,r=.tuple #[.slice p n c,.slice q m e]/\RFrs V' p n (sideF L s M)/\RFrs V' q m (sideF L s (revL M)):=by
 have hm0:=hm
 obtain ⟨_,_,_,_,_,_,_,_,_,_,_,_,_,_,_,rfl,h1,h2⟩:=h
 obtain ⟨_,_,_,_,_,_,_,_,_,rfl,-,-,-⟩:=hm
 refine vc_geo_Fr_Split _ _ _ _ _ _ _ _ _ _ _ _ _ _ _ _ _ _ _ _ _ _ _ _ _ _ V _ fun V1 l1=>(c_Ln_Cut (h1.le l1) (h2.le l1) (hm0.le l1) sl hs sm hk).mono ?_
 rintro r V2 l2 ⟨u,rfl,g1⟩
 have g10:=g1
 obtain ⟨_,_,_,_,_,_,rfl,-,-⟩:=g1
 have L2:=l1.trans l2
 have fr:∀{V':View} {t:Sp} {x1 x2 p y1 y2 q},V.Le V'->RIv V' (.agg #[.int .i64 x1,.int .i64 x2,.pointer p,.int .i64 y1,.int .i64 y2,.pointer q,.bool t.a,.bool t.b]) t->RFr V' (.agg #[_,_,_,_,_,_,_,_,_,.int .i64 x1,.int .i64 x2,.pointer p,.int .i64 y1,.int .i64 y2,.pointer q,.bool t.a,.bool t.b]) L t:=fun l g=>⟨_,_,_,_,_,_,_,_,_,_,_,_,_,_,_,rfl,h1.le l,g⟩
 refine ⟨_,_,_,_,_,_,_,_,_,rfl,fun hb V3 l3=>(k_Reverse (hm0.le (L2.trans l3)) sm (by omega)).mono ?_,fun hb V9 l9=>(k_Reverse (hm0.le (L2.trans l9)) sm (by omega)).mono ?_⟩
 ·rw [sideF_pos hb]
  rintro r V4 l4 g2
  have g20:=g2
  obtain ⟨_,_,_,_,_,_,_,_,_,rfl,-,-,-⟩:=g2
  refine ⟨_,_,_,_,_,_,_,_,_,rfl,fun V5 l5=>(c_Ln_Cut (h1.le (L2.trans (l3.trans (l4.trans l5)))) (h2.le (L2.trans (l3.trans (l4.trans l5)))) (g20.le l5) sl hs sm.rev hk).mono ?_⟩
  rintro r V6 l6 ⟨u,rfl,g3⟩
  have g30:=g3
  obtain ⟨_,_,_,_,_,_,rfl,-,-⟩:=g3
  have L6:V2.Le V6:=l3.trans (l4.trans (l5.trans l6))
  refine ⟨_,_,_,_,_,_,_,_,_,rfl,fun hc V7 l7 b1 b2 hb1 hb2=>?_,fun hc V8 l8 b1 hb1=>?_⟩
  ·rw [sideF_pos hc]
   exact ⟨_,_,_,_,_,_,rfl,RFrs.one hb1 (fr (L2.trans (L6.trans l7)) (g10.le (L6.trans l7))),RFrs.one hb2 (fr (L2.trans (L6.trans l7)) (g30.le l7))⟩
  ·rw [sideF_neg hc]
   exact ⟨_,_,_,_,_,_,rfl,RFrs.one hb1 (fr (L2.trans (L6.trans l8)) (g10.le (L6.trans l8))),RFrs.nil⟩
 ·rw [sideF_neg hb]
  rintro r V4 l4 g2
  have g20:=g2
  obtain ⟨_,_,_,_,_,_,_,_,_,rfl,-,-,-⟩:=g2
  refine ⟨_,_,_,_,_,_,_,_,_,rfl,fun V5 l5=>(c_Ln_Cut (h1.le (L2.trans (l9.trans (l4.trans l5)))) (h2.le (L2.trans (l9.trans (l4.trans l5)))) (g20.le l5) sl hs sm.rev hk).mono ?_⟩
  rintro r V6 l6 ⟨u,rfl,g3⟩
  have g30:=g3
  obtain ⟨_,_,_,_,_,_,rfl,-,-⟩:=g3
  have L6:V2.Le V6:=l9.trans (l4.trans (l5.trans l6))
  refine ⟨_,_,_,_,_,_,_,_,_,rfl,fun hc V7 l7 b1 hb1=>?_,fun hc V8 l8=>?_⟩
  ·rw [sideF_pos hc]
   exact ⟨_,_,_,_,_,_,rfl,RFrs.nil,RFrs.one hb1 (fr (L2.trans (L6.trans l7)) (g30.le l7))⟩
  ·rw [sideF_neg hc]
   exact ⟨_,_,_,_,_,_,rfl,RFrs.nil,RFrs.nil⟩
end Go.Proofs.Tryz
/- Contracts: Write of fragments; fragment.Split; the only common point: onto, Meet. -/
namespace Go.Proofs.Tryz
open Go.Eng Go.Big
theorem c_WriteFrs {V:View} {p:OA} {n c:Nat} {fs:List (L3 × Sp)} (h:RFrs V p n fs) (hn:fs.length<=1000) {k:Nat} (hs:∀f ∈ fs,SzL k f.1/\f.2.sz k) (hk:k<=1099511627776) :
  Acts prog 92 #[.slice p n c] V fun r V'=>∃q m e,r=.slice q m e/\RFas V' q m fs:=by
 obtain rfl:=h.len
 refine vc_geo_WriteFrs p _ c V _ ⟨fun z V'=>∃j:Nat,z.2.2.2=(j:Int)/\j<=fs.length/\z.1=j/\j<=z.2.1/\z.2.1 * 14<=z.2.2.1.length/\∀(i:Nat) (_:i < j) (hi:i < fs.length),∃xs:List Value,xs.length=14/\RFa V' (.agg xs.toArray) fs[i].1 fs[i].2/\∀q x,xs[q]?=some x->z.2.2.1[i * 14 + q]?=some x,
  fun z=>fs.length - z.2.2.2.toNat,⟨(0,0,[],0),by and_intros <;> rfl,0,rfl,Nat.zero_le _,rfl,Nat.le_refl _,Nat.le_refl _,fun i hi=>absurd hi (Nat.not_lt_zero i)⟩,?_⟩
 rintro ⟨z1,z2,vs,z4⟩ V1 l1 ⟨j,e4,jle,e1,jc,hv,hx⟩
 dsimp only at e4 e1 jc hv hx
 subst e4 e1
 refine ⟨rfl,fun hlt=>?_,fun hlt V4 l4 bk hb=>?_⟩
 ·have hlt:(z1:Int) < fs.length:=of_decide_eq_true hlt
  have hi:z1 < fs.length:=by omega
  obtain ⟨ad,ha,xs,hf,hat⟩:=(h.le l1).at_ z1 hi
  have w:i64.wrap ((z1:Int) + 1)=(z1:Int) + 1:=i64w (by omega)
  dsimp only
  rw [Int.toNat_natCast,w,ha]
  have hf0:=hf
  obtain ⟨_,_,_,_,_,_,_,_,_,_,_,_,_,_,_,ex,-,-⟩:=hf
  have ex:=congrArg Array.toList (Value.agg.inj ex)
  dsimp only at ex
  subst ex
  obtain ⟨s1,s2⟩:=hs _ (List.getElem_mem hi)
  refine ⟨isSome_addr ha,⟨by omega,by omega⟩,_,_,_,_,_,_,_,_,_,_,_,_,_,_,_,_,_,ad,rfl,hat 0 _ rfl,hat 1 _ rfl,hat 2 _ rfl,hat 3 _ rfl,hat 4 _ rfl,hat 5 _ rfl,hat 6 _ rfl,hat 7 _ rfl,hat 8 _ rfl,hat 9 _ rfl,hat 10 _ rfl,hat 11 _ rfl,hat 12 _ rfl,hat 13 _ rfl,hat 14 _ rfl,hat 15 _ rfl,hat 16 _ rfl,fun V2 l2=>(c_Fr_API (hf0.le l2) s1 s2 hk).mono ?_⟩
  rintro r V3 l3 g
  have g0:=g
  obtain ⟨_,_,_,_,_,_,_,_,_,_,_,_,_,_,_,_,_,_,_,_,_,_,_,_,_,_,rfl⟩:=fa_shape g
  refine ⟨_,_,_,_,_,_,_,_,_,_,_,_,_,_,_,_,_,_,_,_,_,_,_,_,_,_,_,_,rfl,by omega,jc,hv,rfl,?_,?_⟩
  ·intro v hm
   simp only [List.mem_cons,List.not_mem_nil,or_false] at hm
   rcases hm with rfl | rfl | rfl | rfl | rfl | rfl | rfl | rfl | rfl | rfl | rfl | rfl | rfl | rfl <;> rfl
  ·intro sp c' h1 h2
   refine ⟨(z1 + 1,c',_,(z1:Int) + 1),by dsimp only; omega,by and_intros <;> rfl,z1 + 1,rfl,hi,rfl,h1,?_,?_⟩
   ·dsimp only
    have ht:(vs.take (z1 * 14)).length=z1 * 14:=by rw [List.length_take]; omega
    rw [List.length_append,List.length_append,ht]
    simp only [List.length_cons,List.length_nil]
    omega
   ·intro i hi1 hi2
    dsimp only
    have ht:(vs.take (z1 * 14)).length=z1 * 14:=by rw [List.length_take]; omega
    by_cases hlast:i=z1
    ·subst hlast
     refine ⟨_,rfl,g0,fun q x hq=>?_⟩
     rw [List.append_assoc,List.getElem?_append_right (by rw [ht]; omega),ht,Nat.add_sub_cancel_left]
     have:q < 14:=(List.getElem?_eq_some_iff.1 hq).1
     rw [List.getElem?_append_left (by exact this)]
     exact hq
    ·obtain ⟨ys,y1,y2,y3⟩:=hx i (by omega) hi2
     refine ⟨ys,y1,y2.le (l2.trans l3),fun q x hq=>?_⟩
     have:q < 14:=by have:=(List.getElem?_eq_some_iff.1 hq).1; omega
     rw [List.append_assoc,List.getElem?_append_left (by rw [ht]; omega),List.getElem?_take,if_pos (by omega)]
     exact y3 q x hq
 ·have hlt:¬ (z1:Int) < fs.length:=of_decide_eq_false hlt
  obtain rfl:z1=fs.length:=by omega
  refine ⟨_,_,_,rfl,rfl,fun i hi=>?_⟩
  have hz:z2≠0:=by omega
  have hne:vs≠[]:=fun e=>by rw [e] at hv; simp at hv; omega
  obtain ⟨ys,y1,y2,y3⟩:=hx i hi hi
  refine ⟨⟨bk,i * 14,none⟩,by simp [mA,hz,addrAdd,add_zero'],ys,y2.le l4,fun q x hq=>?_⟩
  have hj:(⟨bk,i * 14,none⟩:Addr).add q=⟨bk,i * 14 + q,none⟩:=by rw [← add_zero',Addr_add_add,add_zero']
  rw [hj]
  exact blk_at (hb hne) (y3 q x hq)
theorem sideF_len (l:L3) (s:Sp) (m:L3):(sideF l s m).length<=1000:=by unfold sideF; split <;> simp
theorem sideF_sz {l:L3} {s:Sp} {m:L3} {k:Nat} (sl:SzL k l) (hs:s.sz k) (sm:SzL k m):∀f ∈ sideF l s m,SzL (60 * k + 60) f.1/\f.2.sz (60 * k + 60):=by
 intro f hf
 unfold sideF at hf
 split at hf
 ·rw [List.mem_singleton] at hf
  subst hf
  exact ⟨⟨sl.1.mono (by omega),sl.2.1.mono (by omega),sl.2.2.mono (by omega)⟩,sz_cutS sl hs sm⟩
 ·simp at hf
theorem c_Split {V:View} {v w:Value} {l:L3} {s:Sp} {m:L3} (h:RFa V v l s) (hm:RL V w m.1 m.2.1 m.2.2) (ho:FOk l s) (hom:okL m=true) {k:Nat} (sl:SzL k l) (hs:s.sz k) (sm:SzL k m) (hk:400 * k + 400 < 274877906944) :
  Acts prog 40 #[v,w] V fun r V'=>∃p n c q i e,r=.tuple #[.slice p n c,.slice q i e,.nilIface]/\RFas V' p n (sideF l s m)/\RFas V' q i (sideF l s (revL m)):=by
 have h0:=h
 have hm0:=hm
 obtain ⟨_,_,_,_,_,_,_,_,_,_,_,_,_,_,_,_,_,_,_,_,_,_,_,_,_,_,rfl⟩:=fa_shape h
 obtain ⟨_,_,_,_,_,_,_,_,_,_,_,_,rfl⟩:=rl_shape hm
 refine vc_fragment_Split _ _ _ _ _ _ _ _ _ _ _ _ _ _ _ _ _ _ _ _ _ _ _ _ _ _ _ _ _ _ _ _ _ _ _ _ _ _ _ _ V _ fun V1 l1=>(c_FrOf_ok (h0.le l1) ho sl hs (by omega)).mono ?_
 rintro r V2 l2 ⟨u,rfl,g1⟩
 have g10:=g1
 obtain ⟨_,_,_,_,_,_,_,_,_,_,_,_,_,_,_,rfl⟩:=FrSh.ex g1
 refine ⟨_,_,_,_,_,_,_,_,_,_,_,_,_,_,_,_,_,_,rfl,fun V3 l3=>(c_LnOf_ok (hm0.le (l1.trans (l2.trans l3))) hom sm (by omega)).mono ?_⟩
 rintro r V4 l4 ⟨u,rfl,g2⟩
 have g20:=g2
 obtain ⟨_,_,_,_,_,_,_,_,_,rfl,-,-,-⟩:=g2
 refine ⟨_,_,_,_,_,_,_,_,_,_,rfl,(fun h=>nomatch h),fun _=>⟨(fun h=>nomatch h),fun _ V7 l7=>(c_Fr_Split (g10.le (l3.trans (l4.trans l7))) (g20.le l7) sl hs sm (by omega)).mono ?_⟩⟩
 rintro r V8 l8 ⟨p,n,c,q,i,e,rfl,f1,f2⟩
 refine ⟨_,_,_,_,_,_,rfl,fun V9 l9=>(c_WriteFrs (f1.le l9) (sideF_len _ _ _) (sideF_sz sl hs sm) (by omega)).mono ?_⟩
 rintro r V10 l10 ⟨p1,n1,c1,rfl,k1⟩
 refine ⟨_,_,_,rfl,fun V11 l11=>(c_WriteFrs (f2.le (l9.trans (l10.trans l11))) (sideF_len _ _ _) (sideF_sz sl hs sm.rev) (by omega)).mono ?_⟩
 rintro r V12 l12 ⟨p2,n2,c2,rfl,k2⟩
 exact ⟨_,_,_,rfl,fun V13 l13=>⟨_,_,_,_,_,_,rfl,k1.le (l11.trans (l12.trans l13)),k2.le l13⟩⟩
/-! the only common point -/
theorem eqL_iff {L M:L3}:((L.1:Rat)=(M.1:Rat)/\(L.2.1:Rat)=(M.2.1:Rat)/\(L.2.2:Rat)=(M.2.2:Rat))↔L=M:=by
 constructor
 ·rintro ⟨h1,h2,h3⟩
  exact Prod.ext (Rat.intCast_inj.1 h1) (Prod.ext (Rat.intCast_inj.1 h2) (Rat.intCast_inj.1 h3))
 ·rintro rfl
  exact ⟨rfl,rfl,rfl⟩
theorem k_Equal {V:View} {v w:Value} {L M:L3} (hl:RLi V v L) (hm:RLi V w M) {k:Nat} (sl:SzL k L) (sm:SzL k M) (hk:k + k < 1099511627776) :
  Acts prog 182 #[v,w] V fun r V'=>r=.bool (decide (L=M)):=by
 refine (c_geo_Equal hl hm sl.1 sl.2.1 sl.2.2 sm.1 sm.2.1 sm.2.2 hk).mono ?_
 rintro r V' l rfl
 rw [decide_eq_decide.2 eqL_iff]
def IvSh (u:Value):Prop:=∃(x1 x2:Int) (p:OA) (y1 y2:Int) (q:OA) (a b:Bool),u=.agg #[.int .i64 x1,.int .i64 x2,.pointer p,.int .i64 y1,.int .i64 y2,.pointer q,.bool a,.bool b]
def PtSh (u:Value):Prop:=∃(x1 x2:Int) (p:OA) (y1 y2:Int) (q:OA),u=.agg #[.int .i64 x1,.int .i64 x2,.pointer p,.int .i64 y1,.int .i64 y2,.pointer q]
theorem c_Fr_onto {V:View} {v w:Value} {M:L3} {t:Sp} {L:L3} (h:RFr V v M t) (hl:RLi V w L) {k:Nat} (sm:SzL k M) (st:t.sz k) (sl:SzL k L) (hk:2 * k + 2 < 274877906944) :
  Acts prog 141 #[v,w] V fun r V'=>∃u,r=.tuple #[u,.bool (onB M L)]/\IvSh u/\(onB M L=true->RIv V' u (onS M t L)):=by
 have hl0:=hl
 obtain ⟨_,_,_,_,_,_,_,_,_,_,_,_,_,_,_,rfl,h1,h2⟩:=h
 obtain ⟨_,_,_,_,_,_,_,_,_,rfl,-,-,-⟩:=hl
 refine vc_geo_Fr_onto _ _ _ _ _ _ _ _ _ _ _ _ _ _ _ _ _ _ _ _ _ _ _ _ _ _ V _ fun V1 l1=>(k_Equal (h1.le l1) (hl0.le l1) sm sl (by omega)).mono ?_
 rintro r V2 l2 rfl
 refine ⟨_,rfl,fun he V3 l3=>?_,fun he V4 l4=>(k_Reverse (hl0.le (l1.trans (l2.trans l4))) sl (by omega)).mono ?_⟩
 ·have he:=of_decide_eq_true he
  have e1:onB M L=true:=by unfold onB; simp [he]
  have e2:onS M t L=t:=if_pos he
  rw [e1,e2]
  exact ⟨_,rfl,⟨_,_,_,_,_,_,_,_,rfl⟩,fun _=>h2.le (l1.trans (l2.trans l3))⟩
 ·have he:=of_decide_eq_false he
  rintro r V5 l5 g
  have g0:=g
  obtain ⟨_,_,_,_,_,_,_,_,_,rfl,-,-,-⟩:=g
  have L4:=l1.trans (l2.trans (l4.trans l5))
  refine ⟨_,_,_,_,_,_,_,_,_,rfl,fun V6 l6=>(k_Equal (h1.le (L4.trans l6)) (g0.le l6) sm sl.rev (by omega)).mono ?_⟩
  rintro r V7 l7 rfl
  refine ⟨_,rfl,fun h' V8 l8=>(c_Iv_Neg (h2.le (L4.trans (l6.trans (l7.trans l8)))) st (by omega)).mono ?_,fun h' V11 l11=>?_⟩
  ·have e1:onB M L=true:=by unfold onB; rw [h',Bool.or_true]
   have e2:onS M t L=t.neg:=if_neg he
   rw [e1,e2]
   rintro r V9 l9 g2
   have g20:=g2
   obtain ⟨_,_,_,_,_,_,rfl,-,-⟩:=g2
   exact ⟨_,_,_,_,_,_,_,_,rfl,fun V10 l10=>⟨_,rfl,⟨_,_,_,_,_,_,_,_,rfl⟩,fun _=>g20.le l10⟩⟩
  ·have e1:onB M L=false:=by unfold onB; rw [h',decide_eq_false he]; rfl
   rw [e1]
   exact ⟨_,rfl,⟨_,_,_,_,_,_,_,_,rfl⟩,(fun h=>nomatch h)⟩
theorem sz_cross {L M:L3} {k:Nat} (sl:SzL k L) (sm:SzL k M):Sz (4 * k + 3) (crossL L M):=z_geo_Pt_Cross_0 sl.1 sl.2.1 sm.1 sm.2.1
theorem sz_me {L M:L3} {k:Nat} (sl:SzL k L) (sm:SzL k M):Sz (10 * k + 10) (meX L M)/\Sz (10 * k + 10) (meY L M):=
 ⟨Sz.mono (((sl.2.1.mul sm.2.2).sub (sl.2.2.mul sm.2.1)).mul (sz_inv (sz_cross sl sm))) (by omega),Sz.mono (((sl.2.2.mul sm.1).sub (sl.1.mul sm.2.2)).mul (sz_inv (sz_cross sl sm))) (by omega)⟩
theorem c_Ln_Meet {V:View} {l m:Value} {L M:L3} (hl:RLi V l L) (hm:RLi V m M) {k:Nat} (sl:SzL k L) (sm:SzL k M) (hk:20 * k + 20 < 274877906944) :
  Acts prog 142 #[l,m] V fun r V'=>∃w,r=.tuple #[w,.bool (decide (crossL L M≠0))]/\PtSh w/\(crossL L M≠0->RPt V' w (meX L M) (meY L M)):=by
 have hl0:=hl
 have hm0:=hm
 obtain ⟨_,_,_,_,_,_,_,_,_,rfl,a1,a2,a3⟩:=hl
 obtain ⟨_,_,_,_,_,_,_,_,_,rfl,b1,b2,b3⟩:=hm
 have sd:=sz_cross sl sm
 refine vc_geo_Ln_Meet _ _ _ _ _ _ _ _ _ _ _ _ _ _ _ _ _ _ V _ fun V1 l1=>(c_geo_Ln_Normal (hl0.le l1) sl.1 sl.2.1 sl.2.2 (by omega)).mono ?_
 rintro r V2 l2 g1
 have g10:=g1
 obtain ⟨_,_,_,_,_,_,rfl,-,-⟩:=g1
 refine ⟨_,_,_,_,_,_,rfl,fun V3 l3=>(c_geo_Ln_Normal (hm0.le (l1.trans (l2.trans l3))) sm.1 sm.2.1 sm.2.2 (by omega)).mono ?_⟩
 rintro r V4 l4 g2
 have g20:=g2
 obtain ⟨_,_,_,_,_,_,rfl,-,-⟩:=g2
 refine ⟨_,_,_,_,_,_,rfl,fun V5 l5=>(c_geo_Pt_Cross (g10.le (l3.trans (l4.trans l5))) (g20.le l5) sl.1 sl.2.1 sm.1 sm.2.1 (by omega)).mono ?_⟩
 rintro r V6 l6 g3
 have g30:RR V6 r (crossL L M):=g3
 obtain ⟨_,_,_,rfl⟩:=g3.shape
 have L6:V.Le V6:=l1.trans (l2.trans (l3.trans (l4.trans (l5.trans l6))))
 refine ⟨_,_,_,rfl,fun V7 l7=>(c_R_Zero (g30.le l7)).mono ?_⟩
 rintro r V8 l8 rfl
 have L8:=l7.trans l8
 refine ⟨_,rfl,fun h V9 l9=>?_,fun h V10 l10=>(c_R_Mul (a2.le (L6.trans (L8.trans l10))) (b3.le (L6.trans (L8.trans l10))) sl.2.1 sm.2.2 (by omega)).mono ?_⟩
 ·have h:=of_decide_eq_true h
  have e:decide (crossL L M≠0)=false:=by simp [h]
  rw [e]
  exact ⟨_,rfl,⟨_,_,_,_,_,_,rfl⟩,fun h'=>absurd h h'⟩
 ·have h:=of_decide_eq_false h
  have e:decide (crossL L M≠0)=true:=by simp [h]
  rw [e]
  have L10:=L6.trans (L8.trans l10)
  rintro r V11 l11 q1
  have q10:=q1
  obtain ⟨_,_,_,rfl⟩:=q1.shape
  refine ⟨_,_,_,rfl,fun V12 l12=>(c_R_Mul (a3.le (L10.trans (l11.trans l12))) (b2.le (L10.trans (l11.trans l12))) sl.2.2 sm.2.1 (by omega)).mono ?_⟩
  rintro r V13 l13 q2
  have q20:=q2
  obtain ⟨_,_,_,rfl⟩:=q2.shape
  refine ⟨_,_,_,rfl,fun V14 l14=>(c_R_Sub (q10.le (l12.trans (l13.trans l14))) (q20.le l14) (sl.2.1.mul sm.2.2) (sl.2.2.mul sm.2.1) (by omega)).mono ?_⟩
  rintro r V15 l15 q3
  have q30:=q3
  obtain ⟨_,_,_,rfl⟩:=q3.shape
  have L15:V10.Le V15:=l11.trans (l12.trans (l13.trans (l14.trans l15)))
  refine ⟨_,_,_,rfl,fun V16 l16=>(c_R_Quo (q30.le l16) (g30.le (L8.trans (l10.trans (L15.trans l16)))) ((sl.2.1.mul sm.2.2).sub (sl.2.2.mul sm.2.1)) sd (by omega)).mono ?_⟩
  rintro r V17 l17 q4
  have q40:RR V17 r (meX L M):=q4
  obtain ⟨_,_,_,rfl⟩:=q4.shape
  have L17:V.Le V17:=L10.trans (L15.trans (l16.trans l17))
  refine ⟨_,_,_,rfl,fun V18 l18=>(c_R_Mul (a3.le (L17.trans l18)) (b1.le (L17.trans l18)) sl.2.2 sm.1 (by omega)).mono ?_⟩
  rintro r V19 l19 p1
  have p10:=p1
  obtain ⟨_,_,_,rfl⟩:=p1.shape
  refine ⟨_,_,_,rfl,fun V20 l20=>(c_R_Mul (a1.le (L17.trans (l18.trans (l19.trans l20)))) (b3.le (L17.trans (l18.trans (l19.trans l20)))) sl.1 sm.2.2 (by omega)).mono ?_⟩
  rintro r V21 l21 p2
  have p20:=p2
  obtain ⟨_,_,_,rfl⟩:=p2.shape
  refine ⟨_,_,_,rfl,fun V22 l22=>(c_R_Sub (p10.le (l20.trans (l21.trans l22))) (p20.le l22) (sl.2.2.mul sm.1) (sl.1.mul sm.2.2) (by omega)).mono ?_⟩
  rintro r V23 l23 p3
  have p30:=p3
  obtain ⟨_,_,_,rfl⟩:=p3.shape
  have L23:V17.Le V23:=l18.trans (l19.trans (l20.trans (l21.trans (l22.trans l23))))
  refine ⟨_,_,_,rfl,fun V24 l24=>(c_R_Quo (p30.le l24) (g30.le (L8.trans (l10.trans (L15.trans (l16.trans (l17.trans (L23.trans l24))))))) ((sl.2.2.mul sm.1).sub (sl.1.mul sm.2.2)) sd (by omega)).mono ?_⟩
  rintro r V25 l25 p4
  have p40:RR V25 r (meY L M):=p4
  obtain ⟨_,_,_,rfl⟩:=p4.shape
  exact ⟨_,_,_,rfl,fun V26 l26=>⟨_,rfl,⟨_,_,_,_,_,_,rfl⟩,fun _=>⟨_,_,_,_,_,_,rfl,q40.le (L23.trans (l24.trans (l25.trans l26))),p40.le l26⟩⟩⟩
theorem c_Fr_Meet {V:View} {v w:Value} {L:L3} {s:Sp} {M:L3} {t:Sp} (h:RFr V v L s) (h':RFr V w M t) {k:Nat} (sl:SzL k L) (ss:s.sz k) (sm:SzL k M) (st:t.sz k) (hk:400 * k + 400 < 274877906944) :
  Acts prog 82 #[v,w] V fun r V'=>∃u,r=.tuple #[u,.bool (mtB L s M t)]/\PtSh u/\(mtB L s M t=true->RPt V' u (mtX L s M t) (mtY L s M t)):=by
 have h0':=h'
 obtain ⟨_,_,_,_,_,_,_,_,_,_,_,_,_,_,_,rfl,h1,h2⟩:=h
 obtain ⟨_,_,_,_,_,_,_,_,_,_,_,_,_,_,_,rfl,g1,g2⟩:=h'
 have h20:=h2
 obtain ⟨_,_,_,_,_,_,e2,h3,h4⟩:=h2
 simp only [Value.agg.injEq,Array.mk.injEq,List.cons.injEq,Value.int.injEq,Value.pointer.injEq,true_and,and_true] at e2
 obtain ⟨rfl,rfl,rfl,rfl,rfl,rfl⟩:=e2
 refine vc_geo_Fr_Meet _ _ _ _ _ _ _ _ _ _ _ _ _ _ _ _ _ _ _ _ _ _ _ _ _ _ _ _ _ _ _ _ _ _ V _ fun V1 l1=>(c_Fr_onto (h0'.le l1) (h1.le l1) sm st sl (by omega)).mono ?_
 rintro r V2 l2 ⟨u,rfl,k0,k1⟩
 have L2:=l1.trans l2
 obtain ⟨m1,m2⟩:=sz_me sl sm
 have ss':s.sz (100 * k + 100):=⟨ss.1.mono (by omega),ss.2.mono (by omega)⟩
 have st':t.sz (100 * k + 100):=⟨st.1.mono (by omega),st.2.mono (by omega)⟩
 have sl':SzL (10 * k + 10) L:=⟨sl.1.mono (by omega),sl.2.1.mono (by omega),sl.2.2.mono (by omega)⟩
 have sm':SzL (10 * k + 10) M:=⟨sm.1.mono (by omega),sm.2.1.mono (by omega),sm.2.2.mono (by omega)⟩
 cases ho:onB M L with
 | false=>
  have e1:mtB L s M t=offB L s M t:=by unfold mtB; rw [ho]; rfl
  have e2:mtX L s M t=meX L M:=by unfold mtX; rw [ho]; rfl
  have e3:mtY L s M t=meY L M:=by unfold mtY; rw [ho]; rfl
  rw [e1,e2,e3]
  obtain ⟨_,_,_,_,_,_,_,_,rfl⟩:=k0
  refine ⟨_,_,_,_,_,_,_,_,_,rfl,fun _ V3 l3=>(c_Ln_Meet (h1.le (L2.trans l3)) (g1.le (L2.trans l3)) sl sm (by omega)).mono ?_,(fun h=>nomatch h)⟩
  rintro r V4 l4 ⟨u,rfl,⟨_,_,_,_,_,_,rfl⟩,gp⟩
  have L4:=L2.trans (l3.trans l4)
  refine ⟨_,_,_,_,_,_,_,rfl,fun z _=>z=!offB L s M t,⟨fun hz=>⟨true,by and_intros <;> rfl,?_⟩,fun hz V5 l5=>?_⟩,?_⟩
  ·rw [Bool.not_eq_true'] at hz
   unfold offB; rw [hz]; rfl
  ·rw [Bool.not_eq_false'] at hz
   have gp:=gp (of_decide_eq_true hz)
   refine (k_Param (h1.le (L4.trans l5)) (gp.le l5) sl' m1 m2 (by omega)).mono ?_
   rintro r V6 l6 q1
   have q10:=q1
   obtain ⟨_,_,_,rfl⟩:=q1.shape
   refine ⟨_,_,_,rfl,fun V7 l7=>(c_Iv_Has (h20.le (L4.trans (l5.trans (l6.trans l7)))) (q10.le l7) ss' ((sz_parL sl' m1 m2).mono (by omega)) (by omega)).mono ?_⟩
   rintro r V8 l8 rfl
   refine ⟨_,rfl,fun hy=>⟨true,by and_intros <;> rfl,?_⟩,fun hy V9 l9=>(k_Param (g1.le (L4.trans (l5.trans (l6.trans (l7.trans (l8.trans l9)))))) (gp.le (l5.trans (l6.trans (l7.trans (l8.trans l9))))) sm' m1 m2 (by omega)).mono ?_⟩
   ·rw [Bool.not_eq_true'] at hy
    unfold offB; rw [hz,hy]; rfl
   ·rw [Bool.not_eq_false'] at hy
    rintro r V10 l10 q2
    have q20:=q2
    obtain ⟨_,_,_,rfl⟩:=q2.shape
    refine ⟨_,_,_,rfl,fun V11 l11=>(c_Iv_Has (g2.le (L4.trans (l5.trans (l6.trans (l7.trans (l8.trans (l9.trans (l10.trans l11)))))))) (q20.le l11) st' ((sz_parL sm' m1 m2).mono (by omega)) (by omega)).mono ?_⟩
    rintro r V12 l12 rfl
    exact ⟨_,rfl,_,by and_intros <;> rfl,by unfold offB; rw [hz,hy]; rfl⟩
  ·rintro z V13 l13 rfl
   refine ⟨rfl,fun hz V14 l14=>?_,fun hz V15 l15=>?_⟩
   ·rw [Bool.not_eq_true'] at hz
    rw [hz]
    exact ⟨_,rfl,⟨_,_,_,_,_,_,rfl⟩,(fun h=>nomatch h)⟩
   ·rw [Bool.not_eq_false'] at hz
    rw [hz]
    have hc:crossL L M≠0:=by
     unfold offB at hz
     simp only [Bool.and_eq_true,decide_eq_true_eq] at hz
     exact hz.1.1
    exact ⟨_,rfl,⟨_,_,_,_,_,_,rfl⟩,fun _=>(gp hc).le (l13.trans l15)⟩
 | true=>
  have e1:mtB L s M t=(end1 s (onS M t L) || end2 s (onS M t L)):=by unfold mtB; rw [ho]; rfl
  have e2:mtX L s M t=if end1 s (onS M t L) then atX L s.hi else atX L s.lo:=by unfold mtX; rw [ho]; rfl
  have e3:mtY L s M t=if end1 s (onS M t L) then atY L s.hi else atY L s.lo:=by unfold mtY; rw [ho]; rfl
  rw [e1,e2,e3]
  obtain ⟨_,_,_,_,_,_,rfl,k2,k3⟩:=k1 ho
  generalize hv:onS M t L=vv at k2 k3 ⊢
  have sv:vv.sz k:=by
   rw [← hv]; unfold onS; split
   ·exact st
   ·exact Sp.neg_sz st
  refine ⟨_,_,_,_,_,_,_,_,_,rfl,(fun h=>nomatch h),fun _=>⟨fun z _=>z=end1 s vv,⟨fun ha=>⟨fun hb V16 l16=>(c_R_Equal (h4.le (L2.trans l16)) (k2.le l16) ss.2 sv.1 (by omega)).mono ?_,fun hb=>⟨false,by and_intros <;> rfl,?_⟩⟩,fun ha=>⟨false,by and_intros <;> rfl,?_⟩⟩,?_⟩⟩
  ·rintro r V17 l17 rfl
   exact ⟨_,rfl,_,by and_intros <;> rfl,by unfold end1; rw [ha,hb]; rfl⟩
  ·unfold end1; rw [ha,hb]; rfl
  ·unfold end1; rw [ha]; rfl
  ·rintro z V18 l18 rfl
   refine ⟨rfl,fun hz V19 l19=>(k_At (h1.le (L2.trans (l18.trans l19))) (h4.le (L2.trans (l18.trans l19))) sl ss.2 (by omega)).mono ?_,fun hz=>⟨fun z _=>z=end2 s vv,⟨fun ha=>⟨fun hb V22 l22=>(c_R_Equal (h3.le (L2.trans (l18.trans l22))) (k3.le (l18.trans l22)) ss.1 sv.2 (by omega)).mono ?_,fun hb=>⟨false,by and_intros <;> rfl,?_⟩⟩,fun ha=>⟨false,by and_intros <;> rfl,?_⟩⟩,?_⟩⟩
   ·rw [hz]
    rintro r V20 l20 q
    have q0:=q
    obtain ⟨_,_,_,_,_,_,rfl,-,-⟩:=q
    exact ⟨_,_,_,_,_,_,rfl,fun V21 l21=>⟨_,rfl,⟨_,_,_,_,_,_,rfl⟩,fun _=>q0.le l21⟩⟩
   ·rintro r V23 l23 rfl
    exact ⟨_,rfl,_,by and_intros <;> rfl,by unfold end2; rw [ha,hb]; rfl⟩
   ·unfold end2; rw [ha,hb]; rfl
   ·unfold end2; rw [ha]; rfl
   ·rintro z V24 l24 rfl
    rw [hz]
    refine ⟨rfl,fun hy V25 l25=>(k_At (h1.le (L2.trans (l18.trans (l24.trans l25)))) (h3.le (L2.trans (l18.trans (l24.trans l25)))) sl ss.1 (by omega)).mono ?_,fun hy V28 l28=>?_⟩
    ·rw [hy]
     rintro r V20 l20 q
     have q0:=q
     obtain ⟨_,_,_,_,_,_,rfl,-,-⟩:=q
     exact ⟨_,_,_,_,_,_,rfl,fun V21 l21=>⟨_,rfl,⟨_,_,_,_,_,_,rfl⟩,fun _=>q0.le l21⟩⟩
    ·rw [hy]
     exact ⟨_,rfl,⟨_,_,_,_,_,_,rfl⟩,(fun h=>nomatch h)⟩
theorem sz_mt {l:L3} {s:Sp} {m:L3} {t:Sp} {k:Nat} (sl:SzL k l) (ss:s.sz k) (sm:SzL k m):Sz (20 * k + 20) (mtX l s m t)/\Sz (20 * k + 20) (mtY l s m t):=by
 obtain ⟨m1,m2⟩:=sz_me sl sm
 unfold mtX mtY
 constructor
 ·split
  ·split
   ·exact (sz_atX sl ss.2).mono (by omega)
   ·exact (sz_atX sl ss.1).mono (by omega)
  ·exact m1.mono (by omega)
 ·split
  ·split
   ·exact (sz_atY sl ss.2).mono (by omega)
   ·exact (sz_atY sl ss.1).mono (by omega)
  ·exact m2.mono (by omega)
theorem c_Meet {V:View} {v w:Value} {l:L3} {s:Sp} {m:L3} {t:Sp} (h:RFa V v l s) (h':RFa V w m t) (ho:FOk l s) (ho':FOk m t) {k:Nat} (sl:SzL k l) (ss:s.sz k) (sm:SzL k m) (st:t.sz k) (hk:400 * k + 400 < 274877906944) :
  Acts prog 35 #[v,w] V fun r V'=>∃u,r=.tuple #[u,.bool (mtB l s m t),.nilIface]/\(mtB l s m t=false->PZero u)/\(mtB l s m t=true->RAP V' u (mtX l s m t) (mtY l s m t)):=by
 have h0:=h
 have h0':=h'
 obtain ⟨_,_,_,_,_,_,_,_,_,_,_,_,_,_,_,_,_,_,_,_,_,_,_,_,_,_,rfl⟩:=fa_shape h
 obtain ⟨_,_,_,_,_,_,_,_,_,_,_,_,_,_,_,_,_,_,_,_,_,_,_,_,_,_,rfl⟩:=fa_shape h'
 refine vc_fragment_Meet _ _ _ _ _ _ _ _ _ _ _ _ _ _ _ _ _ _ _ _ _ _ _ _ _ _ _ _ _ _ _ _ _ _ _ _ _ _ _ _ _ _ _ _ _ _ _ _ _ _ _ _ _ _ _ _ V _ fun V1 l1=>(c_FrOf_ok (h0.le l1) ho sl ss (by omega)).mono ?_
 rintro r V2 l2 ⟨u,rfl,g1⟩
 have g10:=g1
 obtain ⟨_,_,_,_,_,_,_,_,_,_,_,_,_,_,_,rfl⟩:=FrSh.ex g1
 refine ⟨_,_,_,_,_,_,_,_,_,_,_,_,_,_,_,_,_,_,rfl,fun V3 l3=>(c_FrOf_ok (h0'.le (l1.trans (l2.trans l3))) ho' sm st (by omega)).mono ?_⟩
 rintro r V4 l4 ⟨u,rfl,g2⟩
 have g20:=g2
 obtain ⟨_,_,_,_,_,_,_,_,_,_,_,_,_,_,_,rfl⟩:=FrSh.ex g2
 refine ⟨_,_,_,_,_,_,_,_,_,_,_,_,_,_,_,_,_,_,rfl,(fun h=>nomatch h),fun _=>⟨(fun h=>nomatch h),fun _ V7 l7=>(c_Fr_Meet (g10.le (l3.trans (l4.trans l7))) (g20.le l7) sl ss sm st hk).mono ?_⟩⟩
 rintro r V8 l8 ⟨u,rfl,⟨_,_,_,_,_,_,rfl⟩,k1⟩
 refine ⟨_,_,_,_,_,_,_,rfl,fun hb V9 l9=>?_,fun hb V10 l10=>?_⟩
 ·rw [Bool.not_eq_true'] at hb
  rw [hb]
  exact ⟨_,rfl,fun _=>rfl,(fun h=>nomatch h)⟩
 ·rw [Bool.not_eq_false'] at hb
  rw [hb]
  obtain ⟨z1,z2⟩:=sz_mt (t:=t) sl ss sm
  refine (c_geo_Pt_API ((k1 hb).le l10) z1 z2 (by omega)).mono ?_
  rintro r V11 l11 g
  have g0:=g
  obtain ⟨_,_,_,_,_,_,_,_,_,_,_,_,_,_,rfl⟩:=ap_shape g
  exact ⟨_,_,_,_,_,_,_,_,_,_,_,_,_,_,rfl,fun V12 l12=>⟨_,rfl,(fun h=>nomatch h),fun _=>g0.le l12⟩⟩
end Go.Proofs.Tryz
