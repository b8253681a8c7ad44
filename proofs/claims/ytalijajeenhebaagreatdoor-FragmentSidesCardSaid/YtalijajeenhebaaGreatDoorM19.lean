/- A part of the proof (joined by program from: VLaw7D, Law7D). -/
import Derived.Test.YtalijajeenhebaaGreatDoorM5
import Derived.Test.YtalijajeenhebaaGreatDoorM16
import Derived.Test.YtalijajeenhebaaGreatDoorM17
import Derived.Test.YtalijajeenhebaaGreatDoorM18
set_option linter.unusedVariables false
open Go.IntKind (i64 u64 u32)
/- By program: the conditions of the functions, from their loaded code. -/
namespace Go.Proofs.Tryz
open Go.Eng
set_option maxRecDepth 100000
theorem vc_law07_FragmentSides (lp:OA) (ln lc:Nat) (V:View) (R:Value->View->Prop)
  (h:(∀V1,V.Le V1->Acts prog 7 #[.slice lp ln lc] V1 fun r1_ V2=>∃bk1_:Nat,∃p2_ n2_ c2_,∃x3_,r1_=.pointer (some ⟨bk1_,0,none⟩)/\V1.w.heap.size<=bk1_/\V2.blk bk1_ (.cells #[.slice p2_ n2_ c2_,.int .i64 x3_] 105 (0,0))/\(∀V3:View,(V2.hide bk1_).Le V3->∀bk4_:Nat,(V3.w.heap[bk4_]?=some (.cells #[.slice p2_ n2_ c2_,.int .i64 x3_] 105 (0,0)))->(V3.H bk4_)->Acts prog 14 #[.pointer (some ⟨bk4_,0,none⟩)] (V3.lend [bk4_]) fun r3_ V4=>∃b5_,∃p6_ n6_ c6_,∃b7_,∃p8_ n8_ c8_,∃b9_,∃p10_ n10_ c10_,∃b11_,∃p12_ n12_ c12_,∃p13_ n13_ c13_,∃b14_,∃p15_ n15_ c15_,∃p16_ n16_ c16_,∃b17_,∃b18_,r3_=.agg #[.bool b5_,.slice p6_ n6_ c6_,.bool b7_,.slice p8_ n8_ c8_,.bool b9_,.slice p10_ n10_ c10_,.bool b11_,.slice p12_ n12_ c12_,.slice p13_ n13_ c13_,.bool b14_,.slice p15_ n15_ c15_,.slice p16_ n16_ c16_,.bool b17_,.bool b18_]/\∃p19_ n19_ c19_,∃x20_,V4.w.heap[bk4_]?=some (.cells #[.slice p19_ n19_ c19_,.int .i64 x20_] 105 (0,0))/\(∀V5,V4.shut.Le V5->∀bk21_:Nat,(V5.w.heap[bk21_]?=some (.cells #[.slice p19_ n19_ c19_,.int .i64 x20_] 105 (0,0)))->(V5.H bk21_)->Acts prog 14 #[.pointer (some ⟨bk21_,0,none⟩)] (V5.lend [bk21_]) fun r5_ V6=>∃b22_,∃p23_ n23_ c23_,∃b24_,∃p25_ n25_ c25_,∃b26_,∃p27_ n27_ c27_,∃b28_,∃p29_ n29_ c29_,∃p30_ n30_ c30_,∃b31_,∃p32_ n32_ c32_,∃p33_ n33_ c33_,∃b34_,∃b35_,r5_=.agg #[.bool b22_,.slice p23_ n23_ c23_,.bool b24_,.slice p25_ n25_ c25_,.bool b26_,.slice p27_ n27_ c27_,.bool b28_,.slice p29_ n29_ c29_,.slice p30_ n30_ c30_,.bool b31_,.slice p32_ n32_ c32_,.slice p33_ n33_ c33_,.bool b34_,.bool b35_]/\∃p36_ n36_ c36_,∃x37_,V6.w.heap[bk21_]?=some (.cells #[.slice p36_ n36_ c36_,.int .i64 x37_] 105 (0,0))/\(∀V7,V6.shut.Le V7->∀bk38_:Nat,(V7.w.heap[bk38_]?=some (.cells #[.slice p36_ n36_ c36_,.int .i64 x37_] 105 (0,0)))->(V7.H bk38_)->Acts prog 39 #[.pointer (some ⟨bk38_,0,none⟩)] (V7.lend [bk38_]) fun r7_ V8=>∃b39_,∃p40_ n40_ c40_,∃b41_,∃p42_ n42_ c42_,∃b43_,∃p44_ n44_ c44_,r7_=.agg #[.bool b39_,.slice p40_ n40_ c40_,.bool b41_,.slice p42_ n42_ c42_,.bool b43_,.slice p44_ n44_ c44_]/\∃p45_ n45_ c45_,∃x46_,V8.w.heap[bk38_]?=some (.cells #[.slice p45_ n45_ c45_,.int .i64 x46_] 105 (0,0))/\(∀V9,V8.shut.Le V9->Acts prog 15 #[.agg #[.bool b5_,.slice p6_ n6_ c6_,.bool b7_,.slice p8_ n8_ c8_,.bool b9_,.slice p10_ n10_ c10_,.bool b11_,.slice p12_ n12_ c12_,.slice p13_ n13_ c13_,.bool b14_,.slice p15_ n15_ c15_,.slice p16_ n16_ c16_,.bool b17_,.bool b18_]] V9 fun r9_ V10=>∃b47_,∃p48_ n48_ c48_,∃b49_,∃p50_ n50_ c50_,∃b51_,∃p52_ n52_ c52_,∃b53_,∃p54_ n54_ c54_,∃p55_ n55_ c55_,∃b56_,∃p57_ n57_ c57_,∃p58_ n58_ c58_,∃b59_,∃b60_,r9_=.agg #[.bool b47_,.slice p48_ n48_ c48_,.bool b49_,.slice p50_ n50_ c50_,.bool b51_,.slice p52_ n52_ c52_,.bool b53_,.slice p54_ n54_ c54_,.slice p55_ n55_ c55_,.bool b56_,.slice p57_ n57_ c57_,.slice p58_ n58_ c58_,.bool b59_,.bool b60_]/\(∀V11,V10.Le V11->Acts prog 41 #[.agg #[.bool b39_,.slice p40_ n40_ c40_,.bool b41_,.slice p42_ n42_ c42_,.bool b43_,.slice p44_ n44_ c44_]] V11 fun r11_ V12=>∃b61_,∃p62_ n62_ c62_,∃b63_,∃p64_ n64_ c64_,∃b65_,∃p66_ n66_ c66_,r11_=.agg #[.bool b61_,.slice p62_ n62_ c62_,.bool b63_,.slice p64_ n64_ c64_,.bool b65_,.slice p66_ n66_ c66_]/\(∀V13,V12.Le V13->Acts prog 40 #[.agg #[.bool b47_,.slice p48_ n48_ c48_,.bool b49_,.slice p50_ n50_ c50_,.bool b51_,.slice p52_ n52_ c52_,.bool b53_,.slice p54_ n54_ c54_,.slice p55_ n55_ c55_,.bool b56_,.slice p57_ n57_ c57_,.slice p58_ n58_ c58_,.bool b59_,.bool b60_],.agg #[.bool b61_,.slice p62_ n62_ c62_,.bool b63_,.slice p64_ n64_ c64_,.bool b65_,.slice p66_ n66_ c66_]] V13 fun r13_ V14=>∃p67_ n67_ c67_,∃p68_ n68_ c68_,∃y69_,r13_=.tuple #[.slice p67_ n67_ c67_,.slice p68_ n68_ c68_,y69_]/\(IsIface y69_)/\(((!isNilI y69_)=true->(∀V15,V14.Le V15->R (.bool false) V15))/\((!isNilI y69_)=false->(∃I70_:(Nat × Nat × (List Value) × Int × Int)->View->Prop,(∃z71_:Nat × Nat × (List Value) × Int × Int,(sm 0/\sm 0/\sm 0/\sm 0/\((2:Nat)=z71_.1)/\((2:Nat)=z71_.2.1)/\((2:Nat)≠0)/\(((2:Nat):Int)=z71_.2.2.2.1)/\((0:Int)=z71_.2.2.2.2)/\sm b5_/\sm p6_/\sm n6_/\sm c6_/\sm b7_/\sm p8_/\sm n8_/\sm c8_/\sm b9_/\sm p10_/\sm n10_/\sm c10_/\sm b11_/\sm p12_/\sm n12_/\sm c12_/\sm p13_/\sm n13_/\sm c13_/\sm b14_/\sm p15_/\sm n15_/\sm c15_/\sm p16_/\sm n16_/\sm c16_/\sm b17_/\sm b18_/\sm b22_/\sm p23_/\sm n23_/\sm c23_/\sm b24_/\sm p25_/\sm n25_/\sm c25_/\sm b26_/\sm p27_/\sm n27_/\sm c27_/\sm b28_/\sm p29_/\sm n29_/\sm c29_/\sm p30_/\sm n30_/\sm c30_/\sm b31_/\sm p32_/\sm n32_/\sm c32_/\sm p33_/\sm n33_/\sm c33_/\sm b34_/\sm b35_/\sm b39_/\sm p40_/\sm n40_/\sm c40_/\sm b41_/\sm p42_/\sm n42_/\sm c42_/\sm b43_/\sm p44_/\sm n44_/\sm c44_/\(([.slice p67_ n67_ c67_,.slice p68_ n68_ c68_]:List Value)=z71_.2.2.1))/\I70_ z71_ V14)/\∀(z72_:Nat × Nat × (List Value) × Int × Int) (V16:View),V14.Le V16->I70_ z72_ V16->(true=true/\(∃(I73_:Int->View->Prop) (m74_:Int->Nat),(∃z75_:Int,(sm 0/\sm 0/\sm 0/\((z72_.1:Nat)=z72_.1)/\((z72_.2.1:Nat)=z72_.2.1)/\sm z72_.2.2.2.1/\(z72_.2.2.2.2=z75_)/\sm b5_/\sm p6_/\sm n6_/\sm c6_/\sm b7_/\sm p8_/\sm n8_/\sm c8_/\sm b9_/\sm p10_/\sm n10_/\sm c10_/\sm b11_/\sm p12_/\sm n12_/\sm c12_/\sm p13_/\sm n13_/\sm c13_/\sm b14_/\sm p15_/\sm n15_/\sm c15_/\sm p16_/\sm n16_/\sm c16_/\sm b17_/\sm b18_/\sm b22_/\sm p23_/\sm n23_/\sm c23_/\sm b24_/\sm p25_/\sm n25_/\sm c25_/\sm b26_/\sm p27_/\sm n27_/\sm c27_/\sm b28_/\sm p29_/\sm n29_/\sm c29_/\sm p30_/\sm n30_/\sm c30_/\sm b31_/\sm p32_/\sm n32_/\sm c32_/\sm p33_/\sm n33_/\sm c33_/\sm b34_/\sm b35_/\sm b39_/\sm p40_/\sm n40_/\sm c40_/\sm b41_/\sm p42_/\sm n42_/\sm c42_/\sm b43_/\sm p44_/\sm n44_/\sm c44_/\sm z72_.2.2.1)/\I73_ z75_ V16)/\∀(z76_:Int) (V17:View),V16.Le V17->I73_ z76_ V17->(true=true/\(((decide (z76_ < z72_.2.2.2.1))=true->(0<=z76_/\z76_ < ((z72_.1:Nat):Int))/\(z72_.1<=z72_.2.1)/\(∃p77_ n77_ c77_,z72_.2.2.1[z76_.toNat * 1]?=some (.slice p77_ n77_ c77_)/\(∃(I78_:Int->View->Prop) (m79_:Int->Nat),(∃z80_:Int,(sm 0/\sm 0/\sm 0/\sm z76_/\((z72_.1:Nat)=z72_.1)/\((z72_.2.1:Nat)=z72_.2.1)/\sm z72_.2.2.2.1/\sm z76_/\sm p77_/\sm n77_/\sm c77_/\sm ((n77_:Nat):Int)/\((0:Int)=z80_)/\sm b5_/\sm p6_/\sm n6_/\sm c6_/\sm b7_/\sm p8_/\sm n8_/\sm c8_/\sm b9_/\sm p10_/\sm n10_/\sm c10_/\sm b11_/\sm p12_/\sm n12_/\sm c12_/\sm p13_/\sm n13_/\sm c13_/\sm b14_/\sm p15_/\sm n15_/\sm c15_/\sm p16_/\sm n16_/\sm c16_/\sm b17_/\sm b18_/\sm b22_/\sm p23_/\sm n23_/\sm c23_/\sm b24_/\sm p25_/\sm n25_/\sm c25_/\sm b26_/\sm p27_/\sm n27_/\sm c27_/\sm b28_/\sm p29_/\sm n29_/\sm c29_/\sm p30_/\sm n30_/\sm c30_/\sm b31_/\sm p32_/\sm n32_/\sm c32_/\sm p33_/\sm n33_/\sm c33_/\sm b34_/\sm b35_/\sm b39_/\sm p40_/\sm n40_/\sm c40_/\sm b41_/\sm p42_/\sm n42_/\sm c42_/\sm b43_/\sm p44_/\sm n44_/\sm c44_/\sm z72_.2.2.1)/\I78_ z80_ V17)/\∀(z81_:Int) (V18:View),V17.Le V18->I78_ z81_ V18->(true=true/\(((decide (z81_ < ((n77_:Nat):Int)))=true->(p77_.isSome=true)/\(0<=z81_/\z81_ < ((n77_:Nat):Int))/\(∃b82_,∃p83_ n83_ c83_,∃b84_,∃p85_ n85_ c85_,∃b86_,∃p87_ n87_ c87_,∃b88_,∃p89_ n89_ c89_,∃p90_ n90_ c90_,∃b91_,∃p92_ n92_ c92_,∃p93_ n93_ c93_,∃b94_,∃b95_,∃a96_,addrAdd p77_ (z81_.toNat * 14)=some a96_/\V18.at (a96_.add 0) (.bool b82_)/\V18.at (a96_.add 1) (.slice p83_ n83_ c83_)/\V18.at (a96_.add 2) (.bool b84_)/\V18.at (a96_.add 3) (.slice p85_ n85_ c85_)/\V18.at (a96_.add 4) (.bool b86_)/\V18.at (a96_.add 5) (.slice p87_ n87_ c87_)/\V18.at (a96_.add 6) (.bool b88_)/\V18.at (a96_.add 7) (.slice p89_ n89_ c89_)/\V18.at (a96_.add 8) (.slice p90_ n90_ c90_)/\V18.at (a96_.add 9) (.bool b91_)/\V18.at (a96_.add 10) (.slice p92_ n92_ c92_)/\V18.at (a96_.add 11) (.slice p93_ n93_ c93_)/\V18.at (a96_.add 12) (.bool b94_)/\V18.at (a96_.add 13) (.bool b95_)/\(∀V19,V18.Le V19->Acts prog 29 #[.agg #[.bool b82_,.slice p83_ n83_ c83_,.bool b84_,.slice p85_ n85_ c85_,.bool b86_,.slice p87_ n87_ c87_,.bool b88_,.slice p89_ n89_ c89_,.slice p90_ n90_ c90_,.bool b91_,.slice p92_ n92_ c92_,.slice p93_ n93_ c93_,.bool b94_,.bool b95_]] V19 fun r19_ V20=>∃b97_,∃p98_ n98_ c98_,∃b99_,∃p100_ n100_ c100_,∃b101_,∃p102_ n102_ c102_,∃b103_,∃p104_ n104_ c104_,∃p105_ n105_ c105_,∃b106_,∃p107_ n107_ c107_,∃p108_ n108_ c108_,∃b109_,∃b110_,∃b111_,r19_=.tuple #[.agg #[.bool b97_,.slice p98_ n98_ c98_,.bool b99_,.slice p100_ n100_ c100_,.bool b101_,.slice p102_ n102_ c102_,.bool b103_,.slice p104_ n104_ c104_,.slice p105_ n105_ c105_,.bool b106_,.slice p107_ n107_ c107_,.slice p108_ n108_ c108_,.bool b109_,.bool b110_],.bool b111_]/\(∃I112_:Bool->View->Prop,(((!b111_)=true->(∃z113_:Bool,(sm 0/\sm 0/\sm 0/\sm z76_/\((z72_.1:Nat)=z72_.1)/\((z72_.2.1:Nat)=z72_.2.1)/\sm z72_.2.2.2.1/\sm z76_/\sm p77_/\sm n77_/\sm c77_/\sm ((n77_:Nat):Int)/\sm z81_/\(true=z113_)/\sm b5_/\sm p6_/\sm n6_/\sm c6_/\sm b7_/\sm p8_/\sm n8_/\sm c8_/\sm b9_/\sm p10_/\sm n10_/\sm c10_/\sm b11_/\sm p12_/\sm n12_/\sm c12_/\sm p13_/\sm n13_/\sm c13_/\sm b14_/\sm p15_/\sm n15_/\sm c15_/\sm p16_/\sm n16_/\sm c16_/\sm b17_/\sm b18_/\sm b22_/\sm p23_/\sm n23_/\sm c23_/\sm b24_/\sm p25_/\sm n25_/\sm c25_/\sm b26_/\sm p27_/\sm n27_/\sm c27_/\sm b28_/\sm p29_/\sm n29_/\sm c29_/\sm p30_/\sm n30_/\sm c30_/\sm b31_/\sm p32_/\sm n32_/\sm c32_/\sm p33_/\sm n33_/\sm c33_/\sm b34_/\sm b35_/\sm b39_/\sm p40_/\sm n40_/\sm c40_/\sm b41_/\sm p42_/\sm n42_/\sm c42_/\sm b43_/\sm p44_/\sm n44_/\sm c44_/\sm z72_.2.2.1)/\I112_ z113_ V20))/\((!b111_)=false->(∀V21,V20.Le V21->Acts prog 43 #[.agg #[.bool b103_,.slice p104_ n104_ c104_,.slice p105_ n105_ c105_,.bool b106_,.slice p107_ n107_ c107_,.slice p108_ n108_ c108_,.bool b109_,.bool b110_]] V21 fun r21_ V22=>∃b114_,∃p115_ n115_ c115_,∃p116_ n116_ c116_,r21_=.agg #[.bool b114_,.slice p115_ n115_ c115_,.slice p116_ n116_ c116_]/\(∀V23,V22.Le V23->Acts prog 19 #[.agg #[.bool b97_,.slice p98_ n98_ c98_,.bool b99_,.slice p100_ n100_ c100_,.bool b101_,.slice p102_ n102_ c102_],.agg #[.bool b114_,.slice p115_ n115_ c115_,.slice p116_ n116_ c116_]] V23 fun r23_ V24=>∃b117_,∃p118_ n118_ c118_,∃p119_ n119_ c119_,∃b120_,∃p121_ n121_ c121_,∃p122_ n122_ c122_,r23_=.agg #[.bool b117_,.slice p118_ n118_ c118_,.slice p119_ n119_ c119_,.bool b120_,.slice p121_ n121_ c121_,.slice p122_ n122_ c122_]/\(∀V25,V24.Le V25->Acts prog 42 #[.agg #[.bool b39_,.slice p40_ n40_ c40_,.bool b41_,.slice p42_ n42_ c42_,.bool b43_,.slice p44_ n44_ c44_],.agg #[.bool b117_,.slice p118_ n118_ c118_,.slice p119_ n119_ c119_,.bool b120_,.slice p121_ n121_ c121_,.slice p122_ n122_ c122_]] V25 fun r25_ V26=>∃x123_,r25_=.int .i64 x123_/\(((x123_ != (i64.wrap ((1:Int) - (i64.wrap ((2:Int) * z76_)))))=true->(∃z124_:Bool,(sm 0/\sm 0/\sm 0/\sm z76_/\((z72_.1:Nat)=z72_.1)/\((z72_.2.1:Nat)=z72_.2.1)/\sm z72_.2.2.2.1/\sm z76_/\sm p77_/\sm n77_/\sm c77_/\sm ((n77_:Nat):Int)/\sm z81_/\(true=z124_)/\sm b5_/\sm p6_/\sm n6_/\sm c6_/\sm b7_/\sm p8_/\sm n8_/\sm c8_/\sm b9_/\sm p10_/\sm n10_/\sm c10_/\sm b11_/\sm p12_/\sm n12_/\sm c12_/\sm p13_/\sm n13_/\sm c13_/\sm b14_/\sm p15_/\sm n15_/\sm c15_/\sm p16_/\sm n16_/\sm c16_/\sm b17_/\sm b18_/\sm b22_/\sm p23_/\sm n23_/\sm c23_/\sm b24_/\sm p25_/\sm n25_/\sm c25_/\sm b26_/\sm p27_/\sm n27_/\sm c27_/\sm b28_/\sm p29_/\sm n29_/\sm c29_/\sm p30_/\sm n30_/\sm c30_/\sm b31_/\sm p32_/\sm n32_/\sm c32_/\sm p33_/\sm n33_/\sm c33_/\sm b34_/\sm b35_/\sm b39_/\sm p40_/\sm n40_/\sm c40_/\sm b41_/\sm p42_/\sm n42_/\sm c42_/\sm b43_/\sm p44_/\sm n44_/\sm c44_/\sm z72_.2.2.1)/\I112_ z124_ V26))/\((x123_ != (i64.wrap ((1:Int) - (i64.wrap ((2:Int) * z76_)))))=false->(∀V27,V26.Le V27->Acts prog 46 #[.agg #[.bool b97_,.slice p98_ n98_ c98_,.bool b99_,.slice p100_ n100_ c100_,.bool b101_,.slice p102_ n102_ c102_]] V27 fun r27_ V28=>∃b125_,∃p126_ n126_ c126_,∃p127_ n127_ c127_,∃b128_,∃p129_ n129_ c129_,∃p130_ n130_ c130_,r27_=.agg #[.bool b125_,.slice p126_ n126_ c126_,.slice p127_ n127_ c127_,.bool b128_,.slice p129_ n129_ c129_,.slice p130_ n130_ c130_]/\(∀V29,V28.Le V29->Acts prog 46 #[.agg #[.bool b5_,.slice p6_ n6_ c6_,.bool b7_,.slice p8_ n8_ c8_,.bool b9_,.slice p10_ n10_ c10_]] V29 fun r29_ V30=>∃b131_,∃p132_ n132_ c132_,∃p133_ n133_ c133_,∃b134_,∃p135_ n135_ c135_,∃p136_ n136_ c136_,r29_=.agg #[.bool b131_,.slice p132_ n132_ c132_,.slice p133_ n133_ c133_,.bool b134_,.slice p135_ n135_ c135_,.slice p136_ n136_ c136_]/\(∀V31,V30.Le V31->Acts prog 45 #[.agg #[.bool b125_,.slice p126_ n126_ c126_,.slice p127_ n127_ c127_,.bool b128_,.slice p129_ n129_ c129_,.slice p130_ n130_ c130_],.agg #[.bool b131_,.slice p132_ n132_ c132_,.slice p133_ n133_ c133_,.bool b134_,.slice p135_ n135_ c135_,.slice p136_ n136_ c136_]] V31 fun r31_ V32=>∃b137_,∃p138_ n138_ c138_,∃p139_ n139_ c139_,r31_=.agg #[.bool b137_,.slice p138_ n138_ c138_,.slice p139_ n139_ c139_]/\(∀V33,V32.Le V33->Acts prog 44 #[.agg #[.bool b137_,.slice p138_ n138_ c138_,.slice p139_ n139_ c139_]] V33 fun r33_ V34=>∃x140_,r33_=.int .i64 x140_/\(∃z141_:Bool,(sm 0/\sm 0/\sm 0/\sm z76_/\((z72_.1:Nat)=z72_.1)/\((z72_.2.1:Nat)=z72_.2.1)/\sm z72_.2.2.2.1/\sm z76_/\sm p77_/\sm n77_/\sm c77_/\sm ((n77_:Nat):Int)/\sm z81_/\((x140_ != (0:Int))=z141_)/\sm b5_/\sm p6_/\sm n6_/\sm c6_/\sm b7_/\sm p8_/\sm n8_/\sm c8_/\sm b9_/\sm p10_/\sm n10_/\sm c10_/\sm b11_/\sm p12_/\sm n12_/\sm c12_/\sm p13_/\sm n13_/\sm c13_/\sm b14_/\sm p15_/\sm n15_/\sm c15_/\sm p16_/\sm n16_/\sm c16_/\sm b17_/\sm b18_/\sm b22_/\sm p23_/\sm n23_/\sm c23_/\sm b24_/\sm p25_/\sm n25_/\sm c25_/\sm b26_/\sm p27_/\sm n27_/\sm c27_/\sm b28_/\sm p29_/\sm n29_/\sm c29_/\sm p30_/\sm n30_/\sm c30_/\sm b31_/\sm p32_/\sm n32_/\sm c32_/\sm p33_/\sm n33_/\sm c33_/\sm b34_/\sm b35_/\sm b39_/\sm p40_/\sm n40_/\sm c40_/\sm b41_/\sm p42_/\sm n42_/\sm c42_/\sm b43_/\sm p44_/\sm n44_/\sm c44_/\sm z72_.2.2.1)/\I112_ z141_ V34))))))))))))/\∀(z142_:Bool) (V35:View),V20.Le V35->I112_ z142_ V35->(true=true/\((z142_=true->(∀V36,V35.Le V36->R (.bool false) V36))/\(z142_=false->(∃z143_:Int,m79_ z143_ < m79_ z81_/\(sm 0/\sm 0/\sm 0/\sm z76_/\((z72_.1:Nat)=z72_.1)/\((z72_.2.1:Nat)=z72_.2.1)/\sm z72_.2.2.2.1/\sm z76_/\sm p77_/\sm n77_/\sm c77_/\sm ((n77_:Nat):Int)/\((i64.wrap (z81_ + (1:Int)))=z143_)/\sm b5_/\sm p6_/\sm n6_/\sm c6_/\sm b7_/\sm p8_/\sm n8_/\sm c8_/\sm b9_/\sm p10_/\sm n10_/\sm c10_/\sm b11_/\sm p12_/\sm n12_/\sm c12_/\sm p13_/\sm n13_/\sm c13_/\sm b14_/\sm p15_/\sm n15_/\sm c15_/\sm p16_/\sm n16_/\sm c16_/\sm b17_/\sm b18_/\sm b22_/\sm p23_/\sm n23_/\sm c23_/\sm b24_/\sm p25_/\sm n25_/\sm c25_/\sm b26_/\sm p27_/\sm n27_/\sm c27_/\sm b28_/\sm p29_/\sm n29_/\sm c29_/\sm p30_/\sm n30_/\sm c30_/\sm b31_/\sm p32_/\sm n32_/\sm c32_/\sm p33_/\sm n33_/\sm c33_/\sm b34_/\sm b35_/\sm b39_/\sm p40_/\sm n40_/\sm c40_/\sm b41_/\sm p42_/\sm n42_/\sm c42_/\sm b43_/\sm p44_/\sm n44_/\sm c44_/\sm z72_.2.2.1)/\I78_ z143_ V35))))))))/\((decide (z81_ < ((n77_:Nat):Int)))=false->(∃z144_:Int,m74_ z144_ < m74_ z76_/\(sm 0/\sm 0/\sm 0/\((z72_.1:Nat)=z72_.1)/\((z72_.2.1:Nat)=z72_.2.1)/\sm z72_.2.2.2.1/\((i64.wrap (z76_ + (1:Int)))=z144_)/\sm b5_/\sm p6_/\sm n6_/\sm c6_/\sm b7_/\sm p8_/\sm n8_/\sm c8_/\sm b9_/\sm p10_/\sm n10_/\sm c10_/\sm b11_/\sm p12_/\sm n12_/\sm c12_/\sm p13_/\sm n13_/\sm c13_/\sm b14_/\sm p15_/\sm n15_/\sm c15_/\sm p16_/\sm n16_/\sm c16_/\sm b17_/\sm b18_/\sm b22_/\sm p23_/\sm n23_/\sm c23_/\sm b24_/\sm p25_/\sm n25_/\sm c25_/\sm b26_/\sm p27_/\sm n27_/\sm c27_/\sm b28_/\sm p29_/\sm n29_/\sm c29_/\sm p30_/\sm n30_/\sm c30_/\sm b31_/\sm p32_/\sm n32_/\sm c32_/\sm p33_/\sm n33_/\sm c33_/\sm b34_/\sm b35_/\sm b39_/\sm p40_/\sm n40_/\sm c40_/\sm b41_/\sm p42_/\sm n42_/\sm c42_/\sm b43_/\sm p44_/\sm n44_/\sm c44_/\sm z72_.2.2.1)/\I73_ z144_ V18)))))))/\((decide (z76_ < z72_.2.2.2.1))=false->(∀V37,V17.Le V37->Acts prog 15 #[.agg #[.bool b5_,.slice p6_ n6_ c6_,.bool b7_,.slice p8_ n8_ c8_,.bool b9_,.slice p10_ n10_ c10_,.bool b11_,.slice p12_ n12_ c12_,.slice p13_ n13_ c13_,.bool b14_,.slice p15_ n15_ c15_,.slice p16_ n16_ c16_,.bool b17_,.bool b18_]] V37 fun r37_ V38=>∃b145_,∃p146_ n146_ c146_,∃b147_,∃p148_ n148_ c148_,∃b149_,∃p150_ n150_ c150_,∃b151_,∃p152_ n152_ c152_,∃p153_ n153_ c153_,∃b154_,∃p155_ n155_ c155_,∃p156_ n156_ c156_,∃b157_,∃b158_,r37_=.agg #[.bool b145_,.slice p146_ n146_ c146_,.bool b147_,.slice p148_ n148_ c148_,.bool b149_,.slice p150_ n150_ c150_,.bool b151_,.slice p152_ n152_ c152_,.slice p153_ n153_ c153_,.bool b154_,.slice p155_ n155_ c155_,.slice p156_ n156_ c156_,.bool b157_,.bool b158_]/\(∀V39,V38.Le V39->Acts prog 15 #[.agg #[.bool b22_,.slice p23_ n23_ c23_,.bool b24_,.slice p25_ n25_ c25_,.bool b26_,.slice p27_ n27_ c27_,.bool b28_,.slice p29_ n29_ c29_,.slice p30_ n30_ c30_,.bool b31_,.slice p32_ n32_ c32_,.slice p33_ n33_ c33_,.bool b34_,.bool b35_]] V39 fun r39_ V40=>∃b159_,∃p160_ n160_ c160_,∃b161_,∃p162_ n162_ c162_,∃b163_,∃p164_ n164_ c164_,∃b165_,∃p166_ n166_ c166_,∃p167_ n167_ c167_,∃b168_,∃p169_ n169_ c169_,∃p170_ n170_ c170_,∃b171_,∃b172_,r39_=.agg #[.bool b159_,.slice p160_ n160_ c160_,.bool b161_,.slice p162_ n162_ c162_,.bool b163_,.slice p164_ n164_ c164_,.bool b165_,.slice p166_ n166_ c166_,.slice p167_ n167_ c167_,.bool b168_,.slice p169_ n169_ c169_,.slice p170_ n170_ c170_,.bool b171_,.bool b172_]/\(∀V41,V40.Le V41->Acts prog 35 #[.agg #[.bool b145_,.slice p146_ n146_ c146_,.bool b147_,.slice p148_ n148_ c148_,.bool b149_,.slice p150_ n150_ c150_,.bool b151_,.slice p152_ n152_ c152_,.slice p153_ n153_ c153_,.bool b154_,.slice p155_ n155_ c155_,.slice p156_ n156_ c156_,.bool b157_,.bool b158_],.agg #[.bool b159_,.slice p160_ n160_ c160_,.bool b161_,.slice p162_ n162_ c162_,.bool b163_,.slice p164_ n164_ c164_,.bool b165_,.slice p166_ n166_ c166_,.slice p167_ n167_ c167_,.bool b168_,.slice p169_ n169_ c169_,.slice p170_ n170_ c170_,.bool b171_,.bool b172_]] V41 fun r41_ V42=>∃b173_,∃p174_ n174_ c174_,∃p175_ n175_ c175_,∃b176_,∃p177_ n177_ c177_,∃p178_ n178_ c178_,∃b179_,∃y180_,r41_=.tuple #[.agg #[.bool b173_,.slice p174_ n174_ c174_,.slice p175_ n175_ c175_,.bool b176_,.slice p177_ n177_ c177_,.slice p178_ n178_ c178_],.bool b179_,y180_]/\(∀V43,V42.Le V43->Acts prog 15 #[.agg #[.bool b22_,.slice p23_ n23_ c23_,.bool b24_,.slice p25_ n25_ c25_,.bool b26_,.slice p27_ n27_ c27_,.bool b28_,.slice p29_ n29_ c29_,.slice p30_ n30_ c30_,.bool b31_,.slice p32_ n32_ c32_,.slice p33_ n33_ c33_,.bool b34_,.bool b35_]] V43 fun r43_ V44=>∃b181_,∃p182_ n182_ c182_,∃b183_,∃p184_ n184_ c184_,∃b185_,∃p186_ n186_ c186_,∃b187_,∃p188_ n188_ c188_,∃p189_ n189_ c189_,∃b190_,∃p191_ n191_ c191_,∃p192_ n192_ c192_,∃b193_,∃b194_,r43_=.agg #[.bool b181_,.slice p182_ n182_ c182_,.bool b183_,.slice p184_ n184_ c184_,.bool b185_,.slice p186_ n186_ c186_,.bool b187_,.slice p188_ n188_ c188_,.slice p189_ n189_ c189_,.bool b190_,.slice p191_ n191_ c191_,.slice p192_ n192_ c192_,.bool b193_,.bool b194_]/\(∀V45,V44.Le V45->Acts prog 15 #[.agg #[.bool b5_,.slice p6_ n6_ c6_,.bool b7_,.slice p8_ n8_ c8_,.bool b9_,.slice p10_ n10_ c10_,.bool b11_,.slice p12_ n12_ c12_,.slice p13_ n13_ c13_,.bool b14_,.slice p15_ n15_ c15_,.slice p16_ n16_ c16_,.bool b17_,.bool b18_]] V45 fun r45_ V46=>∃b195_,∃p196_ n196_ c196_,∃b197_,∃p198_ n198_ c198_,∃b199_,∃p200_ n200_ c200_,∃b201_,∃p202_ n202_ c202_,∃p203_ n203_ c203_,∃b204_,∃p205_ n205_ c205_,∃p206_ n206_ c206_,∃b207_,∃b208_,r45_=.agg #[.bool b195_,.slice p196_ n196_ c196_,.bool b197_,.slice p198_ n198_ c198_,.bool b199_,.slice p200_ n200_ c200_,.bool b201_,.slice p202_ n202_ c202_,.slice p203_ n203_ c203_,.bool b204_,.slice p205_ n205_ c205_,.slice p206_ n206_ c206_,.bool b207_,.bool b208_]/\(∀V47,V46.Le V47->Acts prog 35 #[.agg #[.bool b181_,.slice p182_ n182_ c182_,.bool b183_,.slice p184_ n184_ c184_,.bool b185_,.slice p186_ n186_ c186_,.bool b187_,.slice p188_ n188_ c188_,.slice p189_ n189_ c189_,.bool b190_,.slice p191_ n191_ c191_,.slice p192_ n192_ c192_,.bool b193_,.bool b194_],.agg #[.bool b195_,.slice p196_ n196_ c196_,.bool b197_,.slice p198_ n198_ c198_,.bool b199_,.slice p200_ n200_ c200_,.bool b201_,.slice p202_ n202_ c202_,.slice p203_ n203_ c203_,.bool b204_,.slice p205_ n205_ c205_,.slice p206_ n206_ c206_,.bool b207_,.bool b208_]] V47 fun r47_ V48=>∃b209_,∃p210_ n210_ c210_,∃p211_ n211_ c211_,∃b212_,∃p213_ n213_ c213_,∃p214_ n214_ c214_,∃b215_,∃y216_,r47_=.tuple #[.agg #[.bool b209_,.slice p210_ n210_ c210_,.slice p211_ n211_ c211_,.bool b212_,.slice p213_ n213_ c213_,.slice p214_ n214_ c214_],.bool b215_,y216_]/\(∃I217_:Bool->View->Prop,(∀V49,V48.Le V49->Acts prog 23 #[] V49 fun r49_ V50=>∃b218_,r49_=.bool b218_/\((b218_=true->(IsIface y180_)/\(((isNilI y180_)=true->(IsIface y216_)/\(((isNilI y216_)=true->(((b179_ == b215_)=true->(∀V51,V50.Le V51->Acts prog 18 #[.agg #[.bool b173_,.slice p174_ n174_ c174_,.slice p175_ n175_ c175_,.bool b176_,.slice p177_ n177_ c177_,.slice p178_ n178_ c178_],.agg #[.bool b209_,.slice p210_ n210_ c210_,.slice p211_ n211_ c211_,.bool b212_,.slice p213_ n213_ c213_,.slice p214_ n214_ c214_]] V51 fun r51_ V52=>∃b219_,r51_=.bool b219_/\(∃z220_:Bool,((b219_=z220_))/\I217_ z220_ V52)))/\((b179_ == b215_)=false->(∃z221_:Bool,((false=z221_))/\I217_ z221_ V50))))/\((isNilI y216_)=false->(∃z222_:Bool,((false=z222_))/\I217_ z222_ V50))))/\((isNilI y180_)=false->(∃z223_:Bool,((false=z223_))/\I217_ z223_ V50))))/\(b218_=false->(∃z224_:Bool,((false=z224_))/\I217_ z224_ V50))))/\∀(z225_:Bool) (V53:View),V48.Le V53->I217_ z225_ V53->(true=true/\(∀V54,V53.Le V54->R (.bool z225_) V54))))))))))))))))))))))))) :
  Acts prog 6 #[.slice lp ln lc] V R:=
 fn_does (LF:=LF0) (RF:=[1000007]) (β0:=(fun _=>0)) tab_ok mixed [(7,{ τ:=Int,keep:=[4,5,6,43,44],keepB:=[4,5,6,43],slots:=fun z=>[(45,.c (.v (.int .i64 z)))],boxes:=fun z=>[] }),(10,{ τ:=Int,keep:=[4,5,6,10,43,44,45,50,51],keepB:=[4,5,6,43],slots:=fun z=>[(52,.c (.v (.int .i64 z)))],boxes:=fun z=>[] })] [(600006,{ τ:=Nat × Nat × (List Value) × Int × Int,keep:=[4,5,6],keepB:=[4,5,6],slots:=fun z=>[(43,.c (.msl 43 z.1 z.2.1)),(44,.c (.v (.int .i64 z.2.2.2.1))),(45,.c (.v (.int .i64 z.2.2.2.2)))],boxes:=fun z=>[(43,⟨.mrow z.2.2.1,94⟩)] }),(600013,{ τ:=Bool,keep:=[4,5,6,10,43,44,45,50,51,52],keepB:=[4,5,6,43],slots:=fun z=>[(87,.c (.v (.bool z)))],boxes:=fun z=>[] }),(600019,{ τ:=Bool,keep:=[],keepB:=[],slots:=fun z=>[(2,.c (.v (.bool z)))],boxes:=fun z=>[] })] func6 (by kernel_rfl)
  [(0,.c (.v (.slice lp ln lc)))]
  [] (by kernel_rfl) trivial h (by kernel_rfl)
end Go.Proofs.Tryz
/- Law 07: FragmentSides. -/
namespace Go.Proofs.Tryz
open Go.Eng Go.Big
theorem c_SameQ0 {V:View}:Acts prog 63 #[.agg #[.bool false,.slice none 0 0,.slice none 0 0],.agg #[.bool false,.slice none 0 0,.slice none 0 0]] V fun r V'=>r=.bool true:=by
 refine vc_ref01_SameQ false none 0 0 none 0 0 false none 0 0 none 0 0 V _ fun V1 l1=>(c_ref01_SameI (z:=0) (w:=0) RD.nil RD.nil (by decide)).mono ?_
 rintro r V2 l2 rfl
 refine ⟨_,rfl,fun _ V3 l3=>(c_ref01_SameN (xs:=[]) (ys:=[]) RD.nil RD.nil (by simp)).mono ?_,fun h=>by simp at h⟩
 rintro r V4 l4 rfl
 exact ⟨_,rfl,fun V5 l5=>rfl⟩
theorem c_SameP0 {V:View} {v w:Value} (h:PZero v) (h':PZero w):Acts prog 18 #[v,w] V fun r V'=>r=.bool true:=by
 obtain rfl:=h
 obtain rfl:=h'
 refine vc_ref04_SameP false none 0 0 none 0 0 false none 0 0 none 0 0 false none 0 0 none 0 0 false none 0 0 none 0 0 V _ fun V1 l1=>c_SameQ0.mono ?_
 rintro r V2 l2 rfl
 refine ⟨_,rfl,fun _ V3 l3=>c_SameQ0.mono ?_,(fun h=>nomatch h)⟩
 rintro r V4 l4 rfl
 exact ⟨_,rfl,fun V5 l5=>rfl⟩
theorem me_shape {V:View} {w:Value} {x y:Rat} {c:Bool} (h1:c=false->PZero w) (h2:c=true->RAP V w x y):∃b p n c p' n' c' d q m e q' m' e',w=.agg #[.bool b,.slice p n c,.slice p' n' c',.bool d,.slice q m e,.slice q' m' e']:=by
 cases c with
 | false=>exact ⟨_,_,_,_,_,_,_,_,_,_,_,_,_,_,h1 rfl⟩
 | true=>exact ap_shape (h2 rfl)
/-- A fragment of the reference, taken apart. -/
theorem rf_parts {V:View} {b1 p1 n1 c1 b2 p2 n2 c2 b3 p3 n3 c3 b p n c p' n' c' d q m e q' m' e'} {x y:Bool} {l:L3} {s:Sp} (h:RF V (.agg #[.bool b1,.slice p1 n1 c1,.bool b2,.slice p2 n2 c2,.bool b3,.slice p3 n3 c3,.bool b,.slice p n c,.slice p' n' c',.bool d,.slice q m e,.slice q' m' e',.bool x,.bool y]) l s) :
  RL V (.agg #[.bool b1,.slice p1 n1 c1,.bool b2,.slice p2 n2 c2,.bool b3,.slice p3 n3 c3]) l.1 l.2.1 l.2.2/\RSs V (.agg #[.bool b,.slice p n c,.slice p' n' c',.bool d,.slice q m e,.slice q' m' e',.bool x,.bool y]) s:=by
 obtain ⟨_,_,_,_,_,_,_,_,_,_,_,_,_,_,_,_,_,_,_,_,_,_,_,_,_,_,ef,fl,fs⟩:=h
 have ef':=congrArg Array.toList (Value.agg.inj ef)
 simp only [List.cons.injEq,Value.bool.injEq,Value.slice.injEq,and_true] at ef'
 obtain ⟨rfl,⟨rfl,rfl,rfl⟩,rfl,⟨rfl,rfl,rfl⟩,rfl,⟨rfl,rfl,rfl⟩,rfl,⟨rfl,rfl,rfl⟩,⟨rfl,rfl,rfl⟩,rfl,⟨rfl,rfl,rfl⟩,⟨rfl,rfl,rfl⟩,rfl,rfl⟩:=ef'
 exact ⟨fl,fs⟩
theorem cut_ok {l:L3} {s:Sp} {m:L3} (h:FOk l s) (hb:cutB l s m=true):FOk l (cutS l s m):=⟨h.1,cutS_can h.2.1,cutB_emp h.2.2 hb⟩
/-- One part of a split: it is read, its sample lies on its side, its line has the direction of the fragment's. -/
theorem side_sign {m:L3} {z:Int} (hz:z=0 \/ z=1) {x y:Rat} (h:0 < valL (if z=0 then m else revL m) x y):(valL m x y).num.sign=i64.wrap (1 - i64.wrap (2 * z)):=by
 rcases hz with rfl | rfl
 ·rw [if_pos rfl] at h
  rw [Int.sign_eq_one_of_pos (num_pos'.2 h)]; rfl
 ·rw [if_neg (by decide),val_rev] at h
  have:valL m x y < 0:=by grind
  rw [Int.sign_eq_neg_one_of_neg (num_neg'.2 this)]; rfl
set_option maxHeartbeats 1000000 in
theorem c_FragmentSides {V:View} {lp:OA} {ln lc:Nat} (hr:Rdl V lp ln) (hc:ln<=lc) :
  Acts prog 6 #[.slice lp ln lc] V fun r V'=>r=.bool true:=by
 refine vc_law07_FragmentSides lp ln lc V _ fun V1 l1=>(c_scene_New hc).mono ?_
 rintro r V2 l2 ⟨bk1,rfl,hfr,hb⟩
 refine ⟨bk1,_,_,_,_,rfl,hfr,hb,fun V3 l3 bk4 e4 h4=>?_⟩
 have l13:V1.Le V3:=le_fresh l2 hfr l3
 have hmin:min ln 400<=400:=Nat.min_le_right _ _
 have hr:Rdl V lp (min ln 400):=fun i hi=>hr i (Nat.lt_of_lt_of_le hi (Nat.min_le_left _ _))
 generalize min ln 400=n at *
 have l03:V.Le V3:=l1.trans l13
 refine (c_F (V:=V3.lend [bk4]) (hr.le fun b o h=>l03 b o h) hmin e4 ⟨by simp,h4⟩ (Int.le_refl 0)).mono ?_
 rintro r V4 l4 ⟨lf,sf,at1,gf,fok,slf,ssf,t1,hw1⟩
 have gf0:=gf
 obtain ⟨_,_,_,_,_,_,_,_,_,_,_,_,_,_,_,_,_,_,_,_,_,_,_,_,_,_,rfl⟩:=rf_shape gf
 refine ⟨_,_,_,_,_,_,_,_,_,_,_,_,_,_,_,_,_,_,_,_,_,_,_,_,_,_,_,_,rfl,_,_,_,_,hw1,fun V5 l5 bk13 e5 h5=>(c_F (V:=V5.lend [bk13]) (hr.le fun b o h=>l5 b o (l4 b o (l03 b o h))) hmin e5 ⟨by simp,h5⟩ t1).mono ?_⟩
 rintro r V6 l6 ⟨lg,sg,at2,gg,gok,slg,ssg,t2,hw2⟩
 have gg0:=gg
 obtain ⟨_,_,_,_,_,_,_,_,_,_,_,_,_,_,_,_,_,_,_,_,_,_,_,_,_,_,rfl⟩:=rf_shape gg
 have l46:V4.Le V6:=fun b o h=>l6 b o (l5 b o h)
 refine ⟨_,_,_,_,_,_,_,_,_,_,_,_,_,_,_,_,_,_,_,_,_,_,_,_,_,_,_,_,rfl,_,_,_,_,hw2,fun V7 l7 bk38 e7 h7=>(c_L (V:=V7.lend [bk38]) (hr.le fun b o h=>l7 b o (l46 b o (l4 b o (l03 b o h)))) hmin e7 ⟨by simp,h7⟩ t2).mono ?_⟩
 rintro r V8 l8 ⟨m,at3,gm,mok,hbd,t3,hw3⟩
 have gm0:=gm
 obtain ⟨_,_,_,_,_,_,_,_,_,_,_,_,rfl⟩:=rl_shape gm
 have l68:V6.Le V8:=fun b o h=>l8 b o (l7 b o h)
 obtain ⟨z1,z2,z3⟩:=hbd.sz
 obtain ⟨K,hK⟩:∃K:Nat,K=5000:=⟨5000,rfl⟩
 have sm:SzL K m:=⟨Sz.mono z1 (by omega),Sz.mono z2 (by omega),Sz.mono z3 (by omega)⟩
 rw [← hK] at slf ssf slg ssg
 obtain ⟨K2,hK2⟩:∃K2:Nat,K2=60 * K + 60:=⟨_,rfl⟩
 obtain ⟨K3,hK3⟩:∃K3:Nat,K3=2 * K2 + 10:=⟨_,rfl⟩
 obtain ⟨K4,hK4⟩:∃K4:Nat,K4=20 * K3 + 19:=⟨_,rfl⟩
 clear hbd z1 z2 z3
 refine ⟨_,_,_,_,_,_,_,_,_,_,_,_,rfl,_,_,_,_,hw3,fun V9 l9=>?_⟩
 replace l9:V8.Le V9:=fun b o h=>l9 b o h
 have lf9:V4.Le V9:=l46.trans (l68.trans l9)
 have lg9:V6.Le V9:=l68.trans l9
 replace gf0:=gf0.le lf9
 replace gg0:=gg0.le lg9
 replace gm0:=gm0.le l9
 clear lf9 lg9 l46 l68 hw1 hw2 hw3 hb e4 h4 e5 h5 e7 h7 l3 l13 l03 hfr
 refine (c_ref06_WriteF gf0 slf ssf (by omega)).mono ?_
 rintro r V10 l10 ga
 have ga0:=ga
 obtain ⟨_,_,_,_,_,_,_,_,_,_,_,_,_,_,_,_,_,_,_,_,_,_,_,_,_,_,rfl⟩:=fa_shape ga
 obtain ⟨d1,d2,d3⟩:=sm.digs (by omega)
 refine ⟨_,_,_,_,_,_,_,_,_,_,_,_,_,_,_,_,_,_,_,_,_,_,_,_,_,_,_,_,rfl,fun V11 l11=>(c_ref04_ToL (gm0.le (l10.trans l11)) d1 d2 d3).mono ?_⟩
 rintro r V12 l12 gl
 have gl0:=gl
 obtain ⟨_,_,_,_,_,_,_,_,_,_,_,_,rfl⟩:=rl_shape gl
 refine ⟨_,_,_,_,_,_,_,_,_,_,_,_,rfl,fun V13 l13=>(c_Split (ga0.le (l11.trans (l12.trans l13))) (gl0.le l13) fok mok slf ssf sm (by omega)).mono ?_⟩
 rintro r V14 l14 ⟨pa,na,ca,pb,nb,cb,rfl,fa,fb⟩
 have l9_14:V9.Le V14:=l10.trans (l11.trans (l12.trans (l13.trans l14)))
 refine ⟨_,_,_,_,_,_,_,rfl,iface_nil,(fun h=>nomatch h),fun _=>⟨fun z _=>z=(2,2,[.slice pa na ca,.slice pb nb cb],2,0),⟨(2,2,[.slice pa na ca,.slice pb nb cb],2,0),by and_intros <;> first | rfl | decide,rfl⟩,?_⟩⟩
 rintro z V16 l16 rfl
 dsimp only
 refine ⟨rfl,fun z _=>0<=z/\z<=2,fun z=>(2 - z).toNat,⟨0,by and_intros <;> rfl,by omega,by omega⟩,?_⟩
 rintro z V17 l17 ⟨zl,zu⟩
 have l9_17:V9.Le V17:=l9_14.trans (l16.trans l17)
 refine ⟨rfl,fun hz=>?_,fun _ V37 l37=>?_⟩
 ·have hz:z < 2:=of_decide_eq_true hz
  have hz01:z=0 \/ z=1:=by omega
  have part:∃(p:OA) (n c:Nat),([.slice pa na ca,.slice pb nb cb]:List Value)[z.toNat * 1]?=some (.slice p n c)/\RFas V14 p n (sideF lf sf (if z=0 then m else revL m)):=by
   rcases hz01 with rfl | rfl
   ·exact ⟨pa,na,ca,rfl,by rw [if_pos rfl]; exact fa⟩
   ·exact ⟨pb,nb,cb,rfl,by rw [if_neg (by decide)]; exact fb⟩
  have hside:∀x y,0 < valL (if z=0 then m else revL m) x y->_:=fun x y h=>side_sign hz01 h
  have ssd:SzL K (if z=0 then m else revL m):=by
   split
   ·exact sm
   ·exact sm.rev
  have wz:i64.wrap (z + 1)=z + 1:=i64w (by omega)
  generalize (if z=0 then m else revL m)=sd at part hside ssd
  obtain ⟨pp,nn,cc,hp,hf⟩:=part
  replace hf:=hf.le (l16.trans l17)
  rw [wz]
  refine ⟨⟨zl,hz⟩,Nat.le_refl _,pp,nn,cc,hp,fun y _=>0<=y/\y<=nn,fun y=>(nn - y).toNat,⟨0,by and_intros <;> rfl,by omega,by omega⟩,?_⟩
  rintro y V18 l18 ⟨yl,yu⟩
  refine ⟨rfl,fun hy=>?_,fun hy=>⟨z + 1,by dsimp only; omega,by and_intros <;> rfl,by omega,by omega⟩⟩
  have hy:y < nn:=of_decide_eq_true hy
  have hlen:=hf.len
  cases hcb:cutB lf sf sd with
  | false=>rw [sideF_neg hcb] at hlen; simp at hlen; omega
  | true=>
   rw [sideF_pos hcb] at hf hlen
   simp at hlen
   obtain rfl:y=0:=by omega
   have ok2:=cut_ok fok hcb
   have hpos:=cut_side fok.2.2 hcb
   have ss2:(cutS lf sf sd).sz K2:=by rw [hK2]; exact sz_cutS slf ssf ssd
   have sl2:SzL K2 lf:=⟨Sz.mono slf.1 (by omega),Sz.mono slf.2.1 (by omega),Sz.mono slf.2.2 (by omega)⟩
   have sl3:SzL K3 lf:=⟨Sz.mono slf.1 (by omega),Sz.mono slf.2.1 (by omega),Sz.mono slf.2.2 (by omega)⟩
   have sm4:SzL K4 m:=⟨Sz.mono sm.1 (by omega),Sz.mono sm.2.1 (by omega),Sz.mono sm.2.2 (by omega)⟩
   have ss3:Sz K3 (cutS lf sf sd).samp:=by rw [hK3]; exact sz_samp ss2
   have sx4:Sz K4 (atX lf (cutS lf sf sd).samp):=by rw [hK4]; exact sz_atX sl3 ss3
   have sy4:Sz K4 (atY lf (cutS lf sf sd).samp):=by rw [hK4]; exact sz_atY sl3 ss3
   have hsg:=hside _ _ hpos
   have nz:=okL_nz fok.1
   generalize cutS lf sf sd=s2 at *
   obtain ⟨ad,ha,xs,hfx,hat⟩:=(hf.le l18).at_ 0 (by simp)
   have hfx:RFa V18 (.agg xs.toArray) lf s2:=hfx
   have hfx0:=hfx
   obtain ⟨_,_,_,_,_,_,_,_,_,_,_,_,_,_,_,_,_,_,_,_,_,_,_,_,_,_,ex⟩:=fa_shape hfx
   have ex:=congrArg Array.toList (Value.agg.inj ex)
   dsimp only at ex
   subst ex
   have w1:i64.wrap ((0:Int) + 1)=1:=i64w (by omega)
   rw [w1]
   refine ⟨isSome_addr ha,⟨by omega,by omega⟩,_,_,_,_,_,_,_,_,_,_,_,_,_,_,_,_,_,_,_,_,_,_,_,_,_,_,_,_,ad,ha,hat 0 _ rfl,hat 1 _ rfl,hat 2 _ rfl,hat 3 _ rfl,hat 4 _ rfl,hat 5 _ rfl,hat 6 _ rfl,hat 7 _ rfl,hat 8 _ rfl,hat 9 _ rfl,hat 10 _ rfl,hat 11 _ rfl,hat 12 _ rfl,hat 13 _ rfl,fun V19 l19=>(c_ReadF_ok (hfx0.le l19) ok2 sl2 ss2 (by omega)).mono ?_⟩
   rintro r V20 l20 ⟨w,rfl,gy⟩
   have gy0:=gy
   obtain ⟨_,_,_,_,_,_,_,_,_,_,_,_,_,_,_,_,_,_,_,_,_,_,_,_,_,_,rfl⟩:=rf_shape gy
   obtain ⟨fl,fs⟩:=rf_parts gy0
   have l9_20:V9.Le V20:=l9_17.trans (l18.trans (l19.trans l20))
   refine ⟨_,_,_,_,_,_,_,_,_,_,_,_,_,_,_,_,_,_,_,_,_,_,_,_,_,_,_,_,_,rfl,fun z _=>z=false,⟨(fun h=>nomatch h),fun _ V21 l21=>(c_ref06_Sample (fs.le l21) ss2 (by omega)).mono ?_⟩,?_⟩
   ·rintro r V22 l22 gq
    have gq0:=gq
    obtain ⟨_,_,_,_,_,_,rfl⟩:=gq.shape
    refine ⟨_,_,_,_,_,_,_,rfl,fun V23 l23=>(r_At (fl.le (l21.trans (l22.trans l23))) (gq0.le l23) nz sl3 ss3 (by omega)).mono ?_⟩
    rintro r V24 l24 gp
    have gp0:=gp
    obtain ⟨_,_,_,_,_,_,_,_,_,_,_,_,_,_,rfl⟩:=rp_shape gp
    have l20_24:V20.Le V24:=l21.trans (l22.trans (l23.trans l24))
    refine ⟨_,_,_,_,_,_,_,_,_,_,_,_,_,_,rfl,fun V25 l25=>(r_Side (gm0.le (l9_20.trans (l20_24.trans l25))) (gp0.le l25) sm4 sx4 sy4 (by omega)).mono ?_⟩
    rintro r V26 l26 rfl
    have l20_26:V20.Le V26:=l20_24.trans (l25.trans l26)
    refine ⟨_,rfl,fun h=>?_,fun _ V27 l27=>(c_ref04_Dir (fl.le (l20_26.trans l27)) sl2.1 sl2.2.1 sl2.2.2 (by omega)).mono ?_⟩
    ·rw [hsg] at h; simp at h
    ·rintro r V28 l28 gd
     have gd0:=gd
     obtain ⟨_,_,_,_,_,_,_,_,_,_,_,_,_,_,rfl⟩:=rp_shape gd
     have l20_28:V20.Le V28:=l20_26.trans (l27.trans l28)
     refine ⟨_,_,_,_,_,_,_,_,_,_,_,_,_,_,rfl,fun V29 l29=>(c_ref04_Dir ((rf_parts gf0).1.le (l9_20.trans (l20_28.trans l29))) sl2.1 sl2.2.1 sl2.2.2 (by omega)).mono ?_⟩
     rintro r V30 l30 ge
     have ge0:=ge
     obtain ⟨_,_,_,_,_,_,_,_,_,_,_,_,_,_,rfl⟩:=rp_shape ge
     refine ⟨_,_,_,_,_,_,_,_,_,_,_,_,_,_,rfl,fun V31 l31=>(c_ref04_Cross (gd0.le (l29.trans (l30.trans l31))) (ge0.le l31) sl2.2.1 sl2.1.neg sl2.2.1 sl2.1.neg (by omega)).mono ?_⟩
     rintro r V32 l32 gc
     have e0:(lf.2.1:Rat) * (-(lf.1:Rat)) - (-(lf.1:Rat)) * (lf.2.1:Rat)=0:=by grind
     rw [e0] at gc
     obtain ⟨_,_,_,_,_,_,rfl,h1,h2⟩:=gc
     refine ⟨_,_,_,_,_,_,_,rfl,fun V33 l33=>(c_num_S 0 (h1.le l33)).mono ?_⟩
     rintro r V34 l34 rfl
     exact ⟨_,rfl,false,by and_intros <;> rfl,rfl⟩
   ·rintro y' V35 l35 rfl
    exact ⟨rfl,(fun h=>nomatch h),fun _=>⟨1,by dsimp only; omega,by and_intros <;> rfl,by omega,by omega⟩⟩
 ·clear fa fb
  have l9_37:V9.Le V37:=l9_17.trans l37
  refine (c_ref06_WriteF (gf0.le l9_37) slf ssf (by omega)).mono ?_
  rintro r V38 l38 wa
  have wa0:=wa
  obtain ⟨_,_,_,_,_,_,_,_,_,_,_,_,_,_,_,_,_,_,_,_,_,_,_,_,_,_,rfl⟩:=fa_shape wa
  have l9_38:=l9_37.trans l38
  refine ⟨_,_,_,_,_,_,_,_,_,_,_,_,_,_,_,_,_,_,_,_,_,_,_,_,_,_,_,_,rfl,fun V39 l39=>(c_ref06_WriteF (gg0.le (l9_38.trans l39)) slg ssg (by omega)).mono ?_⟩
  rintro r V40 l40 wb
  have wb0:=wb
  obtain ⟨_,_,_,_,_,_,_,_,_,_,_,_,_,_,_,_,_,_,_,_,_,_,_,_,_,_,rfl⟩:=fa_shape wb
  have l9_40:=l9_38.trans (l39.trans l40)
  refine ⟨_,_,_,_,_,_,_,_,_,_,_,_,_,_,_,_,_,_,_,_,_,_,_,_,_,_,_,_,rfl,fun V41 l41=>(c_Meet (wa0.le (l39.trans (l40.trans l41))) (wb0.le l41) fok gok slf ssf slg ssg (by omega)).mono ?_⟩
  rintro r V42 l42 ⟨u,rfl,u1,u2⟩
  obtain ⟨_,_,_,_,_,_,_,_,_,_,_,_,_,_,rfl⟩:=me_shape u1 u2
  have l9_42:=l9_40.trans (l41.trans l42)
  refine ⟨_,_,_,_,_,_,_,_,_,_,_,_,_,_,_,_,rfl,fun V43 l43=>(c_ref06_WriteF (gg0.le (l9_42.trans l43)) slg ssg (by omega)).mono ?_⟩
  rintro r V44 l44 wc
  have wc0:=wc
  obtain ⟨_,_,_,_,_,_,_,_,_,_,_,_,_,_,_,_,_,_,_,_,_,_,_,_,_,_,rfl⟩:=fa_shape wc
  have l9_44:=l9_42.trans (l43.trans l44)
  refine ⟨_,_,_,_,_,_,_,_,_,_,_,_,_,_,_,_,_,_,_,_,_,_,_,_,_,_,_,_,rfl,fun V45 l45=>(c_ref06_WriteF (gf0.le (l9_44.trans l45)) slf ssf (by omega)).mono ?_⟩
  rintro r V46 l46 wd
  have wd0:=wd
  obtain ⟨_,_,_,_,_,_,_,_,_,_,_,_,_,_,_,_,_,_,_,_,_,_,_,_,_,_,rfl⟩:=fa_shape wd
  refine ⟨_,_,_,_,_,_,_,_,_,_,_,_,_,_,_,_,_,_,_,_,_,_,_,_,_,_,_,_,rfl,fun V47 l47=>(c_Meet (wc0.le (l45.trans (l46.trans l47))) (wd0.le l47) gok fok slg ssg slf ssf (by omega)).mono ?_⟩
  rintro r V48 l48 ⟨u,rfl,v1,v2⟩
  obtain ⟨_,_,_,_,_,_,_,_,_,_,_,_,_,_,rfl⟩:=me_shape v1 v2
  obtain ⟨y1,y2⟩:=mt_symm (l:=lf) (m:=lg) fok.2.2 gok.2.2
  refine ⟨_,_,_,_,_,_,_,_,_,_,_,_,_,_,_,_,rfl,fun z _=>z=true,fun V49 l49=>c_known7.mono ?_,?_⟩
  ·rintro r V50 l50 rfl
   refine ⟨_,rfl,fun _=>⟨iface_nil,fun _=>⟨iface_nil,fun _=>⟨fun _ V51 l51=>?_,fun h=>?_⟩,(fun h=>nomatch h)⟩,(fun h=>nomatch h)⟩,(fun h=>nomatch h)⟩
   ·cases hb:mtB lf sf lg sg with
    | false=>
     refine (c_SameP0 (u1 hb) (v1 (y1.trans hb))).mono ?_
     rintro r V52 l52 rfl
     exact ⟨_,rfl,true,by and_intros <;> rfl,rfl⟩
    | true=>
     obtain ⟨q1,q2⟩:=y2 hb
     obtain ⟨q3,q4⟩:=sz_mt (t:=sg) slf ssf slg
     refine (c_ref04_SameP ((u2 hb).le (l43.trans (l44.trans (l45.trans (l46.trans (l47.trans (l48.trans (l49.trans (l50.trans l51))))))))) ((v2 (y1.trans hb)).le (l49.trans (l50.trans l51))) q3 q4 (by omega)).mono ?_
     rintro r V52 l52 rfl
     exact ⟨_,rfl,true,by and_intros <;> first | rfl | exact decide_eq_true ⟨q1.symm,q2.symm⟩,rfl⟩
   ·rw [y1] at h; simp at h
  ·rintro z V53 l53 rfl
   exact ⟨rfl,fun V54 l54=>rfl⟩
end Go.Proofs.Tryz
