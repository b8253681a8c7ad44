/- A part of the proof (joined by program from: VLaw7B, Law7B, ArgA). -/
import Derived.Test.YtalijajeenhebaaGreatDoorM5
import Derived.Test.YtalijajeenhebaaGreatDoorM15
import Derived.Test.YtalijajeenhebaaGreatDoorM16
set_option linter.unusedVariables false
open Go.IntKind (i64 u64 u32)
/- By program: the conditions of the functions, from their loaded code. -/
namespace Go.Proofs.Tryz
open Go.Eng
set_option maxRecDepth 100000
theorem vc_law07_FragmentValid (f0:Bool) (f1p:OA) (f1n f1c:Nat) (f2:Bool) (f3p:OA) (f3n f3c:Nat) (f4:Bool) (f5p:OA) (f5n f5c:Nat) (f6:Bool) (f7p:OA) (f7n f7c:Nat) (f8p:OA) (f8n f8c:Nat) (f9:Bool) (f10p:OA) (f10n f10c:Nat) (f11p:OA) (f11n f11c:Nat) (f12:Bool) (f13:Bool) (p0:Bool) (p1p:OA) (p1n p1c:Nat) (p2p:OA) (p2n p2c:Nat) (p3:Bool) (p4p:OA) (p4n p4c:Nat) (p5p:OA) (p5n p5c:Nat) (V:View) (R:Value->View->Prop)
  (h:(∀V1:View,V.Le V1->∀bk1_:Nat,(V1.blk bk1_ (.cells #[.bool f0,.slice f1p f1n f1c,.bool f2,.slice f3p f3n f3c,.bool f4,.slice f5p f5n f5c] 38 (0,0)))->Acts prog 26 #[.int .i64 4,.slice (some ⟨bk1_,0,none⟩) 1 1] V1 fun r1_ V2=>∃b2_:Bool,r1_=.bool b2_/\∀J3_:C->Value,(((!b2_)=true->(∀V3:View,V2.Le V3->Acts prog 23 #[] V3 fun r3_ V4=>∃b4_:Bool,r3_=.bool b4_/\(∀V5:View,V4.Le V5->R (.bool b4_) V5)))/\((!b2_)=false->(∀V6:View,V2.Le V6->∀bk5_:Nat,(V6.blk bk5_ (.cells #[.bool f6,.slice f7p f7n f7c,.slice f8p f8n f8c,.bool f9,.slice f10p f10n f10c,.slice f11p f11n f11c] 40 (0,0)))->Acts prog 27 #[.int .i64 4,.slice (some ⟨bk5_,0,none⟩) 2 2] V6 fun r6_ V7=>∃b6_:Bool,r6_=.bool b6_/\∀J7_:C->Value,(((!b6_)=true->(∀V8:View,V7.Le V8->Acts prog 23 #[] V8 fun r8_ V9=>∃b8_:Bool,r8_=.bool b8_/\(∀V10:View,V9.Le V10->R (.bool b8_) V10)))/\((!b6_)=false->(∀V11:View,V7.Le V11->∀bk9_:Nat,(V11.blk bk9_ (.cells #[.bool p0,.slice p1p p1n p1c,.slice p2p p2n p2c,.bool p3,.slice p4p p4n p4c,.slice p5p p5n p5c] 48 (0,0)))->Acts prog 28 #[.int .i64 4,.slice (some ⟨bk9_,0,none⟩) 1 1] V11 fun r11_ V12=>∃b10_:Bool,r11_=.bool b10_/\∀J11_:C->Value,(((!b10_)=true->(∀V13:View,V12.Le V13->Acts prog 23 #[] V13 fun r13_ V14=>∃b12_:Bool,r13_=.bool b12_/\(∀V15:View,V14.Le V15->R (.bool b12_) V15)))/\((!b10_)=false->(∀V16:View,V12.Le V16->Acts prog 29 #[.agg #[.bool f0,.slice f1p f1n f1c,.bool f2,.slice f3p f3n f3c,.bool f4,.slice f5p f5n f5c,.bool f6,.slice f7p f7n f7c,.slice f8p f8n f8c,.bool f9,.slice f10p f10n f10c,.slice f11p f11n f11c,.bool f12,.bool f13]] V16 fun r16_ V17=>∃b13_:Bool,∃(p14_:OA) (n14_ c14_:Nat),∃b15_:Bool,∃(p16_:OA) (n16_ c16_:Nat),∃b17_:Bool,∃(p18_:OA) (n18_ c18_:Nat),∃b19_:Bool,∃(p20_:OA) (n20_ c20_:Nat),∃(p21_:OA) (n21_ c21_:Nat),∃b22_:Bool,∃(p23_:OA) (n23_ c23_:Nat),∃(p24_:OA) (n24_ c24_:Nat),∃b25_:Bool,∃b26_:Bool,∃b27_:Bool,r16_=.tuple #[.agg #[.bool b13_,.slice p14_ n14_ c14_,.bool b15_,.slice p16_ n16_ c16_,.bool b17_,.slice p18_ n18_ c18_,.bool b19_,.slice p20_ n20_ c20_,.slice p21_ n21_ c21_,.bool b22_,.slice p23_ n23_ c23_,.slice p24_ n24_ c24_,.bool b25_,.bool b26_],.bool b27_]/\(∀V18:View,V17.Le V18->Acts prog 16 #[.agg #[.bool f0,.slice f1p f1n f1c,.bool f2,.slice f3p f3n f3c,.bool f4,.slice f5p f5n f5c,.bool f6,.slice f7p f7n f7c,.slice f8p f8n f8c,.bool f9,.slice f10p f10n f10c,.slice f11p f11n f11c,.bool f12,.bool f13]] V18 fun r18_ V19=>∃b28_:Bool,∃(p29_:OA) (n29_ c29_:Nat),∃(p30_:OA) (n30_ c30_:Nat),∃b31_:Bool,∃(p32_:OA) (n32_ c32_:Nat),∃(p33_:OA) (n33_ c33_:Nat),∃b34_:Bool,r18_=.tuple #[.agg #[.bool b28_,.slice p29_ n29_ c29_,.slice p30_ n30_ c30_,.bool b31_,.slice p32_ n32_ c32_,.slice p33_ n33_ c33_],.bool b34_]/\(∀V20:View,V19.Le V20->Acts prog 17 #[.agg #[.bool f0,.slice f1p f1n f1c,.bool f2,.slice f3p f3n f3c,.bool f4,.slice f5p f5n f5c,.bool f6,.slice f7p f7n f7c,.slice f8p f8n f8c,.bool f9,.slice f10p f10n f10c,.slice f11p f11n f11c,.bool f12,.bool f13]] V20 fun r20_ V21=>∃b35_:Bool,∃(p36_:OA) (n36_ c36_:Nat),∃(p37_:OA) (n37_ c37_:Nat),∃b38_:Bool,∃(p39_:OA) (n39_ c39_:Nat),∃(p40_:OA) (n40_ c40_:Nat),∃b41_:Bool,r20_=.tuple #[.agg #[.bool b35_,.slice p36_ n36_ c36_,.slice p37_ n37_ c37_,.bool b38_,.slice p39_ n39_ c39_,.slice p40_ n40_ c40_],.bool b41_]/\(∀V22:View,V21.Le V22->Acts prog 21 #[.agg #[.bool f0,.slice f1p f1n f1c,.bool f2,.slice f3p f3n f3c,.bool f4,.slice f5p f5n f5c,.bool f6,.slice f7p f7n f7c,.slice f8p f8n f8c,.bool f9,.slice f10p f10n f10c,.slice f11p f11n f11c,.bool f12,.bool f13],.agg #[.bool p0,.slice p1p p1n p1c,.slice p2p p2n p2c,.bool p3,.slice p4p p4n p4c,.slice p5p p5n p5c]] V22 fun r22_ V23=>∃b42_:Bool,∃y43_:Value,r22_=.tuple #[.bool b42_,y43_]/\(∀V24:View,V23.Le V24->Acts prog 22 #[.agg #[.bool f0,.slice f1p f1n f1c,.bool f2,.slice f3p f3n f3c,.bool f4,.slice f5p f5n f5c,.bool f6,.slice f7p f7n f7c,.slice f8p f8n f8c,.bool f9,.slice f10p f10n f10c,.slice f11p f11n f11c,.bool f12,.bool f13]] V24 fun r24_ V25=>∃b44_:Bool,∃(p45_:OA) (n45_ c45_:Nat),∃b46_:Bool,∃(p47_:OA) (n47_ c47_:Nat),∃b48_:Bool,∃(p49_:OA) (n49_ c49_:Nat),∃b50_:Bool,∃(p51_:OA) (n51_ c51_:Nat),∃(p52_:OA) (n52_ c52_:Nat),∃b53_:Bool,∃(p54_:OA) (n54_ c54_:Nat),∃(p55_:OA) (n55_ c55_:Nat),∃b56_:Bool,∃b57_:Bool,∃y58_:Value,r24_=.tuple #[.agg #[.bool b44_,.slice p45_ n45_ c45_,.bool b46_,.slice p47_ n47_ c47_,.bool b48_,.slice p49_ n49_ c49_,.bool b50_,.slice p51_ n51_ c51_,.slice p52_ n52_ c52_,.bool b53_,.slice p54_ n54_ c54_,.slice p55_ n55_ c55_,.bool b56_,.bool b57_],y58_]/\(((!b27_)=true->(∀V26:View,V25.Le V26->Acts prog 23 #[] V26 fun r26_ V27=>∃b59_:Bool,r26_=.bool b59_/\((b59_=true->(∀V28:View,V27.Le V28->Acts prog 30 #[.agg #[.bool f0,.slice f1p f1n f1c,.bool f2,.slice f3p f3n f3c,.bool f4,.slice f5p f5n f5c,.bool f6,.slice f7p f7n f7c,.slice f8p f8n f8c,.bool f9,.slice f10p f10n f10c,.slice f11p f11n f11c,.bool f12,.bool f13]] V28 fun r28_ V29=>∃b60_:Bool,r28_=.bool b60_/\(((!b60_)=true->(((!b34_)=true->(((!b41_)=true->(∃y61_:Value,(∃a62_,(some ⟨0,0,none⟩:OA)=some a62_/\V29.at a62_ (y61_))/\(∀V30:View,V29.Le V30->Acts prog 31 #[y43_,y61_] V30 fun r30_ V31=>∃b63_:Bool,r30_=.bool b63_/\((b63_=true->(∃y64_:Value,(∃a65_,(some ⟨0,0,none⟩:OA)=some a65_/\V31.at a65_ (y64_))/\(∀V32:View,V31.Le V32->Acts prog 31 #[y58_,y64_] V32 fun r32_ V33=>∃b66_:Bool,r32_=.bool b66_/\((b66_=true->(((!b42_)=true->(∀V34:View,V33.Le V34->Acts prog 13 #[.agg #[.bool b44_,.slice p45_ n45_ c45_,.bool b46_,.slice p47_ n47_ c47_,.bool b48_,.slice p49_ n49_ c49_,.bool b50_,.slice p51_ n51_ c51_,.slice p52_ n52_ c52_,.bool b53_,.slice p54_ n54_ c54_,.slice p55_ n55_ c55_,.bool b56_,.bool b57_]] V34 fun r34_ V35=>∃b67_:Bool,r34_=.bool b67_/\(∀V36:View,V35.Le V36->R (.bool b67_) V36)))/\((!b42_)=false->(∀V37:View,V33.Le V37->R (.bool false) V37))))/\(b66_=false->(∀V38:View,V33.Le V38->R (.bool false) V38))))))/\(b63_=false->(∀V39:View,V31.Le V39->R (.bool false) V39))))))/\((!b41_)=false->(∀V40:View,V29.Le V40->R (.bool false) V40))))/\((!b34_)=false->(∀V41:View,V29.Le V41->R (.bool false) V41))))/\((!b60_)=false->(∀V42:View,V29.Le V42->R (.bool false) V42)))))/\(b59_=false->(∀V43:View,V27.Le V43->R (.bool false) V43)))))/\((!b27_)=false->(∀V44:View,V25.Le V44->Acts prog 23 #[] V44 fun r44_ V45=>∃b68_:Bool,r44_=.bool b68_/\((b68_=true->(∀V46:View,V45.Le V46->Acts prog 30 #[.agg #[.bool f0,.slice f1p f1n f1c,.bool f2,.slice f3p f3n f3c,.bool f4,.slice f5p f5n f5c,.bool f6,.slice f7p f7n f7c,.slice f8p f8n f8c,.bool f9,.slice f10p f10n f10c,.slice f11p f11n f11c,.bool f12,.bool f13]] V46 fun r46_ V47=>∃b69_:Bool,r46_=.bool b69_/\((b69_=true->(((b34_ == (!b25_))=true->(((b41_ == (!b26_))=true->(IsIface y43_)/\(((isNilI y43_)=true->(∀V48:View,V47.Le V48->Acts prog 32 #[.agg #[.bool p0,.slice p1p p1n p1c,.slice p2p p2n p2c,.bool p3,.slice p4p p4n p4c,.slice p5p p5n p5c]] V48 fun r48_ V49=>∃b70_:Bool,∃(p71_:OA) (n71_ c71_:Nat),∃(p72_:OA) (n72_ c72_:Nat),∃b73_:Bool,∃(p74_:OA) (n74_ c74_:Nat),∃(p75_:OA) (n75_ c75_:Nat),r48_=.agg #[.bool b70_,.slice p71_ n71_ c71_,.slice p72_ n72_ c72_,.bool b73_,.slice p74_ n74_ c74_,.slice p75_ n75_ c75_]/\(∀V50:View,V49.Le V50->Acts prog 24 #[.agg #[.bool b13_,.slice p14_ n14_ c14_,.bool b15_,.slice p16_ n16_ c16_,.bool b17_,.slice p18_ n18_ c18_,.bool b19_,.slice p20_ n20_ c20_,.slice p21_ n21_ c21_,.bool b22_,.slice p23_ n23_ c23_,.slice p24_ n24_ c24_,.bool b25_,.bool b26_],.agg #[.bool b70_,.slice p71_ n71_ c71_,.slice p72_ n72_ c72_,.bool b73_,.slice p74_ n74_ c74_,.slice p75_ n75_ c75_]] V50 fun r50_ V51=>∃b76_:Bool,r50_=.bool b76_/\(((b42_ == b76_)=true->(IsIface y58_)/\(((isNilI y58_)=true->(∀V52:View,V51.Le V52->Acts prog 25 #[.agg #[.bool b13_,.slice p14_ n14_ c14_,.bool b15_,.slice p16_ n16_ c16_,.bool b17_,.slice p18_ n18_ c18_,.bool b19_,.slice p20_ n20_ c20_,.slice p21_ n21_ c21_,.bool b22_,.slice p23_ n23_ c23_,.slice p24_ n24_ c24_,.bool b25_,.bool b26_]] V52 fun r52_ V53=>∃b77_:Bool,∃(p78_:OA) (n78_ c78_:Nat),∃b79_:Bool,∃(p80_:OA) (n80_ c80_:Nat),∃b81_:Bool,∃(p82_:OA) (n82_ c82_:Nat),∃b83_:Bool,∃(p84_:OA) (n84_ c84_:Nat),∃(p85_:OA) (n85_ c85_:Nat),∃b86_:Bool,∃(p87_:OA) (n87_ c87_:Nat),∃(p88_:OA) (n88_ c88_:Nat),∃b89_:Bool,∃b90_:Bool,r52_=.agg #[.bool b77_,.slice p78_ n78_ c78_,.bool b79_,.slice p80_ n80_ c80_,.bool b81_,.slice p82_ n82_ c82_,.bool b83_,.slice p84_ n84_ c84_,.slice p85_ n85_ c85_,.bool b86_,.slice p87_ n87_ c87_,.slice p88_ n88_ c88_,.bool b89_,.bool b90_]/\(∀V54:View,V53.Le V54->Acts prog 12 #[.agg #[.bool b44_,.slice p45_ n45_ c45_,.bool b46_,.slice p47_ n47_ c47_,.bool b48_,.slice p49_ n49_ c49_,.bool b50_,.slice p51_ n51_ c51_,.slice p52_ n52_ c52_,.bool b53_,.slice p54_ n54_ c54_,.slice p55_ n55_ c55_,.bool b56_,.bool b57_],.agg #[.bool b77_,.slice p78_ n78_ c78_,.bool b79_,.slice p80_ n80_ c80_,.bool b81_,.slice p82_ n82_ c82_,.bool b83_,.slice p84_ n84_ c84_,.slice p85_ n85_ c85_,.bool b86_,.slice p87_ n87_ c87_,.slice p88_ n88_ c88_,.bool b89_,.bool b90_]] V54 fun r54_ V55=>∃b91_:Bool,r54_=.bool b91_/\(∀V56:View,V55.Le V56->R (.bool b91_) V56))))/\((isNilI y58_)=false->(∀V57:View,V51.Le V57->R (.bool false) V57))))/\((b42_ == b76_)=false->(∀V58:View,V51.Le V58->R (.bool false) V58))))))/\((isNilI y43_)=false->(∀V59:View,V47.Le V59->R (.bool false) V59))))/\((b41_ == (!b26_))=false->(∀V60:View,V47.Le V60->R (.bool false) V60))))/\((b34_ == (!b25_))=false->(∀V61:View,V47.Le V61->R (.bool false) V61))))/\(b69_=false->(∀V62:View,V47.Le V62->R (.bool false) V62)))))/\(b68_=false->(∀V63:View,V45.Le V63->R (.bool false) V63))))))))))))))))))))) :
  Acts prog 4 #[.agg #[.bool f0,.slice f1p f1n f1c,.bool f2,.slice f3p f3n f3c,.bool f4,.slice f5p f5n f5c,.bool f6,.slice f7p f7n f7c,.slice f8p f8n f8c,.bool f9,.slice f10p f10n f10c,.slice f11p f11n f11c,.bool f12,.bool f13],.agg #[.bool p0,.slice p1p p1n p1c,.slice p2p p2n p2c,.bool p3,.slice p4p p4n p4c,.slice p5p p5n p5c]] V R:=
 fn_does (LF:=LF0) (RF:=[26,27,28,1000007]) (β0:=(fun _=>0)) tab_ok mixed [] [] func4 (by kernel_rfl)
  [(0,.agg [.v (.bool f0),.v (.slice f1p f1n f1c),.v (.bool f2),.v (.slice f3p f3n f3c),.v (.bool f4),.v (.slice f5p f5n f5c),.v (.bool f6),.v (.slice f7p f7n f7c),.v (.slice f8p f8n f8c),.v (.bool f9),.v (.slice f10p f10n f10c),.v (.slice f11p f11n f11c),.v (.bool f12),.v (.bool f13)]),(1,.agg [.v (.bool p0),.v (.slice p1p p1n p1c),.v (.slice p2p p2n p2c),.v (.bool p3),.v (.slice p4p p4n p4c),.v (.slice p5p p5n p5c)])]
  [] (by kernel_rfl) trivial h (by kernel_rfl)
end Go.Proofs.Tryz
/- Law 07: FragmentValid. -/
namespace Go.Proofs.Tryz
open Go.Eng Go.Big
/-- A point of package api in any form. -/
structure PW where
 b1:Bool
 xs:List Nat
 ys:List Nat
 b2:Bool
 us:List Nat
 vs:List Nat
structure PW.short (f:PW):Prop where
 x:f.xs.length<=1000
 y:f.ys.length<=1000
 u:f.us.length<=1000
 v:f.vs.length<=1000
def PW.qx (f:PW):Rat:=rawQ f.b1 f.xs f.ys
def PW.qy (f:PW):Rat:=rawQ f.b2 f.us f.vs
def RPw (V:View) (v:Value) (f:PW):Prop:=∃p n c p' n' c' q m e q' m' e',v=.agg #[.bool f.b1,.slice p n c,.slice p' n' c',.bool f.b2,.slice q m e,.slice q' m' e'] /\
 RRw V (.agg #[.bool f.b1,.slice p n c,.slice p' n' c']) f.b1 f.xs f.ys/\RRw V (.agg #[.bool f.b2,.slice q m e,.slice q' m' e']) f.b2 f.us f.vs
theorem RPw.le {V V':View} {v:Value} {f:PW} (h:RPw V v f) (l:V.Le V'):RPw V' v f:=by
 obtain ⟨p,n,c,p',n',c',q,m,e,q',m',e',rfl,h1,h2⟩:=h
 exact ⟨_,_,_,_,_,_,_,_,_,_,_,_,rfl,h1.le l,h2.le l⟩
theorem c_Of_raw {V:View} {v:Value} {b:Bool} {xs ys:List Nat} (h:RRw V v b xs ys) (m1:xs.length<=1000) (m2:ys.length<=1000):Acts prog 102 #[v] V fun r V'=>RR V' r (rawQ b xs ys):=by
 obtain ⟨p,n,c,q,m,e,rfl,hx,hy⟩:=h
 exact c_frac_Of' b hx hy (by omega) (by omega)
theorem c_PtOf_raw {V:View} {v:Value} {f:PW} (h:RPw V v f) (hs:f.short):Acts prog 48 #[v] V fun r V'=>RPt V' r f.qx f.qy:=by
 obtain ⟨p,n,c,p',n',c',q,m,e,q',m',e',rfl,h1,h2⟩:=h
 refine vc_geo_PtOf _ _ _ _ _ _ _ _ _ _ _ _ _ _ V _ fun V1 l1=>(c_Of_raw (h1.le l1) hs.x hs.y).mono ?_
 rintro r V2 l2 g1
 have g10:=g1
 obtain ⟨_,_,_,rfl⟩:=g1.shape
 refine ⟨_,_,_,rfl,fun V3 l3=>(c_Of_raw (h2.le (l1.trans (l2.trans l3))) hs.u hs.v).mono ?_⟩
 rintro r V4 l4 g2
 have g20:=g2
 obtain ⟨_,_,_,rfl⟩:=g2.shape
 exact ⟨_,_,_,rfl,fun V5 l5=>⟨_,_,_,_,_,_,rfl,g10.le (l3.trans (l4.trans l5)),g20.le l5⟩⟩
theorem pw_shape {V:View} {v:Value} {f:PW} (h:RPw V v f):∃b p n c p' n' c' d q m e q' m' e',v=.agg #[.bool b,.slice p n c,.slice p' n' c',.bool d,.slice q m e,.slice q' m' e']:=by
 obtain ⟨_,_,_,_,_,_,_,_,_,_,_,_,e,-⟩:=h; exact ⟨_,_,_,_,_,_,_,_,_,_,_,_,_,_,e⟩
theorem c_Contains_raw {V:View} {v w:Value} {l:L3} {s:Sp} {f:PW} (h:RFa V v l s) (hp:RPw V w f) (hf:f.short) (ho:FOk l s) {k:Nat} (sl:SzL k l) (hs:s.sz k) (s1:Sz k f.qx) (s2:Sz k f.qy) (hk:20 * k + 20 < 274877906944) :
  Acts prog 21 #[v,w] V fun r V'=>r=.tuple #[.bool (hasF l s f.qx f.qy),.nilIface]:=by
 have h0:=h
 have hp0:=hp
 obtain ⟨_,_,_,_,_,_,_,_,_,_,_,_,_,_,_,_,_,_,_,_,_,_,_,_,_,_,rfl⟩:=fa_shape h
 obtain ⟨_,_,_,_,_,_,_,_,_,_,_,_,_,_,rfl⟩:=pw_shape hp
 refine vc_fragment_Contains _ _ _ _ _ _ _ _ _ _ _ _ _ _ _ _ _ _ _ _ _ _ _ _ _ _ _ _ _ _ _ _ _ _ _ _ _ _ _ _ _ _ V _ fun V1 l1=>(c_FrOf_ok (h0.le l1) ho sl hs (by omega)).mono ?_
 rintro r V2 l2 ⟨w,rfl,g⟩
 have g0:=g
 obtain ⟨_,_,_,_,_,_,_,_,_,_,_,_,_,_,_,rfl⟩:=FrSh.ex g
 refine ⟨_,_,_,_,_,_,_,_,_,_,_,_,_,_,_,_,_,_,rfl,(fun h=>nomatch h),fun _ V4 l4=>(c_PtOf_raw (hp0.le (l1.trans (l2.trans l4))) hf).mono ?_⟩
 rintro r V5 l5 f
 have f0:=f
 obtain ⟨_,_,_,_,_,_,rfl⟩:=pt_shape f
 refine ⟨_,_,_,_,_,_,rfl,fun V6 l6=>(c_Fr_Has (g0.le (l4.trans (l5.trans l6))) (f0.le l6) sl hs s1 s2 hk).mono ?_⟩
 rintro r V7 l7 rfl
 exact ⟨_,rfl,fun V8 l8=>rfl⟩
theorem c_Pt_raw {V:View} {v:Value} {f:PW} (h:RPw V v f) (hs:f.short):Acts prog 32 #[v] V fun r V'=>RP V' r f.qx f.qy:=by
 obtain ⟨p,n,c,p',n',c',q,m,e,q',m',e',rfl,h1,h2⟩:=h
 exact c_ref04_Pt rfl h1 h2 hs.x hs.y hs.u hs.v
set_option maxHeartbeats 1000000 in
theorem c_FragmentValid {V:View} {v w:Value} {f:FW} {o:PW} (h:RFw V v f) (hp:RPw V w o) {y:Value} (hy:Sent V 0 y) (he:SErr y) :
  Acts prog 4 #[v,w] V fun r V'=>r=.bool true:=by
 have h0:=h
 have hp0:=hp
 obtain ⟨p1,n1,d1,p2,n2,d2,p3,n3,d3,p,n,c,p',n',c',q,m,e,q',m',e',rfl,h1,h2⟩:=h
 obtain ⟨u,i,t,u',i',t',x,j,k,x',j',k',rfl,k1,k2⟩:=hp
 have LL:n1=f.xs.length/\n2=f.ys.length/\n3=f.zs.length:=by
  obtain ⟨_,_,_,_,_,_,_,_,_,el,a1,a2,a3⟩:=h1
  have el:=congrArg Array.toList (Value.agg.inj el)
  simp only [List.cons.injEq,Value.slice.injEq,true_and,and_true] at el
  obtain ⟨⟨-,rfl,-⟩,⟨-,rfl,-⟩,-,rfl,-⟩:=el
  exact ⟨a1.len,a2.len,a3.len⟩
 have rl:∀{V:View} {b:Bool} {p n c p' n' c'} {xs ys:List Nat},RRw V (.agg #[.bool b,.slice p n c,.slice p' n' c']) b xs ys->n=xs.length/\n'=ys.length:=by
  intro V b p n c p' n' c' xs ys h
  obtain ⟨_,_,_,_,_,_,el,a1,a2⟩:=h
  have el:=congrArg Array.toList (Value.agg.inj el)
  simp only [List.cons.injEq,Value.slice.injEq,true_and,and_true] at el
  obtain ⟨⟨-,rfl,-⟩,-,rfl,-⟩:=el
  exact ⟨a1.len,a2.len⟩
 have LS:(n=f.us.length/\n'=f.vs.length)/\(m=f.ws.length/\m'=f.ts.length):=by
  obtain ⟨_,_,_,_,_,_,_,_,_,_,_,_,el,a1,a2⟩:=h2
  have el:=congrArg Array.toList (Value.agg.inj el)
  simp only [List.cons.injEq,Value.slice.injEq,true_and,and_true] at el
  obtain ⟨⟨rfl,rfl,rfl⟩,⟨rfl,rfl,rfl⟩,⟨rfl,rfl,rfl⟩,rfl,rfl,rfl⟩:=el
  exact ⟨rl a1,rl a2⟩
 have LP1:=rl k1
 have LP2:=rl k2
 refine vc_law07_FragmentValid _ _ _ _ _ _ _ _ _ _ _ _ _ _ _ _ _ _ _ _ _ _ _ _ _ _ _ _ _ _ _ _ _ _ _ _ _ _ _ _ _ _ V _ fun V1 l1 bk1 hb1=>(c_SmallL 4 hb1).mono ?_
 rintro r V2 l2 ⟨s1,rfl,hs1⟩
 have kn:∀V':View,Acts prog 23 #[] V' fun r V''=>∃b:Bool,r=.bool b/\∀V5:View,V''.Le V5->(fun (r:Value) (_:View)=>r=.bool true) (.bool b) V5:=fun V'=>c_known7.mono fun r V'' _ h=>⟨true,h,fun _ _=>rfl⟩
 refine ⟨_,rfl,fun J1=>⟨fun _ V3 l3=>kn V3,fun hz1 V6 l6 bk5 hb5=>(c_SmallQ 4 (lnsQ2 hb5) (by simp)).mono ?_⟩⟩
 rw [Bool.not_eq_false'] at hz1
 have hs1:=hs1 hz1
 rintro r V7 l7 ⟨s2,rfl,hs2⟩
 refine ⟨_,rfl,fun J2=>⟨fun _ V8 l8=>kn V8,fun hz2 V11 l11 bk9 hb9=>(c_SmallP 4 hb9).mono ?_⟩⟩
 rw [Bool.not_eq_false'] at hz2
 have hs2:=hs2 hz2
 have q1:=hs2 (n,n') (by simp)
 have q2:=hs2 (m,m') (by simp)
 dsimp only at q1 q2
 rintro r V12 l12 ⟨s3,rfl,hs3⟩
 refine ⟨_,rfl,fun J3=>⟨fun _ V13 l13=>kn V13,fun hz3 V16 l16=>?_⟩⟩
 rw [Bool.not_eq_false'] at hz3
 have hs3:=hs3 hz3
 have hf:f.short:=⟨by omega,by omega,by omega,by omega,by omega,by omega,by omega⟩
 have ho:o.short:=⟨by omega,by omega,by omega,by omega⟩
 have L16:V.Le V16:=l1.trans (l2.trans (l6.trans (l7.trans (l11.trans (l12.trans l16)))))
 clear hs1 hs2 hs3 q1 q2 LL LS LP1 LP2 rl hb1 hb5 hb9 J1 J2 J3 hz1 hz2 hz3
 replace h0:=h0.le L16
 replace hp0:=hp0.le L16
 replace hy:=hy.le L16
 clear L16 l1 l2 l6 l7 l11 l12 l16 h1 h2 k1 k2
 refine (c_ref06_ReadF h0 hf).mono ?_
 rintro r V17 l17 ⟨xr,rfl,⟨_,_,_,_,_,_,_,_,_,_,_,_,_,_,_,_,_,_,_,_,_,_,_,_,_,_,_,_,rfl⟩,gx⟩
 by_cases ok:f.ok=true
 ·obtain ⟨fa,fok⟩:=h0.fa ok
  have gx:=gx ok
  obtain ⟨K,hK⟩:∃K:Nat,K=32 * 1000 + 1:=⟨_,rfl⟩
  have dd:(Dig f.xs/\Dig f.ys/\Dig f.zs)/\(Dig f.us/\Dig f.vs)/\(Dig f.ws/\Dig f.ts):=by
   obtain ⟨_,_,_,_,_,_,_,_,_,_,_,_,_,_,_,_,_,_,_,_,_,-,⟨_,_,_,_,_,_,_,_,_,-,a1,a2,a3⟩,_,_,_,_,_,_,_,_,_,_,_,_,-,⟨_,_,_,_,_,_,-,a4,a5⟩,_,_,_,_,_,_,-,a6,a7⟩:=h0
   exact ⟨⟨a1.dig,a2.dig,a3.dig⟩,⟨a4.dig,a5.dig⟩,a6.dig,a7.dig⟩
  have dp:(Dig o.xs/\Dig o.ys)/\(Dig o.us/\Dig o.vs):=by
   obtain ⟨_,_,_,_,_,_,_,_,_,_,_,_,-,⟨_,_,_,_,_,_,-,a4,a5⟩,_,_,_,_,_,_,-,a6,a7⟩:=hp0
   exact ⟨⟨a4.dig,a5.dig⟩,a6.dig,a7.dig⟩
  have zr:Sz K (0:Rat):=sz0 K (by omega)
  have sl:SzL K f.ln:=by
   rw [hK]; exact ⟨sz_ival dd.1.1 hf.x,sz_ival dd.1.2.1 hf.y,sz_ival dd.1.2.2 hf.z⟩
  have ss:f.sp.sz K:=by
   unfold FW.sp spW Sp.sz endQ
   dsimp only
   constructor
   ·split
    ·exact zr
    ·rw [hK]; exact sz_of_len dd.2.1.1 dd.2.1.2 hf.u hf.v
   ·split
    ·exact zr
    ·rw [hK]; exact sz_of_len dd.2.2.1 dd.2.2.2 hf.w hf.t
  have sx:Sz K o.qx:=by rw [hK]; exact sz_of_len dp.1.1 dp.1.2 ho.x ho.y
  have sy:Sz K o.qy:=by rw [hK]; exact sz_of_len dp.2.1 dp.2.2 ho.u ho.v
  have nz:=okL_nz fok.1
  rw [ok]
  refine ⟨_,_,_,_,_,_,_,_,_,_,_,_,_,_,_,_,_,_,_,_,_,_,_,_,_,_,_,_,_,rfl,fun V18 l18=>(c_Start (fa.le (l17.trans l18)) fok sl ss (by omega)).mono ?_⟩
  rintro r V19 l19 ⟨a,rfl,a1,a2⟩
  obtain ⟨_,_,_,_,_,_,_,_,_,_,_,_,_,_,rfl⟩:=end_shape a1 a2
  refine ⟨_,_,_,_,_,_,_,_,_,_,_,_,_,_,_,rfl,fun V20 l20=>(c_End (fa.le (l17.trans (l18.trans (l19.trans l20)))) fok sl ss (by omega)).mono ?_⟩
  rintro r V21 l21 ⟨b,rfl,b1,b2⟩
  obtain ⟨_,_,_,_,_,_,_,_,_,_,_,_,_,_,rfl⟩:=end_shape b1 b2
  have L17_21:V17.Le V21:=l18.trans (l19.trans (l20.trans l21))
  refine ⟨_,_,_,_,_,_,_,_,_,_,_,_,_,_,_,rfl,fun V22 l22=>(c_Contains_raw (fa.le (l17.trans (L17_21.trans l22))) (hp0.le (l17.trans (L17_21.trans l22))) ho fok sl ss sx sy (by omega)).mono ?_⟩
  rintro r V23 l23 rfl
  refine ⟨_,_,rfl,fun V24 l24=>(c_Reverse (fa.le (l17.trans (L17_21.trans (l22.trans (l23.trans l24))))) fok sl ss (by omega)).mono ?_⟩
  rintro r V25 l25 ⟨back,rfl,gback⟩
  have gback0:=gback
  obtain ⟨_,_,_,_,_,_,_,_,_,_,_,_,_,_,_,_,_,_,_,_,_,_,_,_,_,_,rfl⟩:=fa_shape gback
  have L17_25:V17.Le V25:=L17_21.trans (l22.trans (l23.trans (l24.trans l25)))
  obtain ⟨_,_,_,_,_,_,_,_,_,_,_,_,_,_,_,_,_,_,_,_,_,_,_,_,_,_,ef,fl,fs⟩:=gx
  have ef':=congrArg Array.toList (Value.agg.inj ef)
  simp only [List.cons.injEq,Value.bool.injEq,Value.slice.injEq,and_true] at ef'
  obtain ⟨rfl,⟨rfl,rfl,rfl⟩,rfl,⟨rfl,rfl,rfl⟩,rfl,⟨rfl,rfl,rfl⟩,rfl,⟨rfl,rfl,rfl⟩,⟨rfl,rfl,rfl⟩,rfl,⟨rfl,rfl,rfl⟩,⟨rfl,rfl,rfl⟩,rfl,rfl⟩:=ef'
  clear ef
  have gf0:RF V17 _ f.ln f.sp:=⟨_,_,_,_,_,_,_,_,_,_,_,_,_,_,_,_,_,_,_,_,_,_,_,_,_,_,rfl,fl,fs⟩
  refine ⟨_,_,_,_,_,_,_,_,_,_,_,_,_,_,_,_,_,_,_,_,_,_,_,_,_,_,_,_,_,rfl,(by intro h; simp at h),fun _ V44 l44=>c_known7.mono ?_⟩
  rintro r V45 l45 rfl
  refine ⟨_,rfl,fun _ V46 l46=>(c_Valid_ok (fa.le (l17.trans (L17_25.trans (l44.trans (l45.trans l46))))) fok sl ss (by omega)).mono ?_,(fun h=>nomatch h)⟩
  rintro r V47 l47 rfl
  refine ⟨_,rfl,fun _=>⟨fun _=>⟨fun _=>⟨iface_nil,fun _ V48 l48=>(c_Pt_raw (hp0.le (l17.trans (L17_25.trans (l44.trans (l45.trans (l46.trans (l47.trans l48))))))) ho).mono ?_,(fun h=>nomatch h)⟩,(by intro h; simp at h)⟩,(by intro h; simp at h)⟩,(fun h=>nomatch h)⟩
  rintro r V49 l49 gp
  have gp0:=gp
  obtain ⟨_,_,_,_,_,_,_,_,_,_,_,_,_,_,rfl⟩:=rp_shape gp
  have L17_49:V17.Le V49:=L17_25.trans (l44.trans (l45.trans (l46.trans (l47.trans (l48.trans l49)))))
  refine ⟨_,_,_,_,_,_,_,_,_,_,_,_,_,_,rfl,fun V50 l50=>(c_ref06_Has (gf0.le (L17_49.trans l50)) (gp0.le l50) nz sl ss sx sy (by omega)).mono ?_⟩
  rintro r V51 l51 rfl
  refine ⟨_,rfl,fun _=>⟨iface_nil,fun _ V52 l52=>(c_ref06_Rev (gf0.le (L17_49.trans (l50.trans (l51.trans l52))))).mono ?_,(fun h=>nomatch h)⟩,(by intro h; simp at h)⟩
  rintro r V53 l53 gv
  have gv0:=gv
  obtain ⟨_,_,_,_,_,_,_,_,_,_,_,_,_,_,_,_,_,_,_,_,_,_,_,_,_,_,rfl⟩:=rf_shape gv
  refine ⟨_,_,_,_,_,_,_,_,_,_,_,_,_,_,_,_,_,_,_,_,_,_,_,_,_,_,_,_,rfl,fun V54 l54=>(c_same (gback0.le (l44.trans (l45.trans (l46.trans (l47.trans (l48.trans (l49.trans (l50.trans (l51.trans (l52.trans (l53.trans l54))))))))))) (gv0.le l54) sl.rev (Sp.neg_sz ss) (by omega)).mono ?_⟩
  rintro r V55 l55 rfl
  exact ⟨_,rfl,fun V56 l56=>rfl⟩
 ·have ok:f.ok=false:=by simpa using ok
  clear gx
  rw [ok]
  refine ⟨_,_,_,_,_,_,_,_,_,_,_,_,_,_,_,_,_,_,_,_,_,_,_,_,_,_,_,_,_,rfl,fun V18 l18=>(c_Start_bad (h0.le (l17.trans l18)) hf ok).mono ?_⟩
  rintro r V19 l19 ⟨a,rfl,rfl⟩
  refine ⟨_,_,_,_,_,_,_,_,_,_,_,_,_,_,_,rfl,fun V20 l20=>(c_End_bad (h0.le (l17.trans (l18.trans (l19.trans l20)))) hf ok).mono ?_⟩
  rintro r V21 l21 ⟨b,rfl,rfl⟩
  have L17_21:V17.Le V21:=l18.trans (l19.trans (l20.trans l21))
  refine ⟨_,_,_,_,_,_,_,_,_,_,_,_,_,_,_,rfl,fun V22 l22=>(c_Contains_bad (h0.le (l17.trans (L17_21.trans l22))) hf ok (hy.le (l17.trans (L17_21.trans l22))) (pw_shape hp0)).mono ?_⟩
  rintro r V23 l23 rfl
  refine ⟨_,_,rfl,fun V24 l24=>(c_Reverse_bad (h0.le (l17.trans (L17_21.trans (l22.trans (l23.trans l24))))) hf ok (hy.le (l17.trans (L17_21.trans (l22.trans (l23.trans l24)))))).mono ?_⟩
  rintro r V25 l25 ⟨back,rfl,rfl⟩
  have L25:V16.Le V25:=l17.trans (L17_21.trans (l22.trans (l23.trans (l24.trans l25))))
  refine ⟨_,_,_,_,_,_,_,_,_,_,_,_,_,_,_,_,_,_,_,_,_,_,_,_,_,_,_,_,_,rfl,fun _ V26 l26=>c_known7.mono ?_,(fun h=>nomatch h)⟩
  rintro r V27 l27 rfl
  refine ⟨_,rfl,fun _ V28 l28=>(c_Valid_bad (h0.le (L25.trans (l26.trans (l27.trans l28)))) hf ok).mono ?_,(fun h=>nomatch h)⟩
  rintro r V29 l29 rfl
  have L29:V16.Le V29:=L25.trans (l26.trans (l27.trans (l28.trans l29)))
  refine ⟨_,rfl,fun _=>⟨fun _=>⟨fun _=>⟨y,⟨_,rfl,hy.le L29⟩,fun V30 l30=>(c_errors_Is_same he).mono ?_⟩,(fun h=>nomatch h)⟩,(fun h=>nomatch h)⟩,(fun h=>nomatch h)⟩
  rintro r V31 l31 rfl
  refine ⟨_,rfl,fun _=>⟨y,⟨_,rfl,hy.le (L29.trans (l30.trans l31))⟩,fun V32 l32=>(c_errors_Is_same he).mono ?_⟩,(fun h=>nomatch h)⟩
  rintro r V33 l33 rfl
  refine ⟨_,rfl,fun _=>⟨fun _ V34 l34=>(c_same0 rfl).mono ?_,(fun h=>nomatch h)⟩,(fun h=>nomatch h)⟩
  rintro r V35 l35 rfl
  exact ⟨_,rfl,fun V36 l36=>rfl⟩
end Go.Proofs.Tryz
/- Arguments of package api as they came in: digits, numbers, points, lines, spans, fragments. -/
namespace Go.Proofs.YtalijajeenhebaaGreatDoor
open Go.ChangeShapes Go.WideShapes Go.ChangeAt Go.RowKit Go.Eng Go.Big Go.Proofs.Tryz
section
variable {H:Type} {enc:TypeId × Value->H} {W:World} {fuel:Nat}
theorem some_of {α:Type} {xs:List α} {i:Nat} {o:Option α} (h:o=xs[i]?) (hi:i < xs.length):∃y,o=some y:=⟨xs[i],by rw [h,List.getElem?_eq_getElem hi]⟩
theorem field_of {H:Type} {enc:TypeId × Value->H} {W:World} {fs:Array Field} {cs:List Value} {xs:List (DataW H × List MemPlace)} {m:Nat} (hf:∀(i:Nat) (f:Field),fs[i]?=some f->DataW.trod enc Tryz.prog W 0 (fun _=>true) true m f.type ((cs.drop f.offset).take (Tryz.prog.cellsOf f.type))=xs[i]?) (hl:xs.length=fs.size) (i:Nat) {f:Field} (hi:fs[i]?=some f) {n:Nat} (hn:Tryz.prog.cellsOf f.type=n) :
  ∃y,DataW.trod enc Tryz.prog W 0 (fun _=>true) true m f.type ((cs.drop f.offset).take n)=some y:=by
 have:=hf i f hi
 rw [hn] at this
 have lt:i < xs.length:=by
  rw [hl]
  exact (Array.getElem?_eq_some_iff.1 hi).1
 exact some_of this lt
set_option maxRecDepth 100000 in
theorem bool_of {c:Value} {y:DataW H × List MemPlace} (h:DataW.trod enc Tryz.prog W 0 (fun _=>true) true fuel 4 [c]=some y):∃b,c=.bool b:=by
 obtain ⟨b,e,-⟩:=DataW.trod_bool Tryz.underlying4 h
 exact ⟨b,by simpa using e⟩
set_option maxRecDepth 100000 in
theorem nat_of {c:Value} {y:DataW H × List MemPlace} (h:DataW.trod enc Tryz.prog W 0 (fun _=>true) true fuel 34 [c]=some y):∃p n k ds,c=.slice p n k/\RD (View.all W) p n k ds:=by
 rcases open_ints Tryz.underlying34 Tryz.underlying244 (show Tryz.prog.cellsOf 244=1 by kernel_rfl) h with ⟨e,-⟩ | ⟨a,len,cap,zs,e,_,hl,-,hz,-,hcell,hwf⟩
 ·exact ⟨none,0,0,[],by simpa using e,RD.nil⟩
 ·simp only [if_true] at hz
  have hd:∀z ∈ zs,0<=z/\z < 4294967296:=fun z hm=>by
   have:=hwf z hm
   simp only [Lit.wf,Bool.and_eq_true,decide_eq_true_eq] at this
   have h1:IntKind.min .u32=0:=by decide
   have h2:IntKind.max .u32=4294967295:=by decide
   rw [h1,h2] at this
   exact ⟨this.1,by omega⟩
  refine ⟨some a,len,cap,(zs.take len).map Int.toNat,by simpa using e,?_,hl,?_,?_,(fun h=>nomatch h)⟩
  ·simp; omega
  ·intro i v hv
   simp only [u32s,List.map_map,List.getElem?_map,Option.map_eq_some_iff] at hv
   obtain ⟨z,hz1,rfl⟩:=hv
   rw [List.getElem?_take] at hz1
   split at hz1
   ·rename_i hi
    have hi':i < zs.length:=by omega
    rw [List.getElem?_eq_getElem hi'] at hz1
    have hz1:=Option.some.inj hz1
    have:=hcell i hi'
    rw [List.getD_eq_getElem?_getD,List.getElem?_eq_getElem hi'] at this
    simp only [Option.getD_some] at this
    have hm:=hd _ (List.getElem_mem hi')
    refine ⟨a,rfl,fun h=>h,?_⟩
    show W.cell? (a.add i)=_
    rw [this,hz1]
    have:((z.toNat:Nat):Int)=z:=Int.toNat_of_nonneg (hz1 ▸ hm.1)
    simp only [Function.comp]
    rw [this]
   ·cases hz1
  ·intro d hm
   simp only [List.mem_map] at hm
   obtain ⟨z,hz1,rfl⟩:=hm
   have:=hd z (List.mem_of_mem_take hz1)
   omega
set_option maxRecDepth 100000 in
theorem int_of {c0 c1:Value} {y:DataW H × List MemPlace} (h:DataW.trod enc Tryz.prog W 0 (fun _=>true) true fuel 36 [c0,c1]=some y):∃b p n k ds,c0=.bool b/\c1=.slice p n k/\RD (View.all W) p n k ds:=by
 obtain ⟨xs,m,-,-,-,hl,hf⟩:=DataW.trod_struct Tryz.underlying36 h
 obtain ⟨y0,h0⟩:=field_of hf hl 0 rfl (show Tryz.prog.cellsOf 4=1 by kernel_rfl)
 obtain ⟨y1,h1⟩:=field_of hf hl 1 rfl (show Tryz.prog.cellsOf 34=1 by kernel_rfl)
 obtain ⟨b,rfl⟩:=bool_of h0
 obtain ⟨p,n,k,ds,rfl,hd⟩:=nat_of h1
 exact ⟨b,p,n,k,ds,rfl,rfl,hd⟩
set_option maxRecDepth 100000 in
theorem rat_of {c0 c1 c2:Value} {y:DataW H × List MemPlace} (h:DataW.trod enc Tryz.prog W 0 (fun _=>true) true fuel 40 [c0,c1,c2]=some y):∃b xs ys,RRw (View.all W) (.agg #[c0,c1,c2]) b xs ys/\∃p n k p' n' k',c0=.bool b/\c1=.slice p n k/\c2=.slice p' n' k':=by
 obtain ⟨xs,m,-,-,-,hl,hf⟩:=DataW.trod_struct Tryz.underlying40 h
 obtain ⟨y0,h0⟩:=field_of hf hl 0 rfl (show Tryz.prog.cellsOf 36=2 by kernel_rfl)
 obtain ⟨y1,h1⟩:=field_of hf hl 1 rfl (show Tryz.prog.cellsOf 34=1 by kernel_rfl)
 obtain ⟨b,p,n,k,ds,rfl,rfl,hd⟩:=int_of h0
 obtain ⟨p',n',k',ds',rfl,hd'⟩:=nat_of h1
 exact ⟨b,ds,ds',⟨_,_,_,_,_,_,rfl,hd,hd'⟩,_,_,_,_,_,_,rfl,rfl,rfl⟩
set_option maxRecDepth 100000 in
theorem line_of {c0 c1 c2 c3 c4 c5:Value} {y:DataW H × List MemPlace} (h:DataW.trod enc Tryz.prog W 0 (fun _=>true) true fuel 38 [c0,c1,c2,c3,c4,c5]=some y):∃b1 xs b2 ys b3 zs,RLw (View.all W) (.agg #[c0,c1,c2,c3,c4,c5]) b1 xs b2 ys b3 zs/\∃p n k p' n' k' p2 n2 k2,c0=.bool b1/\c1=.slice p n k/\c2=.bool b2/\c3=.slice p' n' k'/\c4=.bool b3/\c5=.slice p2 n2 k2:=by
 obtain ⟨xs,m,-,-,-,hl,hf⟩:=DataW.trod_struct Tryz.underlying38 h
 obtain ⟨y0,h0⟩:=field_of hf hl 0 rfl (show Tryz.prog.cellsOf 36=2 by kernel_rfl)
 obtain ⟨y1,h1⟩:=field_of hf hl 1 rfl (show Tryz.prog.cellsOf 36=2 by kernel_rfl)
 obtain ⟨y2,h2⟩:=field_of hf hl 2 rfl (show Tryz.prog.cellsOf 36=2 by kernel_rfl)
 obtain ⟨b1,p1,n1,k1,d1,rfl,rfl,g1⟩:=int_of h0
 obtain ⟨b2,p2,n2,k2,d2,rfl,rfl,g2⟩:=int_of h1
 obtain ⟨b3,p3,n3,k3,d3,rfl,rfl,g3⟩:=int_of h2
 exact ⟨b1,d1,b2,d2,b3,d3,⟨_,_,_,_,_,_,_,_,_,rfl,g1,g2,g3⟩,_,_,_,_,_,_,_,_,_,rfl,rfl,rfl,rfl,rfl,rfl⟩
set_option maxRecDepth 100000 in
theorem span_of {c0 c1 c2 c3 c4 c5 c6 c7:Value} {y:DataW H × List MemPlace} (h:DataW.trod enc Tryz.prog W 0 (fun _=>true) true fuel 42 [c0,c1,c2,c3,c4,c5,c6,c7]=some y):∃b1 us vs b2 ws ts na nb,RSw (View.all W) (.agg #[c0,c1,c2,c3,c4,c5,c6,c7]) b1 us vs b2 ws ts na nb/\∃p n k p' n' k' p2 n2 k2 p3 n3 k3,c0=.bool b1/\c1=.slice p n k/\c2=.slice p' n' k'/\c3=.bool b2/\c4=.slice p2 n2 k2/\c5=.slice p3 n3 k3/\c6=.bool na/\c7=.bool nb:=by
 obtain ⟨xs,m,-,-,-,hl,hf⟩:=DataW.trod_struct Tryz.underlying42 h
 obtain ⟨y0,h0⟩:=field_of hf hl 0 rfl (show Tryz.prog.cellsOf 40=3 by kernel_rfl)
 obtain ⟨y1,h1⟩:=field_of hf hl 1 rfl (show Tryz.prog.cellsOf 40=3 by kernel_rfl)
 obtain ⟨y2,h2⟩:=field_of hf hl 2 rfl (show Tryz.prog.cellsOf 4=1 by kernel_rfl)
 obtain ⟨y3,h3⟩:=field_of hf hl 3 rfl (show Tryz.prog.cellsOf 4=1 by kernel_rfl)
 obtain ⟨b1,d1,e1,g1,_,_,_,_,_,_,rfl,rfl,rfl⟩:=rat_of h0
 obtain ⟨b2,d2,e2,g2,_,_,_,_,_,_,rfl,rfl,rfl⟩:=rat_of h1
 obtain ⟨na,rfl⟩:=bool_of h2
 obtain ⟨nb,rfl⟩:=bool_of h3
 exact ⟨b1,d1,e1,b2,d2,e2,na,nb,⟨_,_,_,_,_,_,_,_,_,_,_,_,rfl,g1,g2⟩,_,_,_,_,_,_,_,_,_,_,_,_,rfl,rfl,rfl,rfl,rfl,rfl,rfl,rfl⟩
set_option maxRecDepth 100000 in
theorem frag_of {c0 c1 c2 c3 c4 c5 c6 c7 c8 c9 c10 c11 c12 c13:Value} {y:DataW H × List MemPlace} (h:DataW.trod enc Tryz.prog W 0 (fun _=>true) true fuel 44 [c0,c1,c2,c3,c4,c5,c6,c7,c8,c9,c10,c11,c12,c13]=some y):∃f:FW,RFw (View.all W) (.agg #[c0,c1,c2,c3,c4,c5,c6,c7,c8,c9,c10,c11,c12,c13]) f:=by
 obtain ⟨xs,m,-,-,-,hl,hf⟩:=DataW.trod_struct Tryz.underlying44 h
 obtain ⟨y0,h0⟩:=field_of hf hl 0 rfl (show Tryz.prog.cellsOf 38=6 by kernel_rfl)
 obtain ⟨y1,h1⟩:=field_of hf hl 1 rfl (show Tryz.prog.cellsOf 42=8 by kernel_rfl)
 obtain ⟨b1,xs,b2,ys,b3,zs,g1,_,_,_,_,_,_,_,_,_,rfl,rfl,rfl,rfl,rfl,rfl⟩:=line_of h0
 obtain ⟨c1,us,vs,c2,ws,ts,na,nb,g2,_,_,_,_,_,_,_,_,_,_,_,_,rfl,rfl,rfl,rfl,rfl,rfl,rfl,rfl⟩:=span_of h1
 exact ⟨⟨b1,xs,b2,ys,b3,zs,c1,us,vs,c2,ws,ts,na,nb⟩,_,_,_,_,_,_,_,_,_,_,_,_,_,_,_,_,_,_,_,_,_,rfl,g1,g2⟩
set_option maxRecDepth 100000 in
theorem point_of {c0 c1 c2 c3 c4 c5:Value} {y:DataW H × List MemPlace} (h:DataW.trod enc Tryz.prog W 0 (fun _=>true) true fuel 48 [c0,c1,c2,c3,c4,c5]=some y):∃f:PW,RPw (View.all W) (.agg #[c0,c1,c2,c3,c4,c5]) f:=by
 obtain ⟨xs,m,-,-,-,hl,hf⟩:=DataW.trod_struct Tryz.underlying48 h
 obtain ⟨y0,h0⟩:=field_of hf hl 0 rfl (show Tryz.prog.cellsOf 40=3 by kernel_rfl)
 obtain ⟨y1,h1⟩:=field_of hf hl 1 rfl (show Tryz.prog.cellsOf 40=3 by kernel_rfl)
 obtain ⟨b1,d1,e1,g1,_,_,_,_,_,_,rfl,rfl,rfl⟩:=rat_of h0
 obtain ⟨b2,d2,e2,g2,_,_,_,_,_,_,rfl,rfl,rfl⟩:=rat_of h1
 exact ⟨⟨b1,d1,e1,b2,d2,e2⟩,_,_,_,_,_,_,_,_,_,_,_,_,rfl,g1,g2⟩
end
theorem cons_of {α:Type} {l:List α} {n:Nat} (h:l.length=n + 1):∃a r,l=a :: r/\r.length=n:=by
 cases l with
 | nil=>simp at h
 | cons a r=>exact ⟨a,r,rfl,by simpa using h⟩
set_option maxRecDepth 100000 in
theorem fragment_arg {H:Type} {enc:TypeId × Value->H} {W:World} {r:Reach} {b0:Nat} {v:Value} {d:DataW H} {p:List MemPlace} (hv:Value.okWide Tryz.prog W r b0 44 v) (h:DataW.Trod enc Tryz.prog W 0 (fun _=>true) true 44 v d p):∃f:FW,RFw (View.all W) v f:=by
 obtain ⟨⟨cs⟩,rfl,hsz⟩:=okWide_struct Tryz.underlying44 hv
 have hsz:cs.length=14:=hsz.trans (by kernel_rfl)
 obtain ⟨c0,r0,rfl,z0⟩:=cons_of hsz
 obtain ⟨c1,r1,rfl,z1⟩:=cons_of z0
 obtain ⟨c2,r2,rfl,z2⟩:=cons_of z1
 obtain ⟨c3,r3,rfl,z3⟩:=cons_of z2
 obtain ⟨c4,r4,rfl,z4⟩:=cons_of z3
 obtain ⟨c5,r5,rfl,z5⟩:=cons_of z4
 obtain ⟨c6,r6,rfl,z6⟩:=cons_of z5
 obtain ⟨c7,r7,rfl,z7⟩:=cons_of z6
 obtain ⟨c8,r8,rfl,z8⟩:=cons_of z7
 obtain ⟨c9,r9,rfl,z9⟩:=cons_of z8
 obtain ⟨c10,r10,rfl,z10⟩:=cons_of z9
 obtain ⟨c11,r11,rfl,z11⟩:=cons_of z10
 obtain ⟨c12,r12,rfl,z12⟩:=cons_of z11
 obtain ⟨c13,r13,rfl,z13⟩:=cons_of z12
 obtain rfl:=List.length_eq_zero_iff.1 z13
 obtain ⟨fuel,hf⟩:=h
 exact frag_of hf
set_option maxRecDepth 100000 in
theorem point_arg {H:Type} {enc:TypeId × Value->H} {W:World} {r:Reach} {b0:Nat} {v:Value} {d:DataW H} {p:List MemPlace} (hv:Value.okWide Tryz.prog W r b0 48 v) (h:DataW.Trod enc Tryz.prog W 0 (fun _=>true) true 48 v d p):∃f:PW,RPw (View.all W) v f:=by
 obtain ⟨⟨cs⟩,rfl,hsz⟩:=okWide_struct Tryz.underlying48 hv
 have hsz:cs.length=6:=hsz.trans (by kernel_rfl)
 obtain ⟨c0,r0,rfl,z0⟩:=cons_of hsz
 obtain ⟨c1,r1,rfl,z1⟩:=cons_of z0
 obtain ⟨c2,r2,rfl,z2⟩:=cons_of z1
 obtain ⟨c3,r3,rfl,z3⟩:=cons_of z2
 obtain ⟨c4,r4,rfl,z4⟩:=cons_of z3
 obtain ⟨c5,r5,rfl,z5⟩:=cons_of z4
 obtain rfl:=List.length_eq_zero_iff.1 z5
 obtain ⟨fuel,hf⟩:=h
 exact point_of hf
end Go.Proofs.YtalijajeenhebaaGreatDoor
