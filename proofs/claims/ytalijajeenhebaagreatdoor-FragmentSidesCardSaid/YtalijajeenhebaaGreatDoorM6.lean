/- A part of the proof (joined by program from: VNat, Big, Rep, NatA, NatB, NatC, VBits). -/
import Derived.Test.YtalijajeenhebaaGreatDoorM5
import Derived.WalkKit
import Derived.IntWalk
set_option linter.unusedVariables false
open Go.IntKind (i64 u64 u32)
/- By program: the conditions of the functions, from their loaded code. -/
namespace Go.Proofs.Tryz
open Go.Eng
set_option maxRecDepth 100000
theorem vc_nat_trim (ap:OA) (an ac:Nat) (V:View) (R:Value->View->Prop)
  (h:(∃(I1_:((OA) × Nat × Nat)->View->Prop) (m2_:((OA) × Nat × Nat)->Nat),(∃z3_:(OA) × Nat × Nat,(((ap:OA)=z3_.1)/\((an:Nat)=z3_.2.1)/\((ac:Nat)=z3_.2.2))/\I1_ z3_ V)/\∀(z4_:(OA) × Nat × Nat) (V1:View),V.Le V1->I1_ z4_ V1->(true=true/\(((decide (((z4_.2.1:Nat):Int) > (0:Int)))=true->(z4_.1.isSome=true)/\(0<=(i64.wrap (((z4_.2.1:Nat):Int) - (1:Int)))/\(i64.wrap (((z4_.2.1:Nat):Int) - (1:Int))) < ((z4_.2.1:Nat):Int))/\(∃x5_,(∃a6_,addrAdd z4_.1 (((i64.wrap (((z4_.2.1:Nat):Int) - (1:Int))).toNat) * 1)=some a6_/\V1.at a6_ (.int .u32 x5_))/\(((x5_ == (0:Int))=true->(0<=(i64.wrap (((z4_.2.1:Nat):Int) - (1:Int)))/\(i64.wrap (((z4_.2.1:Nat):Int) - (1:Int)))<=((z4_.2.2:Nat):Int))/\(∃z7_:(OA) × Nat × Nat,m2_ z7_ < m2_ z4_/\(((z4_.1:OA)=z7_.1)/\(((i64.wrap (((z4_.2.1:Nat):Int) - (1:Int))).toNat:Nat)=z7_.2.1)/\((z4_.2.2:Nat)=z7_.2.2))/\I1_ z7_ V1))/\((x5_ == (0:Int))=false->(∀V2,V1.Le V2->R (.slice z4_.1 z4_.2.1 z4_.2.2) V2)))))/\((decide (((z4_.2.1:Nat):Int) > (0:Int)))=false->(∀V3,V1.Le V3->R (.slice z4_.1 z4_.2.1 z4_.2.2) V3)))))) :
  Acts prog 217 #[.slice ap an ac] V R:=
 fn_does (LF:=LF0) (RF:=[1000007]) (β0:=(fun _=>0)) tab_ok mixed [(1,{ τ:=(OA) × Nat × Nat,keep:=[],keepB:=[],slots:=fun z=>[(0,.c (.v (.slice z.1 z.2.1 z.2.2)))],boxes:=fun z=>[] })] [] func217 (by kernel_rfl)
  [(0,.c (.v (.slice ap an ac)))]
  [] (by kernel_rfl) trivial h (by kernel_rfl)
theorem vc_nat_Norm (ap:OA) (an ac:Nat) (V:View) (R:Value->View->Prop)
  (h:(∀V1,V.Le V1->Acts prog 217 #[.slice ap an ac] V1 fun r1_ V2=>∃p1_ n1_ c1_,r1_=.slice p1_ n1_ c1_/\(∀V3,V2.Le V3->Acts prog 221 #[.slice p1_ n1_ c1_] V3 fun r3_ V4=>∃p2_ n2_ c2_,r3_=.slice p2_ n2_ c2_/\(∀V5,V4.Le V5->R (.slice p2_ n2_ c2_) V5)))) :
  Acts prog 206 #[.slice ap an ac] V R:=
 fn_does (LF:=LF0) (RF:=[1000007]) (β0:=(fun _=>0)) tab_ok mixed [] [] func206 (by kernel_rfl)
  [(0,.c (.v (.slice ap an ac)))]
  [] (by kernel_rfl) trivial h (by kernel_rfl)
theorem vc_nat_Normal (ap:OA) (an ac:Nat) (V:View) (R:Value->View->Prop)
  (h:(((((an:Nat):Int) == (0:Int))=true->(∀V1,V.Le V1->R (.bool true) V1))/\((((an:Nat):Int) == (0:Int))=false->(ap.isSome=true)/\(0<=(i64.wrap (((an:Nat):Int) - (1:Int)))/\(i64.wrap (((an:Nat):Int) - (1:Int))) < ((an:Nat):Int))/\(∃x1_,(∃a2_,addrAdd ap (((i64.wrap (((an:Nat):Int) - (1:Int))).toNat) * 1)=some a2_/\V.at a2_ (.int .u32 x1_))/\(∀V2,V.Le V2->R (.bool (x1_ != (0:Int))) V2))))) :
  Acts prog 191 #[.slice ap an ac] V R:=
 fn_does (LF:=LF0) (RF:=[1000007]) (β0:=(fun _=>0)) tab_ok mixed [] [] func191 (by kernel_rfl)
  [(0,.c (.v (.slice ap an ac)))]
  [] (by kernel_rfl) trivial h (by kernel_rfl)
theorem vc_nat_FromUint (u:Int) (V:View) (R:Value->View->Prop)
  (h:(0<=(32:Int))/\(∀V1,V.Le V1->∀bk1_:Nat,(V1.blk bk1_ (.cells #[.int .u32 (u32.wrap u),.int .u32 (u32.wrap (u.fdiv (2 ^ 32)))] 244 (0,0)))->Acts prog 217 #[.slice (some ⟨bk1_,0,none⟩) 2 2] V1 fun r1_ V2=>∃p2_ n2_ c2_,r1_=.slice p2_ n2_ c2_/\∀J3_:C->Value,(∀V3,V2.Le V3->R (.slice p2_ n2_ c2_) V3))) :
  Acts prog 210 #[.int .u64 u] V R:=
 fn_does (LF:=LF0) (RF:=[1000007]) (β0:=(fun _=>0)) tab_ok mixed [] [] func210 (by kernel_rfl)
  [(0,.c (.v (.int .u64 u)))]
  [] (by kernel_rfl) trivial h (by kernel_rfl)
theorem vc_nat_Uint (ap:OA) (an ac:Nat) (V:View) (R:Value->View->Prop)
  (h:(∀V1,V.Le V1->Acts prog 217 #[.slice ap an ac] V1 fun r1_ V2=>∃p1_ n1_ c1_,r1_=.slice p1_ n1_ c1_/\(((decide (((n1_:Nat):Int) > (2:Int)))=true->(∀V3,V2.Le V3->R (.tuple #[.int .u64 0,.bool false]) V3))/\((decide (((n1_:Nat):Int) > (2:Int)))=false->(∃(I2_:(Int × Int)->View->Prop) (m3_:(Int × Int)->Nat),(∃z4_:Int × Int,(sm p1_/\sm n1_/\sm c1_/\sm ((n1_:Nat):Int)/\((0:Int)=z4_.1)/\((0:Int)=z4_.2))/\I2_ z4_ V2)/\∀(z5_:Int × Int) (V4:View),V2.Le V4->I2_ z5_ V4->(true=true/\(((decide (z5_.2 < ((n1_:Nat):Int)))=true->(p1_.isSome=true)/\(0<=z5_.2/\z5_.2 < ((n1_:Nat):Int))/\(∃x6_,(∃a7_,addrAdd p1_ (z5_.2.toNat * 1)=some a7_/\V4.at a7_ (.int .u32 x6_))/\(0<=(i64.wrap ((32:Int) * z5_.2)))/\(∃z8_:Int × Int,m3_ z8_ < m3_ z5_/\(sm p1_/\sm n1_/\sm c1_/\sm ((n1_:Nat):Int)/\((bitI .or .u64 z5_.1 (u64.wrap ((u64.wrap x6_) * 2 ^ (min (i64.wrap ((32:Int) * z5_.2)).toNat IntKind.u64.bits))))=z8_.1)/\((i64.wrap (z5_.2 + (1:Int)))=z8_.2))/\I2_ z8_ V4)))/\((decide (z5_.2 < ((n1_:Nat):Int)))=false->(∀V5,V4.Le V5->R (.tuple #[.int .u64 z5_.1,.bool true]) V5))))))))) :
  Acts prog 204 #[.slice ap an ac] V R:=
 fn_does (LF:=LF0) (RF:=[1000007]) (β0:=(fun _=>0)) tab_ok mixed [(6,{ τ:=Int × Int,keep:=[12,13],keepB:=[],slots:=fun z=>[(4,.c (.v (.int .u64 z.1))),(14,.c (.v (.int .i64 z.2)))],boxes:=fun z=>[] })] [] func204 (by kernel_rfl)
  [(0,.c (.v (.slice ap an ac)))]
  [] (by kernel_rfl) trivial h (by kernel_rfl)
theorem vc_nat_Cmp (ap:OA) (an ac:Nat) (bp:OA) (bn bc:Nat) (V:View) (R:Value->View->Prop)
  (h:(∀V1,V.Le V1->Acts prog 217 #[.slice ap an ac] V1 fun r1_ V2=>∃p1_ n1_ c1_,r1_=.slice p1_ n1_ c1_/\(∀V3,V2.Le V3->Acts prog 217 #[.slice bp bn bc] V3 fun r3_ V4=>∃p2_ n2_ c2_,r3_=.slice p2_ n2_ c2_/\(((((n1_:Nat):Int) != ((n2_:Nat):Int))=true->(((decide (((n1_:Nat):Int) < ((n2_:Nat):Int)))=true->(∀V5,V4.Le V5->R (.int .i64 (-1)) V5))/\((decide (((n1_:Nat):Int) < ((n2_:Nat):Int)))=false->(∀V6,V4.Le V6->R (.int .i64 1) V6))))/\((((n1_:Nat):Int) != ((n2_:Nat):Int))=false->(∃(I3_:Int->View->Prop) (m4_:Int->Nat),(∃z5_:Int,(sm p1_/\sm n1_/\sm c1_/\sm p2_/\sm n2_/\sm c2_/\((i64.wrap (((n1_:Nat):Int) - (1:Int)))=z5_))/\I3_ z5_ V4)/\∀(z6_:Int) (V7:View),V4.Le V7->I3_ z6_ V7->(true=true/\(((decide (z6_ ≥ (0:Int)))=true->(p1_.isSome=true)/\(0<=z6_/\z6_ < ((n1_:Nat):Int))/\(∃x7_,(∃a8_,addrAdd p1_ (z6_.toNat * 1)=some a8_/\V7.at a8_ (.int .u32 x7_))/\(p2_.isSome=true)/\(0<=z6_/\z6_ < ((n2_:Nat):Int))/\(∃x9_,(∃a10_,addrAdd p2_ (z6_.toNat * 1)=some a10_/\V7.at a10_ (.int .u32 x9_))/\(((decide (x7_ < x9_))=true->(∀V8,V7.Le V8->R (.int .i64 (-1)) V8))/\((decide (x7_ < x9_))=false->(p1_.isSome=true)/\(0<=z6_/\z6_ < ((n1_:Nat):Int))/\(∃x11_,(∃a12_,addrAdd p1_ (z6_.toNat * 1)=some a12_/\V7.at a12_ (.int .u32 x11_))/\(p2_.isSome=true)/\(0<=z6_/\z6_ < ((n2_:Nat):Int))/\(∃x13_,(∃a14_,addrAdd p2_ (z6_.toNat * 1)=some a14_/\V7.at a14_ (.int .u32 x13_))/\(((decide (x11_ > x13_))=true->(∀V9,V7.Le V9->R (.int .i64 1) V9))/\((decide (x11_ > x13_))=false->(∃z15_:Int,m4_ z15_ < m4_ z6_/\(sm p1_/\sm n1_/\sm c1_/\sm p2_/\sm n2_/\sm c2_/\((i64.wrap (z6_ - (1:Int)))=z15_))/\I3_ z15_ V7))))))))))/\((decide (z6_ ≥ (0:Int)))=false->(∀V10,V7.Le V10->R (.int .i64 0) V10)))))))))) :
  Acts prog 220 #[.slice ap an ac,.slice bp bn bc] V R:=
 fn_does (LF:=LF0) (RF:=[1000007]) (β0:=(fun _=>0)) tab_ok mixed [(7,{ τ:=Int,keep:=[0,1],keepB:=[],slots:=fun z=>[(5,.c (.v (.int .i64 z)))],boxes:=fun z=>[] })] [] func220 (by kernel_rfl)
  [(0,.c (.v (.slice ap an ac))),(1,.c (.v (.slice bp bn bc)))]
  [] (by kernel_rfl) trivial h (by kernel_rfl)
theorem vc_nat_Add (ap:OA) (an ac:Nat) (bp:OA) (bn bc:Nat) (V:View) (R:Value->View->Prop)
  (h:(∃I1_:((OA) × Nat × Nat × (OA) × Nat × Nat)->View->Prop,(((decide (((an:Nat):Int) < ((bn:Nat):Int)))=true->(∃z2_:(OA) × Nat × Nat × (OA) × Nat × Nat,(((bp:OA)=z2_.1)/\((bn:Nat)=z2_.2.1)/\((bc:Nat)=z2_.2.2.1)/\((ap:OA)=z2_.2.2.2.1)/\((an:Nat)=z2_.2.2.2.2.1)/\((ac:Nat)=z2_.2.2.2.2.2))/\I1_ z2_ V))/\((decide (((an:Nat):Int) < ((bn:Nat):Int)))=false->(∃z3_:(OA) × Nat × Nat × (OA) × Nat × Nat,(((ap:OA)=z3_.1)/\((an:Nat)=z3_.2.1)/\((ac:Nat)=z3_.2.2.1)/\((bp:OA)=z3_.2.2.2.1)/\((bn:Nat)=z3_.2.2.2.2.1)/\((bc:Nat)=z3_.2.2.2.2.2))/\I1_ z3_ V)))/\∀(z4_:(OA) × Nat × Nat × (OA) × Nat × Nat) (V1:View),V.Le V1->I1_ z4_ V1->(true=true/\(0<=i64.wrap (((z4_.2.1:Nat):Int) + (1:Int)))/\(i64.wrap (((z4_.2.1:Nat):Int) + (1:Int))<=i64.wrap (((z4_.2.1:Nat):Int) + (1:Int)))/\(((4:Nat):Int) * (i64.wrap (((z4_.2.1:Nat):Int) + (1:Int)))<=140737488355328)/\(∃(I5_:(Int × Int × (List Value))->View->Prop) (m6_:(Int × Int × (List Value))->Nat),(∃z7_:Int × Int × (List Value),(((z4_.1:OA)=z4_.1)/\((z4_.2.1:Nat)=z4_.2.1)/\((z4_.2.2.1:Nat)=z4_.2.2.1)/\((z4_.2.2.2.1:OA)=z4_.2.2.2.1)/\((z4_.2.2.2.2.1:Nat)=z4_.2.2.2.2.1)/\((z4_.2.2.2.2.2:Nat)=z4_.2.2.2.2.2)/\sm 0/\(((i64.wrap (((z4_.2.1:Nat):Int) + (1:Int))).toNat:Nat)=(i64.wrap (((z4_.2.1:Nat):Int) + (1:Int))).toNat)/\(((i64.wrap (((z4_.2.1:Nat):Int) + (1:Int))).toNat:Nat)=(i64.wrap (((z4_.2.1:Nat):Int) + (1:Int))).toNat)/\((z4_.1:OA)=z4_.1)/\((z4_.2.1:Nat)=z4_.2.1)/\((z4_.2.2.1:Nat)=z4_.2.2.1)/\(((z4_.2.1:Nat):Int)=((z4_.2.1:Nat):Int))/\((0:Int)=z7_.1)/\((0:Int)=z7_.2.1)/\((List.replicate ((i64.wrap (((z4_.2.1:Nat):Int) + (1:Int))).toNat) (.int .u32 0))=z7_.2.2))/\I5_ z7_ V1)/\∀(z8_:Int × Int × (List Value)) (V2:View),V1.Le V2->I5_ z8_ V2->(true=true/\(((decide (z8_.2.1 < ((z4_.2.1:Nat):Int)))=true->(z4_.1.isSome=true)/\(0<=z8_.2.1/\z8_.2.1 < ((z4_.2.1:Nat):Int))/\(∃x9_,(∃a10_,addrAdd z4_.1 (z8_.2.1.toNat * 1)=some a10_/\V2.at a10_ (.int .u32 x9_))/\(((decide (z8_.2.1 < ((z4_.2.2.2.2.1:Nat):Int)))=true->(z4_.2.2.2.1.isSome=true)/\(0<=z8_.2.1/\z8_.2.1 < ((z4_.2.2.2.2.1:Nat):Int))/\(∃x11_,(∃a12_,addrAdd z4_.2.2.2.1 (z8_.2.1.toNat * 1)=some a12_/\V2.at a12_ (.int .u32 x11_))/\(0<=z8_.2.1/\z8_.2.1 < (((i64.wrap (((z4_.2.1:Nat):Int) + (1:Int))).toNat:Nat):Int))/\((0 + (z8_.2.1.toNat * 1)) + 1<=z8_.2.2.length)/\(0<=(32:Int))/\(∃z13_:Int × Int × (List Value),m6_ z13_ < m6_ z8_/\(((z4_.1:OA)=z4_.1)/\((z4_.2.1:Nat)=z4_.2.1)/\((z4_.2.2.1:Nat)=z4_.2.2.1)/\((z4_.2.2.2.1:OA)=z4_.2.2.2.1)/\((z4_.2.2.2.2.1:Nat)=z4_.2.2.2.2.1)/\((z4_.2.2.2.2.2:Nat)=z4_.2.2.2.2.2)/\sm 0/\(((i64.wrap (((z4_.2.1:Nat):Int) + (1:Int))).toNat:Nat)=(i64.wrap (((z4_.2.1:Nat):Int) + (1:Int))).toNat)/\(((i64.wrap (((z4_.2.1:Nat):Int) + (1:Int))).toNat:Nat)=(i64.wrap (((z4_.2.1:Nat):Int) + (1:Int))).toNat)/\((z4_.1:OA)=z4_.1)/\((z4_.2.1:Nat)=z4_.2.1)/\((z4_.2.2.1:Nat)=z4_.2.2.1)/\(((z4_.2.1:Nat):Int)=((z4_.2.1:Nat):Int))/\(((u64.wrap ((u64.wrap (z8_.1 + (u64.wrap x9_))) + (u64.wrap x11_))).fdiv (2 ^ 32))=z13_.1)/\((i64.wrap (z8_.2.1 + (1:Int)))=z13_.2.1)/\((z8_.2.2.set (0 + (z8_.2.1.toNat * 1)) (.int .u32 (u32.wrap (u64.wrap ((u64.wrap (z8_.1 + (u64.wrap x9_))) + (u64.wrap x11_))))))=z13_.2.2))/\I5_ z13_ V2)))/\((decide (z8_.2.1 < ((z4_.2.2.2.2.1:Nat):Int)))=false->(0<=z8_.2.1/\z8_.2.1 < (((i64.wrap (((z4_.2.1:Nat):Int) + (1:Int))).toNat:Nat):Int))/\((0 + (z8_.2.1.toNat * 1)) + 1<=z8_.2.2.length)/\(0<=(32:Int))/\(∃z14_:Int × Int × (List Value),m6_ z14_ < m6_ z8_/\(((z4_.1:OA)=z4_.1)/\((z4_.2.1:Nat)=z4_.2.1)/\((z4_.2.2.1:Nat)=z4_.2.2.1)/\((z4_.2.2.2.1:OA)=z4_.2.2.2.1)/\((z4_.2.2.2.2.1:Nat)=z4_.2.2.2.2.1)/\((z4_.2.2.2.2.2:Nat)=z4_.2.2.2.2.2)/\sm 0/\(((i64.wrap (((z4_.2.1:Nat):Int) + (1:Int))).toNat:Nat)=(i64.wrap (((z4_.2.1:Nat):Int) + (1:Int))).toNat)/\(((i64.wrap (((z4_.2.1:Nat):Int) + (1:Int))).toNat:Nat)=(i64.wrap (((z4_.2.1:Nat):Int) + (1:Int))).toNat)/\((z4_.1:OA)=z4_.1)/\((z4_.2.1:Nat)=z4_.2.1)/\((z4_.2.2.1:Nat)=z4_.2.2.1)/\(((z4_.2.1:Nat):Int)=((z4_.2.1:Nat):Int))/\(((u64.wrap (z8_.1 + (u64.wrap x9_))).fdiv (2 ^ 32))=z14_.1)/\((i64.wrap (z8_.2.1 + (1:Int)))=z14_.2.1)/\((z8_.2.2.set (0 + (z8_.2.1.toNat * 1)) (.int .u32 (u32.wrap (u64.wrap (z8_.1 + (u64.wrap x9_))))))=z14_.2.2))/\I5_ z14_ V2)))))/\((decide (z8_.2.1 < ((z4_.2.1:Nat):Int)))=false->(0<=((z4_.2.1:Nat):Int)/\((z4_.2.1:Nat):Int) < (((i64.wrap (((z4_.2.1:Nat):Int) + (1:Int))).toNat:Nat):Int))/\((0 + ((((z4_.2.1:Nat):Int).toNat) * 1)) + 1<=z8_.2.2.length)/\(∀V3,V2.Le V3->∀bk15_:Nat,(V3.blk bk15_ (.cells (z8_.2.2.set (0 + ((((z4_.2.1:Nat):Int).toNat) * 1)) (.int .u32 (u32.wrap (z8_.1)))).toArray 244 (0,0)))->Acts prog 217 #[.slice (some ⟨bk15_,0,none⟩) ((i64.wrap (((z4_.2.1:Nat):Int) + (1:Int))).toNat) ((i64.wrap (((z4_.2.1:Nat):Int) + (1:Int))).toNat)] V3 fun r3_ V4=>∃p16_ n16_ c16_,r3_=.slice p16_ n16_ c16_/\∀J17_:C->Value,(∀V5,V4.Le V5->R (.slice p16_ n16_ c16_) V5))))))))) :
  Acts prog 229 #[.slice ap an ac,.slice bp bn bc] V R:=
 fn_does (LF:=LF0) (RF:=[1000007]) (β0:=(fun _=>0)) tab_ok mixed [(6,{ τ:=Int × Int × (List Value),keep:=[0,1,5,20,21],keepB:=[],slots:=fun z=>[(6,.c (.v (.int .u64 z.1))),(22,.c (.v (.int .i64 z.2.1)))],boxes:=fun z=>[(19,⟨.row z.2.2,244⟩)] })] [(2,{ τ:=(OA) × Nat × Nat × (OA) × Nat × Nat,keep:=[],keepB:=[],slots:=fun z=>[(0,.c (.v (.slice z.1 z.2.1 z.2.2.1))),(1,.c (.v (.slice z.2.2.2.1 z.2.2.2.2.1 z.2.2.2.2.2)))],boxes:=fun z=>[] })] func229 (by kernel_rfl)
  [(0,.c (.v (.slice ap an ac))),(1,.c (.v (.slice bp bn bc)))]
  [] (by kernel_rfl) trivial h (by kernel_rfl)
theorem vc_nat_less (ap:OA) (an ac:Nat) (bp:OA) (bn bc:Nat) (V:View) (R:Value->View->Prop)
  (h:(0<=((an:Nat):Int))/\(((an:Nat):Int)<=((an:Nat):Int))/\(((4:Nat):Int) * ((an:Nat):Int)<=140737488355328)/\(∃(I1_:(Int × Int × (List Value))->View->Prop) (m2_:(Int × Int × (List Value))->Nat),(∃z3_:Int × Int × (List Value),(sm bp/\sm bn/\sm bc/\sm 0/\((((an:Nat):Int).toNat:Nat)=((an:Nat):Int).toNat)/\((((an:Nat):Int).toNat:Nat)=((an:Nat):Int).toNat)/\sm ap/\sm an/\sm ac/\sm ((an:Nat):Int)/\((0:Int)=z3_.1)/\((0:Int)=z3_.2.1)/\((List.replicate (((an:Nat):Int).toNat) (.int .u32 0))=z3_.2.2))/\I1_ z3_ V)/\∀(z4_:Int × Int × (List Value)) (V1:View),V.Le V1->I1_ z4_ V1->(true=true/\(((decide (z4_.2.1 < ((an:Nat):Int)))=true->(ap.isSome=true)/\(0<=z4_.2.1/\z4_.2.1 < ((an:Nat):Int))/\(∃x5_,(∃a6_,addrAdd ap (z4_.2.1.toNat * 1)=some a6_/\V1.at a6_ (.int .u32 x5_))/\(∃I7_:Int->View->Prop,(((decide (z4_.2.1 < ((bn:Nat):Int)))=true->(bp.isSome=true)/\(0<=z4_.2.1/\z4_.2.1 < ((bn:Nat):Int))/\(∃x8_,(∃a9_,addrAdd bp (z4_.2.1.toNat * 1)=some a9_/\V1.at a9_ (.int .u32 x8_))/\(∃z10_:Int,(sm bp/\sm bn/\sm bc/\sm 0/\((((an:Nat):Int).toNat:Nat)=((an:Nat):Int).toNat)/\((((an:Nat):Int).toNat:Nat)=((an:Nat):Int).toNat)/\sm z4_.2.1/\sm x5_/\sm ap/\sm an/\sm ac/\sm ((an:Nat):Int)/\sm z4_.2.1/\((u64.wrap (z4_.1 + (u64.wrap x8_)))=z10_)/\sm z4_.2.2)/\I7_ z10_ V1)))/\((decide (z4_.2.1 < ((bn:Nat):Int)))=false->(∃z11_:Int,(sm bp/\sm bn/\sm bc/\sm 0/\((((an:Nat):Int).toNat:Nat)=((an:Nat):Int).toNat)/\((((an:Nat):Int).toNat:Nat)=((an:Nat):Int).toNat)/\sm z4_.2.1/\sm x5_/\sm ap/\sm an/\sm ac/\sm ((an:Nat):Int)/\sm z4_.2.1/\(z4_.1=z11_)/\sm z4_.2.2)/\I7_ z11_ V1)))/\∀(z12_:Int) (V2:View),V1.Le V2->I7_ z12_ V2->(true=true/\(0<=z4_.2.1/\z4_.2.1 < ((((an:Nat):Int).toNat:Nat):Int))/\((0 + (z4_.2.1.toNat * 1)) + 1<=z4_.2.2.length)/\(0<=(63:Int))/\(∃z13_:Int × Int × (List Value),m2_ z13_ < m2_ z4_/\(sm bp/\sm bn/\sm bc/\sm 0/\((((an:Nat):Int).toNat:Nat)=((an:Nat):Int).toNat)/\((((an:Nat):Int).toNat:Nat)=((an:Nat):Int).toNat)/\sm ap/\sm an/\sm ac/\sm ((an:Nat):Int)/\(((u64.wrap ((u64.wrap x5_) - z12_)).fdiv (2 ^ 63))=z13_.1)/\((i64.wrap (z4_.2.1 + (1:Int)))=z13_.2.1)/\((z4_.2.2.set (0 + (z4_.2.1.toNat * 1)) (.int .u32 (u32.wrap (u64.wrap ((u64.wrap x5_) - z12_)))))=z13_.2.2))/\I1_ z13_ V2)))))/\((decide (z4_.2.1 < ((an:Nat):Int)))=false->(∀V3,V1.Le V3->∀bk14_:Nat,(V3.blk bk14_ (.cells z4_.2.2.toArray 244 (0,0)))->Acts prog 217 #[.slice (some ⟨bk14_,0,none⟩) (((an:Nat):Int).toNat) (((an:Nat):Int).toNat)] V3 fun r3_ V4=>∃p15_ n15_ c15_,r3_=.slice p15_ n15_ c15_/\∀J16_:C->Value,(∀V5,V4.Le V5->R (.slice p15_ n15_ c15_) V5))))))) :
  Acts prog 234 #[.slice ap an ac,.slice bp bn bc] V R:=
 fn_does (LF:=LF0) (RF:=[1000007]) (β0:=(fun _=>0)) tab_ok mixed [(4,{ τ:=Int × Int × (List Value),keep:=[1,5,14,15],keepB:=[],slots:=fun z=>[(6,.c (.v (.int .u64 z.1))),(16,.c (.v (.int .i64 z.2.1)))],boxes:=fun z=>[(13,⟨.row z.2.2,244⟩)] })] [(8,{ τ:=Int,keep:=[1,5,7,8,14,15,16],keepB:=[13],slots:=fun z=>[(9,.c (.v (.int .u64 z)))],boxes:=fun z=>[] })] func234 (by kernel_rfl)
  [(0,.c (.v (.slice ap an ac))),(1,.c (.v (.slice bp bn bc)))]
  [] (by kernel_rfl) trivial h (by kernel_rfl)
theorem vc_nat_Sub (ap:OA) (an ac:Nat) (bp:OA) (bn bc:Nat) (V:View) (R:Value->View->Prop)
  (h:(∀V1,V.Le V1->Acts prog 220 #[.slice ap an ac,.slice bp bn bc] V1 fun r1_ V2=>∃x1_,r1_=.int .i64 x1_/\(((decide (x1_ < (0:Int)))=true->(∀V3,V2.Le V3->R (.tuple #[.slice none 0 0,.bool false]) V3))/\((decide (x1_ < (0:Int)))=false->(∀V4,V2.Le V4->Acts prog 217 #[.slice ap an ac] V4 fun r4_ V5=>∃p2_ n2_ c2_,r4_=.slice p2_ n2_ c2_/\(∀V6,V5.Le V6->Acts prog 217 #[.slice bp bn bc] V6 fun r6_ V7=>∃p3_ n3_ c3_,r6_=.slice p3_ n3_ c3_/\(∀V8,V7.Le V8->Acts prog 234 #[.slice p2_ n2_ c2_,.slice p3_ n3_ c3_] V8 fun r8_ V9=>∃p4_ n4_ c4_,r8_=.slice p4_ n4_ c4_/\(∀V10,V9.Le V10->R (.tuple #[.slice p4_ n4_ c4_,.bool true]) V10)))))))) :
  Acts prog 230 #[.slice ap an ac,.slice bp bn bc] V R:=
 fn_does (LF:=LF0) (RF:=[1000007]) (β0:=(fun _=>0)) tab_ok mixed [] [] func230 (by kernel_rfl)
  [(0,.c (.v (.slice ap an ac))),(1,.c (.v (.slice bp bn bc)))]
  [] (by kernel_rfl) trivial h (by kernel_rfl)
theorem vc_nat_Mul (ap:OA) (an ac:Nat) (bp:OA) (bn bc:Nat) (V:View) (R:Value->View->Prop)
  (h:(∀V1,V.Le V1->Acts prog 217 #[.slice ap an ac] V1 fun r1_ V2=>∃p1_ n1_ c1_,r1_=.slice p1_ n1_ c1_/\(∀V3,V2.Le V3->Acts prog 217 #[.slice bp bn bc] V3 fun r3_ V4=>∃p2_ n2_ c2_,r3_=.slice p2_ n2_ c2_/\(0<=i64.wrap (((n1_:Nat):Int) + ((n2_:Nat):Int)))/\(i64.wrap (((n1_:Nat):Int) + ((n2_:Nat):Int))<=i64.wrap (((n1_:Nat):Int) + ((n2_:Nat):Int)))/\(((4:Nat):Int) * (i64.wrap (((n1_:Nat):Int) + ((n2_:Nat):Int)))<=140737488355328)/\(∃(I3_:(Int × (List Value))->View->Prop) (m4_:(Int × (List Value))->Nat),(∃z5_:Int × (List Value),(sm p2_/\sm n2_/\sm c2_/\sm 0/\(((i64.wrap (((n1_:Nat):Int) + ((n2_:Nat):Int))).toNat:Nat)=(i64.wrap (((n1_:Nat):Int) + ((n2_:Nat):Int))).toNat)/\(((i64.wrap (((n1_:Nat):Int) + ((n2_:Nat):Int))).toNat:Nat)=(i64.wrap (((n1_:Nat):Int) + ((n2_:Nat):Int))).toNat)/\sm p1_/\sm n1_/\sm c1_/\sm ((n1_:Nat):Int)/\((0:Int)=z5_.1)/\((List.replicate ((i64.wrap (((n1_:Nat):Int) + ((n2_:Nat):Int))).toNat) (.int .u32 0))=z5_.2))/\I3_ z5_ V4)/\∀(z6_:Int × (List Value)) (V5:View),V4.Le V5->I3_ z6_ V5->(true=true/\(((decide (z6_.1 < ((n1_:Nat):Int)))=true->(p1_.isSome=true)/\(0<=z6_.1/\z6_.1 < ((n1_:Nat):Int))/\(∃x7_,(∃a8_,addrAdd p1_ (z6_.1.toNat * 1)=some a8_/\V5.at a8_ (.int .u32 x7_))/\(∃(I9_:(Int × Int × (List Value))->View->Prop) (m10_:(Int × Int × (List Value))->Nat),(∃z11_:Int × Int × (List Value),(sm p2_/\sm n2_/\sm c2_/\sm 0/\(((i64.wrap (((n1_:Nat):Int) + ((n2_:Nat):Int))).toNat:Nat)=(i64.wrap (((n1_:Nat):Int) + ((n2_:Nat):Int))).toNat)/\(((i64.wrap (((n1_:Nat):Int) + ((n2_:Nat):Int))).toNat:Nat)=(i64.wrap (((n1_:Nat):Int) + ((n2_:Nat):Int))).toNat)/\sm z6_.1/\sm x7_/\sm p1_/\sm n1_/\sm c1_/\sm ((n1_:Nat):Int)/\sm z6_.1/\sm p2_/\sm n2_/\sm c2_/\sm ((n2_:Nat):Int)/\((0:Int)=z11_.1)/\((0:Int)=z11_.2.1)/\(z6_.2=z11_.2.2))/\I9_ z11_ V5)/\∀(z12_:Int × Int × (List Value)) (V6:View),V5.Le V6->I9_ z12_ V6->(true=true/\(((decide (z12_.2.1 < ((n2_:Nat):Int)))=true->(p2_.isSome=true)/\(0<=z12_.2.1/\z12_.2.1 < ((n2_:Nat):Int))/\(∃x13_,(∃a14_,addrAdd p2_ (z12_.2.1.toNat * 1)=some a14_/\V6.at a14_ (.int .u32 x13_))/\(0<=(i64.wrap (z6_.1 + z12_.2.1))/\(i64.wrap (z6_.1 + z12_.2.1)) < (((i64.wrap (((n1_:Nat):Int) + ((n2_:Nat):Int))).toNat:Nat):Int))/\(∃x15_,z12_.2.2[0 + (((i64.wrap (z6_.1 + z12_.2.1)).toNat) * 1)]?=some (.int .u32 x15_)/\(0<=(i64.wrap (z6_.1 + z12_.2.1))/\(i64.wrap (z6_.1 + z12_.2.1)) < (((i64.wrap (((n1_:Nat):Int) + ((n2_:Nat):Int))).toNat:Nat):Int))/\((0 + (((i64.wrap (z6_.1 + z12_.2.1)).toNat) * 1)) + 1<=z12_.2.2.length)/\(0<=(32:Int))/\(∃z16_:Int × Int × (List Value),m10_ z16_ < m10_ z12_/\(sm p2_/\sm n2_/\sm c2_/\sm 0/\(((i64.wrap (((n1_:Nat):Int) + ((n2_:Nat):Int))).toNat:Nat)=(i64.wrap (((n1_:Nat):Int) + ((n2_:Nat):Int))).toNat)/\(((i64.wrap (((n1_:Nat):Int) + ((n2_:Nat):Int))).toNat:Nat)=(i64.wrap (((n1_:Nat):Int) + ((n2_:Nat):Int))).toNat)/\sm z6_.1/\sm x7_/\sm p1_/\sm n1_/\sm c1_/\sm ((n1_:Nat):Int)/\sm z6_.1/\sm p2_/\sm n2_/\sm c2_/\sm ((n2_:Nat):Int)/\(((u64.wrap (z12_.1 + (u64.wrap ((u64.wrap ((u64.wrap x7_) * (u64.wrap x13_))) + (u64.wrap x15_))))).fdiv (2 ^ 32))=z16_.1)/\((i64.wrap (z12_.2.1 + (1:Int)))=z16_.2.1)/\((z12_.2.2.set (0 + (((i64.wrap (z6_.1 + z12_.2.1)).toNat) * 1)) (.int .u32 (u32.wrap (u64.wrap (z12_.1 + (u64.wrap ((u64.wrap ((u64.wrap x7_) * (u64.wrap x13_))) + (u64.wrap x15_))))))))=z16_.2.2))/\I9_ z16_ V6))))/\((decide (z12_.2.1 < ((n2_:Nat):Int)))=false->(0<=(i64.wrap (z6_.1 + ((n2_:Nat):Int)))/\(i64.wrap (z6_.1 + ((n2_:Nat):Int))) < (((i64.wrap (((n1_:Nat):Int) + ((n2_:Nat):Int))).toNat:Nat):Int))/\((0 + (((i64.wrap (z6_.1 + ((n2_:Nat):Int))).toNat) * 1)) + 1<=z12_.2.2.length)/\(∃z17_:Int × (List Value),m4_ z17_ < m4_ z6_/\(sm p2_/\sm n2_/\sm c2_/\sm 0/\(((i64.wrap (((n1_:Nat):Int) + ((n2_:Nat):Int))).toNat:Nat)=(i64.wrap (((n1_:Nat):Int) + ((n2_:Nat):Int))).toNat)/\(((i64.wrap (((n1_:Nat):Int) + ((n2_:Nat):Int))).toNat:Nat)=(i64.wrap (((n1_:Nat):Int) + ((n2_:Nat):Int))).toNat)/\sm p1_/\sm n1_/\sm c1_/\sm ((n1_:Nat):Int)/\((i64.wrap (z6_.1 + (1:Int)))=z17_.1)/\((z12_.2.2.set (0 + (((i64.wrap (z6_.1 + ((n2_:Nat):Int))).toNat) * 1)) (.int .u32 (u32.wrap (z12_.1))))=z17_.2))/\I3_ z17_ V6)))))))/\((decide (z6_.1 < ((n1_:Nat):Int)))=false->(∀V7,V5.Le V7->∀bk18_:Nat,(V7.blk bk18_ (.cells z6_.2.toArray 244 (0,0)))->Acts prog 217 #[.slice (some ⟨bk18_,0,none⟩) ((i64.wrap (((n1_:Nat):Int) + ((n2_:Nat):Int))).toNat) ((i64.wrap (((n1_:Nat):Int) + ((n2_:Nat):Int))).toNat)] V7 fun r7_ V8=>∃p19_ n19_ c19_,r7_=.slice p19_ n19_ c19_/\∀J20_:C->Value,(∀V9,V8.Le V9->R (.slice p19_ n19_ c19_) V9))))))))) :
  Acts prog 194 #[.slice ap an ac,.slice bp bn bc] V R:=
 fn_does (LF:=LF0) (RF:=[1000007]) (β0:=(fun _=>0)) tab_ok mixed [(4,{ τ:=Int × (List Value),keep:=[1,5,21,22],keepB:=[],slots:=fun z=>[(23,.c (.v (.int .i64 z.1)))],boxes:=fun z=>[(20,⟨.row z.2,244⟩)] }),(8,{ τ:=Int × Int × (List Value),keep:=[1,5,6,7,21,22,23,28,29],keepB:=[],slots:=fun z=>[(8,.c (.v (.int .u64 z.1))),(30,.c (.v (.int .i64 z.2.1)))],boxes:=fun z=>[(20,⟨.row z.2.2,244⟩)] })] [] func194 (by kernel_rfl)
  [(0,.c (.v (.slice ap an ac))),(1,.c (.v (.slice bp bn bc)))]
  [] (by kernel_rfl) trivial h (by kernel_rfl)
theorem vc_nat_short (ap:OA) (an ac:Nat) (d:Int) (V:View) (R:Value->View->Prop)
  (h:(0<=((an:Nat):Int))/\(((an:Nat):Int)<=((an:Nat):Int))/\(((4:Nat):Int) * ((an:Nat):Int)<=140737488355328)/\(∃(I1_:(Int × Int × (List Value))->View->Prop) (m2_:(Int × Int × (List Value))->Nat),(∃z3_:Int × Int × (List Value),(sm ap/\sm an/\sm ac/\(d=d)/\sm 0/\((((an:Nat):Int).toNat:Nat)=((an:Nat):Int).toNat)/\((((an:Nat):Int).toNat:Nat)=((an:Nat):Int).toNat)/\((0:Int)=z3_.1)/\((i64.wrap (((an:Nat):Int) - (1:Int)))=z3_.2.1)/\((List.replicate (((an:Nat):Int).toNat) (.int .u32 0))=z3_.2.2))/\I1_ z3_ V)/\∀(z4_:Int × Int × (List Value)) (V1:View),V.Le V1->I1_ z4_ V1->(true=true/\(((decide (z4_.2.1 ≥ (0:Int)))=true->(0<=(32:Int))/\(ap.isSome=true)/\(0<=z4_.2.1/\z4_.2.1 < ((an:Nat):Int))/\(∃x5_,(∃a6_,addrAdd ap (z4_.2.1.toNat * 1)=some a6_/\V1.at a6_ (.int .u32 x5_))/\((u64.wrap d)≠0)/\(0<=z4_.2.1/\z4_.2.1 < ((((an:Nat):Int).toNat:Nat):Int))/\((0 + (z4_.2.1.toNat * 1)) + 1<=z4_.2.2.length)/\((u64.wrap d)≠0)/\(∃z7_:Int × Int × (List Value),m2_ z7_ < m2_ z4_/\(sm ap/\sm an/\sm ac/\(d=d)/\sm 0/\((((an:Nat):Int).toNat:Nat)=((an:Nat):Int).toNat)/\((((an:Nat):Int).toNat:Nat)=((an:Nat):Int).toNat)/\(((bitI .or .u64 (u64.wrap (z4_.1 * 2 ^ 32)) (u64.wrap x5_)).tmod (u64.wrap d))=z7_.1)/\((i64.wrap (z4_.2.1 - (1:Int)))=z7_.2.1)/\((z4_.2.2.set (0 + (z4_.2.1.toNat * 1)) (.int .u32 (u32.wrap (u64.wrap ((bitI .or .u64 (u64.wrap (z4_.1 * 2 ^ 32)) (u64.wrap x5_)).tdiv (u64.wrap d))))))=z7_.2.2))/\I1_ z7_ V1)))/\((decide (z4_.2.1 ≥ (0:Int)))=false->(∀V2,V1.Le V2->∀bk8_:Nat,(V2.blk bk8_ (.cells z4_.2.2.toArray 244 (0,0)))->Acts prog 217 #[.slice (some ⟨bk8_,0,none⟩) (((an:Nat):Int).toNat) (((an:Nat):Int).toNat)] V2 fun r2_ V3=>∃p9_ n9_ c9_,r2_=.slice p9_ n9_ c9_/\∀J10_:C->Value,(∀V4,V3.Le V4->R (.tuple #[.slice p9_ n9_ c9_,.int .u32 (u32.wrap (z4_.1))]) V4))))))) :
  Acts prog 222 #[.slice ap an ac,.int .u32 d] V R:=
 fn_does (LF:=LF0) (RF:=[1000007]) (β0:=(fun _=>0)) tab_ok mixed [(4,{ τ:=Int × Int × (List Value),keep:=[0,1,6],keepB:=[],slots:=fun z=>[(7,.c (.v (.int .u64 z.1))),(8,.c (.v (.int .i64 z.2.1)))],boxes:=fun z=>[(12,⟨.row z.2.2,244⟩)] })] [] func222 (by kernel_rfl)
  [(0,.c (.v (.slice ap an ac))),(1,.c (.v (.int .u32 d)))]
  [] (by kernel_rfl) trivial h (by kernel_rfl)
theorem vc_nat_DivMod (ap:OA) (an ac:Nat) (bp:OA) (bn bc:Nat) (V:View) (R:Value->View->Prop)
  (h:(∀V1,V.Le V1->Acts prog 217 #[.slice ap an ac] V1 fun r1_ V2=>∃p1_ n1_ c1_,r1_=.slice p1_ n1_ c1_/\(∀V3,V2.Le V3->Acts prog 217 #[.slice bp bn bc] V3 fun r3_ V4=>∃p2_ n2_ c2_,r3_=.slice p2_ n2_ c2_/\(((((n2_:Nat):Int) == (0:Int))=true->(∀V5,V4.Le V5->R (.tuple #[.slice none 0 0,.slice none 0 0,.bool false]) V5))/\((((n2_:Nat):Int) == (0:Int))=false->(∀V6,V4.Le V6->Acts prog 220 #[.slice p1_ n1_ c1_,.slice p2_ n2_ c2_] V6 fun r6_ V7=>∃x3_,r6_=.int .i64 x3_/\(((decide (x3_ < (0:Int)))=true->(∀V8,V7.Le V8->Acts prog 221 #[.slice p1_ n1_ c1_] V8 fun r8_ V9=>∃p4_ n4_ c4_,r8_=.slice p4_ n4_ c4_/\(∀V10,V9.Le V10->R (.tuple #[.slice none 0 0,.slice p4_ n4_ c4_,.bool true]) V10)))/\((decide (x3_ < (0:Int)))=false->(((((n2_:Nat):Int) == (1:Int))=true->(p2_.isSome=true)/\(0<=(0:Int)/\(0:Int) < ((n2_:Nat):Int))/\(∃x5_,(∃a6_,addrAdd p2_ 0=some a6_/\V7.at a6_ (.int .u32 x5_))/\(∀V11,V7.Le V11->Acts prog 222 #[.slice p1_ n1_ c1_,.int .u32 x5_] V11 fun r11_ V12=>∃p7_ n7_ c7_,∃x8_,r11_=.tuple #[.slice p7_ n7_ c7_,.int .u32 x8_]/\(∀V13,V12.Le V13->Acts prog 210 #[.int .u64 (u64.wrap x8_)] V13 fun r13_ V14=>∃p9_ n9_ c9_,r13_=.slice p9_ n9_ c9_/\(∀V15,V14.Le V15->R (.tuple #[.slice p7_ n7_ c7_,.slice p9_ n9_ c9_,.bool true]) V15)))))/\((((n2_:Nat):Int) == (1:Int))=false->(∀V16,V7.Le V16->Acts prog 223 #[.slice p1_ n1_ c1_,.slice p2_ n2_ c2_] V16 fun r16_ V17=>∃p10_ n10_ c10_,∃p11_ n11_ c11_,r16_=.tuple #[.slice p10_ n10_ c10_,.slice p11_ n11_ c11_]/\(∀V18,V17.Le V18->R (.tuple #[.slice p10_ n10_ c10_,.slice p11_ n11_ c11_,.bool true]) V18)))))))))))) :
  Acts prog 202 #[.slice ap an ac,.slice bp bn bc] V R:=
 fn_does (LF:=LF0) (RF:=[1000007]) (β0:=(fun _=>0)) tab_ok mixed [] [] func202 (by kernel_rfl)
  [(0,.c (.v (.slice ap an ac))),(1,.c (.v (.slice bp bn bc)))]
  [] (by kernel_rfl) trivial h (by kernel_rfl)
theorem vc_nat_Shl (ap:OA) (an ac:Nat) (k:Int) (V:View) (R:Value->View->Prop)
  (h:(∀V1,V.Le V1->Acts prog 217 #[.slice ap an ac] V1 fun r1_ V2=>∃p1_ n1_ c1_,r1_=.slice p1_ n1_ c1_/\(((((n1_:Nat):Int) == (0:Int))=true->(∀V3,V2.Le V3->R (.slice none 0 0) V3))/\((((n1_:Nat):Int) == (0:Int))=false->((32:Int)≠0)/\((32:Int)≠0)/\(0<=i64.wrap ((i64.wrap (((n1_:Nat):Int) + (i64.wrap (u64.wrap ((minI k (1048576)).tdiv (32:Int)))))) + (1:Int)))/\(i64.wrap ((i64.wrap (((n1_:Nat):Int) + (i64.wrap (u64.wrap ((minI k (1048576)).tdiv (32:Int)))))) + (1:Int))<=i64.wrap ((i64.wrap (((n1_:Nat):Int) + (i64.wrap (u64.wrap ((minI k (1048576)).tdiv (32:Int)))))) + (1:Int)))/\(((4:Nat):Int) * (i64.wrap ((i64.wrap (((n1_:Nat):Int) + (i64.wrap (u64.wrap ((minI k (1048576)).tdiv (32:Int)))))) + (1:Int)))<=140737488355328)/\(∃(I2_:(Int × (List Value))->View->Prop) (m3_:(Int × (List Value))->Nat),(∃z4_:Int × (List Value),(((i64.wrap (u64.wrap ((minI k (1048576)).tdiv (32:Int))))=(i64.wrap (u64.wrap ((minI k (1048576)).tdiv (32:Int)))))/\(((minI k (1048576)).tmod (32:Int))=((minI k (1048576)).tmod (32:Int)))/\sm 0/\(((i64.wrap ((i64.wrap (((n1_:Nat):Int) + (i64.wrap (u64.wrap ((minI k (1048576)).tdiv (32:Int)))))) + (1:Int))).toNat:Nat)=(i64.wrap ((i64.wrap (((n1_:Nat):Int) + (i64.wrap (u64.wrap ((minI k (1048576)).tdiv (32:Int)))))) + (1:Int))).toNat)/\(((i64.wrap ((i64.wrap (((n1_:Nat):Int) + (i64.wrap (u64.wrap ((minI k (1048576)).tdiv (32:Int)))))) + (1:Int))).toNat:Nat)=(i64.wrap ((i64.wrap (((n1_:Nat):Int) + (i64.wrap (u64.wrap ((minI k (1048576)).tdiv (32:Int)))))) + (1:Int))).toNat)/\sm p1_/\sm n1_/\sm c1_/\sm ((n1_:Nat):Int)/\((0:Int)=z4_.1)/\((List.replicate ((i64.wrap ((i64.wrap (((n1_:Nat):Int) + (i64.wrap (u64.wrap ((minI k (1048576)).tdiv (32:Int)))))) + (1:Int))).toNat) (.int .u32 0))=z4_.2))/\I2_ z4_ V2)/\∀(z5_:Int × (List Value)) (V4:View),V2.Le V4->I2_ z5_ V4->(true=true/\(((decide (z5_.1 < ((n1_:Nat):Int)))=true->(p1_.isSome=true)/\(0<=z5_.1/\z5_.1 < ((n1_:Nat):Int))/\(∃x6_,(∃a7_,addrAdd p1_ (z5_.1.toNat * 1)=some a7_/\V4.at a7_ (.int .u32 x6_))/\(0<=((minI k (1048576)).tmod (32:Int)))/\(0<=(i64.wrap (z5_.1 + (i64.wrap (u64.wrap ((minI k (1048576)).tdiv (32:Int))))))/\(i64.wrap (z5_.1 + (i64.wrap (u64.wrap ((minI k (1048576)).tdiv (32:Int)))))) < (((i64.wrap ((i64.wrap (((n1_:Nat):Int) + (i64.wrap (u64.wrap ((minI k (1048576)).tdiv (32:Int)))))) + (1:Int))).toNat:Nat):Int))/\(∃x8_,z5_.2[0 + (((i64.wrap (z5_.1 + (i64.wrap (u64.wrap ((minI k (1048576)).tdiv (32:Int)))))).toNat) * 1)]?=some (.int .u32 x8_)/\(0<=(i64.wrap (z5_.1 + (i64.wrap (u64.wrap ((minI k (1048576)).tdiv (32:Int))))))/\(i64.wrap (z5_.1 + (i64.wrap (u64.wrap ((minI k (1048576)).tdiv (32:Int)))))) < (((i64.wrap ((i64.wrap (((n1_:Nat):Int) + (i64.wrap (u64.wrap ((minI k (1048576)).tdiv (32:Int)))))) + (1:Int))).toNat:Nat):Int))/\((0 + (((i64.wrap (z5_.1 + (i64.wrap (u64.wrap ((minI k (1048576)).tdiv (32:Int)))))).toNat) * 1)) + 1<=z5_.2.length)/\(0<=(32:Int))/\(0<=(i64.wrap ((i64.wrap (z5_.1 + (i64.wrap (u64.wrap ((minI k (1048576)).tdiv (32:Int)))))) + (1:Int)))/\(i64.wrap ((i64.wrap (z5_.1 + (i64.wrap (u64.wrap ((minI k (1048576)).tdiv (32:Int)))))) + (1:Int))) < (((i64.wrap ((i64.wrap (((n1_:Nat):Int) + (i64.wrap (u64.wrap ((minI k (1048576)).tdiv (32:Int)))))) + (1:Int))).toNat:Nat):Int))/\((0 + (((i64.wrap ((i64.wrap (z5_.1 + (i64.wrap (u64.wrap ((minI k (1048576)).tdiv (32:Int)))))) + (1:Int))).toNat) * 1)) + 1<=(z5_.2.set (0 + (((i64.wrap (z5_.1 + (i64.wrap (u64.wrap ((minI k (1048576)).tdiv (32:Int)))))).toNat) * 1)) (.int .u32 (bitI .or .u32 x8_ (u32.wrap (u64.wrap ((u64.wrap x6_) * 2 ^ (min ((minI k (1048576)).tmod (32:Int)).toNat IntKind.u64.bits))))))).length)/\(∃z9_:Int × (List Value),m3_ z9_ < m3_ z5_/\(((i64.wrap (u64.wrap ((minI k (1048576)).tdiv (32:Int))))=(i64.wrap (u64.wrap ((minI k (1048576)).tdiv (32:Int)))))/\(((minI k (1048576)).tmod (32:Int))=((minI k (1048576)).tmod (32:Int)))/\sm 0/\(((i64.wrap ((i64.wrap (((n1_:Nat):Int) + (i64.wrap (u64.wrap ((minI k (1048576)).tdiv (32:Int)))))) + (1:Int))).toNat:Nat)=(i64.wrap ((i64.wrap (((n1_:Nat):Int) + (i64.wrap (u64.wrap ((minI k (1048576)).tdiv (32:Int)))))) + (1:Int))).toNat)/\(((i64.wrap ((i64.wrap (((n1_:Nat):Int) + (i64.wrap (u64.wrap ((minI k (1048576)).tdiv (32:Int)))))) + (1:Int))).toNat:Nat)=(i64.wrap ((i64.wrap (((n1_:Nat):Int) + (i64.wrap (u64.wrap ((minI k (1048576)).tdiv (32:Int)))))) + (1:Int))).toNat)/\sm p1_/\sm n1_/\sm c1_/\sm ((n1_:Nat):Int)/\((i64.wrap (z5_.1 + (1:Int)))=z9_.1)/\(((z5_.2.set (0 + (((i64.wrap (z5_.1 + (i64.wrap (u64.wrap ((minI k (1048576)).tdiv (32:Int)))))).toNat) * 1)) (.int .u32 (bitI .or .u32 x8_ (u32.wrap (u64.wrap ((u64.wrap x6_) * 2 ^ (min ((minI k (1048576)).tmod (32:Int)).toNat IntKind.u64.bits))))))).set (0 + (((i64.wrap ((i64.wrap (z5_.1 + (i64.wrap (u64.wrap ((minI k (1048576)).tdiv (32:Int)))))) + (1:Int))).toNat) * 1)) (.int .u32 (u32.wrap ((u64.wrap ((u64.wrap x6_) * 2 ^ (min ((minI k (1048576)).tmod (32:Int)).toNat IntKind.u64.bits))).fdiv (2 ^ 32)))))=z9_.2))/\I2_ z9_ V4))))/\((decide (z5_.1 < ((n1_:Nat):Int)))=false->(∀V5,V4.Le V5->∀bk10_:Nat,(V5.blk bk10_ (.cells z5_.2.toArray 244 (0,0)))->Acts prog 217 #[.slice (some ⟨bk10_,0,none⟩) ((i64.wrap ((i64.wrap (((n1_:Nat):Int) + (i64.wrap (u64.wrap ((minI k (1048576)).tdiv (32:Int)))))) + (1:Int))).toNat) ((i64.wrap ((i64.wrap (((n1_:Nat):Int) + (i64.wrap (u64.wrap ((minI k (1048576)).tdiv (32:Int)))))) + (1:Int))).toNat)] V5 fun r5_ V6=>∃p11_ n11_ c11_,r5_=.slice p11_ n11_ c11_/\∀J12_:C->Value,(∀V7,V6.Le V7->R (.slice p11_ n11_ c11_) V7)))))))))) :
  Acts prog 232 #[.slice ap an ac,.int .u64 k] V R:=
 fn_does (LF:=LF0) (RF:=[1000007]) (β0:=(fun _=>0)) tab_ok mixed [(7,{ τ:=Int × (List Value),keep:=[5,6,7,29,30],keepB:=[],slots:=fun z=>[(31,.c (.v (.int .i64 z.1)))],boxes:=fun z=>[(28,⟨.row z.2,244⟩)] })] [] func232 (by kernel_rfl)
  [(0,.c (.v (.slice ap an ac))),(1,.c (.v (.int .u64 k)))]
  [] (by kernel_rfl) trivial h (by kernel_rfl)
theorem vc_nat_Shr (ap:OA) (an ac:Nat) (k:Int) (V:View) (R:Value->View->Prop)
  (h:(∀V1,V.Le V1->Acts prog 217 #[.slice ap an ac] V1 fun r1_ V2=>∃p1_ n1_ c1_,r1_=.slice p1_ n1_ c1_/\((32:Int)≠0)/\(((decide ((u64.wrap (k.tdiv (32:Int))) ≥ (u64.wrap (((n1_:Nat):Int)))))=true->(∀V3,V2.Le V3->R (.slice none 0 0) V3))/\((decide ((u64.wrap (k.tdiv (32:Int))) ≥ (u64.wrap (((n1_:Nat):Int)))))=false->((32:Int)≠0)/\((32:Int)≠0)/\(0<=i64.wrap (((n1_:Nat):Int) - (i64.wrap (u64.wrap (k.tdiv (32:Int))))))/\(i64.wrap (((n1_:Nat):Int) - (i64.wrap (u64.wrap (k.tdiv (32:Int)))))<=i64.wrap (((n1_:Nat):Int) - (i64.wrap (u64.wrap (k.tdiv (32:Int))))))/\(((4:Nat):Int) * (i64.wrap (((n1_:Nat):Int) - (i64.wrap (u64.wrap (k.tdiv (32:Int))))))<=140737488355328)/\(∃(I2_:(Int × (List Value))->View->Prop) (m3_:(Int × (List Value))->Nat),(∃z4_:Int × (List Value),(sm p1_/\sm n1_/\sm c1_/\((i64.wrap (u64.wrap (k.tdiv (32:Int))))=(i64.wrap (u64.wrap (k.tdiv (32:Int)))))/\((k.tmod (32:Int))=(k.tmod (32:Int)))/\sm 0/\(((i64.wrap (((n1_:Nat):Int) - (i64.wrap (u64.wrap (k.tdiv (32:Int)))))).toNat:Nat)=(i64.wrap (((n1_:Nat):Int) - (i64.wrap (u64.wrap (k.tdiv (32:Int)))))).toNat)/\(((i64.wrap (((n1_:Nat):Int) - (i64.wrap (u64.wrap (k.tdiv (32:Int)))))).toNat:Nat)=(i64.wrap (((n1_:Nat):Int) - (i64.wrap (u64.wrap (k.tdiv (32:Int)))))).toNat)/\((((i64.wrap (((n1_:Nat):Int) - (i64.wrap (u64.wrap (k.tdiv (32:Int)))))).toNat:Nat):Int)=(((i64.wrap (((n1_:Nat):Int) - (i64.wrap (u64.wrap (k.tdiv (32:Int)))))).toNat:Nat):Int))/\((0:Int)=z4_.1)/\((List.replicate ((i64.wrap (((n1_:Nat):Int) - (i64.wrap (u64.wrap (k.tdiv (32:Int)))))).toNat) (.int .u32 0))=z4_.2))/\I2_ z4_ V2)/\∀(z5_:Int × (List Value)) (V4:View),V2.Le V4->I2_ z5_ V4->(true=true/\(((decide (z5_.1 < (((i64.wrap (((n1_:Nat):Int) - (i64.wrap (u64.wrap (k.tdiv (32:Int)))))).toNat:Nat):Int)))=true->(p1_.isSome=true)/\(0<=(i64.wrap (z5_.1 + (i64.wrap (u64.wrap (k.tdiv (32:Int))))))/\(i64.wrap (z5_.1 + (i64.wrap (u64.wrap (k.tdiv (32:Int)))))) < ((n1_:Nat):Int))/\(∃x6_,(∃a7_,addrAdd p1_ (((i64.wrap (z5_.1 + (i64.wrap (u64.wrap (k.tdiv (32:Int)))))).toNat) * 1)=some a7_/\V4.at a7_ (.int .u32 x6_))/\(((decide ((i64.wrap ((i64.wrap (z5_.1 + (i64.wrap (u64.wrap (k.tdiv (32:Int)))))) + (1:Int))) < ((n1_:Nat):Int)))=true->(p1_.isSome=true)/\(0<=(i64.wrap ((i64.wrap (z5_.1 + (i64.wrap (u64.wrap (k.tdiv (32:Int)))))) + (1:Int)))/\(i64.wrap ((i64.wrap (z5_.1 + (i64.wrap (u64.wrap (k.tdiv (32:Int)))))) + (1:Int))) < ((n1_:Nat):Int))/\(∃x8_,(∃a9_,addrAdd p1_ (((i64.wrap ((i64.wrap (z5_.1 + (i64.wrap (u64.wrap (k.tdiv (32:Int)))))) + (1:Int))).toNat) * 1)=some a9_/\V4.at a9_ (.int .u32 x8_))/\(0<=(32:Int))/\(0<=(k.tmod (32:Int)))/\(0<=z5_.1/\z5_.1 < (((i64.wrap (((n1_:Nat):Int) - (i64.wrap (u64.wrap (k.tdiv (32:Int)))))).toNat:Nat):Int))/\((0 + (z5_.1.toNat * 1)) + 1<=z5_.2.length)/\(∃z10_:Int × (List Value),m3_ z10_ < m3_ z5_/\(sm p1_/\sm n1_/\sm c1_/\((i64.wrap (u64.wrap (k.tdiv (32:Int))))=(i64.wrap (u64.wrap (k.tdiv (32:Int)))))/\((k.tmod (32:Int))=(k.tmod (32:Int)))/\sm 0/\(((i64.wrap (((n1_:Nat):Int) - (i64.wrap (u64.wrap (k.tdiv (32:Int)))))).toNat:Nat)=(i64.wrap (((n1_:Nat):Int) - (i64.wrap (u64.wrap (k.tdiv (32:Int)))))).toNat)/\(((i64.wrap (((n1_:Nat):Int) - (i64.wrap (u64.wrap (k.tdiv (32:Int)))))).toNat:Nat)=(i64.wrap (((n1_:Nat):Int) - (i64.wrap (u64.wrap (k.tdiv (32:Int)))))).toNat)/\((((i64.wrap (((n1_:Nat):Int) - (i64.wrap (u64.wrap (k.tdiv (32:Int)))))).toNat:Nat):Int)=(((i64.wrap (((n1_:Nat):Int) - (i64.wrap (u64.wrap (k.tdiv (32:Int)))))).toNat:Nat):Int))/\((i64.wrap (z5_.1 + (1:Int)))=z10_.1)/\((z5_.2.set (0 + (z5_.1.toNat * 1)) (.int .u32 (u32.wrap ((bitI .or .u64 (u64.wrap x6_) (u64.wrap ((u64.wrap x8_) * 2 ^ 32))).fdiv (2 ^ (min (k.tmod (32:Int)).toNat IntKind.u64.bits))))))=z10_.2))/\I2_ z10_ V4)))/\((decide ((i64.wrap ((i64.wrap (z5_.1 + (i64.wrap (u64.wrap (k.tdiv (32:Int)))))) + (1:Int))) < ((n1_:Nat):Int)))=false->(0<=(k.tmod (32:Int)))/\(0<=z5_.1/\z5_.1 < (((i64.wrap (((n1_:Nat):Int) - (i64.wrap (u64.wrap (k.tdiv (32:Int)))))).toNat:Nat):Int))/\((0 + (z5_.1.toNat * 1)) + 1<=z5_.2.length)/\(∃z11_:Int × (List Value),m3_ z11_ < m3_ z5_/\(sm p1_/\sm n1_/\sm c1_/\((i64.wrap (u64.wrap (k.tdiv (32:Int))))=(i64.wrap (u64.wrap (k.tdiv (32:Int)))))/\((k.tmod (32:Int))=(k.tmod (32:Int)))/\sm 0/\(((i64.wrap (((n1_:Nat):Int) - (i64.wrap (u64.wrap (k.tdiv (32:Int)))))).toNat:Nat)=(i64.wrap (((n1_:Nat):Int) - (i64.wrap (u64.wrap (k.tdiv (32:Int)))))).toNat)/\(((i64.wrap (((n1_:Nat):Int) - (i64.wrap (u64.wrap (k.tdiv (32:Int)))))).toNat:Nat)=(i64.wrap (((n1_:Nat):Int) - (i64.wrap (u64.wrap (k.tdiv (32:Int)))))).toNat)/\((((i64.wrap (((n1_:Nat):Int) - (i64.wrap (u64.wrap (k.tdiv (32:Int)))))).toNat:Nat):Int)=(((i64.wrap (((n1_:Nat):Int) - (i64.wrap (u64.wrap (k.tdiv (32:Int)))))).toNat:Nat):Int))/\((i64.wrap (z5_.1 + (1:Int)))=z11_.1)/\((z5_.2.set (0 + (z5_.1.toNat * 1)) (.int .u32 (u32.wrap ((u64.wrap x6_).fdiv (2 ^ (min (k.tmod (32:Int)).toNat IntKind.u64.bits))))))=z11_.2))/\I2_ z11_ V4)))))/\((decide (z5_.1 < (((i64.wrap (((n1_:Nat):Int) - (i64.wrap (u64.wrap (k.tdiv (32:Int)))))).toNat:Nat):Int)))=false->(∀V5,V4.Le V5->∀bk12_:Nat,(V5.blk bk12_ (.cells z5_.2.toArray 244 (0,0)))->Acts prog 217 #[.slice (some ⟨bk12_,0,none⟩) ((i64.wrap (((n1_:Nat):Int) - (i64.wrap (u64.wrap (k.tdiv (32:Int)))))).toNat) ((i64.wrap (((n1_:Nat):Int) - (i64.wrap (u64.wrap (k.tdiv (32:Int)))))).toNat)] V5 fun r5_ V6=>∃p13_ n13_ c13_,r5_=.slice p13_ n13_ c13_/\∀J14_:C->Value,(∀V7,V6.Le V7->R (.slice p13_ n13_ c13_) V7)))))))))) :
  Acts prog 233 #[.slice ap an ac,.int .u64 k] V R:=
 fn_does (LF:=LF0) (RF:=[1000007]) (β0:=(fun _=>0)) tab_ok mixed [(7,{ τ:=Int × (List Value),keep:=[0,5,6,7,29],keepB:=[],slots:=fun z=>[(30,.c (.v (.int .i64 z.1)))],boxes:=fun z=>[(27,⟨.row z.2,244⟩)] })] [] func233 (by kernel_rfl)
  [(0,.c (.v (.slice ap an ac))),(1,.c (.v (.int .u64 k)))]
  [] (by kernel_rfl) trivial h (by kernel_rfl)
theorem vc_nat_Bits (ap:OA) (an ac:Nat) (V:View) (R:Value->View->Prop)
  (h:(∀V1,V.Le V1->Acts prog 217 #[.slice ap an ac] V1 fun r1_ V2=>∃p1_ n1_ c1_,r1_=.slice p1_ n1_ c1_/\(((((n1_:Nat):Int) == (0:Int))=true->(∀V3,V2.Le V3->R (.int .i64 0) V3))/\((((n1_:Nat):Int) == (0:Int))=false->(p1_.isSome=true)/\(0<=(i64.wrap (((n1_:Nat):Int) - (1:Int)))/\(i64.wrap (((n1_:Nat):Int) - (1:Int))) < ((n1_:Nat):Int))/\(∃x2_,(∃a3_,addrAdd p1_ (((i64.wrap (((n1_:Nat):Int) - (1:Int))).toNat) * 1)=some a3_/\V2.at a3_ (.int .u32 x2_))/\(∀V4,V2.Le V4->Acts prog 219 #[.int .u32 x2_] V4 fun r4_ V5=>∃x4_,r4_=.int .i64 x4_/\(∀V6,V5.Le V6->R (.int .i64 (i64.wrap ((i64.wrap ((32:Int) * ((n1_:Nat):Int))) - x4_))) V6))))))) :
  Acts prog 200 #[.slice ap an ac] V R:=
 fn_does (LF:=LF0) (RF:=[1000007]) (β0:=(fun _=>0)) tab_ok mixed [] [] func200 (by kernel_rfl)
  [(0,.c (.v (.slice ap an ac)))]
  [] (by kernel_rfl) trivial h (by kernel_rfl)
theorem vc_nat_Gcd (ap:OA) (an ac:Nat) (bp:OA) (bn bc:Nat) (V:View) (R:Value->View->Prop)
  (h:(∀V1,V.Le V1->Acts prog 206 #[.slice ap an ac] V1 fun r1_ V2=>∃p1_ n1_ c1_,r1_=.slice p1_ n1_ c1_/\(∀V3,V2.Le V3->Acts prog 206 #[.slice bp bn bc] V3 fun r3_ V4=>∃p2_ n2_ c2_,r3_=.slice p2_ n2_ c2_/\(∃I3_:((OA) × Nat × Nat × (OA) × Nat × Nat)->Nat->View->Prop,(∃(z5_:(OA) × Nat × Nat × (OA) × Nat × Nat) (k6_:Nat),(((p1_:OA)=z5_.1)/\((n1_:Nat)=z5_.2.1)/\((c1_:Nat)=z5_.2.2.1)/\((p2_:OA)=z5_.2.2.2.1)/\((n2_:Nat)=z5_.2.2.2.2.1)/\((c2_:Nat)=z5_.2.2.2.2.2))/\I3_ z5_ k6_ V4)/\∀(z7_:(OA) × Nat × Nat × (OA) × Nat × Nat) (k8_:Nat) (V5:View),V4.Le V5->I3_ z7_ k8_ V5->(true=true/\(((decide (((z7_.2.1:Nat):Int) > (2:Int)))=true->(((((z7_.2.2.2.2.1:Nat):Int) == (0:Int))=true->(∀V6,V5.Le V6->R (.slice z7_.1 z7_.2.1 z7_.2.2.1) V6))/\((((z7_.2.2.2.2.1:Nat):Int) == (0:Int))=false->(∀V7,V5.Le V7->Acts prog 202 #[.slice z7_.1 z7_.2.1 z7_.2.2.1,.slice z7_.2.2.2.1 z7_.2.2.2.2.1 z7_.2.2.2.2.2] V7 fun r7_ V8=>∃p9_ n9_ c9_,∃p10_ n10_ c10_,∃b11_,r7_=.tuple #[.slice p9_ n9_ c9_,.slice p10_ n10_ c10_,.bool b11_]/\(∃(z12_:(OA) × Nat × Nat × (OA) × Nat × Nat) (k13_:Nat),k13_ < k8_/\(((z7_.2.2.2.1:OA)=z12_.1)/\((z7_.2.2.2.2.1:Nat)=z12_.2.1)/\((z7_.2.2.2.2.2:Nat)=z12_.2.2.1)/\((p10_:OA)=z12_.2.2.2.1)/\((n10_:Nat)=z12_.2.2.2.2.1)/\((c10_:Nat)=z12_.2.2.2.2.2))/\I3_ z12_ k13_ V8)))))/\((decide (((z7_.2.1:Nat):Int) > (2:Int)))=false->(((decide (((z7_.2.2.2.2.1:Nat):Int) > (2:Int)))=true->(((((z7_.2.2.2.2.1:Nat):Int) == (0:Int))=true->(∀V9,V5.Le V9->R (.slice z7_.1 z7_.2.1 z7_.2.2.1) V9))/\((((z7_.2.2.2.2.1:Nat):Int) == (0:Int))=false->(∀V10,V5.Le V10->Acts prog 202 #[.slice z7_.1 z7_.2.1 z7_.2.2.1,.slice z7_.2.2.2.1 z7_.2.2.2.2.1 z7_.2.2.2.2.2] V10 fun r10_ V11=>∃p14_ n14_ c14_,∃p15_ n15_ c15_,∃b16_,r10_=.tuple #[.slice p14_ n14_ c14_,.slice p15_ n15_ c15_,.bool b16_]/\(∃(z17_:(OA) × Nat × Nat × (OA) × Nat × Nat) (k18_:Nat),k18_ < k8_/\(((z7_.2.2.2.1:OA)=z17_.1)/\((z7_.2.2.2.2.1:Nat)=z17_.2.1)/\((z7_.2.2.2.2.2:Nat)=z17_.2.2.1)/\((p15_:OA)=z17_.2.2.2.1)/\((n15_:Nat)=z17_.2.2.2.2.1)/\((c15_:Nat)=z17_.2.2.2.2.2))/\I3_ z17_ k18_ V11)))))/\((decide (((z7_.2.2.2.2.1:Nat):Int) > (2:Int)))=false->(∀V12,V5.Le V12->Acts prog 204 #[.slice z7_.1 z7_.2.1 z7_.2.2.1] V12 fun r12_ V13=>∃x19_,∃b20_,r12_=.tuple #[.int .u64 x19_,.bool b20_]/\(∀V14,V13.Le V14->Acts prog 204 #[.slice z7_.2.2.2.1 z7_.2.2.2.2.1 z7_.2.2.2.2.2] V14 fun r14_ V15=>∃x21_,∃b22_,r14_=.tuple #[.int .u64 x21_,.bool b22_]/\(∃(I23_:(Int × Int)->View->Prop) (m24_:(Int × Int)->Nat),(∃z25_:Int × Int,((x19_=z25_.1)/\(x21_=z25_.2))/\I23_ z25_ V15)/\∀(z26_:Int × Int) (V16:View),V15.Le V16->I23_ z26_ V16->(true=true/\(((z26_.2 != (0:Int))=true->(z26_.2≠0)/\(∃z27_:Int × Int,m24_ z27_ < m24_ z26_/\((z26_.2=z27_.1)/\((z26_.1.tmod z26_.2)=z27_.2))/\I23_ z27_ V16))/\((z26_.2 != (0:Int))=false->(∀V17,V16.Le V17->Acts prog 210 #[.int .u64 z26_.1] V17 fun r17_ V18=>∃p28_ n28_ c28_,r17_=.slice p28_ n28_ c28_/\(∀V19,V18.Le V19->R (.slice p28_ n28_ c28_) V19))))))))))))))))) :
  Acts prog 195 #[.slice ap an ac,.slice bp bn bc] V R:=
 fn_does (LF:=LF0) (RF:=[1000007]) (β0:=(fun _=>0)) tab_ok mixed [(2,{ τ:=(OA) × Nat × Nat × (OA) × Nat × Nat,gh:=true,keep:=[],keepB:=[],slots:=fun z=>[(0,.c (.v (.slice z.1 z.2.1 z.2.2.1))),(1,.c (.v (.slice z.2.2.2.1 z.2.2.2.2.1 z.2.2.2.2.2)))],boxes:=fun z=>[] }),(9,{ τ:=Int × Int,keep:=[],keepB:=[],slots:=fun z=>[(8,.c (.v (.int .u64 z.1))),(10,.c (.v (.int .u64 z.2)))],boxes:=fun z=>[] })] [] func195 (by kernel_rfl)
  [(0,.c (.v (.slice ap an ac))),(1,.c (.v (.slice bp bn bc)))]
  [] (by kernel_rfl) trivial h (by kernel_rfl)
theorem vc_slices_Clone (sp:OA) (sn sc:Nat) (V:View) (R:Value->View->Prop)
  (h:((sp.isNone=true->(∀V1,V.Le V1->R (.slice none 0 0) V1))/\(sp.isNone=false->(∃xs1_:List Value,V.sl sp xs1_/\xs1_.length=sn * 1/\((0 + sn) * 4<=140737488355328/\0<=0/\0 * 1<=([]:List Value).length/\xs1_.length=sn * 1/\(∀v ∈ xs1_,v.oneCell'=true)/\∀(bk4_:Nat) (J5_:C->Value) (sp2_:List Value) (c3_:Nat),0 + sn<=c3_->c3_ * 1<=(0 + sn) * 1 + sp2_.length->(∀V2,V.Le V2->∀bk6_:Nat,(V2.blk bk6_ (.cells (([]:List Value).take (0 * 1)++xs1_++sp2_).toArray 244 (0,0)))->R (.slice (some ⟨bk6_,0,none⟩) (0 + sn) c3_) V2)))))) :
  Acts prog 221 #[.slice sp sn sc] V R:=
 fn_does (LF:=LF0) (RF:=[1000007]) (β0:=(fun _=>0)) tab_ok mixed [] [] func221 (by kernel_rfl)
  [(0,.c (.v (.slice sp sn sc)))]
  [] (by kernel_rfl) trivial h (by kernel_rfl)
end Go.Proofs.Tryz
/- Plain facts on lists of digits in base 2^32: their value, their normal form. -/
namespace Go.Big
/-- The value of digits, the least significant first. -/
def val:List Nat->Nat
 | []=>0
 | d :: r=>d + 4294967296 * val r
def Dig (ds:List Nat):Prop:=∀d ∈ ds,d < 4294967296
/-- Without zeros at the end. -/
def trimD:List Nat->List Nat
 | []=>[]
 | d :: r=>if trimD r=[]/\d=0 then [] else d :: trimD r
def Nrm (ds:List Nat):Prop:=trimD ds=ds
def digsF:Nat->Nat->List Nat
 | 0,_=>[]
 | f + 1,n=>if n=0 then [] else n % 4294967296 :: digsF f (n / 4294967296)
def digs (n:Nat):List Nat:=digsF n n
@[simp] theorem val_nil:val []=0:=rfl
@[simp] theorem val_cons (d:Nat) (r:List Nat):val (d :: r)=d + 4294967296 * val r:=rfl
theorem Dig.nil:Dig []:=fun _ h=>nomatch h
theorem Dig.cons {d:Nat} {r:List Nat}:Dig (d :: r)↔d < 4294967296/\Dig r:=by simp [Dig]
theorem Dig.append {a b:List Nat}:Dig (a++b)↔Dig a/\Dig b:=by simp [Dig,or_imp,forall_and]
theorem Dig.take {a:List Nat} (h:Dig a) (k:Nat):Dig (a.take k):=fun d hd=>h d (List.mem_of_mem_take hd)
theorem Dig.drop {a:List Nat} (h:Dig a) (k:Nat):Dig (a.drop k):=fun d hd=>h d (List.mem_of_mem_drop hd)
theorem Dig.set {a:List Nat} (h:Dig a) (k x:Nat) (hx:x < 4294967296):Dig (a.set k x):=fun d hd=>by
 rcases List.mem_or_eq_of_mem_set hd with h' | h'
 ·exact h d h'
 ·exact h' ▸ hx
theorem Dig.get {a:List Nat} (h:Dig a) {i:Nat} (hi:i < a.length):a[i] < 4294967296:=h _ (List.getElem_mem hi)
theorem Dig.rep (n:Nat):Dig (List.replicate n 0):=fun d hd=>by rw [List.eq_of_mem_replicate hd]; omega
theorem val_append (a b:List Nat):val (a++b)=val a + 4294967296 ^ a.length * val b:=by
 induction a with
 | nil=>simp
 | cons d r ih=>simp only [List.cons_append,val_cons,ih,List.length_cons,Nat.pow_succ]; grind
theorem val_lt {ds:List Nat} (h:Dig ds):val ds < 4294967296 ^ ds.length:=by
 induction ds with
 | nil=>simp
 | cons d r ih=>
  have h':=Dig.cons.1 h
  have:=ih h'.2
  have h1:=h'.1
  simp only [val_cons,List.length_cons,Nat.pow_succ]
  have h2:val r + 1<=4294967296 ^ r.length:=this
  have h3:=Nat.mul_le_mul_left 4294967296 h2
  omega
theorem val_rep (n:Nat):val (List.replicate n 0)=0:=by
 induction n with
 | zero=>rfl
 | succ n ih=>simp [List.replicate_succ,ih]
theorem val_take_succ (ds:List Nat) (i:Nat) (h:i < ds.length):val (ds.take (i + 1))=val (ds.take i) + 4294967296 ^ i * ds[i]:=by
 rw [List.take_succ_eq_append_getElem h,val_append]
 simp [List.length_take,Nat.min_eq_left (Nat.le_of_lt h)]
theorem val_take_of_le {ds:List Nat} {i:Nat} (h:ds.length<=i):val (ds.take i)=val ds:=by rw [List.take_of_length_le h]
theorem take_set_succ (ds:List Nat) (i x:Nat) (h:i < ds.length):(ds.set i x).take (i + 1)=ds.take i++[x]:=by
 rw [List.take_succ_eq_append_getElem (by simpa using h),List.take_set,List.set_eq_of_length_le (by simp; omega)]
 simp
theorem val_take_set (ds:List Nat) (i x:Nat) (h:i < ds.length):val ((ds.set i x).take (i + 1))=val (ds.take i) + 4294967296 ^ i * x:=by
 rw [take_set_succ ds i x h,val_append]
 simp [List.length_take,Nat.min_eq_left (Nat.le_of_lt h)]
theorem trimD_snoc_zero (r:List Nat):trimD (r++[0])=trimD r:=by
 induction r with
 | nil=>simp [trimD]
 | cons d r ih=>simp only [List.cons_append,trimD,ih]
theorem trimD_snoc (r:List Nat) (d:Nat) (h:d≠0):trimD (r++[d])=r++[d]:=by
 induction r with
 | nil=>simp [trimD,h]
 | cons x r ih=>simp [List.cons_append,trimD,ih]
theorem val_trimD (ds:List Nat):val (trimD ds)=val ds:=by
 induction ds with
 | nil=>rfl
 | cons d r ih=>
  simp only [trimD]
  split
  ·rename_i h
   rw [val_cons,← ih,h.1,h.2]; rfl
  ·simp [ih]
theorem trimD_len (ds:List Nat):(trimD ds).length<=ds.length:=by
 induction ds with
 | nil=>simp [trimD]
 | cons d r ih=>simp only [trimD]; split <;> simp <;> omega
theorem trimD_pre (ds:List Nat):trimD ds=ds.take (trimD ds).length:=by
 induction ds with
 | nil=>rfl
 | cons d r ih=>
  simp only [trimD]
  split
  ·rfl
  ·simp only [List.length_cons,List.take_succ_cons]; rw [← ih]
theorem Dig.trim {ds:List Nat} (h:Dig ds):Dig (trimD ds):=by rw [trimD_pre]; exact h.take _
theorem trimD_trimD (ds:List Nat):Nrm (trimD ds):=by
 unfold Nrm
 induction ds with
 | nil=>rfl
 | cons d r ih=>
  rw [trimD]
  split
  ·rfl
  ·rename_i h; rw [trimD,ih,if_neg h]
theorem Nrm.tail {d:Nat} {r:List Nat} (h:Nrm (d :: r)):Nrm r:=by
 unfold Nrm at h ⊢
 simp only [trimD] at h
 split at h
 ·cases h
 ·injection h
theorem Nrm.zero {ds:List Nat} (h:Nrm ds) (hv:val ds=0):ds=[]:=by
 induction ds with
 | nil=>rfl
 | cons d r ih=>
  have hr:=ih h.tail (by simp at hv; omega)
  subst hr
  simp at hv; subst hv
  simp [Nrm,trimD] at h
theorem digsF_eq:∀(f n:Nat),n<=f->val (digsF f n)=n/\Dig (digsF f n)/\Nrm (digsF f n)
 | 0,n,h=>⟨by simp [digsF]; omega,Dig.nil,rfl⟩
 | f + 1,n,h=>by
  simp only [digsF]
  split
  ·subst_vars; exact ⟨rfl,Dig.nil,rfl⟩
  ·obtain ⟨h1,h2,h3⟩:=digsF_eq f (n / 4294967296) (by omega)
   refine ⟨by rw [val_cons,h1]; omega,Dig.cons.2 ⟨by omega,h2⟩,?_⟩
   unfold Nrm at h3 ⊢
   rw [trimD,h3,if_neg]
   rintro ⟨e1,e2⟩
   rw [e1] at h1
   simp at h1
   omega
theorem val_digs (n:Nat):val (digs n)=n:=(digsF_eq n n (Nat.le_refl _)).1
theorem dig_digs (n:Nat):Dig (digs n):=(digsF_eq n n (Nat.le_refl _)).2.1
theorem nrm_digs (n:Nat):Nrm (digs n):=(digsF_eq n n (Nat.le_refl _)).2.2
theorem Nrm.ext:∀{a b:List Nat},Dig a->Dig b->Nrm a->Nrm b->val a=val b->a=b
 | [],b,_,_,_,hb,h=>(hb.zero (by rw [← h]; rfl)).symm
 | d :: r,[],_,_,ha,_,h=>by have:=ha.zero h; cases this
 | d :: r,e :: s,ha,hb,na,nb,h=>by
  have h1:=(Dig.cons.1 ha).1
  have h2:=(Dig.cons.1 hb).1
  simp only [val_cons] at h
  have:val r=val s:=by omega
  have hrs:=Nrm.ext (Dig.cons.1 ha).2 (Dig.cons.1 hb).2 na.tail nb.tail this
  have:d=e:=by omega
  subst this; rw [hrs]
theorem digs_val {ds:List Nat} (h:Dig ds) (hn:Nrm ds):digs (val ds)=ds:=Nrm.ext (dig_digs _) h (nrm_digs _) hn (val_digs _)
theorem trimD_eq {ds:List Nat} (h:Dig ds):trimD ds=digs (val ds):=by
 rw [← val_trimD,digs_val h.trim (trimD_trimD _)]
theorem digs_inj {a b:Nat} (h:digs a=digs b):a=b:=by rw [← val_digs a,h,val_digs]
@[simp] theorem digs_zero:digs 0=[]:=rfl
theorem digs_eq_nil {n:Nat}:digs n=[]↔n=0:=⟨fun h=>digs_inj (by rw [h]; rfl),fun h=>h ▸ rfl⟩
theorem Nrm.last {ds:List Nat} (h:Nrm ds) (hl:0 < ds.length):ds[ds.length - 1]≠0:=by
 intro e
 have hs:ds=ds.take (ds.length - 1)++[ds[ds.length - 1]]:=by
  rw [← List.take_succ_eq_append_getElem (by omega),Nat.sub_add_cancel hl,List.take_length]
 rw [e] at hs
 have h2:trimD ds=ds:=h
 rw [hs,trimD_snoc_zero] at h2
 have:=trimD_len (ds.take (ds.length - 1))
 rw [h2] at this
 simp at this
 omega
theorem nrm_of_last {ds:List Nat} (h:∀hl:0 < ds.length,ds[ds.length - 1]≠0):Nrm ds:=by
 rcases Nat.eq_zero_or_pos ds.length with e | e
 ·rw [List.length_eq_zero_iff.1 e]; rfl
 ·have hs:ds=ds.take (ds.length - 1)++[ds[ds.length - 1]]:=by
   rw [← List.take_succ_eq_append_getElem (by omega),Nat.sub_add_cancel e,List.take_length]
  have:=trimD_snoc (ds.take (ds.length - 1)) _ (h e)
  rw [← hs] at this
  exact this
theorem val_ge {ds:List Nat} (h:Nrm ds) (hl:0 < ds.length):4294967296 ^ (ds.length - 1)<=val ds:=by
 have hs:ds=ds.take (ds.length - 1)++[ds[ds.length - 1]]:=by
  rw [← List.take_succ_eq_append_getElem (by omega),Nat.sub_add_cancel hl,List.take_length]
 have h0:=h.last hl
 rw [hs,val_append]
 simp only [val_cons,val_nil,List.length_take]
 rw [Nat.min_eq_left (by omega)]
 simp only [List.length_append,List.length_take,List.length_singleton]
 rw [Nat.min_eq_left (by omega),Nat.sub_add_cancel hl]
 have:4294967296 ^ (ds.length - 1) * 1<=4294967296 ^ (ds.length - 1) * (ds[ds.length - 1] + 4294967296 * 0):=Nat.mul_le_mul_left _ (by omega)
 omega
theorem digs_len_le {n k:Nat}:(digs n).length<=k↔n < 4294967296 ^ k:=by
 constructor
 ·intro h
  have:=val_lt (dig_digs n)
  rw [val_digs] at this
  exact Nat.lt_of_lt_of_le this (Nat.pow_le_pow_right (by omega) h)
 ·intro h
  rcases Nat.lt_or_ge k (digs n).length with h' | h'
  ·have:=val_ge (nrm_digs n) (by omega)
   rw [val_digs] at this
   have h2:4294967296 ^ k<=4294967296 ^ ((digs n).length - 1):=Nat.pow_le_pow_right (by omega) (by omega)
   omega
  ·exact h'
theorem digs_len_lt {n k:Nat}:k < (digs n).length↔4294967296 ^ k<=n:=by
 have:=@digs_len_le n k
 omega
theorem val_split (ds:List Nat) (i:Nat) (h:i < ds.length):val ds=val (ds.take i) + 4294967296 ^ i * (ds[i] + 4294967296 * val (ds.drop (i + 1))):=by
 have h2:val ds=val (ds.take i++ds.drop i):=by rw [List.take_append_drop]
 rw [h2,val_append,List.drop_eq_getElem_cons h]
 simp only [List.length_take,Nat.min_eq_left (Nat.le_of_lt h),val_cons]
theorem lt_of_digit {a b:List Nat} {i:Nat} (ha:Dig a) (hi:i < a.length) (hj:i < b.length) (hd:a.drop (i + 1)=b.drop (i + 1)) (hl:a[i] < b[i]):val a < val b:=by
 rw [val_split a i hi,val_split b i hj,hd]
 have h1:=val_lt (ha.take i)
 simp only [List.length_take,Nat.min_eq_left (Nat.le_of_lt hi)] at h1
 have h2:4294967296 ^ i * (a[i] + 4294967296 * val (b.drop (i + 1)) + 1)<=4294967296 ^ i * (b[i] + 4294967296 * val (b.drop (i + 1))):=Nat.mul_le_mul_left _ (by omega)
 rw [Nat.mul_add,Nat.mul_one] at h2
 omega
theorem lt_of_len {a b:Nat} (h:(digs a).length < (digs b).length):a < b:=by
 have h1:=val_lt (dig_digs a)
 have h2:=val_ge (nrm_digs b) (by omega)
 rw [val_digs] at h1 h2
 have h3:4294967296 ^ (digs a).length<=4294967296 ^ ((digs b).length - 1):=Nat.pow_le_pow_right (by omega) (by omega)
 omega
def cmpN (a b:Nat):Int:=if a < b then -1 else if b < a then 1 else 0
theorem digs_len_mono {a b:Nat} (h:a<=b):(digs a).length<=(digs b).length:=by
 rcases Nat.lt_or_ge (digs b).length (digs a).length with h' | h'
 ·have:=lt_of_len h'; omega
 ·exact h'
theorem digs_val_len {ds:List Nat} (h:Dig ds):(digs (val ds)).length<=ds.length:=by rw [← trimD_eq h]; exact trimD_len ds
theorem digs_lt {n:Nat} (h:n < 4294967296) (h0:n≠0):digs n=[n]:=by
 have:Nrm [n]:=by simp [Nrm,trimD,h0]
 have:=digs_val (by simp [Dig]; exact h) this
 simpa using this
end Go.Big
/- How digits lie in memory; small laws for the conditions. -/
namespace Go.Eng
open Go.Big
/-! arithmetic of the machine's integers -/
theorem i64w {x:Int} (h:-9223372036854775808<=x/\x<=9223372036854775807):i64.wrap x=x:=IntWalk.i64_in x h
theorem u64w {x:Int} (h:0<=x/\x<=18446744073709551615):u64.wrap x=x:=IntWalk.u64_in x h
theorem u32w {x:Int} (h:0<=x/\x<=4294967295):u32.wrap x=x:=IntWalk.u32_in x h
theorem u32m (x:Int):u32.wrap x=x % 4294967296:=by rw [IntKind.wrap_u32]
theorem u64m (x:Int):u64.wrap x=x % 18446744073709551616:=by rw [IntKind.wrap_u64]
theorem shr32 {x:Int}:x.fdiv (2 ^ 32)=x / 4294967296:=by rw [Int.fdiv_eq_ediv_of_nonneg _ (by decide)]; rfl
theorem shr63 {x:Int}:x.fdiv (2 ^ 63)=x / 9223372036854775808:=by rw [Int.fdiv_eq_ediv_of_nonneg _ (by decide)]; rfl
theorem or64 (a b:Nat) (ha:a < 4294967296) (hb:b < 4294967296):bitI .or .u64 ((a:Int) * 4294967296) (b:Int)=(a:Int) * 4294967296 + b:=by
 have h1:((a:Int) * 4294967296)=((a * 2 ^ 32:Nat):Int):=by simp
 rw [bitI,h1,u64m]
 have h2:(BitVec.ofInt IntKind.u64.bits ((a * 2 ^ 32:Nat):Int) ||| BitVec.ofInt IntKind.u64.bits (b:Int)).toNat=a * 2 ^ 32 + b:=by
  show (BitVec.ofInt 64 ((a * 2 ^ 32:Nat):Int) ||| BitVec.ofInt 64 (b:Int)).toNat=_
  rw [BitVec.ofInt_natCast,BitVec.ofInt_natCast,BitVec.toNat_or,BitVec.toNat_ofNat,BitVec.toNat_ofNat,Nat.mod_eq_of_lt (by omega),Nat.mod_eq_of_lt (by omega)]
  have:=Nat.shiftLeft_add_eq_or_of_lt (b:=b) (i:=32) (by omega) a
  rw [Nat.shiftLeft_eq] at this
  exact this.symm
 rw [h2]
 omega
def u32s (ds:List Nat):List Value:=ds.map fun (d:Nat)=>Value.int .u32 (d:Int)
@[simp] theorem u32s_len (ds:List Nat):(u32s ds).length=ds.length:=by simp [u32s]
theorem u32s_set (ds:List Nat) (i x:Nat):(u32s ds).set i (.int .u32 (x:Int))=u32s (ds.set i x):=by simp [u32s,List.map_set]
theorem u32s_rep (n:Nat):List.replicate n (Value.int .u32 0)=u32s (List.replicate n 0):=by simp [u32s]
theorem u32s_get {ds:List Nat} {i:Nat} (h:i < ds.length):(u32s ds)[i]?=some (.int .u32 (ds[i]:Int)):=by simp [u32s,h]
theorem u32s_take (ds:List Nat) (k:Nat):u32s (ds.take k)=(u32s ds).take k:=by simp [u32s,List.map_take]
theorem u32s_drop (ds:List Nat) (k:Nat):u32s (ds.drop k)=(u32s ds).drop k:=by simp [u32s,List.map_drop]
theorem u32s_append (a b:List Nat):u32s (a++b)=u32s a++u32s b:=by simp [u32s]
theorem View.Le.sl {V V':View} (h:V.Le V') {a:OA} {xs:List Value} (hs:V.sl a xs):V'.sl a xs:=
 fun i v hv=>let ⟨ad,e,ha⟩:=hs i v hv; ⟨ad,e,h.at ha⟩
/-- A slice of digits. -/
structure RD (V:View) (p:OA) (n c:Nat) (ds:List Nat):Prop where
 len:n=ds.length
 cap:n<=c
 sl:V.sl p (u32s ds)
 dig:Dig ds
 nilc:p.isNone=true->c=0
theorem RD.le {V V':View} {p:OA} {n c:Nat} {ds:List Nat} (h:RD V p n c ds) (l:V.Le V'):RD V' p n c ds:=⟨h.len,h.cap,l.sl h.sl,h.dig,h.nilc⟩
theorem RD.nil {V:View}:RD V none 0 0 []:=⟨rfl,Nat.le_refl _,fun i v h=>by simp [u32s] at h,Dig.nil,fun _=>rfl⟩
theorem RD.take {V:View} {p:OA} {n c:Nat} {ds:List Nat} (h:RD V p n c ds) {k:Nat} (hk:k<=n):RD V p k c (ds.take k):=by
 have:=h.len
 refine ⟨by simp; omega,by have:=h.cap; omega,fun i v hv=>h.sl i v ?_,h.dig.take k,h.nilc⟩
 rw [u32s_take] at hv
 rw [List.getElem?_take] at hv
 split at hv
 ·exact hv
 ·cases hv
/-- A digit is read. -/
theorem RD.rd {V:View} {p:OA} {n c:Nat} {ds:List Nat} (h:RD V p n c ds) {i:Int} {K:Int->Prop} (j:Nat) (hj:i=j) (hn:j < ds.length)
  (hK:K ((ds[j]:Nat):Int)):(p.isSome=true)/\(0<=i/\i < (n:Int))/\∃x:Int,(∃a,addrAdd p (i.toNat * 1)=some a/\V.at a (.int .u32 x))/\K x:=by
 obtain ⟨ad,e,ha⟩:=h.sl j _ (u32s_get hn)
 have:=h.len
 subst hj
 refine ⟨by rw [e]; rfl,⟨by omega,by omega⟩,_,⟨ad.add j,?_,ha⟩,hK⟩
 rw [e]; simp [addrAdd]
theorem blk_at {V:View} {b:Nat} {xs:List Value} {ty:TypeId} {m:Nat × Nat} (h:V.blk b (.cells xs.toArray ty m)) {i:Nat} {v:Value} (hv:xs[i]?=some v):V.at ⟨b,i,none⟩ v:=by
 refine ⟨h.1,?_⟩
 unfold World.cell?
 rw [h.2]
 simpa using hv
theorem add_zero' (b i:Nat):(⟨b,0,none⟩:Addr).add i=⟨b,i,none⟩:=by
 unfold Addr.add
 split
 ·rename_i h; simp_all
 ·simp
/-- A block of digits that is seen. -/
theorem RD.blk {V:View} {b:Nat} {ds:List Nat} {ty:TypeId} {m:Nat × Nat} (h:V.blk b (.cells (u32s ds).toArray ty m)) (hd:Dig ds) {n c:Nat} (hn:n=ds.length) (hc:n<=c):RD V (some ⟨b,0,none⟩) n c ds:=
 ⟨hn,hc,fun i v hv=>⟨_,rfl,by rw [add_zero']; exact blk_at h hv⟩,hd,fun e=>nomatch e⟩
end Go.Eng
/- Contracts of package nat: trim, Cmp, Add. -/
namespace Go.Proofs.Tryz
open Go.Eng Go.Big
theorem c_nat_trim {V:View} {p:OA} {n c:Nat} {ds:List Nat} (h:RD V p n c ds) (hm:ds.length<=4611686018427387904) :
  Acts prog 217 #[.slice p n c] V fun r V'=>∃k,r=.slice p k c/\RD V' p k c (trimD ds):=by
 refine vc_nat_trim p n c V _ ?_
 refine ⟨fun z V'=>z.1=p/\z.2.2=c/\z.2.1<=ds.length/\trimD (ds.take z.2.1)=trimD ds/\RD V' p z.2.1 c (ds.take z.2.1),fun z=>z.2.1,⟨(p,n,c),⟨rfl,rfl,rfl⟩,rfl,rfl,?_⟩,?_⟩
 ·have:=h.len; subst this; simp; exact h
 ·rintro ⟨q,k,c'⟩ V1 l1 ⟨rfl,rfl,hk,ht,hR⟩
  dsimp only at hk ht hR ⊢
  refine ⟨rfl,fun h0=>?_,fun h0=>?_⟩
  ·have h0:0 < k:=by simpa using h0
   simp (disch:=omega) only [i64w]
   have hl:(ds.take k).length=k:=by simp; omega
   have hs:ds.take k=ds.take (k - 1)++[ds[k - 1]]:=by rw [← List.take_succ_eq_append_getElem (by omega),Nat.sub_add_cancel h0]
   refine hR.rd (k - 1) (by omega) (by omega) ⟨fun hz=>?_,fun hz=>?_⟩
   ·have hz:ds[k - 1]=0:=by simpa using hz
    refine ⟨⟨by omega,by have:=hR.cap; omega⟩,(q,k - 1,c'),by dsimp only; omega,⟨rfl,by dsimp only; omega,rfl⟩,rfl,rfl,by dsimp only; omega,?_,?_⟩
    ·dsimp only
     rw [← ht,hs,hz,trimD_snoc_zero]
    ·have:=hR.take (k:=k - 1) (by omega)
     dsimp only
     rwa [List.take_take,Nat.min_eq_left (by omega)] at this
   ·have hz:ds[k - 1]≠0:=by simpa using hz
    refine fun V2 l2=>⟨k,rfl,?_⟩
    rw [← ht,hs,trimD_snoc _ _ hz,← hs]
    exact hR.le l2
  ·have h0:k=0:=by simpa using h0
   subst h0
   refine fun V2 l2=>⟨0,rfl,?_⟩
   rw [← ht]
   exact hR.le l2
theorem c_slices_Clone {V:View} {p:OA} {n c:Nat} {ds:List Nat} (h:RD V p n c ds) (hm:ds.length<=1099511627776) :
  Acts prog 221 #[.slice p n c] V fun r V'=>∃q k c',r=.slice q k c'/\RD V' q k c' ds:=by
 have hl:=h.len
 refine vc_slices_Clone p n c V _ ⟨fun h0 V1 l1=>⟨_,_,_,rfl,?_⟩,fun h0=>⟨u32s ds,h.sl,by simp [hl],by omega,by omega,by simp,by simp [hl],?_,?_⟩⟩
 ·have h0:p=none:=by simpa using h0
  subst h0
  have:ds=[]:=by
   rcases Nat.eq_zero_or_pos ds.length with e | e
   ·exact List.length_eq_zero_iff.1 e
   ·obtain ⟨ad,e,-⟩:=h.sl 0 _ (u32s_get e)
    cases e
  subst this; exact RD.nil
 ·intro v hv
  simp only [u32s,List.mem_map] at hv
  obtain ⟨d,-,rfl⟩:=hv
  rfl
 ·intro bk J sp c' h1 h2 V1 l1 b hb
  refine ⟨_,_,_,rfl,?_⟩
  simp only [Nat.zero_add,Nat.zero_mul,List.take_zero,List.nil_append] at hb h1 ⊢
  exact ⟨hl,h1,fun i v hv=>⟨_,rfl,by rw [add_zero']; exact blk_at hb (by rw [List.getElem?_append_left (by rcases Nat.lt_or_ge i (u32s ds).length with e | e; exact e; rw [List.getElem?_eq_none e] at hv; cases hv)]; exact hv)⟩,h.dig,fun e=>nomatch e⟩
/-- A normal form's slice. -/
abbrev RN (V:View) (p:OA) (n c:Nat) (x:Nat):Prop:=RD V p n c (digs x)
theorem c_nat_Norm {V:View} {p:OA} {n c:Nat} {ds:List Nat} (h:RD V p n c ds) (hm:ds.length<=1099511627776) :
  Acts prog 206 #[.slice p n c] V fun r V'=>∃q k c',r=.slice q k c'/\RN V' q k c' (val ds):=by
 refine vc_nat_Norm p n c V _ fun V1 l1=>(c_nat_trim (h.le l1) (by omega)).mono ?_
 rintro r V2 l2 ⟨k,rfl,h2⟩
 refine ⟨_,_,_,rfl,fun V3 l3=>(c_slices_Clone (h2.le l3) (by have:=trimD_len ds; omega)).mono ?_⟩
 rintro r V4 l4 ⟨q,k',c',rfl,h4⟩
 refine ⟨_,_,_,rfl,fun V5 l5=>⟨_,_,_,rfl,?_⟩⟩
 unfold RN
 rw [← trimD_eq h.dig]
 exact h4.le l5
theorem c_nat_Normal {V:View} {p:OA} {n c:Nat} {ds:List Nat} (h:RD V p n c ds) (hm:ds.length<=1099511627776) :
  Acts prog 191 #[.slice p n c] V fun r V'=>r=.bool (decide (digs (val ds)=ds)):=by
 have hl:=h.len
 refine vc_nat_Normal p n c V _ ⟨fun h0 V1 l1=>?_,fun h0=>?_⟩
 ·have:ds=[]:=List.length_eq_zero_iff.1 (by simp at h0; omega)
  subst this; rfl
 ·have h0:0 < n:=by simp at h0; omega
  simp (disch:=omega) only [i64w]
  refine h.rd (n - 1) (by omega) (by omega) fun V1 l1=>?_
  congr 1
  rw [Bool.eq_iff_iff]
  simp only [bne_iff_ne,ne_eq,decide_eq_true_eq]
  subst hl
  constructor
  ·intro hz
   exact digs_val h.dig (nrm_of_last fun _=>by simpa using hz)
  ·intro he hz
   have:Nrm ds:=by rw [← he]; exact nrm_digs _
   exact this.last (by omega) (by simpa using hz)
theorem c_nat_FromUint {V:View} (u:Int) (h0:0<=u) (h1:u < 18446744073709551616) :
  Acts prog 210 #[.int .u64 u] V fun r V'=>∃q k c',r=.slice q k c'/\RN V' q k c' u.toNat:=by
 obtain ⟨u,rfl⟩:=Int.eq_ofNat_of_zero_le h0
 refine vc_nat_FromUint _ V _ ⟨by omega,fun V1 l1 bk hb=>?_⟩
 rw [shr32,u32m,u32w (by omega)] at hb
 have hb:V1.blk bk (.cells (u32s [u % 4294967296,u / 4294967296]).toArray 244 (0,0)):=by
  simpa [u32s] using hb
 have hd:Dig [u % 4294967296,u / 4294967296]:=by simp [Dig]; omega
 refine (c_nat_trim (RD.blk hb hd (n:=2) (c:=2) rfl (Nat.le_refl _)) (by simp)).mono ?_
 rintro r V2 l2 ⟨k,rfl,h2⟩
 refine ⟨_,_,_,rfl,fun _ V3 l3=>⟨_,_,_,rfl,?_⟩⟩
 rw [trimD_eq hd] at h2
 have:val [u % 4294967296,u / 4294967296]=(u:Int).toNat:=by simp; omega
 rw [this] at h2
 exact h2.le l3
end Go.Proofs.Tryz
/- Contracts of package nat: Cmp, Add, Sub. -/
namespace Go.Proofs.Tryz
open Go.Eng Go.Big
theorem c_nat_Cmp {V:View} {p q:OA} {n c m e:Nat} {xa xb:List Nat} (ha:RD V p n c xa) (hb:RD V q m e xb) (hm:xa.length<=1099511627776) (hn:xb.length<=1099511627776) :
  Acts prog 220 #[.slice p n c,.slice q m e] V fun r V'=>r=.int .i64 (cmpN (val xa) (val xb)):=by
 have la:=trimD_len xa
 have lb:=trimD_len xb
 refine vc_nat_Cmp p n c q m e V _ fun V1 l1=>(c_nat_trim (ha.le l1) (by omega)).mono ?_
 rintro r V2 l2 ⟨n,rfl,h1⟩
 refine ⟨_,_,_,rfl,fun V3 l3=>(c_nat_trim (hb.le (l1.trans (l2.trans l3))) (by omega)).mono ?_⟩
 rintro r V4 l4 ⟨m,rfl,h2⟩
 refine ⟨_,_,_,rfl,?_⟩
 replace h1:=h1.le (l3.trans l4)
 rw [trimD_eq ha.dig] at h1 la
 rw [trimD_eq hb.dig] at h2 lb
 generalize val xa=x at *
 generalize val xb=y at *
 have hl1:=h1.len
 have hl2:=h2.len
 refine ⟨fun h0=>⟨fun h3 V5 l5=>?_,fun h3 V5 l5=>?_⟩,fun h0=>?_⟩
 ·have:=lt_of_len (a:=x) (b:=y) (by simp at h3; omega)
  rw [cmpN,if_pos this]
 ·have:=lt_of_len (a:=y) (b:=x) (by simp at h0 h3; omega)
  rw [cmpN,if_neg (by omega),if_pos this]
 ·have h0:n=m:=by simp at h0; omega
  subst h0
  simp (disch:=omega) only [i64w]
  refine ⟨fun z V'=>-1<=z/\z < n/\(digs x).drop (z + 1).toNat=(digs y).drop (z + 1).toNat,fun z=>(z + 1).toNat,⟨_,by (try dsimp only); and_intros <;> trivial,by (try dsimp only); omega,by (try dsimp only); omega,?_⟩,?_⟩
  ·(try dsimp only)
   rw [List.drop_of_length_le (by omega),List.drop_of_length_le (by omega)]
  ·rintro i V7 l7 ⟨hi0,hi1,hd⟩
   dsimp only at hi0 hi1 hd ⊢
   refine ⟨by trivial,fun h3=>?_,fun h3 V5 l5=>?_⟩
   ·have h3:0<=i:=by simpa using h3
    obtain ⟨i,rfl⟩:=Int.eq_ofNat_of_zero_le h3
    simp (disch:=omega) only [i64w]
    have hd':(digs x).drop (i + 1)=(digs y).drop (i + 1):=hd
    refine (h1.le l7).rd i rfl (by omega) ((h2.le l7).rd i rfl (by omega) ⟨fun h4 V8 l8=>?_,fun h4=>?_⟩)
    ·have:=lt_of_digit (dig_digs x) (by omega) (by omega) hd' (by simpa using h4)
     rw [val_digs,val_digs] at this
     rw [cmpN,if_pos this]
    ·refine (h1.le l7).rd i rfl (by omega) ((h2.le l7).rd i rfl (by omega) ⟨fun h5 V8 l8=>?_,fun h5=>?_⟩)
     ·have:=lt_of_digit (dig_digs y) (by omega) (by omega) hd'.symm (by simpa using h5)
      rw [val_digs,val_digs] at this
      rw [cmpN,if_neg (by omega),if_pos this]
     ·refine ⟨_,?_,by (try dsimp only); and_intros <;> trivial,?_,?_,?_⟩
      ·(try dsimp only); omega
      ·(try dsimp only); omega
      ·(try dsimp only); omega
      ·(try dsimp only)
       have:((i:Int) - 1 + 1).toNat=i:=by omega
       rw [this,List.drop_eq_getElem_cons (by omega),List.drop_eq_getElem_cons (l:=digs y) (by omega),hd']
       congr 1
       simp at h4 h5
       omega
   ·have h3:i=-1:=by simp at h3; omega
    subst h3
    have:digs x=digs y:=by simpa using hd
    have:=digs_inj this
    subst this
    simp [cmpN]
/-- One step of an addition with a carry. -/
theorem add_step {E A B c d x y W:Nat} (h:E + W * c=A + B) (hd:d=c + x + y):E + W * (d % 4294967296) + W * 4294967296 * (d / 4294967296)=A + W * x + (B + W * y):=by
 have h1:W * (d % 4294967296) + W * 4294967296 * (d / 4294967296)=W * d:=by
  rw [Nat.mul_assoc,← Nat.mul_add,Nat.mod_add_div]
 rw [Nat.add_assoc,h1,hd,Nat.mul_add,Nat.mul_add]
 omega
theorem c_nat_Add {V:View} {p q:OA} {n c m e:Nat} {xa xb:List Nat} (ha:RD V p n c xa) (hb:RD V q m e xb) (hm:xa.length<=1099511627776) (hn:xb.length<=1099511627776) :
  Acts prog 229 #[.slice p n c,.slice q m e] V fun r V'=>∃p' n' c',r=.slice p' n' c'/\RN V' p' n' c' (val xa + val xb):=by
 have hla:=ha.len
 have hlb:=hb.len
 refine vc_nat_Add p n c q m e V _ ⟨fun z V'=>∃xs ys,RD V' z.1 z.2.1 z.2.2.1 xs/\RD V' z.2.2.2.1 z.2.2.2.2.1 z.2.2.2.2.2 ys/\ys.length<=xs.length/\xs.length<=1099511627776/\val xs + val ys=val xa + val xb,⟨fun h0=>?_,fun h0=>?_⟩,?_⟩
 ·exact ⟨(_,_,_,_,_,_),by (try dsimp only); and_intros <;> trivial,xb,xa,hb,ha,by simp at h0; omega,hn,by omega⟩
 ·exact ⟨(_,_,_,_,_,_),by (try dsimp only); and_intros <;> trivial,xa,xb,ha,hb,by simp at h0; omega,hm,rfl⟩
 ·rintro ⟨p,n,c,q,m,e⟩ V1 l1 ⟨xs,ys,hx,hy,hl,hm,hv⟩
  dsimp only at hx hy ⊢
  rw [← hv]
  clear hv ha hb hla hlb
  have hlx:=hx.len
  have hly:=hy.len
  simp (disch:=omega) only [i64w,u32s_rep]
  have hn1:((n:Int) + 1).toNat=n + 1:=by omega
  rw [hn1]
  refine ⟨by trivial,by omega,by omega,by omega,fun z V'=>0<=z.1/\z.1<=1/\0<=z.2.1/\z.2.1<=n/\∃es:List Nat,z.2.2=u32s es/\es.length=n + 1/\Dig es /\
   val (es.take z.2.1.toNat) + 4294967296 ^ z.2.1.toNat * z.1.toNat=val (xs.take z.2.1.toNat) + val (ys.take z.2.1.toNat),fun z=>n - z.2.1.toNat,⟨(0,0,u32s (List.replicate (n + 1) 0)),by (try dsimp only); and_intros <;> trivial,by (try dsimp only); omega,by (try dsimp only); omega,by (try dsimp only); omega,by (try dsimp only); omega,_,rfl,by simp,Dig.rep _,by simp⟩,?_⟩
  rintro ⟨cy,i,vs⟩ V2 l2 ⟨hc0,hc1,hi0,hi1,es,rfl,hes,hde,hv⟩
  dsimp only at hc0 hc1 hi0 hi1 hv ⊢
  obtain ⟨i,rfl⟩:=Int.eq_ofNat_of_zero_le hi0
  obtain ⟨cy,rfl⟩:=Int.eq_ofNat_of_zero_le hc0
  simp only [Int.toNat_natCast] at hv
  refine ⟨by trivial,fun h3=>?_,fun h3=>?_⟩
  ·have h3:i < n:=by simpa using h3
   refine (hx.le l2).rd i rfl (by omega) ?_
   have hdx:=hx.dig.get (i:=i) (by omega)
   have next:∀d:Nat,d < 8589934592->val (es.take i) + 4294967296 ^ i * (d % 4294967296) + 4294967296 ^ i * 4294967296 * (d / 4294967296)=val (xs.take (i + 1)) + val (ys.take (i + 1)) ->
     ∃es':List Nat,(u32s es).set i (.int .u32 ((d % 4294967296:Nat):Int))=u32s es'/\es'.length=n + 1/\Dig es' /\
     val (es'.take (i + 1)) + 4294967296 ^ (i + 1) * (d / 4294967296)=val (xs.take (i + 1)) + val (ys.take (i + 1)):=by
    intro d hd he
    refine ⟨es.set i (d % 4294967296),u32s_set _ _ _,by simpa using hes,hde.set _ _ (by omega),?_⟩
    rw [val_take_set _ _ _ (by omega),Nat.pow_succ]
    exact he
   refine ⟨fun h4=>?_,fun h4=>?_⟩
   ·have h4:i < m:=by simpa using h4
    refine (hy.le l2).rd i rfl (by omega) ?_
    have hdy:=hy.dig.get (i:=i) (by omega)
    simp (disch:=omega) only [u64w,i64w,u32m,shr32]
    refine ⟨⟨by omega,by omega⟩,by simp; omega,by omega,(_,_,_),?_,by (try dsimp only); and_intros <;> trivial,?_⟩
    ·(try dsimp only); omega
    ·(try dsimp only)
     have hi2:((i:Int) + 1).toNat=i + 1:=by omega
     obtain ⟨es',e1,e2,e3,e4⟩:=next (cy + xs[i] + ys[i]) (by omega) (by rw [val_take_succ _ _ (by omega),val_take_succ _ _ (by omega)]; exact add_step hv rfl)
     refine ⟨by omega,by omega,by omega,by omega,es',?_,e2,e3,?_⟩
     ·rw [← e1]; simp
     ·rw [hi2,← e4]; congr 2
   ·have h4:m<=i:=by simpa using h4
    simp (disch:=omega) only [u64w,i64w,u32m,shr32]
    refine ⟨⟨by omega,by omega⟩,by simp; omega,by omega,(_,_,_),?_,by (try dsimp only); and_intros <;> trivial,?_⟩
    ·(try dsimp only); omega
    ·(try dsimp only)
     have hi2:((i:Int) + 1).toNat=i + 1:=by omega
     obtain ⟨es',e1,e2,e3,e4⟩:=next (cy + xs[i]) (by omega) (by
      rw [val_take_succ _ _ (by omega),val_take_of_le (ds:=ys) (i:=i + 1) (by omega)]
      have:=add_step (y:=0) hv (d:=cy + xs[i]) rfl
      rwa [val_take_of_le (ds:=ys) (by omega),Nat.mul_zero,Nat.add_zero] at this)
     refine ⟨by omega,by omega,by omega,by omega,es',?_,e2,e3,?_⟩
     ·rw [← e1]; simp
     ·rw [hi2,← e4]; congr 2
  ·have h3:i=n:=by simp at h3; omega
   subst h3
   simp (disch:=omega) only [u32w]
   refine ⟨⟨by omega,by omega⟩,by simp; omega,fun V3 l3 bk hb=>?_⟩
   have e1:(u32s es).set (0 + ((i:Int).toNat) * 1) (.int .u32 (cy:Int))=u32s (es.set i cy):=by rw [← u32s_set]; simp
   rw [e1] at hb
   have hd2:=hde.set i cy (by omega)
   refine (c_nat_trim (RD.blk hb hd2 (n:=i + 1) (c:=i + 1) (by simp; omega) (Nat.le_refl _)) (by simp; omega)).mono ?_
   rintro r V4 l4 ⟨k,rfl,h4⟩
   refine ⟨_,_,_,rfl,fun _ V5 l5=>⟨_,_,_,rfl,?_⟩⟩
   rw [trimD_eq hd2] at h4
   have e2:val (es.set i cy)=val xs + val ys:=by
    have:=val_take_set es i cy (by omega)
    rw [val_take_of_le (by simp; omega)] at this
    rw [this,hv,val_take_of_le (by omega),val_take_of_le (by omega)]
   rw [e2] at h4
   exact h4.le l5
end Go.Proofs.Tryz
/- Contracts of package nat: Sub, Uint, Mul, short. -/
namespace Go.Proofs.Tryz
open Go.Eng Go.Big
/-- One step of a subtraction with a borrow. -/
theorem sub_step {E A B c x y W:Nat} (h:E + B=A + W * c) {v:Int} (hc:c<=1) (hx:x < 4294967296) (hy:y < 4294967296) (hv:v=((x:Int) - (c + y)) % 18446744073709551616) :
  0<=v/\v / 9223372036854775808<=1/\0<=v / 9223372036854775808/\E + W * (v % 4294967296).toNat + (B + W * y)=A + W * x + W * 4294967296 * (v / 9223372036854775808).toNat:=by
 rcases Nat.lt_or_ge x (c + y) with hl | hl
 ·have e1:v=18446744073709551616 + (x:Int) - (c + y):=by omega
  have e2:(v / 9223372036854775808).toNat=1:=by omega
  have e3:(v % 4294967296).toNat + (c + y)=x + 4294967296:=by omega
  refine ⟨by omega,by omega,by omega,?_⟩
  rw [e2,Nat.mul_one]
  have:=congrArg (W * ·) e3
  simp only [Nat.mul_add] at this
  omega
 ·have e1:v=(x:Int) - (c + y):=by omega
  have e2:(v / 9223372036854775808).toNat=0:=by omega
  have e3:(v % 4294967296).toNat + (c + y)=x:=by omega
  refine ⟨by omega,by omega,by omega,?_⟩
  rw [e2,Nat.mul_zero,Nat.add_zero]
  have:=congrArg (W * ·) e3
  simp only [Nat.mul_add] at this
  omega
theorem c_nat_less {V:View} {p q:OA} {n c m e:Nat} {xs ys:List Nat} (hx:RD V p n c xs) (hy:RD V q m e ys) (hm:xs.length<=1099511627776) (hl:ys.length<=xs.length) (hle:val ys<=val xs) :
  Acts prog 234 #[.slice p n c,.slice q m e] V fun r V'=>∃p' n' c',r=.slice p' n' c'/\RN V' p' n' c' (val xs - val ys):=by
 have hlx:=hx.len
 have hly:=hy.len
 refine vc_nat_less p n c q m e V _ ⟨by omega,by omega,by omega,fun z V'=>0<=z.1/\z.1<=1/\0<=z.2.1/\z.2.1<=n/\∃es:List Nat,z.2.2=u32s es/\es.length=n/\Dig es /\
   val (es.take z.2.1.toNat) + val (ys.take z.2.1.toNat)=val (xs.take z.2.1.toNat) + 4294967296 ^ z.2.1.toNat * z.1.toNat,fun z=>n - z.2.1.toNat,
   ⟨(0,0,List.replicate n (.int .u32 0)),by (try dsimp only); and_intros <;> trivial,by (try dsimp only); omega,by (try dsimp only); omega,by (try dsimp only); omega,by (try dsimp only); omega,List.replicate n 0,u32s_rep n,by simp,Dig.rep _,by simp⟩,?_⟩
 rintro ⟨cy,i,vs⟩ V2 l2 ⟨hc0,hc1,hi0,hi1,es,rfl,hes,hde,hv⟩
 dsimp only at hc0 hc1 hi0 hi1 hv ⊢
 obtain ⟨i,rfl⟩:=Int.eq_ofNat_of_zero_le hi0
 obtain ⟨cy,rfl⟩:=Int.eq_ofNat_of_zero_le hc0
 simp only [Int.toNat_natCast] at hv
 refine ⟨by trivial,fun h3=>?_,fun h3=>?_⟩
 ·have h3:i < n:=by simpa using h3
  refine (hx.le l2).rd i rfl (by omega) ?_
  have hdx:=hx.dig.get (i:=i) (by omega)
  refine ⟨fun z V'=>∃y:Nat,z=cy + y/\y < 4294967296/\val (ys.take (i + 1))=val (ys.take i) + 4294967296 ^ i * y,⟨fun h4=>?_,fun h4=>?_⟩,?_⟩
  ·have h4:i < m:=by simpa using h4
   refine (hy.le l2).rd i rfl (by omega) ?_
   have hdy:=hy.dig.get (i:=i) (by omega)
   simp (disch:=omega) only [u64w]
   exact ⟨_,by (try dsimp only); and_intros <;> trivial,ys[i],rfl,hdy,val_take_succ _ _ (by omega)⟩
  ·have h4:m<=i:=by simpa using h4
   exact ⟨_,by (try dsimp only); and_intros <;> trivial,0,by simp,by omega,by rw [val_take_of_le (by omega),val_take_of_le (by omega)]; simp⟩
  ·rintro t V3 l3 ⟨y,rfl,hdy,hy'⟩
   refine ⟨by trivial,⟨by omega,by simpa using h3⟩,by simp; omega,by omega,?_⟩
   simp (disch:=omega) only [u64w,i64w,u64m,u32m,shr63]
   obtain ⟨v,hv'⟩:∃v:Int,v=((xs[i]:Int) - ((cy:Int) + (y:Int))) % 18446744073709551616:=⟨_,rfl⟩
   obtain ⟨g1,g2,g3,g4⟩:=sub_step hv (by omega) hdx hdy hv'
   rw [← hv']
   refine ⟨(_,_,_),?_,by (try dsimp only); and_intros <;> trivial,?_⟩
   ·(try dsimp only); omega
   ·(try dsimp only)
    have hi2:((i:Int) + 1).toNat=i + 1:=by omega
    refine ⟨g3,g2,by omega,by omega,es.set i (v % 4294967296).toNat,?_,by simpa using hes,hde.set _ _ (by omega),?_⟩
    ·rw [← u32s_set]
     congr 2
     ·simp
     ·omega
    ·rw [hi2,val_take_set _ _ _ (by omega),hy',g4,val_take_succ _ _ (by omega),Nat.pow_succ]
 ·have h3:i=n:=by simp at h3; omega
  subst h3
  intro V3 l3 bk hb
  refine (c_nat_trim (RD.blk hb hde (n:=i) (c:=i) hes.symm (Nat.le_refl _)) (by omega)).mono ?_
  rintro r V4 l4 ⟨k,rfl,h4⟩
  refine ⟨_,_,_,rfl,fun _ V5 l5=>⟨_,_,_,rfl,?_⟩⟩
  rw [trimD_eq hde] at h4
  rw [val_take_of_le (by omega),val_take_of_le (by omega),val_take_of_le (by omega)] at hv
  have e1:=val_lt hde
  rw [hes] at e1
  have e2:cy=0:=by
   rcases Nat.eq_zero_or_pos cy with h | h
   ·exact h
   ·have:4294967296 ^ i * 1<=4294967296 ^ i * cy:=Nat.mul_le_mul_left _ h
    omega
  subst e2
  rw [show val es=val xs - val ys from by omega] at h4
  exact h4.le l5
theorem cmpN_neg {a b:Nat}:cmpN a b < 0↔a < b:=by
 unfold cmpN
 split
 ·simp; omega
 ·split <;> simp <;> omega
theorem cmpN_zero {a b:Nat}:cmpN a b=0↔a=b:=by
 unfold cmpN
 split
 ·simp; omega
 ·split
  ·simp; omega
  ·simp; omega
theorem c_nat_Sub {V:View} {p q:OA} {n c m e:Nat} {xa xb:List Nat} (ha:RD V p n c xa) (hb:RD V q m e xb) (hm:xa.length<=1099511627776) (hn:xb.length<=1099511627776) :
  Acts prog 230 #[.slice p n c,.slice q m e] V fun r V'=>∃p' n' c',r=.tuple #[.slice p' n' c',.bool (decide (val xb<=val xa))]/\RN V' p' n' c' (val xa - val xb):=by
 refine vc_nat_Sub p n c q m e V _ fun V1 l1=>(c_nat_Cmp (ha.le l1) (hb.le l1) hm hn).mono ?_
 rintro r V2 l2 rfl
 refine ⟨_,rfl,fun h0 V3 l3=>?_,fun h0 V3 l3=>?_⟩
 ·have h0:val xa < val xb:=by simpa [cmpN_neg] using h0
  rw [Nat.sub_eq_zero_of_le (by omega),decide_eq_false (by omega)]
  exact ⟨_,_,_,rfl,RD.nil⟩
 ·have h0:val xb<=val xa:=by simpa [← Int.not_lt,cmpN_neg] using h0
  rw [decide_eq_true h0]
  refine (c_nat_trim ((ha.le l1).le (l2.trans l3)) (by omega)).mono ?_
  rintro r V4 l4 ⟨n1,rfl,h1⟩
  refine ⟨_,_,_,rfl,fun V5 l5=>(c_nat_trim ((hb.le l1).le (l2.trans (l3.trans (l4.trans l5)))) (by omega)).mono ?_⟩
  rintro r V6 l6 ⟨n2,rfl,h2⟩
  rw [trimD_eq ha.dig] at h1
  rw [trimD_eq hb.dig] at h2
  have:=digs_val_len ha.dig
  refine ⟨_,_,_,rfl,fun V7 l7=>(c_nat_less (h1.le (l5.trans (l6.trans l7))) (h2.le l7) (by omega) (digs_len_mono h0) (by rw [val_digs,val_digs]; exact h0)).mono ?_⟩
  rintro r V8 l8 ⟨p',n',c',rfl,h3⟩
  rw [val_digs,val_digs] at h3
  exact ⟨_,_,_,rfl,fun V9 l9=>⟨_,_,_,rfl,h3.le l9⟩⟩
end Go.Proofs.Tryz
/- By program: the conditions of the functions, from their loaded code. -/
namespace Go.Proofs.Tryz
open Go.Eng
set_option maxRecDepth 100000
theorem vc_math_bits_Len32 (x:Int) (V:View) (R:Value->View->Prop)
  (h:(∃I1_:(Int × Int)->View->Prop,(((decide (x ≥ (65536:Int)))=true->(0<=(16:Int))/\(∃z2_:Int × Int,(((x.fdiv (2 ^ 16))=z2_.1)/\((16:Int)=z2_.2))/\I1_ z2_ V))/\((decide (x ≥ (65536:Int)))=false->(∃z3_:Int × Int,((x=z3_.1)/\((0:Int)=z3_.2))/\I1_ z3_ V)))/\∀(z4_:Int × Int) (V1:View),V.Le V1->I1_ z4_ V1->(true=true/\(∃I5_:(Int × Int)->View->Prop,(((decide (z4_.1 ≥ (256:Int)))=true->(0<=(8:Int))/\(∃z6_:Int × Int,(((z4_.1.fdiv (2 ^ 8))=z6_.1)/\((i64.wrap (z4_.2 + (8:Int)))=z6_.2))/\I5_ z6_ V1))/\((decide (z4_.1 ≥ (256:Int)))=false->(∃z7_:Int × Int,((z4_.1=z7_.1)/\(z4_.2=z7_.2))/\I5_ z7_ V1)))/\∀(z8_:Int × Int) (V2:View),V1.Le V2->I5_ z8_ V2->(true=true/\(0<=(IntKind.u8.wrap (z8_.1))/\(IntKind.u8.wrap (z8_.1)) < (((⟨#[0,1,2,2,3,3,3,3,4,4,4,4,4,4,4,4,5,5,5,5,5,5,5,5,5,5,5,5,5,5,5,5,6,6,6,6,6,6,6,6,6,6,6,6,6,6,6,6,6,6,6,6,6,6,6,6,6,6,6,6,6,6,6,6,7,7,7,7,7,7,7,7,7,7,7,7,7,7,7,7,7,7,7,7,7,7,7,7,7,7,7,7,7,7,7,7,7,7,7,7,7,7,7,7,7,7,7,7,7,7,7,7,7,7,7,7,7,7,7,7,7,7,7,7,7,7,7,7,8,8,8,8,8,8,8,8,8,8,8,8,8,8,8,8,8,8,8,8,8,8,8,8,8,8,8,8,8,8,8,8,8,8,8,8,8,8,8,8,8,8,8,8,8,8,8,8,8,8,8,8,8,8,8,8,8,8,8,8,8,8,8,8,8,8,8,8,8,8,8,8,8,8,8,8,8,8,8,8,8,8,8,8,8,8,8,8,8,8,8,8,8,8,8,8,8,8,8,8,8,8,8,8,8,8,8,8,8,8,8,8,8,8,8,8,8,8,8,8,8,8,8,8,8,8,8,8]⟩:ByteArray).size:Nat):Int))/\(∀V3,V2.Le V3->R (.int .i64 (i64.wrap (z8_.2 + (i64.wrap ((((⟨#[0,1,2,2,3,3,3,3,4,4,4,4,4,4,4,4,5,5,5,5,5,5,5,5,5,5,5,5,5,5,5,5,6,6,6,6,6,6,6,6,6,6,6,6,6,6,6,6,6,6,6,6,6,6,6,6,6,6,6,6,6,6,6,6,7,7,7,7,7,7,7,7,7,7,7,7,7,7,7,7,7,7,7,7,7,7,7,7,7,7,7,7,7,7,7,7,7,7,7,7,7,7,7,7,7,7,7,7,7,7,7,7,7,7,7,7,7,7,7,7,7,7,7,7,7,7,7,7,8,8,8,8,8,8,8,8,8,8,8,8,8,8,8,8,8,8,8,8,8,8,8,8,8,8,8,8,8,8,8,8,8,8,8,8,8,8,8,8,8,8,8,8,8,8,8,8,8,8,8,8,8,8,8,8,8,8,8,8,8,8,8,8,8,8,8,8,8,8,8,8,8,8,8,8,8,8,8,8,8,8,8,8,8,8,8,8,8,8,8,8,8,8,8,8,8,8,8,8,8,8,8,8,8,8,8,8,8,8,8,8,8,8,8,8,8,8,8,8,8,8,8,8,8,8,8,8]⟩:ByteArray).data.toList.getD ((IntKind.u8.wrap (z8_.1)).toNat) 0).toNat:Int)))))) V3)))))) :
  Acts prog 231 #[.int .u32 x] V R:=
 fn_does (LF:=LF0) (RF:=[1000007]) (β0:=(fun _=>0)) tab_ok mixed [] [(2,{ τ:=Int × Int,keep:=[],keepB:=[],slots:=fun z=>[(0,.c (.v (.int .u32 z.1))),(2,.c (.v (.int .i64 z.2)))],boxes:=fun z=>[] }),(5,{ τ:=Int × Int,keep:=[],keepB:=[],slots:=fun z=>[(0,.c (.v (.int .u32 z.1))),(2,.c (.v (.int .i64 z.2)))],boxes:=fun z=>[] })] func231 (by kernel_rfl)
  [(0,.c (.v (.int .u32 x)))]
  [] (by kernel_rfl) trivial h (by kernel_rfl)
theorem vc_math_bits_LeadingZeros32 (x:Int) (V:View) (R:Value->View->Prop)
  (h:(∀V1,V.Le V1->Acts prog 231 #[.int .u32 x] V1 fun r1_ V2=>∃x1_,r1_=.int .i64 x1_/\(∀V3,V2.Le V3->R (.int .i64 (i64.wrap ((32:Int) - x1_))) V3))) :
  Acts prog 219 #[.int .u32 x] V R:=
 fn_does (LF:=LF0) (RF:=[1000007]) (β0:=(fun _=>0)) tab_ok mixed [] [] func219 (by kernel_rfl)
  [(0,.c (.v (.int .u32 x)))]
  [] (by kernel_rfl) trivial h (by kernel_rfl)
theorem vc_math_bits_Add32 (x:Int) (y:Int) (carry:Int) (V:View) (R:Value->View->Prop)
  (h:(0<=(32:Int))/\(∀V1,V.Le V1->R (.tuple #[.int .u32 (u32.wrap (u64.wrap ((u64.wrap ((u64.wrap x) + (u64.wrap y))) + (u64.wrap carry)))),.int .u32 (u32.wrap ((u64.wrap ((u64.wrap ((u64.wrap x) + (u64.wrap y))) + (u64.wrap carry))).fdiv (2 ^ 32)))]) V1)) :
  Acts prog 211 #[.int .u32 x,.int .u32 y,.int .u32 carry] V R:=
 fn_does (LF:=LF0) (RF:=[1000007]) (β0:=(fun _=>0)) tab_ok mixed [] [] func211 (by kernel_rfl)
  [(0,.c (.v (.int .u32 x))),(1,.c (.v (.int .u32 y))),(2,.c (.v (.int .u32 carry)))]
  [] (by kernel_rfl) trivial h (by kernel_rfl)
theorem vc_math_bits_Sub32 (x:Int) (y:Int) (borrow:Int) (V:View) (R:Value->View->Prop)
  (h:(0<=(31:Int))/\(∀V1,V.Le V1->R (.tuple #[.int .u32 (u32.wrap ((u32.wrap (x - y)) - borrow)),.int .u32 ((bitI .or .u32 (bitI .and .u32 (bitI .xor .u32 (IntKind.u32.max) x) y) (bitI .and .u32 (bitI .xor .u32 (IntKind.u32.max) (bitI .xor .u32 x y)) (u32.wrap ((u32.wrap (x - y)) - borrow)))).fdiv (2 ^ 31))]) V1)) :
  Acts prog 212 #[.int .u32 x,.int .u32 y,.int .u32 borrow] V R:=
 fn_does (LF:=LF0) (RF:=[1000007]) (β0:=(fun _=>0)) tab_ok mixed [] [] func212 (by kernel_rfl)
  [(0,.c (.v (.int .u32 x))),(1,.c (.v (.int .u32 y))),(2,.c (.v (.int .u32 borrow)))]
  [] (by kernel_rfl) trivial h (by kernel_rfl)
theorem vc_math_bits_Mul64 (x:Int) (y:Int) (V:View) (R:Value->View->Prop)
  (h:(0<=(32:Int))/\(0<=(32:Int))/\(0<=(32:Int))/\(0<=(32:Int))/\(0<=(32:Int))/\(∀V1,V.Le V1->R (.tuple #[.int .u64 (u64.wrap ((u64.wrap ((u64.wrap ((x.fdiv (2 ^ 32)) * (y.fdiv (2 ^ 32)))) + ((u64.wrap ((u64.wrap ((x.fdiv (2 ^ 32)) * (bitI .and .u64 y (4294967295:Int)))) + ((u64.wrap ((bitI .and .u64 x (4294967295:Int)) * (bitI .and .u64 y (4294967295:Int)))).fdiv (2 ^ 32)))).fdiv (2 ^ 32)))) + ((u64.wrap ((bitI .and .u64 (u64.wrap ((u64.wrap ((x.fdiv (2 ^ 32)) * (bitI .and .u64 y (4294967295:Int)))) + ((u64.wrap ((bitI .and .u64 x (4294967295:Int)) * (bitI .and .u64 y (4294967295:Int)))).fdiv (2 ^ 32)))) (4294967295:Int)) + (u64.wrap ((bitI .and .u64 x (4294967295:Int)) * (y.fdiv (2 ^ 32)))))).fdiv (2 ^ 32)))),.int .u64 (u64.wrap (x * y))]) V1)) :
  Acts prog 227 #[.int .u64 x,.int .u64 y] V R:=
 fn_does (LF:=LF0) (RF:=[1000007]) (β0:=(fun _=>0)) tab_ok mixed [] [] func227 (by kernel_rfl)
  [(0,.c (.v (.int .u64 x))),(1,.c (.v (.int .u64 y)))]
  [] (by kernel_rfl) trivial h (by kernel_rfl)
theorem vc_math_bits_Div32 (hi:Int) (lo:Int) (y:Int) (V:View) (R:Value->View->Prop)
  (h:(((y != (0:Int))=true->(((decide (y<=hi))=true->(∃y1_,(∃a2_,(some ⟨1,0,none⟩:OA)=some a2_/\V.at a2_ (y1_))/\False))/\((decide (y<=hi))=false->(0<=(32:Int))/\((u64.wrap y)≠0)/\((u64.wrap y)≠0)/\(∀V1,V.Le V1->R (.tuple #[.int .u32 (u32.wrap (u64.wrap ((bitI .or .u64 (u64.wrap ((u64.wrap hi) * 2 ^ 32)) (u64.wrap lo)).tdiv (u64.wrap y)))),.int .u32 (u32.wrap ((bitI .or .u64 (u64.wrap ((u64.wrap hi) * 2 ^ 32)) (u64.wrap lo)).tmod (u64.wrap y)))]) V1))))/\((y != (0:Int))=false->(0<=(32:Int))/\((u64.wrap y)≠0)/\((u64.wrap y)≠0)/\(∀V2,V.Le V2->R (.tuple #[.int .u32 (u32.wrap (u64.wrap ((bitI .or .u64 (u64.wrap ((u64.wrap hi) * 2 ^ 32)) (u64.wrap lo)).tdiv (u64.wrap y)))),.int .u32 (u32.wrap ((bitI .or .u64 (u64.wrap ((u64.wrap hi) * 2 ^ 32)) (u64.wrap lo)).tmod (u64.wrap y)))]) V2)))) :
  Acts prog 207 #[.int .u32 hi,.int .u32 lo,.int .u32 y] V R:=
 fn_does (LF:=LF0) (RF:=[1000007]) (β0:=(fun _=>0)) tab_ok mixed [] [] func207 (by kernel_rfl)
  [(0,.c (.v (.int .u32 hi))),(1,.c (.v (.int .u32 lo))),(2,.c (.v (.int .u32 y)))]
  [] (by kernel_rfl) trivial h (by kernel_rfl)
end Go.Proofs.Tryz
