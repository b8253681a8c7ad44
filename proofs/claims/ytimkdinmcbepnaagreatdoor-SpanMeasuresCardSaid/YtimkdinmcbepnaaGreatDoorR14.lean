/- A part of the proof (joined by program from: VFrC, CombA, CombB, CombC, CombD, CombE). -/
import Derived.Test.YtimkdinmcbepnaaGreatDoorR5
import Derived.Test.YtimkdinmcbepnaaGreatDoorR13
set_option linter.unusedVariables false
open Go.IntKind (i64 u64 u32)
/- By program: the conditions of the functions, from their loaded code. -/
namespace Go.Proofs.Tryz
open Go.Eng
open Go.Value renaming int→I,pointer→P,slice→S,agg→A,bool→B,tuple→T
open Go.IntKind renaming i64→J,u64→U,u32→W
set_option maxRecDepth 100000
theorem vc_ref06_ends (q:OA) (e r:Nat) (V:View) (R:VR) (h:(∃(d2:(Nat × Nat × (List Value) × Int)->VP) (e3:(Nat × Nat × (List Value) × Int)->Nat),(∃c2,(s5 q e r (e:Int) (none:OA) (((0:Nat)=c2.1)/\((0:Nat)=c2.2.1)/\sm 0/\((0:Int)=c2.2.2.2)/\(c2.2.2.1=[])))/\d2 c2 V)/\∀(f:Nat × Nat × (List Value) × Int) (a9:View),V.Le a9->d2 f a9->(true=true/\(((decide (f.2.2.2 < (e:Int)))=true->(q.isSome=true)/\(0<=f.2.2.2/\f.2.2.2 < (e:Int))/\(∃u,∃w x y,∃z a0 a1,∃a2,∃a3 a4 a5,∃a6 a7 a8,∃s,∃t,∃b2,addrAdd q (f.2.2.2.toNat * 8)=some b2/\a9.at (b2.add 0) (B u)/\a9.at (b2.add 1) (S w x y)/\a9.at (b2.add 2) (S z a0 a1)/\a9.at (b2.add 3) (B a2)/\a9.at (b2.add 4) (S a3 a4 a5)/\a9.at (b2.add 5) (S a6 a7 a8)/\a9.at (b2.add 6) (B s)/\a9.at (b2.add 7) (B t)/\(∃e4:(Nat × Nat × (List Value) × Int × Int)->VP,(∃b4,(((f.1:Nat)=f.1)/\((f.2.1:Nat)=f.2.1)/\s7 0 q e r (e:Int) f.2.2.2 0 (((2:Nat)=b4.1)/\((2:Nat)=b4.2.1)/\((2:Nat)≠0)/\((2:Int)=b4.2.2.2.1)/\((0:Int)=b4.2.2.2.2)/\s12 f.2.2.1 u w x y z a0 a1 a2 a3 a4 a5 (s5 a6 a7 a8 s t ((([B u,S w x y,S z a0 a1,B a2,S a3 a4 a5,S a6 a7 a8]:List Value)=b4.2.2.1)))))/\e4 b4 a9)/\∀(b:Nat × Nat × (List Value) × Int × Int) (c8:View),a9.Le c8->e4 b c8->(true=true/\(∃(c3:(Nat × Nat × (List Value) × Int)->VP) (b5:(Nat × Nat × (List Value) × Int)->Nat),(∃c4,(s6 0 q e r (e:Int) f.2.2.2 (((b.1:Nat)=b.1)/\((b.2.1:Nat)=b.2.1)/\sm b.2.2.2.1/\((f.1:Nat)=c4.1)/\((f.2.1:Nat)=c4.2.1)/\(b.2.2.2.2=c4.2.2.2)/\s12 u w x y z a0 a1 a2 a3 a4 a5 a6 (s5 a7 a8 s t b.2.2.1 ((f.2.2.1=c4.2.2.1)))))/\c3 c4 c8)/\∀(a:Nat × Nat × (List Value) × Int) (b3:View),c8.Le b3->c3 a b3->(true=true/\(((decide (a.2.2.2 < b.2.2.2.1))=true->(0<=a.2.2.2/\a.2.2.2 < ((b.1:Nat):Int))/\(b.1<=b.2.1)/\(∃i,∃k l m,∃n o p,((a.2.2.2.toNat * 3) + 3<=b.2.2.1.length/\(b.2.2.1.drop (a.2.2.2.toNat * 3)).take 3=[B i,S k l m,S n o p])/\(∃b6:Bool->VP,(((a.2.2.2 == (0:Int))=true->((s=true->(∃e5:Bool,(((a.1:Nat)=a.1)/\((a.2.1:Nat)=a.2.1)/\s7 0 0 q e r (e:Int) f.2.2.2 (((b.1:Nat)=b.1)/\((b.2.1:Nat)=b.2.1)/\sm b.2.2.2.1/\sm a.2.2.2/\(true=e5)/\s12 a.2.2.1 u w x y z a0 a1 a2 a3 a4 a5 (s12 a6 a7 a8 s t i k l m n o p (sm b.2.2.1))))/\b6 e5 b3))/\(s=false->(((a.2.2.2 == (1:Int))=true->(∃e6:Bool,(((a.1:Nat)=a.1)/\((a.2.1:Nat)=a.2.1)/\s7 0 0 q e r (e:Int) f.2.2.2 (((b.1:Nat)=b.1)/\((b.2.1:Nat)=b.2.1)/\sm b.2.2.2.1/\sm a.2.2.2/\(t=e6)/\s12 a.2.2.1 u w x y z a0 a1 a2 a3 a4 a5 (s12 a6 a7 a8 s t i k l m n o p (sm b.2.2.1))))/\b6 e6 b3))/\((a.2.2.2 == (1:Int))=false->(∃e7:Bool,(((a.1:Nat)=a.1)/\((a.2.1:Nat)=a.2.1)/\s7 0 0 q e r (e:Int) f.2.2.2 (((b.1:Nat)=b.1)/\((b.2.1:Nat)=b.2.1)/\sm b.2.2.2.1/\sm a.2.2.2/\(false=e7)/\s12 a.2.2.1 u w x y z a0 a1 a2 a3 a4 a5 (s12 a6 a7 a8 s t i k l m n o p (sm b.2.2.1))))/\b6 e7 b3))))))/\((a.2.2.2 == (0:Int))=false->(((a.2.2.2 == (1:Int))=true->(∃e8:Bool,(((a.1:Nat)=a.1)/\((a.2.1:Nat)=a.2.1)/\s7 0 0 q e r (e:Int) f.2.2.2 (((b.1:Nat)=b.1)/\((b.2.1:Nat)=b.2.1)/\sm b.2.2.2.1/\sm a.2.2.2/\(t=e8)/\s12 a.2.2.1 u w x y z a0 a1 a2 a3 a4 a5 (s12 a6 a7 a8 s t i k l m n o p (sm b.2.2.1))))/\b6 e8 b3))/\((a.2.2.2 == (1:Int))=false->(∃e9:Bool,(((a.1:Nat)=a.1)/\((a.2.1:Nat)=a.2.1)/\s7 0 0 q e r (e:Int) f.2.2.2 (((b.1:Nat)=b.1)/\((b.2.1:Nat)=b.2.1)/\sm b.2.2.2.1/\sm a.2.2.2/\(false=e9)/\s12 a.2.2.1 u w x y z a0 a1 a2 a3 a4 a5 (s12 a6 a7 a8 s t i k l m n o p (sm b.2.2.1))))/\b6 e9 b3)))))/\∀(d3:Bool) (c5:View),b3.Le c5->b6 d3 c5->(true=true/\((d3=true->(∃b7:Nat × Nat × (List Value) × Int,b5 b7 < b5 a/\(s6 0 q e r (e:Int) f.2.2.2 (((b.1:Nat)=b.1)/\((b.2.1:Nat)=b.2.1)/\sm b.2.2.2.1/\((a.1:Nat)=b7.1)/\((a.2.1:Nat)=b7.2.1)/\((J.wrap (a.2.2.2 + (1:Int)))=b7.2.2.2)/\s12 u w x y z a0 a1 a2 a3 a4 a5 a6 (s5 a7 a8 s t b.2.2.1 ((a.2.2.1=b7.2.2.1)))))/\c3 b7 c5))/\(d3=false->(∃(d4:Int->VP) (f0:Int->Nat),(∃f1:Int,(((a.1:Nat)=a.1)/\((a.2.1:Nat)=a.2.1)/\s7 0 0 q e r (e:Int) f.2.2.2 (((b.1:Nat)=b.1)/\((b.2.1:Nat)=b.2.1)/\sm b.2.2.2.1/\sm a.2.2.2/\((0:Int)=f1)/\s12 a.2.2.1 u w x y z a0 a1 a2 a3 a4 a5 (s12 a6 a7 a8 s t i k l m n o p (sm b.2.2.1))))/\d4 f1 c5)/\∀(d:Int) (c6:View),c5.Le c6->d4 d c6->(true=true/\(∃d5:Bool->VP,(((decide (d < ((a.1:Nat):Int)))=true->(0<=d/\d < ((a.1:Nat):Int))/\(a.1<=a.2.1)/\(∃f2,∃f3 f4 f5,∃f6 f7 f8,((d.toNat * 3) + 3<=a.2.2.1.length/\(a.2.2.1.drop (d.toNat * 3)).take 3=[B f2,S f3 f4 f5,S f6 f7 f8])/\(Ca c6 22 #[A #[B f2,S f3 f4 f5,S f6 f7 f8],A #[B i,S k l m,S n o p]] fun i5 i6=>∃f9,i5=I J f9/\(∃g0:Bool,(((a.1:Nat)=a.1)/\((a.2.1:Nat)=a.2.1)/\s8 0 0 d q e r (e:Int) f.2.2.2 (((b.1:Nat)=b.1)/\((b.2.1:Nat)=b.2.1)/\sm b.2.2.2.1/\sm a.2.2.2/\((decide (f9 < (0:Int)))=g0)/\s12 a.2.2.1 u w x y z a0 a1 a2 a3 a4 a5 (s12 a6 a7 a8 s t i k l m n o p (sm b.2.2.1))))/\d5 g0 i6))))/\((decide (d < ((a.1:Nat):Int)))=false->(∃g1:Bool,(((a.1:Nat)=a.1)/\((a.2.1:Nat)=a.2.1)/\s8 0 0 d q e r (e:Int) f.2.2.2 (((b.1:Nat)=b.1)/\((b.2.1:Nat)=b.2.1)/\sm b.2.2.2.1/\sm a.2.2.2/\(false=g1)/\s12 a.2.2.1 u w x y z a0 a1 a2 a3 a4 a5 (s12 a6 a7 a8 s t i k l m n o p (sm b.2.2.1))))/\d5 g1 c6)))/\∀(d6:Bool) (b8:View),c6.Le b8->d5 d6 b8->(true=true/\((d6=true->(∃d7:Int,f0 d7 < f0 d/\(((a.1:Nat)=a.1)/\((a.2.1:Nat)=a.2.1)/\s7 0 0 q e r (e:Int) f.2.2.2 (((b.1:Nat)=b.1)/\((b.2.1:Nat)=b.2.1)/\sm b.2.2.2.1/\sm a.2.2.2/\((J.wrap (d + (1:Int)))=d7)/\s12 a.2.2.1 u w x y z a0 a1 a2 a3 a4 a5 (s12 a6 a7 a8 s t i k l m n o p (sm b.2.2.1))))/\d4 d7 b8))/\(d6=false->(∃d8:Bool->VP,(((d == ((a.1:Nat):Int))=true->(∃g2:Bool,(((a.1:Nat)=a.1)/\((a.2.1:Nat)=a.2.1)/\s8 0 0 d q e r (e:Int) f.2.2.2 (((b.1:Nat)=b.1)/\((b.2.1:Nat)=b.2.1)/\sm b.2.2.2.1/\sm a.2.2.2/\(true=g2)/\s12 a.2.2.1 u w x y z a0 a1 a2 a3 a4 a5 (s12 a6 a7 a8 s t i k l m n o p (sm b.2.2.1))))/\d8 g2 b8))/\((d == ((a.1:Nat):Int))=false->(0<=d/\d < ((a.1:Nat):Int))/\(a.1<=a.2.1)/\(∃g3,∃g4 g5 g6,∃g7 g8 g9,((d.toNat * 3) + 3<=a.2.2.1.length/\(a.2.2.1.drop (d.toNat * 3)).take 3=[B g3,S g4 g5 g6,S g7 g8 g9])/\(Ca b8 22 #[A #[B g3,S g4 g5 g6,S g7 g8 g9],A #[B i,S k l m,S n o p]] fun i7 i8=>∃i0,i7=I J i0/\(∃i1:Bool,(((a.1:Nat)=a.1)/\((a.2.1:Nat)=a.2.1)/\s8 0 0 d q e r (e:Int) f.2.2.2 (((b.1:Nat)=b.1)/\((b.2.1:Nat)=b.2.1)/\sm b.2.2.2.1/\sm a.2.2.2/\((i0 != (0:Int))=i1)/\s12 a.2.2.1 u w x y z a0 a1 a2 a3 a4 a5 (s12 a6 a7 a8 s t i k l m n o p (sm b.2.2.1))))/\d8 i1 i8)))))/\∀(d9:Bool) (c9:View),b8.Le c9->d8 d9 c9->(true=true/\((d9=true->(∀c7,c9.Le c7->∀d0:Nat,(a.2.2.1≠[]->c7.blk d0 (.cells a.2.2.1.toArray 42 (0,0)))->∀i9:C->Value,(0<=d/\d<=((a.2.1:Nat):Int))/\(0<=d/\d<=((d.toNat:Nat):Int))/\(0<=d/\d<=((a.1:Nat):Int))/\(∃b0:List Value,c7.sl (slA (mA d0 a.2.1) a.2.1 d.toNat 3) b0/\b0.length=(a.1 - d.toNat) * 3/\((1 + (a.1 - d.toNat)) * 56<=140737488355328/\1<=1/\1 * 3<=([B i,S k l m,S n o p]:List Value).length/\b0.length=(a.1 - d.toNat) * 3/\(∀e0 ∈ b0,e0.oneCell'=true)/\∀(k0:Nat) (k1:C->Value) (b1:List Value) (i2:Nat),1 + (a.1 - d.toNat)<=i2->i2 * 3<=(1 + (a.1 - d.toNat)) * 3 + b1.length->(∃e1:List Value,c7.sl (mA d0 a.2.1) e1/\e1.length=d.toNat * 3/\d.toNat<=d.toNat/\((mA d0 a.2.1).isNone=true->d.toNat=0)/\((d.toNat + ((rowTake (([B i,S k l m,S n o p]:List Value).take (1 * 3)++b0++b1) 0 ((1 + (a.1 - d.toNat)) * 3)).length / 3)) * 56<=140737488355328/\d.toNat < d.toNat + ((rowTake (([B i,S k l m,S n o p]:List Value).take (1 * 3)++b0++b1) 0 ((1 + (a.1 - d.toNat)) * 3)).length / 3)/\(rowTake (([B i,S k l m,S n o p]:List Value).take (1 * 3)++b0++b1) 0 ((1 + (a.1 - d.toNat)) * 3)).length=((rowTake (([B i,S k l m,S n o p]:List Value).take (1 * 3)++b0++b1) 0 ((1 + (a.1 - d.toNat)) * 3)).length / 3) * 3/\(∀e0 ∈ (rowTake (([B i,S k l m,S n o p]:List Value).take (1 * 3)++b0++b1) 0 ((1 + (a.1 - d.toNat)) * 3)),e0.oneCell'=true)/\∀(i3:List Value) (d1:Nat),d.toNat + ((rowTake (([B i,S k l m,S n o p]:List Value).take (1 * 3)++b0++b1) 0 ((1 + (a.1 - d.toNat)) * 3)).length / 3)<=d1->d1 * 3<=(d.toNat + ((rowTake (([B i,S k l m,S n o p]:List Value).take (1 * 3)++b0++b1) 0 ((1 + (a.1 - d.toNat)) * 3)).length / 3)) * 3 + i3.length->(∃b9:Nat × Nat × (List Value) × Int,b5 b9 < b5 a/\(s6 0 q e r (e:Int) f.2.2.2 (((b.1:Nat)=b.1)/\((b.2.1:Nat)=b.2.1)/\sm b.2.2.2.1/\sm 0/\((d.toNat + ((rowTake (([B i,S k l m,S n o p]:List Value).take (1 * 3)++b0++b1) 0 ((1 + (a.1 - d.toNat)) * 3)).length / 3):Nat)=b9.1)/\((d1:Nat)=b9.2.1)/\((d1:Nat)≠0)/\((J.wrap (a.2.2.2 + (1:Int)))=b9.2.2.2)/\s12 u w x y z a0 a1 a2 a3 a4 a5 a6 (s5 a7 a8 s t b.2.2.1 (((e1++(rowTake (([B i,S k l m,S n o p]:List Value).take (1 * 3)++b0++b1) 0 ((1 + (a.1 - d.toNat)) * 3))++i3)=b9.2.2.1)))))/\c3 b9 c7)))))))/\(d9=false->(∃c0:Nat × Nat × (List Value) × Int,b5 c0 < b5 a/\(s6 0 q e r (e:Int) f.2.2.2 (((b.1:Nat)=b.1)/\((b.2.1:Nat)=b.2.1)/\sm b.2.2.2.1/\((a.1:Nat)=c0.1)/\((a.2.1:Nat)=c0.2.1)/\((J.wrap (a.2.2.2 + (1:Int)))=c0.2.2.2)/\s12 u w x y z a0 a1 a2 a3 a4 a5 a6 (s5 a7 a8 s t b.2.2.1 ((a.2.2.1=c0.2.2.1)))))/\c3 c0 c9)))))))))))))))))/\((decide (a.2.2.2 < b.2.2.2.1))=false->(∃c1:Nat × Nat × (List Value) × Int,e3 c1 < e3 f/\(s4 q e r (e:Int) (((a.1:Nat)=c1.1)/\((a.2.1:Nat)=c1.2.1)/\((J.wrap (f.2.2.2 + (1:Int)))=c1.2.2.2)/\(a.2.2.1=c1.2.2.1)))/\d2 c1 b3)))))))))/\((decide (f.2.2.2 < (e:Int)))=false->(∀e2,a9.Le e2->∀i4:Nat,(f.2.2.1≠[]->e2.blk i4 (.cells f.2.2.1.toArray 42 (0,0)))->R (S (mA i4 f.2.1) f.1 f.2.1) e2)))))):
 Acts prog 70 #[S q e r] V R:=
 fd (LF:=LF0) (RF:=[1000010,11300003]) [(3,⟨Nat × Nat × (List Value) × Int,false,[9,10],[],fun g=>[(3,.c (.msl 3 g.1 g.2.1)),(11,.c (.v (I J g.2.2.2)))],fun g=>[(3,⟨.mrow g.2.2.1,42⟩)]⟩),(6,⟨Nat × Nat × (List Value) × Int,false,[5,9,10,11,19,20],[5,19],fun g=>[(3,.c (.msl 3 g.1 g.2.1)),(21,.c (.v (I J g.2.2.2)))],fun g=>[(3,⟨.mrow g.2.2.1,42⟩)]⟩),(10,⟨Int,false,[3,5,7,9,10,11,19,20,21],[3,5,7,19],fun g=>[(8,.c (.v (I J g)))],fun g=>[]⟩)] [(600005,⟨Nat × Nat × (List Value) × Int × Int,false,[3,5,9,10,11],[3,5],fun g=>[(19,.c (.msl 19 g.1 g.2.1)),(20,.c (.v (I J g.2.2.2.1))),(21,.c (.v (I J g.2.2.2.2)))],fun g=>[(19,⟨.mrow g.2.2.1,42⟩)]⟩),(600008,⟨Bool,false,[3,5,7,9,10,11,19,20,21],[3,5,7,19],fun g=>[(39,.c (.v (B g)))],fun g=>[]⟩),(600010,⟨Bool,false,[3,5,7,8,9,10,11,19,20,21],[3,5,7,19],fun g=>[(52,.c (.v (B g)))],fun g=>[]⟩),(600012,⟨Bool,false,[3,5,7,8,9,10,11,19,20,21],[3,5,7,19],fun g=>[(67,.c (.v (B g)))],fun g=>[]⟩)] func70 h
theorem vc_ref06_Probes (e:OA) (b a4:Nat) (V:View) (R:VR) (h:((((b:Int) == (0:Int))=true->(∀a5,V.Le a5->∀b1:Nat,(a5.blk b1 (.cells #[B false,S none 0 0,S none 0 0] 42 (0,0)))->R (S (some ⟨b1,0,none⟩) 1 1) a5))/\(((b:Int) == (0:Int))=false->(e.isSome=true)/\(0<=(0:Int)/\(0:Int) < (b:Int))/\(∃b2,∃b3 b4 b5,∃b6 b7 b8,∃r,addrAdd e 0=some r/\V.at (r.add 0) (B b2)/\V.at (r.add 1) (S b3 b4 b5)/\V.at (r.add 2) (S b6 b7 b8)/\(Ca V 19 #[I J 1] fun g5 g6=>∃b9,∃c0 c1 c2,∃c3 c4 c5,g5=A #[B b9,S c0 c1 c2,S c3 c4 c5]/\(Ca g6 78 #[A #[B b2,S b3 b4 b5,S b6 b7 b8],A #[B b9,S c0 c1 c2,S c3 c4 c5]] fun g7 c6=>∃c7,∃c8 c9 d0,∃d1 d2 d3,g7=A #[B c7,S c8 c9 d0,S d1 d2 d3]/\(∃(a6:(Nat × Nat × (List Value) × Int)->VP) (d4:(Nat × Nat × (List Value) × Int)->Nat),(∃g,(s4 e b a4 0 (((1:Nat)=g.1)/\((1:Nat)=g.2.1)/\((1:Nat)≠0)/\((1:Int)=g.2.2.2)/\(([B c7,S c8 c9 d0,S d1 d2 d3]:List Value)=g.2.2.1)))/\a6 g c6)/\∀(a:Nat × Nat × (List Value) × Int) (d:View),c6.Le d->a6 a d->(true=true/\(((decide (a.2.2.2 < (b:Int)))=true->(e.isSome=true)/\(0<=(J.wrap (a.2.2.2 - (1:Int)))/\(J.wrap (a.2.2.2 - (1:Int))) < (b:Int))/\(∃d5,∃d6 d7 d8,∃d9 e0 e1,∃s,addrAdd e (((J.wrap (a.2.2.2 - (1:Int))).toNat) * 3)=some s/\d.at (s.add 0) (B d5)/\d.at (s.add 1) (S d6 d7 d8)/\d.at (s.add 2) (S d9 e0 e1)/\(e.isSome=true)/\(0<=a.2.2.2/\a.2.2.2 < (b:Int))/\(∃e2,∃e3 e4 e5,∃e6 e7 e8,∃t,addrAdd e (a.2.2.2.toNat * 3)=some t/\d.at (t.add 0) (B e2)/\d.at (t.add 1) (S e3 e4 e5)/\d.at (t.add 2) (S e6 e7 e8)/\(Ca d 101 #[A #[B d5,S d6 d7 d8,S d9 e0 e1],A #[B e2,S e3 e4 e5,S e6 e7 e8]] fun g8 g9=>∃u,∃w x y,∃z a0 a1,g8=A #[B u,S w x y,S z a0 a1]/\((a.1 + 1) * 56<=140737488355328/\a.1<=a.2.1/\a.2.1 * 3<=a.2.2.1.length/\([B u,S w x y,S z a0 a1]:List Value).length=1 * 3/\(∀a7 ∈ ([B u,S w x y,S z a0 a1]:List Value),a7.oneCell'=true)/\∀(e9:List Value) (a8:Nat),a.1 + 1<=a8->a8 * 3<=(a.1 + 1) * 3 + e9.length->(∃f:Nat × Nat × (List Value) × Int,d4 f < d4 a/\(s3 e b a4 (((a.1 + 1:Nat)=f.1)/\((a8:Nat)=f.2.1)/\((J.wrap (a.2.2.2 + (1:Int)))=f.2.2.2)/\((a.2.2.1.take (a.1 * 3)++([B u,S w x y,S z a0 a1]:List Value)++e9)=f.2.2.1)))/\a6 f g9))))))/\((decide (a.2.2.2 < (b:Int)))=false->(e.isSome=true)/\(0<=(J.wrap ((b:Int)-1))/\(J.wrap ((b:Int)-1)) < (b:Int))/\(∃f0,∃f1 f2 f3,∃f4 f5 f6,∃a2,addrAdd e (((J.wrap ((b:Int)-1)).toNat) * 3)=some a2/\d.at (a2.add 0) (B f0)/\d.at (a2.add 1) (S f1 f2 f3)/\d.at (a2.add 2) (S f4 f5 f6)/\(Ca d 19 #[I J 1] fun i0 i1=>∃f7,∃f8 f9 g0,∃g1 g2 g3,i0=A #[B f7,S f8 f9 g0,S g1 g2 g3]/\(Ca i1 23 #[A #[B f0,S f1 f2 f3,S f4 f5 f6],A #[B f7,S f8 f9 g0,S g1 g2 g3]] fun i2 i3=>∃i,∃k l m,∃n o p,i2=A #[B i,S k l m,S n o p]/\((a.1 + 1) * 56<=140737488355328/\a.1<=a.2.1/\a.2.1 * 3<=a.2.2.1.length/\([B i,S k l m,S n o p]:List Value).length=1 * 3/\(∀a7 ∈ ([B i,S k l m,S n o p]:List Value),a7.oneCell'=true)/\∀(a9:List Value) (a3:Nat),a.1 + 1<=a3->a3 * 3<=(a.1 + 1) * 3 + a9.length->(∀b0,i3.Le b0->∀g4:Nat,((a.2.2.1.take (a.1 * 3)++([B i,S k l m,S n o p]:List Value)++a9)≠[]->b0.blk g4 (.cells (a.2.2.1.take (a.1 * 3)++([B i,S k l m,S n o p]:List Value)++a9).toArray 42 (0,0)))->R (S (mA g4 a3) (a.1 + 1) a3) b0))))))))))))))):
 Acts prog 71 #[S e b a4] V R:=
 fd (LF:=LF0) (RF:=[1000010]) [(5,⟨Nat × Nat × (List Value) × Int,false,[0],[],fun q=>[(3,.c (.msl 3 q.1 q.2.1)),(4,.c (.v (I J q.2.2.2)))],fun q=>[(3,⟨.mrow q.2.2.1,42⟩)]⟩)] [] func71 h
theorem vc_ref06_From (p:OA) (k q:Nat) (f:OA) (e i:Nat) (V:View) (R:VR) (h:(∃(z:(Nat × Nat × (List Value) × Int)->VP) (u:(Nat × Nat × (List Value) × Int)->Nat),(∃a0,(s11 p k q f e i f e i (e:Int) (none:OA) (((0:Nat)=a0.1)/\((0:Nat)=a0.2.1)/\sm 0/\((0:Int)=a0.2.2.2)/\(a0.2.2.1=[])))/\z a0 V)/\∀(b:Nat × Nat × (List Value) × Int) (r:View),V.Le r->z b r->(true=true/\(((decide (b.2.2.2 < (e:Int)))=true->(f.isSome=true)/\(0<=b.2.2.2/\b.2.2.2 < (e:Int))/\(∃a5,(∃b2,addrAdd f (b.2.2.2.toNat * 1)=some b2/\r.at b2 (B a5))/\(((!a5)=true->(∃w:Nat × Nat × (List Value) × Int,u w < u b/\(s10 p k q f e i f e i (e:Int) (((b.1:Nat)=w.1)/\((b.2.1:Nat)=w.2.1)/\((J.wrap (b.2.2.2 + (1:Int)))=w.2.2.2)/\(b.2.2.1=w.2.2.1)))/\z w r))/\((!a5)=false->(∃a6:(Bool × (OA) × Nat × Nat × (OA) × Nat × Nat × Bool × (OA) × Nat × Nat × (OA) × Nat × Nat × Bool × Bool)->VP,(((decide (b.2.2.2 > (0:Int)))=true->(p.isSome=true)/\(0<=(J.wrap (b.2.2.2 - (1:Int)))/\(J.wrap (b.2.2.2 - (1:Int))) < (k:Int))/\(∃b3,∃b4 b5 b6,∃b7 b8 b9,∃a1,addrAdd p (((J.wrap (b.2.2.2 - (1:Int))).toNat) * 3)=some a1/\r.at (a1.add 0) (B b3)/\r.at (a1.add 1) (S b4 b5 b6)/\r.at (a1.add 2) (S b7 b8 b9)/\(∃l,(s6 p k q f e i (((b.1:Nat)=b.1)/\((b.2.1:Nat)=b.2.1)/\s8 b.2.2.2 0 f e i (e:Int) b.2.2.2 b.2.2.1 ((b3=l.1)/\((b4:OA)=l.2.1)/\((b5:Nat)=l.2.2.1)/\((b6:Nat)=l.2.2.2.1)/\((b7:OA)=l.2.2.2.2.1)/\((b8:Nat)=l.2.2.2.2.2.1)/\((b9:Nat)=l.2.2.2.2.2.2.1)/\(false=l.2.2.2.2.2.2.2.1)/\((none:OA)=l.2.2.2.2.2.2.2.2.1)/\((0:Nat)=l.2.2.2.2.2.2.2.2.2.1)/\((0:Nat)=l.2.2.2.2.2.2.2.2.2.2.1)/\((none:OA)=l.2.2.2.2.2.2.2.2.2.2.2.1)/\((0:Nat)=l.2.2.2.2.2.2.2.2.2.2.2.2.1)/\((0:Nat)=l.2.2.2.2.2.2.2.2.2.2.2.2.2.1)/\((b.2.2.2 == (0:Int))=l.2.2.2.2.2.2.2.2.2.2.2.2.2.2.1)/\((b.2.2.2 == (k:Int))=l.2.2.2.2.2.2.2.2.2.2.2.2.2.2.2))))/\a6 l r)))/\((decide (b.2.2.2 > (0:Int)))=false->(∃m,(s6 p k q f e i (((b.1:Nat)=b.1)/\((b.2.1:Nat)=b.2.1)/\s8 b.2.2.2 0 f e i (e:Int) b.2.2.2 b.2.2.1 ((false=m.1)/\((none:OA)=m.2.1)/\((0:Nat)=m.2.2.1)/\((0:Nat)=m.2.2.2.1)/\((none:OA)=m.2.2.2.2.1)/\((0:Nat)=m.2.2.2.2.2.1)/\((0:Nat)=m.2.2.2.2.2.2.1)/\(false=m.2.2.2.2.2.2.2.1)/\((none:OA)=m.2.2.2.2.2.2.2.2.1)/\((0:Nat)=m.2.2.2.2.2.2.2.2.2.1)/\((0:Nat)=m.2.2.2.2.2.2.2.2.2.2.1)/\((none:OA)=m.2.2.2.2.2.2.2.2.2.2.2.1)/\((0:Nat)=m.2.2.2.2.2.2.2.2.2.2.2.2.1)/\((0:Nat)=m.2.2.2.2.2.2.2.2.2.2.2.2.2.1)/\((b.2.2.2 == (0:Int))=m.2.2.2.2.2.2.2.2.2.2.2.2.2.2.1)/\((b.2.2.2 == (k:Int))=m.2.2.2.2.2.2.2.2.2.2.2.2.2.2.2))))/\a6 m r)))/\∀(g:Bool × (OA) × Nat × Nat × (OA) × Nat × Nat × Bool × (OA) × Nat × Nat × (OA) × Nat × Nat × Bool × Bool) (s:View),r.Le s->a6 g s->(true=true/\(∃a7:(Bool × (OA) × Nat × Nat × (OA) × Nat × Nat × Bool × (OA) × Nat × Nat × (OA) × Nat × Nat × Bool × Bool)->VP,(((decide (b.2.2.2 < (k:Int)))=true->(p.isSome=true)/\(0<=b.2.2.2/\b.2.2.2 < (k:Int))/\(∃c0,∃c1 c2 c3,∃c4 c5 c6,∃a2,addrAdd p (b.2.2.2.toNat * 3)=some a2/\s.at (a2.add 0) (B c0)/\s.at (a2.add 1) (S c1 c2 c3)/\s.at (a2.add 2) (S c4 c5 c6)/\(∃n,(s6 p k q f e i (((b.1:Nat)=b.1)/\((b.2.1:Nat)=b.2.1)/\s8 b.2.2.2 0 f e i (e:Int) b.2.2.2 b.2.2.1 ((g.1=n.1)/\((g.2.1:OA)=n.2.1)/\((g.2.2.1:Nat)=n.2.2.1)/\((g.2.2.2.1:Nat)=n.2.2.2.1)/\((g.2.2.2.2.1:OA)=n.2.2.2.2.1)/\((g.2.2.2.2.2.1:Nat)=n.2.2.2.2.2.1)/\((g.2.2.2.2.2.2.1:Nat)=n.2.2.2.2.2.2.1)/\(c0=n.2.2.2.2.2.2.2.1)/\((c1:OA)=n.2.2.2.2.2.2.2.2.1)/\((c2:Nat)=n.2.2.2.2.2.2.2.2.2.1)/\((c3:Nat)=n.2.2.2.2.2.2.2.2.2.2.1)/\((c4:OA)=n.2.2.2.2.2.2.2.2.2.2.2.1)/\((c5:Nat)=n.2.2.2.2.2.2.2.2.2.2.2.2.1)/\((c6:Nat)=n.2.2.2.2.2.2.2.2.2.2.2.2.2.1)/\(g.2.2.2.2.2.2.2.2.2.2.2.2.2.2.1=n.2.2.2.2.2.2.2.2.2.2.2.2.2.2.1)/\(g.2.2.2.2.2.2.2.2.2.2.2.2.2.2.2=n.2.2.2.2.2.2.2.2.2.2.2.2.2.2.2))))/\a7 n s)))/\((decide (b.2.2.2 < (k:Int)))=false->(∃o,(s6 p k q f e i (((b.1:Nat)=b.1)/\((b.2.1:Nat)=b.2.1)/\s8 b.2.2.2 0 f e i (e:Int) b.2.2.2 b.2.2.1 ((g.1=o.1)/\((g.2.1:OA)=o.2.1)/\((g.2.2.1:Nat)=o.2.2.1)/\((g.2.2.2.1:Nat)=o.2.2.2.1)/\((g.2.2.2.2.1:OA)=o.2.2.2.2.1)/\((g.2.2.2.2.2.1:Nat)=o.2.2.2.2.2.1)/\((g.2.2.2.2.2.2.1:Nat)=o.2.2.2.2.2.2.1)/\(g.2.2.2.2.2.2.2.1=o.2.2.2.2.2.2.2.1)/\((g.2.2.2.2.2.2.2.2.1:OA)=o.2.2.2.2.2.2.2.2.1)/\((g.2.2.2.2.2.2.2.2.2.1:Nat)=o.2.2.2.2.2.2.2.2.2.1)/\((g.2.2.2.2.2.2.2.2.2.2.1:Nat)=o.2.2.2.2.2.2.2.2.2.2.1)/\((g.2.2.2.2.2.2.2.2.2.2.2.1:OA)=o.2.2.2.2.2.2.2.2.2.2.2.1)/\((g.2.2.2.2.2.2.2.2.2.2.2.2.1:Nat)=o.2.2.2.2.2.2.2.2.2.2.2.2.1)/\((g.2.2.2.2.2.2.2.2.2.2.2.2.2.1:Nat)=o.2.2.2.2.2.2.2.2.2.2.2.2.2.1)/\(g.2.2.2.2.2.2.2.2.2.2.2.2.2.2.1=o.2.2.2.2.2.2.2.2.2.2.2.2.2.2.1)/\(g.2.2.2.2.2.2.2.2.2.2.2.2.2.2.2=o.2.2.2.2.2.2.2.2.2.2.2.2.2.2.2))))/\a7 o s)))/\∀(a:Bool × (OA) × Nat × Nat × (OA) × Nat × Nat × Bool × (OA) × Nat × Nat × (OA) × Nat × Nat × Bool × Bool) (t:View),s.Le t->a7 a t->(true=true/\(∃a3:Bool->VP,(((decide (b.2.2.2 > (0:Int)))=true->(f.isSome=true)/\(0<=(J.wrap (b.2.2.2 - (1:Int)))/\(J.wrap (b.2.2.2 - (1:Int))) < (e:Int))/\(∃a8,(∃c7,addrAdd f (((J.wrap (b.2.2.2 - (1:Int))).toNat) * 1)=some c7/\t.at c7 (B a8))/\((a8=true->(∃c8:Bool,(s6 p k q f e i (((b.1:Nat)=b.1)/\((b.2.1:Nat)=b.2.1)/\sm 0/\(((b.1:Nat):Int)=((b.1:Nat):Int))/\s5 f e i (e:Int) b.2.2.2 (((decide (((b.1:Nat):Int) > (0:Int)))=c8)/\sm b.2.2.1/\sm a.1/\((a.2.1:OA)=a.2.1)/\((a.2.2.1:Nat)=a.2.2.1)/\((a.2.2.2.1:Nat)=a.2.2.2.1)/\((a.2.2.2.2.1:OA)=a.2.2.2.2.1)/\((a.2.2.2.2.2.1:Nat)=a.2.2.2.2.2.1)/\((a.2.2.2.2.2.2.1:Nat)=a.2.2.2.2.2.2.1)/\sm a.2.2.2.2.2.2.2.1/\((a.2.2.2.2.2.2.2.2.1:OA)=a.2.2.2.2.2.2.2.2.1)/\((a.2.2.2.2.2.2.2.2.2.1:Nat)=a.2.2.2.2.2.2.2.2.2.1)/\((a.2.2.2.2.2.2.2.2.2.2.1:Nat)=a.2.2.2.2.2.2.2.2.2.2.1)/\((a.2.2.2.2.2.2.2.2.2.2.2.1:OA)=a.2.2.2.2.2.2.2.2.2.2.2.1)/\((a.2.2.2.2.2.2.2.2.2.2.2.2.1:Nat)=a.2.2.2.2.2.2.2.2.2.2.2.2.1)/\((a.2.2.2.2.2.2.2.2.2.2.2.2.2.1:Nat)=a.2.2.2.2.2.2.2.2.2.2.2.2.2.1)/\sm a.2.2.2.2.2.2.2.2.2.2.2.2.2.2.1/\sm a.2.2.2.2.2.2.2.2.2.2.2.2.2.2.2)))/\a3 c8 t))/\(a8=false->(∃c9:Bool,(s6 p k q f e i (((b.1:Nat)=b.1)/\((b.2.1:Nat)=b.2.1)/\sm 0/\(((b.1:Nat):Int)=((b.1:Nat):Int))/\s5 f e i (e:Int) b.2.2.2 ((false=c9)/\sm b.2.2.1/\sm a.1/\((a.2.1:OA)=a.2.1)/\((a.2.2.1:Nat)=a.2.2.1)/\((a.2.2.2.1:Nat)=a.2.2.2.1)/\((a.2.2.2.2.1:OA)=a.2.2.2.2.1)/\((a.2.2.2.2.2.1:Nat)=a.2.2.2.2.2.1)/\((a.2.2.2.2.2.2.1:Nat)=a.2.2.2.2.2.2.1)/\sm a.2.2.2.2.2.2.2.1/\((a.2.2.2.2.2.2.2.2.1:OA)=a.2.2.2.2.2.2.2.2.1)/\((a.2.2.2.2.2.2.2.2.2.1:Nat)=a.2.2.2.2.2.2.2.2.2.1)/\((a.2.2.2.2.2.2.2.2.2.2.1:Nat)=a.2.2.2.2.2.2.2.2.2.2.1)/\((a.2.2.2.2.2.2.2.2.2.2.2.1:OA)=a.2.2.2.2.2.2.2.2.2.2.2.1)/\((a.2.2.2.2.2.2.2.2.2.2.2.2.1:Nat)=a.2.2.2.2.2.2.2.2.2.2.2.2.1)/\((a.2.2.2.2.2.2.2.2.2.2.2.2.2.1:Nat)=a.2.2.2.2.2.2.2.2.2.2.2.2.2.1)/\sm a.2.2.2.2.2.2.2.2.2.2.2.2.2.2.1/\sm a.2.2.2.2.2.2.2.2.2.2.2.2.2.2.2)))/\a3 c9 t)))))/\((decide (b.2.2.2 > (0:Int)))=false->(∃d0:Bool,(s6 p k q f e i (((b.1:Nat)=b.1)/\((b.2.1:Nat)=b.2.1)/\sm 0/\(((b.1:Nat):Int)=((b.1:Nat):Int))/\s5 f e i (e:Int) b.2.2.2 ((false=d0)/\sm b.2.2.1/\sm a.1/\((a.2.1:OA)=a.2.1)/\((a.2.2.1:Nat)=a.2.2.1)/\((a.2.2.2.1:Nat)=a.2.2.2.1)/\((a.2.2.2.2.1:OA)=a.2.2.2.2.1)/\((a.2.2.2.2.2.1:Nat)=a.2.2.2.2.2.1)/\((a.2.2.2.2.2.2.1:Nat)=a.2.2.2.2.2.2.1)/\sm a.2.2.2.2.2.2.2.1/\((a.2.2.2.2.2.2.2.2.1:OA)=a.2.2.2.2.2.2.2.2.1)/\((a.2.2.2.2.2.2.2.2.2.1:Nat)=a.2.2.2.2.2.2.2.2.2.1)/\((a.2.2.2.2.2.2.2.2.2.2.1:Nat)=a.2.2.2.2.2.2.2.2.2.2.1)/\((a.2.2.2.2.2.2.2.2.2.2.2.1:OA)=a.2.2.2.2.2.2.2.2.2.2.2.1)/\((a.2.2.2.2.2.2.2.2.2.2.2.2.1:Nat)=a.2.2.2.2.2.2.2.2.2.2.2.2.1)/\((a.2.2.2.2.2.2.2.2.2.2.2.2.2.1:Nat)=a.2.2.2.2.2.2.2.2.2.2.2.2.2.1)/\sm a.2.2.2.2.2.2.2.2.2.2.2.2.2.2.1/\sm a.2.2.2.2.2.2.2.2.2.2.2.2.2.2.2)))/\a3 d0 t)))/\∀(a9:Bool) (a4:View),t.Le a4->a3 a9 a4->(true=true/\((a9=true->(0<=(J.wrap (((b.1:Nat):Int)-1))/\(J.wrap (((b.1:Nat):Int)-1)) < ((b.1:Nat):Int))/\(b.1<=b.2.1)/\(((((J.wrap (((b.1:Nat):Int)-1)).toNat) * 8) + 3) + 3<=b.2.2.1.length)/\(0<=(J.wrap (((b.1:Nat):Int)-1))/\(J.wrap (((b.1:Nat):Int)-1)) < ((b.1:Nat):Int))/\(b.1<=b.2.1)/\(((((J.wrap (((b.1:Nat):Int)-1)).toNat) * 8) + 7) + 1<=(setVals b.2.2.1 ((((J.wrap (((b.1:Nat):Int)-1)).toNat) * 8) + 3) [B a.2.2.2.2.2.2.2.1,S a.2.2.2.2.2.2.2.2.1 a.2.2.2.2.2.2.2.2.2.1 a.2.2.2.2.2.2.2.2.2.2.1,S a.2.2.2.2.2.2.2.2.2.2.2.1 a.2.2.2.2.2.2.2.2.2.2.2.2.1 a.2.2.2.2.2.2.2.2.2.2.2.2.2.1]).length)/\(∃x:Nat × Nat × (List Value) × Int,u x < u b/\(s10 p k q f e i f e i (e:Int) (((b.1:Nat)=x.1)/\((b.2.1:Nat)=x.2.1)/\((J.wrap (b.2.2.2 + (1:Int)))=x.2.2.2)/\(((setVals b.2.2.1 ((((J.wrap (((b.1:Nat):Int)-1)).toNat) * 8) + 3) [B a.2.2.2.2.2.2.2.1,S a.2.2.2.2.2.2.2.2.1 a.2.2.2.2.2.2.2.2.2.1 a.2.2.2.2.2.2.2.2.2.2.1,S a.2.2.2.2.2.2.2.2.2.2.2.1 a.2.2.2.2.2.2.2.2.2.2.2.2.1 a.2.2.2.2.2.2.2.2.2.2.2.2.2.1]).set ((((J.wrap (((b.1:Nat):Int)-1)).toNat) * 8) + 7) (B a.2.2.2.2.2.2.2.2.2.2.2.2.2.2.2))=x.2.2.1)))/\z x a4))/\(a9=false->((b.1 + 1) * 120<=140737488355328/\b.1<=b.2.1/\b.2.1 * 8<=b.2.2.1.length/\([B a.1,S a.2.1 a.2.2.1 a.2.2.2.1,S a.2.2.2.2.1 a.2.2.2.2.2.1 a.2.2.2.2.2.2.1,B a.2.2.2.2.2.2.2.1,S a.2.2.2.2.2.2.2.2.1 a.2.2.2.2.2.2.2.2.2.1 a.2.2.2.2.2.2.2.2.2.2.1,S a.2.2.2.2.2.2.2.2.2.2.2.1 a.2.2.2.2.2.2.2.2.2.2.2.2.1 a.2.2.2.2.2.2.2.2.2.2.2.2.2.1,B a.2.2.2.2.2.2.2.2.2.2.2.2.2.2.1,B a.2.2.2.2.2.2.2.2.2.2.2.2.2.2.2]:List Value).length=1 * 8/\(∀d3 ∈ ([B a.1,S a.2.1 a.2.2.1 a.2.2.2.1,S a.2.2.2.2.1 a.2.2.2.2.2.1 a.2.2.2.2.2.2.1,B a.2.2.2.2.2.2.2.1,S a.2.2.2.2.2.2.2.2.1 a.2.2.2.2.2.2.2.2.2.1 a.2.2.2.2.2.2.2.2.2.2.1,S a.2.2.2.2.2.2.2.2.2.2.2.1 a.2.2.2.2.2.2.2.2.2.2.2.2.1 a.2.2.2.2.2.2.2.2.2.2.2.2.2.1,B a.2.2.2.2.2.2.2.2.2.2.2.2.2.2.1,B a.2.2.2.2.2.2.2.2.2.2.2.2.2.2.2]:List Value),d3.oneCell'=true)/\∀(d1:List Value) (b0:Nat),b.1 + 1<=b0->b0 * 8<=(b.1 + 1) * 8 + d1.length->(∃y:Nat × Nat × (List Value) × Int,u y < u b/\(s10 p k q f e i f e i (e:Int) (((b.1 + 1:Nat)=y.1)/\((b0:Nat)=y.2.1)/\((J.wrap (b.2.2.2 + (1:Int)))=y.2.2.2)/\((b.2.2.1.take (b.1 * 8)++([B a.1,S a.2.1 a.2.2.1 a.2.2.2.1,S a.2.2.2.2.1 a.2.2.2.2.2.1 a.2.2.2.2.2.2.1,B a.2.2.2.2.2.2.2.1,S a.2.2.2.2.2.2.2.2.1 a.2.2.2.2.2.2.2.2.2.1 a.2.2.2.2.2.2.2.2.2.2.1,S a.2.2.2.2.2.2.2.2.2.2.2.1 a.2.2.2.2.2.2.2.2.2.2.2.2.1 a.2.2.2.2.2.2.2.2.2.2.2.2.2.1,B a.2.2.2.2.2.2.2.2.2.2.2.2.2.2.1,B a.2.2.2.2.2.2.2.2.2.2.2.2.2.2.2]:List Value)++d1)=y.2.2.1)))/\z y a4))))))))))))))/\((decide (b.2.2.2 < (e:Int)))=false->(∀b1,r.Le b1->∀d2:Nat,(b.2.2.1≠[]->b1.blk d2 (.cells b.2.2.1.toArray 45 (0,0)))->R (S (mA d2 b.2.1) b.1 b.2.1) b1)))))):
 Acts prog 73 #[S p k q,S f e i] V R:=
 fd (LF:=LF0) (RF:=[1000010]) [(3,⟨Nat × Nat × (List Value) × Int,false,[0,1,10,11],[],fun d=>[(5,.c (.msl 5 d.1 d.2.1)),(12,.c (.v (I J d.2.2.2)))],fun d=>[(5,⟨.mrow d.2.2.1,45⟩)]⟩)] [(8,⟨Bool × (OA) × Nat × Nat × (OA) × Nat × Nat × Bool × (OA) × Nat × Nat × (OA) × Nat × Nat × Bool × Bool,false,[0,1,5,6,8,10,11,12],[5],fun d=>[],fun d=>[(8,⟨.lit [.v (B d.1),.v (S d.2.1 d.2.2.1 d.2.2.2.1),.v (S d.2.2.2.2.1 d.2.2.2.2.2.1 d.2.2.2.2.2.2.1),.v (B d.2.2.2.2.2.2.2.1),.v (S d.2.2.2.2.2.2.2.2.1 d.2.2.2.2.2.2.2.2.2.1 d.2.2.2.2.2.2.2.2.2.2.1),.v (S d.2.2.2.2.2.2.2.2.2.2.2.1 d.2.2.2.2.2.2.2.2.2.2.2.2.1 d.2.2.2.2.2.2.2.2.2.2.2.2.2.1),.v (B d.2.2.2.2.2.2.2.2.2.2.2.2.2.2.1),.v (B d.2.2.2.2.2.2.2.2.2.2.2.2.2.2.2)],45⟩)]⟩),(10,⟨Bool × (OA) × Nat × Nat × (OA) × Nat × Nat × Bool × (OA) × Nat × Nat × (OA) × Nat × Nat × Bool × Bool,false,[0,1,5,6,8,10,11,12],[5],fun d=>[],fun d=>[(8,⟨.lit [.v (B d.1),.v (S d.2.1 d.2.2.1 d.2.2.2.1),.v (S d.2.2.2.2.1 d.2.2.2.2.2.1 d.2.2.2.2.2.2.1),.v (B d.2.2.2.2.2.2.2.1),.v (S d.2.2.2.2.2.2.2.2.1 d.2.2.2.2.2.2.2.2.2.1 d.2.2.2.2.2.2.2.2.2.2.1),.v (S d.2.2.2.2.2.2.2.2.2.2.2.1 d.2.2.2.2.2.2.2.2.2.2.2.2.1 d.2.2.2.2.2.2.2.2.2.2.2.2.2.1),.v (B d.2.2.2.2.2.2.2.2.2.2.2.2.2.2.1),.v (B d.2.2.2.2.2.2.2.2.2.2.2.2.2.2.2)],45⟩)]⟩),(600012,⟨Bool,false,[0,1,5,8,9,10,11,12],[5,8],fun d=>[(57,.c (.v (B d)))],fun d=>[]⟩)] func73 h
theorem vc_ref06_Combine (b:Int) (g:OA) (e o:Nat) (i:OA) (f p:Nat) (V:View) (R:VR) (h:(∃y:List Value,V.sl g y/\y.length=e * 8/\((0 + e) * 120<=140737488355328/\0<=0/\0 * 8<=([]:List Value).length/\y.length=e * 8/\(∀a0 ∈ y,a0.oneCell'=true)/\∀(e9:Nat) (f0:C->Value) (a6:List Value) (a3:Nat),0 + e<=a3->a3 * 8<=(0 + e) * 8 + a6.length->(∃a1:List Value,V.sl i a1/\a1.length=f * 8/\(((0 + e) + f) * 120<=140737488355328/\0 + e<=a3/\a3 * 8<=(([]:List Value).take (0 * 8)++y++a6).length/\a1.length=f * 8/\(∀a0 ∈ a1,a0.oneCell'=true)/\∀(f1:Nat) (f2:C->Value) (c2:List Value) (a7:Nat),(0 + e) + f<=a7->a7 * 8<=((0 + e) + f) * 8 + c2.length->(∀a8,V.Le a8->∀c3:Nat,(a8.blk c3 (.cells ((([]:List Value).take (0 * 8)++y++a6).take ((0 + e) * 8)++a1++c2).toArray 45 (0,0)))->Acts prog 70 #[S (some ⟨c3,0,none⟩) ((0 + e) + f) a7] a8 fun e1 e2=>∃k l m,e1=S k l m/\∀f3:C->Value,(Ca e2 71 #[S k l m] fun e3 c4=>∃n d q,e3=S n d q/\(∃(a9:(Nat × Nat × (List Value) × Int)->VP) (c5:(Nat × Nat × (List Value) × Int)->Nat),(∃a2,(s12 b g e o i f p k l m n d (s3 q (d:Int) (none:OA) (((0:Nat)=a2.1)/\((0:Nat)=a2.2.1)/\sm 0/\((0:Int)=a2.2.2.2)/\(a2.2.2.1=[]))))/\a9 a2 c4)/\∀(a:Nat × Nat × (List Value) × Int) (u:View),c4.Le u->a9 a u->(true=true/\(((decide (a.2.2.2 < (d:Int)))=true->(n.isSome=true)/\(0<=a.2.2.2/\a.2.2.2 < (d:Int))/\(∃b0,∃b1 b2 b3,∃b4 b5 b6,∃a4,addrAdd n (a.2.2.2.toNat * 3)=some a4/\u.at (a4.add 0) (B b0)/\u.at (a4.add 1) (S b1 b2 b3)/\u.at (a4.add 2) (S b4 b5 b6)/\(Ca u 72 #[S g e o,A #[B b0,S b1 b2 b3,S b4 b5 b6]] fun e4 e5=>∃s,e4=B s/\(Ca e5 72 #[S i f p,A #[B b0,S b1 b2 b3,S b4 b5 b6]] fun e6 b7=>∃w,e6=B w/\(∃b8:Bool->VP,((s=true->(∃c6:Bool,(s10 b g e o i f p k l m (((a.1:Nat)=a.1)/\((a.2.1:Nat)=a.2.1)/\s7 s w n d q (d:Int) a.2.2.2 ((true=c6)/\sm a.2.2.1)))/\b8 c6 b7))/\(s=false->(∃c7:Bool,(s10 b g e o i f p k l m (((a.1:Nat)=a.1)/\((a.2.1:Nat)=a.2.1)/\s7 s w n d q (d:Int) a.2.2.2 ((w=c7)/\sm a.2.2.1)))/\b8 c7 b7)))/\∀(c8:Bool) (t:View),b7.Le t->b8 c8 t->(true=true/\(∃x:Bool->VP,(((b == (2:Int))=true->((s=true->(∃c9:Bool,(s10 b g e o i f p k l m (((a.1:Nat)=a.1)/\((a.2.1:Nat)=a.2.1)/\s5 n d q (d:Int) a.2.2.2 ((w=c9)/\sm a.2.2.1)))/\x c9 t))/\(s=false->(∃d0:Bool,(s10 b g e o i f p k l m (((a.1:Nat)=a.1)/\((a.2.1:Nat)=a.2.1)/\s5 n d q (d:Int) a.2.2.2 ((false=d0)/\sm a.2.2.1)))/\x d0 t))))/\((b == (2:Int))=false->(((b == (3:Int))=true->((s=true->(∃d1:Bool,(s10 b g e o i f p k l m (((a.1:Nat)=a.1)/\((a.2.1:Nat)=a.2.1)/\s5 n d q (d:Int) a.2.2.2 (((!w)=d1)/\sm a.2.2.1)))/\x d1 t))/\(s=false->(∃d2:Bool,(s10 b g e o i f p k l m (((a.1:Nat)=a.1)/\((a.2.1:Nat)=a.2.1)/\s5 n d q (d:Int) a.2.2.2 ((false=d2)/\sm a.2.2.1)))/\x d2 t))))/\((b == (3:Int))=false->(((b == (4:Int))=true->(∃d3:Bool,(s10 b g e o i f p k l m (((a.1:Nat)=a.1)/\((a.2.1:Nat)=a.2.1)/\s5 n d q (d:Int) a.2.2.2 (((!(s == w))=d3)/\sm a.2.2.1)))/\x d3 t))/\((b == (4:Int))=false->(∃d4:Bool,(s10 b g e o i f p k l m (((a.1:Nat)=a.1)/\((a.2.1:Nat)=a.2.1)/\s5 n d q (d:Int) a.2.2.2 ((c8=d4)/\sm a.2.2.1)))/\x d4 t)))))))/\∀(a5:Bool) (b9:View),t.Le b9->x a5 b9->(true=true/\((a.1 + 1) * 1<=140737488355328/\a.1<=a.2.1/\a.2.1 * 1<=a.2.2.1.length/\([B a5]:List Value).length=1 * 1/\(∀a0 ∈ ([B a5]:List Value),a0.oneCell'=true)/\∀(d5:List Value) (c0:Nat),a.1 + 1<=c0->c0 * 1<=(a.1 + 1) * 1 + d5.length->(∃z:Nat × Nat × (List Value) × Int,c5 z < c5 a/\(s12 b g e o i f p k l m n d (sm q/\sm (d:Int)/\((a.1 + 1:Nat)=z.1)/\((c0:Nat)=z.2.1)/\((J.wrap (a.2.2.2 + (1:Int)))=z.2.2.2)/\((a.2.2.1.take (a.1 * 1)++([B a5]:List Value)++d5)=z.2.2.1)))/\a9 z b9))))))))))/\((decide (a.2.2.2 < (d:Int)))=false->(∀c1,u.Le c1->∀d6:Nat,(a.2.2.1≠[]->c1.blk d6 (.cells a.2.2.1.toArray 4 (0,0)))->Acts prog 73 #[S k l m,S (mA d6 a.2.1) a.1 a.2.1] c1 fun e7 e8=>∃d7 d8 d9,e7=S d7 d8 d9/\∀f4:C->Value,(Rt e8 R (S d7 d8 d9)))))))))))))):
 Acts prog 20 #[I J b,S g e o,S i f p] V R:=
 fd (LF:=LF0) (RF:=[1000010]) [(4,⟨Nat × Nat × (List Value) × Int,false,[0,1,2,7,21,22],[],fun r=>[(8,.c (.msl 8 r.1 r.2.1)),(23,.c (.v (I J r.2.2.2)))],fun r=>[(8,⟨.mrow r.2.2.1,4⟩)]⟩)] [(600007,⟨Bool,false,[0,1,2,7,8,11,12,21,22,23],[8],fun r=>[(13,.c (.v (B r)))],fun r=>[]⟩),(500002,⟨Bool,false,[0,1,2,7,8,21,22,23],[8],fun r=>[(13,.c (.v (B r)))],fun r=>[]⟩)] func20 h
theorem vc_ref06_in (a:OA) (b c:Nat) (d:Bool) (e:OA) (f g:Nat) (i:OA) (k l:Nat) (V:View) (R:VR) (h:(Ca V 36 #[S a b c,A #[B d,S e f g,S i k l]] fun o p=>∃m,o=I J m/\(Rt p R (B (m == (2:Int)))))):
 Acts prog 72 #[S a b c,A #[B d,S e f g,S i k l]] V R:=
 fd (LF:=LF0) (RF:=[1000010]) [] [] func72 h
end Go.Proofs.Tryz
/- Contracts: the reference's in and Probes. -/
namespace Go.Proofs.Tryz
open Go.Eng Go.Big
theorem row_one {α:Type} {sz:Nat} {R:View->Value->α->Prop} {V:View} {xs:List Value} {a:α} (hx:xs.length=sz) (ha:R V (.agg xs.toArray) a):Row sz R V xs [a]:=by
 refine ⟨fun i hi=>?_⟩
 obtain rfl:i=0:=by simpa using hi
 exact ⟨xs,hx,ha,fun j x hj=>by rw [Nat.zero_mul,Nat.zero_add]; exact hj⟩
theorem rq_at {V:View} {p:OA} {n:Nat} {qs:List Rat} (h:Lst 3 RQ V p n qs) {i:Nat} (hi:i < qs.length):∃ad b p1 n1 c1 p2 n2 c2,addrAdd p (i * 3)=some ad/\RQ V (.agg #[.bool b,.slice p1 n1 c1,.slice p2 n2 c2]) qs[i] /\
  V.at (ad.add 0) (.bool b)/\V.at (ad.add 1) (.slice p1 n1 c1)/\V.at (ad.add 2) (.slice p2 n2 c2):=by
 obtain ⟨ad,ha,xs,-,hq,hc⟩:=h.at_ i hi
 have hq0:=hq
 obtain ⟨p1,n1,c1,p2,n2,c2,e⟩:=hq.shape
 have e:=congrArg Array.toList (Value.agg.inj e)
 dsimp only at e
 subst e
 exact ⟨ad,_,p1,n1,c1,p2,n2,c2,ha,hq0,hc 0 _ rfl,hc 1 _ rfl,hc 2 _ rfl⟩
theorem c_ref06_in {V:View} {p:OA} {n c:Nat} {v:Value} {ss:List Sp} {t:Rat} (hl:RSl V p n ss) (ht:RQ V v t) {k:Nat} (hs:∀s ∈ ss,s.sz k) (st:Sz k t) (hk:2 * k < 274877906944) (hn:ss.length < 4611686018427387904) :
  Acts prog 72 #[.slice p n c,v] V fun r V'=>r=.bool (clsL ss t == 2):=by
 have ht0:=ht
 obtain ⟨_,_,_,_,_,_,rfl⟩:=ht.shape
 refine vc_ref06_in p n c _ _ _ _ _ _ _ V _ fun V1 l1=>(c_ref06_Class (hl.le l1) (ht0.le l1) hs st hk hn).mono ?_
 rintro r V2 l2 rfl
 exact ⟨_,rfl,fun V3 l3=>rfl⟩
/-- The probes up to the i-th cut; all of them. -/
def outL (c:List Rat) (i:Nat):List Rat:=(c.getD 0 0 - ((1:Int):Rat)) :: (List.range (i - 1)).map fun k=>(c.getD k 0 + c.getD (k + 1) 0) * ((2:Int):Rat)⁻¹
def probesL (c:List Rat):List Rat:=if c.length=0 then [0] else outL c c.length++[c.getD (c.length - 1) 0 + ((1:Int):Rat)]
theorem outL_len (c:List Rat) {i:Nat} (h:1<=i):(outL c i).length=i:=by unfold outL; simp; omega
theorem outL_succ (c:List Rat) {i:Nat} (h:1<=i):outL c (i + 1)=outL c i++[(c.getD (i - 1) 0 + c.getD i 0) * ((2:Int):Rat)⁻¹]:=by
 obtain ⟨m,rfl⟩:∃m,i=m + 1:=⟨i - 1,by omega⟩
 unfold outL
 rw [Nat.add_sub_cancel,Nat.add_sub_cancel,List.range_succ,List.map_append]
 rfl
theorem getD_at {c:List Rat} {i:Nat} (h:i < c.length):c.getD i 0=c[i]:=by rw [List.getD_eq_getElem?_getD,List.getElem?_eq_getElem h]; rfl
theorem c_ref06_Probes {V:View} {p:OA} {n c:Nat} {cs:List Rat} (h:Lst 3 RQ V p n cs) (hn:cs.length < 1000000000) {k:Nat} (hs:∀q ∈ cs,Sz k q) (hk:4 * k + 8 < 274877906944) :
  Acts prog 71 #[.slice p n c] V fun r V'=>∃q m e,r=.slice q m e/\Lst 3 RQ V' q m (probesL cs):=by
 obtain rfl:=h.len
 refine vc_ref06_Probes p _ c V _ ⟨fun h0 V1 l1 bk hb=>?_,fun h0=>?_⟩
 ·have h0:cs.length=0:=by simpa using h0
  have e:probesL cs=[0]:=if_pos h0
  rw [e]
  refine ⟨_,_,_,rfl,Lst.of_row hb (row_one rfl ?_)⟩
  have:=RQ.zero (V:=V1)
  simpa using this
 ·have h0:¬ cs.length=0:=by simpa using h0
  have e:probesL cs=outL cs cs.length++[cs.getD (cs.length - 1) 0 + ((1:Int):Rat)]:=if_neg h0
  rw [e]
  have i0:0 < cs.length:=by omega
  obtain ⟨ad,b,p1,n1,c1,p2,n2,c2,ha,hq,a0,a1,a2⟩:=rq_at h i0
  refine ⟨isSome_addr ha,⟨by omega,by omega⟩,_,_,_,_,_,_,_,ad,ha,a0,a1,a2,fun V2 l2=>(c_num_Of 1 (by decide) (by decide)).mono ?_⟩
  rintro r V3 l3 g
  have g0:=g
  obtain ⟨_,_,_,_,_,_,rfl⟩:=g.shape
  refine ⟨_,_,_,_,_,_,_,rfl,fun V4 l4=>(c_num_Sub (hq.le (l2.trans (l3.trans l4))) (g0.le l4) (hs _ (List.getElem_mem i0)) szi_one (by omega)).mono ?_⟩
  rintro r V5 l5 q1
  have q10:=q1
  obtain ⟨_,_,_,_,_,_,rfl⟩:=q1.shape
  have L5:V.Le V5:=l2.trans (l3.trans (l4.trans l5))
  refine ⟨_,_,_,_,_,_,_,rfl,fun z V'=>∃i:Nat,z.2.2.2=(i:Int)/\1<=i/\i<=cs.length/\z.1=i/\i<=z.2.1/\z.2.1 * 3<=z.2.2.1.length/\Row 3 RQ V' z.2.2.1 (outL cs i),fun z=>cs.length - z.2.2.2.toNat,
   ⟨(1,1,_,1),by and_intros <;> first | rfl | decide,1,rfl,Nat.le_refl _,i0,rfl,Nat.le_refl _,Nat.le_refl _,row_one rfl (by rw [getD_at i0]; exact q10)⟩,?_⟩
  rintro ⟨z1,z2,vs,z4⟩ V6 l6 ⟨i,e4,i1,ile,e1,ic,hv,hx⟩
  dsimp only at e4 e1 ic hv hx
  subst e4 e1
  have hlen:=outL_len cs i1
  refine ⟨rfl,fun hlt=>?_,fun hlt=>?_⟩
  ·have hlt:(z1:Int) < cs.length:=of_decide_eq_true hlt
   have hi:z1 < cs.length:=by omega
   have hi':z1 - 1 < cs.length:=by omega
   have w1:i64.wrap ((z1:Int) - 1)=((z1 - 1:Nat):Int):=by rw [i64w (by omega)]; omega
   have w2:i64.wrap ((z1:Int) + 1)=(z1:Int) + 1:=i64w (by omega)
   dsimp only
   rw [w1,w2,Int.toNat_natCast,Int.toNat_natCast]
   obtain ⟨ad1,b1,p3,n3,c3,p4,n4,c4,ha1,hq1,b0,b1',b2⟩:=rq_at (h.le (L5.trans l6) fun _ _ g=>g.le (L5.trans l6)) hi'
   obtain ⟨ad2,d1,p5,n5,c5,p6,n6,c6,ha2,hq2,d0,d1',d2⟩:=rq_at (h.le (L5.trans l6) fun _ _ g=>g.le (L5.trans l6)) hi
   refine ⟨isSome_addr ha1,⟨by omega,by omega⟩,_,_,_,_,_,_,_,ad1,ha1,b0,b1',b2,isSome_addr ha2,⟨by omega,by omega⟩,_,_,_,_,_,_,_,ad2,ha2,d0,d1',d2,fun V7 l7=>(c_num_Mid (hq1.le l7) (hq2.le l7) (hs _ (List.getElem_mem hi')) (hs _ (List.getElem_mem hi)) (by omega)).mono ?_⟩
   rintro r V8 l8 q2
   have q20:=q2
   obtain ⟨_,_,_,_,_,_,rfl⟩:=q2.shape
   refine ⟨_,_,_,_,_,_,_,rfl,by omega,ic,hv,rfl,?_,fun sp c' h1 h2=>⟨(z1 + 1,c',_,(z1:Int) + 1),by dsimp only; omega,by and_intros <;> rfl,z1 + 1,rfl,by omega,hi,rfl,h1,?_,?_⟩⟩
   ·intro v hm
    simp only [List.mem_cons,List.not_mem_nil,or_false] at hm
    rcases hm with rfl | rfl | rfl <;> rfl
   ·dsimp only
    have ht:(vs.take (z1 * 3)).length=z1 * 3:=by rw [List.length_take]; omega
    rw [List.length_append,List.length_append,ht]
    simp only [List.length_cons,List.length_nil]
    omega
   ·dsimp only
    rw [outL_succ cs i1,getD_at hi',getD_at hi]
    have:=(hx.le (V':=V8) fun _ _ g=>g.le (l7.trans l8)).snoc (sp:=sp) rfl q20 (by decide)
    rw [hlen] at this
    exact this
  ·have hlt:¬ (z1:Int) < cs.length:=of_decide_eq_false hlt
   obtain rfl:z1=cs.length:=by omega
   have hi:cs.length - 1 < cs.length:=by omega
   have w1:i64.wrap ((cs.length:Int) - 1)=((cs.length - 1:Nat):Int):=by rw [i64w (by omega)]; omega
   dsimp only
   rw [w1,Int.toNat_natCast]
   obtain ⟨ad1,b1,p3,n3,c3,p4,n4,c4,ha1,hq1,b0,b1',b2⟩:=rq_at (h.le (L5.trans l6) fun _ _ g=>g.le (L5.trans l6)) hi
   refine ⟨isSome_addr ha1,⟨by omega,by omega⟩,_,_,_,_,_,_,_,ad1,ha1,b0,b1',b2,fun V9 l9=>(c_num_Of 1 (by decide) (by decide)).mono ?_⟩
   rintro r V10 l10 g2
   have g20:=g2
   obtain ⟨_,_,_,_,_,_,rfl⟩:=g2.shape
   refine ⟨_,_,_,_,_,_,_,rfl,fun V11 l11=>(c_num_Plus (hq1.le (l9.trans (l10.trans l11))) (g20.le l11) (hs _ (List.getElem_mem hi)) szi_one (by omega)).mono ?_⟩
   rintro r V12 l12 q2
   have q20:=q2
   obtain ⟨_,_,_,_,_,_,rfl⟩:=q2.shape
   refine ⟨_,_,_,_,_,_,_,rfl,by omega,ic,hv,rfl,?_,fun sp c' h1 h2 V13 l13 bk hb=>?_⟩
   ·intro v hm
    simp only [List.mem_cons,List.not_mem_nil,or_false] at hm
    rcases hm with rfl | rfl | rfl <;> rfl
   ·have L:=l9.trans (l10.trans (l11.trans (l12.trans l13)))
    have:=(hx.le (V':=V13) fun _ _ g=>g.le L).snoc (sp:=sp) rfl (q20.le l13) (by decide)
    rw [hlen] at this
    have k:=Lst.of_mrow (c:=c') hb this (by decide) (by rw [List.length_append,hlen]; exact h1)
    rw [List.length_append,hlen] at k
    rw [getD_at hi]
    exact ⟨_,_,_,rfl,k⟩
end Go.Proofs.Tryz
/- Plain: a number put into an ascending list; an element put into a row. -/
namespace Go.Proofs.Tryz
open Go.Eng Go.Big
/-- x put into a list, each number once. -/
def insQ (x:Rat):List Rat->List Rat
 | []=>[x]
 | y :: r=>if y < x then y :: insQ x r else if y=x then y :: r else x :: y :: r
theorem insQ_at {x:Rat}:∀(o:List Rat) (k:Nat),k<=o.length->(∀j (h:j < o.length),j < k->o[j] < x)->(∀h:k < o.length,¬ o[k] < x) ->
  insQ x o=if (∃h:k < o.length,o[k]=x) then o else o.take k++x :: o.drop k:=by
 intro o
 induction o with
 | nil=>
  intro k hk _ _
  obtain rfl:k=0:=by simpa using hk
  simp [insQ]
 | cons y r ih=>
  intro k hk hlt hge
  cases k with
  | zero=>
   have h0:¬ y < x:=hge (by simp)
   unfold insQ
   rw [if_neg h0]
   by_cases e:y=x
   ·rw [if_pos e,if_pos ⟨by simp,e⟩]
   ·rw [if_neg e,if_neg (by rintro ⟨_,h⟩; exact e h)]
    rfl
  | succ k=>
   have h0:y < x:=hlt 0 (by simp) (by omega)
   unfold insQ
   rw [if_pos h0,ih k (by simpa using hk) (fun j h hj=>hlt (j + 1) (by simpa using h) (by omega)) (fun h=>hge (by simpa using h))]
   by_cases e:∃h:k < r.length,r[k]=x
   ·obtain ⟨h1,h2⟩:=e
    rw [if_pos ⟨h1,h2⟩,if_pos ⟨by simpa using h1,h2⟩]
   ·rw [if_neg e,if_neg (by rintro ⟨h1,h2⟩; exact e ⟨by simpa using h1,h2⟩)]
    rfl
theorem row_insert {α:Type} {sz:Nat} {R:View->Value->α->Prop} {V:View} {vs:List Value} {ls:List α} (h:Row sz R V vs ls) {k:Nat} (hk:k<=ls.length) {xs sp:List Value} {a:α} (hx:xs.length=sz) (ha:R V (.agg xs.toArray) a) (hs:0 < sz) :
  Row sz R V (vs.take (k * sz)++(xs++(vs.take (ls.length * sz)).drop (k * sz))++sp) (ls.take k++a :: ls.drop k):=by
 have hl:=h.len_le hs
 have hks:k * sz<=ls.length * sz:=Nat.mul_le_mul_right _ hk
 have t1:(vs.take (k * sz)).length=k * sz:=by rw [List.length_take]; omega
 have t2:((vs.take (ls.length * sz)).drop (k * sz)).length=ls.length * sz - k * sz:=by rw [List.length_drop,List.length_take]; omega
 have a1:(ls.take k).length=k:=by rw [List.length_take]; omega
 refine ⟨fun i hi=>?_⟩
 rw [List.append_assoc]
 by_cases c1:i < k
 ·have hi':i < ls.length:=by omega
  obtain ⟨ys,y1,y2,y3⟩:=h.at_ i hi'
  have e:(ls.take k++a :: ls.drop k)[i]=ls[i]:=by rw [List.getElem_append_left (by omega),List.getElem_take]
  refine ⟨ys,y1,by rw [e]; exact y2,fun j x hj=>?_⟩
  have hj':=(List.getElem?_eq_some_iff.1 hj).1
  have hlt:i * sz + j < k * sz:=by
   have:(i + 1) * sz<=k * sz:=Nat.mul_le_mul_right _ c1
   rw [Nat.succ_mul] at this
   omega
  rw [List.getElem?_append_left (by omega),List.getElem?_take,if_pos hlt]
  exact y3 j x hj
 ·by_cases c2:i=k
  ·subst c2
   have e:(ls.take i++a :: ls.drop i)[i]=a:=by
    rw [List.getElem_append_right (by omega)]
    simp [a1]
   refine ⟨xs,hx,by rw [e]; exact ha,fun j x hj=>?_⟩
   have hj':=(List.getElem?_eq_some_iff.1 hj).1
   rw [List.getElem?_append_right (by omega),t1,Nat.add_sub_cancel_left,List.append_assoc,List.getElem?_append_left hj']
   exact hj
  ·have hi':i - 1 < ls.length:=by
    rw [List.length_append,a1,List.length_cons,List.length_drop] at hi
    omega
   obtain ⟨ys,y1,y2,y3⟩:=h.at_ (i - 1) hi'
   have e:(ls.take k++a :: ls.drop k)[i]=ls[i - 1]:=by
    rw [List.getElem_append_right (by omega)]
    obtain ⟨m,hm⟩:∃m,i=k + (m + 1):=⟨i - k - 1,by omega⟩
    subst hm
    simp only [a1,Nat.add_sub_cancel_left,List.getElem_cons_succ,List.getElem_drop]
    congr 1
   refine ⟨ys,y1,by rw [e]; exact y2,fun j x hj=>?_⟩
   have hj':=(List.getElem?_eq_some_iff.1 hj).1
   obtain ⟨m,hm⟩:∃m,i=k + 1 + m:=⟨i - k - 1,by omega⟩
   subst hm
   have e1:(k + 1 + m) * sz=k * sz + sz + m * sz:=by rw [Nat.add_mul,Nat.add_mul,Nat.one_mul]
   have e2:(k + 1 + m - 1) * sz=k * sz + m * sz:=by rw [show k + 1 + m - 1=k + m by omega,Nat.add_mul]
   have:=y3 j x hj
   rw [e2] at this
   have hlt:k * sz + m * sz + j < ls.length * sz:=by
    have:(k + m + 1) * sz<=ls.length * sz:=Nat.mul_le_mul_right _ (by omega)
    rw [Nat.add_mul,Nat.add_mul,Nat.one_mul] at this
    omega
   rw [List.getElem?_append_right (by omega),t1,List.append_assoc,List.getElem?_append_right (by omega),hx,List.getElem?_append_left (by omega),List.getElem?_drop,List.getElem?_take,if_pos (by omega)]
   rw [show k * sz + ((k + 1 + m) * sz + j - k * sz - sz)=k * sz + m * sz + j by omega]
   exact this
end Go.Proofs.Tryz
/- Contract: the reference's ends. -/
namespace Go.Proofs.Tryz
open Go.Eng Go.Big
def stepE (s:Sp) (o:List Rat):Nat->List Rat
 | 0=>o
 | 1=>if s.a then o else insQ s.lo o
 | _=>if s.b then (if s.a then o else insQ s.lo o) else insQ s.hi (if s.a then o else insQ s.lo o)
def endsL (ss:List Sp):List Rat:=ss.foldl (fun o s=>stepE s o 2) []
theorem endsL_succ {ss:List Sp} {i:Nat} (hi:i < ss.length):endsL (ss.take (i + 1))=stepE ss[i] (endsL (ss.take i)) 2:=by
 unfold endsL
 rw [List.take_add_one,List.getElem?_eq_getElem hi,List.foldl_append]; rfl
theorem insQ_mem {x q:Rat}:∀{o:List Rat},q ∈ insQ x o->q=x \/ q ∈ o:=by
 intro o
 induction o with
 | nil=>intro h; simp [insQ] at h; exact .inl h
 | cons y r ih=>
  unfold insQ
  split
  ·intro h
   rcases List.mem_cons.1 h with h | h
   ·exact .inr (by simp [h])
   ·rcases ih h with h | h
    ·exact .inl h
    ·exact .inr (by simp [h])
  ·split
   ·exact .inr
   ·intro h
    rcases List.mem_cons.1 h with h | h
    ·exact .inl h
    ·exact .inr h
theorem insQ_len {x:Rat}:∀{o:List Rat},(insQ x o).length<=o.length + 1:=by
 intro o
 induction o with
 | nil=>simp [insQ]
 | cons y r ih=>
  unfold insQ
  split
  ·simp; omega
  ·split <;> simp
theorem stepE_succ {s:Sp} {o:List Rat} {y:Nat} (hy:y < 2):stepE s o (y + 1)=if (if y=0 then s.a else s.b)=true then stepE s o y else insQ (if y=0 then s.lo else s.hi) (stepE s o y):=by
 have:y=0 \/ y=1:=by omega
 rcases this with rfl | rfl <;> rfl
theorem stepE_len {s:Sp} {o:List Rat} {y:Nat} (hy:y<=2):(stepE s o y).length<=o.length + y:=by
 have h1:=@insQ_len s.lo o
 have h2:=@insQ_len s.hi (if s.a then o else insQ s.lo o)
 have h3:(if s.a then o else insQ s.lo o).length<=o.length + 1:=by split <;> omega
 have:y=0 \/ y=1 \/ y=2:=by omega
 rcases this with rfl | rfl | rfl
 ·exact Nat.le_refl _
 ·exact h3
 ·show (if s.b=true then (if s.a=true then o else insQ s.lo o) else insQ s.hi (if s.a=true then o else insQ s.lo o)).length<=_
  by_cases hb:s.b=true
  ·rw [if_pos hb]; omega
  ·rw [if_neg hb]; omega
theorem stepE_mem {s:Sp} {o:List Rat} {y:Nat} (hy:y<=2) {q:Rat} (h:q ∈ stepE s o y):q=s.lo \/ q=s.hi \/ q ∈ o:=by
 have h1:q ∈ (if s.a then o else insQ s.lo o)->q=s.lo \/ q=s.hi \/ q ∈ o:=by
  split
  ·exact fun h=>.inr (.inr h)
  ·intro h
   rcases insQ_mem h with h | h
   ·exact .inl h
   ·exact .inr (.inr h)
 have:y=0 \/ y=1 \/ y=2:=by omega
 rcases this with rfl | rfl | rfl
 ·exact .inr (.inr h)
 ·exact h1 h
 ·replace h:q ∈ (if s.b=true then (if s.a=true then o else insQ s.lo o) else insQ s.hi (if s.a=true then o else insQ s.lo o)):=h
  by_cases hb:s.b=true
  ·rw [if_pos hb] at h
   exact h1 h
  ·rw [if_neg hb] at h
   rcases insQ_mem h with h | h
   ·exact .inr (.inl h)
   ·exact h1 h
theorem endsL_len (ss:List Sp):(endsL ss).length<=2 * ss.length:=by
 have:∀(ss:List Sp) (o:List Rat),(ss.foldl (fun o s=>stepE s o 2) o).length<=o.length + 2 * ss.length:=by
  intro ss
  induction ss with
  | nil=>intro o; simp
  | cons s r ih=>
   intro o
   have:=ih (stepE s o 2)
   have h2:=stepE_len (s:=s) (o:=o) (Nat.le_refl 2)
   simp only [List.foldl_cons,List.length_cons]
   omega
 have:=this ss []
 simpa [endsL] using this
theorem endsL_mem {ss:List Sp} {q:Rat} (h:q ∈ endsL ss):∃s ∈ ss,q=s.lo \/ q=s.hi:=by
 have:∀(ss:List Sp) (o:List Rat),q ∈ (ss.foldl (fun o s=>stepE s o 2) o)->q ∈ o \/ ∃s ∈ ss,q=s.lo \/ q=s.hi:=by
  intro ss
  induction ss with
  | nil=>exact fun o h=>.inl h
  | cons s r ih=>
   intro o h
   rcases ih _ h with h | ⟨t,ht,h⟩
   ·rcases stepE_mem (Nat.le_refl 2) h with h | h | h
    ·exact .inr ⟨s,by simp,.inl h⟩
    ·exact .inr ⟨s,by simp,.inr h⟩
    ·exact .inl h
   ·exact .inr ⟨t,by simp [ht],h⟩
 rcases this ss [] h with h | h
 ·simp at h
 ·exact h
/-- A number's cells in an own row. -/
theorem row_rq {V:View} {vs:List Value} {qs:List Rat} (h:Row 3 RQ V vs qs) {i:Nat} (hi:i < qs.length):∃b p1 n1 c1 p2 n2 c2,i * 3 + 3<=vs.length/\(vs.drop (i * 3)).take 3=[.bool b,.slice p1 n1 c1,.slice p2 n2 c2]/\RQ V (.agg #[.bool b,.slice p1 n1 c1,.slice p2 n2 c2]) qs[i]:=by
 obtain ⟨xs,-,hq,hc⟩:=h.at_ i hi
 have hq0:=hq
 obtain ⟨p1,n1,c1,p2,n2,c2,e⟩:=hq.shape
 have e:=congrArg Array.toList (Value.agg.inj e)
 dsimp only at e
 subst e
 have a0:=hc 0 _ rfl
 have a1:=hc 1 _ rfl
 have a2:=hc 2 _ rfl
 have hl:=(List.getElem?_eq_some_iff.1 a2).1
 refine ⟨_,p1,n1,c1,p2,n2,c2,by omega,?_,hq0⟩
 apply List.ext_getElem?
 intro j
 rw [List.getElem?_take]
 by_cases h0:j < 3
 ·rw [if_pos h0,List.getElem?_drop]
  have:j=0 \/ j=1 \/ j=2:=by omega
  rcases this with rfl | rfl | rfl
  ·exact a0
  ·exact a1
  ·exact a2
 ·rw [if_neg h0,List.getElem?_eq_none (by simp; omega)]
end Go.Proofs.Tryz
/- Contract: the reference's ends. -/
namespace Go.Proofs.Tryz
open Go.Eng Go.Big
theorem row_cell {V:View} {vs:List Value} {qs:List Rat} (h:Row 3 RQ V vs qs) {m:Nat} (hm:m < qs.length * 3) {v:Value} (hv:vs[m]?=some v):v.oneCell'=true:=by
 have hi:m / 3 < qs.length:=by omega
 obtain ⟨b,p1,n1,c1,p2,n2,c2,hl,e,-⟩:=row_rq h hi
 have e3:m=m / 3 * 3 + m % 3:=by omega
 have hlt:m % 3 < 3:=Nat.mod_lt _ (by decide)
 have:((vs.drop (m / 3 * 3)).take 3)[m % 3]?=some v:=by
  rw [List.getElem?_take,if_pos hlt,List.getElem?_drop,← e3]; exact hv
 rw [e] at this
 have hj:m % 3=0 \/ m % 3=1 \/ m % 3=2:=by omega
 rcases hj with hj | hj | hj <;> rw [hj] at this <;> cases this <;> rfl
theorem cmpQ_neg {a b:Rat}:cmpQ a b < 0↔a < b:=by
 rcases cmpQ_or a b with ⟨h,e⟩ | ⟨h,e⟩ | ⟨h,e⟩ <;> rw [e] <;> constructor <;> intro h' <;> first | exact h | omega | (exfalso; grind)
set_option maxHeartbeats 1000000 in
theorem c_ref06_ends {V:View} {p:OA} {n c:Nat} {ss:List Sp} (h:RSl V p n ss) (hn:ss.length < 100000000) {k:Nat} (hs:∀s ∈ ss,s.sz k) (hk:2 * k < 274877906944) :
  Acts prog 70 #[.slice p n c] V fun r V'=>∃q m e,r=.slice q m e/\Lst 3 RQ V' q m (endsL ss):=by
 obtain rfl:=h.len
 refine vc_ref06_ends p _ c V _ ⟨fun z V'=>∃i:Nat,z.2.2.2=(i:Int)/\i<=ss.length/\z.1=(endsL (ss.take i)).length/\z.1<=z.2.1/\z.2.1 * 3<=z.2.2.1.length/\Row 3 RQ V' z.2.2.1 (endsL (ss.take i)),fun z=>ss.length - z.2.2.2.toNat,
  ⟨(0,0,[],0),by and_intros <;> rfl,0,rfl,Nat.zero_le _,rfl,Nat.le_refl _,Nat.le_refl _,Row.nil⟩,?_⟩
 rintro ⟨z1,z2,vs,z4⟩ V1 l1 ⟨i,e4,ile,e1,ic,hv,hx⟩
 dsimp only at e4 e1 ic hv hx
 subst e4
 refine ⟨rfl,fun hlt=>?_,fun hlt V13 l13 bk hb=>?_⟩
 ·have hlt:(i:Int) < ss.length:=of_decide_eq_true hlt
  have hi:i < ss.length:=by omega
  have w:i64.wrap ((i:Int) + 1)=(i:Int) + 1:=i64w (by omega)
  dsimp only
  rw [Int.toNat_natCast,w]
  obtain ⟨ad,ha,xs,hf,hat⟩:=(h.le l1).at_ i hi
  have hss:=hs _ (List.getElem_mem hi)
  have hsucc:=endsL_succ hi
  have hol:(endsL (ss.take i)).length < 300000000:=by
   have:=endsL_len (ss.take i)
   rw [List.length_take] at this
   omega
  have hom:∀q ∈ endsL (ss.take i),Sz k q:=fun q hq=>by
   obtain ⟨s,h1,h2⟩:=endsL_mem hq
   have:=hs s (List.mem_of_mem_take h1)
   rcases h2 with rfl | rfl
   ·exact this.1
   ·exact this.2
  generalize endsL (ss.take i)=o at *
  generalize ss[i]=s at *
  obtain ⟨b,p1,n1,c1,p2,n2,c2,d,q1,m1,f1,q2,m2,f2,ex,hlo,hhi⟩:=hf
  have ex:=congrArg Array.toList (Value.agg.inj ex)
  dsimp only at ex
  subst ex
  refine ⟨isSome_addr ha,⟨by omega,by omega⟩,b,p1,n1,c1,p2,n2,c2,d,q1,m1,f1,q2,m2,f2,s.a,s.b,ad,ha,hat 0 _ rfl,hat 1 _ rfl,hat 2 _ rfl,hat 3 _ rfl,hat 4 _ rfl,hat 5 _ rfl,hat 6 _ rfl,hat 7 _ rfl,
   fun z _=>z=(2,2,[.bool b,.slice p1 n1 c1,.slice p2 n2 c2,.bool d,.slice q1 m1 f1,.slice q2 m2 f2],2,0),⟨(2,2,[.bool b,.slice p1 n1 c1,.slice p2 n2 c2,.bool d,.slice q1 m1 f1,.slice q2 m2 f2],2,0),by and_intros <;> first | rfl | decide,rfl⟩,?_⟩
  rintro z V2 l2 rfl
  dsimp only
  refine ⟨rfl,fun z V'=>∃y:Nat,z.2.2.2=(y:Int)/\y<=2/\z.1=(stepE s o y).length/\z.1<=z.2.1/\z.2.1 * 3<=z.2.2.1.length/\Row 3 RQ V' z.2.2.1 (stepE s o y),fun z=>2 - z.2.2.2.toNat,
   ⟨(z1,z2,vs,0),by and_intros <;> rfl,0,rfl,by omega,e1,ic,hv,hx.le fun _ _ g=>g.le l2⟩,?_⟩
  rintro ⟨w1,w2,us,w4⟩ V3 l3 ⟨y,f4,yle,g1,fc,fv,fx⟩
  dsimp only at f4 g1 fc fv fx
  subst f4
  refine ⟨rfl,fun hy=>?_,fun hy=>?_⟩
  ·have hy:(y:Int) < 2:=of_decide_eq_true hy
   have hy2:y < 2:=by omega
   have hst:=stepE_succ (s:=s) (o:=o) hy2
   have hOl:=stepE_len (s:=s) (o:=o) yle
   have hOm:∀q ∈ stepE s o y,Sz k q:=fun q hq=>by
    rcases stepE_mem yle hq with h | h | h
    ·rw [h]; exact hss.1
    ·rw [h]; exact hss.2
    ·exact hom q h
   have wy:i64.wrap ((y:Int) + 1)=(y:Int) + 1:=i64w (by omega)
   generalize hO:stepE s o y=O at *
   generalize hO':stepE s o (y + 1)=O' at *
   have el:∃eb ep en ec eq em ee x no,([.bool b,.slice p1 n1 c1,.slice p2 n2 c2,.bool d,.slice q1 m1 f1,.slice q2 m2 f2].drop (y * 3)).take 3=[Value.bool eb,.slice ep en ec,.slice eq em ee]/\RQ V3 (.agg #[.bool eb,.slice ep en ec,.slice eq em ee]) x/\Sz k x/\O'=(if no=true then O else insQ x O) /\
     ((y=0/\no=s.a) \/ (y=1/\no=s.b)):=by
    have:y=0 \/ y=1:=by omega
    rcases this with rfl | rfl
    ·exact ⟨b,p1,n1,c1,p2,n2,c2,s.lo,s.a,rfl,hlo.le (l2.trans l3),hss.1,hst,.inl ⟨rfl,rfl⟩⟩
    ·exact ⟨d,q1,m1,f1,q2,m2,f2,s.hi,s.b,rfl,hhi.le (l2.trans l3),hss.2,hst,.inr ⟨rfl,rfl⟩⟩
   obtain ⟨eb,ep,en,ec,eq,em,ee,x,no,eel,hq,sx,hO2,hno⟩:=el
   dsimp only
   rw [Int.toNat_natCast,wy]
   refine ⟨⟨by omega,by omega⟩,Nat.le_refl _,eb,ep,en,ec,eq,em,ee,⟨by simp; omega,eel⟩,fun z _=>z=no,?_,?_⟩
   ·rcases hno with ⟨rfl,rfl⟩ | ⟨rfl,rfl⟩
    ·exact ⟨fun _=>⟨fun ha=>⟨true,by and_intros <;> rfl,ha.symm⟩,fun ha=>⟨(fun h=>by simp at h),fun _=>⟨false,by and_intros <;> rfl,ha.symm⟩⟩⟩,fun h=>by simp at h⟩
    ·exact ⟨fun h=>by simp at h,fun _=>⟨fun _=>⟨s.b,by and_intros <;> rfl,rfl⟩,fun h=>by simp at h⟩⟩
   ·rintro z V4 l4 rfl
    refine ⟨rfl,fun hz=>⟨(w1,w2,us,(y:Int) + 1),by dsimp only; omega,by and_intros <;> rfl,y + 1,rfl,by omega,?_,fc,fv,?_⟩,fun hz=>?_⟩
    ·show w1=(stepE s o (y + 1)).length
     rw [hO',hO2,if_pos hz]; exact g1
    ·show Row 3 RQ V4 us (stepE s o (y + 1))
     rw [hO',hO2,if_pos hz]; exact fx.le fun _ _ g=>g.le l4
    ·have hO3:O'=insQ x O:=by rw [hO2,hz]; rfl
     refine ⟨fun z _=>∃j:Nat,z=(j:Int)/\j<=O.length/\∀(i':Nat) (h:i' < O.length),i' < j->O[i'] < x,fun z=>O.length - z.toNat,⟨0,by and_intros <;> rfl,0,rfl,Nat.zero_le _,fun i' _ h=>absurd h (Nat.not_lt_zero i')⟩,?_⟩
     rintro z V5 l5 ⟨j,rfl,jle,jl⟩
     have wj:i64.wrap ((j:Int) + 1)=(j:Int) + 1:=i64w (by omega)
     rw [Int.toNat_natCast,wj]
     refine ⟨rfl,fun z _=>z=true↔∃h:j < O.length,O[j] < x,⟨fun hlt=>?_,fun hlt=>⟨false,by and_intros <;> rfl,?_⟩⟩,?_⟩
     ·have hlt:(j:Int) < (w1:Int):=of_decide_eq_true hlt
      have hj:j < O.length:=by omega
      obtain ⟨rb,rp,rn,rc,rq,rm,re,le1,eqn,hr⟩:=row_rq fx hj
      refine ⟨⟨by omega,by omega⟩,fc,rb,rp,rn,rc,rq,rm,re,⟨le1,eqn⟩,fun V6 l6=>(c_num_C (hr.le (l4.trans (l5.trans l6))) (hq.le (l4.trans (l5.trans l6))) (hOm _ (List.getElem_mem hj)) sx (by omega)).mono ?_⟩
      rintro r V7 l7 rfl
      exact ⟨_,rfl,_,by and_intros <;> rfl,by dsimp only; rw [decide_eq_true_eq,cmpQ_neg]; exact ⟨fun h=>⟨hj,h⟩,fun ⟨_,h⟩=>h⟩⟩
     ·have hlt:¬ (j:Int) < (w1:Int):=of_decide_eq_false hlt
      exact ⟨(fun h=>nomatch h),fun ⟨h,_⟩=>absurd h (by omega)⟩
     ·rintro z V8 l8 hz8
      refine ⟨rfl,fun hz=>?_,fun hz=>?_⟩
      ·obtain ⟨hj,hx'⟩:=hz8.1 hz
       refine ⟨(j:Int) + 1,by dsimp only; omega,by and_intros <;> rfl,j + 1,rfl,hj,fun i' h hi'=>?_⟩
       by_cases e:i'=j
       ·subst e; exact hx'
       ·exact jl i' h (by omega)
      ·have hge:∀h:j < O.length,¬ O[j] < x:=fun h h'=>by
        have:=hz8.2 ⟨h,h'⟩
        rw [hz] at this; cases this
       have hins:=insQ_at O j jle jl hge
       refine ⟨fun z _=>z=true↔¬ ∃h:j < O.length,O[j]=x,⟨fun he=>⟨true,by and_intros <;> rfl,?_⟩,fun he=>?_⟩,?_⟩
       ·have he:(j:Int)=(w1:Int):=by simpa using he
        exact ⟨fun _ ⟨h,_⟩=>absurd h (by omega),fun _=>rfl⟩
       ·have he:¬ (j:Int)=(w1:Int):=by simpa using he
        have hj:j < O.length:=by omega
        obtain ⟨rb,rp,rn,rc,rq,rm,re,le1,eqn,hr⟩:=row_rq fx hj
        refine ⟨⟨by omega,by omega⟩,fc,rb,rp,rn,rc,rq,rm,re,⟨le1,eqn⟩,fun V6 l6=>(c_num_C (hr.le (l4.trans (l5.trans (l8.trans l6)))) (hq.le (l4.trans (l5.trans (l8.trans l6)))) (hOm _ (List.getElem_mem hj)) sx (by omega)).mono ?_⟩
        rintro r V7 l7 rfl
        exact ⟨_,rfl,_,by and_intros <;> rfl,by dsimp only; rw [bne_iff_ne,ne_eq,← cmpQ_eq]; exact ⟨fun h ⟨_,h'⟩=>h h',fun h h'=>h ⟨hj,h'⟩⟩⟩
       ·rintro z V11 l11 hz11
        refine ⟨rfl,fun hz V12 l12 bk hb J=>?_,fun hz=>?_⟩
        ·have hne:=hz11.1 hz
         rw [if_neg hne] at hins
         have fxl:=fx.len_le (by decide)
         have fx12:=fx.le (V':=V12) fun _ _ g=>g.le (l4.trans (l5.trans (l8.trans (l11.trans l12))))
         have hq12:=hq.le (l4.trans (l5.trans (l8.trans (l11.trans l12))))
         have t1:(us.take (j * 3)).length=j * 3:=by rw [List.length_take]; omega
         have t2:((us.take (O.length * 3)).drop (j * 3)).length=(w1 - j) * 3:=by rw [List.length_drop,List.length_take,g1]; omega
         have oc:∀v ∈ (us.take (O.length * 3)).drop (j * 3),v.oneCell'=true:=by
          intro v hv'
          obtain ⟨m,hm,e⟩:=List.mem_iff_getElem.1 (List.mem_of_mem_drop hv')
          have hm':m < O.length * 3:=by rw [List.length_take] at hm; omega
          have:=List.getElem?_eq_getElem hm
          rw [e,List.getElem?_take,if_pos hm'] at this
          exact row_cell fx hm' this
         have hmem:0 < w2->us≠[]:=fun hw e=>by rw [e] at fv; simp at fv; omega
         have hmA:0 < w2->mA bk w2=some ⟨bk,0,none⟩:=fun hw=>by unfold mA; rw [if_neg (by omega)]
         have at_:∀m v,m < O.length * 3->us[m]?=some v->V12.at ⟨bk,m,none⟩ v:=fun m v hm hv'=>blk_at (hb (hmem (by omega))) hv'
         refine ⟨⟨by omega,by omega⟩,⟨by omega,by omega⟩,⟨by omega,by omega⟩,(us.take (O.length * 3)).drop (j * 3),?_,t2,by omega,Nat.le_refl _,Nat.le_refl _,t2,oc,fun bk2 J2 sp c' h1 h2=>?_⟩
         ·intro m v hm
          have hml:=(List.getElem?_eq_some_iff.1 hm).1
          rw [t2] at hml
          rw [List.getElem?_drop,List.getElem?_take,if_pos (by omega)] at hm
          have:=at_ (j * 3 + m) v (by omega) hm
          refine ⟨⟨bk,j * 3,none⟩,?_,?_⟩
          ·unfold slA
           rw [if_neg (by omega),hmA (by omega)]
           simp [addrAdd,add_zero']
          ·rw [← add_zero',adr_add2,add_zero']; exact this
         ·have hrt:rowTake (([.bool eb,.slice ep en ec,.slice eq em ee]:List Value).take (1 * 3)++(us.take (O.length * 3)).drop (j * 3)++sp) 0 ((1 + (w1 - j)) * 3)=[.bool eb,.slice ep en ec,.slice eq em ee]++(us.take (O.length * 3)).drop (j * 3):=by
           have e3:(([.bool eb,.slice ep en ec,.slice eq em ee]:List Value).take (1 * 3))=[.bool eb,.slice ep en ec,.slice eq em ee]:=rfl
           rw [e3]
           have hl:([.bool eb,.slice ep en ec,.slice eq em ee]++(us.take (O.length * 3)).drop (j * 3):List Value).length=(1 + (w1 - j)) * 3:=by
            rw [List.length_append,t2]; simp only [List.length_cons,List.length_nil]; omega
           unfold rowTake
           rw [Nat.ble_eq_true_of_le (by rw [List.length_append,hl]; omega),cond_true,List.drop_zero,List.take_append_of_le_length (by rw [hl]; exact Nat.le_refl _),List.take_of_length_le (by rw [hl]; exact Nat.le_refl _)]
          have hrl:([.bool eb,.slice ep en ec,.slice eq em ee]++(us.take (O.length * 3)).drop (j * 3):List Value).length=(1 + (w1 - j)) * 3:=by
           rw [List.length_append,t2]; simp only [List.length_cons,List.length_nil]; omega
          have hr3:(1 + (w1 - j)) * 3 / 3=1 + (w1 - j):=Nat.mul_div_cancel _ (by decide)
          rw [hrt,hrl,hr3]
          refine ⟨us.take (j * 3),?_,t1,Nat.le_refl _,?_,by omega,by omega,rfl,?_,fun sp2 c2' h3 h4=>⟨(j + (1 + (w1 - j)),c2',_,(y:Int) + 1),by dsimp only; omega,by and_intros <;> first | rfl | omega,y + 1,rfl,by omega,?_,h3,?_,?_⟩⟩
          ·intro m v hm
           have hml:=(List.getElem?_eq_some_iff.1 hm).1
           rw [t1] at hml
           rw [List.getElem?_take,if_pos hml] at hm
           exact ⟨⟨bk,0,none⟩,hmA (by omega),by rw [add_zero']; exact at_ m v (by omega) hm⟩
          ·intro hN
           by_cases hw:0 < w2
           ·rw [hmA hw] at hN; cases hN
           ·omega
          ·intro v hv'
           rcases List.mem_append.1 hv' with hv' | hv'
           ·simp only [List.mem_cons,List.not_mem_nil,or_false] at hv'
            rcases hv' with rfl | rfl | rfl <;> rfl
           ·exact oc v hv'
          ·show j + (1 + (w1 - j))=(stepE s o (y + 1)).length
           rw [hO',hO3,hins,List.length_append,List.length_take,List.length_cons,List.length_drop]
           omega
          ·dsimp only
           rw [List.length_append,List.length_append,t1,hrl]
           omega
          ·show Row 3 RQ V12 _ (stepE s o (y + 1))
           rw [hO',hO3,hins]
           exact row_insert fx12 jle rfl hq12 (by decide)
        ·have hex:∃h:j < O.length,O[j]=x:=Classical.byContradiction fun h=>by have:=hz11.2 h; rw [hz] at this; cases this
         rw [if_pos hex] at hins
         refine ⟨(w1,w2,us,(y:Int) + 1),by dsimp only; omega,by and_intros <;> rfl,y + 1,rfl,by omega,?_,fc,fv,?_⟩
         ·show w1=(stepE s o (y + 1)).length
          rw [hO',hO3,hins]; exact g1
         ·show Row 3 RQ V11 us (stepE s o (y + 1))
          rw [hO',hO3,hins]; exact fx.le fun _ _ g=>g.le (l4.trans (l5.trans (l8.trans l11)))
  ·have hy:¬ (y:Int) < 2:=of_decide_eq_false hy
   obtain rfl:y=2:=by omega
   exact ⟨(w1,w2,us,(i:Int) + 1),by dsimp only; omega,by and_intros <;> rfl,i + 1,rfl,hi,by dsimp only; rw [hsucc]; exact g1,fc,fv,by dsimp only; rw [hsucc]; exact fx⟩
 ·have hlt:¬ (i:Int) < ss.length:=of_decide_eq_false hlt
  obtain rfl:i=ss.length:=by omega
  rw [List.take_length] at e1 hx
  subst e1
  exact ⟨_,_,_,rfl,Lst.of_mrow hb (hx.le fun _ _ g=>g.le l13) (by decide) ic⟩
end Go.Proofs.Tryz
/- Contract: the reference's From. -/
namespace Go.Proofs.Tryz
open Go.Eng Go.Big
def gapS (cuts:List Rat) (i:Nat):Sp:=⟨if 0 < i then cuts.getD (i - 1) 0 else 0,if i < cuts.length then cuts.getD i 0 else 0,decide (i=0),decide (i=cuts.length)⟩
/-- The last span takes the upper end of another one. -/
def lastHi (out:List Sp) (s:Sp):List Sp:=out.dropLast++[⟨(out.getLastD Sp.zero).lo,s.hi,(out.getLastD Sp.zero).a,s.b⟩]
def fromI (cuts:List Rat) (marks:List Bool):Nat->List Sp
 | 0=>[]
 | i + 1=>if marks.getD i false=true then (if 0 < i/\marks.getD (i - 1) false=true/\0 < (fromI cuts marks i).length then lastHi (fromI cuts marks i) (gapS cuts i) else fromI cuts marks i++[gapS cuts i]) else fromI cuts marks i
def fromL (cuts:List Rat) (marks:List Bool):List Sp:=fromI cuts marks marks.length
theorem lastHi_len {out:List Sp} {s:Sp} (h:0 < out.length):(lastHi out s).length=out.length:=by
 unfold lastHi; rw [List.length_append,List.length_dropLast]; simp; omega
theorem fromI_len (cuts:List Rat) (marks:List Bool) (i:Nat):(fromI cuts marks i).length<=i:=by
 induction i with
 | zero=>simp [fromI]
 | succ i ih=>
  unfold fromI
  split
  ·split
   ·rename_i h; rw [lastHi_len h.2.2]; omega
   ·rw [List.length_append]; simp; omega
  ·omega
/-- The last element of a row is changed. -/
theorem row_last {α:Type} {sz:Nat} {R:View->Value->α->Prop} {V:View} {vs us:List Value} {ls:List α} (h:Row sz R V vs ls) (h0:0 < ls.length) {xs:List Value} {a:α} (hx:xs.length=sz) (ha:R V (.agg xs.toArray) a)
  (hlow:∀q,q < (ls.length - 1) * sz->us[q]?=vs[q]?) (hlast:∀j x,xs[j]?=some x->us[(ls.length - 1) * sz + j]?=some x):Row sz R V us (ls.dropLast++[a]):=by
 refine ⟨fun i hi=>?_⟩
 have hl:(ls.dropLast++[a]).length=ls.length:=by rw [List.length_append,List.length_dropLast]; simp; omega
 by_cases e:i=ls.length - 1
 ·subst e
  refine ⟨xs,hx,?_,hlast⟩
  have e2:(ls.dropLast++[a])[ls.length - 1]=a:=by
   rw [List.getElem_append_right (by simp)]; simp
  rw [e2]; exact ha
 ·have hi':i < ls.length - 1:=by omega
  obtain ⟨ys,y1,y2,y3⟩:=h.at_ i (by omega)
  refine ⟨ys,y1,?_,fun j x hj=>?_⟩
  ·have e2:(ls.dropLast++[a])[i]=ls[i]:=by
    rw [List.getElem_append_left (by rw [List.length_dropLast]; exact hi'),List.getElem_dropLast]
   rw [e2]; exact y2
  ·have hj':=(List.getElem?_eq_some_iff.1 hj).1
   have hlt:i * sz + j < (ls.length - 1) * sz:=by
    have:(i + 1) * sz<=(ls.length - 1) * sz:=Nat.mul_le_mul_right _ (by omega)
    rw [Nat.succ_mul] at this
    omega
   rw [hlow _ hlt]
   exact y3 j x hj
/-- A truth value that lies in one cell. -/
def RBl (_:View) (v:Value) (b:Bool):Prop:=v=.agg #[.bool b]
theorem rb_at {V:View} {p:OA} {n:Nat} {bs:List Bool} (h:Lst 1 RBl V p n bs) {i:Nat} (hi:i < bs.length):∃ad,addrAdd p (i * 1)=some ad/\V.at ad (.bool bs[i]):=by
 obtain ⟨ad,ha,xs,-,e,hc⟩:=h.at_ i hi
 have e:=congrArg Array.toList (Value.agg.inj e)
 dsimp only at e
 subst e
 have:=hc 0 _ rfl
 exact ⟨ad,ha,by simpa [Addr.add] using this⟩
/-- A span's cells in an own row. -/
theorem rs_cells {V:View} {xs:List Value} {s:Sp} (h:RSs V (.agg xs.toArray) s):∃b p n c p' n' c' d q m e q' m' e',xs=[.bool b,.slice p n c,.slice p' n' c',.bool d,.slice q m e,.slice q' m' e',.bool s.a,.bool s.b] /\
  RQ V (.agg #[.bool b,.slice p n c,.slice p' n' c']) s.lo/\RQ V (.agg #[.bool d,.slice q m e,.slice q' m' e']) s.hi:=by
 obtain ⟨_,_,_,_,_,_,_,_,_,_,_,_,_,_,ex,h1,h2⟩:=h
 have ex:=congrArg Array.toList (Value.agg.inj ex)
 exact ⟨_,_,_,_,_,_,_,_,_,_,_,_,_,_,ex,h1,h2⟩
end Go.Proofs.Tryz
