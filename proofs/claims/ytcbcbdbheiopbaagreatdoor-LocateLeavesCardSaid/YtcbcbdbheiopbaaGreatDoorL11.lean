/- A part of the proof (joined by program from: VNumQ, VInt, IntA). -/
import Derived.Test.YtcbcbdbheiopbaaGreatDoorL5
import Derived.Test.YtcbcbdbheiopbaaGreatDoorL10
set_option linter.unusedVariables false
open Go.IntKind (i64 u64 u32)
/- By program: the conditions of the functions, from their loaded code. -/
namespace Go.Proofs.Tryz
open Go.Eng
open Go.Value renaming int→I,pointer→P,slice→S,agg→A,bool→B,tuple→T
open Go.IntKind renaming i64→J,u64→U,u32→W
set_option maxRecDepth 100000
theorem vc_num_Make (b:Bool) (c:OA) (a d:Nat) (V:View) (R:VR) (h:((b=true->(Rt V R (A #[B (decide ((a:Int) > (0:Int))),S c a d])))/\(b=false->(Rt V R (A #[B false,S c a d]))))):
 Acts prog 103 #[B b,S c a d] V R:=
 fd (LF:=LF0) (RF:=[1000015]) [] [] func103 h
theorem vc_num_Int (a:Int) (V:View) (R:VR) (h:(((decide (a < (0:Int)))=true->(Ca V 177 #[I U (U.wrap (0 - (U.wrap a)))] fun t u=>∃b c d,t=S b c d/\(Ca u 103 #[B true,S b c d] fun w x=>∃e,∃f g i,w=A #[B e,S f g i]/\(Rt x R (A #[B e,S f g i])))))/\((decide (a < (0:Int)))=false->(Ca V 177 #[I U (U.wrap a)] fun y z=>∃l m n,y=S l m n/\(Ca z 103 #[B false,S l m n] fun a0 a1=>∃o,∃p q r,a0=A #[B o,S p q r]/\(Rt a1 R (A #[B o,S p q r]))))))):
 Acts prog 170 #[I J a] V R:=
 fd (LF:=LF0) (RF:=[1000015]) [] [] func170 h
theorem vc_num_Sign (a:Bool) (f:OA) (b g:Nat) (V:View) (R:VR) (h:((((b:Int) == (0:Int))=true->(Rt V R (I J 0)))/\(((b:Int) == (0:Int))=false->((a=true->(Rt V R (I J (-1))))/\(a=false->(Rt V R (I J 1))))))):
 Acts prog 166 #[A #[B a,S f b g]] V R:=
 fd (LF:=LF0) (RF:=[1000015]) [] [] func166 h
theorem vc_num_Minus (a:Bool) (b:OA) (c d:Nat) (V:View) (R:VR) (h:(Ca V 103 #[B (!a),S b c d] fun l m=>∃e,∃f g i,l=A #[B e,S f g i]/\(Rt m R (A #[B e,S f g i])))):
 Acts prog 123 #[A #[B a,S b c d]] V R:=
 fd (LF:=LF0) (RF:=[1000015]) [] [] func123 h
theorem vc_num_Add (a:Bool) (b:OA) (c d:Nat) (i:Bool) (e:OA) (f g:Nat) (V:View) (R:VR) (h:(((a == i)=true->(Ca V 173 #[S b c d,S e f g] fun b1 b2=>∃l m n,b1=S l m n/\(Ca b2 103 #[B a,S l m n] fun b3 b4=>∃o,∃p q r,b3=A #[B o,S p q r]/\(Rt b4 R (A #[B o,S p q r])))))/\((a == i)=false->(Ca V 174 #[S b c d,S e f g] fun b5 t=>∃k,b5=I J k/\(((decide (k < (0:Int)))=true->(Ca t 175 #[S e f g,S b c d] fun b6 b7=>∃u w x,b6=S u w x/\(Ca b7 103 #[B i,S u w x] fun b8 b9=>∃y,∃z a0 a1,b8=A #[B y,S z a0 a1]/\(Rt b9 R (A #[B y,S z a0 a1])))))/\((decide (k < (0:Int)))=false->(Ca t 175 #[S b c d,S e f g] fun c0 c1=>∃a3 a4 a5,c0=S a3 a4 a5/\(Ca c1 103 #[B a,S a3 a4 a5] fun c2 c3=>∃a6,∃a7 a8 a9,c2=A #[B a6,S a7 a8 a9]/\(Rt c3 R (A #[B a6,S a7 a8 a9])))))))))):
 Acts prog 100 #[A #[B a,S b c d],A #[B i,S e f g]] V R:=
 fd (LF:=LF0) (RF:=[1000015]) [] [] func100 h
theorem vc_num_Mul (a:Bool) (b:OA) (c d:Nat) (e:Bool) (f:OA) (g i:Nat) (V:View) (R:VR) (h:(Ca V 105 #[S b c d,S f g i] fun s t=>∃k l m,s=S k l m/\(Ca t 103 #[B (!(a == e)),S k l m] fun u w=>∃n,∃o p q,u=A #[B n,S o p q]/\(Rt w R (A #[B n,S o p q]))))):
 Acts prog 102 #[A #[B a,S b c d],A #[B e,S f g i]] V R:=
 fd (LF:=LF0) (RF:=[1000015]) [] [] func102 h
theorem vc_num_Compare (a:Bool) (b:OA) (c d:Nat) (e:Bool) (f:OA) (g i:Nat) (V:View) (R:VR) (h:(Ca V 123 #[A #[B e,S f g i]] fun u w=>∃k,∃l m n,u=A #[B k,S l m n]/\(Ca w 100 #[A #[B a,S b c d],A #[B k,S l m n]] fun x y=>∃o,∃p q r,x=A #[B o,S p q r]/\(Ca y 166 #[A #[B o,S p q r]] fun z a0=>∃s,z=I J s/\(Rt a0 R (I J s)))))):
 Acts prog 223 #[A #[B a,S b c d],A #[B e,S f g i]] V R:=
 fd (LF:=LF0) (RF:=[1000015]) [] [] func223 h
theorem vc_num_Den (k:Bool) (l:OA) (m n:Nat) (b:OA) (a c:Nat) (V:View) (R:VR) (h:((((a:Int) == (0:Int))=true->(Ca V 176 #[] fun o p=>∃d e f,o=S d e f/\(Rt p R (S d e f))))/\(((a:Int) == (0:Int))=false->(Rt V R (S b a c))))):
 Acts prog 104 #[A #[B k,S l m n,S b a c]] V R:=
 fd (LF:=LF0) (RF:=[1000015]) [] [] func104 h
theorem vc_num_Frac (g:Bool) (a:OA) (b c:Nat) (d:OA) (e f:Nat) (V:View) (R:VR) (h:(Ca V 168 #[S a b c,S d e f] fun b6 b7=>∃i k l,b6=S i k l/\(Ca b7 176 #[] fun b8 b9=>∃x y z,b8=S x y z/\(Ca b9 174 #[S i k l,S x y z] fun c0 a0=>∃m,c0=I J m/\(((m != (0:Int))=true->(Ca a0 169 #[S a b c,S i k l] fun c1 c2=>∃a1 a2 a3,∃c3 c4 c5,c1=T #[S a1 a2 a3,S c3 c4 c5]/\(Ca c2 103 #[B g,S a1 a2 a3] fun c6 c7=>∃n,∃o p q,c6=A #[B n,S o p q]/\(Ca c7 169 #[S d e f,S i k l] fun c8 c9=>∃r s t,∃d0 d1 d2,c8=T #[S r s t,S d0 d1 d2]/\(Ca c9 176 #[] fun d3 d4=>∃a4 a5 a6,d3=S a4 a5 a6/\(Ca d4 174 #[S r s t,S a4 a5 a6] fun d5 a7=>∃u,d5=I J u/\(((u == (0:Int))=true->(Rt a7 R (A #[B n,S o p q,S none 0 0])))/\((u == (0:Int))=false->(Rt a7 R (A #[B n,S o p q,S r s t]))))))))))/\((m != (0:Int))=false->(Ca a0 176 #[] fun d6 d7=>∃b0 b1 b2,d6=S b0 b1 b2/\(Ca d7 174 #[S d e f,S b0 b1 b2] fun d8 b3=>∃w,d8=I J w/\(((w == (0:Int))=true->(Rt b3 R (A #[B g,S a b c,S none 0 0])))/\((w == (0:Int))=false->(Rt b3 R (A #[B g,S a b c,S d e f])))))))))))):
 Acts prog 101 #[A #[B g,S a b c],S d e f] V R:=
 fd (LF:=LF0) (RF:=[1000015]) [] [] func101 h
theorem vc_num_Of (a:Int) (V:View) (R:VR) (h:(Ca V 170 #[I J a] fun g i=>∃b,∃c d e,g=A #[B b,S c d e]/\(Rt i R (A #[B b,S c d e,S none 0 0])))):
 Acts prog 92 #[I J a] V R:=
 fd (LF:=LF0) (RF:=[1000015]) [] [] func92 h
theorem vc_num_Part (a b:Int) (V:View) (R:VR) (h:(Ca V 170 #[I J a] fun t u=>∃c,∃d e f,t=A #[B c,S d e f]/\(Ca u 177 #[I U (U.wrap b)] fun w x=>∃g i k,w=S g i k/\(Ca x 101 #[A #[B c,S d e f],S g i k] fun y z=>∃l,∃m n o,∃p q r,y=A #[B l,S m n o,S p q r]/\(Rt z R (A #[B l,S m n o,S p q r])))))):
 Acts prog 106 #[I J a,I J b] V R:=
 fd (LF:=LF0) (RF:=[1000015]) [] [] func106 h
theorem vc_num_S (a:Bool) (b:OA) (c d:Nat) (g:OA) (i k:Nat) (V:View) (R:VR) (h:(Ca V 166 #[A #[B a,S b c d]] fun l m=>∃e,l=I J e/\(Rt m R (I J e)))):
 Acts prog 86 #[A #[B a,S b c d,S g i k]] V R:=
 fd (LF:=LF0) (RF:=[1000015]) [] [] func86 h
theorem vc_num_Opp (a:Bool) (b:OA) (c d:Nat) (e:OA) (f g:Nat) (V:View) (R:VR) (h:(Ca V 123 #[A #[B a,S b c d]] fun o p=>∃i,∃k l m,o=A #[B i,S k l m]/\(Rt p R (A #[B i,S k l m,S e f g])))):
 Acts prog 83 #[A #[B a,S b c d,S e f g]] V R:=
 fd (LF:=LF0) (RF:=[1000015]) [] [] func83 h
theorem vc_num_Plus (a:Bool) (b:OA) (c d:Nat) (m:OA) (k n:Nat) (e:Bool) (f:OA) (g i:Nat) (o:OA) (l p:Nat) (V:View) (R:VR) (h:((((k:Int) == (0:Int))=true->((((l:Int) == (0:Int))=true->(Ca V 100 #[A #[B a,S b c d],A #[B e,S f g i]] fun k2 k3=>∃q,∃r s t,k2=A #[B q,S r s t]/\(Rt k3 R (A #[B q,S r s t,S none 0 0]))))/\(((l:Int) == (0:Int))=false->(Ca V 104 #[A #[B e,S f g i,S o l p]] fun k4 k5=>∃w x y,k4=S w x y/\(Ca k5 103 #[B false,S w x y] fun k6 k7=>∃z,∃a0 a1 a2,k6=A #[B z,S a0 a1 a2]/\(Ca k7 102 #[A #[B a,S b c d],A #[B z,S a0 a1 a2]] fun k8 k9=>∃a3,∃a4 a5 a6,k8=A #[B a3,S a4 a5 a6]/\(Ca k9 104 #[A #[B a,S b c d,S m k n]] fun l0 l1=>∃a7 a8 a9,l0=S a7 a8 a9/\(Ca l1 103 #[B false,S a7 a8 a9] fun l2 l3=>∃b0,∃b1 b2 b3,l2=A #[B b0,S b1 b2 b3]/\(Ca l3 102 #[A #[B e,S f g i],A #[B b0,S b1 b2 b3]] fun l4 l5=>∃b4,∃b5 b6 b7,l4=A #[B b4,S b5 b6 b7]/\(Ca l5 100 #[A #[B a3,S a4 a5 a6],A #[B b4,S b5 b6 b7]] fun l6 l7=>∃b8,∃b9 c0 c1,l6=A #[B b8,S b9 c0 c1]/\(Ca l7 104 #[A #[B a,S b c d,S m k n]] fun l8 l9=>∃c2 c3 c4,l8=S c2 c3 c4/\(Ca l9 104 #[A #[B e,S f g i,S o l p]] fun m0 m1=>∃c5 c6 c7,m0=S c5 c6 c7/\(Ca m1 105 #[S c2 c3 c4,S c5 c6 c7] fun m2 m3=>∃c8 c9 d0,m2=S c8 c9 d0/\(Ca m3 101 #[A #[B b8,S b9 c0 c1],S c8 c9 d0] fun m4 m5=>∃d1,∃d2 d3 d4,∃d5 d6 d7,m4=A #[B d1,S d2 d3 d4,S d5 d6 d7]/\(Rt m5 R (A #[B d1,S d2 d3 d4,S d5 d6 d7]))))))))))))))))/\(((k:Int) == (0:Int))=false->(Ca V 104 #[A #[B e,S f g i,S o l p]] fun m6 m7=>∃d9 e0 e1,m6=S d9 e0 e1/\(Ca m7 103 #[B false,S d9 e0 e1] fun m8 m9=>∃e2,∃e3 e4 e5,m8=A #[B e2,S e3 e4 e5]/\(Ca m9 102 #[A #[B a,S b c d],A #[B e2,S e3 e4 e5]] fun n0 n1=>∃e6,∃e7 e8 e9,n0=A #[B e6,S e7 e8 e9]/\(Ca n1 104 #[A #[B a,S b c d,S m k n]] fun n2 n3=>∃f0 f1 f2,n2=S f0 f1 f2/\(Ca n3 103 #[B false,S f0 f1 f2] fun n4 n5=>∃f3,∃f4 f5 f6,n4=A #[B f3,S f4 f5 f6]/\(Ca n5 102 #[A #[B e,S f g i],A #[B f3,S f4 f5 f6]] fun n6 n7=>∃f7,∃f8 f9 g0,n6=A #[B f7,S f8 f9 g0]/\(Ca n7 100 #[A #[B e6,S e7 e8 e9],A #[B f7,S f8 f9 g0]] fun n8 n9=>∃g1,∃g2 g3 g4,n8=A #[B g1,S g2 g3 g4]/\(Ca n9 104 #[A #[B a,S b c d,S m k n]] fun o0 o1=>∃g5 g6 g7,o0=S g5 g6 g7/\(Ca o1 104 #[A #[B e,S f g i,S o l p]] fun o2 o3=>∃g8 g9 i0,o2=S g8 g9 i0/\(Ca o3 105 #[S g5 g6 g7,S g8 g9 i0] fun o4 o5=>∃i1 i2 i3,o4=S i1 i2 i3/\(Ca o5 101 #[A #[B g1,S g2 g3 g4],S i1 i2 i3] fun o6 o7=>∃i4,∃i5 i6 i7,∃i8 i9 k0,o6=A #[B i4,S i5 i6 i7,S i8 i9 k0]/\(Rt o7 R (A #[B i4,S i5 i6 i7,S i8 i9 k0])))))))))))))))):
 Acts prog 36 #[A #[B a,S b c d,S m k n],A #[B e,S f g i,S o l p]] V R:=
 fd (LF:=LF0) (RF:=[1000015]) [] [] func36 h
theorem vc_num_Sub (a:Bool) (b:OA) (c d:Nat) (e:OA) (f g:Nat) (i:Bool) (k:OA) (l m:Nat) (n:OA) (o p:Nat) (V:View) (R:VR) (h:(Ca V 83 #[A #[B i,S k l m,S n o p]] fun a6 a7=>∃q,∃r s t,∃u w x,a6=A #[B q,S r s t,S u w x]/\(Ca a7 36 #[A #[B a,S b c d,S e f g],A #[B q,S r s t,S u w x]] fun a8 a9=>∃y,∃z a0 a1,∃a2 a3 a4,a8=A #[B y,S z a0 a1,S a2 a3 a4]/\(Rt a9 R (A #[B y,S z a0 a1,S a2 a3 a4]))))):
 Acts prog 93 #[A #[B a,S b c d,S e f g],A #[B i,S k l m,S n o p]] V R:=
 fd (LF:=LF0) (RF:=[1000015]) [] [] func93 h
theorem vc_num_Times (a:Bool) (b:OA) (c d:Nat) (m:OA) (k n:Nat) (e:Bool) (f:OA) (g i:Nat) (o:OA) (l p:Nat) (V:View) (R:VR) (h:((((k:Int) == (0:Int))=true->((((l:Int) == (0:Int))=true->(Ca V 102 #[A #[B a,S b c d],A #[B e,S f g i]] fun d8 d9=>∃q,∃r s t,d8=A #[B q,S r s t]/\(Rt d9 R (A #[B q,S r s t,S none 0 0]))))/\(((l:Int) == (0:Int))=false->(Ca V 102 #[A #[B a,S b c d],A #[B e,S f g i]] fun e0 e1=>∃w,∃x y z,e0=A #[B w,S x y z]/\(Ca e1 104 #[A #[B a,S b c d,S m k n]] fun e2 e3=>∃a0 a1 a2,e2=S a0 a1 a2/\(Ca e3 104 #[A #[B e,S f g i,S o l p]] fun e4 e5=>∃a3 a4 a5,e4=S a3 a4 a5/\(Ca e5 105 #[S a0 a1 a2,S a3 a4 a5] fun e6 e7=>∃a6 a7 a8,e6=S a6 a7 a8/\(Ca e7 101 #[A #[B w,S x y z],S a6 a7 a8] fun e8 e9=>∃a9,∃b0 b1 b2,∃b3 b4 b5,e8=A #[B a9,S b0 b1 b2,S b3 b4 b5]/\(Rt e9 R (A #[B a9,S b0 b1 b2,S b3 b4 b5]))))))))))/\(((k:Int) == (0:Int))=false->(Ca V 102 #[A #[B a,S b c d],A #[B e,S f g i]] fun f0 f1=>∃b7,∃b8 b9 c0,f0=A #[B b7,S b8 b9 c0]/\(Ca f1 104 #[A #[B a,S b c d,S m k n]] fun f2 f3=>∃c1 c2 c3,f2=S c1 c2 c3/\(Ca f3 104 #[A #[B e,S f g i,S o l p]] fun f4 f5=>∃c4 c5 c6,f4=S c4 c5 c6/\(Ca f5 105 #[S c1 c2 c3,S c4 c5 c6] fun f6 f7=>∃c7 c8 c9,f6=S c7 c8 c9/\(Ca f7 101 #[A #[B b7,S b8 b9 c0],S c7 c8 c9] fun f8 f9=>∃d0,∃d1 d2 d3,∃d4 d5 d6,f8=A #[B d0,S d1 d2 d3,S d4 d5 d6]/\(Rt f9 R (A #[B d0,S d1 d2 d3,S d4 d5 d6])))))))))):
 Acts prog 150 #[A #[B a,S b c d,S m k n],A #[B e,S f g i,S o l p]] V R:=
 fd (LF:=LF0) (RF:=[1000015]) [] [] func150 h
theorem vc_num_Over (a:Bool) (b:OA) (c d:Nat) (k:OA) (l m:Nat) (e:Bool) (f:OA) (g i:Nat) (n:OA) (o p:Nat) (V:View) (R:VR) (h:(Ca V 104 #[A #[B e,S f g i,S n o p]] fun b6 b7=>∃q r s,b6=S q r s/\(Ca b7 103 #[B e,S q r s] fun b8 b9=>∃t,∃u w x,b8=A #[B t,S u w x]/\(Ca b9 102 #[A #[B a,S b c d],A #[B t,S u w x]] fun c0 c1=>∃y,∃z a0 a1,c0=A #[B y,S z a0 a1]/\(Ca c1 104 #[A #[B a,S b c d,S k l m]] fun c2 c3=>∃a2 a3 a4,c2=S a2 a3 a4/\(Ca c3 105 #[S a2 a3 a4,S f g i] fun c4 c5=>∃a5 a6 a7,c4=S a5 a6 a7/\(Ca c5 101 #[A #[B y,S z a0 a1],S a5 a6 a7] fun c6 c7=>∃a8,∃a9 b0 b1,∃b2 b3 b4,c6=A #[B a8,S a9 b0 b1,S b2 b3 b4]/\(Rt c7 R (A #[B a8,S a9 b0 b1,S b2 b3 b4]))))))))):
 Acts prog 95 #[A #[B a,S b c d,S k l m],A #[B e,S f g i,S n o p]] V R:=
 fd (LF:=LF0) (RF:=[1000015]) [] [] func95 h
theorem vc_num_C (a:Bool) (b:OA) (c d:Nat) (e:OA) (f g:Nat) (i:Bool) (k:OA) (l m:Nat) (n:OA) (o p:Nat) (V:View) (R:VR) (h:(Ca V 93 #[A #[B a,S b c d,S e f g],A #[B i,S k l m,S n o p]] fun a0 a1=>∃q,∃r s t,∃u w x,a0=A #[B q,S r s t,S u w x]/\(Ca a1 86 #[A #[B q,S r s t,S u w x]] fun a2 a3=>∃y,a2=I J y/\(Rt a3 R (I J y))))):
 Acts prog 96 #[A #[B a,S b c d,S e f g],A #[B i,S k l m,S n o p]] V R:=
 fd (LF:=LF0) (RF:=[1000015]) [] [] func96 h
end Go.Proofs.Tryz
/- By program: the conditions of the functions, from their loaded code. -/
namespace Go.Proofs.Tryz
open Go.Eng
open Go.Value renaming int→I,pointer→P,slice→S,agg→A,bool→B,tuple→T
open Go.IntKind renaming i64→J,u64→U,u32→W
set_option maxRecDepth 100000
theorem vc_integer_Norm (b:Bool) (e:OA) (f g:Nat) (V:View) (R:VR) (h:(Ca V 290 #[S e f g] fun m i=>∃c a d,m=S c a d/\((b=true->(Rt i R (A #[B (decide ((a:Int) > (0:Int))),S c a d])))/\(b=false->(Rt i R (A #[B false,S c a d])))))):
 Acts prog 255 #[A #[B b,S e f g]] V R:=
 fd (LF:=LF0) (RF:=[1000015]) [] [] func255 h
theorem vc_integer_Normal (a:Bool) (e:OA) (b f:Nat) (V:View) (R:VR) (h:(Ca V 260 #[S e b f] fun l c=>∃d,l=B d/\((d=true->(((!a)=true->(Rt c R (B true)))/\((!a)=false->(Rt c R (B (decide ((b:Int) > (0:Int))))))))/\(d=false->(Rt c R (B false)))))):
 Acts prog 195 #[A #[B a,S e b f]] V R:=
 fd (LF:=LF0) (RF:=[1000015]) [] [] func195 h
theorem vc_integer_FromInt (a:Int) (V:View) (R:VR) (h:(((decide (a < (0:Int)))=true->(Ca V 309 #[I U (U.wrap (0 - (U.wrap a)))] fun l m=>∃b c d,l=S b c d/\(Rt m R (A #[B (decide (a < (0:Int))),S b c d]))))/\((decide (a < (0:Int)))=false->(Ca V 309 #[I U (U.wrap a)] fun n o=>∃f g i,n=S f g i/\(Rt o R (A #[B (decide (a < (0:Int))),S f g i])))))):
 Acts prog 256 #[I J a] V R:=
 fd (LF:=LF0) (RF:=[1000015]) [] [] func256 h
theorem vc_integer_Int64 (c:Bool) (e:OA) (f g:Nat) (V:View) (R:VR) (h:(Ca V 289 #[S e f g] fun x a=>∃b,∃d,x=T #[I U b,B d]/\((d=true->((c=true->(((decide (b<=(9223372036854775808:Int)))=true->(Rt a R (T #[I J (J.wrap (U.wrap (0 - b))),B true])))/\((decide (b<=(9223372036854775808:Int)))=false->((d=true->(((!c)=true->(((decide (b<=(9223372036854775807:Int)))=true->(Rt a R (T #[I J (J.wrap b),B true])))/\((decide (b<=(9223372036854775807:Int)))=false->(Rt a R (T #[I J 0,B false])))))/\((!c)=false->(Rt a R (T #[I J 0,B false])))))/\(d=false->(Rt a R (T #[I J 0,B false])))))))/\(c=false->((d=true->(((!c)=true->(((decide (b<=(9223372036854775807:Int)))=true->(Rt a R (T #[I J (J.wrap b),B true])))/\((decide (b<=(9223372036854775807:Int)))=false->(Rt a R (T #[I J 0,B false])))))/\((!c)=false->(Rt a R (T #[I J 0,B false])))))/\(d=false->(Rt a R (T #[I J 0,B false])))))))/\(d=false->((d=true->(((!c)=true->(((decide (b<=(9223372036854775807:Int)))=true->(Rt a R (T #[I J (J.wrap b),B true])))/\((decide (b<=(9223372036854775807:Int)))=false->(Rt a R (T #[I J 0,B false])))))/\((!c)=false->(Rt a R (T #[I J 0,B false])))))/\(d=false->(Rt a R (T #[I J 0,B false])))))))):
 Acts prog 288 #[A #[B c,S e f g]] V R:=
 fd (LF:=LF0) (RF:=[1000015]) [] [] func288 h
theorem vc_integer_Sign (a:Bool) (d:OA) (e f:Nat) (V:View) (R:VR) (h:(Ca V 286 #[S d e f] fun l b=>∃c,l=I J c/\(((c == (0:Int))=true->(Rt b R (I J 0)))/\((c == (0:Int))=false->((a=true->(Rt b R (I J (-1))))/\(a=false->(Rt b R (I J 1)))))))):
 Acts prog 244 #[A #[B a,S d e f]] V R:=
 fd (LF:=LF0) (RF:=[1000015]) [] [] func244 h
theorem vc_integer_Neg (a:Bool) (b:OA) (c d:Nat) (V:View) (R:VR) (h:(Ca V 255 #[A #[B (!a),S b c d]] fun l m=>∃e,∃f g i,l=A #[B e,S f g i]/\(Rt m R (A #[B e,S f g i])))):
 Acts prog 314 #[A #[B a,S b c d]] V R:=
 fd (LF:=LF0) (RF:=[1000015]) [] [] func314 h
theorem vc_integer_signed (b:Bool) (c:OA) (a d:Nat) (V:View) (R:VR) (h:((b=true->(Rt V R (A #[B (decide ((a:Int) > (0:Int))),S c a d])))/\(b=false->(Rt V R (A #[B false,S c a d]))))):
 Acts prog 343 #[B b,S c a d] V R:=
 fd (LF:=LF0) (RF:=[1000015]) [] [] func343 h
theorem vc_integer_Add (a:Bool) (b:OA) (c d:Nat) (e:Bool) (f:OA) (g i:Nat) (V:View) (R:VR) (h:(((a == e)=true->(Ca V 344 #[S b c d,S f g i] fun b1 b2=>∃l m n,b1=S l m n/\(Ca b2 343 #[B a,S l m n] fun b3 b4=>∃o,∃p q r,b3=A #[B o,S p q r]/\(Rt b4 R (A #[B o,S p q r])))))/\((a == e)=false->(Ca V 345 #[S b c d,S f g i] fun b5 t=>∃u w x,∃k,b5=T #[S u w x,B k]/\((k=true->(Ca t 343 #[B a,S u w x] fun b6 b7=>∃y,∃z a0 a1,b6=A #[B y,S z a0 a1]/\(Rt b7 R (A #[B y,S z a0 a1]))))/\(k=false->(Ca t 345 #[S f g i,S b c d] fun b8 b9=>∃a3 a4 a5,∃c0,b8=T #[S a3 a4 a5,B c0]/\(Ca b9 343 #[B e,S a3 a4 a5] fun c1 c2=>∃a6,∃a7 a8 a9,c1=A #[B a6,S a7 a8 a9]/\(Rt c2 R (A #[B a6,S a7 a8 a9])))))))))):
 Acts prog 294 #[A #[B a,S b c d],A #[B e,S f g i]] V R:=
 fd (LF:=LF0) (RF:=[1000015]) [] [] func294 h
theorem vc_integer_Mul (a:Bool) (b:OA) (c d:Nat) (e:Bool) (f:OA) (g i:Nat) (V:View) (R:VR) (h:(Ca V 263 #[S b c d,S f g i] fun s t=>∃k l m,s=S k l m/\(Ca t 343 #[B (!(a == e)),S k l m] fun u w=>∃n,∃o p q,u=A #[B n,S o p q]/\(Rt w R (A #[B n,S o p q]))))):
 Acts prog 293 #[A #[B a,S b c d],A #[B e,S f g i]] V R:=
 fd (LF:=LF0) (RF:=[1000015]) [] [] func293 h
end Go.Proofs.Tryz
/- Contracts of package integer. -/
namespace Go.Big
/-- The value of a sign and digits. -/
def ival (b:Bool) (ds:List Nat):Int:=if b then -(val ds:Int) else val ds
end Go.Big
namespace Go.Eng
open Go.Big
/-- An integer in normal form. -/
def RI (V:View) (v:Value) (z:Int):Prop:=∃p n c,v=.agg #[.bool (decide (z < 0)),.slice p n c]/\RD V p n c (digs z.natAbs)
theorem RI.le {V V':View} {v:Value} {z:Int} (h:RI V v z) (l:V.Le V'):RI V' v z:=by
 obtain ⟨p,n,c,e,h⟩:=h; exact ⟨p,n,c,e,h.le l⟩
theorem RI.mk {V:View} {b:Bool} {p:OA} {n c:Nat} {z:Int} (hb:b=decide (z < 0)) (h:RD V p n c (digs z.natAbs)):RI V (.agg #[.bool b,.slice p n c]) z:=⟨p,n,c,by rw [hb],h⟩
theorem RI.zero {V:View}:RI V (.agg #[.bool false,.slice none 0 0]) 0:=⟨_,_,_,rfl,RD.nil⟩
end Go.Eng
namespace Go.Proofs.Tryz
open Go.Eng Go.Big
theorem blen_zero {n:Nat}:blen n=0↔n=0:=by
 unfold blen; split <;> simp_all
theorem ival_natAbs (b:Bool) (ds:List Nat):(ival b ds).natAbs=val ds:=by unfold ival; cases b <;> simp
theorem ival_neg (b:Bool) (ds:List Nat):ival b ds < 0↔b=true/\val ds≠0:=by
 unfold ival; cases b
 ·simp
 ·simp; omega
theorem ival_digs (z:Int):ival (decide (z < 0)) (digs z.natAbs)=z:=by
 unfold ival; rw [val_digs]
 by_cases h:z < 0
 ·rw [decide_eq_true h,if_pos rfl]; omega
 ·rw [decide_eq_false h,if_neg (by decide)]; omega
theorem ival_not (b:Bool) (ds:List Nat):ival (!b) ds=-ival b ds:=by unfold ival; cases b <;> simp
theorem ival_false (ds:List Nat):ival false ds=val ds:=rfl
theorem len_pos_digs {x n:Nat} (h:n=(digs x).length):0 < n↔x≠0:=by
 rw [h]
 constructor
 ·intro h1 h2; subst h2; simp at h1
 ·intro h1
  rcases Nat.eq_zero_or_pos (digs x).length with e | e
  ·exact absurd (digs_eq_nil.1 (List.length_eq_zero_iff.1 e)) h1
  ·exact e
theorem c_integer_signed {V:View} (b:Bool) {p:OA} {n c x:Nat} (h:RN V p n c x) :
  Acts prog 343 #[.bool b,.slice p n c] V fun r V'=>RI V' r (if b then -(x:Int) else x):=by
 have hp:=len_pos_digs h.len
 refine vc_integer_signed b p n c V _ ⟨fun h0 V1 l1=>?_,fun h0 V1 l1=>?_⟩
 ·rw [if_pos h0]
  refine RI.mk ?_ ?_
  ·rw [Bool.eq_iff_iff,decide_eq_true_eq,decide_eq_true_eq]
   omega
  ·rw [Int.natAbs_neg,Int.natAbs_natCast]; exact h.le l1
 ·rw [h0,if_neg (by decide)]
  refine RI.mk ?_ ?_
  ·symm; rw [decide_eq_false_iff_not]; omega
  ·rw [Int.natAbs_natCast]; exact h.le l1
theorem c_integer_Norm {V:View} (b:Bool) {p:OA} {n c:Nat} {ds:List Nat} (h:RD V p n c ds) (hm:ds.length<=1099511627776) :
  Acts prog 255 #[.agg #[.bool b,.slice p n c]] V fun r V'=>RI V' r (ival b ds):=by
 refine vc_integer_Norm b p n c V _ fun V1 l1=>(c_nat_Norm (h.le l1) hm).mono ?_
 rintro r V2 l2 ⟨p1,n1,c1,rfl,h1⟩
 have hp:=len_pos_digs h1.len
 have hn:=ival_neg b ds
 refine ⟨_,_,_,rfl,fun h0 V3 l3=>RI.mk ?_ ?_,fun h0 V3 l3=>RI.mk ?_ ?_⟩
 ·rw [Bool.eq_iff_iff,decide_eq_true_eq,decide_eq_true_eq,hn]
  simp [h0]; omega
 ·rw [ival_natAbs]; exact h1.le l3
 ·symm; rw [decide_eq_false_iff_not,hn]; simp [h0]
 ·rw [ival_natAbs]; exact h1.le l3
/-- A sign and digits in normal form. -/
def NrmI (b:Bool) (ds:List Nat):Bool:=decide (digs (val ds)=ds) && (!b || decide (ds≠[]))
theorem c_integer_Normal {V:View} (b:Bool) {p:OA} {n c:Nat} {ds:List Nat} (h:RD V p n c ds) (hm:ds.length<=1099511627776) :
  Acts prog 195 #[.agg #[.bool b,.slice p n c]] V fun r V'=>r=.bool (NrmI b ds):=by
 refine vc_integer_Normal b p n c V _ fun V1 l1=>(c_nat_Normal (h.le l1) hm).mono ?_
 rintro r V2 l2 rfl
 refine ⟨_,rfl,fun h0=>⟨fun h1 V3 l3=>?_,fun h1 V3 l3=>?_⟩,fun h0 V3 l3=>?_⟩
 ·simp [NrmI,h0]; simp at h1; simp [h1]
 ·have hl:=h.len
  simp [NrmI,h0]; simp at h1; simp [h1]
  rw [Bool.eq_iff_iff,decide_eq_true_eq]
  simp
  constructor
  ·intro h2 h3; subst h3; simp at hl; omega
  ·intro h2
   rcases Nat.eq_zero_or_pos ds.length with e | e
   ·exact absurd (List.length_eq_zero_iff.1 e) h2
   ·omega
 ·simp [NrmI,h0]
theorem c_integer_FromInt {V:View} (n:Int) (h0:-9223372036854775808<=n) (h1:n<=9223372036854775807) :
  Acts prog 256 #[.int .i64 n] V fun r V'=>RI V' r n:=by
 refine vc_integer_FromInt n V _ ⟨fun h2 V1 l1=>?_,fun h2 V1 l1=>?_⟩
 ·have h2:n < 0:=by simpa using h2
  have e:u64.wrap (0 - u64.wrap n)=-n:=by rw [u64m,u64m]; omega
  rw [e]
  refine (c_nat_FromUint _ (by omega) (by omega)).mono ?_
  rintro r V2 l2 ⟨p1,n1,c1,rfl,g1⟩
  refine ⟨_,_,_,rfl,fun V3 l3=>⟨_,_,_,rfl,?_⟩⟩
  rw [show n.natAbs=(-n).toNat from by omega]; exact g1.le l3
 ·have h2:0<=n:=by simpa using h2
  rw [u64w (by omega)]
  refine (c_nat_FromUint _ (by omega) (by omega)).mono ?_
  rintro r V2 l2 ⟨p1,n1,c1,rfl,g1⟩
  refine ⟨_,_,_,rfl,fun V3 l3=>⟨_,_,_,rfl,?_⟩⟩
  rw [show n.natAbs=n.toNat from by omega]; exact g1.le l3
theorem c_integer_Sign {V:View} (b:Bool) {p:OA} {n c:Nat} {ds:List Nat} (h:RD V p n c ds) (hm:ds.length<=1099511627776) :
  Acts prog 244 #[.agg #[.bool b,.slice p n c]] V fun r V'=>r=.int .i64 (ival b ds).sign:=by
 refine vc_integer_Sign b p n c V _ fun V1 l1=>(c_nat_Bits (h.le l1) hm).mono ?_
 rintro r V2 l2 rfl
 have hz:(ival b ds)=0↔val ds=0:=by rw [← ival_natAbs b ds]; omega
 have hn:=ival_neg b ds
 refine ⟨_,rfl,fun h0 V3 l3=>?_,fun h0=>⟨fun h1 V3 l3=>?_,fun h1 V3 l3=>?_⟩⟩
 ·have:val ds=0:=blen_zero.1 (by simp at h0; omega)
  rw [hz.2 this]; rfl
 ·have:val ds≠0:=fun e=>by simp [blen_zero.2 e] at h0
  rw [Int.sign_eq_neg_one_of_neg (hn.2 ⟨h1,this⟩)]
 ·have:val ds≠0:=fun e=>by simp [blen_zero.2 e] at h0
  have:0 < ival b ds:=by
   have:=hz
   have:¬ ival b ds < 0:=by rw [hn]; simp [h1]
   omega
  rw [Int.sign_eq_one_of_pos this]
theorem c_integer_Neg {V:View} (b:Bool) {p:OA} {n c:Nat} {ds:List Nat} (h:RD V p n c ds) (hm:ds.length<=1099511627776) :
  Acts prog 314 #[.agg #[.bool b,.slice p n c]] V fun r V'=>RI V' r (-ival b ds):=by
 refine vc_integer_Neg b p n c V _ fun V1 l1=>(c_integer_Norm (!b) (h.le l1) hm).mono ?_
 rintro r V2 l2 ⟨p1,n1,c1,rfl,h1⟩
 rw [ival_not] at h1 ⊢
 exact ⟨_,_,_,_,rfl,fun V3 l3=>⟨_,_,_,rfl,h1.le l3⟩⟩
theorem c_integer_Mul {V:View} (b1 b2:Bool) {p q:OA} {n c m e:Nat} {xa xb:List Nat} (ha:RD V p n c xa) (hb:RD V q m e xb) (hm:xa.length + xb.length<=1099511627776) :
  Acts prog 293 #[.agg #[.bool b1,.slice p n c],.agg #[.bool b2,.slice q m e]] V fun r V'=>RI V' r (ival b1 xa * ival b2 xb):=by
 refine vc_integer_Mul b1 p n c b2 q m e V _ fun V1 l1=>(c_nat_Mul (ha.le l1) (hb.le l1) hm).mono ?_
 rintro r V2 l2 ⟨p1,n1,c1,rfl,h1⟩
 refine ⟨_,_,_,rfl,fun V3 l3=>(c_integer_signed _ (h1.le l3)).mono ?_⟩
 rintro r V4 l4 ⟨p2,n2,c2,rfl,h2⟩
 have e1:(if (!(b1 == b2))=true then -((val xa * val xb:Nat):Int) else ((val xa * val xb:Nat):Int))=ival b1 xa * ival b2 xb:=by
  unfold ival; cases b1 <;> cases b2 <;> simp [Int.neg_mul,Int.mul_neg]
 rw [e1] at h2 ⊢
 exact ⟨_,_,_,_,rfl,fun V5 l5=>⟨_,_,_,rfl,h2.le l5⟩⟩
theorem c_integer_Add {V:View} (b1 b2:Bool) {p q:OA} {n c m e:Nat} {xa xb:List Nat} (ha:RD V p n c xa) (hb:RD V q m e xb) (hm:xa.length<=1099511627776) (hn:xb.length<=1099511627776) :
  Acts prog 294 #[.agg #[.bool b1,.slice p n c],.agg #[.bool b2,.slice q m e]] V fun r V'=>RI V' r (ival b1 xa + ival b2 xb):=by
 have fin:∀{b:Bool} {x:Nat} {V1:View} {p1:OA} {n1 c1:Nat},RN V1 p1 n1 c1 x->(if b then -(x:Int) else x)=ival b1 xa + ival b2 xb ->
   Acts prog 343 #[.bool b,.slice p1 n1 c1] V1 fun r V'=>∃(b1_:Bool) (p2_:OA) (n2_ c2_:Nat),r=.agg #[.bool b1_,.slice p2_ n2_ c2_]/\∀V3:View,V'.Le V3->RI V3 (.agg #[.bool b1_,.slice p2_ n2_ c2_]) (ival b1 xa + ival b2 xb):=by
  intro b x V1 p1 n1 c1 h he
  refine (c_integer_signed b h).mono ?_
  rintro r V4 l4 ⟨p2,n2,c2,rfl,h2⟩
  rw [he] at h2 ⊢
  exact ⟨_,_,_,_,rfl,fun V5 l5=>⟨_,_,_,rfl,h2.le l5⟩⟩
 refine vc_integer_Add b1 p n c b2 q m e V _ ⟨fun h0 V1 l1=>(c_nat_Add (ha.le l1) (hb.le l1) hm hn).mono ?_,fun h0 V1 l1=>(c_nat_Sub (ha.le l1) (hb.le l1) hm hn).mono ?_⟩
 ·rintro r V2 l2 ⟨p1,n1,c1,rfl,h1⟩
  have h0:b1=b2:=by simpa using h0
  subst h0
  exact ⟨_,_,_,rfl,fun V3 l3=>fin (h1.le l3) (by unfold ival; cases b1 <;> simp; omega)⟩
 ·rintro r V2 l2 ⟨p1,n1,c1,rfl,h1⟩
  have h0:b2=!b1:=by cases b1 <;> cases b2 <;> simp_all
  subst h0
  refine ⟨_,_,_,_,rfl,fun h2 V3 l3=>fin (h1.le l3) ?_,fun h2 V3 l3=>(c_nat_Sub (hb.le (l1.trans (l2.trans l3))) (ha.le (l1.trans (l2.trans l3))) hn hm).mono ?_⟩
  ·have h2:val xb<=val xa:=by simpa using h2
   unfold ival; cases b1 <;> simp <;> omega
  ·rintro r V4 l4 ⟨p2,n2,c2,rfl,h3⟩
   have h2:val xa < val xb:=by simpa using h2
   exact ⟨_,_,_,_,rfl,fun V5 l5=>fin (h3.le l5) (by unfold ival; cases b1 <;> simp <;> omega)⟩
theorem c_integer_Int64 {V:View} (b:Bool) {p:OA} {n c:Nat} {ds:List Nat} (h:RD V p n c ds) (hm:ds.length<=1099511627776) (hs:val ds < 4611686018427387904) :
  Acts prog 288 #[.agg #[.bool b,.slice p n c]] V fun r V'=>r=.tuple #[.int .i64 (ival b ds),.bool true]:=by
 refine vc_integer_Int64 b p n c V _ fun V1 l1=>(c_nat_Uint (h.le l1) hm).mono ?_
 rintro r V2 l2 rfl
 rw [if_pos (by omega),decide_eq_true (show val ds < 18446744073709551616 by omega)]
 refine ⟨_,_,rfl,fun _=>⟨fun h1=>⟨fun h2 V3 l3=>?_,fun h2=>?_⟩,fun h1=>⟨fun _=>⟨fun h2=>⟨fun h3 V4 l4=>?_,fun h3=>?_⟩,fun h2=>?_⟩,fun h2=>nomatch h2⟩⟩,fun h1=>nomatch h1⟩
 ·subst h1
  have e:i64.wrap (u64.wrap (0 - (val ds:Int)))=-(val ds:Int):=by
   rw [u64m,IntKind.wrap_i64]; omega
  rw [e]; rfl
 ·simp at h2; omega
 ·subst h1
  rw [i64w (by omega)]; rfl
 ·simp at h3; omega
 ·simp [h1] at h2
end Go.Proofs.Tryz
