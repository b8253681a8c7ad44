/- A part of the proof (joined by program from: VRefF, NumK, RefD, RefE). -/
import Derived.Test.YtalijajeenhebaaGreatDoorM5
import Derived.Test.YtalijajeenhebaaGreatDoorM12
import Derived.Test.YtalijajeenhebaaGreatDoorM10
set_option linter.unusedVariables false
open Go.IntKind (i64 u64 u32)
/- By program: the conditions of the functions, from their loaded code. -/
namespace Go.Proofs.Tryz
open Go.Eng
open Go.Value renaming int→I,pointer→P,slice→S,agg→A,bool→B,tuple→T
open Go.IntKind renaming i64→J,u64→U,u32→W
set_option maxRecDepth 100000
theorem vc_ref01_ToQ (a:Bool) (b:OA) (c d:Nat) (e:OA) (f g:Nat) (V:View) (R:VR) (h:(Ca V 93 #[A #[B a,S b c d]] fun u w=>∃i,∃k l m,u=A #[B i,S k l m]/\(Ca w 106 #[A #[B a,S b c d,S e f g]] fun x y=>∃n o p,x=S n o p/\(Ca y 105 #[S n o p] fun z a0=>∃q r s,z=S q r s/\(Rt a0 R (A #[B i,S k l m,S q r s])))))):
 Acts prog 50 #[A #[B a,S b c d,S e f g]] V R:=
 fd (LF:=LF0) (RF:=[1000007]) [] [] func50 h
theorem vc_ref01_SameQ (b:Bool) (c:OA) (d e:Nat) (f:OA) (g i:Nat) (k:Bool) (l:OA) (m n:Nat) (o:OA) (p q:Nat) (V:View) (R:VR) (h:(Ca V 114 #[A #[B b,S c d e],A #[B k,S l m n]] fun w r=>∃a,w=B a/\((a=true->(Ca r 119 #[S f g i,S o p q] fun x y=>∃s,x=B s/\(Rt y R (B s))))/\(a=false->(Rt r R (B false)))))):
 Acts prog 63 #[A #[B b,S c d e,S f g i],A #[B k,S l m n,S o p q]] V R:=
 fd (LF:=LF0) (RF:=[1000007]) [] [] func63 h
theorem vc_ref04_ToP (a:Bool) (b:OA) (c d:Nat) (e:OA) (f g:Nat) (i:Bool) (k:OA) (l m:Nat) (n:OA) (o p:Nat) (V:View) (R:VR) (h:(Ca V 50 #[A #[B a,S b c d,S e f g]] fun a6 a7=>∃q,∃r s t,∃u w x,a6=A #[B q,S r s t,S u w x]/\(Ca a7 50 #[A #[B i,S k l m,S n o p]] fun a8 a9=>∃y,∃z a0 a1,∃a2 a3 a4,a8=A #[B y,S z a0 a1,S a2 a3 a4]/\(Rt a9 R (A #[B q,S r s t,S u w x,B y,S z a0 a1,S a2 a3 a4]))))):
 Acts prog 10 #[A #[B a,S b c d,S e f g,B i,S k l m,S n o p]] V R:=
 fd (LF:=LF0) (RF:=[1000007]) [] [] func10 h
theorem vc_ref04_SameP (b:Bool) (c:OA) (d e:Nat) (f:OA) (g i:Nat) (k:Bool) (l:OA) (m n:Nat) (o:OA) (p q:Nat) (r:Bool) (s:OA) (t u:Nat) (w:OA) (x y:Nat) (z:Bool) (a0:OA) (a1 a2:Nat) (a3:OA) (a4 a5:Nat) (V:View) (R:VR) (h:(Ca V 63 #[A #[B b,S c d e,S f g i],A #[B r,S s t u,S w x y]] fun b0 a6=>∃a,b0=B a/\((a=true->(Ca a6 63 #[A #[B k,S l m n,S o p q],A #[B z,S a0 a1 a2,S a3 a4 a5]] fun b1 b2=>∃a7,b1=B a7/\(Rt b2 R (B a7))))/\(a=false->(Rt a6 R (B false)))))):
 Acts prog 18 #[A #[B b,S c d e,S f g i,B k,S l m n,S o p q],A #[B r,S s t u,S w x y,B z,S a0 a1 a2,S a3 a4 a5]] V R:=
 fd (LF:=LF0) (RF:=[1000007]) [] [] func18 h
theorem vc_ref04_Dot (a:Bool) (b:OA) (c d:Nat) (e:OA) (f g:Nat) (i:Bool) (k:OA) (l m:Nat) (n:OA) (o p:Nat) (q:Bool) (r:OA) (s t:Nat) (u:OA) (w x:Nat) (y:Bool) (z:OA) (a0 a1:Nat) (a2:OA) (a3 a4:Nat) (V:View) (R:VR) (h:(Ca V 98 #[A #[B a,S b c d,S e f g],A #[B q,S r s t,S u w x]] fun c7 c8=>∃a5,∃a6 a7 a8,∃a9 b0 b1,c7=A #[B a5,S a6 a7 a8,S a9 b0 b1]/\(Ca c8 98 #[A #[B i,S k l m,S n o p],A #[B y,S z a0 a1,S a2 a3 a4]] fun c9 d0=>∃b2,∃b3 b4 b5,∃b6 b7 b8,c9=A #[B b2,S b3 b4 b5,S b6 b7 b8]/\(Ca d0 80 #[A #[B a5,S a6 a7 a8,S a9 b0 b1],A #[B b2,S b3 b4 b5,S b6 b7 b8]] fun d1 d2=>∃b9,∃c0 c1 c2,∃c3 c4 c5,d1=A #[B b9,S c0 c1 c2,S c3 c4 c5]/\(Rt d2 R (A #[B b9,S c0 c1 c2,S c3 c4 c5])))))):
 Acts prog 112 #[A #[B a,S b c d,S e f g,B i,S k l m,S n o p],A #[B q,S r s t,S u w x,B y,S z a0 a1,S a2 a3 a4]] V R:=
 fd (LF:=LF0) (RF:=[1000007]) [] [] func112 h
theorem vc_ref04_Dir (a:Bool) (b:OA) (c d:Nat) (e:Bool) (f:OA) (g i:Nat) (a7:Bool) (a8:OA) (a9 b0:Nat) (V:View) (R:VR) (h:(Ca V 99 #[A #[B e,S f g i]] fun b1 b2=>∃k,∃l m n,∃o p q,b1=A #[B k,S l m n,S o p q]/\(Ca b2 99 #[A #[B a,S b c d]] fun b3 b4=>∃r,∃s t u,∃w x y,b3=A #[B r,S s t u,S w x y]/\(Ca b4 72 #[A #[B r,S s t u,S w x y]] fun b5 b6=>∃z,∃a0 a1 a2,∃a3 a4 a5,b5=A #[B z,S a0 a1 a2,S a3 a4 a5]/\(Rt b6 R (A #[B k,S l m n,S o p q,B z,S a0 a1 a2,S a3 a4 a5])))))):
 Acts prog 46 #[A #[B a,S b c d,B e,S f g i,B a7,S a8 a9 b0]] V R:=
 fd (LF:=LF0) (RF:=[1000007]) [] [] func46 h
theorem vc_ref04_q (a:Bool) (b:OA) (c d:Nat) (V:View) (R:VR) (h:(Rt V R (A #[B a,S b c d,S none 0 0]))):
 Acts prog 99 #[A #[B a,S b c d]] V R:=
 fd (LF:=LF0) (RF:=[1000007]) [] [] func99 h
theorem vc_ref04_Value (a:Bool) (b:OA) (c d:Nat) (e:Bool) (f:OA) (g i:Nat) (k:Bool) (l:OA) (m n:Nat) (o:Bool) (p:OA) (q r:Nat) (s:OA) (t u:Nat) (w:Bool) (x:OA) (y z:Nat) (a0:OA) (a1 a2:Nat) (V:View) (R:VR) (h:(Ca V 99 #[A #[B a,S b c d]] fun f3 f4=>∃a3,∃a4 a5 a6,∃a7 a8 a9,f3=A #[B a3,S a4 a5 a6,S a7 a8 a9]/\(Ca f4 98 #[A #[B a3,S a4 a5 a6,S a7 a8 a9],A #[B o,S p q r,S s t u]] fun f5 f6=>∃b0,∃b1 b2 b3,∃b4 b5 b6,f5=A #[B b0,S b1 b2 b3,S b4 b5 b6]/\(Ca f6 99 #[A #[B e,S f g i]] fun f7 f8=>∃b7,∃b8 b9 c0,∃c1 c2 c3,f7=A #[B b7,S b8 b9 c0,S c1 c2 c3]/\(Ca f8 98 #[A #[B b7,S b8 b9 c0,S c1 c2 c3],A #[B w,S x y z,S a0 a1 a2]] fun f9 g0=>∃c4,∃c5 c6 c7,∃c8 c9 d0,f9=A #[B c4,S c5 c6 c7,S c8 c9 d0]/\(Ca g0 80 #[A #[B b0,S b1 b2 b3,S b4 b5 b6],A #[B c4,S c5 c6 c7,S c8 c9 d0]] fun g1 g2=>∃d1,∃d2 d3 d4,∃d5 d6 d7,g1=A #[B d1,S d2 d3 d4,S d5 d6 d7]/\(Ca g2 99 #[A #[B k,S l m n]] fun g3 g4=>∃d8,∃d9 e0 e1,∃e2 e3 e4,g3=A #[B d8,S d9 e0 e1,S e2 e3 e4]/\(Ca g4 80 #[A #[B d1,S d2 d3 d4,S d5 d6 d7],A #[B d8,S d9 e0 e1,S e2 e3 e4]] fun g5 g6=>∃e5,∃e6 e7 e8,∃e9 f0 f1,g5=A #[B e5,S e6 e7 e8,S e9 f0 f1]/\(Rt g6 R (A #[B e5,S e6 e7 e8,S e9 f0 f1])))))))))):
 Acts prog 94 #[A #[B a,S b c d,B e,S f g i,B k,S l m n],A #[B o,S p q r,S s t u,B w,S x y z,S a0 a1 a2]] V R:=
 fd (LF:=LF0) (RF:=[1000007]) [] [] func94 h
theorem vc_ref04_Side (a:Bool) (b:OA) (c d:Nat) (e:Bool) (f:OA) (g i:Nat) (k:Bool) (l:OA) (m n:Nat) (o:Bool) (p:OA) (q r:Nat) (s:OA) (t u:Nat) (w:Bool) (x:OA) (y z:Nat) (a0:OA) (a1 a2:Nat) (V:View) (R:VR) (h:(Ca V 94 #[A #[B a,S b c d,B e,S f g i,B k,S l m n],A #[B o,S p q r,S s t u,B w,S x y z,S a0 a1 a2]] fun b2 b3=>∃a3,∃a4 a5 a6,∃a7 a8 a9,b2=A #[B a3,S a4 a5 a6,S a7 a8 a9]/\(Ca b3 44 #[A #[B a3,S a4 a5 a6,S a7 a8 a9]] fun b4 b5=>∃b0,b4=I J b0/\(Rt b5 R (I J b0))))):
 Acts prog 42 #[A #[B a,S b c d,B e,S f g i,B k,S l m n],A #[B o,S p q r,S s t u,B w,S x y z,S a0 a1 a2]] V R:=
 fd (LF:=LF0) (RF:=[1000007]) [] [] func42 h
theorem vc_ref04_Base (a:Bool) (b:OA) (c d:Nat) (e:Bool) (f:OA) (g i:Nat) (k:Bool) (l:OA) (m n:Nat) (V:View) (R:VR) (h:(Ca V 46 #[A #[B a,S b c d,B e,S f g i,B k,S l m n]] fun g0 g1=>∃o,∃p q r,∃s t u,∃w,∃x y z,∃a0 a1 a2,g0=A #[B o,S p q r,S s t u,B w,S x y z,S a0 a1 a2]/\(Ca g1 99 #[A #[B k,S l m n]] fun g2 g3=>∃b0,∃b1 b2 b3,∃b4 b5 b6,g2=A #[B b0,S b1 b2 b3,S b4 b5 b6]/\(Ca g3 112 #[A #[B o,S p q r,S s t u,B w,S x y z,S a0 a1 a2],A #[B o,S p q r,S s t u,B w,S x y z,S a0 a1 a2]] fun g4 g5=>∃b7,∃b8 b9 c0,∃c1 c2 c3,g4=A #[B b7,S b8 b9 c0,S c1 c2 c3]/\(Ca g5 111 #[A #[B b0,S b1 b2 b3,S b4 b5 b6],A #[B b7,S b8 b9 c0,S c1 c2 c3]] fun g6 g7=>∃c4,∃c5 c6 c7,∃c8 c9 d0,g6=A #[B c4,S c5 c6 c7,S c8 c9 d0]/\(Ca g7 72 #[A #[B c4,S c5 c6 c7,S c8 c9 d0]] fun g8 g9=>∃a3,∃a4 a5 a6,∃a7 a8 a9,g8=A #[B a3,S a4 a5 a6,S a7 a8 a9]/\(Ca g9 99 #[A #[B a,S b c d]] fun i0 i1=>∃d1,∃d2 d3 d4,∃d5 d6 d7,i0=A #[B d1,S d2 d3 d4,S d5 d6 d7]/\(Ca i1 98 #[A #[B a3,S a4 a5 a6,S a7 a8 a9],A #[B d1,S d2 d3 d4,S d5 d6 d7]] fun i2 i3=>∃d8,∃d9 e0 e1,∃e2 e3 e4,i2=A #[B d8,S d9 e0 e1,S e2 e3 e4]/\(Ca i3 99 #[A #[B e,S f g i]] fun i4 i5=>∃e5,∃e6 e7 e8,∃e9 f0 f1,i4=A #[B e5,S e6 e7 e8,S e9 f0 f1]/\(Ca i5 98 #[A #[B a3,S a4 a5 a6,S a7 a8 a9],A #[B e5,S e6 e7 e8,S e9 f0 f1]] fun i6 i7=>∃f2,∃f3 f4 f5,∃f6 f7 f8,i6=A #[B f2,S f3 f4 f5,S f6 f7 f8]/\(Rt i7 R (A #[B d8,S d9 e0 e1,S e2 e3 e4,B f2,S f3 f4 f5,S f6 f7 f8])))))))))))):
 Acts prog 64 #[A #[B a,S b c d,B e,S f g i,B k,S l m n]] V R:=
 fd (LF:=LF0) (RF:=[1000007]) [] [] func64 h
theorem vc_ref04_At (a:Bool) (b:OA) (c d:Nat) (e:Bool) (f:OA) (g i:Nat) (k:Bool) (l:OA) (m n:Nat) (o:Bool) (p:OA) (q r:Nat) (s:OA) (t u:Nat) (V:View) (R:VR) (h:(Ca V 64 #[A #[B a,S b c d,B e,S f g i,B k,S l m n]] fun d9 e0=>∃w,∃x y z,∃a0 a1 a2,∃a3,∃a4 a5 a6,∃a7 a8 a9,d9=A #[B w,S x y z,S a0 a1 a2,B a3,S a4 a5 a6,S a7 a8 a9]/\(Ca e0 46 #[A #[B a,S b c d,B e,S f g i,B k,S l m n]] fun e1 e2=>∃b0,∃b1 b2 b3,∃b4 b5 b6,∃b7,∃b8 b9 c0,∃c1 c2 c3,e1=A #[B b0,S b1 b2 b3,S b4 b5 b6,B b7,S b8 b9 c0,S c1 c2 c3]/\(Ca e2 56 #[A #[B w,S x y z,S a0 a1 a2,B a3,S a4 a5 a6,S a7 a8 a9],A #[B o,S p q r,S s t u],A #[B b0,S b1 b2 b3,S b4 b5 b6,B b7,S b8 b9 c0,S c1 c2 c3]] fun e3 e4=>∃c4,∃c5 c6 c7,∃c8 c9 d0,∃d1,∃d2 d3 d4,∃d5 d6 d7,e3=A #[B c4,S c5 c6 c7,S c8 c9 d0,B d1,S d2 d3 d4,S d5 d6 d7]/\(Rt e4 R (A #[B c4,S c5 c6 c7,S c8 c9 d0,B d1,S d2 d3 d4,S d5 d6 d7])))))):
 Acts prog 19 #[A #[B a,S b c d,B e,S f g i,B k,S l m n],A #[B o,S p q r,S s t u]] V R:=
 fd (LF:=LF0) (RF:=[1000007]) [] [] func19 h
theorem vc_ref04_Param (q:Bool) (r:OA) (s t:Nat) (u:Bool) (w:OA) (x y:Nat) (z:Bool) (a0:OA) (a1 a2:Nat) (a3:Bool) (a4:OA) (a5 a6:Nat) (a7:OA) (a8 a9:Nat) (b0:Bool) (b1:OA) (b2 b3:Nat) (b4:OA) (b5 b6:Nat) (V:View) (R:VR) (h:(Ca V 46 #[A #[B q,S r s t,B u,S w x y,B z,S a0 a1 a2]] fun d9 e0=>∃a,∃b c d,∃e f g,∃i,∃k l m,∃n o p,d9=A #[B a,S b c d,S e f g,B i,S k l m,S n o p]/\(Ca e0 112 #[A #[B a3,S a4 a5 a6,S a7 a8 a9,B b0,S b1 b2 b3,S b4 b5 b6],A #[B a,S b c d,S e f g,B i,S k l m,S n o p]] fun e1 e2=>∃b7,∃b8 b9 c0,∃c1 c2 c3,e1=A #[B b7,S b8 b9 c0,S c1 c2 c3]/\(Ca e2 112 #[A #[B a,S b c d,S e f g,B i,S k l m,S n o p],A #[B a,S b c d,S e f g,B i,S k l m,S n o p]] fun e3 e4=>∃c4,∃c5 c6 c7,∃c8 c9 d0,e3=A #[B c4,S c5 c6 c7,S c8 c9 d0]/\(Ca e4 111 #[A #[B b7,S b8 b9 c0,S c1 c2 c3],A #[B c4,S c5 c6 c7,S c8 c9 d0]] fun e5 e6=>∃d1,∃d2 d3 d4,∃d5 d6 d7,e5=A #[B d1,S d2 d3 d4,S d5 d6 d7]/\(Rt e6 R (A #[B d1,S d2 d3 d4,S d5 d6 d7]))))))):
 Acts prog 52 #[A #[B q,S r s t,B u,S w x y,B z,S a0 a1 a2],A #[B a3,S a4 a5 a6,S a7 a8 a9,B b0,S b1 b2 b3,S b4 b5 b6]] V R:=
 fd (LF:=LF0) (RF:=[1000007]) [] [] func52 h
theorem vc_ref04_Rev (a:Bool) (b:OA) (c d:Nat) (e:Bool) (f:OA) (g i:Nat) (k:Bool) (l:OA) (m n:Nat) (V:View) (R:VR) (h:(Ca V 130 #[A #[B a,S b c d]] fun a2 a3=>∃o,∃p q r,a2=A #[B o,S p q r]/\(Ca a3 130 #[A #[B e,S f g i]] fun a4 a5=>∃s,∃t u w,a4=A #[B s,S t u w]/\(Ca a5 130 #[A #[B k,S l m n]] fun a6 a7=>∃x,∃y z a0,a6=A #[B x,S y z a0]/\(Rt a7 R (A #[B o,S p q r,B s,S t u w,B x,S y z a0])))))):
 Acts prog 73 #[A #[B a,S b c d,B e,S f g i,B k,S l m n]] V R:=
 fd (LF:=LF0) (RF:=[1000007]) [] [] func73 h
theorem vc_ref06_Full (V:View) (R:VR) (h:(Rt V R (A #[B false,S none 0 0,S none 0 0,B false,S none 0 0,S none 0 0,B true,B true]))):
 Acts prog 81 #[] V R:=
 fd (LF:=LF0) (RF:=[1000007]) [] [] func81 h
theorem vc_ref06_zero (a:Bool) (g:OA) (b i:Nat) (k:OA) (c l:Nat) (V:View) (R:VR) (h:(((!a)=true->((((b:Int) == (0:Int))=true->(Rt V R (B ((c:Int) == (0:Int)))))/\(((b:Int) == (0:Int))=false->(Rt V R (B false)))))/\((!a)=false->(Rt V R (B false))))):
 Acts prog 136 #[A #[B a,S g b i,S k c l]] V R:=
 fd (LF:=LF0) (RF:=[1000007]) [] [] func136 h
theorem vc_ref06_Write (s:Bool) (t:OA) (u w:Nat) (x:OA) (y z:Nat) (c:Bool) (d:OA) (e f:Nat) (g:OA) (i k:Nat) (b a:Bool) (V:View) (R:VR) (h:(((!b)=true->(Ca V 50 #[A #[B s,S t u w,S x y z]] fun b9 a0=>∃l,∃m n o,∃p q r,b9=A #[B l,S m n o,S p q r]/\(((!a)=true->(Ca a0 50 #[A #[B c,S d e f,S g i k]] fun c0 c1=>∃a1,∃a2 a3 a4,∃a5 a6 a7,c0=A #[B a1,S a2 a3 a4,S a5 a6 a7]/\(Rt c1 R (A #[B l,S m n o,S p q r,B a1,S a2 a3 a4,S a5 a6 a7,B b,B a]))))/\((!a)=false->(Rt a0 R (A #[B l,S m n o,S p q r,B false,S none 0 0,S none 0 0,B b,B a]))))))/\((!b)=false->(((!a)=true->(Ca V 50 #[A #[B c,S d e f,S g i k]] fun c2 c3=>∃b0,∃b1 b2 b3,∃b4 b5 b6,c2=A #[B b0,S b1 b2 b3,S b4 b5 b6]/\(Rt c3 R (A #[B false,S none 0 0,S none 0 0,B b0,S b1 b2 b3,S b4 b5 b6,B b,B a]))))/\((!a)=false->(Rt V R (A #[B false,S none 0 0,S none 0 0,B false,S none 0 0,S none 0 0,B b,B a]))))))):
 Acts prog 59 #[A #[B s,S t u w,S x y z,B c,S d e f,S g i k,B b,B a]] V R:=
 fd (LF:=LF0) (RF:=[1000007]) [] [] func59 h
theorem vc_ref06_WriteF (a:Bool) (b:OA) (c d:Nat) (e:Bool) (f:OA) (g i:Nat) (k:Bool) (l:OA) (m n:Nat) (o:Bool) (p:OA) (q r:Nat) (s:OA) (t u:Nat) (w:Bool) (x:OA) (y z:Nat) (a0:OA) (a1 a2:Nat) (a3 a4:Bool) (V:View) (R:VR) (h:(Ca V 41 #[A #[B a,S b c d,B e,S f g i,B k,S l m n]] fun d4 d5=>∃a5,∃a6 a7 a8,∃a9,∃b0 b1 b2,∃b3,∃b4 b5 b6,d4=A #[B a5,S a6 a7 a8,B a9,S b0 b1 b2,B b3,S b4 b5 b6]/\(Ca d5 59 #[A #[B o,S p q r,S s t u,B w,S x y z,S a0 a1 a2,B a3,B a4]] fun d6 d7=>∃b7,∃b8 b9 c0,∃c1 c2 c3,∃c4,∃c5 c6 c7,∃c8 c9 d0,∃d1,∃d2,d6=A #[B b7,S b8 b9 c0,S c1 c2 c3,B c4,S c5 c6 c7,S c8 c9 d0,B d1,B d2]/\(Rt d7 R (A #[B a5,S a6 a7 a8,B a9,S b0 b1 b2,B b3,S b4 b5 b6,B b7,S b8 b9 c0,S c1 c2 c3,B c4,S c5 c6 c7,S c8 c9 d0,B d1,B d2]))))):
 Acts prog 15 #[A #[B a,S b c d,B e,S f g i,B k,S l m n,B o,S p q r,S s t u,B w,S x y z,S a0 a1 a2,B a3,B a4]] V R:=
 fd (LF:=LF0) (RF:=[1000007]) [] [] func15 h
theorem vc_ref06_Same (s:Bool) (t:OA) (u w:Nat) (x:OA) (y z:Nat) (b:Bool) (c:OA) (d e:Nat) (f:OA) (g i:Nat) (r a a0:Bool) (a1:OA) (a2 a3:Nat) (a4:OA) (a5 a6:Nat) (k:Bool) (l:OA) (m n:Nat) (o:OA) (p q:Nat) (b1 b2:Bool) (V:View) (R:VR) (h:(((r == b1)=true->(((a == b2)=true->((r=true->(Ca V 136 #[A #[B s,S t u w,S x y z]] fun k3 b3=>∃b4,k3=B b4/\((b4=true->(Ca b3 136 #[A #[B a0,S a1 a2 a3,S a4 a5 a6]] fun k4 a7=>∃b5,k4=B b5/\((b5=true->((a=true->(Ca a7 136 #[A #[B b,S c d e,S f g i]] fun k5 b6=>∃b7,k5=B b7/\((b7=true->(Ca b6 136 #[A #[B k,S l m n,S o p q]] fun k6 b8=>∃b9,k6=B b9/\((b9=true->(Rt b8 R (B true)))/\(b9=false->(((!a)=true->(Ca b8 63 #[A #[B b,S c d e,S f g i],A #[B k,S l m n,S o p q]] fun k7 k8=>∃d6,k7=B d6/\(Rt k8 R (B d6))))/\((!a)=false->(Rt b8 R (B false))))))))/\(b7=false->(((!a)=true->(Ca b6 63 #[A #[B b,S c d e,S f g i],A #[B k,S l m n,S o p q]] fun k9 l0=>∃d9,k9=B d9/\(Rt l0 R (B d9))))/\((!a)=false->(Rt b6 R (B false))))))))/\(a=false->(((!a)=true->(Ca a7 63 #[A #[B b,S c d e,S f g i],A #[B k,S l m n,S o p q]] fun l1 l2=>∃e2,l1=B e2/\(Rt l2 R (B e2))))/\((!a)=false->(Rt a7 R (B false)))))))/\(b5=false->(((!r)=true->(Ca a7 63 #[A #[B s,S t u w,S x y z],A #[B a0,S a1 a2 a3,S a4 a5 a6]] fun l3 a8=>∃c0,l3=B c0/\((c0=true->((a=true->(Ca a8 136 #[A #[B b,S c d e,S f g i]] fun l4 c1=>∃c2,l4=B c2/\((c2=true->(Ca c1 136 #[A #[B k,S l m n,S o p q]] fun l5 c3=>∃c4,l5=B c4/\((c4=true->(Rt c3 R (B true)))/\(c4=false->(((!a)=true->(Ca c3 63 #[A #[B b,S c d e,S f g i],A #[B k,S l m n,S o p q]] fun l6 l7=>∃e6,l6=B e6/\(Rt l7 R (B e6))))/\((!a)=false->(Rt c3 R (B false))))))))/\(c2=false->(((!a)=true->(Ca c1 63 #[A #[B b,S c d e,S f g i],A #[B k,S l m n,S o p q]] fun l8 l9=>∃e9,l8=B e9/\(Rt l9 R (B e9))))/\((!a)=false->(Rt c1 R (B false))))))))/\(a=false->(((!a)=true->(Ca a8 63 #[A #[B b,S c d e,S f g i],A #[B k,S l m n,S o p q]] fun m0 m1=>∃f2,m0=B f2/\(Rt m1 R (B f2))))/\((!a)=false->(Rt a8 R (B false)))))))/\(c0=false->(Rt a8 R (B false))))))/\((!r)=false->(Rt a7 R (B false))))))))/\(b4=false->(((!r)=true->(Ca b3 63 #[A #[B s,S t u w,S x y z],A #[B a0,S a1 a2 a3,S a4 a5 a6]] fun m2 a9=>∃c5,m2=B c5/\((c5=true->((a=true->(Ca a9 136 #[A #[B b,S c d e,S f g i]] fun m3 c6=>∃c7,m3=B c7/\((c7=true->(Ca c6 136 #[A #[B k,S l m n,S o p q]] fun m4 c8=>∃c9,m4=B c9/\((c9=true->(Rt c8 R (B true)))/\(c9=false->(((!a)=true->(Ca c8 63 #[A #[B b,S c d e,S f g i],A #[B k,S l m n,S o p q]] fun m5 m6=>∃f8,m5=B f8/\(Rt m6 R (B f8))))/\((!a)=false->(Rt c8 R (B false))))))))/\(c7=false->(((!a)=true->(Ca c6 63 #[A #[B b,S c d e,S f g i],A #[B k,S l m n,S o p q]] fun m7 m8=>∃g1,m7=B g1/\(Rt m8 R (B g1))))/\((!a)=false->(Rt c6 R (B false))))))))/\(a=false->(((!a)=true->(Ca a9 63 #[A #[B b,S c d e,S f g i],A #[B k,S l m n,S o p q]] fun m9 n0=>∃g4,m9=B g4/\(Rt n0 R (B g4))))/\((!a)=false->(Rt a9 R (B false)))))))/\(c5=false->(Rt a9 R (B false))))))/\((!r)=false->(Rt b3 R (B false))))))))/\(r=false->(((!r)=true->(Ca V 63 #[A #[B s,S t u w,S x y z],A #[B a0,S a1 a2 a3,S a4 a5 a6]] fun n1 b0=>∃d0,n1=B d0/\((d0=true->((a=true->(Ca b0 136 #[A #[B b,S c d e,S f g i]] fun n2 d1=>∃d2,n2=B d2/\((d2=true->(Ca d1 136 #[A #[B k,S l m n,S o p q]] fun n3 d3=>∃d4,n3=B d4/\((d4=true->(Rt d3 R (B true)))/\(d4=false->(((!a)=true->(Ca d3 63 #[A #[B b,S c d e,S f g i],A #[B k,S l m n,S o p q]] fun n4 n5=>∃i0,n4=B i0/\(Rt n5 R (B i0))))/\((!a)=false->(Rt d3 R (B false))))))))/\(d2=false->(((!a)=true->(Ca d1 63 #[A #[B b,S c d e,S f g i],A #[B k,S l m n,S o p q]] fun n6 n7=>∃i3,n6=B i3/\(Rt n7 R (B i3))))/\((!a)=false->(Rt d1 R (B false))))))))/\(a=false->(((!a)=true->(Ca b0 63 #[A #[B b,S c d e,S f g i],A #[B k,S l m n,S o p q]] fun n8 n9=>∃i6,n8=B i6/\(Rt n9 R (B i6))))/\((!a)=false->(Rt b0 R (B false)))))))/\(d0=false->(Rt b0 R (B false))))))/\((!r)=false->(Rt V R (B false)))))))/\((a == b2)=false->(Rt V R (B false)))))/\((r == b1)=false->(Rt V R (B false))))):
 Acts prog 113 #[A #[B s,S t u w,S x y z,B b,S c d e,S f g i,B r,B a],A #[B a0,S a1 a2 a3,S a4 a5 a6,B k,S l m n,S o p q,B b1,B b2]] V R:=
 fd (LF:=LF0) (RF:=[1000007]) [] [] func113 h
theorem vc_ref06_SameFs (f:OA) (e o:Nat) (g:OA) (l p:Nat) (V:View) (R:VR) (h:((((e:Int) != (l:Int))=true->(Rt V R (B false)))/\(((e:Int) != (l:Int))=false->(∃(q:Int->VP) (w:Int->Nat),(∃x:Int,(s7 f e o g l p (e:Int) (((0:Int)=x)))/\q x V)/\∀(a:Int) (d:View),V.Le d->q a d->(true=true/\(((decide (a < (e:Int)))=true->(f.isSome=true)/\(0<=a/\a < (e:Int))/\((addrAdd f (a.toNat * 14)).isSome=true)/\(∃y,∃z a0 a1,∃a2,∃a3 a4 a5,∃a6,∃a7 a8 a9,∃m,addrAdd (addrAdd f (a.toNat * 14)) 0=some m/\d.at (m.add 0) (B y)/\d.at (m.add 1) (S z a0 a1)/\d.at (m.add 2) (B a2)/\d.at (m.add 3) (S a3 a4 a5)/\d.at (m.add 4) (B a6)/\d.at (m.add 5) (S a7 a8 a9)/\(g.isSome=true)/\(0<=a/\a < (l:Int))/\((addrAdd g (a.toNat * 14)).isSome=true)/\(∃b0,∃b1 b2 b3,∃b4,∃b5 b6 b7,∃b8,∃b9 c0 c1,∃n,addrAdd (addrAdd g (a.toNat * 14)) 0=some n/\d.at (n.add 0) (B b0)/\d.at (n.add 1) (S b1 b2 b3)/\d.at (n.add 2) (B b4)/\d.at (n.add 3) (S b5 b6 b7)/\d.at (n.add 4) (B b8)/\d.at (n.add 5) (S b9 c0 c1)/\(Ca d 54 #[A #[B y,S z a0 a1,B a2,S a3 a4 a5,B a6,S a7 a8 a9],A #[B b0,S b1 b2 b3,B b4,S b5 b6 b7,B b8,S b9 c0 c1]] fun f9 b=>∃r,f9=B r/\(((!r)=true->(Rt b R (B false)))/\((!r)=false->(f.isSome=true)/\(0<=a/\a < (e:Int))/\((addrAdd f (a.toNat * 14)).isSome=true)/\(∃c3,∃c4 c5 c6,∃c7 c8 c9,∃d0,∃d1 d2 d3,∃d4 d5 d6,∃d7,∃d8,∃i,addrAdd (addrAdd f (a.toNat * 14)) 6=some i/\b.at (i.add 0) (B c3)/\b.at (i.add 1) (S c4 c5 c6)/\b.at (i.add 2) (S c7 c8 c9)/\b.at (i.add 3) (B d0)/\b.at (i.add 4) (S d1 d2 d3)/\b.at (i.add 5) (S d4 d5 d6)/\b.at (i.add 6) (B d7)/\b.at (i.add 7) (B d8)/\(g.isSome=true)/\(0<=a/\a < (l:Int))/\((addrAdd g (a.toNat * 14)).isSome=true)/\(∃d9,∃e0 e1 e2,∃e3 e4 e5,∃e6,∃e7 e8 e9,∃f0 f1 f2,∃f3,∃f4,∃k,addrAdd (addrAdd g (a.toNat * 14)) 6=some k/\b.at (k.add 0) (B d9)/\b.at (k.add 1) (S e0 e1 e2)/\b.at (k.add 2) (S e3 e4 e5)/\b.at (k.add 3) (B e6)/\b.at (k.add 4) (S e7 e8 e9)/\b.at (k.add 5) (S f0 f1 f2)/\b.at (k.add 6) (B f3)/\b.at (k.add 7) (B f4)/\(Ca b 113 #[A #[B c3,S c4 c5 c6,S c7 c8 c9,B d0,S d1 d2 d3,S d4 d5 d6,B d7,B d8],A #[B d9,S e0 e1 e2,S e3 e4 e5,B e6,S e7 e8 e9,S f0 f1 f2,B f3,B f4]] fun g0 f5=>∃s,g0=B s/\(((!s)=true->(Rt f5 R (B false)))/\((!s)=false->(∃t:Int,w t < w a/\(s7 f e o g l p (e:Int) (((J.wrap (a + (1:Int)))=t)))/\q t f5))))))))))))/\((decide (a < (e:Int)))=false->(Rt d R (B true))))))))):
 Acts prog 53 #[S f e o,S g l p] V R:=
 fd (LF:=LF0) (RF:=[1000007]) [(4,⟨Int,false,[0,1,12],[],fun f8=>[(13,.c (.v (I J f8)))],fun f8=>[]⟩)] [] func53 h
theorem vc_ref06_Class (e:OA) (a n:Nat) (b:Bool) (f:OA) (g i:Nat) (k:OA) (l m:Nat) (V:View) (R:VR) (h:(∃(b5:Int->VP) (c2:Int->Nat),(∃c3:Int,(s5 0 e a n (a:Int) (((0:Int)=c3)/\s6 b f g i k l (sm m)))/\b5 c3 V)/\∀(d:Int) (o:View),V.Le o->b5 d o->(true=true/\(((decide (d < (a:Int)))=true->(e.isSome=true)/\(0<=d/\d < (a:Int))/\(∃a0,∃a1 a2 a3,∃a4 a5 a6,∃a7,∃a8 a9 b0,∃b1 b2 b3,∃w,∃x,∃s,addrAdd e (d.toNat * 8)=some s/\o.at (s.add 0) (B a0)/\o.at (s.add 1) (S a1 a2 a3)/\o.at (s.add 2) (S a4 a5 a6)/\o.at (s.add 3) (B a7)/\o.at (s.add 4) (S a8 a9 b0)/\o.at (s.add 5) (S b1 b2 b3)/\o.at (s.add 6) (B w)/\o.at (s.add 7) (B x)/\(∃b6:Int->VP,(((!w)=true->(Ca o 129 #[A #[B b,S f g i,S k l m],A #[B a0,S a1 a2 a3,S a4 a5 a6]] fun e0 e1=>∃c4,e0=I J c4/\(∃c5:Int,(sm 0/\sm 0/\((-1:Int)=(-1:Int))/\s5 e a n (a:Int) d ((c4=c5)/\s12 b f g i k l m a0 a1 a2 a3 a4 (s10 a5 a6 a7 a8 a9 b0 b1 b2 b3 w (sm x))))/\b6 c5 e1)))/\((!w)=false->(∃c6:Int,(sm 0/\sm 0/\((-1:Int)=(-1:Int))/\s5 e a n (a:Int) d (((1:Int)=c6)/\s12 b f g i k l m a0 a1 a2 a3 a4 (s10 a5 a6 a7 a8 a9 b0 b1 b2 b3 w (sm x))))/\b6 c6 o)))/\∀(q:Int) (y:View),o.Le y->b6 q y->(true=true/\(∃b7:Int->VP,(((!x)=true->(Ca y 129 #[A #[B b,S f g i,S k l m],A #[B a7,S a8 a9 b0,S b1 b2 b3]] fun e2 e3=>∃c7,e2=I J c7/\(∃c8:Int,(s7 0 q e a n (a:Int) d ((c7=c8)/\s6 b f g i k l (sm m)))/\b7 c8 e3)))/\((!x)=false->(∃c9:Int,(s7 0 q e a n (a:Int) d (((-1:Int)=c9)/\s6 b f g i k l (sm m)))/\b7 c9 y)))/\∀(r:Int) (z:View),y.Le z->b7 r z->(true=true/\(∃b8:Bool->VP,(((decide (q > (0:Int)))=true->(∃d0:Bool,(s8 0 q r e a n (a:Int) d (((decide (r < (0:Int)))=d0)/\s6 b f g i k l (sm m)))/\b8 d0 z))/\((decide (q > (0:Int)))=false->(∃d1:Bool,(s8 0 q r e a n (a:Int) d ((false=d1)/\s6 b f g i k l (sm m)))/\b8 d1 z)))/\∀(b9:Bool) (t:View),z.Le t->b8 b9 t->(true=true/\((b9=true->(Rt t R (I J 2)))/\(b9=false->(∃u:Bool->VP,(((q == (0:Int))=true->(((decide (r<=(0:Int)))=true->(∃d3:Bool,(s6 0 e a n (a:Int) d ((true=d3)/\s6 b f g i k l (sm m)))/\u d3 t))/\((decide (r<=(0:Int)))=false->(((r == (0:Int))=true->(∃d4:Bool,(s6 0 e a n (a:Int) d (((decide (q ≥ (0:Int)))=d4)/\s6 b f g i k l (sm m)))/\u d4 t))/\((r == (0:Int))=false->(∃d5:Bool,(s6 0 e a n (a:Int) d ((false=d5)/\s6 b f g i k l (sm m)))/\u d5 t))))))/\((q == (0:Int))=false->(((r == (0:Int))=true->(∃d6:Bool,(s6 0 e a n (a:Int) d (((decide (q ≥ (0:Int)))=d6)/\s6 b f g i k l (sm m)))/\u d6 t))/\((r == (0:Int))=false->(∃d7:Bool,(s6 0 e a n (a:Int) d ((false=d7)/\s6 b f g i k l (sm m)))/\u d7 t)))))/\∀(c0:Bool) (b4:View),t.Le b4->u c0 b4->(true=true/\((c0=true->(Rt b4 R (I J 1)))/\(c0=false->(∃c1:Int,c2 c1 < c2 d/\(s5 0 e a n (a:Int) (((J.wrap (d + (1:Int)))=c1)/\s6 b f g i k l (sm m)))/\b5 c1 b4)))))))))))))))/\((decide (d < (a:Int)))=false->(Rt o R (I J 0))))))):
 Acts prog 71 #[S e a n,A #[B b,S f g i,S k l m]] V R:=
 fd (LF:=LF0) (RF:=[1000007]) [(2,⟨Int,false,[3,9,10],[3],fun p=>[(11,.c (.v (I J p)))],fun p=>[]⟩)] [(6,⟨Int,false,[3,6,8,9,10,11],[3,6],fun p=>[(7,.c (.v (I J p)))],fun p=>[]⟩),(8,⟨Int,false,[3,7,9,10,11],[3],fun p=>[(8,.c (.v (I J p)))],fun p=>[]⟩),(600009,⟨Bool,false,[3,7,8,9,10,11],[3],fun p=>[(34,.c (.v (B p)))],fun p=>[]⟩),(600011,⟨Bool,false,[3,9,10,11],[3],fun p=>[(48,.c (.v (B p)))],fun p=>[]⟩)] func71 h
theorem vc_ref06_Segment (o:Bool) (p:OA) (q r:Nat) (s:OA) (t u:Nat) (w:Bool) (x:OA) (y z:Nat) (a0:OA) (a1 a2:Nat) (a3:Bool) (a4:OA) (a5 a6:Nat) (a7:OA) (a8 a9:Nat) (b0:Bool) (b1:OA) (b2 b3:Nat) (b4:OA) (b5 b6:Nat) (V:View) (R:VR) (h:(Ca V 51 #[A #[B o,S p q r,S s t u,B w,S x y z,S a0 a1 a2],A #[B a3,S a4 a5 a6,S a7 a8 a9,B b0,S b1 b2 b3,S b4 b5 b6]] fun d5 b8=>∃a,∃b c d,∃e,∃f g i,∃k,∃l m n,∃b7,d5=T #[A #[B a,S b c d,B e,S f g i,B k,S l m n],B b7]/\(((!b7)=true->(Rt b8 R (T #[A #[B false,S none 0 0,B false,S none 0 0,B false,S none 0 0,B false,S none 0 0,S none 0 0,B false,S none 0 0,S none 0 0,B false,B false],B false])))/\((!b7)=false->(Ca b8 52 #[A #[B a,S b c d,B e,S f g i,B k,S l m n],A #[B o,S p q r,S s t u,B w,S x y z,S a0 a1 a2]] fun d6 d7=>∃c0,∃c1 c2 c3,∃c4 c5 c6,d6=A #[B c0,S c1 c2 c3,S c4 c5 c6]/\(Ca d7 52 #[A #[B a,S b c d,B e,S f g i,B k,S l m n],A #[B a3,S a4 a5 a6,S a7 a8 a9,B b0,S b1 b2 b3,S b4 b5 b6]] fun d8 d9=>∃c7,∃c8 c9 d0,∃d1 d2 d3,d8=A #[B c7,S c8 c9 d0,S d1 d2 d3]/\(Rt d9 R (T #[A #[B a,S b c d,B e,S f g i,B k,S l m n,B c0,S c1 c2 c3,S c4 c5 c6,B c7,S c8 c9 d0,S d1 d2 d3,B false,B false],B true])))))))):
 Acts prog 11 #[A #[B o,S p q r,S s t u,B w,S x y z,S a0 a1 a2],A #[B a3,S a4 a5 a6,S a7 a8 a9,B b0,S b1 b2 b3,S b4 b5 b6]] V R:=
 fd (LF:=LF0) (RF:=[1000007]) [] [] func11 h
theorem vc_ref06_Rev (c:Bool) (d:OA) (e f:Nat) (g:Bool) (i:OA) (k l:Nat) (m:Bool) (n:OA) (o p:Nat) (q:Bool) (r:OA) (s t:Nat) (u:OA) (w x:Nat) (a5:Bool) (a6:OA) (a7 a8:Nat) (a9:OA) (b0 b1:Nat) (a b:Bool) (V:View) (R:VR) (h:(((!b)=true->(Ca V 72 #[A #[B a5,S a6 a7 a8,S a9 b0 b1]] fun i9 b2=>∃y,∃z a0 a1,∃a2 a3 a4,i9=A #[B y,S z a0 a1,S a2 a3 a4]/\(((!a)=true->(Ca b2 72 #[A #[B q,S r s t,S u w x]] fun k0 k1=>∃b3,∃b4 b5 b6,∃b7 b8 b9,k0=A #[B b3,S b4 b5 b6,S b7 b8 b9]/\(Ca k1 73 #[A #[B c,S d e f,B g,S i k l,B m,S n o p]] fun k2 k3=>∃c0,∃c1 c2 c3,∃c4,∃c5 c6 c7,∃c8,∃c9 d0 d1,k2=A #[B c0,S c1 c2 c3,B c4,S c5 c6 c7,B c8,S c9 d0 d1]/\(Rt k3 R (A #[B c0,S c1 c2 c3,B c4,S c5 c6 c7,B c8,S c9 d0 d1,B y,S z a0 a1,S a2 a3 a4,B b3,S b4 b5 b6,S b7 b8 b9,B b,B a])))))/\((!a)=false->(Ca b2 73 #[A #[B c,S d e f,B g,S i k l,B m,S n o p]] fun k4 k5=>∃d3,∃d4 d5 d6,∃d7,∃d8 d9 e0,∃e1,∃e2 e3 e4,k4=A #[B d3,S d4 d5 d6,B d7,S d8 d9 e0,B e1,S e2 e3 e4]/\(Rt k5 R (A #[B d3,S d4 d5 d6,B d7,S d8 d9 e0,B e1,S e2 e3 e4,B y,S z a0 a1,S a2 a3 a4,B false,S none 0 0,S none 0 0,B b,B a])))))))/\((!b)=false->(((!a)=true->(Ca V 72 #[A #[B q,S r s t,S u w x]] fun k6 k7=>∃e6,∃e7 e8 e9,∃f0 f1 f2,k6=A #[B e6,S e7 e8 e9,S f0 f1 f2]/\(Ca k7 73 #[A #[B c,S d e f,B g,S i k l,B m,S n o p]] fun k8 k9=>∃f3,∃f4 f5 f6,∃f7,∃f8 f9 g0,∃g1,∃g2 g3 g4,k8=A #[B f3,S f4 f5 f6,B f7,S f8 f9 g0,B g1,S g2 g3 g4]/\(Rt k9 R (A #[B f3,S f4 f5 f6,B f7,S f8 f9 g0,B g1,S g2 g3 g4,B false,S none 0 0,S none 0 0,B e6,S e7 e8 e9,S f0 f1 f2,B b,B a])))))/\((!a)=false->(Ca V 73 #[A #[B c,S d e f,B g,S i k l,B m,S n o p]] fun l0 l1=>∃g6,∃g7 g8 g9,∃i0,∃i1 i2 i3,∃i4,∃i5 i6 i7,l0=A #[B g6,S g7 g8 g9,B i0,S i1 i2 i3,B i4,S i5 i6 i7]/\(Rt l1 R (A #[B g6,S g7 g8 g9,B i0,S i1 i2 i3,B i4,S i5 i6 i7,B false,S none 0 0,S none 0 0,B false,S none 0 0,S none 0 0,B b,B a])))))))):
 Acts prog 25 #[A #[B c,S d e f,B g,S i k l,B m,S n o p,B q,S r s t,S u w x,B a5,S a6 a7 a8,S a9 b0 b1,B a,B b]] V R:=
 fd (LF:=LF0) (RF:=[1000007]) [] [] func25 h
theorem vc_ref06_Has (a:Bool) (b:OA) (c d:Nat) (e:Bool) (f:OA) (g i:Nat) (k:Bool) (l:OA) (m n:Nat) (a5:Bool) (a6:OA) (a7 a8:Nat) (a9:OA) (b0 b1:Nat) (b2:Bool) (b3:OA) (b4 b5:Nat) (b6:OA) (b7 b8:Nat) (b9 c0 o:Bool) (p:OA) (q r:Nat) (s:OA) (t u:Nat) (w:Bool) (x:OA) (y z:Nat) (a0:OA) (a1 a2:Nat) (V:View) (R:VR) (h:(Ca V 42 #[A #[B a,S b c d,B e,S f g i,B k,S l m n],A #[B o,S p q r,S s t u,B w,S x y z,S a0 a1 a2]] fun d3 c1=>∃a3,d3=I J a3/\(((a3 == (0:Int))=true->(Ca c1 52 #[A #[B a,S b c d,B e,S f g i,B k,S l m n],A #[B o,S p q r,S s t u,B w,S x y z,S a0 a1 a2]] fun d4 d5=>∃c2,∃c3 c4 c5,∃c6 c7 c8,d4=A #[B c2,S c3 c4 c5,S c6 c7 c8]/\(∀a4,d5.Le a4->∀c9:Nat,(a4.blk c9 (.cells #[B a5,S a6 a7 a8,S a9 b0 b1,B b2,S b3 b4 b5,S b6 b7 b8,B b9,B c0] 53 (0,0)))->Acts prog 71 #[S (some ⟨c9,0,none⟩) 1 1,A #[B c2,S c3 c4 c5,S c6 c7 c8]] a4 fun d6 d7=>∃d0,d6=I J d0/\∀d8:C->Value,(Rt d7 R (B (decide (d0 > (0:Int))))))))/\((a3 == (0:Int))=false->(Rt c1 R (B false)))))):
 Acts prog 24 #[A #[B a,S b c d,B e,S f g i,B k,S l m n,B a5,S a6 a7 a8,S a9 b0 b1,B b2,S b3 b4 b5,S b6 b7 b8,B b9,B c0],A #[B o,S p q r,S s t u,B w,S x y z,S a0 a1 a2]] V R:=
 fd (LF:=LF0) (RF:=[71,1000007]) [] [] func24 h
end Go.Proofs.Tryz
/- Contracts of the reference's num: Over; ref04's q. -/
namespace Go.Proofs.Tryz
open Go.Eng Go.Big
theorem c_num_Over {V:View} {v w:Value} {x y:Rat} (hx:RQ V v x) (hy:RQ V w y) (hy0:y.num≠0) {k m:Nat} (hk:Sz k x) (hm:Sz m y) (hkm:k + m < 274877906944) :
  Acts prog 111 #[v,w] V fun r V'=>RQ V' r (x * y⁻¹):=by
 obtain ⟨p,n,c,p',n',c',rfl,hx1,hx2⟩:=hx
 obtain ⟨q,i,e,q',i',e',rfl,hy1,hy2⟩:=hy
 have hmi:=sz_inv hm
 have q1:=digs_len_bits hk.1
 have q2:=digs_len_bits hk.2
 have q3:=digs_len_bits hm.1
 have q4:=digs_len_bits hmi.1
 have iv:(y⁻¹).num=(if decide (y.num < 0)=true then -((y.den:Nat):Int) else ((y.den:Nat):Int))/\(y⁻¹).den=y.num.natAbs:=by
  rcases Int.lt_or_gt_of_ne hy0 with h | h
  ·rw [if_pos (decide_eq_true h)]; exact inv_neg h
  ·rw [if_neg (fun hh=>by have:=of_decide_eq_true hh; omega)]; exact inv_pos h
 have hxy:x * y⁻¹=mkRat (x.num * (y⁻¹).num) (x.den * (y⁻¹).den):=Rat.mul_def' x y⁻¹
 have b1:(x.num * (y⁻¹).num).natAbs < 2 ^ (k + m):=by rw [Int.natAbs_mul]; exact pow_mul_lt hk.1 hmi.1
 have b2:x.den * (y⁻¹).den < 2 ^ (k + m):=pow_mul_lt hk.2 hmi.2
 refine vc_num_Over _ p n c p' n' c' _ q i e q' i' e' V _ fun V1 l1=>(c_num_Den y _ (hy2.le l1)).mono ?_
 rintro r V2 l2 ⟨p1,n1,c1,rfl,g1⟩
 refine ⟨_,_,_,rfl,fun V3 l3=>(c_num_Make _ (g1.le l3)).mono ?_⟩
 rw [← iv.1]
 rintro r V4 l4 ⟨p4,n4,c4,rfl,g4⟩
 refine ⟨_,_,_,_,rfl,fun V5 l5=>(c_num_Mul x.num (y⁻¹).num (hx1.le (l1.trans (l2.trans (l3.trans (l4.trans l5))))) (g4.le l5) (by omega)).mono ?_⟩
 rintro r V6 l6 ⟨p6,n6,c6,rfl,g6⟩
 have l06:=l1.trans (l2.trans (l3.trans (l4.trans (l5.trans l6))))
 refine ⟨_,_,_,_,rfl,fun V7 l7=>(c_num_Den x _ (hx2.le (l06.trans l7))).mono ?_⟩
 rintro r V8 l8 ⟨p8,n8,c8,rfl,g8⟩
 refine ⟨_,_,_,rfl,fun V9 l9=>(c_num_Product (g8.le l9) (hy1.le (l06.trans (l7.trans (l8.trans l9)))) (by omega)).mono ?_⟩
 rintro r V10 l10 ⟨p10,n10,c10,rfl,g10⟩
 rw [val_digs,val_digs,← iv.2] at g10
 refine ⟨_,_,_,rfl,fun V11 l11=>(c_num_Frac _ (g6.le (l7.trans (l8.trans (l9.trans (l10.trans l11))))) (g10.le l11) (Nat.le_trans (digs_len_bits b1) (by omega)) (Nat.le_trans (digs_len_bits b2) (by omega)) (Nat.mul_ne_zero x.den_nz (y⁻¹).den_nz)).mono ?_⟩
 rw [hxy]
 rintro r V22 l22 ⟨p21,n21,c21,p22,n22,c22,rfl,g21,g22⟩
 exact ⟨_,_,_,_,_,_,_,rfl,fun V23 l23=>⟨_,_,_,_,_,_,rfl,g21.le l23,g22.le l23⟩⟩
theorem c_ref04_q {V:View} (z:Int) {p:OA} {n c:Nat} (h:RD V p n c (digs z.natAbs)) :
  Acts prog 99 #[.agg #[.bool (decide (z < 0)),.slice p n c]] V fun r V'=>RQ V' r (z:Rat):=
 vc_ref04_q _ p n c V _ fun V1 l1=>rq_of (z:=z) (d:=1) rfl rfl (h.le l1) RD.nil rfl
end Go.Proofs.Tryz
/- Contracts of the reference 04: Through. -/
namespace Go.Proofs.Tryz
open Go.Eng Go.Big
theorem RQ.ofNat {V:View} {p:OA} {n c x:Nat} (h:RN V p n c x) {b:Bool} (hb:b=decide ((x:Int) < 0)):RQ V (.agg #[.bool b,.slice p n c,.slice none 0 0]) ((x:Int):Rat):=
 rq_of (z:=(x:Int)) (d:=1) rfl rfl h RD.nil hb
theorem RQ.int {V:View} {q:Rat} {b:Bool} {p:OA} {n c:Nat} {p':OA} {n' c':Nat} (h:RQ V (.agg #[.bool b,.slice p n c,.slice p' n' c']) q):RI V (.agg #[.bool b,.slice p n c]) q.num:=by
 obtain ⟨p1,n1,c1,p2,n2,c2,e,h1,h2⟩:=h
 cases e
 exact ⟨_,_,_,rfl,h1⟩
theorem RQ.den {V:View} {q:Rat} {b:Bool} {p:OA} {n c:Nat} {p':OA} {n' c':Nat} (h:RQ V (.agg #[.bool b,.slice p n c,.slice p' n' c']) q):RD V p' n' c' (dend q.den):=by
 obtain ⟨p1,n1,c1,p2,n2,c2,e,h1,h2⟩:=h
 cases e
 exact h2
/-- The coefficients that Through hands to MakeL. -/
def thr (px py qx qy:Rat):Rat × Rat × Rat:=
 let a:=-(qy - py); let b:=qx - px; let c:=-(a * px + b * py)
 let f:Rat:=(((a.den * b.den * c.den:Nat):Int):Rat)
 (a * f,b * f,c * f)
theorem sz_nat {n k:Nat} (h:n < 2 ^ k) (hk:0 < k):Sz k (((n:Nat):Int):Rat):=by
 refine ⟨?_,?_⟩
 ·show ((n:Nat):Int).natAbs < _
  simpa using h
 ·show 1 < 2 ^ k
  exact Nat.one_lt_two_pow (by omega)
theorem c_ref04_Through {V:View} {u w:Value} {px py qx qy:Rat} (hp:RP V u px py) (hq:RP V w qx qy) {k:Nat} (s1:Sz k px) (s2:Sz k py) (s3:Sz k qx) (s4:Sz k qy) (hk1:1<=k) (hk:64 * k + 64 < 274877906944) :
  Acts prog 51 #[u,w] V fun r V'=>((thr px py qx qy).1.num=0/\(thr px py qx qy).2.1.num=0->∃l,r=.tuple #[l,.bool false]/\RL V' l 0 0 0) /\
   (¬ ((thr px py qx qy).1.num=0/\(thr px py qx qy).2.1.num=0)->∃l,r=.tuple #[l,.bool true] /\
    RL V' l ((thr px py qx qy).1.num / (gcd3 (thr px py qx qy).1.num (thr px py qx qy).2.1.num (thr px py qx qy).2.2.num:Int)) ((thr px py qx qy).2.1.num / (gcd3 (thr px py qx qy).1.num (thr px py qx qy).2.1.num (thr px py qx qy).2.2.num:Int)) ((thr px py qx qy).2.2.num / (gcd3 (thr px py qx qy).1.num (thr px py qx qy).2.1.num (thr px py qx qy).2.2.num:Int))):=by
 have hp0:=hp
 have hq0:=hq
 obtain ⟨p1,n1,c1,p2,n2,c2,p3,n3,c3,p4,n4,c4,rfl,hp1,hp2⟩:=hp
 obtain ⟨q1,m1,e1,q2,m2,e2,q3,m3,e3,q4,m4,e4,rfl,-,-⟩:=hq
 refine vc_ref04_Through _ p1 n1 c1 p2 n2 c2 _ p3 n3 c3 p4 n4 c4 _ q1 m1 e1 q2 m2 e2 _ q3 m3 e3 q4 m4 e4 V _ fun V1 l1=>(c_ref04_Sub (hq0.le l1) (hp0.le l1) s3 s4 s1 s2 hk1 (by omega)).mono ?_
 rintro r V2 l2 ⟨a1,a2,a3,a4,a5,a6,a7,a8,a9,a10,a11,a12,rfl,hb,hd⟩
 have tb:Sz (k + k + 1) (qx - px):=s3.sub s1
 have td:Sz (k + k + 1) (qy - py):=s4.sub s2
 have l02:=l1.trans l2
 refine ⟨_,_,_,_,_,_,_,_,_,_,_,_,_,_,rfl,fun V3 l3=>(c_num_Opp (qy - py) (by obtain ⟨_,_,_,_,_,_,e,h1,h2⟩:=hd.le l3; cases e; exact h1) (RQ.den (hd.le l3))).mono ?_⟩
 rintro r V4 l4 ha
 obtain ⟨b1,b2,b3,b4,b5,b6,rfl⟩:=ha.shape
 have ta:=td.neg
 have hthr:thr px py qx qy=(-(qy - py) * (((((-(qy - py)).den * (qx - px).den * (-(-(qy - py) * px + (qx - px) * py)).den:Nat):Int):Rat)),(qx - px) * (((((-(qy - py)).den * (qx - px).den * (-(-(qy - py) * px + (qx - px) * py)).den:Nat):Int):Rat)),(-(-(qy - py) * px + (qx - px) * py)) * (((((-(qy - py)).den * (qx - px).den * (-(-(qy - py) * px + (qx - px) * py)).den:Nat):Int):Rat))):=rfl
 rw [hthr]
 generalize -(qy - py)=A at *
 generalize qx - px=B at *
 replace hb:=hb.le (l3.trans l4)
 replace hp1:=hp1.le (l02.trans (l3.trans l4))
 replace hp2:=hp2.le (l02.trans (l3.trans l4))
 refine ⟨_,_,_,_,_,_,_,rfl,fun V5 l5=>(c_num_Times (ha.le l5) (hp1.le l5) ta s1 (by omega)).mono ?_⟩
 rintro r V6 l6 g6
 obtain ⟨d1,d2,d3,d4,d5,d6,rfl⟩:=g6.shape
 refine ⟨_,_,_,_,_,_,_,rfl,fun V7 l7=>(c_num_Times (hb.le (l5.trans (l6.trans l7))) (hp2.le (l5.trans (l6.trans l7))) tb s2 (by omega)).mono ?_⟩
 rintro r V8 l8 g8
 obtain ⟨f1,f2,f3,f4,f5,f6,rfl⟩:=g8.shape
 refine ⟨_,_,_,_,_,_,_,rfl,fun V9 l9=>(c_num_Plus (g6.le (l7.trans (l8.trans l9))) (g8.le l9) (ta.mul s1) (tb.mul s2) (by omega)).mono ?_⟩
 rintro r V10 l10 g10
 have tc:=((ta.mul s1).add (tb.mul s2)).neg
 obtain ⟨i1,i2,i3,i4,i5,i6,rfl⟩:=g10.shape
 refine ⟨_,_,_,_,_,_,_,rfl,fun V11 l11=>(c_num_Opp (A * px + B * py) (by obtain ⟨_,_,_,_,_,_,e,h1,h2⟩:=g10.le l11; cases e; exact h1) (RQ.den (g10.le l11))).mono ?_⟩
 rintro r V12 l12 hc
 generalize -(A * px + B * py)=C at *
 obtain ⟨j1,j2,j3,j4,j5,j6,rfl⟩:=hc.shape
 have l012:=l5.trans (l6.trans (l7.trans (l8.trans (l9.trans (l10.trans (l11.trans l12))))))
 replace ha:=ha.le l012
 replace hb:=hb.le l012
 refine ⟨_,_,_,_,_,_,_,rfl,fun V13 l13=>(c_num_Den A _ (RQ.den (ha.le l13))).mono ?_⟩
 rintro r V14 l14 ⟨k1,k2,k3,rfl,g14⟩
 refine ⟨_,_,_,rfl,fun V15 l15=>(c_num_Den B _ (RQ.den (hb.le (l13.trans (l14.trans l15))))).mono ?_⟩
 rintro r V16 l16 ⟨k4,k5,k6,rfl,g16⟩
 obtain ⟨-,da,-⟩:=den_one_len ta
 obtain ⟨-,db,-⟩:=den_one_len tb
 obtain ⟨-,dc,-⟩:=den_one_len tc
 refine ⟨_,_,_,rfl,fun V17 l17=>(c_num_Product (g14.le (l15.trans (l16.trans l17))) (g16.le l17) (by omega)).mono ?_⟩
 rintro r V18 l18 ⟨k7,k8,k9,rfl,g18⟩
 rw [val_digs,val_digs] at g18
 refine ⟨_,_,_,rfl,fun V19 l19=>(c_num_Den C _ (RQ.den (hc.le (l13.trans (l14.trans (l15.trans (l16.trans (l17.trans (l18.trans l19))))))))).mono ?_⟩
 rintro r V20 l20 ⟨k10,k11,k12,rfl,g20⟩
 have dab:=digs_mul_len (a:=A.den) (b:=B.den)
 refine ⟨_,_,_,rfl,fun V21 l21=>(c_num_Product (g18.le (l19.trans (l20.trans l21))) (g20.le l21) (by omega)).mono ?_⟩
 rintro r V22 l22 ⟨k13,k14,k15,rfl,g22⟩
 rw [val_digs,val_digs] at g22
 have tf:Sz (k + k + 1 + (k + k + 1) + (k + k + 1 + k + 1 + (k + k + 1 + k + 1) + 1)) (((A.den * B.den * C.den:Nat):Int):Rat):=sz_nat (pow_mul_lt (pow_mul_lt ta.2 tb.2) tc.2) (by omega)
 generalize A.den * B.den * C.den=M at *
 refine ⟨_,_,_,rfl,fun V23 l23=>(c_num_pos (g22.le l23)).mono ?_⟩
 rintro r V24 l24 ⟨k16,k17,k18,rfl,g24⟩
 have hf:=RQ.ofNat g24 rfl
 have l024:=l13.trans (l14.trans (l15.trans (l16.trans (l17.trans (l18.trans (l19.trans (l20.trans (l21.trans (l22.trans (l23.trans l24))))))))))
 refine ⟨_,_,_,_,rfl,fun V25 l25=>(c_num_Times (ha.le (l024.trans l25)) (hf.le l25) ta tf (by omega)).mono ?_⟩
 rintro r V26 l26 g26
 obtain ⟨o1,o2,o3,o4,o5,o6,rfl⟩:=g26.shape
 refine ⟨_,_,_,_,_,_,_,rfl,fun V27 l27=>(c_num_Times (hb.le (l024.trans (l25.trans (l26.trans l27)))) (hf.le (l25.trans (l26.trans l27))) tb tf (by omega)).mono ?_⟩
 rintro r V28 l28 g28
 obtain ⟨o7,o8,o9,o10,o11,o12,rfl⟩:=g28.shape
 refine ⟨_,_,_,_,_,_,_,rfl,fun V29 l29=>(c_num_Times (hc.le (l024.trans (l25.trans (l26.trans (l27.trans (l28.trans l29)))))) (hf.le (l25.trans (l26.trans (l27.trans (l28.trans l29))))) tc tf (by omega)).mono ?_⟩
 rintro r V30 l30 g30
 obtain ⟨t1,t2,t3,t4,t5,t6,rfl⟩:=g30.shape
 refine ⟨_,_,_,_,_,_,_,rfl,fun V31 l31=>(c_ref04_MakeL (RQ.int (g26.le (l27.trans (l28.trans (l29.trans (l30.trans l31)))))) (RQ.int (g28.le (l29.trans (l30.trans l31)))) (RQ.int (g30.le l31)) (Nat.le_trans (den_one_len (ta.mul tf)).1 (by omega)) (Nat.le_trans (den_one_len (tb.mul tf)).1 (by omega)) (Nat.le_trans (den_one_len (tc.mul tf)).1 (by omega))).mono ?_⟩
 rintro r V32 l32 ⟨z1,z2⟩
 by_cases hz:(A * ((M:Int):Rat)).num=0/\(B * ((M:Int):Rat)).num=0
 ·obtain ⟨l,rfl,y1,y2,y3,y4,y5,y6,y7,y8,y9,rfl,w1,w2,w3⟩:=z1 hz
  exact ⟨_,_,_,_,_,_,_,_,_,_,_,_,_,rfl,fun V33 l33=>⟨fun _=>⟨_,rfl,_,_,_,_,_,_,_,_,_,rfl,w1.le l33,w2.le l33,w3.le l33⟩,fun h=>absurd hz h⟩⟩
 ·obtain ⟨l,rfl,y1,y2,y3,y4,y5,y6,y7,y8,y9,rfl,w1,w2,w3⟩:=z2 hz
  exact ⟨_,_,_,_,_,_,_,_,_,_,_,_,_,rfl,fun V33 l33=>⟨fun h=>absurd h hz,fun _=>⟨_,rfl,_,_,_,_,_,_,_,_,_,rfl,w1.le l33,w2.le l33,w3.le l33⟩⟩⟩
end Go.Proofs.Tryz
/- Contracts of points and lines of the reference (printed by straight_ref.py). -/
namespace Go.Proofs.Tryz
open Go.Eng Go.Big
theorem c_num_Opp' {V:View} {v:Value} {q:Rat} (h:RQ V v q) {k:Nat} (_s:Sz k q) (_hk:k<=1099511627776):Acts prog 72 #[v] V fun r V'=>RQ V' r (-q):=by
 obtain ⟨p,n,c,p',n',c',rfl,h1,h2⟩:=h
 exact c_num_Opp q h1 h2
theorem c_ref04_q' {V:View} {z:Int} {p:OA} {n c:Nat} (h:RD V p n c (digs z.natAbs)) {k:Nat} (_s:Sz k (z:Rat)) (_hk:k<=1099511627776) :
  Acts prog 99 #[.agg #[.bool (decide (z < 0)),.slice p n c]] V fun r V'=>RQ V' r (z:Rat):=c_ref04_q z h
theorem c_ref04_Dir {V:View} {l:Value} {l_0 l_1 l_2:Int} (hl:RL V l l_0 l_1 l_2) {k:Nat} (sl_0:Sz k ((l_0:Int):Rat)) (sl_1:Sz k ((l_1:Int):Rat)) (sl_2:Sz k ((l_2:Int):Rat)) (hk:1 * k + 1 < 274877906944) :
  Acts prog 46 #[l] V fun r V'=>RP V' r (((l_1:Int):Rat)) (-(((l_0:Int):Rat))):=by
 have hl0:=hl
 obtain ⟨l0,l1,l2,l3,l4,l5,l6,l7,l8,rfl,hl_0,hl_1,hl_2⟩:=hl
 refine vc_ref04_Dir _ l0 l1 l2 _ l3 l4 l5 _ l6 l7 l8 V _ fun V1 l1=>(c_ref04_q' (hl_1.le (l1)) sl_1 (by omega)).mono ?_
 rintro r V2 l2 g1
 have g10:=g1
 obtain ⟨w0a,w0b,w0c,w0d,w0e,w0f,rfl⟩:=g1.shape
 have z1_0:Sz (1 * k + 0) (((l_1:Int):Rat)):=Sz.mono (sl_1) (by omega)
 refine ⟨_,_,_,_,_,_,_,rfl,fun V3 l3=>(c_ref04_q' (hl_0.le (l1.trans (l2.trans (l3)))) sl_0 (by omega)).mono ?_⟩
 rintro r V4 l4 g2
 have g20:=g2
 obtain ⟨w1a,w1b,w1c,w1d,w1e,w1f,rfl⟩:=g2.shape
 have z2_0:Sz (1 * k + 0) (((l_0:Int):Rat)):=Sz.mono (sl_0) (by omega)
 refine ⟨_,_,_,_,_,_,_,rfl,fun V5 l5=>(c_num_Opp' (g20.le (l5)) z2_0 (by omega)).mono ?_⟩
 rintro r V6 l6 g3
 have g30:=g3
 obtain ⟨w2a,w2b,w2c,w2d,w2e,w2f,rfl⟩:=g3.shape
 have z3_0:Sz (1 * k + 0) (-(((l_0:Int):Rat))):=Sz.mono (Sz.neg z2_0) (by omega)
 exact ⟨_,_,_,_,_,_,_,rfl,fun V7 l7=>⟨_,_,_,_,_,_,_,_,_,_,_,_,rfl,(g10.le (l3.trans (l4.trans (l5.trans (l6.trans (l7)))))),(g30.le (l7))⟩⟩
theorem z_ref04_Dir_0 {l_0:Int} {l_1:Int} {l_2:Int} {k:Nat} (sl_0:Sz k ((l_0:Int):Rat)) (sl_1:Sz k ((l_1:Int):Rat)) (sl_2:Sz k ((l_2:Int):Rat)):Sz (1 * k + 0) (((l_1:Int):Rat)):=by
 have z1_0:Sz (1 * k + 0) (((l_1:Int):Rat)):=Sz.mono (sl_1) (by omega)
 have z2_0:Sz (1 * k + 0) (((l_0:Int):Rat)):=Sz.mono (sl_0) (by omega)
 have z3_0:Sz (1 * k + 0) (-(((l_0:Int):Rat))):=Sz.mono (Sz.neg z2_0) (by omega)
 exact Sz.mono z1_0 (by omega)
theorem z_ref04_Dir_1 {l_0:Int} {l_1:Int} {l_2:Int} {k:Nat} (sl_0:Sz k ((l_0:Int):Rat)) (sl_1:Sz k ((l_1:Int):Rat)) (sl_2:Sz k ((l_2:Int):Rat)):Sz (1 * k + 0) (-(((l_0:Int):Rat))):=by
 have z1_0:Sz (1 * k + 0) (((l_1:Int):Rat)):=Sz.mono (sl_1) (by omega)
 have z2_0:Sz (1 * k + 0) (((l_0:Int):Rat)):=Sz.mono (sl_0) (by omega)
 have z3_0:Sz (1 * k + 0) (-(((l_0:Int):Rat))):=Sz.mono (Sz.neg z2_0) (by omega)
 exact Sz.mono z3_0 (by omega)
theorem c_ref04_Dot {V:View} {p:Value} {p_0 p_1:Rat} {q:Value} {q_0 q_1:Rat} (hp:RP V p p_0 p_1) (hq:RP V q q_0 q_1) {k:Nat} (sp_0:Sz k p_0) (sp_1:Sz k p_1) (sq_0:Sz k q_0) (sq_1:Sz k q_1) (hk:4 * k + 3 < 274877906944) :
  Acts prog 112 #[p,q] V fun r V'=>RQ V' r (((p_0) * (q_0)) + ((p_1) * (q_1))):=by
 have hp0:=hp
 obtain ⟨p0,p1,p2,p3,p4,p5,p6,p7,p8,p9,p10,p11,rfl,hp_0,hp_1⟩:=hp
 have hq0:=hq
 obtain ⟨q0,q1,q2,q3,q4,q5,q6,q7,q8,q9,q10,q11,rfl,hq_0,hq_1⟩:=hq
 refine vc_ref04_Dot _ p0 p1 p2 p3 p4 p5 _ p6 p7 p8 p9 p10 p11 _ q0 q1 q2 q3 q4 q5 _ q6 q7 q8 q9 q10 q11 V _ fun V1 l1=>(c_num_Times (hp_0.le (l1)) (hq_0.le (l1)) sp_0 sq_0 (by omega)).mono ?_
 rintro r V2 l2 g1
 have g10:=g1
 obtain ⟨w0a,w0b,w0c,w0d,w0e,w0f,rfl⟩:=g1.shape
 have z1_0:Sz (2 * k + 1) ((p_0) * (q_0)):=Sz.mono (Sz.mul sp_0 sq_0) (by omega)
 refine ⟨_,_,_,_,_,_,_,rfl,fun V3 l3=>(c_num_Times (hp_1.le (l1.trans (l2.trans (l3)))) (hq_1.le (l1.trans (l2.trans (l3)))) sp_1 sq_1 (by omega)).mono ?_⟩
 rintro r V4 l4 g2
 have g20:=g2
 obtain ⟨w1a,w1b,w1c,w1d,w1e,w1f,rfl⟩:=g2.shape
 have z2_0:Sz (2 * k + 1) ((p_1) * (q_1)):=Sz.mono (Sz.mul sp_1 sq_1) (by omega)
 refine ⟨_,_,_,_,_,_,_,rfl,fun V5 l5=>(c_num_Plus (g10.le (l3.trans (l4.trans (l5)))) (g20.le (l5)) z1_0 z2_0 (by omega)).mono ?_⟩
 rintro r V6 l6 g3
 have g30:=g3
 obtain ⟨w2a,w2b,w2c,w2d,w2e,w2f,rfl⟩:=g3.shape
 have z3_0:Sz (4 * k + 3) (((p_0) * (q_0)) + ((p_1) * (q_1))):=Sz.mono (Sz.add z1_0 z2_0) (by omega)
 exact ⟨_,_,_,_,_,_,_,rfl,fun V7 l7=>(g30.le (l7))⟩
theorem z_ref04_Dot_0 {p_0:Rat} {p_1:Rat} {q_0:Rat} {q_1:Rat} {k:Nat} (sp_0:Sz k p_0) (sp_1:Sz k p_1) (sq_0:Sz k q_0) (sq_1:Sz k q_1):Sz (4 * k + 3) (((p_0) * (q_0)) + ((p_1) * (q_1))):=by
 have z1_0:Sz (2 * k + 1) ((p_0) * (q_0)):=Sz.mono (Sz.mul sp_0 sq_0) (by omega)
 have z2_0:Sz (2 * k + 1) ((p_1) * (q_1)):=Sz.mono (Sz.mul sp_1 sq_1) (by omega)
 have z3_0:Sz (4 * k + 3) (((p_0) * (q_0)) + ((p_1) * (q_1))):=Sz.mono (Sz.add z1_0 z2_0) (by omega)
 exact Sz.mono z3_0 (by omega)
theorem c_ref04_Value {V:View} {l:Value} {l_0 l_1 l_2:Int} {p:Value} {p_0 p_1:Rat} (hl:RL V l l_0 l_1 l_2) (hp:RP V p p_0 p_1) {k:Nat} (sl_0:Sz k ((l_0:Int):Rat)) (sl_1:Sz k ((l_1:Int):Rat)) (sl_2:Sz k ((l_2:Int):Rat)) (sp_0:Sz k p_0) (sp_1:Sz k p_1) (hk:5 * k + 4 < 274877906944) :
  Acts prog 94 #[l,p] V fun r V'=>RQ V' r ((((((l_0:Int):Rat)) * (p_0)) + ((((l_1:Int):Rat)) * (p_1))) + (((l_2:Int):Rat))):=by
 have hl0:=hl
 obtain ⟨l0,l1,l2,l3,l4,l5,l6,l7,l8,rfl,hl_0,hl_1,hl_2⟩:=hl
 have hp0:=hp
 obtain ⟨p0,p1,p2,p3,p4,p5,p6,p7,p8,p9,p10,p11,rfl,hp_0,hp_1⟩:=hp
 refine vc_ref04_Value _ l0 l1 l2 _ l3 l4 l5 _ l6 l7 l8 _ p0 p1 p2 p3 p4 p5 _ p6 p7 p8 p9 p10 p11 V _ fun V1 l1=>(c_ref04_q' (hl_0.le (l1)) sl_0 (by omega)).mono ?_
 rintro r V2 l2 g1
 have g10:=g1
 obtain ⟨w0a,w0b,w0c,w0d,w0e,w0f,rfl⟩:=g1.shape
 have z1_0:Sz (1 * k + 0) (((l_0:Int):Rat)):=Sz.mono (sl_0) (by omega)
 refine ⟨_,_,_,_,_,_,_,rfl,fun V3 l3=>(c_num_Times (g10.le (l3)) (hp_0.le (l1.trans (l2.trans (l3)))) z1_0 sp_0 (by omega)).mono ?_⟩
 rintro r V4 l4 g2
 have g20:=g2
 obtain ⟨w1a,w1b,w1c,w1d,w1e,w1f,rfl⟩:=g2.shape
 have z2_0:Sz (2 * k + 1) ((((l_0:Int):Rat)) * (p_0)):=Sz.mono (Sz.mul z1_0 sp_0) (by omega)
 refine ⟨_,_,_,_,_,_,_,rfl,fun V5 l5=>(c_ref04_q' (hl_1.le (l1.trans (l2.trans (l3.trans (l4.trans (l5)))))) sl_1 (by omega)).mono ?_⟩
 rintro r V6 l6 g3
 have g30:=g3
 obtain ⟨w2a,w2b,w2c,w2d,w2e,w2f,rfl⟩:=g3.shape
 have z3_0:Sz (1 * k + 0) (((l_1:Int):Rat)):=Sz.mono (sl_1) (by omega)
 refine ⟨_,_,_,_,_,_,_,rfl,fun V7 l7=>(c_num_Times (g30.le (l7)) (hp_1.le (l1.trans (l2.trans (l3.trans (l4.trans (l5.trans (l6.trans (l7)))))))) z3_0 sp_1 (by omega)).mono ?_⟩
 rintro r V8 l8 g4
 have g40:=g4
 obtain ⟨w3a,w3b,w3c,w3d,w3e,w3f,rfl⟩:=g4.shape
 have z4_0:Sz (2 * k + 1) ((((l_1:Int):Rat)) * (p_1)):=Sz.mono (Sz.mul z3_0 sp_1) (by omega)
 refine ⟨_,_,_,_,_,_,_,rfl,fun V9 l9=>(c_num_Plus (g20.le (l5.trans (l6.trans (l7.trans (l8.trans (l9)))))) (g40.le (l9)) z2_0 z4_0 (by omega)).mono ?_⟩
 rintro r V10 l10 g5
 have g50:=g5
 obtain ⟨w4a,w4b,w4c,w4d,w4e,w4f,rfl⟩:=g5.shape
 have z5_0:Sz (4 * k + 3) (((((l_0:Int):Rat)) * (p_0)) + ((((l_1:Int):Rat)) * (p_1))):=Sz.mono (Sz.add z2_0 z4_0) (by omega)
 refine ⟨_,_,_,_,_,_,_,rfl,fun V11 l11=>(c_ref04_q' (hl_2.le (l1.trans (l2.trans (l3.trans (l4.trans (l5.trans (l6.trans (l7.trans (l8.trans (l9.trans (l10.trans (l11)))))))))))) sl_2 (by omega)).mono ?_⟩
 rintro r V12 l12 g6
 have g60:=g6
 obtain ⟨w5a,w5b,w5c,w5d,w5e,w5f,rfl⟩:=g6.shape
 have z6_0:Sz (1 * k + 0) (((l_2:Int):Rat)):=Sz.mono (sl_2) (by omega)
 refine ⟨_,_,_,_,_,_,_,rfl,fun V13 l13=>(c_num_Plus (g50.le (l11.trans (l12.trans (l13)))) (g60.le (l13)) z5_0 z6_0 (by omega)).mono ?_⟩
 rintro r V14 l14 g7
 have g70:=g7
 obtain ⟨w6a,w6b,w6c,w6d,w6e,w6f,rfl⟩:=g7.shape
 have z7_0:Sz (5 * k + 4) ((((((l_0:Int):Rat)) * (p_0)) + ((((l_1:Int):Rat)) * (p_1))) + (((l_2:Int):Rat))):=Sz.mono (Sz.add z5_0 z6_0) (by omega)
 exact ⟨_,_,_,_,_,_,_,rfl,fun V15 l15=>(g70.le (l15))⟩
theorem c_ref04_Param {V:View} {l:Value} {l_0 l_1 l_2:Int} {p:Value} {p_0 p_1:Rat} (hl:RL V l l_0 l_1 l_2) (hp:RP V p p_0 p_1) (hd0:((((((l_1:Int):Rat))) * ((((l_1:Int):Rat)))) + (((-(((l_0:Int):Rat)))) * ((-(((l_0:Int):Rat)))))).num≠0) {k:Nat} (sl_0:Sz k ((l_0:Int):Rat)) (sl_1:Sz k ((l_1:Int):Rat)) (sl_2:Sz k ((l_2:Int):Rat)) (sp_0:Sz k p_0) (sp_1:Sz k p_1) (hk:8 * k + 7 < 274877906944) :
  Acts prog 52 #[l,p] V fun r V'=>RQ V' r ((((p_0) * ((((l_1:Int):Rat)))) + ((p_1) * ((-(((l_0:Int):Rat)))))) * ((((((l_1:Int):Rat))) * ((((l_1:Int):Rat)))) + (((-(((l_0:Int):Rat)))) * ((-(((l_0:Int):Rat))))))⁻¹):=by
 have hl0:=hl
 obtain ⟨l0,l1,l2,l3,l4,l5,l6,l7,l8,rfl,hl_0,hl_1,hl_2⟩:=hl
 have hp0:=hp
 obtain ⟨p0,p1,p2,p3,p4,p5,p6,p7,p8,p9,p10,p11,rfl,hp_0,hp_1⟩:=hp
 refine vc_ref04_Param _ l0 l1 l2 _ l3 l4 l5 _ l6 l7 l8 _ p0 p1 p2 p3 p4 p5 _ p6 p7 p8 p9 p10 p11 V _ fun V1 l1=>(c_ref04_Dir (hl0.le (l1)) (Sz.mono sl_0 (by omega):Sz (1 * k + 0) _) (Sz.mono sl_1 (by omega):Sz (1 * k + 0) _) (Sz.mono sl_2 (by omega):Sz (1 * k + 0) _) (by omega)).mono ?_
 rintro r V2 l2 g1
 have g10:=g1
 obtain ⟨w0_0,w0_1,w0_2,w0_3,w0_4,w0_5,w0_6,w0_7,w0_8,w0_9,w0_10,w0_11,rfl,g1p0,g1p1⟩:=g1
 have z1_0:Sz (1 * k + 0) (((l_1:Int):Rat)):=Sz.mono ((z_ref04_Dir_0 (Sz.mono sl_0 (by omega):Sz (1 * k + 0) _) (Sz.mono sl_1 (by omega):Sz (1 * k + 0) _) (Sz.mono sl_2 (by omega):Sz (1 * k + 0) _))) (by omega)
 have z1_1:Sz (1 * k + 0) (-(((l_0:Int):Rat))):=Sz.mono ((z_ref04_Dir_1 (Sz.mono sl_0 (by omega):Sz (1 * k + 0) _) (Sz.mono sl_1 (by omega):Sz (1 * k + 0) _) (Sz.mono sl_2 (by omega):Sz (1 * k + 0) _))) (by omega)
 refine ⟨_,_,_,_,_,_,_,_,_,_,_,_,_,_,rfl,fun V3 l3=>(c_ref04_Dot (hp0.le (l1.trans (l2.trans (l3)))) (g10.le (l3)) (Sz.mono sp_0 (by omega):Sz (1 * k + 0) _) (Sz.mono sp_1 (by omega):Sz (1 * k + 0) _) (Sz.mono z1_0 (by omega):Sz (1 * k + 0) _) (Sz.mono z1_1 (by omega):Sz (1 * k + 0) _) (by omega)).mono ?_⟩
 rintro r V4 l4 g2
 have g20:=g2
 obtain ⟨w1a,w1b,w1c,w1d,w1e,w1f,rfl⟩:=g2.shape
 have z2_0:Sz (4 * k + 3) (((p_0) * ((((l_1:Int):Rat)))) + ((p_1) * ((-(((l_0:Int):Rat)))))):=Sz.mono ((z_ref04_Dot_0 (Sz.mono sp_0 (by omega):Sz (1 * k + 0) _) (Sz.mono sp_1 (by omega):Sz (1 * k + 0) _) (Sz.mono z1_0 (by omega):Sz (1 * k + 0) _) (Sz.mono z1_1 (by omega):Sz (1 * k + 0) _))) (by omega)
 refine ⟨_,_,_,_,_,_,_,rfl,fun V5 l5=>(c_ref04_Dot (g10.le (l3.trans (l4.trans (l5)))) (g10.le (l3.trans (l4.trans (l5)))) (Sz.mono z1_0 (by omega):Sz (1 * k + 0) _) (Sz.mono z1_1 (by omega):Sz (1 * k + 0) _) (Sz.mono z1_0 (by omega):Sz (1 * k + 0) _) (Sz.mono z1_1 (by omega):Sz (1 * k + 0) _) (by omega)).mono ?_⟩
 rintro r V6 l6 g3
 have g30:=g3
 obtain ⟨w2a,w2b,w2c,w2d,w2e,w2f,rfl⟩:=g3.shape
 have z3_0:Sz (4 * k + 3) ((((((l_1:Int):Rat))) * ((((l_1:Int):Rat)))) + (((-(((l_0:Int):Rat)))) * ((-(((l_0:Int):Rat)))))):=Sz.mono ((z_ref04_Dot_0 (Sz.mono z1_0 (by omega):Sz (1 * k + 0) _) (Sz.mono z1_1 (by omega):Sz (1 * k + 0) _) (Sz.mono z1_0 (by omega):Sz (1 * k + 0) _) (Sz.mono z1_1 (by omega):Sz (1 * k + 0) _))) (by omega)
 refine ⟨_,_,_,_,_,_,_,rfl,fun V7 l7=>(c_num_Over (g20.le (l5.trans (l6.trans (l7)))) (g30.le (l7)) hd0 z2_0 z3_0 (by omega)).mono ?_⟩
 rintro r V8 l8 g4
 have g40:=g4
 obtain ⟨w3a,w3b,w3c,w3d,w3e,w3f,rfl⟩:=g4.shape
 have z4_0:Sz (8 * k + 7) ((((p_0) * ((((l_1:Int):Rat)))) + ((p_1) * ((-(((l_0:Int):Rat)))))) * ((((((l_1:Int):Rat))) * ((((l_1:Int):Rat)))) + (((-(((l_0:Int):Rat)))) * ((-(((l_0:Int):Rat))))))⁻¹):=Sz.mono (Sz.mul z2_0 (sz_inv z3_0)) (by omega)
 exact ⟨_,_,_,_,_,_,_,rfl,fun V9 l9=>(g40.le (l9))⟩
theorem c_ref04_Base {V:View} {l:Value} {l_0 l_1 l_2:Int} (hl:RL V l l_0 l_1 l_2) (hd0:((((((l_1:Int):Rat))) * ((((l_1:Int):Rat)))) + (((-(((l_0:Int):Rat)))) * ((-(((l_0:Int):Rat)))))).num≠0) {k:Nat} (sl_0:Sz k ((l_0:Int):Rat)) (sl_1:Sz k ((l_1:Int):Rat)) (sl_2:Sz k ((l_2:Int):Rat)) (hk:6 * k + 5 < 274877906944) :
  Acts prog 64 #[l] V fun r V'=>RP V' r ((-((((l_2:Int):Rat)) * ((((((l_1:Int):Rat))) * ((((l_1:Int):Rat)))) + (((-(((l_0:Int):Rat)))) * ((-(((l_0:Int):Rat))))))⁻¹)) * (((l_0:Int):Rat))) ((-((((l_2:Int):Rat)) * ((((((l_1:Int):Rat))) * ((((l_1:Int):Rat)))) + (((-(((l_0:Int):Rat)))) * ((-(((l_0:Int):Rat))))))⁻¹)) * (((l_1:Int):Rat))):=by
 have hl0:=hl
 obtain ⟨l0,l1,l2,l3,l4,l5,l6,l7,l8,rfl,hl_0,hl_1,hl_2⟩:=hl
 refine vc_ref04_Base _ l0 l1 l2 _ l3 l4 l5 _ l6 l7 l8 V _ fun V1 l1=>(c_ref04_Dir (hl0.le (l1)) (Sz.mono sl_0 (by omega):Sz (1 * k + 0) _) (Sz.mono sl_1 (by omega):Sz (1 * k + 0) _) (Sz.mono sl_2 (by omega):Sz (1 * k + 0) _) (by omega)).mono ?_
 rintro r V2 l2 g1
 have g10:=g1
 obtain ⟨w0_0,w0_1,w0_2,w0_3,w0_4,w0_5,w0_6,w0_7,w0_8,w0_9,w0_10,w0_11,rfl,g1p0,g1p1⟩:=g1
 have z1_0:Sz (1 * k + 0) (((l_1:Int):Rat)):=Sz.mono ((z_ref04_Dir_0 (Sz.mono sl_0 (by omega):Sz (1 * k + 0) _) (Sz.mono sl_1 (by omega):Sz (1 * k + 0) _) (Sz.mono sl_2 (by omega):Sz (1 * k + 0) _))) (by omega)
 have z1_1:Sz (1 * k + 0) (-(((l_0:Int):Rat))):=Sz.mono ((z_ref04_Dir_1 (Sz.mono sl_0 (by omega):Sz (1 * k + 0) _) (Sz.mono sl_1 (by omega):Sz (1 * k + 0) _) (Sz.mono sl_2 (by omega):Sz (1 * k + 0) _))) (by omega)
 refine ⟨_,_,_,_,_,_,_,_,_,_,_,_,_,_,rfl,fun V3 l3=>(c_ref04_q' (hl_2.le (l1.trans (l2.trans (l3)))) sl_2 (by omega)).mono ?_⟩
 rintro r V4 l4 g2
 have g20:=g2
 obtain ⟨w1a,w1b,w1c,w1d,w1e,w1f,rfl⟩:=g2.shape
 have z2_0:Sz (1 * k + 0) (((l_2:Int):Rat)):=Sz.mono (sl_2) (by omega)
 refine ⟨_,_,_,_,_,_,_,rfl,fun V5 l5=>(c_ref04_Dot (g10.le (l3.trans (l4.trans (l5)))) (g10.le (l3.trans (l4.trans (l5)))) (Sz.mono z1_0 (by omega):Sz (1 * k + 0) _) (Sz.mono z1_1 (by omega):Sz (1 * k + 0) _) (Sz.mono z1_0 (by omega):Sz (1 * k + 0) _) (Sz.mono z1_1 (by omega):Sz (1 * k + 0) _) (by omega)).mono ?_⟩
 rintro r V6 l6 g3
 have g30:=g3
 obtain ⟨w2a,w2b,w2c,w2d,w2e,w2f,rfl⟩:=g3.shape
 have z3_0:Sz (4 * k + 3) ((((((l_1:Int):Rat))) * ((((l_1:Int):Rat)))) + (((-(((l_0:Int):Rat)))) * ((-(((l_0:Int):Rat)))))):=Sz.mono ((z_ref04_Dot_0 (Sz.mono z1_0 (by omega):Sz (1 * k + 0) _) (Sz.mono z1_1 (by omega):Sz (1 * k + 0) _) (Sz.mono z1_0 (by omega):Sz (1 * k + 0) _) (Sz.mono z1_1 (by omega):Sz (1 * k + 0) _))) (by omega)
 refine ⟨_,_,_,_,_,_,_,rfl,fun V7 l7=>(c_num_Over (g20.le (l5.trans (l6.trans (l7)))) (g30.le (l7)) hd0 z2_0 z3_0 (by omega)).mono ?_⟩
 rintro r V8 l8 g4
 have g40:=g4
 obtain ⟨w3a,w3b,w3c,w3d,w3e,w3f,rfl⟩:=g4.shape
 have z4_0:Sz (5 * k + 4) ((((l_2:Int):Rat)) * ((((((l_1:Int):Rat))) * ((((l_1:Int):Rat)))) + (((-(((l_0:Int):Rat)))) * ((-(((l_0:Int):Rat))))))⁻¹):=Sz.mono (Sz.mul z2_0 (sz_inv z3_0)) (by omega)
 refine ⟨_,_,_,_,_,_,_,rfl,fun V9 l9=>(c_num_Opp' (g40.le (l9)) z4_0 (by omega)).mono ?_⟩
 rintro r V10 l10 g5
 have g50:=g5
 obtain ⟨w4a,w4b,w4c,w4d,w4e,w4f,rfl⟩:=g5.shape
 have z5_0:Sz (5 * k + 4) (-((((l_2:Int):Rat)) * ((((((l_1:Int):Rat))) * ((((l_1:Int):Rat)))) + (((-(((l_0:Int):Rat)))) * ((-(((l_0:Int):Rat))))))⁻¹)):=Sz.mono (Sz.neg z4_0) (by omega)
 refine ⟨_,_,_,_,_,_,_,rfl,fun V11 l11=>(c_ref04_q' (hl_0.le (l1.trans (l2.trans (l3.trans (l4.trans (l5.trans (l6.trans (l7.trans (l8.trans (l9.trans (l10.trans (l11)))))))))))) sl_0 (by omega)).mono ?_⟩
 rintro r V12 l12 g6
 have g60:=g6
 obtain ⟨w5a,w5b,w5c,w5d,w5e,w5f,rfl⟩:=g6.shape
 have z6_0:Sz (1 * k + 0) (((l_0:Int):Rat)):=Sz.mono (sl_0) (by omega)
 refine ⟨_,_,_,_,_,_,_,rfl,fun V13 l13=>(c_num_Times (g50.le (l11.trans (l12.trans (l13)))) (g60.le (l13)) z5_0 z6_0 (by omega)).mono ?_⟩
 rintro r V14 l14 g7
 have g70:=g7
 obtain ⟨w6a,w6b,w6c,w6d,w6e,w6f,rfl⟩:=g7.shape
 have z7_0:Sz (6 * k + 5) ((-((((l_2:Int):Rat)) * ((((((l_1:Int):Rat))) * ((((l_1:Int):Rat)))) + (((-(((l_0:Int):Rat)))) * ((-(((l_0:Int):Rat))))))⁻¹)) * (((l_0:Int):Rat))):=Sz.mono (Sz.mul z5_0 z6_0) (by omega)
 refine ⟨_,_,_,_,_,_,_,rfl,fun V15 l15=>(c_ref04_q' (hl_1.le (l1.trans (l2.trans (l3.trans (l4.trans (l5.trans (l6.trans (l7.trans (l8.trans (l9.trans (l10.trans (l11.trans (l12.trans (l13.trans (l14.trans (l15)))))))))))))))) sl_1 (by omega)).mono ?_⟩
 rintro r V16 l16 g8
 have g80:=g8
 obtain ⟨w7a,w7b,w7c,w7d,w7e,w7f,rfl⟩:=g8.shape
 have z8_0:Sz (1 * k + 0) (((l_1:Int):Rat)):=Sz.mono (sl_1) (by omega)
 refine ⟨_,_,_,_,_,_,_,rfl,fun V17 l17=>(c_num_Times (g50.le (l11.trans (l12.trans (l13.trans (l14.trans (l15.trans (l16.trans (l17)))))))) (g80.le (l17)) z5_0 z8_0 (by omega)).mono ?_⟩
 rintro r V18 l18 g9
 have g90:=g9
 obtain ⟨w8a,w8b,w8c,w8d,w8e,w8f,rfl⟩:=g9.shape
 have z9_0:Sz (6 * k + 5) ((-((((l_2:Int):Rat)) * ((((((l_1:Int):Rat))) * ((((l_1:Int):Rat)))) + (((-(((l_0:Int):Rat)))) * ((-(((l_0:Int):Rat))))))⁻¹)) * (((l_1:Int):Rat))):=Sz.mono (Sz.mul z5_0 z8_0) (by omega)
 exact ⟨_,_,_,_,_,_,_,rfl,fun V19 l19=>⟨_,_,_,_,_,_,_,_,_,_,_,_,rfl,(g70.le (l15.trans (l16.trans (l17.trans (l18.trans (l19)))))),(g90.le (l19))⟩⟩
theorem z_ref04_Base_0 {l_0:Int} {l_1:Int} {l_2:Int} {k:Nat} (sl_0:Sz k ((l_0:Int):Rat)) (sl_1:Sz k ((l_1:Int):Rat)) (sl_2:Sz k ((l_2:Int):Rat)):Sz (6 * k + 5) ((-((((l_2:Int):Rat)) * ((((((l_1:Int):Rat))) * ((((l_1:Int):Rat)))) + (((-(((l_0:Int):Rat)))) * ((-(((l_0:Int):Rat))))))⁻¹)) * (((l_0:Int):Rat))):=by
 have z1_0:Sz (1 * k + 0) (((l_1:Int):Rat)):=Sz.mono ((z_ref04_Dir_0 (Sz.mono sl_0 (by omega):Sz (1 * k + 0) _) (Sz.mono sl_1 (by omega):Sz (1 * k + 0) _) (Sz.mono sl_2 (by omega):Sz (1 * k + 0) _))) (by omega)
 have z1_1:Sz (1 * k + 0) (-(((l_0:Int):Rat))):=Sz.mono ((z_ref04_Dir_1 (Sz.mono sl_0 (by omega):Sz (1 * k + 0) _) (Sz.mono sl_1 (by omega):Sz (1 * k + 0) _) (Sz.mono sl_2 (by omega):Sz (1 * k + 0) _))) (by omega)
 have z2_0:Sz (1 * k + 0) (((l_2:Int):Rat)):=Sz.mono (sl_2) (by omega)
 have z3_0:Sz (4 * k + 3) ((((((l_1:Int):Rat))) * ((((l_1:Int):Rat)))) + (((-(((l_0:Int):Rat)))) * ((-(((l_0:Int):Rat)))))):=Sz.mono ((z_ref04_Dot_0 (Sz.mono z1_0 (by omega):Sz (1 * k + 0) _) (Sz.mono z1_1 (by omega):Sz (1 * k + 0) _) (Sz.mono z1_0 (by omega):Sz (1 * k + 0) _) (Sz.mono z1_1 (by omega):Sz (1 * k + 0) _))) (by omega)
 have z4_0:Sz (5 * k + 4) ((((l_2:Int):Rat)) * ((((((l_1:Int):Rat))) * ((((l_1:Int):Rat)))) + (((-(((l_0:Int):Rat)))) * ((-(((l_0:Int):Rat))))))⁻¹):=Sz.mono (Sz.mul z2_0 (sz_inv z3_0)) (by omega)
 have z5_0:Sz (5 * k + 4) (-((((l_2:Int):Rat)) * ((((((l_1:Int):Rat))) * ((((l_1:Int):Rat)))) + (((-(((l_0:Int):Rat)))) * ((-(((l_0:Int):Rat))))))⁻¹)):=Sz.mono (Sz.neg z4_0) (by omega)
 have z6_0:Sz (1 * k + 0) (((l_0:Int):Rat)):=Sz.mono (sl_0) (by omega)
 have z7_0:Sz (6 * k + 5) ((-((((l_2:Int):Rat)) * ((((((l_1:Int):Rat))) * ((((l_1:Int):Rat)))) + (((-(((l_0:Int):Rat)))) * ((-(((l_0:Int):Rat))))))⁻¹)) * (((l_0:Int):Rat))):=Sz.mono (Sz.mul z5_0 z6_0) (by omega)
 have z8_0:Sz (1 * k + 0) (((l_1:Int):Rat)):=Sz.mono (sl_1) (by omega)
 have z9_0:Sz (6 * k + 5) ((-((((l_2:Int):Rat)) * ((((((l_1:Int):Rat))) * ((((l_1:Int):Rat)))) + (((-(((l_0:Int):Rat)))) * ((-(((l_0:Int):Rat))))))⁻¹)) * (((l_1:Int):Rat))):=Sz.mono (Sz.mul z5_0 z8_0) (by omega)
 exact Sz.mono z7_0 (by omega)
theorem z_ref04_Base_1 {l_0:Int} {l_1:Int} {l_2:Int} {k:Nat} (sl_0:Sz k ((l_0:Int):Rat)) (sl_1:Sz k ((l_1:Int):Rat)) (sl_2:Sz k ((l_2:Int):Rat)):Sz (6 * k + 5) ((-((((l_2:Int):Rat)) * ((((((l_1:Int):Rat))) * ((((l_1:Int):Rat)))) + (((-(((l_0:Int):Rat)))) * ((-(((l_0:Int):Rat))))))⁻¹)) * (((l_1:Int):Rat))):=by
 have z1_0:Sz (1 * k + 0) (((l_1:Int):Rat)):=Sz.mono ((z_ref04_Dir_0 (Sz.mono sl_0 (by omega):Sz (1 * k + 0) _) (Sz.mono sl_1 (by omega):Sz (1 * k + 0) _) (Sz.mono sl_2 (by omega):Sz (1 * k + 0) _))) (by omega)
 have z1_1:Sz (1 * k + 0) (-(((l_0:Int):Rat))):=Sz.mono ((z_ref04_Dir_1 (Sz.mono sl_0 (by omega):Sz (1 * k + 0) _) (Sz.mono sl_1 (by omega):Sz (1 * k + 0) _) (Sz.mono sl_2 (by omega):Sz (1 * k + 0) _))) (by omega)
 have z2_0:Sz (1 * k + 0) (((l_2:Int):Rat)):=Sz.mono (sl_2) (by omega)
 have z3_0:Sz (4 * k + 3) ((((((l_1:Int):Rat))) * ((((l_1:Int):Rat)))) + (((-(((l_0:Int):Rat)))) * ((-(((l_0:Int):Rat)))))):=Sz.mono ((z_ref04_Dot_0 (Sz.mono z1_0 (by omega):Sz (1 * k + 0) _) (Sz.mono z1_1 (by omega):Sz (1 * k + 0) _) (Sz.mono z1_0 (by omega):Sz (1 * k + 0) _) (Sz.mono z1_1 (by omega):Sz (1 * k + 0) _))) (by omega)
 have z4_0:Sz (5 * k + 4) ((((l_2:Int):Rat)) * ((((((l_1:Int):Rat))) * ((((l_1:Int):Rat)))) + (((-(((l_0:Int):Rat)))) * ((-(((l_0:Int):Rat))))))⁻¹):=Sz.mono (Sz.mul z2_0 (sz_inv z3_0)) (by omega)
 have z5_0:Sz (5 * k + 4) (-((((l_2:Int):Rat)) * ((((((l_1:Int):Rat))) * ((((l_1:Int):Rat)))) + (((-(((l_0:Int):Rat)))) * ((-(((l_0:Int):Rat))))))⁻¹)):=Sz.mono (Sz.neg z4_0) (by omega)
 have z6_0:Sz (1 * k + 0) (((l_0:Int):Rat)):=Sz.mono (sl_0) (by omega)
 have z7_0:Sz (6 * k + 5) ((-((((l_2:Int):Rat)) * ((((((l_1:Int):Rat))) * ((((l_1:Int):Rat)))) + (((-(((l_0:Int):Rat)))) * ((-(((l_0:Int):Rat))))))⁻¹)) * (((l_0:Int):Rat))):=Sz.mono (Sz.mul z5_0 z6_0) (by omega)
 have z8_0:Sz (1 * k + 0) (((l_1:Int):Rat)):=Sz.mono (sl_1) (by omega)
 have z9_0:Sz (6 * k + 5) ((-((((l_2:Int):Rat)) * ((((((l_1:Int):Rat))) * ((((l_1:Int):Rat)))) + (((-(((l_0:Int):Rat)))) * ((-(((l_0:Int):Rat))))))⁻¹)) * (((l_1:Int):Rat))):=Sz.mono (Sz.mul z5_0 z8_0) (by omega)
 exact Sz.mono z9_0 (by omega)
theorem c_ref04_At {V:View} {l:Value} {l_0 l_1 l_2:Int} {t:Value} {t_0:Rat} (hl:RL V l l_0 l_1 l_2) (ht:RQ V t t_0) (hd0:((((((l_1:Int):Rat))) * ((((l_1:Int):Rat)))) + (((-(((l_0:Int):Rat)))) * ((-(((l_0:Int):Rat)))))).num≠0) {k:Nat} (sl_0:Sz k ((l_0:Int):Rat)) (sl_1:Sz k ((l_1:Int):Rat)) (sl_2:Sz k ((l_2:Int):Rat)) (st_0:Sz k t_0) (hk:18 * k + 16 < 274877906944) :
  Acts prog 19 #[l,t] V fun r V'=>RP V' r (((-((((l_2:Int):Rat)) * ((((((l_1:Int):Rat))) * ((((l_1:Int):Rat)))) + (((-(((l_0:Int):Rat)))) * ((-(((l_0:Int):Rat))))))⁻¹)) * (((l_0:Int):Rat))) + (t_0) * (((l_1:Int):Rat))) (((-((((l_2:Int):Rat)) * ((((((l_1:Int):Rat))) * ((((l_1:Int):Rat)))) + (((-(((l_0:Int):Rat)))) * ((-(((l_0:Int):Rat))))))⁻¹)) * (((l_1:Int):Rat))) + (t_0) * (-(((l_0:Int):Rat)))):=by
 have hl0:=hl
 obtain ⟨l0,l1,l2,l3,l4,l5,l6,l7,l8,rfl,hl_0,hl_1,hl_2⟩:=hl
 have ht0:=ht
 obtain ⟨t0,t1,t2,t3,t4,t5,rfl⟩:=ht.shape
 refine vc_ref04_At _ l0 l1 l2 _ l3 l4 l5 _ l6 l7 l8 _ t0 t1 t2 t3 t4 t5 V _ fun V1 l1=>(c_ref04_Base (hl0.le (l1)) hd0 (Sz.mono sl_0 (by omega):Sz (1 * k + 0) _) (Sz.mono sl_1 (by omega):Sz (1 * k + 0) _) (Sz.mono sl_2 (by omega):Sz (1 * k + 0) _) (by omega)).mono ?_
 rintro r V2 l2 g1
 have g10:=g1
 obtain ⟨w0_0,w0_1,w0_2,w0_3,w0_4,w0_5,w0_6,w0_7,w0_8,w0_9,w0_10,w0_11,rfl,g1p0,g1p1⟩:=g1
 have z1_0:Sz (6 * k + 5) ((-((((l_2:Int):Rat)) * ((((((l_1:Int):Rat))) * ((((l_1:Int):Rat)))) + (((-(((l_0:Int):Rat)))) * ((-(((l_0:Int):Rat))))))⁻¹)) * (((l_0:Int):Rat))):=Sz.mono ((z_ref04_Base_0 (Sz.mono sl_0 (by omega):Sz (1 * k + 0) _) (Sz.mono sl_1 (by omega):Sz (1 * k + 0) _) (Sz.mono sl_2 (by omega):Sz (1 * k + 0) _))) (by omega)
 have z1_1:Sz (6 * k + 5) ((-((((l_2:Int):Rat)) * ((((((l_1:Int):Rat))) * ((((l_1:Int):Rat)))) + (((-(((l_0:Int):Rat)))) * ((-(((l_0:Int):Rat))))))⁻¹)) * (((l_1:Int):Rat))):=Sz.mono ((z_ref04_Base_1 (Sz.mono sl_0 (by omega):Sz (1 * k + 0) _) (Sz.mono sl_1 (by omega):Sz (1 * k + 0) _) (Sz.mono sl_2 (by omega):Sz (1 * k + 0) _))) (by omega)
 refine ⟨_,_,_,_,_,_,_,_,_,_,_,_,_,_,rfl,fun V3 l3=>(c_ref04_Dir (hl0.le (l1.trans (l2.trans (l3)))) (Sz.mono sl_0 (by omega):Sz (1 * k + 0) _) (Sz.mono sl_1 (by omega):Sz (1 * k + 0) _) (Sz.mono sl_2 (by omega):Sz (1 * k + 0) _) (by omega)).mono ?_⟩
 rintro r V4 l4 g2
 have g20:=g2
 obtain ⟨w1_0,w1_1,w1_2,w1_3,w1_4,w1_5,w1_6,w1_7,w1_8,w1_9,w1_10,w1_11,rfl,g2p0,g2p1⟩:=g2
 have z2_0:Sz (1 * k + 0) (((l_1:Int):Rat)):=Sz.mono ((z_ref04_Dir_0 (Sz.mono sl_0 (by omega):Sz (1 * k + 0) _) (Sz.mono sl_1 (by omega):Sz (1 * k + 0) _) (Sz.mono sl_2 (by omega):Sz (1 * k + 0) _))) (by omega)
 have z2_1:Sz (1 * k + 0) (-(((l_0:Int):Rat))):=Sz.mono ((z_ref04_Dir_1 (Sz.mono sl_0 (by omega):Sz (1 * k + 0) _) (Sz.mono sl_1 (by omega):Sz (1 * k + 0) _) (Sz.mono sl_2 (by omega):Sz (1 * k + 0) _))) (by omega)
 refine ⟨_,_,_,_,_,_,_,_,_,_,_,_,_,_,rfl,fun V5 l5=>(c_ref04_Add (g10.le (l3.trans (l4.trans (l5)))) (ht0.le (l1.trans (l2.trans (l3.trans (l4.trans (l5)))))) (g20.le (l5)) (Sz.mono z1_0 (by omega):Sz (6 * k + 5) _) (Sz.mono z1_1 (by omega):Sz (6 * k + 5) _) (Sz.mono st_0 (by omega):Sz (6 * k + 5) _) (Sz.mono z2_0 (by omega):Sz (6 * k + 5) _) (Sz.mono z2_1 (by omega):Sz (6 * k + 5) _) (by omega)).mono ?_⟩
 rintro r V6 l6 g3
 have g30:=g3
 obtain ⟨w2_0,w2_1,w2_2,w2_3,w2_4,w2_5,w2_6,w2_7,w2_8,w2_9,w2_10,w2_11,rfl,g3p0,g3p1⟩:=g3
 have z3_0:Sz (18 * k + 17) (((-((((l_2:Int):Rat)) * ((((((l_1:Int):Rat))) * ((((l_1:Int):Rat)))) + (((-(((l_0:Int):Rat)))) * ((-(((l_0:Int):Rat))))))⁻¹)) * (((l_0:Int):Rat))) + (t_0) * (((l_1:Int):Rat))):=Sz.mono (Sz.add (Sz.mono z1_0 (by omega):Sz (6 * k + 5) _) (Sz.mul (Sz.mono st_0 (by omega):Sz (6 * k + 5) _) (Sz.mono z2_0 (by omega):Sz (6 * k + 5) _))) (by omega)
 have z3_1:Sz (18 * k + 17) (((-((((l_2:Int):Rat)) * ((((((l_1:Int):Rat))) * ((((l_1:Int):Rat)))) + (((-(((l_0:Int):Rat)))) * ((-(((l_0:Int):Rat))))))⁻¹)) * (((l_1:Int):Rat))) + (t_0) * (-(((l_0:Int):Rat)))):=Sz.mono (Sz.add (Sz.mono z1_1 (by omega):Sz (6 * k + 5) _) (Sz.mul (Sz.mono st_0 (by omega):Sz (6 * k + 5) _) (Sz.mono z2_1 (by omega):Sz (6 * k + 5) _))) (by omega)
 exact ⟨_,_,_,_,_,_,_,_,_,_,_,_,_,_,rfl,fun V7 l7=>⟨_,_,_,_,_,_,_,_,_,_,_,_,rfl,(g3p0.le (l7)),(g3p1.le (l7))⟩⟩
end Go.Proofs.Tryz
