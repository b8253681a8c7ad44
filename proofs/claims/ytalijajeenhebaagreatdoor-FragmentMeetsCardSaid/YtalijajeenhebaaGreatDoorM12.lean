/- A part of the proof (joined by program from: VNumQ, NumH, NumI, NumJ, VRef, RefA, RefB, RefC). -/
import Derived.Test.YtalijajeenhebaaGreatDoorM5
import Derived.Test.YtalijajeenhebaaGreatDoorM11
import Derived.Test.YtalijajeenhebaaGreatDoorM9
import Derived.Test.YtalijajeenhebaaGreatDoorM10
set_option linter.unusedVariables false
open Go.IntKind (i64 u64 u32)
/- By program: the conditions of the functions, from their loaded code. -/
namespace Go.Proofs.Tryz
open Go.Eng
open Go.Value renaming int→I,pointer→P,slice→S,agg→A,bool→B,tuple→T
open Go.IntKind renaming i64→J,u64→U,u32→W
set_option maxRecDepth 100000
theorem vc_num_Make (b:Bool) (c:OA) (a d:Nat) (V:View) (R:VR) (h:((b=true->(Rt V R (A #[B (decide ((a:Int) > (0:Int))),S c a d])))/\(b=false->(Rt V R (A #[B false,S c a d]))))):
 Acts prog 109 #[B b,S c a d] V R:=
 fd (LF:=LF0) (RF:=[1000007]) [] [] func109 h
theorem vc_num_Int (a:Int) (V:View) (R:VR) (h:(((decide (a < (0:Int)))=true->(Ca V 121 #[I U (U.wrap (0 - (U.wrap a)))] fun t u=>∃b c d,t=S b c d/\(Ca u 109 #[B true,S b c d] fun w x=>∃e,∃f g i,w=A #[B e,S f g i]/\(Rt x R (A #[B e,S f g i])))))/\((decide (a < (0:Int)))=false->(Ca V 121 #[I U (U.wrap a)] fun y z=>∃l m n,y=S l m n/\(Ca z 109 #[B false,S l m n] fun a0 a1=>∃o,∃p q r,a0=A #[B o,S p q r]/\(Rt a1 R (A #[B o,S p q r]))))))):
 Acts prog 116 #[I J a] V R:=
 fd (LF:=LF0) (RF:=[1000007]) [] [] func116 h
theorem vc_num_Sign (a:Bool) (f:OA) (b g:Nat) (V:View) (R:VR) (h:((((b:Int) == (0:Int))=true->(Rt V R (I J 0)))/\(((b:Int) == (0:Int))=false->((a=true->(Rt V R (I J (-1))))/\(a=false->(Rt V R (I J 1))))))):
 Acts prog 97 #[A #[B a,S f b g]] V R:=
 fd (LF:=LF0) (RF:=[1000007]) [] [] func97 h
theorem vc_num_Minus (a:Bool) (b:OA) (c d:Nat) (V:View) (R:VR) (h:(Ca V 109 #[B (!a),S b c d] fun l m=>∃e,∃f g i,l=A #[B e,S f g i]/\(Rt m R (A #[B e,S f g i])))):
 Acts prog 130 #[A #[B a,S b c d]] V R:=
 fd (LF:=LF0) (RF:=[1000007]) [] [] func130 h
theorem vc_num_Add (a:Bool) (b:OA) (c d:Nat) (i:Bool) (e:OA) (f g:Nat) (V:View) (R:VR) (h:(((a == i)=true->(Ca V 180 #[S b c d,S e f g] fun b1 b2=>∃l m n,b1=S l m n/\(Ca b2 109 #[B a,S l m n] fun b3 b4=>∃o,∃p q r,b3=A #[B o,S p q r]/\(Rt b4 R (A #[B o,S p q r])))))/\((a == i)=false->(Ca V 134 #[S b c d,S e f g] fun b5 t=>∃k,b5=I J k/\(((decide (k < (0:Int)))=true->(Ca t 181 #[S e f g,S b c d] fun b6 b7=>∃u w x,b6=S u w x/\(Ca b7 109 #[B i,S u w x] fun b8 b9=>∃y,∃z a0 a1,b8=A #[B y,S z a0 a1]/\(Rt b9 R (A #[B y,S z a0 a1])))))/\((decide (k < (0:Int)))=false->(Ca t 181 #[S b c d,S e f g] fun c0 c1=>∃a3 a4 a5,c0=S a3 a4 a5/\(Ca c1 109 #[B a,S a3 a4 a5] fun c2 c3=>∃a6,∃a7 a8 a9,c2=A #[B a6,S a7 a8 a9]/\(Rt c3 R (A #[B a6,S a7 a8 a9])))))))))):
 Acts prog 139 #[A #[B a,S b c d],A #[B i,S e f g]] V R:=
 fd (LF:=LF0) (RF:=[1000007]) [] [] func139 h
theorem vc_num_Mul (a:Bool) (b:OA) (c d:Nat) (e:Bool) (f:OA) (g i:Nat) (V:View) (R:VR) (h:(Ca V 108 #[S b c d,S f g i] fun s t=>∃k l m,s=S k l m/\(Ca t 109 #[B (!(a == e)),S k l m] fun u w=>∃n,∃o p q,u=A #[B n,S o p q]/\(Rt w R (A #[B n,S o p q]))))):
 Acts prog 140 #[A #[B a,S b c d],A #[B e,S f g i]] V R:=
 fd (LF:=LF0) (RF:=[1000007]) [] [] func140 h
theorem vc_num_Compare (a:Bool) (b:OA) (c d:Nat) (e:Bool) (f:OA) (g i:Nat) (V:View) (R:VR) (h:(Ca V 130 #[A #[B e,S f g i]] fun u w=>∃k,∃l m n,u=A #[B k,S l m n]/\(Ca w 139 #[A #[B a,S b c d],A #[B k,S l m n]] fun x y=>∃o,∃p q r,x=A #[B o,S p q r]/\(Ca y 97 #[A #[B o,S p q r]] fun z a0=>∃s,z=I J s/\(Rt a0 R (I J s)))))):
 Acts prog 188 #[A #[B a,S b c d],A #[B e,S f g i]] V R:=
 fd (LF:=LF0) (RF:=[1000007]) [] [] func188 h
theorem vc_num_Den (k:Bool) (l:OA) (m n:Nat) (b:OA) (a c:Nat) (V:View) (R:VR) (h:((((a:Int) == (0:Int))=true->(Ca V 135 #[] fun o p=>∃d e f,o=S d e f/\(Rt p R (S d e f))))/\(((a:Int) == (0:Int))=false->(Rt V R (S b a c))))):
 Acts prog 106 #[A #[B k,S l m n,S b a c]] V R:=
 fd (LF:=LF0) (RF:=[1000007]) [] [] func106 h
theorem vc_num_Frac (g:Bool) (a:OA) (b c:Nat) (d:OA) (e f:Nat) (V:View) (R:VR) (h:(Ca V 133 #[S a b c,S d e f] fun b6 b7=>∃i k l,b6=S i k l/\(Ca b7 135 #[] fun b8 b9=>∃x y z,b8=S x y z/\(Ca b9 134 #[S i k l,S x y z] fun c0 a0=>∃m,c0=I J m/\(((m != (0:Int))=true->(Ca a0 167 #[S a b c,S i k l] fun c1 c2=>∃a1 a2 a3,∃c3 c4 c5,c1=T #[S a1 a2 a3,S c3 c4 c5]/\(Ca c2 109 #[B g,S a1 a2 a3] fun c6 c7=>∃n,∃o p q,c6=A #[B n,S o p q]/\(Ca c7 167 #[S d e f,S i k l] fun c8 c9=>∃r s t,∃d0 d1 d2,c8=T #[S r s t,S d0 d1 d2]/\(Ca c9 135 #[] fun d3 d4=>∃a4 a5 a6,d3=S a4 a5 a6/\(Ca d4 134 #[S r s t,S a4 a5 a6] fun d5 a7=>∃u,d5=I J u/\(((u == (0:Int))=true->(Rt a7 R (A #[B n,S o p q,S none 0 0])))/\((u == (0:Int))=false->(Rt a7 R (A #[B n,S o p q,S r s t]))))))))))/\((m != (0:Int))=false->(Ca a0 135 #[] fun d6 d7=>∃b0 b1 b2,d6=S b0 b1 b2/\(Ca d7 134 #[S d e f,S b0 b1 b2] fun d8 b3=>∃w,d8=I J w/\(((w == (0:Int))=true->(Rt b3 R (A #[B g,S a b c,S none 0 0])))/\((w == (0:Int))=false->(Rt b3 R (A #[B g,S a b c,S d e f])))))))))))):
 Acts prog 120 #[A #[B g,S a b c],S d e f] V R:=
 fd (LF:=LF0) (RF:=[1000007]) [] [] func120 h
theorem vc_num_Of (a:Int) (V:View) (R:VR) (h:(Ca V 116 #[I J a] fun g i=>∃b,∃c d e,g=A #[B b,S c d e]/\(Rt i R (A #[B b,S c d e,S none 0 0])))):
 Acts prog 57 #[I J a] V R:=
 fd (LF:=LF0) (RF:=[1000007]) [] [] func57 h
theorem vc_num_Part (a b:Int) (V:View) (R:VR) (h:(Ca V 116 #[I J a] fun t u=>∃c,∃d e f,t=A #[B c,S d e f]/\(Ca u 121 #[I U (U.wrap b)] fun w x=>∃g i k,w=S g i k/\(Ca x 120 #[A #[B c,S d e f],S g i k] fun y z=>∃l,∃m n o,∃p q r,y=A #[B l,S m n o,S p q r]/\(Rt z R (A #[B l,S m n o,S p q r])))))):
 Acts prog 65 #[I J a,I J b] V R:=
 fd (LF:=LF0) (RF:=[1000007]) [] [] func65 h
theorem vc_num_S (a:Bool) (b:OA) (c d:Nat) (g:OA) (i k:Nat) (V:View) (R:VR) (h:(Ca V 97 #[A #[B a,S b c d]] fun l m=>∃e,l=I J e/\(Rt m R (I J e)))):
 Acts prog 44 #[A #[B a,S b c d,S g i k]] V R:=
 fd (LF:=LF0) (RF:=[1000007]) [] [] func44 h
theorem vc_num_Opp (a:Bool) (b:OA) (c d:Nat) (e:OA) (f g:Nat) (V:View) (R:VR) (h:(Ca V 130 #[A #[B a,S b c d]] fun o p=>∃i,∃k l m,o=A #[B i,S k l m]/\(Rt p R (A #[B i,S k l m,S e f g])))):
 Acts prog 72 #[A #[B a,S b c d,S e f g]] V R:=
 fd (LF:=LF0) (RF:=[1000007]) [] [] func72 h
theorem vc_num_Plus (a:Bool) (b:OA) (c d:Nat) (m:OA) (k n:Nat) (e:Bool) (f:OA) (g i:Nat) (o:OA) (l p:Nat) (V:View) (R:VR) (h:((((k:Int) == (0:Int))=true->((((l:Int) == (0:Int))=true->(Ca V 139 #[A #[B a,S b c d],A #[B e,S f g i]] fun k2 k3=>∃q,∃r s t,k2=A #[B q,S r s t]/\(Rt k3 R (A #[B q,S r s t,S none 0 0]))))/\(((l:Int) == (0:Int))=false->(Ca V 106 #[A #[B e,S f g i,S o l p]] fun k4 k5=>∃w x y,k4=S w x y/\(Ca k5 109 #[B false,S w x y] fun k6 k7=>∃z,∃a0 a1 a2,k6=A #[B z,S a0 a1 a2]/\(Ca k7 140 #[A #[B a,S b c d],A #[B z,S a0 a1 a2]] fun k8 k9=>∃a3,∃a4 a5 a6,k8=A #[B a3,S a4 a5 a6]/\(Ca k9 106 #[A #[B a,S b c d,S m k n]] fun l0 l1=>∃a7 a8 a9,l0=S a7 a8 a9/\(Ca l1 109 #[B false,S a7 a8 a9] fun l2 l3=>∃b0,∃b1 b2 b3,l2=A #[B b0,S b1 b2 b3]/\(Ca l3 140 #[A #[B e,S f g i],A #[B b0,S b1 b2 b3]] fun l4 l5=>∃b4,∃b5 b6 b7,l4=A #[B b4,S b5 b6 b7]/\(Ca l5 139 #[A #[B a3,S a4 a5 a6],A #[B b4,S b5 b6 b7]] fun l6 l7=>∃b8,∃b9 c0 c1,l6=A #[B b8,S b9 c0 c1]/\(Ca l7 106 #[A #[B a,S b c d,S m k n]] fun l8 l9=>∃c2 c3 c4,l8=S c2 c3 c4/\(Ca l9 106 #[A #[B e,S f g i,S o l p]] fun m0 m1=>∃c5 c6 c7,m0=S c5 c6 c7/\(Ca m1 108 #[S c2 c3 c4,S c5 c6 c7] fun m2 m3=>∃c8 c9 d0,m2=S c8 c9 d0/\(Ca m3 120 #[A #[B b8,S b9 c0 c1],S c8 c9 d0] fun m4 m5=>∃d1,∃d2 d3 d4,∃d5 d6 d7,m4=A #[B d1,S d2 d3 d4,S d5 d6 d7]/\(Rt m5 R (A #[B d1,S d2 d3 d4,S d5 d6 d7]))))))))))))))))/\(((k:Int) == (0:Int))=false->(Ca V 106 #[A #[B e,S f g i,S o l p]] fun m6 m7=>∃d9 e0 e1,m6=S d9 e0 e1/\(Ca m7 109 #[B false,S d9 e0 e1] fun m8 m9=>∃e2,∃e3 e4 e5,m8=A #[B e2,S e3 e4 e5]/\(Ca m9 140 #[A #[B a,S b c d],A #[B e2,S e3 e4 e5]] fun n0 n1=>∃e6,∃e7 e8 e9,n0=A #[B e6,S e7 e8 e9]/\(Ca n1 106 #[A #[B a,S b c d,S m k n]] fun n2 n3=>∃f0 f1 f2,n2=S f0 f1 f2/\(Ca n3 109 #[B false,S f0 f1 f2] fun n4 n5=>∃f3,∃f4 f5 f6,n4=A #[B f3,S f4 f5 f6]/\(Ca n5 140 #[A #[B e,S f g i],A #[B f3,S f4 f5 f6]] fun n6 n7=>∃f7,∃f8 f9 g0,n6=A #[B f7,S f8 f9 g0]/\(Ca n7 139 #[A #[B e6,S e7 e8 e9],A #[B f7,S f8 f9 g0]] fun n8 n9=>∃g1,∃g2 g3 g4,n8=A #[B g1,S g2 g3 g4]/\(Ca n9 106 #[A #[B a,S b c d,S m k n]] fun o0 o1=>∃g5 g6 g7,o0=S g5 g6 g7/\(Ca o1 106 #[A #[B e,S f g i,S o l p]] fun o2 o3=>∃g8 g9 i0,o2=S g8 g9 i0/\(Ca o3 108 #[S g5 g6 g7,S g8 g9 i0] fun o4 o5=>∃i1 i2 i3,o4=S i1 i2 i3/\(Ca o5 120 #[A #[B g1,S g2 g3 g4],S i1 i2 i3] fun o6 o7=>∃i4,∃i5 i6 i7,∃i8 i9 k0,o6=A #[B i4,S i5 i6 i7,S i8 i9 k0]/\(Rt o7 R (A #[B i4,S i5 i6 i7,S i8 i9 k0])))))))))))))))):
 Acts prog 80 #[A #[B a,S b c d,S m k n],A #[B e,S f g i,S o l p]] V R:=
 fd (LF:=LF0) (RF:=[1000007]) [] [] func80 h
theorem vc_num_Sub (a:Bool) (b:OA) (c d:Nat) (e:OA) (f g:Nat) (i:Bool) (k:OA) (l m:Nat) (n:OA) (o p:Nat) (V:View) (R:VR) (h:(Ca V 72 #[A #[B i,S k l m,S n o p]] fun a6 a7=>∃q,∃r s t,∃u w x,a6=A #[B q,S r s t,S u w x]/\(Ca a7 80 #[A #[B a,S b c d,S e f g],A #[B q,S r s t,S u w x]] fun a8 a9=>∃y,∃z a0 a1,∃a2 a3 a4,a8=A #[B y,S z a0 a1,S a2 a3 a4]/\(Rt a9 R (A #[B y,S z a0 a1,S a2 a3 a4]))))):
 Acts prog 95 #[A #[B a,S b c d,S e f g],A #[B i,S k l m,S n o p]] V R:=
 fd (LF:=LF0) (RF:=[1000007]) [] [] func95 h
theorem vc_num_Times (a:Bool) (b:OA) (c d:Nat) (m:OA) (k n:Nat) (e:Bool) (f:OA) (g i:Nat) (o:OA) (l p:Nat) (V:View) (R:VR) (h:((((k:Int) == (0:Int))=true->((((l:Int) == (0:Int))=true->(Ca V 140 #[A #[B a,S b c d],A #[B e,S f g i]] fun d8 d9=>∃q,∃r s t,d8=A #[B q,S r s t]/\(Rt d9 R (A #[B q,S r s t,S none 0 0]))))/\(((l:Int) == (0:Int))=false->(Ca V 140 #[A #[B a,S b c d],A #[B e,S f g i]] fun e0 e1=>∃w,∃x y z,e0=A #[B w,S x y z]/\(Ca e1 106 #[A #[B a,S b c d,S m k n]] fun e2 e3=>∃a0 a1 a2,e2=S a0 a1 a2/\(Ca e3 106 #[A #[B e,S f g i,S o l p]] fun e4 e5=>∃a3 a4 a5,e4=S a3 a4 a5/\(Ca e5 108 #[S a0 a1 a2,S a3 a4 a5] fun e6 e7=>∃a6 a7 a8,e6=S a6 a7 a8/\(Ca e7 120 #[A #[B w,S x y z],S a6 a7 a8] fun e8 e9=>∃a9,∃b0 b1 b2,∃b3 b4 b5,e8=A #[B a9,S b0 b1 b2,S b3 b4 b5]/\(Rt e9 R (A #[B a9,S b0 b1 b2,S b3 b4 b5]))))))))))/\(((k:Int) == (0:Int))=false->(Ca V 140 #[A #[B a,S b c d],A #[B e,S f g i]] fun f0 f1=>∃b7,∃b8 b9 c0,f0=A #[B b7,S b8 b9 c0]/\(Ca f1 106 #[A #[B a,S b c d,S m k n]] fun f2 f3=>∃c1 c2 c3,f2=S c1 c2 c3/\(Ca f3 106 #[A #[B e,S f g i,S o l p]] fun f4 f5=>∃c4 c5 c6,f4=S c4 c5 c6/\(Ca f5 108 #[S c1 c2 c3,S c4 c5 c6] fun f6 f7=>∃c7 c8 c9,f6=S c7 c8 c9/\(Ca f7 120 #[A #[B b7,S b8 b9 c0],S c7 c8 c9] fun f8 f9=>∃d0,∃d1 d2 d3,∃d4 d5 d6,f8=A #[B d0,S d1 d2 d3,S d4 d5 d6]/\(Rt f9 R (A #[B d0,S d1 d2 d3,S d4 d5 d6])))))))))):
 Acts prog 98 #[A #[B a,S b c d,S m k n],A #[B e,S f g i,S o l p]] V R:=
 fd (LF:=LF0) (RF:=[1000007]) [] [] func98 h
theorem vc_num_Over (a:Bool) (b:OA) (c d:Nat) (k:OA) (l m:Nat) (e:Bool) (f:OA) (g i:Nat) (n:OA) (o p:Nat) (V:View) (R:VR) (h:(Ca V 106 #[A #[B e,S f g i,S n o p]] fun b6 b7=>∃q r s,b6=S q r s/\(Ca b7 109 #[B e,S q r s] fun b8 b9=>∃t,∃u w x,b8=A #[B t,S u w x]/\(Ca b9 140 #[A #[B a,S b c d],A #[B t,S u w x]] fun c0 c1=>∃y,∃z a0 a1,c0=A #[B y,S z a0 a1]/\(Ca c1 106 #[A #[B a,S b c d,S k l m]] fun c2 c3=>∃a2 a3 a4,c2=S a2 a3 a4/\(Ca c3 108 #[S a2 a3 a4,S f g i] fun c4 c5=>∃a5 a6 a7,c4=S a5 a6 a7/\(Ca c5 120 #[A #[B y,S z a0 a1],S a5 a6 a7] fun c6 c7=>∃a8,∃a9 b0 b1,∃b2 b3 b4,c6=A #[B a8,S a9 b0 b1,S b2 b3 b4]/\(Rt c7 R (A #[B a8,S a9 b0 b1,S b2 b3 b4]))))))))):
 Acts prog 111 #[A #[B a,S b c d,S k l m],A #[B e,S f g i,S n o p]] V R:=
 fd (LF:=LF0) (RF:=[1000007]) [] [] func111 h
theorem vc_num_C (a:Bool) (b:OA) (c d:Nat) (e:OA) (f g:Nat) (i:Bool) (k:OA) (l m:Nat) (n:OA) (o p:Nat) (V:View) (R:VR) (h:(Ca V 95 #[A #[B a,S b c d,S e f g],A #[B i,S k l m,S n o p]] fun a0 a1=>∃q,∃r s t,∃u w x,a0=A #[B q,S r s t,S u w x]/\(Ca a1 44 #[A #[B q,S r s t,S u w x]] fun a2 a3=>∃y,a2=I J y/\(Rt a3 R (I J y))))):
 Acts prog 129 #[A #[B a,S b c d,S e f g],A #[B i,S k l m,S n o p]] V R:=
 fd (LF:=LF0) (RF:=[1000007]) [] [] func129 h
theorem vc_num_Half (a:Bool) (b:OA) (c d:Nat) (e:OA) (f g:Nat) (V:View) (R:VR) (h:(Ca V 57 #[I J 2] fun z a0=>∃i,∃k l m,∃n o p,z=A #[B i,S k l m,S n o p]/\(Ca a0 111 #[A #[B a,S b c d,S e f g],A #[B i,S k l m,S n o p]] fun a1 a2=>∃q,∃r s t,∃u w x,a1=A #[B q,S r s t,S u w x]/\(Rt a2 R (A #[B q,S r s t,S u w x]))))):
 Acts prog 156 #[A #[B a,S b c d,S e f g]] V R:=
 fd (LF:=LF0) (RF:=[1000007]) [] [] func156 h
theorem vc_num_Mid (a:Bool) (b:OA) (c d:Nat) (e:OA) (f g:Nat) (i:Bool) (k:OA) (l m:Nat) (n:OA) (o p:Nat) (V:View) (R:VR) (h:(Ca V 80 #[A #[B a,S b c d,S e f g],A #[B i,S k l m,S n o p]] fun a6 a7=>∃q,∃r s t,∃u w x,a6=A #[B q,S r s t,S u w x]/\(Ca a7 156 #[A #[B q,S r s t,S u w x]] fun a8 a9=>∃y,∃z a0 a1,∃a2 a3 a4,a8=A #[B y,S z a0 a1,S a2 a3 a4]/\(Rt a9 R (A #[B y,S z a0 a1,S a2 a3 a4]))))):
 Acts prog 96 #[A #[B a,S b c d,S e f g],A #[B i,S k l m,S n o p]] V R:=
 fd (LF:=LF0) (RF:=[1000007]) [] [] func96 h
end Go.Proofs.Tryz
/- Contracts of the reference's integers: Make, Int, Sign, Minus, Add, Mul. -/
namespace Go.Proofs.Tryz
open Go.Eng Go.Big
theorem c_num_Make {V:View} (b:Bool) {p:OA} {n c x:Nat} (h:RN V p n c x) :
  Acts prog 109 #[.bool b,.slice p n c] V fun r V'=>RI V' r (if b then -(x:Int) else x):=by
 have hp:=len_pos_digs h.len
 refine vc_num_Make b p n c V _ ⟨fun h0 V1 l1=>?_,fun h0 V1 l1=>?_⟩
 ·rw [if_pos h0]
  refine RI.mk ?_ ?_
  ·rw [Bool.eq_iff_iff,decide_eq_true_eq,decide_eq_true_eq]
   omega
  ·rw [Int.natAbs_neg,Int.natAbs_natCast]; exact h.le l1
 ·rw [h0,if_neg (by decide)]
  refine RI.mk ?_ ?_
  ·symm; rw [decide_eq_false_iff_not]; omega
  ·rw [Int.natAbs_natCast]; exact h.le l1
theorem make_fin {V:View} {b:Bool} {p:OA} {n c x:Nat} {z:Int} (h:RN V p n c x) (hz:(if b then -(x:Int) else x)=z) :
  Acts prog 109 #[.bool b,.slice p n c] V fun r V'=>∃(b1_:Bool) (p2_:OA) (n2_ c2_:Nat),r=.agg #[.bool b1_,.slice p2_ n2_ c2_]/\∀V3:View,V'.Le V3->RI V3 (.agg #[.bool b1_,.slice p2_ n2_ c2_]) z:=by
 refine (c_num_Make b h).mono ?_
 rintro r V2 l2 ⟨p1,n1,c1,rfl,g⟩
 rw [hz] at g ⊢
 exact ⟨_,_,_,_,rfl,fun V3 l3=>⟨_,_,_,rfl,g.le l3⟩⟩
theorem c_num_Int {V:View} (n:Int) (h0:-9223372036854775808<=n) (h1:n<=9223372036854775807) :
  Acts prog 116 #[.int .i64 n] V fun r V'=>RI V' r n:=by
 refine vc_num_Int n V _ ⟨fun h2 V1 l1=>?_,fun h2 V1 l1=>?_⟩
 ·have h2:n < 0:=by simpa using h2
  have e:u64.wrap (0 - u64.wrap n)=((-n).toNat:Int):=by rw [u64m,u64m]; omega
  rw [e]
  refine (c_num_Word _ (by omega)).mono ?_
  rintro r V2 l2 ⟨p1,n1,c1,rfl,g1⟩
  exact ⟨_,_,_,rfl,fun V3 l3=>make_fin (g1.le l3) (by simp; omega)⟩
 ·have h2:0<=n:=by simpa using h2
  have e:u64.wrap n=(n.toNat:Int):=by rw [u64w (by omega)]; omega
  rw [e]
  refine (c_num_Word _ (by omega)).mono ?_
  rintro r V2 l2 ⟨p1,n1,c1,rfl,g1⟩
  exact ⟨_,_,_,rfl,fun V3 l3=>make_fin (g1.le l3) (by simp; omega)⟩
theorem c_num_Sign {V:View} (z:Int) {p:OA} {n c:Nat} (h:RN V p n c z.natAbs) :
  Acts prog 97 #[.agg #[.bool (decide (z < 0)),.slice p n c]] V fun r V'=>r=.int .i64 z.sign:=by
 have hp:=len_pos_digs h.len
 refine vc_num_Sign _ p n c V _ ⟨fun h0 V1 l1=>?_,fun h0=>⟨fun h1 V1 l1=>?_,fun h1 V1 l1=>?_⟩⟩
 ·have:z=0:=by simp at h0; omega
  rw [this]; rfl
 ·rw [decide_eq_true_eq] at h1
  rw [Int.sign_eq_neg_one_of_neg h1]
 ·rw [decide_eq_false_iff_not] at h1
  have:0 < z:=by simp at h0; omega
  rw [Int.sign_eq_one_of_pos this]
theorem c_num_Minus {V:View} (z:Int) {p:OA} {n c:Nat} (h:RN V p n c z.natAbs) :
  Acts prog 130 #[.agg #[.bool (decide (z < 0)),.slice p n c]] V fun r V'=>RI V' r (-z):=by
 refine vc_num_Minus _ p n c V _ fun V1 l1=>make_fin (h.le l1) ?_
 by_cases hz:z < 0 <;> simp [hz] <;> omega
theorem c_num_Mul {V:View} (z w:Int) {p q:OA} {n c m e:Nat} (ha:RN V p n c z.natAbs) (hb:RN V q m e w.natAbs) (hm:(digs z.natAbs).length + (digs w.natAbs).length<=1099511627776) :
  Acts prog 140 #[.agg #[.bool (decide (z < 0)),.slice p n c],.agg #[.bool (decide (w < 0)),.slice q m e]] V fun r V'=>RI V' r (z * w):=by
 refine vc_num_Mul _ p n c _ q m e V _ fun V1 l1=>(c_num_Product (ha.le l1) (hb.le l1) hm).mono ?_
 rintro r V2 l2 ⟨p1,n1,c1,rfl,g1⟩
 rw [val_digs,val_digs] at g1
 refine ⟨_,_,_,rfl,fun V3 l3=>make_fin (g1.le l3) ?_⟩
 have e1:z=ival (decide (z < 0)) (digs z.natAbs):=(ival_digs z).symm
 have e2:w=ival (decide (w < 0)) (digs w.natAbs):=(ival_digs w).symm
 conv=>rhs; rw [e1,e2]
 unfold ival
 rw [val_digs,val_digs]
 cases decide (z < 0) <;> cases decide (w < 0) <;> simp [Int.neg_mul,Int.mul_neg]
theorem c_num_Add {V:View} (z w:Int) {p q:OA} {n c m e:Nat} (ha:RN V p n c z.natAbs) (hb:RN V q m e w.natAbs) (hm:(digs z.natAbs).length<=1099511627776) (hn:(digs w.natAbs).length<=1099511627776) :
  Acts prog 139 #[.agg #[.bool (decide (z < 0)),.slice p n c],.agg #[.bool (decide (w < 0)),.slice q m e]] V fun r V'=>RI V' r (z + w):=by
 refine vc_num_Add _ p n c _ q m e V _ ⟨fun h0 V1 l1=>(c_num_Sum (ha.le l1) (hb.le l1) hm hn).mono ?_,fun h0 V1 l1=>(c_num_Cmp (ha.le l1) (hb.le l1) hm hn).mono ?_⟩
 ·rintro r V2 l2 ⟨p1,n1,c1,rfl,g1⟩
  rw [val_digs,val_digs] at g1
  refine ⟨_,_,_,rfl,fun V3 l3=>make_fin (g1.le l3) ?_⟩
  by_cases hz:z < 0 <;> by_cases hw:w < 0 <;> simp [hz,hw] at h0 ⊢ <;> omega
 ·rintro r V2 l2 rfl
  refine ⟨_,rfl,fun h2 V3 l3=>?_,fun h2 V3 l3=>?_⟩
  ·have h2:z.natAbs < w.natAbs:=by simpa [cmpN_neg] using h2
   refine (c_num_Less (hb.le (l1.trans (l2.trans l3))) (ha.le (l1.trans (l2.trans l3))) hn (digs_len_mono (Nat.le_of_lt h2)) (by rw [val_digs,val_digs]; omega)).mono ?_
   rintro r V4 l4 ⟨p1,n1,c1,rfl,g1⟩
   rw [val_digs,val_digs] at g1
   refine ⟨_,_,_,rfl,fun V5 l5=>make_fin (g1.le l5) ?_⟩
   by_cases hz:z < 0 <;> by_cases hw:w < 0 <;> simp [hz,hw] at h0 ⊢ <;> omega
  ·have h2:w.natAbs<=z.natAbs:=by simpa [← Int.not_lt,cmpN_neg] using h2
   refine (c_num_Less (ha.le (l1.trans (l2.trans l3))) (hb.le (l1.trans (l2.trans l3))) hm (digs_len_mono h2) (by rw [val_digs,val_digs]; omega)).mono ?_
   rintro r V4 l4 ⟨p1,n1,c1,rfl,g1⟩
   rw [val_digs,val_digs] at g1
   refine ⟨_,_,_,rfl,fun V5 l5=>make_fin (g1.le l5) ?_⟩
   by_cases hz:z < 0 <;> by_cases hw:w < 0 <;> simp [hz,hw] at h0 ⊢ <;> omega
end Go.Proofs.Tryz
/- Contracts of the reference's rational numbers: Den, Frac, Of, S, Opp. -/
namespace Go.Eng
open Go.Big
/-- The digits of a denominator; none stands for 1. -/
def dend (d:Nat):List Nat:=if d=1 then [] else digs d
/-- A rational number of the reference. -/
def RQ (V:View) (v:Value) (q:Rat):Prop:=∃p n c p' n' c',v=.agg #[.bool (decide (q.num < 0)),.slice p n c,.slice p' n' c'] /\
 RD V p n c (digs q.num.natAbs)/\RD V p' n' c' (dend q.den)
theorem RQ.le {V V':View} {v:Value} {q:Rat} (h:RQ V v q) (l:V.Le V'):RQ V' v q:=by
 obtain ⟨p,n,c,p',n',c',e,h1,h2⟩:=h
 exact ⟨p,n,c,p',n',c',e,h1.le l,h2.le l⟩
theorem dend_nil {q:Rat}:dend q.den=[]↔q.den=1:=by
 unfold dend
 split
 ·rename_i h; simp [h]
 ·rename_i h
  rw [digs_eq_nil]
  have:=q.den_nz
  omega
end Go.Eng
namespace Go.Proofs.Tryz
open Go.Eng Go.Big
theorem dend_len {V:View} {q:Rat} {p:OA} {n c:Nat} (h:RD V p n c (dend q.den)):n=0↔q.den=1:=by
 rw [← dend_nil,h.len,List.length_eq_zero_iff]
theorem c_num_Den {V:View} (q:Rat) {p p':OA} {n c n' c':Nat} (b:Bool) (h2:RD V p' n' c' (dend q.den)) :
  Acts prog 106 #[.agg #[.bool b,.slice p n c,.slice p' n' c']] V fun r V'=>∃p1 n1 c1,r=.slice p1 n1 c1/\RN V' p1 n1 c1 q.den:=by
 have hl:=dend_len h2
 refine vc_num_Den b p n c p' n' c' V _ ⟨fun h0 V1 l1=>c_num_One.mono ?_,fun h0 V1 l1=>⟨_,_,_,rfl,?_⟩⟩
 ·rintro r V2 l2 ⟨p1,n1,c1,rfl,g⟩
  have:q.den=1:=hl.1 (by simp at h0; omega)
  rw [this]
  exact ⟨_,_,_,rfl,fun V3 l3=>⟨_,_,_,rfl,g.le l3⟩⟩
 ·have:q.den≠1:=fun e=>by have:=hl.2 e; simp at h0; omega
  unfold dend at h2
  rw [if_neg this] at h2
  exact h2.le l1
theorem rq_of {V:View} {q:Rat} {z:Int} {d:Nat} {p p':OA} {n c n' c':Nat} (hn:q.num=z) (hd:q.den=d) (h1:RD V p n c (digs z.natAbs)) (h2:RD V p' n' c' (dend d)) {b:Bool} (hb:b=decide (z < 0)) :
  RQ V (.agg #[.bool b,.slice p n c,.slice p' n' c']) q:=by
 subst hn hd hb
 exact ⟨_,_,_,_,_,_,rfl,h1,h2⟩
theorem c_num_Frac {V:View} (z:Int) {d:Nat} {p q:OA} {n c m e:Nat} (hx:RN V p n c z.natAbs) (hy:RN V q m e d) (hm:(digs z.natAbs).length<=274877906944) (hn:(digs d).length<=274877906944) (hd:d≠0) :
  Acts prog 120 #[.agg #[.bool (decide (z < 0)),.slice p n c],.slice q m e] V fun r V'=>RQ V' r (mkRat z d):=by
 refine vc_num_Frac _ p n c q m e V _ fun V1 l1=>(c_num_Common (hx.le l1) (hy.le l1) hm hn).mono ?_
 rintro r V2 l2 ⟨p1,n1,c1,rfl,hg⟩
 have hgd:=Nat.gcd_dvd_right z.natAbs d
 have hgx:=Nat.gcd_dvd_left z.natAbs d
 have hgp:0 < Nat.gcd z.natAbs d:=Nat.gcd_pos_of_pos_right _ (by omega)
 have hgl:(digs (Nat.gcd z.natAbs d)).length<=274877906944:=Nat.le_trans (digs_len_mono (Nat.le_of_dvd (by omega) hgd)) hn
 have hnum:(mkRat z d).num=z / (Nat.gcd d z.natAbs:Nat):=by rw [Rat.num_mkRat,if_neg hd]
 have hden:(mkRat z d).den=d / Nat.gcd d z.natAbs:=by rw [Rat.den_mkRat,if_neg hd]
 rw [Nat.gcd_comm d] at hnum hden
 generalize hG:Nat.gcd z.natAbs d=g at *
 generalize mkRat z d=w at *
 refine ⟨_,_,_,rfl,fun V3 l3=>c_num_One.mono ?_⟩
 rintro r V4 l4 ⟨p2,n2,c2,rfl,h1⟩
 refine ⟨_,_,_,rfl,fun V5 l5=>(c_num_Cmp (hg.le (l3.trans (l4.trans l5))) (h1.le l5) (by omega) (by decide)).mono ?_⟩
 rintro r V6 l6 rfl
 replace hx:=hx.le (l1.trans (l2.trans (l3.trans (l4.trans (l5.trans l6)))))
 replace hy:=hy.le (l1.trans (l2.trans (l3.trans (l4.trans (l5.trans l6)))))
 replace hg:=hg.le (l3.trans (l4.trans (l5.trans l6)))
 refine ⟨_,rfl,fun h0 V7 l7=>(c_num_Divide (hx.le l7) (hg.le l7) hm hgl hgp).mono ?_,fun h0 V19 l19=>c_num_One.mono ?_⟩
 ·rintro r V8 l8 ⟨p4,n4,c4,p5,n5,c5,rfl,g1,-⟩
  have hnd:(mkRat z d).num.natAbs=(mkRat z d).num.natAbs:=rfl
  obtain ⟨k,hk⟩:=hgx
  have hk1:z.natAbs / g=k:=by rw [hk,Nat.mul_div_cancel_left _ hgp]
  rw [hk1] at g1
  have hz:z=(g:Int) * (if z < 0 then -(k:Int) else k):=by
   split
   ·rw [Int.mul_neg,← Int.natCast_mul,← hk]; omega
   ·rw [← Int.natCast_mul,← hk]; omega
  have hwn:w.num=(if z < 0 then -(k:Int) else k):=by
   rw [hnum]
   generalize (if z < 0 then -(k:Int) else k)=t at *
   rw [hz,Int.mul_ediv_cancel_left _ (by omega)]
  refine ⟨_,_,_,_,_,_,rfl,fun V9 l9=>(c_num_Make _ (g1.le l9)).mono ?_⟩
  have hite:(if decide (z < 0)=true then -(k:Int) else k)=w.num:=by
   rw [hwn]; simp
  rw [hite]
  rintro r V10 l10 ⟨p7,n7,c7,rfl,g2⟩
  refine ⟨_,_,_,_,rfl,fun V11 l11=>(c_num_Divide (hy.le (l7.trans (l8.trans (l9.trans (l10.trans l11))))) (hg.le (l7.trans (l8.trans (l9.trans (l10.trans l11))))) hn hgl hgp).mono ?_⟩
  rintro r V12 l12 ⟨p8,n8,c8,p9,n9,c9,rfl,g3,-⟩
  rw [← hden] at g3
  refine ⟨_,_,_,_,_,_,rfl,fun V13 l13=>c_num_One.mono ?_⟩
  rintro r V14 l14 ⟨p10,n10,c10,rfl,g4⟩
  have hdl:(digs w.den).length<=274877906944:=by rw [hden]; exact Nat.le_trans (digs_len_mono (Nat.div_le_self _ _)) hn
  refine ⟨_,_,_,rfl,fun V15 l15=>(c_num_Cmp (g3.le (l13.trans (l14.trans l15))) (g4.le l15) (by omega) (by decide)).mono ?_⟩
  rintro r V16 l16 rfl
  refine ⟨_,rfl,fun h9 V17 l17=>rq_of rfl rfl (g2.le (l11.trans (l12.trans (l13.trans (l14.trans (l15.trans (l16.trans l17))))))) ?_ rfl,fun h9 V18 l18=>rq_of rfl rfl (g2.le (l11.trans (l12.trans (l13.trans (l14.trans (l15.trans (l16.trans l18))))))) ?_ rfl⟩
  ·have:w.den=1:=cmpN_zero.1 (by simpa using h9)
   rw [dend_nil.2 this]; exact RD.nil
  ·have:w.den≠1:=fun e=>by rw [cmpN_zero.2 e] at h9; simp at h9
   unfold dend
   rw [if_neg this]
   exact g3.le (l13.trans (l14.trans (l15.trans (l16.trans l18))))
 ·have hg1:g=1:=cmpN_zero.1 (by simpa using h0)
  have hwn:w.num=z:=by rw [hnum,hg1]; simp
  have hwd:w.den=d:=by rw [hden,hg1]; simp
  rintro r V20 l20 ⟨p12,n12,c12,rfl,g4⟩
  refine ⟨_,_,_,rfl,fun V21 l21=>(c_num_Cmp (hy.le (l19.trans (l20.trans l21))) (g4.le l21) (by omega) (by decide)).mono ?_⟩
  rintro r V22 l22 rfl
  refine ⟨_,rfl,fun h9 V17 l17=>rq_of hwn hwd (hx.le (l19.trans (l20.trans (l21.trans (l22.trans l17))))) ?_ rfl,fun h9 V18 l18=>rq_of hwn hwd (hx.le (l19.trans (l20.trans (l21.trans (l22.trans l18))))) ?_ rfl⟩
  ·have:d=1:=cmpN_zero.1 (by simpa using h9)
   unfold dend
   rw [if_pos this]; exact RD.nil
  ·have:d≠1:=fun e=>by rw [cmpN_zero.2 e] at h9; simp at h9
   unfold dend
   rw [if_neg this]
   exact hy.le (l19.trans (l20.trans (l21.trans (l22.trans l18))))
theorem c_num_Of {V:View} (n:Int) (h0:-9223372036854775808<=n) (h1:n<=9223372036854775807) :
  Acts prog 57 #[.int .i64 n] V fun r V'=>RQ V' r (n:Rat):=by
 refine vc_num_Of n V _ fun V1 l1=>(c_num_Int n h0 h1).mono ?_
 rintro r V2 l2 ⟨p,m,c,rfl,g⟩
 exact ⟨_,_,_,_,rfl,fun V3 l3=>rq_of (z:=n) (d:=1) rfl rfl (g.le l3) RD.nil rfl⟩
theorem c_num_S {V:View} (q:Rat) {p p':OA} {n c n' c':Nat} (h1:RD V p n c (digs q.num.natAbs)) :
  Acts prog 44 #[.agg #[.bool (decide (q.num < 0)),.slice p n c,.slice p' n' c']] V fun r V'=>r=.int .i64 q.num.sign:=by
 refine vc_num_S _ p n c p' n' c' V _ fun V1 l1=>(c_num_Sign q.num (h1.le l1)).mono ?_
 rintro r V2 l2 rfl
 exact ⟨_,rfl,fun V3 l3=>rfl⟩
theorem c_num_Opp {V:View} (q:Rat) {p p':OA} {n c n' c':Nat} (h1:RD V p n c (digs q.num.natAbs)) (h2:RD V p' n' c' (dend q.den)) :
  Acts prog 72 #[.agg #[.bool (decide (q.num < 0)),.slice p n c,.slice p' n' c']] V fun r V'=>RQ V' r (-q):=by
 refine vc_num_Opp _ p n c p' n' c' V _ fun V1 l1=>(c_num_Minus q.num (h1.le l1)).mono ?_
 rintro r V2 l2 ⟨p1,n1,c1,rfl,g⟩
 exact ⟨_,_,_,_,rfl,fun V3 l3=>rq_of (q:=-q) (z:=-q.num) (d:=q.den) (by rfl) (by rfl) (g.le l3) ((h2.le l1).le (l2.trans l3)) rfl⟩
end Go.Proofs.Tryz
/- Contracts of the reference's rational numbers: Plus, Sub, Times, C. -/
namespace Go.Proofs.Tryz
open Go.Eng Go.Big
theorem c_num_pos {V:View} {p:OA} {n c x:Nat} (h:RN V p n c x) :
  Acts prog 109 #[.bool false,.slice p n c] V fun r V'=>RI V' r (x:Int):=by
 have:=c_num_Make false h
 rwa [if_neg (by decide)] at this
theorem den_one_len {x:Rat} {k:Nat} (h:Sz k x):(digs x.num.natAbs).length<=k/\(digs x.den).length<=k/\(digs (x.den:Int).natAbs).length<=k:=⟨digs_len_bits h.1,digs_len_bits h.2,digs_len_bits h.2⟩
theorem c_num_Plus {V:View} {v w:Value} {x y:Rat} (hx:RQ V v x) (hy:RQ V w y) {k m:Nat} (hk:Sz k x) (hm:Sz m y) (hkm:k + m < 274877906944) :
  Acts prog 80 #[v,w] V fun r V'=>RQ V' r (x + y):=by
 obtain ⟨p,n,c,p',n',c',rfl,hx1,hx2⟩:=hx
 obtain ⟨q,i,e,q',i',e',rfl,hy1,hy2⟩:=hy
 have hlx:=dend_len hx2
 have hly:=dend_len hy2
 obtain ⟨b1,b2,b3,b4⟩:=add_bits hk hm
 obtain ⟨d1,d2,d3⟩:=den_one_len hk
 obtain ⟨d4,d5,d6⟩:=den_one_len hm
 have hxy:x + y=mkRat (x.num * y.den + y.num * x.den) (x.den * y.den):=Rat.add_def' x y
 refine (fun tail=>vc_num_Plus _ p n c p' n' c' _ q i e q' i' e' V _ ⟨fun h0=>⟨fun h1 V1 l1=>?_,fun _=>tail⟩,fun _=>tail⟩) ?_
 ·clear tail
  have h0:x.den=1:=hlx.1 (by simp at h0; omega)
  have h1:y.den=1:=hly.1 (by simp at h1; omega)
  refine (c_num_Add x.num y.num (hx1.le l1) (hy1.le l1) (by omega) (by omega)).mono ?_
  rintro r V2 l2 ⟨p2,n2,c2,rfl,g⟩
  have e1:x + y=((x.num + y.num:Int):Rat):=by
   rw [hxy,h0,h1]; simp [Rat.mkRat_one]
  rw [e1]
  exact ⟨_,_,_,_,rfl,fun V3 l3=>rq_of (z:=x.num + y.num) (d:=1) rfl rfl (g.le l3) RD.nil rfl⟩
 ·intro V1 l1
  refine (c_num_Den y _ (hy2.le l1)).mono ?_
  rintro r V2 l2 ⟨p1,n1,c1,rfl,g1⟩
  refine ⟨_,_,_,rfl,fun V3 l3=>(c_num_pos (g1.le l3)).mono ?_⟩
  rintro r V4 l4 ⟨p3,n3,c3,rfl,g3⟩
  have l04:=l1.trans (l2.trans (l3.trans l4))
  refine ⟨_,_,_,_,rfl,fun V5 l5=>(c_num_Mul x.num y.den (hx1.le (l04.trans l5)) (g3.le l5) (by omega)).mono ?_⟩
  rintro r V6 l6 ⟨p5,n5,c5,rfl,g5⟩
  have l06:=l04.trans (l5.trans l6)
  refine ⟨_,_,_,_,rfl,fun V7 l7=>(c_num_Den x _ (hx2.le (l06.trans l7))).mono ?_⟩
  rintro r V8 l8 ⟨p7,n7,c7,rfl,g7⟩
  have l08:=l06.trans (l7.trans l8)
  refine ⟨_,_,_,rfl,fun V9 l9=>(c_num_pos (g7.le l9)).mono ?_⟩
  rintro r V10 l10 ⟨p9,n9,c9,rfl,g9⟩
  have l10':=l08.trans (l9.trans l10)
  refine ⟨_,_,_,_,rfl,fun V11 l11=>(c_num_Mul y.num x.den (hy1.le (l10'.trans l11)) (g9.le l11) (by omega)).mono ?_⟩
  rintro r V12 l12 ⟨p11,n11,c11,rfl,g11⟩
  have l012:=l10'.trans (l11.trans l12)
  refine ⟨_,_,_,_,rfl,fun V13 l13=>(c_num_Add _ _ (g5.le (l7.trans (l8.trans (l9.trans (l10.trans (l11.trans (l12.trans l13))))))) (g11.le l13) (Nat.le_trans (digs_len_bits b1) (by omega)) (Nat.le_trans (digs_len_bits b2) (by omega))).mono ?_⟩
  rintro r V14 l14 ⟨p13,n13,c13,rfl,g13⟩
  have l014:=l012.trans (l13.trans l14)
  refine ⟨_,_,_,_,rfl,fun V15 l15=>(c_num_Den x _ (hx2.le (l014.trans l15))).mono ?_⟩
  rintro r V16 l16 ⟨p15,n15,c15,rfl,g15⟩
  have l016:=l014.trans (l15.trans l16)
  refine ⟨_,_,_,rfl,fun V17 l17=>(c_num_Den y _ (hy2.le (l016.trans l17))).mono ?_⟩
  rintro r V18 l18 ⟨p17,n17,c17,rfl,g17⟩
  refine ⟨_,_,_,rfl,fun V19 l19=>(c_num_Product (g15.le (l17.trans (l18.trans l19))) (g17.le l19) (by omega)).mono ?_⟩
  rintro r V20 l20 ⟨p19,n19,c19,rfl,g19⟩
  rw [val_digs,val_digs] at g19
  refine ⟨_,_,_,rfl,fun V21 l21=>(c_num_Frac _ (g13.le (l15.trans (l16.trans (l17.trans (l18.trans (l19.trans (l20.trans l21))))))) (g19.le l21) (Nat.le_trans (digs_len_bits b3) (by omega)) (Nat.le_trans (digs_len_bits b4) (by omega)) (Nat.mul_ne_zero x.den_nz y.den_nz)).mono ?_⟩
  rw [hxy]
  rintro r V22 l22 ⟨p21,n21,c21,p22,n22,c22,rfl,g21,g22⟩
  exact ⟨_,_,_,_,_,_,_,rfl,fun V23 l23=>⟨_,_,_,_,_,_,rfl,g21.le l23,g22.le l23⟩⟩
theorem c_num_Sub {V:View} {v w:Value} {x y:Rat} (hx:RQ V v x) (hy:RQ V w y) {k m:Nat} (hk:Sz k x) (hm:Sz m y) (hkm:k + m < 274877906944) :
  Acts prog 95 #[v,w] V fun r V'=>RQ V' r (x - y):=by
 have hx0:=hx
 obtain ⟨p,n,c,p',n',c',rfl,hx1,hx2⟩:=hx
 obtain ⟨q,i,e,q',i',e',rfl,hy1,hy2⟩:=hy
 refine vc_num_Sub _ p n c p' n' c' _ q i e q' i' e' V _ fun V1 l1=>(c_num_Opp y (hy1.le l1) (hy2.le l1)).mono ?_
 rintro r V2 l2 h2
 obtain ⟨p1,n1,c1,p2,n2,c2,rfl,g1,g2⟩:=id h2
 refine ⟨_,_,_,_,_,_,_,rfl,fun V3 l3=>(c_num_Plus (hx0.le (l1.trans (l2.trans l3))) (h2.le l3) hk hm.neg hkm).mono ?_⟩
 rw [← Rat.sub_eq_add_neg]
 rintro r V4 l4 ⟨p3,n3,c3,p4,n4,c4,rfl,g3,g4⟩
 exact ⟨_,_,_,_,_,_,_,rfl,fun V5 l5=>⟨_,_,_,_,_,_,rfl,g3.le l5,g4.le l5⟩⟩
theorem c_num_C {V:View} {v w:Value} {x y:Rat} (hx:RQ V v x) (hy:RQ V w y) {k m:Nat} (hk:Sz k x) (hm:Sz m y) (hkm:k + m < 274877906944) :
  Acts prog 129 #[v,w] V fun r V'=>r=.int .i64 (cmpQ x y):=by
 have hx0:=hx
 have hy0:=hy
 obtain ⟨p,n,c,p',n',c',rfl,hx1,hx2⟩:=hx
 obtain ⟨q,i,e,q',i',e',rfl,hy1,hy2⟩:=hy
 refine vc_num_C _ p n c p' n' c' _ q i e q' i' e' V _ fun V1 l1=>(c_num_Sub (hx0.le l1) (hy0.le l1) hk hm hkm).mono ?_
 rintro r V2 l2 ⟨p1,n1,c1,p2,n2,c2,rfl,g1,g2⟩
 refine ⟨_,_,_,_,_,_,_,rfl,fun V3 l3=>(c_num_S (x - y) (g1.le l3)).mono ?_⟩
 rintro r V4 l4 rfl
 exact ⟨_,rfl,fun V5 l5=>rfl⟩
theorem c_num_Times {V:View} {v w:Value} {x y:Rat} (hx:RQ V v x) (hy:RQ V w y) {k m:Nat} (hk:Sz k x) (hm:Sz m y) (hkm:k + m < 274877906944) :
  Acts prog 98 #[v,w] V fun r V'=>RQ V' r (x * y):=by
 obtain ⟨p,n,c,p',n',c',rfl,hx1,hx2⟩:=hx
 obtain ⟨q,i,e,q',i',e',rfl,hy1,hy2⟩:=hy
 have hlx:=dend_len hx2
 have hly:=dend_len hy2
 obtain ⟨d1,d2,d3⟩:=den_one_len hk
 obtain ⟨d4,d5,d6⟩:=den_one_len hm
 have hxy:x * y=mkRat (x.num * y.num) (x.den * y.den):=Rat.mul_def' x y
 have b1:(x.num * y.num).natAbs < 2 ^ (k + m):=by rw [Int.natAbs_mul]; exact pow_mul_lt hk.1 hm.1
 have b2:x.den * y.den < 2 ^ (k + m):=pow_mul_lt hk.2 hm.2
 refine (fun tail=>vc_num_Times _ p n c p' n' c' _ q i e q' i' e' V _ ⟨fun h0=>⟨fun h1 V1 l1=>?_,fun _=>tail⟩,fun _=>tail⟩) ?_
 ·clear tail
  have h0:x.den=1:=hlx.1 (by simp at h0; omega)
  have h1:y.den=1:=hly.1 (by simp at h1; omega)
  refine (c_num_Mul x.num y.num (hx1.le l1) (hy1.le l1) (by omega)).mono ?_
  rintro r V2 l2 ⟨p2,n2,c2,rfl,g⟩
  have e1:x * y=((x.num * y.num:Int):Rat):=by
   rw [hxy,h0,h1]; simp [Rat.mkRat_one]
  rw [e1]
  exact ⟨_,_,_,_,rfl,fun V3 l3=>rq_of (z:=x.num * y.num) (d:=1) rfl rfl (g.le l3) RD.nil rfl⟩
 ·intro V1 l1
  refine (c_num_Mul x.num y.num (hx1.le l1) (hy1.le l1) (by omega)).mono ?_
  rintro r V2 l2 ⟨p2,n2,c2,rfl,g2⟩
  refine ⟨_,_,_,_,rfl,fun V3 l3=>(c_num_Den x _ (hx2.le (l1.trans (l2.trans l3)))).mono ?_⟩
  rintro r V4 l4 ⟨p4,n4,c4,rfl,g4⟩
  refine ⟨_,_,_,rfl,fun V5 l5=>(c_num_Den y _ (hy2.le (l1.trans (l2.trans (l3.trans (l4.trans l5)))))).mono ?_⟩
  rintro r V6 l6 ⟨p6,n6,c6,rfl,g6⟩
  refine ⟨_,_,_,rfl,fun V7 l7=>(c_num_Product (g4.le (l5.trans (l6.trans l7))) (g6.le l7) (by omega)).mono ?_⟩
  rintro r V8 l8 ⟨p8,n8,c8,rfl,g8⟩
  rw [val_digs,val_digs] at g8
  refine ⟨_,_,_,rfl,fun V9 l9=>(c_num_Frac _ (g2.le (l3.trans (l4.trans (l5.trans (l6.trans (l7.trans (l8.trans l9))))))) (g8.le l9) (Nat.le_trans (digs_len_bits b1) (by omega)) (Nat.le_trans (digs_len_bits b2) (by omega)) (Nat.mul_ne_zero x.den_nz y.den_nz)).mono ?_⟩
  rw [hxy]
  rintro r V22 l22 ⟨p21,n21,c21,p22,n22,c22,rfl,g21,g22⟩
  exact ⟨_,_,_,_,_,_,_,rfl,fun V23 l23=>⟨_,_,_,_,_,_,rfl,g21.le l23,g22.le l23⟩⟩
end Go.Proofs.Tryz
/- By program: the conditions of the functions, from their loaded code. -/
namespace Go.Proofs.Tryz
open Go.Eng
open Go.Value renaming int→I,pointer→P,slice→S,agg→A,bool→B,tuple→T
open Go.IntKind renaming i64→J,u64→U,u32→W
set_option maxRecDepth 100000
theorem vc_ref01_ToN (e:OA) (a i:Nat) (V:View) (R:VR) (h:(∃b:List Value,V.sl e b/\b.length=a * 1/\((0 + a) * 4<=140737488355328/\0<=0/\0 * 1<=([]:List Value).length/\b.length=a * 1/\(∀k ∈ b,k.oneCell'=true)/\∀(l:Nat) (m:C->Value) (f:List Value) (c:Nat),0 + a<=c->c * 1<=(0 + a) * 1 + f.length->(∀d,V.Le d->∀g:Nat,(d.blk g (.cells (([]:List Value).take (0 * 1)++b++f).toArray 244 (0,0)))->R (S (some ⟨g,0,none⟩) (0 + a) c) d)))):
 Acts prog 105 #[S e a i] V R:=
 fd (LF:=LF0) (RF:=[1000007]) [] [] func105 h
theorem vc_ref01_ToI (a:Bool) (b:OA) (c d:Nat) (V:View) (R:VR) (h:(Ca V 105 #[S b c d] fun k l=>∃e f g,k=S e f g/\(Rt l R (A #[B a,S e f g])))):
 Acts prog 93 #[A #[B a,S b c d]] V R:=
 fd (LF:=LF0) (RF:=[1000007]) [] [] func93 h
theorem vc_ref01_SameN (f:OA) (b i:Nat) (g:OA) (e k:Nat) (V:View) (R:VR) (h:((((b:Int) != (e:Int))=true->(Rt V R (B false)))/\(((b:Int) != (e:Int))=false->(∃(l:Int->VP) (q:Int->Nat),(∃r:Int,(s7 f b i g e k (b:Int) (((0:Int)=r)))/\l r V)/\∀(a:Int) (d:View),V.Le d->l a d->(true=true/\(((decide (a < (b:Int)))=true->(f.isSome=true)/\(0<=a/\a < (b:Int))/\(∃m,(∃s,addrAdd f (a.toNat * 1)=some s/\d.at s (I W m))/\(g.isSome=true)/\(0<=a/\a < (e:Int))/\(∃n,(∃t,addrAdd g (a.toNat * 1)=some t/\d.at t (I W n))/\(((m != n)=true->(Rt d R (B false)))/\((m != n)=false->(∃o:Int,q o < q a/\(s7 f b i g e k (b:Int) (((J.wrap (a + (1:Int)))=o)))/\l o d))))))/\((decide (a < (b:Int)))=false->(Rt d R (B true))))))))):
 Acts prog 119 #[S f b i,S g e k] V R:=
 fd (LF:=LF0) (RF:=[1000007]) [(4,⟨Int,false,[0,1,12],[],fun x=>[(13,.c (.v (I J x)))],fun x=>[]⟩)] [] func119 h
theorem vc_ref01_SameI (a:Bool) (c:OA) (d e:Nat) (b:Bool) (f:OA) (g i:Nat) (V:View) (R:VR) (h:(((a == b)=true->(Ca V 119 #[S c d e,S f g i] fun n o=>∃k,n=B k/\(Rt o R (B k))))/\((a == b)=false->(Rt V R (B false))))):
 Acts prog 114 #[A #[B a,S c d e],A #[B b,S f g i]] V R:=
 fd (LF:=LF0) (RF:=[1000007]) [] [] func114 h
theorem vc_ref04_Xy (a b:Int) (V:View) (R:VR) (h:(Ca V 57 #[I J a] fun t u=>∃c,∃d e f,∃g i k,t=A #[B c,S d e f,S g i k]/\(Ca u 57 #[I J b] fun w x=>∃l,∃m n o,∃p q r,w=A #[B l,S m n o,S p q r]/\(Rt x R (A #[B c,S d e f,S g i k,B l,S m n o,S p q r]))))):
 Acts prog 115 #[I J a,I J b] V R:=
 fd (LF:=LF0) (RF:=[1000007]) [] [] func115 h
theorem vc_ref04_Add (i:Bool) (k:OA) (l m:Nat) (n:OA) (o p:Nat) (q:Bool) (r:OA) (s t:Nat) (u:OA) (w x:Nat) (a:Bool) (b:OA) (c d:Nat) (e:OA) (f g:Nat) (y:Bool) (z:OA) (a0 a1:Nat) (a2:OA) (a3 a4:Nat) (a5:Bool) (a6:OA) (a7 a8:Nat) (a9:OA) (b0 b1:Nat) (V:View) (R:VR) (h:(Ca V 98 #[A #[B a,S b c d,S e f g],A #[B y,S z a0 a1,S a2 a3 a4]] fun e1 e2=>∃b2,∃b3 b4 b5,∃b6 b7 b8,e1=A #[B b2,S b3 b4 b5,S b6 b7 b8]/\(Ca e2 80 #[A #[B i,S k l m,S n o p],A #[B b2,S b3 b4 b5,S b6 b7 b8]] fun e3 e4=>∃b9,∃c0 c1 c2,∃c3 c4 c5,e3=A #[B b9,S c0 c1 c2,S c3 c4 c5]/\(Ca e4 98 #[A #[B a,S b c d,S e f g],A #[B a5,S a6 a7 a8,S a9 b0 b1]] fun e5 e6=>∃c6,∃c7 c8 c9,∃d0 d1 d2,e5=A #[B c6,S c7 c8 c9,S d0 d1 d2]/\(Ca e6 80 #[A #[B q,S r s t,S u w x],A #[B c6,S c7 c8 c9,S d0 d1 d2]] fun e7 e8=>∃d3,∃d4 d5 d6,∃d7 d8 d9,e7=A #[B d3,S d4 d5 d6,S d7 d8 d9]/\(Rt e8 R (A #[B b9,S c0 c1 c2,S c3 c4 c5,B d3,S d4 d5 d6,S d7 d8 d9]))))))):
 Acts prog 56 #[A #[B i,S k l m,S n o p,B q,S r s t,S u w x],A #[B a,S b c d,S e f g],A #[B y,S z a0 a1,S a2 a3 a4,B a5,S a6 a7 a8,S a9 b0 b1]] V R:=
 fd (LF:=LF0) (RF:=[1000007]) [] [] func56 h
theorem vc_ref04_Sub (a:Bool) (b:OA) (c d:Nat) (e:OA) (f g:Nat) (i:Bool) (k:OA) (l m:Nat) (n:OA) (o p:Nat) (q:Bool) (r:OA) (s t:Nat) (u:OA) (w x:Nat) (y:Bool) (z:OA) (a0 a1:Nat) (a2:OA) (a3 a4:Nat) (V:View) (R:VR) (h:(Ca V 57 #[I J (-1)] fun c7 c8=>∃a5,∃a6 a7 a8,∃a9 b0 b1,c7=A #[B a5,S a6 a7 a8,S a9 b0 b1]/\(Ca c8 56 #[A #[B a,S b c d,S e f g,B i,S k l m,S n o p],A #[B a5,S a6 a7 a8,S a9 b0 b1],A #[B q,S r s t,S u w x,B y,S z a0 a1,S a2 a3 a4]] fun c9 d0=>∃b2,∃b3 b4 b5,∃b6 b7 b8,∃b9,∃c0 c1 c2,∃c3 c4 c5,c9=A #[B b2,S b3 b4 b5,S b6 b7 b8,B b9,S c0 c1 c2,S c3 c4 c5]/\(Rt d0 R (A #[B b2,S b3 b4 b5,S b6 b7 b8,B b9,S c0 c1 c2,S c3 c4 c5]))))):
 Acts prog 107 #[A #[B a,S b c d,S e f g,B i,S k l m,S n o p],A #[B q,S r s t,S u w x,B y,S z a0 a1,S a2 a3 a4]] V R:=
 fd (LF:=LF0) (RF:=[1000007]) [] [] func107 h
theorem vc_ref04_Same (b:Bool) (c:OA) (d e:Nat) (f:OA) (g i:Nat) (k:Bool) (l:OA) (m n:Nat) (o:OA) (p q:Nat) (r:Bool) (s:OA) (t u:Nat) (w:OA) (x y:Nat) (z:Bool) (a0:OA) (a1 a2:Nat) (a3:OA) (a4 a5:Nat) (V:View) (R:VR) (h:(Ca V 129 #[A #[B b,S c d e,S f g i],A #[B r,S s t u,S w x y]] fun b0 a6=>∃a,b0=I J a/\(((a == (0:Int))=true->(Ca a6 129 #[A #[B k,S l m n,S o p q],A #[B z,S a0 a1 a2,S a3 a4 a5]] fun b1 b2=>∃a7,b1=I J a7/\(Rt b2 R (B (a7 == (0:Int))))))/\((a == (0:Int))=false->(Rt a6 R (B false)))))):
 Acts prog 117 #[A #[B b,S c d e,S f g i,B k,S l m n,S o p q],A #[B r,S s t u,S w x y,B z,S a0 a1 a2,S a3 a4 a5]] V R:=
 fd (LF:=LF0) (RF:=[1000007]) [] [] func117 h
theorem vc_ref04_MakeL (p:Bool) (e:OA) (f g:Nat) (q:Bool) (i:OA) (k l:Nat) (r:Bool) (m:OA) (n o:Nat) (V:View) (R:VR) (h:(Ca V 133 #[S e f g,S i k l] fun b9 s=>∃t a u,b9=S t a u/\((((a:Int) == (0:Int))=true->(Rt s R (T #[A #[B false,S none 0 0,B false,S none 0 0,B false,S none 0 0],B false])))/\(((a:Int) == (0:Int))=false->(Ca s 133 #[S t a u,S m n o] fun c0 c1=>∃b c d,c0=S b c d/\(Ca c1 167 #[S e f g,S b c d] fun c2 c3=>∃x y z,∃c4 c5 c6,c2=T #[S x y z,S c4 c5 c6]/\(Ca c3 167 #[S i k l,S b c d] fun c7 c8=>∃a0 a1 a2,∃c9 d0 d1,c7=T #[S a0 a1 a2,S c9 d0 d1]/\(Ca c8 167 #[S m n o,S b c d] fun d2 d3=>∃a3 a4 a5,∃d4 d5 d6,d2=T #[S a3 a4 a5,S d4 d5 d6]/\(Ca d3 109 #[B p,S x y z] fun d7 d8=>∃a6,∃a7 a8 a9,d7=A #[B a6,S a7 a8 a9]/\(Ca d8 109 #[B q,S a0 a1 a2] fun d9 e0=>∃b0,∃b1 b2 b3,d9=A #[B b0,S b1 b2 b3]/\(Ca e0 109 #[B r,S a3 a4 a5] fun e1 e2=>∃b4,∃b5 b6 b7,e1=A #[B b4,S b5 b6 b7]/\(Rt e2 R (T #[A #[B a6,S a7 a8 a9,B b0,S b1 b2 b3,B b4,S b5 b6 b7],B true]))))))))))))):
 Acts prog 110 #[A #[B p,S e f g],A #[B q,S i k l],A #[B r,S m n o]] V R:=
 fd (LF:=LF0) (RF:=[1000007]) [] [] func110 h
theorem vc_ref04_Through (u:Bool) (w:OA) (x y:Nat) (z:OA) (a0 a1:Nat) (a2:Bool) (a3:OA) (a4 a5:Nat) (a6:OA) (a7 a8:Nat) (b6:Bool) (b7:OA) (b8 b9:Nat) (c0:OA) (c1 c2:Nat) (c3:Bool) (c4:OA) (c5 c6:Nat) (c7:OA) (c8 c9:Nat) (V:View) (R:VR) (h:(Ca V 107 #[A #[B b6,S b7 b8 b9,S c0 c1 c2,B c3,S c4 c5 c6,S c7 c8 c9],A #[B u,S w x y,S z a0 a1,B a2,S a3 a4 a5,S a6 a7 a8]] fun l9 m0=>∃a,∃b c d,∃e f g,∃d0,∃d1 d2 d3,∃d4 d5 d6,l9=A #[B a,S b c d,S e f g,B d0,S d1 d2 d3,S d4 d5 d6]/\(Ca m0 72 #[A #[B d0,S d1 d2 d3,S d4 d5 d6]] fun m1 m2=>∃i,∃k l m,∃n o p,m1=A #[B i,S k l m,S n o p]/\(Ca m2 98 #[A #[B i,S k l m,S n o p],A #[B u,S w x y,S z a0 a1]] fun m3 m4=>∃d7,∃d8 d9 e0,∃e1 e2 e3,m3=A #[B d7,S d8 d9 e0,S e1 e2 e3]/\(Ca m4 98 #[A #[B a,S b c d,S e f g],A #[B a2,S a3 a4 a5,S a6 a7 a8]] fun m5 m6=>∃e4,∃e5 e6 e7,∃e8 e9 f0,m5=A #[B e4,S e5 e6 e7,S e8 e9 f0]/\(Ca m6 80 #[A #[B d7,S d8 d9 e0,S e1 e2 e3],A #[B e4,S e5 e6 e7,S e8 e9 f0]] fun m7 m8=>∃f1,∃f2 f3 f4,∃f5 f6 f7,m7=A #[B f1,S f2 f3 f4,S f5 f6 f7]/\(Ca m8 72 #[A #[B f1,S f2 f3 f4,S f5 f6 f7]] fun m9 n0=>∃a9,∃b0 b1 b2,∃b3 b4 b5,m9=A #[B a9,S b0 b1 b2,S b3 b4 b5]/\(Ca n0 106 #[A #[B i,S k l m,S n o p]] fun n1 n2=>∃f8 f9 g0,n1=S f8 f9 g0/\(Ca n2 106 #[A #[B a,S b c d,S e f g]] fun n3 n4=>∃g1 g2 g3,n3=S g1 g2 g3/\(Ca n4 108 #[S f8 f9 g0,S g1 g2 g3] fun n5 n6=>∃g4 g5 g6,n5=S g4 g5 g6/\(Ca n6 106 #[A #[B a9,S b0 b1 b2,S b3 b4 b5]] fun n7 n8=>∃g7 g8 g9,n7=S g7 g8 g9/\(Ca n8 108 #[S g4 g5 g6,S g7 g8 g9] fun n9 o0=>∃i0 i1 i2,n9=S i0 i1 i2/\(Ca o0 109 #[B false,S i0 i1 i2] fun o1 o2=>∃q,∃r s t,o1=A #[B q,S r s t]/\(Ca o2 98 #[A #[B i,S k l m,S n o p],A #[B q,S r s t,S none 0 0]] fun o3 o4=>∃i3,∃i4 i5 i6,∃o5 o6 o7,o3=A #[B i3,S i4 i5 i6,S o5 o6 o7]/\(Ca o4 98 #[A #[B a,S b c d,S e f g],A #[B q,S r s t,S none 0 0]] fun o8 o9=>∃i7,∃i8 i9 k0,∃p0 p1 p2,o8=A #[B i7,S i8 i9 k0,S p0 p1 p2]/\(Ca o9 98 #[A #[B a9,S b0 b1 b2,S b3 b4 b5],A #[B q,S r s t,S none 0 0]] fun p3 p4=>∃k1,∃k2 k3 k4,∃p5 p6 p7,p3=A #[B k1,S k2 k3 k4,S p5 p6 p7]/\(Ca p4 110 #[A #[B i3,S i4 i5 i6],A #[B i7,S i8 i9 k0],A #[B k1,S k2 k3 k4]] fun p8 p9=>∃k5,∃k6 k7 k8,∃k9,∃l0 l1 l2,∃l3,∃l4 l5 l6,∃l7,p8=T #[A #[B k5,S k6 k7 k8,B k9,S l0 l1 l2,B l3,S l4 l5 l6],B l7]/\(Rt p9 R (T #[A #[B k5,S k6 k7 k8,B k9,S l0 l1 l2,B l3,S l4 l5 l6],B l7]))))))))))))))))))):
 Acts prog 51 #[A #[B u,S w x y,S z a0 a1,B a2,S a3 a4 a5,S a6 a7 a8],A #[B b6,S b7 b8 b9,S c0 c1 c2,B c3,S c4 c5 c6,S c7 c8 c9]] V R:=
 fd (LF:=LF0) (RF:=[1000007]) [] [] func51 h
theorem vc_ref04_ToL (a:Bool) (b:OA) (c d:Nat) (e:Bool) (f:OA) (g i:Nat) (k:Bool) (l:OA) (m n:Nat) (V:View) (R:VR) (h:(Ca V 93 #[A #[B a,S b c d]] fun a2 a3=>∃o,∃p q r,a2=A #[B o,S p q r]/\(Ca a3 93 #[A #[B e,S f g i]] fun a4 a5=>∃s,∃t u w,a4=A #[B s,S t u w]/\(Ca a5 93 #[A #[B k,S l m n]] fun a6 a7=>∃x,∃y z a0,a6=A #[B x,S y z a0]/\(Rt a7 R (A #[B o,S p q r,B s,S t u w,B x,S y z a0])))))):
 Acts prog 41 #[A #[B a,S b c d,B e,S f g i,B k,S l m n]] V R:=
 fd (LF:=LF0) (RF:=[1000007]) [] [] func41 h
theorem vc_ref04_SameL (c:Bool) (d:OA) (e f:Nat) (g:Bool) (i:OA) (k l:Nat) (m:Bool) (n:OA) (o p:Nat) (q:Bool) (r:OA) (s t:Nat) (u:Bool) (w:OA) (x y:Nat) (z:Bool) (a0:OA) (a1 a2:Nat) (V:View) (R:VR) (h:(Ca V 114 #[A #[B c,S d e f],A #[B q,S r s t]] fun a9 a3=>∃a,a9=B a/\((a=true->(Ca a3 114 #[A #[B g,S i k l],A #[B u,S w x y]] fun b0 a4=>∃b,b0=B b/\((b=true->(Ca a4 114 #[A #[B m,S n o p],A #[B z,S a0 a1 a2]] fun b1 b2=>∃a5,b1=B a5/\(Rt b2 R (B a5))))/\(b=false->(Rt a4 R (B false))))))/\(a=false->(Rt a3 R (B false)))))):
 Acts prog 54 #[A #[B c,S d e f,B g,S i k l,B m,S n o p],A #[B q,S r s t,B u,S w x y,B z,S a0 a1 a2]] V R:=
 fd (LF:=LF0) (RF:=[1000007]) [] [] func54 h
end Go.Proofs.Tryz
/- Contracts of the references 01 and 04: ToN, ToI, SameN, SameI, points. -/
namespace Go.Eng
open Go.Big
/-- A point of the reference. -/
def RP (V:View) (v:Value) (x y:Rat):Prop:=∃p n c p' n' c' q m e q' m' e',v=.agg #[.bool (decide (x.num < 0)),.slice p n c,.slice p' n' c',.bool (decide (y.num < 0)),.slice q m e,.slice q' m' e'] /\
 RQ V (.agg #[.bool (decide (x.num < 0)),.slice p n c,.slice p' n' c']) x/\RQ V (.agg #[.bool (decide (y.num < 0)),.slice q m e,.slice q' m' e']) y
theorem RP.le {V V':View} {v:Value} {x y:Rat} (h:RP V v x y) (l:V.Le V'):RP V' v x y:=by
 obtain ⟨p,n,c,p',n',c',q,m,e,q',m',e',rfl,h1,h2⟩:=h
 exact ⟨p,n,c,p',n',c',q,m,e,q',m',e',rfl,h1.le l,h2.le l⟩
theorem RQ.shape {V:View} {v:Value} {q:Rat} (h:RQ V v q):∃p n c p' n' c',v=.agg #[.bool (decide (q.num < 0)),.slice p n c,.slice p' n' c']:=by
 obtain ⟨p,n,c,p',n',c',e,-⟩:=h; exact ⟨_,_,_,_,_,_,e⟩
end Go.Eng
namespace Go.Proofs.Tryz
open Go.Eng Go.Big
theorem c_ref01_ToN {V:View} {p:OA} {n c:Nat} {ds:List Nat} (h:RD V p n c ds) (hm:ds.length<=1099511627776) :
  Acts prog 105 #[.slice p n c] V fun r V'=>∃p1 n1 c1,r=.slice p1 n1 c1/\RD V' p1 n1 c1 ds:=by
 have hl:=h.len
 refine vc_ref01_ToN p n c V _ ⟨u32s ds,h.sl,by simp [hl],by omega,by omega,by simp,by simp [hl],?_,?_⟩
 ·intro v hv
  simp only [u32s,List.mem_map] at hv
  obtain ⟨d,-,rfl⟩:=hv
  rfl
 ·intro bk J sp c' h1 h2 V1 l1 b hb
  refine ⟨_,_,_,rfl,?_⟩
  simp only [Nat.zero_add,Nat.zero_mul,List.take_zero,List.nil_append] at hb h1 ⊢
  exact copied h.dig hl h1 hb
theorem c_ref01_ToI {V:View} {v:Value} {z:Int} (h:RI V v z) (hm:(digs z.natAbs).length<=1099511627776) :
  Acts prog 93 #[v] V fun r V'=>RI V' r z:=by
 obtain ⟨p,n,c,rfl,h⟩:=h
 refine vc_ref01_ToI _ p n c V _ fun V1 l1=>(c_ref01_ToN (h.le l1) hm).mono ?_
 rintro r V2 l2 ⟨p1,n1,c1,rfl,g⟩
 exact ⟨_,_,_,rfl,fun V3 l3=>⟨_,_,_,rfl,g.le l3⟩⟩
theorem c_ref04_Xy {V:View} (x y:Int) (h0:-9223372036854775808<=x) (h1:x<=9223372036854775807) (h2:-9223372036854775808<=y) (h3:y<=9223372036854775807) :
  Acts prog 115 #[.int .i64 x,.int .i64 y] V fun r V'=>RP V' r (x:Rat) (y:Rat):=by
 refine vc_ref04_Xy x y V _ fun V1 l1=>(c_num_Of x h0 h1).mono ?_
 rintro r V2 l2 hx
 obtain ⟨p,n,c,p',n',c',rfl⟩:=hx.shape
 refine ⟨_,_,_,_,_,_,_,rfl,fun V3 l3=>(c_num_Of y h2 h3).mono ?_⟩
 rintro r V4 l4 hy
 obtain ⟨q,m,e,q',m',e',rfl⟩:=hy.shape
 exact ⟨_,_,_,_,_,_,_,rfl,fun V5 l5=>⟨_,_,_,_,_,_,_,_,_,_,_,_,rfl,hx.le (l3.trans (l4.trans l5)),hy.le l5⟩⟩
theorem c_ref04_Add {V:View} {u v w:Value} {px py c qx qy:Rat} (hp:RP V u px py) (hc:RQ V v c) (hq:RP V w qx qy) {k m:Nat} (s1:Sz k px) (s2:Sz k py) (s3:Sz m c) (s4:Sz m qx) (s5:Sz m qy) (hkm:k + (m + m + 1) < 274877906944) :
  Acts prog 56 #[u,v,w] V fun r V'=>RP V' r (px + c * qx) (py + c * qy):=by
 obtain ⟨p1,n1,c1,p2,n2,c2,p3,n3,c3,p4,n4,c4,rfl,hp1,hp2⟩:=hp
 obtain ⟨p5,n5,c5,p6,n6,c6,rfl⟩:=hc.shape
 obtain ⟨q1,m1,e1,q2,m2,e2,q3,m3,e3,q4,m4,e4,rfl,hq1,hq2⟩:=hq
 refine vc_ref04_Add _ p1 n1 c1 p2 n2 c2 _ p3 n3 c3 p4 n4 c4 _ p5 n5 c5 p6 n6 c6 _ q1 m1 e1 q2 m2 e2 _ q3 m3 e3 q4 m4 e4 V _ fun V1 l1=>(c_num_Times (hc.le l1) (hq1.le l1) s3 s4 (by omega)).mono ?_
 rintro r V2 l2 g1
 obtain ⟨a1,a2,a3,a4,a5,a6,rfl⟩:=g1.shape
 refine ⟨_,_,_,_,_,_,_,rfl,fun V3 l3=>(c_num_Plus (hp1.le (l1.trans (l2.trans l3))) (g1.le l3) s1 (s3.mul s4) (by omega)).mono ?_⟩
 rintro r V4 l4 g2
 obtain ⟨b1,b2,b3,b4,b5,b6,rfl⟩:=g2.shape
 have l04:=l1.trans (l2.trans (l3.trans l4))
 refine ⟨_,_,_,_,_,_,_,rfl,fun V5 l5=>(c_num_Times (hc.le (l04.trans l5)) (hq2.le (l04.trans l5)) s3 s5 (by omega)).mono ?_⟩
 rintro r V6 l6 g3
 obtain ⟨d1,d2,d3,d4,d5,d6,rfl⟩:=g3.shape
 refine ⟨_,_,_,_,_,_,_,rfl,fun V7 l7=>(c_num_Plus (hp2.le (l04.trans (l5.trans (l6.trans l7)))) (g3.le l7) s2 (s3.mul s5) (by omega)).mono ?_⟩
 rintro r V8 l8 g4
 obtain ⟨f1,f2,f3,f4,f5,f6,rfl⟩:=g4.shape
 exact ⟨_,_,_,_,_,_,_,rfl,fun V9 l9=>⟨_,_,_,_,_,_,_,_,_,_,_,_,rfl,g2.le (l5.trans (l6.trans (l7.trans (l8.trans l9)))),g4.le l9⟩⟩
theorem sz_neg1:Sz 1 ((-1:Int):Rat):=by unfold Sz; decide
theorem c_ref04_Sub {V:View} {u w:Value} {px py qx qy:Rat} (hp:RP V u px py) (hq:RP V w qx qy) {k m:Nat} (s1:Sz k px) (s2:Sz k py) (s4:Sz m qx) (s5:Sz m qy) (hm:1<=m) (hkm:k + (m + m + 1) < 274877906944) :
  Acts prog 107 #[u,w] V fun r V'=>RP V' r (px - qx) (py - qy):=by
 have hp0:=hp
 have hq0:=hq
 obtain ⟨p1,n1,c1,p2,n2,c2,p3,n3,c3,p4,n4,c4,rfl,-,-⟩:=hp
 obtain ⟨q1,m1,e1,q2,m2,e2,q3,m3,e3,q4,m4,e4,rfl,-,-⟩:=hq
 refine vc_ref04_Sub _ p1 n1 c1 p2 n2 c2 _ p3 n3 c3 p4 n4 c4 _ q1 m1 e1 q2 m2 e2 _ q3 m3 e3 q4 m4 e4 V _ fun V1 l1=>(c_num_Of (-1) (by omega) (by omega)).mono ?_
 rintro r V2 l2 g1
 obtain ⟨a1,a2,a3,a4,a5,a6,rfl⟩:=g1.shape
 have l02:=l1.trans l2
 refine ⟨_,_,_,_,_,_,_,rfl,fun V3 l3=>(c_ref04_Add (hp0.le (l02.trans l3)) (g1.le l3) (hq0.le (l02.trans l3)) s1 s2 (sz_neg1.mono hm) s4 s5 hkm).mono ?_⟩
 have e1:∀a b:Rat,a + ((-1:Int):Rat) * b=a - b:=by
  intro a b
  have:((-1:Int):Rat)=-1:=rfl
  rw [this,Rat.neg_mul,Rat.one_mul,Rat.sub_eq_add_neg]
 rw [e1,e1]
 rintro r V4 l4 ⟨b1,b2,b3,b4,b5,b6,b7,b8,b9,b10,b11,b12,rfl,g2,g3⟩
 exact ⟨_,_,_,_,_,_,_,_,_,_,_,_,_,_,rfl,fun V5 l5=>⟨_,_,_,_,_,_,_,_,_,_,_,_,rfl,g2.le l5,g3.le l5⟩⟩
theorem c_ref04_Same {V:View} {u w:Value} {px py qx qy:Rat} (hp:RP V u px py) (hq:RP V w qx qy) {k m:Nat} (s1:Sz k px) (s2:Sz k py) (s4:Sz m qx) (s5:Sz m qy) (hkm:k + m < 274877906944) :
  Acts prog 117 #[u,w] V fun r V'=>r=.bool (decide (px=qx/\py=qy)):=by
 obtain ⟨p1,n1,c1,p2,n2,c2,p3,n3,c3,p4,n4,c4,rfl,hp1,hp2⟩:=hp
 obtain ⟨q1,m1,e1,q2,m2,e2,q3,m3,e3,q4,m4,e4,rfl,hq1,hq2⟩:=hq
 refine vc_ref04_Same _ p1 n1 c1 p2 n2 c2 _ p3 n3 c3 p4 n4 c4 _ q1 m1 e1 q2 m2 e2 _ q3 m3 e3 q4 m4 e4 V _ fun V1 l1=>(c_num_C (hp1.le l1) (hq1.le l1) s1 s4 hkm).mono ?_
 rintro r V2 l2 rfl
 refine ⟨_,rfl,fun h0 V3 l3=>(c_num_C (hp2.le (l1.trans (l2.trans l3))) (hq2.le (l1.trans (l2.trans l3))) s2 s5 hkm).mono ?_,fun h0 V3 l3=>?_⟩
 ·have h0:px=qx:=cmpQ_eq.2 (by simpa using h0)
  rintro r V4 l4 rfl
  refine ⟨_,rfl,fun V5 l5=>?_⟩
  congr 1
  rw [Bool.eq_iff_iff,decide_eq_true_eq,beq_iff_eq,← cmpQ_eq]
  exact ⟨fun h=>⟨h0,h⟩,fun h=>h.2⟩
 ·have h0:¬ px=qx:=fun e=>by rw [cmpQ_eq.1 e] at h0; simp at h0
  rw [decide_eq_false fun h=>h0 h.1]
end Go.Proofs.Tryz
/- Contracts of the references 01 and 04: SameN, SameI, lines. -/
namespace Go.Eng
open Go.Big
/-- A line with integer coefficients, of the reference or of package api. -/
def RL (V:View) (v:Value) (a b c:Int):Prop:=∃p n s p' n' s' q m e,v=.agg #[.bool (decide (a < 0)),.slice p n s,.bool (decide (b < 0)),.slice p' n' s',.bool (decide (c < 0)),.slice q m e] /\
 RD V p n s (digs a.natAbs)/\RD V p' n' s' (digs b.natAbs)/\RD V q m e (digs c.natAbs)
theorem RL.le {V V':View} {v:Value} {a b c:Int} (h:RL V v a b c) (l:V.Le V'):RL V' v a b c:=by
 obtain ⟨p,n,s,p',n',s',q,m,e,rfl,h1,h2,h3⟩:=h
 exact ⟨p,n,s,p',n',s',q,m,e,rfl,h1.le l,h2.le l,h3.le l⟩
end Go.Eng
namespace Go.Proofs.Tryz
open Go.Eng Go.Big
theorem c_ref01_SameN {V:View} {p q:OA} {n c m e:Nat} {xs ys:List Nat} (hx:RD V p n c xs) (hy:RD V q m e ys) (hm:xs.length<=1099511627776) :
  Acts prog 119 #[.slice p n c,.slice q m e] V fun r V'=>r=.bool (decide (xs=ys)):=by
 have hlx:=hx.len
 have hly:=hy.len
 refine vc_ref01_SameN p n c q m e V _ ⟨fun h0 V1 l1=>?_,fun h0=>?_⟩
 ·have h0:n≠m:=by simp at h0; omega
  rw [decide_eq_false fun h=>h0 (by rw [hlx,hly,h])]
 ·have h0:n=m:=by simp at h0; omega
  refine ⟨fun z V'=>0<=z/\z<=n/\xs.take z.toNat=ys.take z.toNat,fun z=>n - z.toNat,⟨0,by (try dsimp only); and_intros <;> first | exact True.intro | rfl,by (try dsimp only); omega,by (try dsimp only); omega,rfl⟩,?_⟩
  rintro i V2 l2 ⟨hi0,hi1,ht⟩
  dsimp only at hi1 ht ⊢
  obtain ⟨i,rfl⟩:=Int.eq_ofNat_of_zero_le hi0
  simp only [Int.toNat_natCast] at ht
  refine ⟨by trivial,fun h3=>?_,fun h3 V4 l4=>?_⟩
  ·have h3:i < n:=by simpa using h3
   refine (hx.le l2).rd i rfl (by omega) ((hy.le l2).rd i rfl (by omega) ⟨fun h4 V8 l8=>?_,fun h4=>?_⟩)
   ·have h4:xs[i]≠ys[i]:=by simp at h4; omega
    rw [decide_eq_false fun h=>h4 (by subst h; rfl)]
   ·have h4:xs[i]=ys[i]:=by simp at h4; omega
    have w:i64.wrap ((i:Int) + 1)=((i + 1:Nat):Int):=by rw [i64w (by omega)]; omega
    simp only [w]
    refine ⟨((i + 1:Nat):Int),?_,by (try dsimp only); and_intros <;> first | exact True.intro | rfl,by (try dsimp only); omega,by (try dsimp only); omega,?_⟩
    ·(try dsimp only); omega
    ·(try dsimp only)
     simp only [Int.toNat_natCast]
     rw [List.take_succ_eq_append_getElem (by omega),List.take_succ_eq_append_getElem (l:=ys) (by omega),ht,h4]
  ·have h3:i=n:=by simp at h3; omega
   rw [List.take_of_length_le (by omega),List.take_of_length_le (by omega)] at ht
   rw [decide_eq_true ht]
theorem same_int {z w:Int}:(decide (z < 0) == decide (w < 0))=true->(decide (digs z.natAbs=digs w.natAbs)=decide (z=w)):=by
 intro h
 have h1:(z < 0↔w < 0):=by simpa using h
 rw [Bool.eq_iff_iff,decide_eq_true_eq,decide_eq_true_eq]
 constructor
 ·intro h2
  have:=digs_inj h2
  omega
 ·intro h2; rw [h2]
theorem c_ref01_SameI {V:View} {z w:Int} {p q:OA} {n c m e:Nat} (hx:RD V p n c (digs z.natAbs)) (hy:RD V q m e (digs w.natAbs)) (hm:(digs z.natAbs).length<=1099511627776) :
  Acts prog 114 #[.agg #[.bool (decide (z < 0)),.slice p n c],.agg #[.bool (decide (w < 0)),.slice q m e]] V fun r V'=>r=.bool (decide (z=w)):=by
 refine vc_ref01_SameI _ p n c _ q m e V _ ⟨fun h0 V1 l1=>(c_ref01_SameN (hx.le l1) (hy.le l1) hm).mono ?_,fun h0 V1 l1=>?_⟩
 ·rintro r V2 l2 rfl
  refine ⟨_,rfl,fun V3 l3=>?_⟩
  rw [same_int h0]
 ·rw [decide_eq_false fun h=>by subst h; simp at h0]
theorem c_ref04_SameL {V:View} {v w:Value} {a b c a' b' c':Int} (hx:RL V v a b c) (hy:RL V w a' b' c') (h1:(digs a.natAbs).length<=1099511627776) (h2:(digs b.natAbs).length<=1099511627776) (h3:(digs c.natAbs).length<=1099511627776) :
  Acts prog 54 #[v,w] V fun r V'=>r=.bool (decide (a=a'/\b=b'/\c=c')):=by
 obtain ⟨p,n,s,p',n',s',q,m,e,rfl,x1,x2,x3⟩:=hx
 obtain ⟨i,j,k,i',j',k',i2,j2,k2,rfl,y1,y2,y3⟩:=hy
 refine vc_ref04_SameL _ p n s _ p' n' s' _ q m e _ i j k _ i' j' k' _ i2 j2 k2 V _ fun V1 l1=>(c_ref01_SameI (x1.le l1) (y1.le l1) h1).mono ?_
 rintro r V2 l2 rfl
 refine ⟨_,rfl,fun g1 V3 l3=>(c_ref01_SameI (x2.le (l1.trans (l2.trans l3))) (y2.le (l1.trans (l2.trans l3))) h2).mono ?_,fun g1 V9 l9=>?_⟩
 ·rintro r V4 l4 rfl
  rw [decide_eq_true_eq] at g1
  refine ⟨_,rfl,fun g2 V5 l5=>(c_ref01_SameI (x3.le (l1.trans (l2.trans (l3.trans (l4.trans l5))))) (y3.le (l1.trans (l2.trans (l3.trans (l4.trans l5))))) h3).mono ?_,fun g2 V8 l8=>?_⟩
  ·rintro r V6 l6 rfl
   rw [decide_eq_true_eq] at g2
   refine ⟨_,rfl,fun V7 l7=>?_⟩
   congr 1
   rw [Bool.eq_iff_iff,decide_eq_true_eq,decide_eq_true_eq]
   exact ⟨fun h=>⟨g1,g2,h⟩,fun h=>h.2.2⟩
  ·rw [decide_eq_false_iff_not] at g2
   rw [decide_eq_false fun h=>g2 h.2.1]
 ·rw [decide_eq_false_iff_not] at g1
  rw [decide_eq_false fun h=>g1 h.1]
theorem c_ref04_ToL {V:View} {v:Value} {a b c:Int} (hx:RL V v a b c) (h1:(digs a.natAbs).length<=1099511627776) (h2:(digs b.natAbs).length<=1099511627776) (h3:(digs c.natAbs).length<=1099511627776) :
  Acts prog 41 #[v] V fun r V'=>RL V' r a b c:=by
 obtain ⟨p,n,s,p',n',s',q,m,e,rfl,x1,x2,x3⟩:=hx
 refine vc_ref04_ToL _ p n s _ p' n' s' _ q m e V _ fun V1 l1=>(c_ref01_ToI ⟨_,_,_,rfl,x1.le l1⟩ h1).mono ?_
 rintro r V2 l2 ⟨p1,n1,c1,rfl,g1⟩
 refine ⟨_,_,_,_,rfl,fun V3 l3=>(c_ref01_ToI ⟨_,_,_,rfl,x2.le (l1.trans (l2.trans l3))⟩ h2).mono ?_⟩
 rintro r V4 l4 ⟨p2,n2,c2,rfl,g2⟩
 refine ⟨_,_,_,_,rfl,fun V5 l5=>(c_ref01_ToI ⟨_,_,_,rfl,x3.le (l1.trans (l2.trans (l3.trans (l4.trans l5))))⟩ h3).mono ?_⟩
 rintro r V6 l6 ⟨p3,n3,c3,rfl,g3⟩
 exact ⟨_,_,_,_,rfl,fun V7 l7=>⟨_,_,_,_,_,_,_,_,_,rfl,g1.le (l3.trans (l4.trans (l5.trans (l6.trans l7)))),g2.le (l5.trans (l6.trans l7)),g3.le l7⟩⟩
end Go.Proofs.Tryz
/- Contracts of the reference 04: MakeL. -/
namespace Go.Proofs.Tryz
open Go.Eng Go.Big
theorem div_sign {z:Int} {g:Nat} (hg:0 < g) (hd:g ∣ z.natAbs):(if decide (z < 0)=true then -((z.natAbs / g:Nat):Int) else ((z.natAbs / g:Nat):Int))=z / (g:Int):=by
 obtain ⟨k,hk⟩:=hd
 have hk1:z.natAbs / g=k:=by rw [hk,Nat.mul_div_cancel_left _ hg]
 rw [hk1]
 have hz:z=(g:Int) * (if decide (z < 0)=true then -(k:Int) else k):=by
  split
  ·rename_i h
   rw [decide_eq_true_eq] at h
   rw [Int.mul_neg,← Int.natCast_mul,← hk]; omega
  ·rename_i h
   rw [decide_eq_true_eq] at h
   rw [← Int.natCast_mul,← hk]; omega
 generalize (if decide (z < 0)=true then -(k:Int) else k)=t at *
 rw [hz,Int.mul_ediv_cancel_left _ (by omega)]
/-- The greatest common divisor of three coefficients. -/
def gcd3 (a b c:Int):Nat:=Nat.gcd (Nat.gcd a.natAbs b.natAbs) c.natAbs
theorem c_ref04_MakeL {V:View} {u v w:Value} {a b c:Int} (ha:RI V u a) (hb:RI V v b) (hc:RI V w c) (h1:(digs a.natAbs).length<=274877906944) (h2:(digs b.natAbs).length<=274877906944) (h3:(digs c.natAbs).length<=274877906944) :
  Acts prog 110 #[u,v,w] V fun r V'=>(a=0/\b=0->∃l,r=.tuple #[l,.bool false]/\RL V' l 0 0 0) /\
   (¬ (a=0/\b=0)->∃l,r=.tuple #[l,.bool true]/\RL V' l (a / (gcd3 a b c:Int)) (b / (gcd3 a b c:Int)) (c / (gcd3 a b c:Int))):=by
 obtain ⟨p,n,s,rfl,ha⟩:=ha
 obtain ⟨p',n',s',rfl,hb⟩:=hb
 obtain ⟨q,m,e,rfl,hc⟩:=hc
 refine vc_ref04_MakeL _ p n s _ p' n' s' _ q m e V _ fun V1 l1=>(c_num_Common (ha.le l1) (hb.le l1) h1 h2).mono ?_
 rintro r V2 l2 ⟨p1,n1,c1,rfl,g1⟩
 have hp:=len_pos_digs g1.len
 have hab:Nat.gcd a.natAbs b.natAbs=0↔a=0/\b=0:=by rw [Nat.gcd_eq_zero_iff]; omega
 refine ⟨_,_,_,rfl,fun h0 V3 l3=>⟨fun _=>⟨_,rfl,_,_,_,_,_,_,_,_,_,rfl,RD.nil,RD.nil,RD.nil⟩,fun h=>?_⟩,fun h0 V4 l4=>?_⟩
 ·exact absurd (hab.1 (by simp at h0; omega)) h
 have hne:¬ (a=0/\b=0):=fun h=>by have:=hab.2 h; simp at h0; omega
 have hg0:0 < Nat.gcd a.natAbs b.natAbs:=by have:=hab; omega
 have hgl:(digs (Nat.gcd a.natAbs b.natAbs)).length<=274877906944:=by
  rcases Nat.eq_zero_or_pos a.natAbs with h | h
  ·rw [h,Nat.gcd_zero_left]; exact h2
  ·exact Nat.le_trans (digs_len_mono (Nat.gcd_le_left _ h)) h1
 refine (c_num_Common (g1.le l4) (hc.le (l1.trans (l2.trans l4))) hgl h3).mono ?_
 rintro r V5 l5 ⟨p2,n2,c2,rfl,g2⟩
 have l05:=l1.trans (l2.trans (l4.trans l5))
 have e3:Nat.gcd (Nat.gcd a.natAbs b.natAbs) c.natAbs=gcd3 a b c:=rfl
 have hG0:0 < gcd3 a b c:=Nat.gcd_pos_of_pos_left _ hg0
 have hGl:(digs (gcd3 a b c)).length<=274877906944:=Nat.le_trans (digs_len_mono (Nat.gcd_le_left _ hg0)) hgl
 have da:gcd3 a b c ∣ a.natAbs:=Nat.dvd_trans (Nat.gcd_dvd_left _ _) (Nat.gcd_dvd_left _ _)
 have db:gcd3 a b c ∣ b.natAbs:=Nat.dvd_trans (Nat.gcd_dvd_left _ _) (Nat.gcd_dvd_right _ _)
 have dc:gcd3 a b c ∣ c.natAbs:=Nat.gcd_dvd_right _ _
 have sa:=div_sign hG0 da
 have sb:=div_sign hG0 db
 have sc:=div_sign hG0 dc
 rw [e3] at g2
 generalize gcd3 a b c=G at *
 refine ⟨_,_,_,rfl,fun V6 l6=>(c_num_Divide (ha.le (l05.trans l6)) (g2.le l6) h1 hGl hG0).mono ?_⟩
 rintro r V7 l7 ⟨p3,n3,c3,p4,n4,c4,rfl,g3,-⟩
 have l07:=l6.trans l7
 refine ⟨_,_,_,_,_,_,rfl,fun V8 l8=>(c_num_Divide (hb.le (l05.trans (l07.trans l8))) (g2.le (l07.trans l8)) h2 hGl hG0).mono ?_⟩
 rintro r V9 l9 ⟨p5,n5,c5,p6,n6,c6,rfl,g5,-⟩
 have l09:=l07.trans (l8.trans l9)
 refine ⟨_,_,_,_,_,_,rfl,fun V10 l10=>(c_num_Divide (hc.le (l05.trans (l09.trans l10))) (g2.le (l09.trans l10)) h3 hGl hG0).mono ?_⟩
 rintro r V11 l11 ⟨p7,n7,c7,p8,n8,c8,rfl,g7,-⟩
 refine ⟨_,_,_,_,_,_,rfl,fun V12 l12=>(c_num_Make _ (g3.le (l8.trans (l9.trans (l10.trans (l11.trans l12)))))).mono ?_⟩
 rw [sa]
 rintro r V13 l13 ⟨p9,n9,c9,rfl,g9⟩
 refine ⟨_,_,_,_,rfl,fun V14 l14=>(c_num_Make _ (g5.le (l10.trans (l11.trans (l12.trans (l13.trans l14)))))).mono ?_⟩
 rw [sb]
 rintro r V15 l15 ⟨p10,n10,c10,rfl,g10⟩
 refine ⟨_,_,_,_,rfl,fun V16 l16=>(c_num_Make _ (g7.le (l12.trans (l13.trans (l14.trans (l15.trans l16)))))).mono ?_⟩
 rw [sc]
 rintro r V17 l17 ⟨p11,n11,c11,rfl,g11⟩
 refine ⟨_,_,_,_,rfl,fun V18 l18=>⟨fun h=>absurd h hne,fun _=>⟨_,rfl,_,_,_,_,_,_,_,_,_,rfl,?_,?_,?_⟩⟩⟩
 ·exact g9.le (l14.trans (l15.trans (l16.trans (l17.trans l18))))
 ·exact g10.le (l16.trans (l17.trans l18))
 ·exact g11.le l18
end Go.Proofs.Tryz
