/- A part of the proof (joined by program from: VNumQ, VInt, IntA, VFrac). -/
import Derived.Test.YtimkdinmcbepnaaGreatDoorT5
import Derived.Test.YtimkdinmcbepnaaGreatDoorT9
set_option linter.unusedVariables false
open Go.IntKind (i64 u64 u32)
/- By program: the conditions of the functions, from their loaded code. -/
namespace Go.Proofs.Tryz
open Go.Eng
open Go.Value renaming int→I,pointer→P,slice→S,agg→A,bool→B,tuple→T
open Go.IntKind renaming i64→J,u64→U,u32→W
set_option maxRecDepth 100000
theorem vc_num_Make (b:Bool) (c:OA) (a d:Nat) (V:View) (R:VR) (h:((b=true->(Rt V R (A #[B (decide ((a:Int) > (0:Int))),S c a d])))/\(b=false->(Rt V R (A #[B false,S c a d]))))):
 Acts prog 82 #[B b,S c a d] V R:=
 fd (LF:=LF0) (RF:=[1000010]) [] [] func82 h
theorem vc_num_Int (a:Int) (V:View) (R:VR) (h:(((decide (a < (0:Int)))=true->(Ca V 92 #[I U (U.wrap (0 - (U.wrap a)))] fun t u=>∃b c d,t=S b c d/\(Ca u 82 #[B true,S b c d] fun w x=>∃e,∃f g i,w=A #[B e,S f g i]/\(Rt x R (A #[B e,S f g i])))))/\((decide (a < (0:Int)))=false->(Ca V 92 #[I U (U.wrap a)] fun y z=>∃l m n,y=S l m n/\(Ca z 82 #[B false,S l m n] fun a0 a1=>∃o,∃p q r,a0=A #[B o,S p q r]/\(Rt a1 R (A #[B o,S p q r]))))))):
 Acts prog 69 #[I J a] V R:=
 fd (LF:=LF0) (RF:=[1000010]) [] [] func69 h
theorem vc_num_Sign (a:Bool) (f:OA) (b g:Nat) (V:View) (R:VR) (h:((((b:Int) == (0:Int))=true->(Rt V R (I J 0)))/\(((b:Int) == (0:Int))=false->((a=true->(Rt V R (I J (-1))))/\(a=false->(Rt V R (I J 1))))))):
 Acts prog 143 #[A #[B a,S f b g]] V R:=
 fd (LF:=LF0) (RF:=[1000010]) [] [] func143 h
theorem vc_num_Minus (a:Bool) (b:OA) (c d:Nat) (V:View) (R:VR) (h:(Ca V 82 #[B (!a),S b c d] fun l m=>∃e,∃f g i,l=A #[B e,S f g i]/\(Rt m R (A #[B e,S f g i])))):
 Acts prog 198 #[A #[B a,S b c d]] V R:=
 fd (LF:=LF0) (RF:=[1000010]) [] [] func198 h
theorem vc_num_Add (a:Bool) (b:OA) (c d:Nat) (i:Bool) (e:OA) (f g:Nat) (V:View) (R:VR) (h:(((a == i)=true->(Ca V 145 #[S b c d,S e f g] fun b1 b2=>∃l m n,b1=S l m n/\(Ca b2 82 #[B a,S l m n] fun b3 b4=>∃o,∃p q r,b3=A #[B o,S p q r]/\(Rt b4 R (A #[B o,S p q r])))))/\((a == i)=false->(Ca V 146 #[S b c d,S e f g] fun b5 t=>∃k,b5=I J k/\(((decide (k < (0:Int)))=true->(Ca t 147 #[S e f g,S b c d] fun b6 b7=>∃u w x,b6=S u w x/\(Ca b7 82 #[B i,S u w x] fun b8 b9=>∃y,∃z a0 a1,b8=A #[B y,S z a0 a1]/\(Rt b9 R (A #[B y,S z a0 a1])))))/\((decide (k < (0:Int)))=false->(Ca t 147 #[S b c d,S e f g] fun c0 c1=>∃a3 a4 a5,c0=S a3 a4 a5/\(Ca c1 82 #[B a,S a3 a4 a5] fun c2 c3=>∃a6,∃a7 a8 a9,c2=A #[B a6,S a7 a8 a9]/\(Rt c3 R (A #[B a6,S a7 a8 a9])))))))))):
 Acts prog 79 #[A #[B a,S b c d],A #[B i,S e f g]] V R:=
 fd (LF:=LF0) (RF:=[1000010]) [] [] func79 h
theorem vc_num_Mul (a:Bool) (b:OA) (c d:Nat) (e:Bool) (f:OA) (g i:Nat) (V:View) (R:VR) (h:(Ca V 84 #[S b c d,S f g i] fun s t=>∃k l m,s=S k l m/\(Ca t 82 #[B (!(a == e)),S k l m] fun u w=>∃n,∃o p q,u=A #[B n,S o p q]/\(Rt w R (A #[B n,S o p q]))))):
 Acts prog 81 #[A #[B a,S b c d],A #[B e,S f g i]] V R:=
 fd (LF:=LF0) (RF:=[1000010]) [] [] func81 h
theorem vc_num_Compare (a:Bool) (b:OA) (c d:Nat) (e:Bool) (f:OA) (g i:Nat) (V:View) (R:VR) (h:(Ca V 198 #[A #[B e,S f g i]] fun u w=>∃k,∃l m n,u=A #[B k,S l m n]/\(Ca w 79 #[A #[B a,S b c d],A #[B k,S l m n]] fun x y=>∃o,∃p q r,x=A #[B o,S p q r]/\(Ca y 143 #[A #[B o,S p q r]] fun z a0=>∃s,z=I J s/\(Rt a0 R (I J s)))))):
 Acts prog 221 #[A #[B a,S b c d],A #[B e,S f g i]] V R:=
 fd (LF:=LF0) (RF:=[1000010]) [] [] func221 h
theorem vc_num_Den (k:Bool) (l:OA) (m n:Nat) (b:OA) (a c:Nat) (V:View) (R:VR) (h:((((a:Int) == (0:Int))=true->(Ca V 149 #[] fun o p=>∃d e f,o=S d e f/\(Rt p R (S d e f))))/\(((a:Int) == (0:Int))=false->(Rt V R (S b a c))))):
 Acts prog 83 #[A #[B k,S l m n,S b a c]] V R:=
 fd (LF:=LF0) (RF:=[1000010]) [] [] func83 h
theorem vc_num_Frac (g:Bool) (a:OA) (b c:Nat) (d:OA) (e f:Nat) (V:View) (R:VR) (h:(Ca V 148 #[S a b c,S d e f] fun b6 b7=>∃i k l,b6=S i k l/\(Ca b7 149 #[] fun b8 b9=>∃x y z,b8=S x y z/\(Ca b9 146 #[S i k l,S x y z] fun c0 a0=>∃m,c0=I J m/\(((m != (0:Int))=true->(Ca a0 150 #[S a b c,S i k l] fun c1 c2=>∃a1 a2 a3,∃c3 c4 c5,c1=T #[S a1 a2 a3,S c3 c4 c5]/\(Ca c2 82 #[B g,S a1 a2 a3] fun c6 c7=>∃n,∃o p q,c6=A #[B n,S o p q]/\(Ca c7 150 #[S d e f,S i k l] fun c8 c9=>∃r s t,∃d0 d1 d2,c8=T #[S r s t,S d0 d1 d2]/\(Ca c9 149 #[] fun d3 d4=>∃a4 a5 a6,d3=S a4 a5 a6/\(Ca d4 146 #[S r s t,S a4 a5 a6] fun d5 a7=>∃u,d5=I J u/\(((u == (0:Int))=true->(Rt a7 R (A #[B n,S o p q,S none 0 0])))/\((u == (0:Int))=false->(Rt a7 R (A #[B n,S o p q,S r s t]))))))))))/\((m != (0:Int))=false->(Ca a0 149 #[] fun d6 d7=>∃b0 b1 b2,d6=S b0 b1 b2/\(Ca d7 146 #[S d e f,S b0 b1 b2] fun d8 b3=>∃w,d8=I J w/\(((w == (0:Int))=true->(Rt b3 R (A #[B g,S a b c,S none 0 0])))/\((w == (0:Int))=false->(Rt b3 R (A #[B g,S a b c,S d e f])))))))))))):
 Acts prog 80 #[A #[B g,S a b c],S d e f] V R:=
 fd (LF:=LF0) (RF:=[1000010]) [] [] func80 h
theorem vc_num_Of (a:Int) (V:View) (R:VR) (h:(Ca V 69 #[I J a] fun g i=>∃b,∃c d e,g=A #[B b,S c d e]/\(Rt i R (A #[B b,S c d e,S none 0 0])))):
 Acts prog 19 #[I J a] V R:=
 fd (LF:=LF0) (RF:=[1000010]) [] [] func19 h
theorem vc_num_S (a:Bool) (b:OA) (c d:Nat) (g:OA) (i k:Nat) (V:View) (R:VR) (h:(Ca V 143 #[A #[B a,S b c d]] fun l m=>∃e,l=I J e/\(Rt m R (I J e)))):
 Acts prog 77 #[A #[B a,S b c d,S g i k]] V R:=
 fd (LF:=LF0) (RF:=[1000010]) [] [] func77 h
theorem vc_num_Opp (a:Bool) (b:OA) (c d:Nat) (e:OA) (f g:Nat) (V:View) (R:VR) (h:(Ca V 198 #[A #[B a,S b c d]] fun o p=>∃i,∃k l m,o=A #[B i,S k l m]/\(Rt p R (A #[B i,S k l m,S e f g])))):
 Acts prog 144 #[A #[B a,S b c d,S e f g]] V R:=
 fd (LF:=LF0) (RF:=[1000010]) [] [] func144 h
theorem vc_num_Plus (a:Bool) (b:OA) (c d:Nat) (m:OA) (k n:Nat) (e:Bool) (f:OA) (g i:Nat) (o:OA) (l p:Nat) (V:View) (R:VR) (h:((((k:Int) == (0:Int))=true->((((l:Int) == (0:Int))=true->(Ca V 79 #[A #[B a,S b c d],A #[B e,S f g i]] fun k2 k3=>∃q,∃r s t,k2=A #[B q,S r s t]/\(Rt k3 R (A #[B q,S r s t,S none 0 0]))))/\(((l:Int) == (0:Int))=false->(Ca V 83 #[A #[B e,S f g i,S o l p]] fun k4 k5=>∃w x y,k4=S w x y/\(Ca k5 82 #[B false,S w x y] fun k6 k7=>∃z,∃a0 a1 a2,k6=A #[B z,S a0 a1 a2]/\(Ca k7 81 #[A #[B a,S b c d],A #[B z,S a0 a1 a2]] fun k8 k9=>∃a3,∃a4 a5 a6,k8=A #[B a3,S a4 a5 a6]/\(Ca k9 83 #[A #[B a,S b c d,S m k n]] fun l0 l1=>∃a7 a8 a9,l0=S a7 a8 a9/\(Ca l1 82 #[B false,S a7 a8 a9] fun l2 l3=>∃b0,∃b1 b2 b3,l2=A #[B b0,S b1 b2 b3]/\(Ca l3 81 #[A #[B e,S f g i],A #[B b0,S b1 b2 b3]] fun l4 l5=>∃b4,∃b5 b6 b7,l4=A #[B b4,S b5 b6 b7]/\(Ca l5 79 #[A #[B a3,S a4 a5 a6],A #[B b4,S b5 b6 b7]] fun l6 l7=>∃b8,∃b9 c0 c1,l6=A #[B b8,S b9 c0 c1]/\(Ca l7 83 #[A #[B a,S b c d,S m k n]] fun l8 l9=>∃c2 c3 c4,l8=S c2 c3 c4/\(Ca l9 83 #[A #[B e,S f g i,S o l p]] fun m0 m1=>∃c5 c6 c7,m0=S c5 c6 c7/\(Ca m1 84 #[S c2 c3 c4,S c5 c6 c7] fun m2 m3=>∃c8 c9 d0,m2=S c8 c9 d0/\(Ca m3 80 #[A #[B b8,S b9 c0 c1],S c8 c9 d0] fun m4 m5=>∃d1,∃d2 d3 d4,∃d5 d6 d7,m4=A #[B d1,S d2 d3 d4,S d5 d6 d7]/\(Rt m5 R (A #[B d1,S d2 d3 d4,S d5 d6 d7]))))))))))))))))/\(((k:Int) == (0:Int))=false->(Ca V 83 #[A #[B e,S f g i,S o l p]] fun m6 m7=>∃d9 e0 e1,m6=S d9 e0 e1/\(Ca m7 82 #[B false,S d9 e0 e1] fun m8 m9=>∃e2,∃e3 e4 e5,m8=A #[B e2,S e3 e4 e5]/\(Ca m9 81 #[A #[B a,S b c d],A #[B e2,S e3 e4 e5]] fun n0 n1=>∃e6,∃e7 e8 e9,n0=A #[B e6,S e7 e8 e9]/\(Ca n1 83 #[A #[B a,S b c d,S m k n]] fun n2 n3=>∃f0 f1 f2,n2=S f0 f1 f2/\(Ca n3 82 #[B false,S f0 f1 f2] fun n4 n5=>∃f3,∃f4 f5 f6,n4=A #[B f3,S f4 f5 f6]/\(Ca n5 81 #[A #[B e,S f g i],A #[B f3,S f4 f5 f6]] fun n6 n7=>∃f7,∃f8 f9 g0,n6=A #[B f7,S f8 f9 g0]/\(Ca n7 79 #[A #[B e6,S e7 e8 e9],A #[B f7,S f8 f9 g0]] fun n8 n9=>∃g1,∃g2 g3 g4,n8=A #[B g1,S g2 g3 g4]/\(Ca n9 83 #[A #[B a,S b c d,S m k n]] fun o0 o1=>∃g5 g6 g7,o0=S g5 g6 g7/\(Ca o1 83 #[A #[B e,S f g i,S o l p]] fun o2 o3=>∃g8 g9 i0,o2=S g8 g9 i0/\(Ca o3 84 #[S g5 g6 g7,S g8 g9 i0] fun o4 o5=>∃i1 i2 i3,o4=S i1 i2 i3/\(Ca o5 80 #[A #[B g1,S g2 g3 g4],S i1 i2 i3] fun o6 o7=>∃i4,∃i5 i6 i7,∃i8 i9 k0,o6=A #[B i4,S i5 i6 i7,S i8 i9 k0]/\(Rt o7 R (A #[B i4,S i5 i6 i7,S i8 i9 k0])))))))))))))))):
 Acts prog 23 #[A #[B a,S b c d,S m k n],A #[B e,S f g i,S o l p]] V R:=
 fd (LF:=LF0) (RF:=[1000010]) [] [] func23 h
theorem vc_num_Sub (a:Bool) (b:OA) (c d:Nat) (e:OA) (f g:Nat) (i:Bool) (k:OA) (l m:Nat) (n:OA) (o p:Nat) (V:View) (R:VR) (h:(Ca V 144 #[A #[B i,S k l m,S n o p]] fun a6 a7=>∃q,∃r s t,∃u w x,a6=A #[B q,S r s t,S u w x]/\(Ca a7 23 #[A #[B a,S b c d,S e f g],A #[B q,S r s t,S u w x]] fun a8 a9=>∃y,∃z a0 a1,∃a2 a3 a4,a8=A #[B y,S z a0 a1,S a2 a3 a4]/\(Rt a9 R (A #[B y,S z a0 a1,S a2 a3 a4]))))):
 Acts prog 78 #[A #[B a,S b c d,S e f g],A #[B i,S k l m,S n o p]] V R:=
 fd (LF:=LF0) (RF:=[1000010]) [] [] func78 h
theorem vc_num_Times (a:Bool) (b:OA) (c d:Nat) (m:OA) (k n:Nat) (e:Bool) (f:OA) (g i:Nat) (o:OA) (l p:Nat) (V:View) (R:VR) (h:((((k:Int) == (0:Int))=true->((((l:Int) == (0:Int))=true->(Ca V 81 #[A #[B a,S b c d],A #[B e,S f g i]] fun d8 d9=>∃q,∃r s t,d8=A #[B q,S r s t]/\(Rt d9 R (A #[B q,S r s t,S none 0 0]))))/\(((l:Int) == (0:Int))=false->(Ca V 81 #[A #[B a,S b c d],A #[B e,S f g i]] fun e0 e1=>∃w,∃x y z,e0=A #[B w,S x y z]/\(Ca e1 83 #[A #[B a,S b c d,S m k n]] fun e2 e3=>∃a0 a1 a2,e2=S a0 a1 a2/\(Ca e3 83 #[A #[B e,S f g i,S o l p]] fun e4 e5=>∃a3 a4 a5,e4=S a3 a4 a5/\(Ca e5 84 #[S a0 a1 a2,S a3 a4 a5] fun e6 e7=>∃a6 a7 a8,e6=S a6 a7 a8/\(Ca e7 80 #[A #[B w,S x y z],S a6 a7 a8] fun e8 e9=>∃a9,∃b0 b1 b2,∃b3 b4 b5,e8=A #[B a9,S b0 b1 b2,S b3 b4 b5]/\(Rt e9 R (A #[B a9,S b0 b1 b2,S b3 b4 b5]))))))))))/\(((k:Int) == (0:Int))=false->(Ca V 81 #[A #[B a,S b c d],A #[B e,S f g i]] fun f0 f1=>∃b7,∃b8 b9 c0,f0=A #[B b7,S b8 b9 c0]/\(Ca f1 83 #[A #[B a,S b c d,S m k n]] fun f2 f3=>∃c1 c2 c3,f2=S c1 c2 c3/\(Ca f3 83 #[A #[B e,S f g i,S o l p]] fun f4 f5=>∃c4 c5 c6,f4=S c4 c5 c6/\(Ca f5 84 #[S c1 c2 c3,S c4 c5 c6] fun f6 f7=>∃c7 c8 c9,f6=S c7 c8 c9/\(Ca f7 80 #[A #[B b7,S b8 b9 c0],S c7 c8 c9] fun f8 f9=>∃d0,∃d1 d2 d3,∃d4 d5 d6,f8=A #[B d0,S d1 d2 d3,S d4 d5 d6]/\(Rt f9 R (A #[B d0,S d1 d2 d3,S d4 d5 d6])))))))))):
 Acts prog 168 #[A #[B a,S b c d,S m k n],A #[B e,S f g i,S o l p]] V R:=
 fd (LF:=LF0) (RF:=[1000010]) [] [] func168 h
theorem vc_num_C (a:Bool) (b:OA) (c d:Nat) (e:OA) (f g:Nat) (i:Bool) (k:OA) (l m:Nat) (n:OA) (o p:Nat) (V:View) (R:VR) (h:(Ca V 78 #[A #[B a,S b c d,S e f g],A #[B i,S k l m,S n o p]] fun a0 a1=>∃q,∃r s t,∃u w x,a0=A #[B q,S r s t,S u w x]/\(Ca a1 77 #[A #[B q,S r s t,S u w x]] fun a2 a3=>∃y,a2=I J y/\(Rt a3 R (I J y))))):
 Acts prog 22 #[A #[B a,S b c d,S e f g],A #[B i,S k l m,S n o p]] V R:=
 fd (LF:=LF0) (RF:=[1000010]) [] [] func22 h
end Go.Proofs.Tryz
/- By program: the conditions of the functions, from their loaded code. -/
namespace Go.Proofs.Tryz
open Go.Eng
open Go.Value renaming int→I,pointer→P,slice→S,agg→A,bool→B,tuple→T
open Go.IntKind renaming i64→J,u64→U,u32→W
set_option maxRecDepth 100000
theorem vc_integer_Norm (b:Bool) (e:OA) (f g:Nat) (V:View) (R:VR) (h:(Ca V 188 #[S e f g] fun m i=>∃c a d,m=S c a d/\((b=true->(Rt i R (A #[B (decide ((a:Int) > (0:Int))),S c a d])))/\(b=false->(Rt i R (A #[B false,S c a d])))))):
 Acts prog 187 #[A #[B b,S e f g]] V R:=
 fd (LF:=LF0) (RF:=[1000010]) [] [] func187 h
theorem vc_integer_Normal (a:Bool) (e:OA) (b f:Nat) (V:View) (R:VR) (h:(Ca V 231 #[S e b f] fun l c=>∃d,l=B d/\((d=true->(((!a)=true->(Rt c R (B true)))/\((!a)=false->(Rt c R (B (decide ((b:Int) > (0:Int))))))))/\(d=false->(Rt c R (B false)))))):
 Acts prog 214 #[A #[B a,S e b f]] V R:=
 fd (LF:=LF0) (RF:=[1000010]) [] [] func214 h
theorem vc_integer_FromInt (a:Int) (V:View) (R:VR) (h:(((decide (a < (0:Int)))=true->(Ca V 189 #[I U (U.wrap (0 - (U.wrap a)))] fun l m=>∃b c d,l=S b c d/\(Rt m R (A #[B (decide (a < (0:Int))),S b c d]))))/\((decide (a < (0:Int)))=false->(Ca V 189 #[I U (U.wrap a)] fun n o=>∃f g i,n=S f g i/\(Rt o R (A #[B (decide (a < (0:Int))),S f g i])))))):
 Acts prog 180 #[I J a] V R:=
 fd (LF:=LF0) (RF:=[1000010]) [] [] func180 h
theorem vc_integer_Int64 (c:Bool) (e:OA) (f g:Nat) (V:View) (R:VR) (h:(Ca V 195 #[S e f g] fun x a=>∃b,∃d,x=T #[I U b,B d]/\((d=true->((c=true->(((decide (b<=(9223372036854775808:Int)))=true->(Rt a R (T #[I J (J.wrap (U.wrap (0 - b))),B true])))/\((decide (b<=(9223372036854775808:Int)))=false->((d=true->(((!c)=true->(((decide (b<=(9223372036854775807:Int)))=true->(Rt a R (T #[I J (J.wrap b),B true])))/\((decide (b<=(9223372036854775807:Int)))=false->(Rt a R (T #[I J 0,B false])))))/\((!c)=false->(Rt a R (T #[I J 0,B false])))))/\(d=false->(Rt a R (T #[I J 0,B false])))))))/\(c=false->((d=true->(((!c)=true->(((decide (b<=(9223372036854775807:Int)))=true->(Rt a R (T #[I J (J.wrap b),B true])))/\((decide (b<=(9223372036854775807:Int)))=false->(Rt a R (T #[I J 0,B false])))))/\((!c)=false->(Rt a R (T #[I J 0,B false])))))/\(d=false->(Rt a R (T #[I J 0,B false])))))))/\(d=false->((d=true->(((!c)=true->(((decide (b<=(9223372036854775807:Int)))=true->(Rt a R (T #[I J (J.wrap b),B true])))/\((decide (b<=(9223372036854775807:Int)))=false->(Rt a R (T #[I J 0,B false])))))/\((!c)=false->(Rt a R (T #[I J 0,B false])))))/\(d=false->(Rt a R (T #[I J 0,B false])))))))):
 Acts prog 194 #[A #[B c,S e f g]] V R:=
 fd (LF:=LF0) (RF:=[1000010]) [] [] func194 h
theorem vc_integer_Sign (a:Bool) (d:OA) (e f:Nat) (V:View) (R:VR) (h:(Ca V 190 #[S d e f] fun l b=>∃c,l=I J c/\(((c == (0:Int))=true->(Rt b R (I J 0)))/\((c == (0:Int))=false->((a=true->(Rt b R (I J (-1))))/\(a=false->(Rt b R (I J 1)))))))):
 Acts prog 191 #[A #[B a,S d e f]] V R:=
 fd (LF:=LF0) (RF:=[1000010]) [] [] func191 h
theorem vc_integer_Neg (a:Bool) (b:OA) (c d:Nat) (V:View) (R:VR) (h:(Ca V 187 #[A #[B (!a),S b c d]] fun l m=>∃e,∃f g i,l=A #[B e,S f g i]/\(Rt m R (A #[B e,S f g i])))):
 Acts prog 197 #[A #[B a,S b c d]] V R:=
 fd (LF:=LF0) (RF:=[1000010]) [] [] func197 h
theorem vc_integer_signed (b:Bool) (c:OA) (a d:Nat) (V:View) (R:VR) (h:((b=true->(Rt V R (A #[B (decide ((a:Int) > (0:Int))),S c a d])))/\(b=false->(Rt V R (A #[B false,S c a d]))))):
 Acts prog 184 #[B b,S c a d] V R:=
 fd (LF:=LF0) (RF:=[1000010]) [] [] func184 h
theorem vc_integer_Add (a:Bool) (b:OA) (c d:Nat) (e:Bool) (f:OA) (g i:Nat) (V:View) (R:VR) (h:(((a == e)=true->(Ca V 185 #[S b c d,S f g i] fun b1 b2=>∃l m n,b1=S l m n/\(Ca b2 184 #[B a,S l m n] fun b3 b4=>∃o,∃p q r,b3=A #[B o,S p q r]/\(Rt b4 R (A #[B o,S p q r])))))/\((a == e)=false->(Ca V 186 #[S b c d,S f g i] fun b5 t=>∃u w x,∃k,b5=T #[S u w x,B k]/\((k=true->(Ca t 184 #[B a,S u w x] fun b6 b7=>∃y,∃z a0 a1,b6=A #[B y,S z a0 a1]/\(Rt b7 R (A #[B y,S z a0 a1]))))/\(k=false->(Ca t 186 #[S f g i,S b c d] fun b8 b9=>∃a3 a4 a5,∃c0,b8=T #[S a3 a4 a5,B c0]/\(Ca b9 184 #[B e,S a3 a4 a5] fun c1 c2=>∃a6,∃a7 a8 a9,c1=A #[B a6,S a7 a8 a9]/\(Rt c2 R (A #[B a6,S a7 a8 a9])))))))))):
 Acts prog 136 #[A #[B a,S b c d],A #[B e,S f g i]] V R:=
 fd (LF:=LF0) (RF:=[1000010]) [] [] func136 h
theorem vc_integer_Mul (a:Bool) (b:OA) (c d:Nat) (e:Bool) (f:OA) (g i:Nat) (V:View) (R:VR) (h:(Ca V 141 #[S b c d,S f g i] fun s t=>∃k l m,s=S k l m/\(Ca t 184 #[B (!(a == e)),S k l m] fun u w=>∃n,∃o p q,u=A #[B n,S o p q]/\(Rt w R (A #[B n,S o p q]))))):
 Acts prog 137 #[A #[B a,S b c d],A #[B e,S f g i]] V R:=
 fd (LF:=LF0) (RF:=[1000010]) [] [] func137 h
end Go.Proofs.Tryz
/- Contracts of package integer. -/
namespace Go.Big
/-- The value of a sign and digits. -/
def ival (b:Bool) (ds:List Nat):Int:=if b then -(val ds:Int) else val ds
end Go.Big
namespace Go.Eng
open Go.Big
/-- An integer in normal form. -/
def RI (V:View) (v:Value) (z:Int):Prop:=∃p n c,v=.agg #[.bool (decide (z < 0)),.slice p n c]/\RD V p n c (digs z.natAbs)
theorem RI.le {V V':View} {v:Value} {z:Int} (h:RI V v z) (l:V.Le V'):RI V' v z:=by
 obtain ⟨p,n,c,e,h⟩:=h; exact ⟨p,n,c,e,h.le l⟩
theorem RI.mk {V:View} {b:Bool} {p:OA} {n c:Nat} {z:Int} (hb:b=decide (z < 0)) (h:RD V p n c (digs z.natAbs)):RI V (.agg #[.bool b,.slice p n c]) z:=⟨p,n,c,by rw [hb],h⟩
theorem RI.zero {V:View}:RI V (.agg #[.bool false,.slice none 0 0]) 0:=⟨_,_,_,rfl,RD.nil⟩
end Go.Eng
namespace Go.Proofs.Tryz
open Go.Eng Go.Big
theorem blen_zero {n:Nat}:blen n=0↔n=0:=by
 unfold blen; split <;> simp_all
theorem ival_natAbs (b:Bool) (ds:List Nat):(ival b ds).natAbs=val ds:=by unfold ival; cases b <;> simp
theorem ival_neg (b:Bool) (ds:List Nat):ival b ds < 0↔b=true/\val ds≠0:=by
 unfold ival; cases b
 ·simp
 ·simp; omega
theorem ival_digs (z:Int):ival (decide (z < 0)) (digs z.natAbs)=z:=by
 unfold ival; rw [val_digs]
 by_cases h:z < 0
 ·rw [decide_eq_true h,if_pos rfl]; omega
 ·rw [decide_eq_false h,if_neg (by decide)]; omega
theorem ival_not (b:Bool) (ds:List Nat):ival (!b) ds=-ival b ds:=by unfold ival; cases b <;> simp
theorem ival_false (ds:List Nat):ival false ds=val ds:=rfl
theorem len_pos_digs {x n:Nat} (h:n=(digs x).length):0 < n↔x≠0:=by
 rw [h]
 constructor
 ·intro h1 h2; subst h2; simp at h1
 ·intro h1
  rcases Nat.eq_zero_or_pos (digs x).length with e | e
  ·exact absurd (digs_eq_nil.1 (List.length_eq_zero_iff.1 e)) h1
  ·exact e
theorem c_integer_signed {V:View} (b:Bool) {p:OA} {n c x:Nat} (h:RN V p n c x) :
  Acts prog 184 #[.bool b,.slice p n c] V fun r V'=>RI V' r (if b then -(x:Int) else x):=by
 have hp:=len_pos_digs h.len
 refine vc_integer_signed b p n c V _ ⟨fun h0 V1 l1=>?_,fun h0 V1 l1=>?_⟩
 ·rw [if_pos h0]
  refine RI.mk ?_ ?_
  ·rw [Bool.eq_iff_iff,decide_eq_true_eq,decide_eq_true_eq]
   omega
  ·rw [Int.natAbs_neg,Int.natAbs_natCast]; exact h.le l1
 ·rw [h0,if_neg (by decide)]
  refine RI.mk ?_ ?_
  ·symm; rw [decide_eq_false_iff_not]; omega
  ·rw [Int.natAbs_natCast]; exact h.le l1
theorem c_integer_Norm {V:View} (b:Bool) {p:OA} {n c:Nat} {ds:List Nat} (h:RD V p n c ds) (hm:ds.length<=1099511627776) :
  Acts prog 187 #[.agg #[.bool b,.slice p n c]] V fun r V'=>RI V' r (ival b ds):=by
 refine vc_integer_Norm b p n c V _ fun V1 l1=>(c_nat_Norm (h.le l1) hm).mono ?_
 rintro r V2 l2 ⟨p1,n1,c1,rfl,h1⟩
 have hp:=len_pos_digs h1.len
 have hn:=ival_neg b ds
 refine ⟨_,_,_,rfl,fun h0 V3 l3=>RI.mk ?_ ?_,fun h0 V3 l3=>RI.mk ?_ ?_⟩
 ·rw [Bool.eq_iff_iff,decide_eq_true_eq,decide_eq_true_eq,hn]
  simp [h0]; omega
 ·rw [ival_natAbs]; exact h1.le l3
 ·symm; rw [decide_eq_false_iff_not,hn]; simp [h0]
 ·rw [ival_natAbs]; exact h1.le l3
/-- A sign and digits in normal form. -/
def NrmI (b:Bool) (ds:List Nat):Bool:=decide (digs (val ds)=ds) && (!b || decide (ds≠[]))
theorem c_integer_Normal {V:View} (b:Bool) {p:OA} {n c:Nat} {ds:List Nat} (h:RD V p n c ds) (hm:ds.length<=1099511627776) :
  Acts prog 214 #[.agg #[.bool b,.slice p n c]] V fun r V'=>r=.bool (NrmI b ds):=by
 refine vc_integer_Normal b p n c V _ fun V1 l1=>(c_nat_Normal (h.le l1) hm).mono ?_
 rintro r V2 l2 rfl
 refine ⟨_,rfl,fun h0=>⟨fun h1 V3 l3=>?_,fun h1 V3 l3=>?_⟩,fun h0 V3 l3=>?_⟩
 ·simp [NrmI,h0]; simp at h1; simp [h1]
 ·have hl:=h.len
  simp [NrmI,h0]; simp at h1; simp [h1]
  rw [Bool.eq_iff_iff,decide_eq_true_eq]
  simp
  constructor
  ·intro h2 h3; subst h3; simp at hl; omega
  ·intro h2
   rcases Nat.eq_zero_or_pos ds.length with e | e
   ·exact absurd (List.length_eq_zero_iff.1 e) h2
   ·omega
 ·simp [NrmI,h0]
theorem c_integer_FromInt {V:View} (n:Int) (h0:-9223372036854775808<=n) (h1:n<=9223372036854775807) :
  Acts prog 180 #[.int .i64 n] V fun r V'=>RI V' r n:=by
 refine vc_integer_FromInt n V _ ⟨fun h2 V1 l1=>?_,fun h2 V1 l1=>?_⟩
 ·have h2:n < 0:=by simpa using h2
  have e:u64.wrap (0 - u64.wrap n)=-n:=by rw [u64m,u64m]; omega
  rw [e]
  refine (c_nat_FromUint _ (by omega) (by omega)).mono ?_
  rintro r V2 l2 ⟨p1,n1,c1,rfl,g1⟩
  refine ⟨_,_,_,rfl,fun V3 l3=>⟨_,_,_,rfl,?_⟩⟩
  rw [show n.natAbs=(-n).toNat from by omega]; exact g1.le l3
 ·have h2:0<=n:=by simpa using h2
  rw [u64w (by omega)]
  refine (c_nat_FromUint _ (by omega) (by omega)).mono ?_
  rintro r V2 l2 ⟨p1,n1,c1,rfl,g1⟩
  refine ⟨_,_,_,rfl,fun V3 l3=>⟨_,_,_,rfl,?_⟩⟩
  rw [show n.natAbs=n.toNat from by omega]; exact g1.le l3
theorem c_integer_Sign {V:View} (b:Bool) {p:OA} {n c:Nat} {ds:List Nat} (h:RD V p n c ds) (hm:ds.length<=1099511627776) :
  Acts prog 191 #[.agg #[.bool b,.slice p n c]] V fun r V'=>r=.int .i64 (ival b ds).sign:=by
 refine vc_integer_Sign b p n c V _ fun V1 l1=>(c_nat_Bits (h.le l1) hm).mono ?_
 rintro r V2 l2 rfl
 have hz:(ival b ds)=0↔val ds=0:=by rw [← ival_natAbs b ds]; omega
 have hn:=ival_neg b ds
 refine ⟨_,rfl,fun h0 V3 l3=>?_,fun h0=>⟨fun h1 V3 l3=>?_,fun h1 V3 l3=>?_⟩⟩
 ·have:val ds=0:=blen_zero.1 (by simp at h0; omega)
  rw [hz.2 this]; rfl
 ·have:val ds≠0:=fun e=>by simp [blen_zero.2 e] at h0
  rw [Int.sign_eq_neg_one_of_neg (hn.2 ⟨h1,this⟩)]
 ·have:val ds≠0:=fun e=>by simp [blen_zero.2 e] at h0
  have:0 < ival b ds:=by
   have:=hz
   have:¬ ival b ds < 0:=by rw [hn]; simp [h1]
   omega
  rw [Int.sign_eq_one_of_pos this]
theorem c_integer_Neg {V:View} (b:Bool) {p:OA} {n c:Nat} {ds:List Nat} (h:RD V p n c ds) (hm:ds.length<=1099511627776) :
  Acts prog 197 #[.agg #[.bool b,.slice p n c]] V fun r V'=>RI V' r (-ival b ds):=by
 refine vc_integer_Neg b p n c V _ fun V1 l1=>(c_integer_Norm (!b) (h.le l1) hm).mono ?_
 rintro r V2 l2 ⟨p1,n1,c1,rfl,h1⟩
 rw [ival_not] at h1 ⊢
 exact ⟨_,_,_,_,rfl,fun V3 l3=>⟨_,_,_,rfl,h1.le l3⟩⟩
theorem c_integer_Mul {V:View} (b1 b2:Bool) {p q:OA} {n c m e:Nat} {xa xb:List Nat} (ha:RD V p n c xa) (hb:RD V q m e xb) (hm:xa.length + xb.length<=1099511627776) :
  Acts prog 137 #[.agg #[.bool b1,.slice p n c],.agg #[.bool b2,.slice q m e]] V fun r V'=>RI V' r (ival b1 xa * ival b2 xb):=by
 refine vc_integer_Mul b1 p n c b2 q m e V _ fun V1 l1=>(c_nat_Mul (ha.le l1) (hb.le l1) hm).mono ?_
 rintro r V2 l2 ⟨p1,n1,c1,rfl,h1⟩
 refine ⟨_,_,_,rfl,fun V3 l3=>(c_integer_signed _ (h1.le l3)).mono ?_⟩
 rintro r V4 l4 ⟨p2,n2,c2,rfl,h2⟩
 have e1:(if (!(b1 == b2))=true then -((val xa * val xb:Nat):Int) else ((val xa * val xb:Nat):Int))=ival b1 xa * ival b2 xb:=by
  unfold ival; cases b1 <;> cases b2 <;> simp [Int.neg_mul,Int.mul_neg]
 rw [e1] at h2 ⊢
 exact ⟨_,_,_,_,rfl,fun V5 l5=>⟨_,_,_,rfl,h2.le l5⟩⟩
theorem c_integer_Add {V:View} (b1 b2:Bool) {p q:OA} {n c m e:Nat} {xa xb:List Nat} (ha:RD V p n c xa) (hb:RD V q m e xb) (hm:xa.length<=1099511627776) (hn:xb.length<=1099511627776) :
  Acts prog 136 #[.agg #[.bool b1,.slice p n c],.agg #[.bool b2,.slice q m e]] V fun r V'=>RI V' r (ival b1 xa + ival b2 xb):=by
 have fin:∀{b:Bool} {x:Nat} {V1:View} {p1:OA} {n1 c1:Nat},RN V1 p1 n1 c1 x->(if b then -(x:Int) else x)=ival b1 xa + ival b2 xb ->
   Acts prog 184 #[.bool b,.slice p1 n1 c1] V1 fun r V'=>∃(b1_:Bool) (p2_:OA) (n2_ c2_:Nat),r=.agg #[.bool b1_,.slice p2_ n2_ c2_]/\∀V3:View,V'.Le V3->RI V3 (.agg #[.bool b1_,.slice p2_ n2_ c2_]) (ival b1 xa + ival b2 xb):=by
  intro b x V1 p1 n1 c1 h he
  refine (c_integer_signed b h).mono ?_
  rintro r V4 l4 ⟨p2,n2,c2,rfl,h2⟩
  rw [he] at h2 ⊢
  exact ⟨_,_,_,_,rfl,fun V5 l5=>⟨_,_,_,rfl,h2.le l5⟩⟩
 refine vc_integer_Add b1 p n c b2 q m e V _ ⟨fun h0 V1 l1=>(c_nat_Add (ha.le l1) (hb.le l1) hm hn).mono ?_,fun h0 V1 l1=>(c_nat_Sub (ha.le l1) (hb.le l1) hm hn).mono ?_⟩
 ·rintro r V2 l2 ⟨p1,n1,c1,rfl,h1⟩
  have h0:b1=b2:=by simpa using h0
  subst h0
  exact ⟨_,_,_,rfl,fun V3 l3=>fin (h1.le l3) (by unfold ival; cases b1 <;> simp; omega)⟩
 ·rintro r V2 l2 ⟨p1,n1,c1,rfl,h1⟩
  have h0:b2=!b1:=by cases b1 <;> cases b2 <;> simp_all
  subst h0
  refine ⟨_,_,_,_,rfl,fun h2 V3 l3=>fin (h1.le l3) ?_,fun h2 V3 l3=>(c_nat_Sub (hb.le (l1.trans (l2.trans l3))) (ha.le (l1.trans (l2.trans l3))) hn hm).mono ?_⟩
  ·have h2:val xb<=val xa:=by simpa using h2
   unfold ival; cases b1 <;> simp <;> omega
  ·rintro r V4 l4 ⟨p2,n2,c2,rfl,h3⟩
   have h2:val xa < val xb:=by simpa using h2
   exact ⟨_,_,_,_,rfl,fun V5 l5=>fin (h3.le l5) (by unfold ival; cases b1 <;> simp <;> omega)⟩
theorem c_integer_Int64 {V:View} (b:Bool) {p:OA} {n c:Nat} {ds:List Nat} (h:RD V p n c ds) (hm:ds.length<=1099511627776) (hs:val ds < 4611686018427387904) :
  Acts prog 194 #[.agg #[.bool b,.slice p n c]] V fun r V'=>r=.tuple #[.int .i64 (ival b ds),.bool true]:=by
 refine vc_integer_Int64 b p n c V _ fun V1 l1=>(c_nat_Uint (h.le l1) hm).mono ?_
 rintro r V2 l2 rfl
 rw [if_pos (by omega),decide_eq_true (show val ds < 18446744073709551616 by omega)]
 refine ⟨_,_,rfl,fun _=>⟨fun h1=>⟨fun h2 V3 l3=>?_,fun h2=>?_⟩,fun h1=>⟨fun _=>⟨fun h2=>⟨fun h3 V4 l4=>?_,fun h3=>?_⟩,fun h2=>?_⟩,fun h2=>nomatch h2⟩⟩,fun h1=>nomatch h1⟩
 ·subst h1
  have e:i64.wrap (u64.wrap (0 - (val ds:Int)))=-(val ds:Int):=by
   rw [u64m,IntKind.wrap_i64]; omega
  rw [e]; rfl
 ·simp at h2; omega
 ·subst h1
  rw [i64w (by omega)]; rfl
 ·simp at h3; omega
 ·simp [h1] at h2
end Go.Proofs.Tryz
/- By program: the conditions of the functions, from their loaded code. -/
namespace Go.Proofs.Tryz
open Go.Eng
open Go.Value renaming int→I,pointer→P,slice→S,agg→A,bool→B,tuple→T
open Go.IntKind renaming i64→J,u64→U,u32→W
set_option maxRecDepth 100000
theorem vc_frac_Int (a:Int) (V:View) (R:VR) (h:(((decide (a<=(-4611686018427387904:Int)))=true->(Ca V 180 #[I J a] fun z a0=>∃d,∃e f g,z=A #[B d,S e f g]/\(∀b,a0.Le b->∀i:Nat,(b.blk i (.cells #[I W 1] 221 (0,0)))->Acts prog 140 #[A #[B d,S e f g],S (some ⟨i,0,none⟩) 1 1] b fun a1 a2=>∃k,∃l,∃m,a1=A #[I J k,I J l,P m]/\∀a7:C->Value,(Rt a2 R (A #[I J k,I J l,P m])))))/\((decide (a<=(-4611686018427387904:Int)))=false->(((decide (a ≥ (4611686018427387904:Int)))=true->(Ca V 180 #[I J a] fun a3 a4=>∃o,∃p q r,a3=A #[B o,S p q r]/\(∀c,a4.Le c->∀s:Nat,(c.blk s (.cells #[I W 1] 221 (0,0)))->Acts prog 140 #[A #[B o,S p q r],S (some ⟨s,0,none⟩) 1 1] c fun a5 a6=>∃t,∃u,∃w,a5=A #[I J t,I J u,P w]/\∀a8:C->Value,(Rt a6 R (A #[I J t,I J u,P w])))))/\((decide (a ≥ (4611686018427387904:Int)))=false->(Rt V R (A #[I J a,I J 0,P none]))))))):
 Acts prog 133 #[I J a] V R:=
 fd (LF:=LF0) (RF:=[1000010]) [] [] func133 h
theorem vc_frac_reduce (n:Bool) (f:OA) (g i:Nat) (k:OA) (l m:Nat) (V:View) (R:VR) (h:(Ca V 190 #[S k l m] fun d3 a2=>∃r,d3=I J r/\(((r == (0:Int))=true->(Rt a2 R (A #[I J 0,I J 0,P none])))/\((r == (0:Int))=false->(Ca a2 191 #[A #[B n,S f g i]] fun d4 a4=>∃s,d4=I J s/\(((s == (0:Int))=true->(Rt a4 R (A #[I J 0,I J 0,P none])))/\((s == (0:Int))=false->(Ca a4 192 #[S f g i,S k l m] fun d5 d6=>∃o p q,d5=S o p q/\(Ca d6 190 #[S o p q] fun d7 t=>∃u,d7=I J u/\(∃w:((OA) × Nat × Nat × Bool × (OA) × Nat × Nat)->VP,(((decide (u > (1:Int)))=true->(Ca t 193 #[S f g i,S o p q] fun d8 d9=>∃a6 a7 a8,∃e0 e1 e2,∃e3,d8=T #[S a6 a7 a8,S e0 e1 e2,B e3]/\(Ca d9 193 #[S k l m,S o p q] fun e4 e5=>∃a9 b0 b1,∃e6 e7 e8,∃e9,e4=T #[S a9 b0 b1,S e6 e7 e8,B e9]/\(∃b:(OA) × Nat × Nat × Bool × (OA) × Nat × Nat,(sm 0/\sm 0/\((a9:OA)=b.1)/\((b0:Nat)=b.2.1)/\((b1:Nat)=b.2.2.1)/\s3 (0:Int) (0:Int) (none:OA) ((n=b.2.2.2.1)/\((a6:OA)=b.2.2.2.2.1)/\((a7:Nat)=b.2.2.2.2.2.1)/\((a8:Nat)=b.2.2.2.2.2.2)))/\w b e5))))/\((decide (u > (1:Int)))=false->(∃d:(OA) × Nat × Nat × Bool × (OA) × Nat × Nat,(sm 0/\sm 0/\((k:OA)=d.1)/\((l:Nat)=d.2.1)/\((m:Nat)=d.2.2.1)/\s3 (0:Int) (0:Int) (none:OA) ((n=d.2.2.2.1)/\((f:OA)=d.2.2.2.2.1)/\((g:Nat)=d.2.2.2.2.2.1)/\((i:Nat)=d.2.2.2.2.2.2)))/\w d t)))/\∀(a:(OA) × Nat × Nat × Bool × (OA) × Nat × Nat) (x:View),t.Le x->w a x->(true=true/\(Ca x 190 #[S a.2.2.2.2.1 a.2.2.2.2.2.1 a.2.2.2.2.2.2] fun f0 b2=>∃y,f0=I J y/\(((decide (y<=(62:Int)))=true->(Ca b2 190 #[S a.1 a.2.1 a.2.2.1] fun f1 b3=>∃z,f1=I J z/\(((decide (z<=(62:Int)))=true->(Ca b3 194 #[A #[B a.2.2.2.1,S a.2.2.2.2.1 a.2.2.2.2.2.1 a.2.2.2.2.2.2]] fun f2 f3=>∃b4,∃f4,f2=T #[I J b4,B f4]/\(Ca f3 195 #[S a.1 a.2.1 a.2.2.1] fun f5 f6=>∃b5,∃f7,f5=T #[I U b5,B f7]/\(Rt f6 R (A #[I J b4,I J (J.wrap ((J.wrap b5)-1)),P none])))))/\((decide (z<=(62:Int)))=false->(Ca b3 187 #[A #[B a.2.2.2.1,S a.2.2.2.2.1 a.2.2.2.2.2.1 a.2.2.2.2.2.2]] fun f8 f9=>∃b7,∃b8 b9 c0,f8=A #[B b7,S b8 b9 c0]/\(Ca f9 188 #[S a.1 a.2.1 a.2.2.1] fun g0 g1=>∃c1 c2 c3,g0=S c1 c2 c3/\(∀a0,g1.Le a0->∀c4:Nat,(a0.blk c4 (.cells #[B b7,S b8 b9 c0,S c1 c2 c3] 274 (0,0)))->R (A #[I J 0,I J 0,P (some ⟨c4,0,none⟩)]) a0)))))))/\((decide (y<=(62:Int)))=false->(Ca b2 187 #[A #[B a.2.2.2.1,S a.2.2.2.2.1 a.2.2.2.2.2.1 a.2.2.2.2.2.2]] fun g2 g3=>∃c5,∃c6 c7 c8,g2=A #[B c5,S c6 c7 c8]/\(Ca g3 188 #[S a.1 a.2.1 a.2.2.1] fun g4 g5=>∃c9 d0 d1,g4=S c9 d0 d1/\(∀a1,g5.Le a1->∀d2:Nat,(a1.blk d2 (.cells #[B c5,S c6 c7 c8,S c9 d0 d1] 274 (0,0)))->R (A #[I J 0,I J 0,P (some ⟨d2,0,none⟩)]) a1))))))))))))))))):
 Acts prog 140 #[A #[B n,S f g i],S k l m] V R:=
 fd (LF:=LF0) (RF:=[1000010]) [] [(5,⟨(OA) × Nat × Nat × Bool × (OA) × Nat × Nat,false,[2,4],[4],fun e=>[(1,.c (.v (S e.1 e.2.1 e.2.2.1)))],fun e=>[(2,⟨.lit [.v (B e.2.2.2.1),.v (S e.2.2.2.2.1 e.2.2.2.2.2.1 e.2.2.2.2.2.2)],49⟩)]⟩)] func140 h
theorem vc_frac_Whole (b:Bool) (c:OA) (d e:Nat) (V:View) (R:VR) (h:(∀a,V.Le a->∀f:Nat,(a.blk f (.cells #[I W 1] 221 (0,0)))->Acts prog 140 #[A #[B b,S c d e],S (some ⟨f,0,none⟩) 1 1] a fun m n=>∃g,∃i,∃k,m=A #[I J g,I J i,P k]/\∀o:C->Value,(Rt n R (A #[I J g,I J i,P k])))):
 Acts prog 215 #[A #[B b,S c d e]] V R:=
 fd (LF:=LF0) (RF:=[1000010]) [] [] func215 h
theorem vc_frac_R_Num (c t:Int) (a:OA) (V:View) (R:VR) (h:(((!a.isNone)=true->(a.isSome=true)/\(a.isSome=true)/\(∃d,∃e f g,∃b,addrAdd a 0=some b/\V.at (b.add 0) (B d)/\V.at (b.add 1) (S e f g)/\(Ca V 187 #[A #[B d,S e f g]] fun u w=>∃i,∃k l m,u=A #[B i,S k l m]/\(Rt w R (A #[B i,S k l m])))))/\((!a.isNone)=false->(Ca V 180 #[I J c] fun x y=>∃o,∃p q r,x=A #[B o,S p q r]/\(Rt y R (A #[B o,S p q r])))))):
 Acts prog 138 #[A #[I J c,I J t,P a]] V R:=
 fd (LF:=LF0) (RF:=[1000010]) [] [] func138 h
theorem vc_frac_R_Den (q b:Int) (a:OA) (V:View) (R:VR) (h:(((!a.isNone)=true->(a.isSome=true)/\(a.isSome=true)/\(∃c d e,(∃f,addrAdd a 2=some f/\V.at f (S c d e))/\(Ca V 188 #[S c d e] fun r s=>∃g i k,r=S g i k/\(Rt s R (S g i k)))))/\((!a.isNone)=false->(Ca V 189 #[I U (U.wrap (J.wrap (b + (1:Int))))] fun t u=>∃m n o,t=S m n o/\(Rt u R (S m n o)))))):
 Acts prog 139 #[A #[I J q,I J b,P a]] V R:=
 fd (LF:=LF0) (RF:=[1000010]) [] [] func139 h
theorem vc_frac_abs (a:Int) (V:View) (R:VR) (h:(((decide (a < (0:Int)))=true->(Rt V R (I U (U.wrap (J.wrap (0 - a))))))/\((decide (a < (0:Int)))=false->(Rt V R (I U (U.wrap a)))))):
 Acts prog 182 #[I J a] V R:=
 fd (LF:=LF0) (RF:=[1000010]) [] [] func182 h
theorem vc_frac_gcd (i k:Int) (V:View) (R:VR) (h:(∃(e:(Int × Int)->VP) (l:(Int × Int)->Nat),(∃f,((i=f.1)/\(k=f.2))/\e f V)/\∀(a:Int × Int) (b:View),V.Le b->e a b->(true=true/\(((a.2 != (0:Int))=true->(a.2≠0)/\(∃d:Int × Int,l d < l a/\((a.2=d.1)/\((a.1.tmod a.2)=d.2))/\e d b))/\((a.2 != (0:Int))=false->(Rt b R (I U a.1))))))):
 Acts prog 183 #[I U i,I U k] V R:=
 fd (LF:=LF0) (RF:=[1000010]) [(1,⟨Int × Int,false,[],[],fun g=>[(0,.c (.v (I U g.1))),(1,.c (.v (I U g.2)))],fun g=>[]⟩)] [] func183 h
theorem vc_frac_times (b c:Int) (V:View) (R:VR) (h:(Ca V 182 #[I J b] fun n o=>∃f,n=I U f/\(Ca o 182 #[I J c] fun p q=>∃g,p=I U g/\(Ca q 181 #[I U f,I U g] fun r d=>∃e,∃a,r=T #[I U e,I U a]/\(((e != (0:Int))=true->(Rt d R (T #[I J 0,B false])))/\((e != (0:Int))=false->(((decide (a ≥ (4611686018427387904:Int)))=true->(Rt d R (T #[I J 0,B false])))/\((decide (a ≥ (4611686018427387904:Int)))=false->(((!((decide (b < (0:Int))) == (decide (c < (0:Int)))))=true->(Rt d R (T #[I J (J.wrap (0 - (J.wrap a))),B true])))/\((!((decide (b < (0:Int))) == (decide (c < (0:Int)))))=false->(Rt d R (T #[I J (J.wrap a),B true])))))))))))):
 Acts prog 134 #[I J b,I J c] V R:=
 fd (LF:=LF0) (RF:=[1000010]) [] [] func134 h
theorem vc_frac_lowest (b c:Int) (V:View) (R:VR) (h:(Ca V 182 #[I J b] fun i k=>∃d,i=I U d/\(Ca k 183 #[I U d,I U (U.wrap c)] fun l e=>∃a,l=I U a/\(((decide ((J.wrap a) > (1:Int)))=true->((J.wrap a)≠0)/\((J.wrap a)≠0)/\(Rt e R (A #[I J (J.wrap (b.tdiv (J.wrap a))),I J (J.wrap ((J.wrap (c.tdiv (J.wrap a)))-1)),P none])))/\((decide ((J.wrap a) > (1:Int)))=false->(Rt e R (A #[I J b,I J (J.wrap (c - (1:Int))),P none]))))))):
 Acts prog 135 #[I J b,I J c] V R:=
 fd (LF:=LF0) (RF:=[1000010]) [] [] func135 h
theorem vc_frac_R_Add (c a:Int) (e:OA) (d b:Int) (f:OA) (V:View) (R:VR) (h:((e.isNone=true->(∃g:Unit->VP,((f.isNone=true->(((a == (0:Int))=true->(((b == (0:Int))=true->(Ca V 133 #[I J (J.wrap (c + d))] fun k9 l0=>∃x,∃y,∃z,k9=A #[I J x,I J y,P z]/\(Rt l0 R (A #[I J x,I J y,P z]))))/\((b == (0:Int))=false->(Ca V 134 #[I J c,I J (J.wrap (b + (1:Int)))] fun l1 l2=>∃i,∃p,l1=T #[I J i,B p]/\(Ca l2 134 #[I J d,I J (J.wrap (a + (1:Int)))] fun l3 l4=>∃k,∃q,l3=T #[I J k,B q]/\(Ca l4 134 #[I J (J.wrap (a + (1:Int))),I J (J.wrap (b + (1:Int)))] fun l5 l=>∃a1,∃r,l5=T #[I J a1,B r]/\((p=true->((q=true->((r=true->(((decide ((J.wrap (i + k)) > (-4611686018427387904:Int)))=true->(((decide ((J.wrap (i + k)) < (4611686018427387904:Int)))=true->(Ca l 135 #[I J (J.wrap (i + k)),I J a1] fun l6 l7=>∃a2,∃a3,∃a4,l6=A #[I J a2,I J a3,P a4]/\(Rt l7 R (A #[I J a2,I J a3,P a4]))))/\((decide ((J.wrap (i + k)) < (4611686018427387904:Int)))=false->(∃l8:Unit,(s11 0 0 0 c a e d b f (0:Int) (0:Int) (((none:OA)=none)))/\g l8 l))))/\((decide ((J.wrap (i + k)) > (-4611686018427387904:Int)))=false->(∃l9:Unit,(s11 0 0 0 c a e d b f (0:Int) (0:Int) (((none:OA)=none)))/\g l9 l))))/\(r=false->(∃m0:Unit,(s11 0 0 0 c a e d b f (0:Int) (0:Int) (((none:OA)=none)))/\g m0 l))))/\(q=false->(∃m1:Unit,(s11 0 0 0 c a e d b f (0:Int) (0:Int) (((none:OA)=none)))/\g m1 l))))/\(p=false->(∃m2:Unit,(s11 0 0 0 c a e d b f (0:Int) (0:Int) (((none:OA)=none)))/\g m2 l)))))))))/\((a == (0:Int))=false->(Ca V 134 #[I J c,I J (J.wrap (b + (1:Int)))] fun m3 m4=>∃m,∃s,m3=T #[I J m,B s]/\(Ca m4 134 #[I J d,I J (J.wrap (a + (1:Int)))] fun m5 m6=>∃n,∃t,m5=T #[I J n,B t]/\(Ca m6 134 #[I J (J.wrap (a + (1:Int))),I J (J.wrap (b + (1:Int)))] fun m7 o=>∃a6,∃u,m7=T #[I J a6,B u]/\((s=true->((t=true->((u=true->(((decide ((J.wrap (m + n)) > (-4611686018427387904:Int)))=true->(((decide ((J.wrap (m + n)) < (4611686018427387904:Int)))=true->(Ca o 135 #[I J (J.wrap (m + n)),I J a6] fun m8 m9=>∃a7,∃a8,∃a9,m8=A #[I J a7,I J a8,P a9]/\(Rt m9 R (A #[I J a7,I J a8,P a9]))))/\((decide ((J.wrap (m + n)) < (4611686018427387904:Int)))=false->(∃n0:Unit,(s11 0 0 0 c a e d b f (0:Int) (0:Int) (((none:OA)=none)))/\g n0 o))))/\((decide ((J.wrap (m + n)) > (-4611686018427387904:Int)))=false->(∃n1:Unit,(s11 0 0 0 c a e d b f (0:Int) (0:Int) (((none:OA)=none)))/\g n1 o))))/\(u=false->(∃n2:Unit,(s11 0 0 0 c a e d b f (0:Int) (0:Int) (((none:OA)=none)))/\g n2 o))))/\(t=false->(∃n3:Unit,(s11 0 0 0 c a e d b f (0:Int) (0:Int) (((none:OA)=none)))/\g n3 o))))/\(s=false->(∃n4:Unit,(s11 0 0 0 c a e d b f (0:Int) (0:Int) (((none:OA)=none)))/\g n4 o)))))))))/\(f.isNone=false->(∃n5:Unit,(s11 0 0 0 c a e d b f (0:Int) (0:Int) (((none:OA)=none)))/\g n5 V)))/\∀(n6:Unit) (w:View),V.Le w->g n6 w->(true=true/\(Ca w 138 #[A #[I J c,I J a,P e]] fun n7 n8=>∃b1,∃b2 b3 b4,n7=A #[B b1,S b2 b3 b4]/\(Ca n8 139 #[A #[I J d,I J b,P f]] fun n9 o0=>∃b5 b6 b7,n9=S b5 b6 b7/\(Ca o0 137 #[A #[B b1,S b2 b3 b4],A #[B false,S b5 b6 b7]] fun o1 o2=>∃b8,∃b9 c0 c1,o1=A #[B b8,S b9 c0 c1]/\(Ca o2 138 #[A #[I J d,I J b,P f]] fun o3 o4=>∃c2,∃c3 c4 c5,o3=A #[B c2,S c3 c4 c5]/\(Ca o4 139 #[A #[I J c,I J a,P e]] fun o5 o6=>∃c6 c7 c8,o5=S c6 c7 c8/\(Ca o6 137 #[A #[B c2,S c3 c4 c5],A #[B false,S c6 c7 c8]] fun o7 o8=>∃c9,∃d0 d1 d2,o7=A #[B c9,S d0 d1 d2]/\(Ca o8 136 #[A #[B b8,S b9 c0 c1],A #[B c9,S d0 d1 d2]] fun o9 p0=>∃d3,∃d4 d5 d6,o9=A #[B d3,S d4 d5 d6]/\(Ca p0 139 #[A #[I J c,I J a,P e]] fun p1 p2=>∃d7 d8 d9,p1=S d7 d8 d9/\(Ca p2 139 #[A #[I J d,I J b,P f]] fun p3 p4=>∃e0 e1 e2,p3=S e0 e1 e2/\(Ca p4 141 #[S d7 d8 d9,S e0 e1 e2] fun p5 p6=>∃e3 e4 e5,p5=S e3 e4 e5/\(Ca p6 140 #[A #[B d3,S d4 d5 d6],S e3 e4 e5] fun p7 p8=>∃e6,∃e7,∃e8,p7=A #[I J e6,I J e7,P e8]/\(Rt p8 R (A #[I J e6,I J e7,P e8]))))))))))))))))/\(e.isNone=false->(Ca V 138 #[A #[I J c,I J a,P e]] fun p9 q0=>∃f0,∃f1 f2 f3,p9=A #[B f0,S f1 f2 f3]/\(Ca q0 139 #[A #[I J d,I J b,P f]] fun q1 q2=>∃f4 f5 f6,q1=S f4 f5 f6/\(Ca q2 137 #[A #[B f0,S f1 f2 f3],A #[B false,S f4 f5 f6]] fun q3 q4=>∃f7,∃f8 f9 g0,q3=A #[B f7,S f8 f9 g0]/\(Ca q4 138 #[A #[I J d,I J b,P f]] fun q5 q6=>∃g1,∃g2 g3 g4,q5=A #[B g1,S g2 g3 g4]/\(Ca q6 139 #[A #[I J c,I J a,P e]] fun q7 q8=>∃g5 g6 g7,q7=S g5 g6 g7/\(Ca q8 137 #[A #[B g1,S g2 g3 g4],A #[B false,S g5 g6 g7]] fun q9 r0=>∃g8,∃g9 i0 i1,q9=A #[B g8,S g9 i0 i1]/\(Ca r0 136 #[A #[B f7,S f8 f9 g0],A #[B g8,S g9 i0 i1]] fun r1 r2=>∃i2,∃i3 i4 i5,r1=A #[B i2,S i3 i4 i5]/\(Ca r2 139 #[A #[I J c,I J a,P e]] fun r3 r4=>∃i6 i7 i8,r3=S i6 i7 i8/\(Ca r4 139 #[A #[I J d,I J b,P f]] fun r5 r6=>∃i9 k0 k1,r5=S i9 k0 k1/\(Ca r6 141 #[S i6 i7 i8,S i9 k0 k1] fun r7 r8=>∃k2 k3 k4,r7=S k2 k3 k4/\(Ca r8 140 #[A #[B i2,S i3 i4 i5],S k2 k3 k4] fun r9 t0=>∃k5,∃k6,∃k7,r9=A #[I J k5,I J k6,P k7]/\(Rt t0 R (A #[I J k5,I J k6,P k7])))))))))))))))):
 Acts prog 74 #[A #[I J c,I J a,P e],A #[I J d,I J b,P f]] V R:=
 fd (LF:=LF0) (RF:=[1000010]) [] [(2,⟨Unit,false,[2,3,4],[2,3,4],fun t1=>[],fun t1=>[]⟩)] func74 h
theorem vc_frac_R_Neg (d e:Int) (a:OA) (V:View) (R:VR) (h:(((!a.isNone)=true->(a.isSome=true)/\(a.isSome=true)/\(∃f,∃g i k,∃b,addrAdd a 0=some b/\V.at (b.add 0) (B f)/\V.at (b.add 1) (S g i k)/\(a.isSome=true)/\(a.isSome=true)/\(∃l m n,(∃o,addrAdd a 2=some o/\V.at o (S l m n))/\(Ca V 197 #[A #[B f,S g i k]] fun w x=>∃p,∃q r s,w=A #[B p,S q r s]/\(∀c,x.Le c->∀t:Nat,(c.blk t (.cells #[B p,S q r s,S l m n] 274 (0,0)))->R (A #[I J 0,I J 0,P (some ⟨t,0,none⟩)]) c)))))/\((!a.isNone)=false->(Rt V R (A #[I J (J.wrap (0 - d)),I J e,P none]))))):
 Acts prog 142 #[A #[I J d,I J e,P a]] V R:=
 fd (LF:=LF0) (RF:=[1000010]) [] [] func142 h
theorem vc_frac_R_Sub (a b:Int) (c:OA) (d e:Int) (f:OA) (V:View) (R:VR) (h:(Ca V 142 #[A #[I J d,I J e,P f]] fun p q=>∃g,∃i,∃k,p=A #[I J g,I J i,P k]/\(Ca q 74 #[A #[I J a,I J b,P c],A #[I J g,I J i,P k]] fun r s=>∃l,∃m,∃n,r=A #[I J l,I J m,P n]/\(Rt s R (A #[I J l,I J m,P n]))))):
 Acts prog 75 #[A #[I J a,I J b,P c],A #[I J d,I J e,P f]] V R:=
 fd (LF:=LF0) (RF:=[1000010]) [] [] func75 h
theorem vc_frac_R_Sign (b o:Int) (a:OA) (V:View) (R:VR) (h:(((!a.isNone)=true->(a.isSome=true)/\(a.isSome=true)/\(∃d,∃e f g,∃c,addrAdd a 0=some c/\V.at (c.add 0) (B d)/\V.at (c.add 1) (S e f g)/\(Ca V 191 #[A #[B d,S e f g]] fun p q=>∃i,p=I J i/\(Rt q R (I J i)))))/\((!a.isNone)=false->(((decide (b < (0:Int)))=true->(Rt V R (I J (-1))))/\((decide (b < (0:Int)))=false->(((decide (b > (0:Int)))=true->(Rt V R (I J 1)))/\((decide (b > (0:Int)))=false->(Rt V R (I J 0))))))))):
 Acts prog 179 #[A #[I J b,I J o,P a]] V R:=
 fd (LF:=LF0) (RF:=[1000010]) [] [] func179 h
theorem vc_frac_R_Zero (b e:Int) (a:OA) (V:View) (R:VR) (h:((a.isNone=true->(Rt V R (B (b == (0:Int)))))/\(a.isNone=false->(Rt V R (B false))))):
 Acts prog 216 #[A #[I J b,I J e,P a]] V R:=
 fd (LF:=LF0) (RF:=[1000010]) [] [] func216 h
theorem vc_frac_R_Cmp (a c:Int) (d:OA) (b e:Int) (f:OA) (V:View) (R:VR) (h:((d.isNone=true->((f.isNone=true->(((c == e)=true->(((decide (a < b))=true->(Rt V R (I J (-1))))/\((decide (a < b))=false->(((decide (a > b))=true->(Rt V R (I J 1)))/\((decide (a > b))=false->(Rt V R (I J 0)))))))/\((c == e)=false->(Ca V 75 #[A #[I J a,I J c,P d],A #[I J b,I J e,P f]] fun a1 a2=>∃l,∃m,∃n,a1=A #[I J l,I J m,P n]/\(Ca a2 179 #[A #[I J l,I J m,P n]] fun a3 a4=>∃o,a3=I J o/\(Rt a4 R (I J o)))))))/\(f.isNone=false->(Ca V 75 #[A #[I J a,I J c,P d],A #[I J b,I J e,P f]] fun a5 a6=>∃q,∃r,∃s,a5=A #[I J q,I J r,P s]/\(Ca a6 179 #[A #[I J q,I J r,P s]] fun a7 a8=>∃t,a7=I J t/\(Rt a8 R (I J t)))))))/\(d.isNone=false->(Ca V 75 #[A #[I J a,I J c,P d],A #[I J b,I J e,P f]] fun a9 b0=>∃w,∃x,∃y,a9=A #[I J w,I J x,P y]/\(Ca b0 179 #[A #[I J w,I J x,P y]] fun b1 b2=>∃z,b1=I J z/\(Rt b2 R (I J z))))))):
 Acts prog 129 #[A #[I J a,I J c,P d],A #[I J b,I J e,P f]] V R:=
 fd (LF:=LF0) (RF:=[1000010]) [] [] func129 h
theorem vc_frac_R_Equal (a b:Int) (c:OA) (d e:Int) (f:OA) (V:View) (R:VR) (h:(Ca V 129 #[A #[I J a,I J b,P c],A #[I J d,I J e,P f]] fun k l=>∃g,k=I J g/\(Rt l R (B (g == (0:Int)))))):
 Acts prog 178 #[A #[I J a,I J b,P c],A #[I J d,I J e,P f]] V R:=
 fd (LF:=LF0) (RF:=[1000010]) [] [] func178 h
theorem vc_frac_Gcd (c a:Int) (d:OA) (e b:Int) (f:OA) (V:View) (R:VR) (h:((d.isNone=true->((f.isNone=true->(((a == (0:Int))=true->(∃i:Unit->VP,(((b == (0:Int))=true->(Ca V 182 #[I J c] fun o5 o6=>∃k,o5=I U k/\(Ca o6 182 #[I J e] fun o7 o8=>∃l,o7=I U l/\(Ca o8 183 #[I U k,I U l] fun o9 p0=>∃m,o9=I U m/\(Rt p0 R (A #[I J (J.wrap m),I J 0,P none]))))))/\((b == (0:Int))=false->(∃p1:Unit,(s11 0 0 0 c a d e b f (0:Int) (0:Int) (((none:OA)=none)))/\i p1 V)))/\∀(p2:Unit) (g:View),V.Le g->i p2 g->(true=true/\(Ca g 139 #[A #[I J c,I J a,P d]] fun p3 p4=>∃o p q,p3=S o p q/\(Ca p4 139 #[A #[I J e,I J b,P f]] fun p5 p6=>∃r s t,p5=S r s t/\(Ca p6 141 #[S o p q,S r s t] fun p7 p8=>∃u w x,p7=S u w x/\(Ca p8 138 #[A #[I J c,I J a,P d]] fun p9 q0=>∃q1,∃y z a0,p9=A #[B q1,S y z a0]/\(Ca q0 139 #[A #[I J e,I J b,P f]] fun q2 q3=>∃a1 a2 a3,q2=S a1 a2 a3/\(Ca q3 141 #[S y z a0,S a1 a2 a3] fun q4 q5=>∃a4 a5 a6,q4=S a4 a5 a6/\(Ca q5 138 #[A #[I J e,I J b,P f]] fun q6 q7=>∃q8,∃a7 a8 a9,q6=A #[B q8,S a7 a8 a9]/\(Ca q7 139 #[A #[I J c,I J a,P d]] fun q9 r0=>∃b0 b1 b2,q9=S b0 b1 b2/\(Ca r0 141 #[S a7 a8 a9,S b0 b1 b2] fun r1 r2=>∃b3 b4 b5,r1=S b3 b4 b5/\(Ca r2 192 #[S a4 a5 a6,S b3 b4 b5] fun r3 r4=>∃b6 b7 b8,r3=S b6 b7 b8/\(Ca r4 140 #[A #[B false,S b6 b7 b8],S u w x] fun r5 r6=>∃b9,∃c0,∃c1,r5=A #[I J b9,I J c0,P c1]/\(Rt r6 R (A #[I J b9,I J c0,P c1]))))))))))))))))/\((a == (0:Int))=false->(Ca V 139 #[A #[I J c,I J a,P d]] fun r7 r8=>∃c3 c4 c5,r7=S c3 c4 c5/\(Ca r8 139 #[A #[I J e,I J b,P f]] fun r9 t0=>∃c6 c7 c8,r9=S c6 c7 c8/\(Ca t0 141 #[S c3 c4 c5,S c6 c7 c8] fun t1 t2=>∃c9 d0 d1,t1=S c9 d0 d1/\(Ca t2 138 #[A #[I J c,I J a,P d]] fun t3 t4=>∃t5,∃d2 d3 d4,t3=A #[B t5,S d2 d3 d4]/\(Ca t4 139 #[A #[I J e,I J b,P f]] fun t6 t7=>∃d5 d6 d7,t6=S d5 d6 d7/\(Ca t7 141 #[S d2 d3 d4,S d5 d6 d7] fun t8 t9=>∃d8 d9 e0,t8=S d8 d9 e0/\(Ca t9 138 #[A #[I J e,I J b,P f]] fun u0 u1=>∃u2,∃e1 e2 e3,u0=A #[B u2,S e1 e2 e3]/\(Ca u1 139 #[A #[I J c,I J a,P d]] fun u3 u4=>∃e4 e5 e6,u3=S e4 e5 e6/\(Ca u4 141 #[S e1 e2 e3,S e4 e5 e6] fun u5 u6=>∃e7 e8 e9,u5=S e7 e8 e9/\(Ca u6 192 #[S d8 d9 e0,S e7 e8 e9] fun u7 u8=>∃f0 f1 f2,u7=S f0 f1 f2/\(Ca u8 140 #[A #[B false,S f0 f1 f2],S c9 d0 d1] fun u9 w0=>∃f3,∃f4,∃f5,u9=A #[I J f3,I J f4,P f5]/\(Rt w0 R (A #[I J f3,I J f4,P f5]))))))))))))))))/\(f.isNone=false->(Ca V 139 #[A #[I J c,I J a,P d]] fun w1 w2=>∃f7 f8 f9,w1=S f7 f8 f9/\(Ca w2 139 #[A #[I J e,I J b,P f]] fun w3 w4=>∃g0 g1 g2,w3=S g0 g1 g2/\(Ca w4 141 #[S f7 f8 f9,S g0 g1 g2] fun w5 w6=>∃g3 g4 g5,w5=S g3 g4 g5/\(Ca w6 138 #[A #[I J c,I J a,P d]] fun w7 w8=>∃w9,∃g6 g7 g8,w7=A #[B w9,S g6 g7 g8]/\(Ca w8 139 #[A #[I J e,I J b,P f]] fun x0 x1=>∃g9 i0 i1,x0=S g9 i0 i1/\(Ca x1 141 #[S g6 g7 g8,S g9 i0 i1] fun x2 x3=>∃i2 i3 i4,x2=S i2 i3 i4/\(Ca x3 138 #[A #[I J e,I J b,P f]] fun x4 x5=>∃x6,∃i5 i6 i7,x4=A #[B x6,S i5 i6 i7]/\(Ca x5 139 #[A #[I J c,I J a,P d]] fun x7 x8=>∃i8 i9 k0,x7=S i8 i9 k0/\(Ca x8 141 #[S i5 i6 i7,S i8 i9 k0] fun x9 y0=>∃k1 k2 k3,x9=S k1 k2 k3/\(Ca y0 192 #[S i2 i3 i4,S k1 k2 k3] fun y1 y2=>∃k4 k5 k6,y1=S k4 k5 k6/\(Ca y2 140 #[A #[B false,S k4 k5 k6],S g3 g4 g5] fun y3 y4=>∃k7,∃k8,∃k9,y3=A #[I J k7,I J k8,P k9]/\(Rt y4 R (A #[I J k7,I J k8,P k9]))))))))))))))))/\(d.isNone=false->(Ca V 139 #[A #[I J c,I J a,P d]] fun y5 y6=>∃l1 l2 l3,y5=S l1 l2 l3/\(Ca y6 139 #[A #[I J e,I J b,P f]] fun y7 y8=>∃l4 l5 l6,y7=S l4 l5 l6/\(Ca y8 141 #[S l1 l2 l3,S l4 l5 l6] fun y9 z0=>∃l7 l8 l9,y9=S l7 l8 l9/\(Ca z0 138 #[A #[I J c,I J a,P d]] fun z1 z2=>∃z3,∃m0 m1 m2,z1=A #[B z3,S m0 m1 m2]/\(Ca z2 139 #[A #[I J e,I J b,P f]] fun z4 z5=>∃m3 m4 m5,z4=S m3 m4 m5/\(Ca z5 141 #[S m0 m1 m2,S m3 m4 m5] fun z6 z7=>∃m6 m7 m8,z6=S m6 m7 m8/\(Ca z7 138 #[A #[I J e,I J b,P f]] fun z8 z9=>∃a00,∃m9 n0 n1,z8=A #[B a00,S m9 n0 n1]/\(Ca z9 139 #[A #[I J c,I J a,P d]] fun a01 a02=>∃n2 n3 n4,a01=S n2 n3 n4/\(Ca a02 141 #[S m9 n0 n1,S n2 n3 n4] fun a03 a04=>∃n5 n6 n7,a03=S n5 n6 n7/\(Ca a04 192 #[S m6 m7 m8,S n5 n6 n7] fun a05 a06=>∃n8 n9 o0,a05=S n8 n9 o0/\(Ca a06 140 #[A #[B false,S n8 n9 o0],S l7 l8 l9] fun a07 a08=>∃o1,∃o2,∃o3,a07=A #[I J o1,I J o2,P o3]/\(Rt a08 R (A #[I J o1,I J o2,P o3])))))))))))))))):
 Acts prog 217 #[A #[I J c,I J a,P d],A #[I J e,I J b,P f]] V R:=
 fd (LF:=LF0) (RF:=[1000010]) [] [(2,⟨Unit,false,[2,3,4],[2,3,4],fun a09=>[],fun a09=>[]⟩)] func217 h
end Go.Proofs.Tryz
