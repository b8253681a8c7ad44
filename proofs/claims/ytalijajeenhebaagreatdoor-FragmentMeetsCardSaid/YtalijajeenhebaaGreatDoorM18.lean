/- A part of the proof (joined by program from: VMeet, MeetA, SetP, Row, RefJ). -/
import Derived.Test.YtalijajeenhebaaGreatDoorM5
import Derived.Test.YtalijajeenhebaaGreatDoorM17
import Derived.Test.YtalijajeenhebaaGreatDoorM6
import Derived.Test.YtalijajeenhebaaGreatDoorM16
set_option linter.unusedVariables false
open Go.IntKind (i64 u64 u32)
/- By program: the conditions of the functions, from their loaded code. -/
namespace Go.Proofs.Tryz
open Go.Eng
open Go.Value renaming int→I,pointer→P,slice→S,agg→A,bool→B,tuple→T
open Go.IntKind renaming i64→J,u64→U,u32→W
set_option maxRecDepth 100000
theorem vc_ref04_Cmp (c:Bool) (d:OA) (e f:Nat) (g:Bool) (i:OA) (k l:Nat) (m:Bool) (n:OA) (o p:Nat) (q:Bool) (r:OA) (s t:Nat) (u:Bool) (w:OA) (x y:Nat) (z:Bool) (a0:OA) (a1 a2:Nat) (V:View) (R:VR) (h:(Ca V 188 #[A #[B c,S d e f],A #[B q,S r s t]] fun a9 a3=>∃a,a9=I J a/\(((a != (0:Int))=true->(Rt a3 R (I J a)))/\((a != (0:Int))=false->(Ca a3 188 #[A #[B g,S i k l],A #[B u,S w x y]] fun b0 a5=>∃b,b0=I J b/\(((b != (0:Int))=true->(Rt a5 R (I J b)))/\((b != (0:Int))=false->(Ca a5 188 #[A #[B m,S n o p],A #[B z,S a0 a1 a2]] fun b1 b2=>∃a7,b1=I J a7/\(Rt b2 R (I J a7)))))))))):
 Acts prog 145 #[A #[B c,S d e f,B g,S i k l,B m,S n o p],A #[B q,S r s t,B u,S w x y,B z,S a0 a1 a2]] V R:=
 fd (LF:=LF0) (RF:=[1000007]) [] [] func145 h
theorem vc_ref04_Meet (i:Bool) (k:OA) (l m:Nat) (n:Bool) (o:OA) (p q:Nat) (r:Bool) (s:OA) (t u:Nat) (w:Bool) (x:OA) (y z:Nat) (a0:Bool) (a1:OA) (a2 a3:Nat) (a4:Bool) (a5:OA) (a6 a7:Nat) (V:View) (R:VR) (h:(Ca V 99 #[A #[B i,S k l m]] fun t6 t7=>∃a9,∃b0 b1 b2,∃b3 b4 b5,t6=A #[B a9,S b0 b1 b2,S b3 b4 b5]/\(Ca t7 99 #[A #[B a0,S a1 a2 a3]] fun t8 t9=>∃b6,∃b7 b8 b9,∃c0 c1 c2,t8=A #[B b6,S b7 b8 b9,S c0 c1 c2]/\(Ca t9 98 #[A #[B a9,S b0 b1 b2,S b3 b4 b5],A #[B b6,S b7 b8 b9,S c0 c1 c2]] fun u0 u1=>∃c3,∃c4 c5 c6,∃c7 c8 c9,u0=A #[B c3,S c4 c5 c6,S c7 c8 c9]/\(Ca u1 99 #[A #[B w,S x y z]] fun u2 u3=>∃d0,∃d1 d2 d3,∃d4 d5 d6,u2=A #[B d0,S d1 d2 d3,S d4 d5 d6]/\(Ca u3 99 #[A #[B n,S o p q]] fun u4 u5=>∃d7,∃d8 d9 e0,∃e1 e2 e3,u4=A #[B d7,S d8 d9 e0,S e1 e2 e3]/\(Ca u5 98 #[A #[B d0,S d1 d2 d3,S d4 d5 d6],A #[B d7,S d8 d9 e0,S e1 e2 e3]] fun u6 u7=>∃e4,∃e5 e6 e7,∃e8 e9 f0,u6=A #[B e4,S e5 e6 e7,S e8 e9 f0]/\(Ca u7 95 #[A #[B c3,S c4 c5 c6,S c7 c8 c9],A #[B e4,S e5 e6 e7,S e8 e9 f0]] fun u8 u9=>∃a,∃b c d,∃e f g,u8=A #[B a,S b c d,S e f g]/\(Ca u9 44 #[A #[B a,S b c d,S e f g]] fun w0 f1=>∃a8,w0=I J a8/\(((a8 == (0:Int))=true->(Rt f1 R (T #[A #[B false,S none 0 0,S none 0 0,B false,S none 0 0,S none 0 0],B false])))/\((a8 == (0:Int))=false->(Ca f1 99 #[A #[B n,S o p q]] fun w1 w2=>∃f3,∃f4 f5 f6,∃f7 f8 f9,w1=A #[B f3,S f4 f5 f6,S f7 f8 f9]/\(Ca w2 99 #[A #[B a4,S a5 a6 a7]] fun w3 w4=>∃g0,∃g1 g2 g3,∃g4 g5 g6,w3=A #[B g0,S g1 g2 g3,S g4 g5 g6]/\(Ca w4 98 #[A #[B f3,S f4 f5 f6,S f7 f8 f9],A #[B g0,S g1 g2 g3,S g4 g5 g6]] fun w5 w6=>∃g7,∃g8 g9 i0,∃i1 i2 i3,w5=A #[B g7,S g8 g9 i0,S i1 i2 i3]/\(Ca w6 99 #[A #[B a0,S a1 a2 a3]] fun w7 w8=>∃i4,∃i5 i6 i7,∃i8 i9 k0,w7=A #[B i4,S i5 i6 i7,S i8 i9 k0]/\(Ca w8 99 #[A #[B r,S s t u]] fun w9 x0=>∃k1,∃k2 k3 k4,∃k5 k6 k7,w9=A #[B k1,S k2 k3 k4,S k5 k6 k7]/\(Ca x0 98 #[A #[B i4,S i5 i6 i7,S i8 i9 k0],A #[B k1,S k2 k3 k4,S k5 k6 k7]] fun x1 x2=>∃k8,∃k9 l0 l1,∃l2 l3 l4,x1=A #[B k8,S k9 l0 l1,S l2 l3 l4]/\(Ca x2 95 #[A #[B g7,S g8 g9 i0,S i1 i2 i3],A #[B k8,S k9 l0 l1,S l2 l3 l4]] fun x3 x4=>∃l5,∃l6 l7 l8,∃l9 m0 m1,x3=A #[B l5,S l6 l7 l8,S l9 m0 m1]/\(Ca x4 99 #[A #[B w,S x y z]] fun x5 x6=>∃m2,∃m3 m4 m5,∃m6 m7 m8,x5=A #[B m2,S m3 m4 m5,S m6 m7 m8]/\(Ca x6 99 #[A #[B r,S s t u]] fun x7 x8=>∃m9,∃n0 n1 n2,∃n3 n4 n5,x7=A #[B m9,S n0 n1 n2,S n3 n4 n5]/\(Ca x8 98 #[A #[B m2,S m3 m4 m5,S m6 m7 m8],A #[B m9,S n0 n1 n2,S n3 n4 n5]] fun x9 y0=>∃n6,∃n7 n8 n9,∃o0 o1 o2,x9=A #[B n6,S n7 n8 n9,S o0 o1 o2]/\(Ca y0 99 #[A #[B i,S k l m]] fun y1 y2=>∃o3,∃o4 o5 o6,∃o7 o8 o9,y1=A #[B o3,S o4 o5 o6,S o7 o8 o9]/\(Ca y2 99 #[A #[B a4,S a5 a6 a7]] fun y3 y4=>∃p0,∃p1 p2 p3,∃p4 p5 p6,y3=A #[B p0,S p1 p2 p3,S p4 p5 p6]/\(Ca y4 98 #[A #[B o3,S o4 o5 o6,S o7 o8 o9],A #[B p0,S p1 p2 p3,S p4 p5 p6]] fun y5 y6=>∃p7,∃p8 p9 q0,∃q1 q2 q3,y5=A #[B p7,S p8 p9 q0,S q1 q2 q3]/\(Ca y6 95 #[A #[B n6,S n7 n8 n9,S o0 o1 o2],A #[B p7,S p8 p9 q0,S q1 q2 q3]] fun y7 y8=>∃q4,∃q5 q6 q7,∃q8 q9 r0,y7=A #[B q4,S q5 q6 q7,S q8 q9 r0]/\(Ca y8 111 #[A #[B l5,S l6 l7 l8,S l9 m0 m1],A #[B a,S b c d,S e f g]] fun y9 z0=>∃r1,∃r2 r3 r4,∃r5 r6 r7,y9=A #[B r1,S r2 r3 r4,S r5 r6 r7]/\(Ca z0 111 #[A #[B q4,S q5 q6 q7,S q8 q9 r0],A #[B a,S b c d,S e f g]] fun z1 z2=>∃r8,∃r9 t0 t1,∃t2 t3 t4,z1=A #[B r8,S r9 t0 t1,S t2 t3 t4]/\(Rt z2 R (T #[A #[B r1,S r2 r3 r4,S r5 r6 r7,B r8,S r9 t0 t1,S t2 t3 t4],B true]))))))))))))))))))))))))))))):
 Acts prog 85 #[A #[B i,S k l m,B n,S o p q,B r,S s t u],A #[B w,S x y z,B a0,S a1 a2 a3,B a4,S a5 a6 a7]] V R:=
 fd (LF:=LF0) (RF:=[1000007]) [] [] func85 h
theorem vc_ref06_Ends (u:Bool) (w:OA) (x y:Nat) (z:Bool) (a0:OA) (a1 a2:Nat) (a3:Bool) (a4:OA) (a5 a6:Nat) (f1:Bool) (f2:OA) (f3 f4:Nat) (f5:OA) (f6 f7:Nat) (d6:Bool) (d7:OA) (d8 d9:Nat) (e0:OA) (e1 e2:Nat) (e3 q:Bool) (V:View) (R:VR) (h:(((!e3)=true->(Ca V 19 #[A #[B u,S w x y,B z,S a0 a1 a2,B a3,S a4 a5 a6],A #[B f1,S f2 f3 f4,S f5 f6 f7]] fun g5 e4=>∃a,∃b c d,∃e f g,∃i,∃k l m,∃n o p,g5=A #[B a,S b c d,S e f g,B i,S k l m,S n o p]/\(∃r:List Value,e4.sl none r/\r.length=0 * 6/\0<=0/\((none:OA).isNone=true->0=0)/\((0 + 1) * 112<=140737488355328/\0 < 0 + 1/\([B a,S b c d,S e f g,B i,S k l m,S n o p]:List Value).length=1 * 6/\(∀s ∈ ([B a,S b c d,S e f g,B i,S k l m,S n o p]:List Value),s.oneCell'=true)/\∀(a7:List Value) (t:Nat),0 + 1<=t->t * 6<=(0 + 1) * 6 + a7.length->(((!q)=true->(Ca e4 19 #[A #[B u,S w x y,B z,S a0 a1 a2,B a3,S a4 a5 a6],A #[B d6,S d7 d8 d9,S e0 e1 e2]] fun g6 g7=>∃a8,∃a9 b0 b1,∃b2 b3 b4,∃b5,∃b6 b7 b8,∃b9 c0 c1,g6=A #[B a8,S a9 b0 b1,S b2 b3 b4,B b5,S b6 b7 b8,S b9 c0 c1]/\(((0 + 1) + 1) * 112<=140737488355328/\0 + 1<=t/\t * 6<=(r++([B a,S b c d,S e f g,B i,S k l m,S n o p]:List Value)++a7).length/\([B a8,S a9 b0 b1,S b2 b3 b4,B b5,S b6 b7 b8,S b9 c0 c1]:List Value).length=1 * 6/\(∀s ∈ ([B a8,S a9 b0 b1,S b2 b3 b4,B b5,S b6 b7 b8,S b9 c0 c1]:List Value),s.oneCell'=true)/\∀(g9:Nat) (i0:C->Value) (f8:List Value) (e5:Nat),(0 + 1) + 1<=e5->e5 * 6<=((0 + 1) + 1) * 6 + f8.length->(∀e6,g7.Le e6->∀f9:Nat,(e6.blk f9 (.cells ((r++([B a,S b c d,S e f g,B i,S k l m,S n o p]:List Value)++a7).take ((0 + 1) * 6)++([B a8,S a9 b0 b1,S b2 b3 b4,B b5,S b6 b7 b8,S b9 c0 c1]:List Value)++f8).toArray 32 (0,0)))->R (S (some ⟨f9,0,none⟩) ((0 + 1) + 1) e5) e6))))/\((!q)=false->(∀e7,e4.Le e7->∀g0:Nat,(e7.blk g0 (.cells (r++([B a,S b c d,S e f g,B i,S k l m,S n o p]:List Value)++a7).toArray 32 (0,0)))->R (S (some ⟨g0,0,none⟩) (0 + 1) t) e7)))))))/\((!e3)=false->(((!q)=true->(Ca V 19 #[A #[B u,S w x y,B z,S a0 a1 a2,B a3,S a4 a5 a6],A #[B d6,S d7 d8 d9,S e0 e1 e2]] fun g8 g1=>∃c2,∃c3 c4 c5,∃c6 c7 c8,∃c9,∃d0 d1 d2,∃d3 d4 d5,g8=A #[B c2,S c3 c4 c5,S c6 c7 c8,B c9,S d0 d1 d2,S d3 d4 d5]/\(∃e8:List Value,g1.sl none e8/\e8.length=0 * 6/\0<=0/\((none:OA).isNone=true->0=0)/\((0 + 1) * 112<=140737488355328/\0 < 0 + 1/\([B c2,S c3 c4 c5,S c6 c7 c8,B c9,S d0 d1 d2,S d3 d4 d5]:List Value).length=1 * 6/\(∀s ∈ ([B c2,S c3 c4 c5,S c6 c7 c8,B c9,S d0 d1 d2,S d3 d4 d5]:List Value),s.oneCell'=true)/\∀(g2:List Value) (e9:Nat),0 + 1<=e9->e9 * 6<=(0 + 1) * 6 + g2.length->(∀f0,g1.Le f0->∀g3:Nat,(f0.blk g3 (.cells (e8++([B c2,S c3 c4 c5,S c6 c7 c8,B c9,S d0 d1 d2,S d3 d4 d5]:List Value)++g2).toArray 32 (0,0)))->R (S (some ⟨g3,0,none⟩) (0 + 1) e9) f0)))))/\((!q)=false->(Rt V R (S none 0 0))))))):
 Acts prog 86 #[A #[B u,S w x y,B z,S a0 a1 a2,B a3,S a4 a5 a6,B f1,S f2 f3 f4,S f5 f6 f7,B d6,S d7 d8 d9,S e0 e1 e2,B e3,B q]] V R:=
 fd (LF:=LF0) (RF:=[1000007]) [] [] func86 h
theorem vc_ref06_Collinear (a:Bool) (b:OA) (c d:Nat) (e:Bool) (f:OA) (g i:Nat) (k:Bool) (l:OA) (m n:Nat) (o:Bool) (p:OA) (q r:Nat) (s:Bool) (t:OA) (u w:Nat) (x:Bool) (y:OA) (z a0:Nat) (V:View) (R:VR) (h:(Ca V 145 #[A #[B a,S b c d,B e,S f g i,B k,S l m n],A #[B o,S p q r,B s,S t u w,B x,S y z a0]] fun b8 a2=>∃a1,b8=I J a1/\(((a1 == (0:Int))=true->(Rt a2 R (B true)))/\((a1 == (0:Int))=false->(Ca a2 73 #[A #[B o,S p q r,B s,S t u w,B x,S y z a0]] fun b9 c0=>∃a4,∃a5 a6 a7,∃a8,∃a9 b0 b1,∃b2,∃b3 b4 b5,b9=A #[B a4,S a5 a6 a7,B a8,S a9 b0 b1,B b2,S b3 b4 b5]/\(Ca c0 145 #[A #[B a,S b c d,B e,S f g i,B k,S l m n],A #[B a4,S a5 a6 a7,B a8,S a9 b0 b1,B b2,S b3 b4 b5]] fun c1 c2=>∃b6,c1=I J b6/\(Rt c2 R (B (b6 == (0:Int)))))))))):
 Acts prog 84 #[A #[B a,S b c d,B e,S f g i,B k,S l m n],A #[B o,S p q r,B s,S t u w,B x,S y z a0]] V R:=
 fd (LF:=LF0) (RF:=[1000007]) [] [] func84 h
theorem vc_ref06_onto (a6:Bool) (a7:OA) (a8 a9:Nat) (b0:Bool) (b1:OA) (b2 b3:Nat) (b4:Bool) (b5:OA) (b6 b7:Nat) (a:Bool) (b:OA) (c d:Nat) (e:Bool) (f:OA) (g i:Nat) (k:Bool) (l:OA) (m n:Nat) (o:Bool) (p:OA) (q r:Nat) (s:OA) (t u:Nat) (w:Bool) (x:OA) (y z:Nat) (a0:OA) (a1 a2:Nat) (a3 a4:Bool) (V:View) (R:VR) (h:(Ca V 145 #[A #[B a6,S a7 a8 a9,B b0,S b1 b2 b3,B b4,S b5 b6 b7],A #[B a,S b c d,B e,S f g i,B k,S l m n]] fun d7 b8=>∃a5,d7=I J a5/\(((a5 == (0:Int))=true->(Rt b8 R (A #[B o,S p q r,S s t u,B w,S x y z,S a0 a1 a2,B a3,B a4])))/\((a5 == (0:Int))=false->(Ca b8 25 #[A #[B a,S b c d,B e,S f g i,B k,S l m n,B o,S p q r,S s t u,B w,S x y z,S a0 a1 a2,B a3,B a4]] fun d8 d9=>∃e0,∃e1 e2 e3,∃e4,∃e5 e6 e7,∃e8,∃e9 f0 f1,∃c0,∃c1 c2 c3,∃c4 c5 c6,∃c7,∃c8 c9 d0,∃d1 d2 d3,∃d4,∃d5,d8=A #[B e0,S e1 e2 e3,B e4,S e5 e6 e7,B e8,S e9 f0 f1,B c0,S c1 c2 c3,S c4 c5 c6,B c7,S c8 c9 d0,S d1 d2 d3,B d4,B d5]/\(Rt d9 R (A #[B c0,S c1 c2 c3,S c4 c5 c6,B c7,S c8 c9 d0,S d1 d2 d3,B d4,B d5]))))))):
 Acts prog 89 #[A #[B a6,S a7 a8 a9,B b0,S b1 b2 b3,B b4,S b5 b6 b7],A #[B a,S b c d,B e,S f g i,B k,S l m n,B o,S p q r,S s t u,B w,S x y z,S a0 a1 a2,B a3,B a4]] V R:=
 fd (LF:=LF0) (RF:=[1000007]) [] [] func89 h
theorem vc_ref06_Overlap (c:Bool) (d:OA) (e f:Nat) (g:Bool) (i:OA) (k l:Nat) (m:Bool) (n:OA) (o p:Nat) (a7:Bool) (a8:OA) (a9 b0:Nat) (b1:OA) (b2 b3:Nat) (b4:Bool) (b5:OA) (b6 b7:Nat) (b8:OA) (b9 c0:Nat) (c1 c2 s:Bool) (t:OA) (u w:Nat) (x:Bool) (y:OA) (z a0:Nat) (a1:Bool) (a2:OA) (a3 a4:Nat) (c3:Bool) (c4:OA) (c5 c6:Nat) (c7:OA) (c8 c9:Nat) (d0:Bool) (d1:OA) (d2 d3:Nat) (d4:OA) (d5 d6:Nat) (d7 d8:Bool) (V:View) (R:VR) (h:(Ca V 84 #[A #[B c,S d e f,B g,S i k l,B m,S n o p],A #[B s,S t u w,B x,S y z a0,B a1,S a2 a3 a4]] fun i7 d9=>∃a5,i7=B a5/\(((!a5)=true->(Rt d9 R (T #[A #[B false,S none 0 0,B false,S none 0 0,B false,S none 0 0,B false,S none 0 0,S none 0 0,B false,S none 0 0,S none 0 0,B false,B false],B false])))/\((!a5)=false->(Ca d9 89 #[A #[B c,S d e f,B g,S i k l,B m,S n o p],A #[B s,S t u w,B x,S y z a0,B a1,S a2 a3 a4,B c3,S c4 c5 c6,S c7 c8 c9,B d0,S d1 d2 d3,S d4 d5 d6,B d7,B d8]] fun i8 i9=>∃e1,∃e2 e3 e4,∃e5 e6 e7,∃e8,∃e9 f0 f1,∃f2 f3 f4,∃f5,∃f6,i8=A #[B e1,S e2 e3 e4,S e5 e6 e7,B e8,S e9 f0 f1,S f2 f3 f4,B f5,B f6]/\(∀q,i9.Le q->∀f7 f8:Nat,(q.blk f7 (.cells #[B a7,S a8 a9 b0,S b1 b2 b3,B b4,S b5 b6 b7,S b8 b9 c0,B c1,B c2] 53 (0,0)))->(q.blk f8 (.cells #[B e1,S e2 e3 e4,S e5 e6 e7,B e8,S e9 f0 f1,S f2 f3 f4,B f5,B f6] 53 (0,0)))->Acts prog 88 #[I J 2,S (some ⟨f7,0,none⟩) 1 1,S (some ⟨f8,0,none⟩) 1 1] q fun k0 a=>∃a6 r k1,k0=S a6 r k1/\∀k2:C->Value,((((r:Int) == (0:Int))=true->(Rt a R (T #[A #[B false,S none 0 0,B false,S none 0 0,B false,S none 0 0,B false,S none 0 0,S none 0 0,B false,S none 0 0,S none 0 0,B false,B false],B false])))/\(((r:Int) == (0:Int))=false->(a6.isSome=true)/\(0<=(0:Int)/\(0:Int) < (r:Int))/\(∃g0,∃g1 g2 g3,∃g4 g5 g6,∃g7,∃g8 g9 i0,∃i1 i2 i3,∃i4,∃i5,∃b,addrAdd a6 0=some b/\a.at (b.add 0) (B g0)/\a.at (b.add 1) (S g1 g2 g3)/\a.at (b.add 2) (S g4 g5 g6)/\a.at (b.add 3) (B g7)/\a.at (b.add 4) (S g8 g9 i0)/\a.at (b.add 5) (S i1 i2 i3)/\a.at (b.add 6) (B i4)/\a.at (b.add 7) (B i5)/\(Rt a R (T #[A #[B c,S d e f,B g,S i k l,B m,S n o p,B g0,S g1 g2 g3,S g4 g5 g6,B g7,S g8 g9 i0,S i1 i2 i3,B i4,B i5],B true]))))))))))):
 Acts prog 38 #[A #[B c,S d e f,B g,S i k l,B m,S n o p,B a7,S a8 a9 b0,S b1 b2 b3,B b4,S b5 b6 b7,S b8 b9 c0,B c1,B c2],A #[B s,S t u w,B x,S y z a0,B a1,S a2 a3 a4,B c3,S c4 c5 c6,S c7 c8 c9,B d0,S d1 d2 d3,S d4 d5 d6,B d7,B d8]] V R:=
 fd (LF:=LF0) (RF:=[88,1000007]) [] [] func38 h
theorem vc_ref06_Meet (w:Bool) (x:OA) (y z:Nat) (a0:Bool) (a1:OA) (a2 a3:Nat) (a4:Bool) (a5:OA) (a6 a7:Nat) (d7:Bool) (d8:OA) (d9 e0:Nat) (e1:OA) (e2 e3:Nat) (e4:Bool) (e5:OA) (e6 e7:Nat) (e8:OA) (e9 f0:Nat) (f1 f2 a:Bool) (f:OA) (g i:Nat) (b:Bool) (k:OA) (l m:Nat) (d:Bool) (n:OA) (o p:Nat) (q:Bool) (a8:OA) (a9 b0:Nat) (b1:OA) (b2 b3:Nat) (r:Bool) (b4:OA) (b5 b6:Nat) (b7:OA) (b8 b9:Nat) (c0 c1:Bool) (V:View) (R:VR) (h:(Ca V 84 #[A #[B w,S x y z,B a0,S a1 a2 a3,B a4,S a5 a6 a7],A #[B a,S f g i,B b,S k l m,B d,S n o p]] fun l1 i5=>∃f3,l1=B f3/\(((!f3)=true->(Ca i5 85 #[A #[B w,S x y z,B a0,S a1 a2 a3,B a4,S a5 a6 a7],A #[B a,S f g i,B b,S k l m,B d,S n o p]] fun l2 i6=>∃c2,∃c3 c4 c5,∃c6 c7 c8,∃c9,∃d0 d1 d2,∃d3 d4 d5,∃f4,l2=T #[A #[B c2,S c3 c4 c5,S c6 c7 c8,B c9,S d0 d1 d2,S d3 d4 d5],B f4]/\((f4=true->(Ca i6 24 #[A #[B w,S x y z,B a0,S a1 a2 a3,B a4,S a5 a6 a7,B d7,S d8 d9 e0,S e1 e2 e3,B e4,S e5 e6 e7,S e8 e9 f0,B f1,B f2],A #[B c2,S c3 c4 c5,S c6 c7 c8,B c9,S d0 d1 d2,S d3 d4 d5]] fun l3 i7=>∃f5,l3=B f5/\((f5=true->(Ca i7 24 #[A #[B a,S f g i,B b,S k l m,B d,S n o p,B q,S a8 a9 b0,S b1 b2 b3,B r,S b4 b5 b6,S b7 b8 b9,B c0,B c1],A #[B c2,S c3 c4 c5,S c6 c7 c8,B c9,S d0 d1 d2,S d3 d4 d5]] fun l4 l5=>∃i8,l4=B i8/\(Rt l5 R (T #[A #[B c2,S c3 c4 c5,S c6 c7 c8,B c9,S d0 d1 d2,S d3 d4 d5],B i8]))))/\(f5=false->(Rt i7 R (T #[A #[B c2,S c3 c4 c5,S c6 c7 c8,B c9,S d0 d1 d2,S d3 d4 d5],B false]))))))/\(f4=false->(Rt i6 R (T #[A #[B c2,S c3 c4 c5,S c6 c7 c8,B c9,S d0 d1 d2,S d3 d4 d5],B false]))))))/\((!f3)=false->(Ca i5 38 #[A #[B w,S x y z,B a0,S a1 a2 a3,B a4,S a5 a6 a7,B d7,S d8 d9 e0,S e1 e2 e3,B e4,S e5 e6 e7,S e8 e9 f0,B f1,B f2],A #[B a,S f g i,B b,S k l m,B d,S n o p,B q,S a8 a9 b0,S b1 b2 b3,B r,S b4 b5 b6,S b7 b8 b9,B c0,B c1]] fun l6 k2=>∃l7,∃l8 l9 m0,∃m1,∃m2 m3 m4,∃m5,∃m6 m7 m8,∃m9,∃n0 n1 n2,∃n3 n4 n5,∃n6,∃n7 n8 n9,∃o0 o1 o2,∃o3,∃o4,∃f6,l6=T #[A #[B l7,S l8 l9 m0,B m1,S m2 m3 m4,B m5,S m6 m7 m8,B m9,S n0 n1 n2,S n3 n4 n5,B n6,S n7 n8 n9,S o0 o1 o2,B o3,B o4],B f6]/\((f6=true->(Rt k2 R (T #[A #[B false,S none 0 0,S none 0 0,B false,S none 0 0,S none 0 0],B false])))/\(f6=false->(Ca k2 86 #[A #[B w,S x y z,B a0,S a1 a2 a3,B a4,S a5 a6 a7,B d7,S d8 d9 e0,S e1 e2 e3,B e4,S e5 e6 e7,S e8 e9 f0,B f1,B f2]] fun o5 k4=>∃d6 s f7,o5=S d6 s f7/\(∃(f8:Int->VP) (k5:Int->Nat),(∃k6:Int,(s6 0 0 d6 s f7 (s:Int) (((0:Int)=k6)/\s12 a f g i b k l m d n o p (s12 q a8 a9 b0 b1 b2 b3 r b4 b5 b6 b7 (s12 b8 b9 c0 c1 (none:OA) 0 0 (none:OA) 0 0 (none:OA) 0 (s3 0 (none:OA) 0 (sm 0))))))/\f8 k6 k4)/\∀(t:Int) (e:View),k4.Le e->f8 t e->(true=true/\(((decide (t < (s:Int)))=true->(d6.isSome=true)/\(0<=t/\t < (s:Int))/\(∃f9,∃g0 g1 g2,∃g3 g4 g5,∃g6,∃g7 g8 g9,∃i0 i1 i2,∃u,addrAdd d6 (t.toNat * 6)=some u/\e.at (u.add 0) (B f9)/\e.at (u.add 1) (S g0 g1 g2)/\e.at (u.add 2) (S g3 g4 g5)/\e.at (u.add 3) (B g6)/\e.at (u.add 4) (S g7 g8 g9)/\e.at (u.add 5) (S i0 i1 i2)/\(Ca e 24 #[A #[B a,S f g i,B b,S k l m,B d,S n o p,B q,S a8 a9 b0,S b1 b2 b3,B r,S b4 b5 b6,S b7 b8 b9,B c0,B c1],A #[B f9,S g0 g1 g2,S g3 g4 g5,B g6,S g7 g8 g9,S i0 i1 i2]] fun o6 k7=>∃i3,o6=B i3/\((i3=true->(Rt k7 R (T #[A #[B f9,S g0 g1 g2,S g3 g4 g5,B g6,S g7 g8 g9,S i0 i1 i2],B true])))/\(i3=false->(∃i4:Int,k5 i4 < k5 t/\(s6 0 0 d6 s f7 (s:Int) (((J.wrap (t + (1:Int)))=i4)/\s12 a f g i b k l m d n o p (s12 q a8 a9 b0 b1 b2 b3 r b4 b5 b6 b7 (s12 b8 b9 c0 c1 (none:OA) 0 0 (none:OA) 0 0 (none:OA) 0 (s3 0 (none:OA) 0 (sm 0))))))/\f8 i4 k7))))))/\((decide (t < (s:Int)))=false->(Rt e R (T #[A #[B false,S none 0 0,S none 0 0,B false,S none 0 0,S none 0 0],B false])))))))))))))):
 Acts prog 36 #[A #[B w,S x y z,B a0,S a1 a2 a3,B a4,S a5 a6 a7,B d7,S d8 d9 e0,S e1 e2 e3,B e4,S e5 e6 e7,S e8 e9 f0,B f1,B f2],A #[B a,S f g i,B b,S k l m,B d,S n o p,B q,S a8 a9 b0,S b1 b2 b3,B r,S b4 b5 b6,S b7 b8 b9,B c0,B c1]] V R:=
 fd (LF:=LF0) (RF:=[1000007]) [(8,⟨Int,false,[3,4,47,48],[3,4],fun l0=>[(49,.c (.v (I J l0)))],fun l0=>[]⟩)] [] func36 h
theorem vc_geo_Fr_Overlap (a b:Int) (c:OA) (d e:Int) (f:OA) (g i:Int) (k:OA) (n o:Int) (p:OA) (q r:Int) (s:OA) (t u:Bool) (w x:Int) (y:OA) (z a0:Int) (a1:OA) (a2 a3:Int) (a4:OA) (a5 a6:Int) (a7:OA) (a8 a9:Int) (b0:OA) (b1 b2:Bool) (V:View) (R:VR) (h:(Ca V 141 #[A #[I J w,I J x,P y,I J z,I J a0,P a1,I J a2,I J a3,P a4,I J a5,I J a6,P a7,I J a8,I J a9,P b0,B b1,B b2],A #[I J a,I J b,P c,I J d,I J e,P f,I J g,I J i,P k]] fun d4 b3=>∃b4,∃b5,∃b6,∃b7,∃b8,∃b9,∃c0,∃c1,∃l,d4=T #[A #[I J b4,I J b5,P b6,I J b7,I J b8,P b9,B c0,B c1],B l]/\(((!l)=true->(Rt b3 R (T #[A #[I J 0,I J 0,P none,I J 0,I J 0,P none,I J 0,I J 0,P none,I J 0,I J 0,P none,I J 0,I J 0,P none,B false,B false],B false])))/\((!l)=false->(Ca b3 146 #[A #[I J n,I J o,P p,I J q,I J r,P s,B t,B u],A #[I J b4,I J b5,P b6,I J b7,I J b8,P b9,B c0,B c1]] fun d5 c3=>∃c4,∃c5,∃c6,∃c7,∃c8,∃c9,∃d0,∃d1,∃m,d5=T #[A #[I J c4,I J c5,P c6,I J c7,I J c8,P c9,B d0,B d1],B m]/\(((!m)=true->(Rt c3 R (T #[A #[I J 0,I J 0,P none,I J 0,I J 0,P none,I J 0,I J 0,P none,I J 0,I J 0,P none,I J 0,I J 0,P none,B false,B false],B false])))/\((!m)=false->(Rt c3 R (T #[A #[I J a,I J b,P c,I J d,I J e,P f,I J g,I J i,P k,I J c4,I J c5,P c6,I J c7,I J c8,P c9,B d0,B d1],B true]))))))))):
 Acts prog 87 #[A #[I J a,I J b,P c,I J d,I J e,P f,I J g,I J i,P k,I J n,I J o,P p,I J q,I J r,P s,B t,B u],A #[I J w,I J x,P y,I J z,I J a0,P a1,I J a2,I J a3,P a4,I J a5,I J a6,P a7,I J a8,I J a9,P b0,B b1,B b2]] V R:=
 fd (LF:=LF0) (RF:=[1000007]) [] [] func87 h
theorem vc_fragment_Overlap (e:Bool) (f:OA) (g i:Nat) (k:Bool) (l:OA) (m n:Nat) (o:Bool) (p:OA) (q r:Nat) (s:Bool) (t:OA) (u w:Nat) (x:OA) (y z:Nat) (a0:Bool) (a1:OA) (a2 a3:Nat) (a4:OA) (a5 a6:Nat) (a7 a8 a9:Bool) (b0:OA) (b1 b2:Nat) (b3:Bool) (b4:OA) (b5 b6:Nat) (b7:Bool) (b8:OA) (b9 c0:Nat) (c1:Bool) (c2:OA) (c3 c4:Nat) (c5:OA) (c6 c7:Nat) (c8:Bool) (c9:OA) (d0 d1:Nat) (d2:OA) (d3 d4:Nat) (d5 d6:Bool) (V:View) (R:VR) (h:(Ca V 66 #[A #[B e,S f g i,B k,S l m n,B o,S p q r,B s,S t u w,S x y z,B a0,S a1 a2 a3,S a4 a5 a6,B a7,B a8]] fun o5 o6=>∃d7,∃d8,∃d9,∃e0,∃e1,∃e2,∃e3,∃e4,∃e5,∃e6,∃e7,∃e8,∃e9,∃f0,∃f1,∃f2,∃f3,∃b,o5=T #[A #[I J d7,I J d8,P d9,I J e0,I J e1,P e2,I J e3,I J e4,P e5,I J e6,I J e7,P e8,I J e9,I J f0,P f1,B f2,B f3],B b]/\(Ca o6 66 #[A #[B a9,S b0 b1 b2,B b3,S b4 b5 b6,B b7,S b8 b9 c0,B c1,S c2 c3 c4,S c5 c6 c7,B c8,S c9 d0 d1,S d2 d3 d4,B d5,B d6]] fun o7 a=>∃f4,∃f5,∃f6,∃f7,∃f8,∃f9,∃g0,∃g1,∃g2,∃g3,∃g4,∃g5,∃g6,∃g7,∃g8,∃g9,∃i0,∃c,o7=T #[A #[I J f4,I J f5,P f6,I J f7,I J f8,P f9,I J g0,I J g1,P g2,I J g3,I J g4,P g5,I J g6,I J g7,P g8,B g9,B i0],B c]/\(((!b)=true->(∃i1,(∃i2,(some ⟨0,0,none⟩:OA)=some i2/\a.at i2 (i1))/\(Rt a R (T #[A #[B false,S none 0 0,B false,S none 0 0,B false,S none 0 0,B false,S none 0 0,S none 0 0,B false,S none 0 0,S none 0 0,B false,B false],B false,i1]))))/\((!b)=false->(((!c)=true->(∃i4,(∃i5,(some ⟨0,0,none⟩:OA)=some i5/\a.at i5 (i4))/\(Rt a R (T #[A #[B false,S none 0 0,B false,S none 0 0,B false,S none 0 0,B false,S none 0 0,S none 0 0,B false,S none 0 0,S none 0 0,B false,B false],B false,i4]))))/\((!c)=false->(Ca a 87 #[A #[I J d7,I J d8,P d9,I J e0,I J e1,P e2,I J e3,I J e4,P e5,I J e6,I J e7,P e8,I J e9,I J f0,P f1,B f2,B f3],A #[I J f4,I J f5,P f6,I J f7,I J f8,P f9,I J g0,I J g1,P g2,I J g3,I J g4,P g5,I J g6,I J g7,P g8,B g9,B i0]] fun o8 i7=>∃i8,∃i9,∃k0,∃k1,∃k2,∃k3,∃k4,∃k5,∃k6,∃k7,∃k8,∃k9,∃l0,∃l1,∃l2,∃l3,∃l4,∃d,o8=T #[A #[I J i8,I J i9,P k0,I J k1,I J k2,P k3,I J k4,I J k5,P k6,I J k7,I J k8,P k9,I J l0,I J l1,P l2,B l3,B l4],B d]/\(((!d)=true->(Rt i7 R (T #[A #[B false,S none 0 0,B false,S none 0 0,B false,S none 0 0,B false,S none 0 0,S none 0 0,B false,S none 0 0,S none 0 0,B false,B false],B false,.nilIface])))/\((!d)=false->(Ca i7 49 #[A #[I J i8,I J i9,P k0,I J k1,I J k2,P k3,I J k4,I J k5,P k6,I J k7,I J k8,P k9,I J l0,I J l1,P l2,B l3,B l4]] fun o9 p0=>∃l6,∃l7 l8 l9,∃m0,∃m1 m2 m3,∃m4,∃m5 m6 m7,∃m8,∃m9 n0 n1,∃n2 n3 n4,∃n5,∃n6 n7 n8,∃n9 o0 o1,∃o2,∃o3,o9=A #[B l6,S l7 l8 l9,B m0,S m1 m2 m3,B m4,S m5 m6 m7,B m8,S m9 n0 n1,S n2 n3 n4,B n5,S n6 n7 n8,S n9 o0 o1,B o2,B o3]/\(Rt p0 R (T #[A #[B l6,S l7 l8 l9,B m0,S m1 m2 m3,B m4,S m5 m6 m7,B m8,S m9 n0 n1,S n2 n3 n4,B n5,S n6 n7 n8,S n9 o0 o1,B o2,B o3],B true,.nilIface]))))))))))))):
 Acts prog 37 #[A #[B e,S f g i,B k,S l m n,B o,S p q r,B s,S t u w,S x y z,B a0,S a1 a2 a3,S a4 a5 a6,B a7,B a8],A #[B a9,S b0 b1 b2,B b3,S b4 b5 b6,B b7,S b8 b9 c0,B c1,S c2 c3 c4,S c5 c6 c7,B c8,S c9 d0 d1,S d2 d3 d4,B d5,B d6]] V R:=
 fd (LF:=LF0) (RF:=[1000007]) [] [] func37 h
end Go.Proofs.Tryz
/- Contracts of the reference: Compare, Cmp, Collinear, the common point of two lines, onto (printed by mkma.py). -/
namespace Go.Proofs.Tryz
open Go.Eng Go.Big
theorem c_num_Compare {V:View} (z w:Int) {p q:OA} {n c m e:Nat} (ha:RD V p n c (digs z.natAbs)) (hb:RD V q m e (digs w.natAbs)) (hm:(digs z.natAbs).length<=1099511627776) (hn:(digs w.natAbs).length<=1099511627776) :
  Acts prog 188 #[.agg #[.bool (decide (z < 0)),.slice p n c],.agg #[.bool (decide (w < 0)),.slice q m e]] V fun r V'=>r=.int .i64 (z - w).sign:=by
 refine vc_num_Compare _ p n c _ q m e V _ fun V1 l1=>(c_num_Minus w (hb.le l1)).mono ?_
 rintro r V2 l2 ⟨p1,n1,c1,rfl,g1⟩
 refine ⟨_,_,_,_,rfl,fun V3 l3=>(c_num_Add z (-w) (ha.le (l1.trans (l2.trans l3))) (g1.le l3) hm (by rw [Int.natAbs_neg]; exact hn)).mono ?_⟩
 rintro r V4 l4 ⟨p2,n2,c2,rfl,g2⟩
 refine ⟨_,_,_,_,rfl,fun V5 l5=>(c_num_Sign _ (g2.le l5)).mono ?_⟩
 rintro r V6 l6 rfl
 exact ⟨_,rfl,fun V7 l7=>by rw [Int.sub_eq_add_neg]⟩
def cmpL (l m:L3):Int:=if (l.1 - m.1).sign≠0 then (l.1 - m.1).sign else if (l.2.1 - m.2.1).sign≠0 then (l.2.1 - m.2.1).sign else (l.2.2 - m.2.2).sign
theorem cmpL_eq {l m:L3}:cmpL l m=0↔l=m:=by
 have e:∀{a b:Int},(a - b).sign=0↔a=b:=fun {a b}=>by rw [Int.sign_eq_zero_iff_zero]; omega
 unfold cmpL
 constructor
 ·intro h
  by_cases h1:(l.1 - m.1).sign=0
  ·rw [if_neg (by simpa using h1)] at h
   by_cases h2:(l.2.1 - m.2.1).sign=0
   ·rw [if_neg (by simpa using h2)] at h
    exact Prod.ext (e.1 h1) (Prod.ext (e.1 h2) (e.1 h))
   ·rw [if_pos h2] at h; exact absurd h h2
  ·rw [if_pos h1] at h; exact absurd h h1
 ·rintro rfl
  simp
theorem c_ref04_Cmp {V:View} {v w:Value} {l m:L3} (hl:RL V v l.1 l.2.1 l.2.2) (hm:RL V w m.1 m.2.1 m.2.2) {k:Nat} (sl:SzL k l) (sm:SzL k m) (hk:k<=1099511627776) :
  Acts prog 145 #[v,w] V fun r V'=>r=.int .i64 (cmpL l m):=by
 obtain ⟨d1,d2,d3⟩:=sl.digs hk
 obtain ⟨e1,e2,e3⟩:=sm.digs hk
 obtain ⟨_,_,_,_,_,_,_,_,_,rfl,a1,a2,a3⟩:=hl
 obtain ⟨_,_,_,_,_,_,_,_,_,rfl,b1,b2,b3⟩:=hm
 refine vc_ref04_Cmp _ _ _ _ _ _ _ _ _ _ _ _ _ _ _ _ _ _ _ _ _ _ _ _ V _ fun V1 l1=>(c_num_Compare _ _ (a1.le l1) (b1.le l1) d1 e1).mono ?_
 rintro r V2 l2 rfl
 unfold cmpL
 refine ⟨_,rfl,fun h V3 l3=>?_,fun h V4 l4=>(c_num_Compare _ _ (a2.le (l1.trans (l2.trans l4))) (b2.le (l1.trans (l2.trans l4))) d2 e2).mono ?_⟩
 ·rw [bne_iff_ne] at h
  rw [if_pos h]
 ·rw [bne_eq_false_iff_eq] at h
  rw [if_neg (by rw [h]; decide)]
  rintro r V5 l5 rfl
  refine ⟨_,rfl,fun h V6 l6=>?_,fun h V7 l7=>(c_num_Compare _ _ (a3.le (l1.trans (l2.trans (l4.trans (l5.trans l7))))) (b3.le (l1.trans (l2.trans (l4.trans (l5.trans l7))))) d3 e3).mono ?_⟩
  ·rw [bne_iff_ne] at h
   rw [if_pos h]
  ·rw [bne_eq_false_iff_eq] at h
   rw [if_neg (by rw [h]; decide)]
   rintro r V8 l8 rfl
   exact ⟨_,rfl,fun V9 l9=>rfl⟩
theorem cmpL_beq {l m:L3}:(cmpL l m == (0:Int))=decide (l=m):=by
 by_cases h:l=m
 ·rw [decide_eq_true h,beq_iff_eq]; exact cmpL_eq.2 h
 ·rw [decide_eq_false h,beq_eq_false_iff_ne]; exact fun e=>h (cmpL_eq.1 e)
theorem c_ref06_Collinear {V:View} {v w:Value} {l m:L3} (hl:RL V v l.1 l.2.1 l.2.2) (hm:RL V w m.1 m.2.1 m.2.2) {k:Nat} (sl:SzL k l) (sm:SzL k m) (hk:k<=1099511627776) :
  Acts prog 84 #[v,w] V fun r V'=>r=.bool (onB l m):=by
 have hl0:=hl
 have hm0:=hm
 obtain ⟨_,_,_,_,_,_,_,_,_,_,_,_,rfl⟩:=rl_shape hl
 obtain ⟨_,_,_,_,_,_,_,_,_,_,_,_,rfl⟩:=rl_shape hm
 refine vc_ref06_Collinear _ _ _ _ _ _ _ _ _ _ _ _ _ _ _ _ _ _ _ _ _ _ _ _ V _ fun V1 l1=>(c_ref04_Cmp (hl0.le l1) (hm0.le l1) sl sm hk).mono ?_
 rintro r V2 l2 rfl
 unfold onB
 refine ⟨_,rfl,fun h V3 l3=>by rw [cmpL_beq] at h; rw [h]; rfl,fun h V4 l4=>(c_ref04_Rev (hm0.le (l1.trans (l2.trans l4)))).mono ?_⟩
 rw [cmpL_beq] at h
 rintro r V5 l5 g
 have g0:=r_rev g
 obtain ⟨_,_,_,_,_,_,_,_,_,_,_,_,rfl⟩:=rl_shape g
 refine ⟨_,_,_,_,_,_,_,_,_,_,_,_,rfl,fun V6 l6=>(c_ref04_Cmp (hl0.le (l1.trans (l2.trans (l4.trans (l5.trans l6))))) (g0.le l6) sl sm.rev hk).mono ?_⟩
 rintro r V7 l7 rfl
 refine ⟨_,rfl,fun V8 l8=>?_⟩
 rw [cmpL_beq,h,Bool.false_or]
theorem c_ref06_onto {V:View} {v w:Value} {l m:L3} {t:Sp} (hl:RL V v l.1 l.2.1 l.2.2) (h:RF V w m t) {k:Nat} (sl:SzL k l) (sm:SzL k m) (hk:k<=1099511627776) :
  Acts prog 89 #[v,w] V fun r V'=>RSs V' r (onS m t l):=by
 have h0:=h
 have hl0:=hl
 obtain ⟨_,_,_,_,_,_,_,_,_,_,_,_,rfl⟩:=rl_shape hl
 obtain ⟨_,_,_,_,_,_,_,_,_,_,_,_,_,_,_,_,_,_,_,_,_,_,_,_,_,_,rfl,h1,h2⟩:=h
 refine vc_ref06_onto _ _ _ _ _ _ _ _ _ _ _ _ _ _ _ _ _ _ _ _ _ _ _ _ _ _ _ _ _ _ _ _ _ _ _ _ _ _ _ _ V _ fun V1 l1=>(c_ref04_Cmp (hl0.le l1) (h1.le l1) sl sm hk).mono ?_
 rintro r V2 l2 rfl
 unfold onS
 refine ⟨_,rfl,fun h V3 l3=>?_,fun h V4 l4=>(c_ref06_Rev (h0.le (l1.trans (l2.trans l4)))).mono ?_⟩ <;> rw [cmpL_beq] at h
 ·rw [if_pos (of_decide_eq_true h).symm]
  exact h2.le (l1.trans (l2.trans l3))
 ·rw [if_neg (fun e=>of_decide_eq_false h e.symm)]
  rintro r V5 l5 g
  have g0:=g
  obtain ⟨_,_,_,_,_,_,_,_,_,_,_,_,_,_,_,_,_,_,_,_,_,_,_,_,_,_,rfl⟩:=rf_shape g
  exact ⟨_,_,_,_,_,_,_,_,_,_,_,_,_,_,_,_,_,_,_,_,_,_,_,_,_,_,_,_,rfl,fun V6 l6=>(rf_parts g0).2.le l6⟩
/-- The shape of a point of the reference. -/
def QSh (u:Value):Prop:=∃b p n c p' n' c' d q m e q' m' e',u=.agg #[.bool b,.slice p n c,.slice p' n' c',.bool d,.slice q m e,.slice q' m' e']
def QZero (u:Value):Prop:=u=.agg #[.bool false,.slice none 0 0,.slice none 0 0,.bool false,.slice none 0 0,.slice none 0 0]
theorem r_Meet {V:View} {v w:Value} {l m:L3} (hl:RL V v l.1 l.2.1 l.2.2) (hm:RL V w m.1 m.2.1 m.2.2) {k:Nat} (sl:SzL k l) (sm:SzL k m) (hk:20 * k + 20 < 274877906944) :
  Acts prog 85 #[v,w] V fun r V'=>∃u,r=.tuple #[u,.bool (decide (crossL l m≠0))]/\(crossL l m=0->QZero u)/\(crossL l m≠0->RP V' u (meX l m) (meY l m)):=by
 have e0:((l.1:Int):Rat) * ((m.2.1:Int):Rat) - ((m.1:Int):Rat) * ((l.2.1:Int):Rat)=crossL l m:=by unfold crossL; grind
 have e1:((l.2.1:Int):Rat) * ((m.2.2:Int):Rat) - ((m.2.1:Int):Rat) * ((l.2.2:Int):Rat)=((l.2.1:Rat) * (m.2.2:Rat)) - ((l.2.2:Rat) * (m.2.1:Rat)):=by grind
 have e2:((m.1:Int):Rat) * ((l.2.2:Int):Rat) - ((l.1:Int):Rat) * ((m.2.2:Int):Rat)=((l.2.2:Rat) * (m.1:Rat)) - ((l.1:Rat) * (m.2.2:Rat)):=by grind
 obtain ⟨sl1,sl2,sl3⟩:=sl
 obtain ⟨sm1,sm2,sm3⟩:=sm
 obtain ⟨_,_,_,_,_,_,_,_,_,rfl,a1,a2,a3⟩:=hl
 obtain ⟨_,_,_,_,_,_,_,_,_,rfl,b1,b2,b3⟩:=hm
 refine vc_ref04_Meet _ _ _ _ _ _ _ _ _ _ _ _ _ _ _ _ _ _ _ _ _ _ _ _ V _ fun V1 l1=>(c_ref04_q' (a1.le l1) sl1 (by omega)).mono ?_
 rintro r V2 l2 gda
 have gda0:=gda
 obtain ⟨_,_,_,_,_,_,rfl⟩:=gda.shape
 refine ⟨_,_,_,_,_,_,_,rfl,fun V3 l3=>(c_ref04_q' (b2.le (l1.trans (l2.trans (l3)))) sm2 (by omega)).mono ?_⟩
 rintro r V4 l4 gdb
 have gdb0:=gdb
 obtain ⟨_,_,_,_,_,_,rfl⟩:=gdb.shape
 refine ⟨_,_,_,_,_,_,_,rfl,fun V5 l5=>(c_num_Times (gda0.le (l3.trans (l4.trans (l5)))) (gdb0.le l5) sl1 sm2 (by omega)).mono ?_⟩
 rintro r V6 l6 gdc
 have gdc0:=gdc
 obtain ⟨_,_,_,_,_,_,rfl⟩:=gdc.shape
 refine ⟨_,_,_,_,_,_,_,rfl,fun V7 l7=>(c_ref04_q' (b1.le (l1.trans (l2.trans (l3.trans (l4.trans (l5.trans (l6.trans (l7)))))))) sm1 (by omega)).mono ?_⟩
 rintro r V8 l8 gdd
 have gdd0:=gdd
 obtain ⟨_,_,_,_,_,_,rfl⟩:=gdd.shape
 refine ⟨_,_,_,_,_,_,_,rfl,fun V9 l9=>(c_ref04_q' (a2.le (l1.trans (l2.trans (l3.trans (l4.trans (l5.trans (l6.trans (l7.trans (l8.trans (l9)))))))))) sl2 (by omega)).mono ?_⟩
 rintro r V10 l10 gde
 have gde0:=gde
 obtain ⟨_,_,_,_,_,_,rfl⟩:=gde.shape
 refine ⟨_,_,_,_,_,_,_,rfl,fun V11 l11=>(c_num_Times (gdd0.le (l9.trans (l10.trans (l11)))) (gde0.le l11) sm1 sl2 (by omega)).mono ?_⟩
 rintro r V12 l12 gdf
 have gdf0:=gdf
 obtain ⟨_,_,_,_,_,_,rfl⟩:=gdf.shape
 refine ⟨_,_,_,_,_,_,_,rfl,fun V13 l13=>(c_num_Sub (gdc0.le (l7.trans (l8.trans (l9.trans (l10.trans (l11.trans (l12.trans (l13)))))))) (gdf0.le l13) (sl1.mul sm2) (sm1.mul sl2) (by omega)).mono ?_⟩
 rintro r V14 l14 gdg
 rw [e0] at gdg
 have gdg0:=gdg
 obtain ⟨_,_,_,_,_,_,rfl,gdg1,-⟩:=gdg
 have sD:Sz (4 * k + 3) (((l.1:Int):Rat) * ((m.2.1:Int):Rat) - ((m.1:Int):Rat) * ((l.2.1:Int):Rat)):=Sz.mono ((sl1.mul sm2).sub (sm1.mul sl2)) (by omega)
 rw [e0] at sD
 refine ⟨_,_,_,_,_,_,_,rfl,fun V15 l15=>(c_num_S _ (gdg1.le l15)).mono ?_⟩
 rintro r V16 l16 rfl
 refine ⟨_,rfl,fun hz V17 l17=>?_,fun hz=>?_⟩
 ·rw [beq_iff_eq,sign_eq_zero] at hz
  rw [hz]
  exact ⟨_,rfl,fun _=>rfl,fun h=>absurd rfl h⟩
 ·rw [beq_eq_false_iff_ne,ne_eq,sign_eq_zero] at hz
  rw [decide_eq_true hz]
  have hz':¬ (crossL l m).num=0:=fun h=>hz (Rat.num_eq_zero.1 h)
  intro V17 l17
  have M0:V.Le V17:=(l1.trans (l2.trans (l3.trans (l4.trans (l5.trans (l6.trans (l7.trans (l8.trans (l9.trans (l10.trans (l11.trans (l12.trans (l13.trans (l14.trans (l15.trans (l16.trans (l17)))))))))))))))))
  replace gdg0:=gdg0.le (l15.trans (l16.trans (l17)))
  refine (c_ref04_q' (a2.le M0) sl2 (by omega)).mono ?_
  rintro r V18 l18 gxa
  have gxa0:=gxa
  obtain ⟨_,_,_,_,_,_,rfl⟩:=gxa.shape
  refine ⟨_,_,_,_,_,_,_,rfl,fun V19 l19=>(c_ref04_q' (b3.le (M0.trans (l18.trans (l19)))) sm3 (by omega)).mono ?_⟩
  rintro r V20 l20 gxb
  have gxb0:=gxb
  obtain ⟨_,_,_,_,_,_,rfl⟩:=gxb.shape
  refine ⟨_,_,_,_,_,_,_,rfl,fun V21 l21=>(c_num_Times (gxa0.le (l19.trans (l20.trans (l21)))) (gxb0.le l21) sl2 sm3 (by omega)).mono ?_⟩
  rintro r V22 l22 gxc
  have gxc0:=gxc
  obtain ⟨_,_,_,_,_,_,rfl⟩:=gxc.shape
  refine ⟨_,_,_,_,_,_,_,rfl,fun V23 l23=>(c_ref04_q' (b2.le (M0.trans (l18.trans (l19.trans (l20.trans (l21.trans (l22.trans (l23)))))))) sm2 (by omega)).mono ?_⟩
  rintro r V24 l24 gxd
  have gxd0:=gxd
  obtain ⟨_,_,_,_,_,_,rfl⟩:=gxd.shape
  refine ⟨_,_,_,_,_,_,_,rfl,fun V25 l25=>(c_ref04_q' (a3.le (M0.trans (l18.trans (l19.trans (l20.trans (l21.trans (l22.trans (l23.trans (l24.trans (l25)))))))))) sl3 (by omega)).mono ?_⟩
  rintro r V26 l26 gxe
  have gxe0:=gxe
  obtain ⟨_,_,_,_,_,_,rfl⟩:=gxe.shape
  refine ⟨_,_,_,_,_,_,_,rfl,fun V27 l27=>(c_num_Times (gxd0.le (l25.trans (l26.trans (l27)))) (gxe0.le l27) sm2 sl3 (by omega)).mono ?_⟩
  rintro r V28 l28 gxf
  have gxf0:=gxf
  obtain ⟨_,_,_,_,_,_,rfl⟩:=gxf.shape
  refine ⟨_,_,_,_,_,_,_,rfl,fun V29 l29=>(c_num_Sub (gxc0.le (l23.trans (l24.trans (l25.trans (l26.trans (l27.trans (l28.trans (l29)))))))) (gxf0.le l29) (sl2.mul sm3) (sm2.mul sl3) (by omega)).mono ?_⟩
  rintro r V30 l30 gxg
  rw [e1] at gxg
  have gxg0:=gxg
  obtain ⟨_,_,_,_,_,_,rfl⟩:=gxg.shape
  have sX:Sz (4 * k + 3) (((l.2.1:Rat) * (m.2.2:Rat)) - ((l.2.2:Rat) * (m.2.1:Rat))):=by rw [← e1]; exact Sz.mono ((sl2.mul sm3).sub (sm2.mul sl3)) (by omega)
  have M1:V.Le V30:=(M0.trans (l18.trans (l19.trans (l20.trans (l21.trans (l22.trans (l23.trans (l24.trans (l25.trans (l26.trans (l27.trans (l28.trans (l29.trans (l30))))))))))))))
  replace gdg0:=gdg0.le (l18.trans (l19.trans (l20.trans (l21.trans (l22.trans (l23.trans (l24.trans (l25.trans (l26.trans (l27.trans (l28.trans (l29.trans (l30)))))))))))))
  refine ⟨_,_,_,_,_,_,_,rfl,fun V31 l31=>(c_ref04_q' (b1.le (M1.trans l31)) sm1 (by omega)).mono ?_⟩
  rintro r V32 l32 gya
  have gya0:=gya
  obtain ⟨_,_,_,_,_,_,rfl⟩:=gya.shape
  refine ⟨_,_,_,_,_,_,_,rfl,fun V33 l33=>(c_ref04_q' (a3.le (M1.trans (l31.trans (l32.trans (l33))))) sl3 (by omega)).mono ?_⟩
  rintro r V34 l34 gyb
  have gyb0:=gyb
  obtain ⟨_,_,_,_,_,_,rfl⟩:=gyb.shape
  refine ⟨_,_,_,_,_,_,_,rfl,fun V35 l35=>(c_num_Times (gya0.le (l33.trans (l34.trans (l35)))) (gyb0.le l35) sm1 sl3 (by omega)).mono ?_⟩
  rintro r V36 l36 gyc
  have gyc0:=gyc
  obtain ⟨_,_,_,_,_,_,rfl⟩:=gyc.shape
  refine ⟨_,_,_,_,_,_,_,rfl,fun V37 l37=>(c_ref04_q' (a1.le (M1.trans (l31.trans (l32.trans (l33.trans (l34.trans (l35.trans (l36.trans (l37))))))))) sl1 (by omega)).mono ?_⟩
  rintro r V38 l38 gyd
  have gyd0:=gyd
  obtain ⟨_,_,_,_,_,_,rfl⟩:=gyd.shape
  refine ⟨_,_,_,_,_,_,_,rfl,fun V39 l39=>(c_ref04_q' (b3.le (M1.trans (l31.trans (l32.trans (l33.trans (l34.trans (l35.trans (l36.trans (l37.trans (l38.trans (l39))))))))))) sm3 (by omega)).mono ?_⟩
  rintro r V40 l40 gye
  have gye0:=gye
  obtain ⟨_,_,_,_,_,_,rfl⟩:=gye.shape
  refine ⟨_,_,_,_,_,_,_,rfl,fun V41 l41=>(c_num_Times (gyd0.le (l39.trans (l40.trans (l41)))) (gye0.le l41) sl1 sm3 (by omega)).mono ?_⟩
  rintro r V42 l42 gyf
  have gyf0:=gyf
  obtain ⟨_,_,_,_,_,_,rfl⟩:=gyf.shape
  refine ⟨_,_,_,_,_,_,_,rfl,fun V43 l43=>(c_num_Sub (gyc0.le (l37.trans (l38.trans (l39.trans (l40.trans (l41.trans (l42.trans (l43)))))))) (gyf0.le l43) (sm1.mul sl3) (sl1.mul sm3) (by omega)).mono ?_⟩
  rintro r V44 l44 gyg
  rw [e2] at gyg
  have gyg0:=gyg
  obtain ⟨_,_,_,_,_,_,rfl⟩:=gyg.shape
  have sY:Sz (4 * k + 3) (((l.2.2:Rat) * (m.1:Rat)) - ((l.1:Rat) * (m.2.2:Rat))):=by rw [← e2]; exact Sz.mono ((sm1.mul sl3).sub (sl1.mul sm3)) (by omega)
  replace gdg0:=gdg0.le (l31.trans (l32.trans (l33.trans (l34.trans (l35.trans (l36.trans (l37.trans (l38.trans (l39.trans (l40.trans (l41.trans (l42.trans (l43.trans (l44))))))))))))))
  replace gxg0:=gxg0.le (l31.trans (l32.trans (l33.trans (l34.trans (l35.trans (l36.trans (l37.trans (l38.trans (l39.trans (l40.trans (l41.trans (l42.trans (l43.trans (l44))))))))))))))
  refine ⟨_,_,_,_,_,_,_,rfl,fun V45 l45=>(c_num_Over (gxg0.le l45) (gdg0.le l45) hz' sX sD (by omega)).mono ?_⟩
  rintro r V46 l46 gr
  have gr0:=gr
  obtain ⟨_,_,_,_,_,_,rfl⟩:=gr.shape
  refine ⟨_,_,_,_,_,_,_,rfl,fun V47 l47=>(c_num_Over (gyg0.le (l45.trans (l46.trans (l47)))) (gdg0.le (l45.trans (l46.trans (l47)))) hz' sY sD (by omega)).mono ?_⟩
  rintro r V48 l48 gs
  have gs0:=gs
  obtain ⟨_,_,_,_,_,_,rfl⟩:=gs.shape
  exact ⟨_,_,_,_,_,_,_,rfl,fun V49 l49=>⟨_,rfl,fun h=>absurd h hz,fun _=>⟨_,_,_,_,_,_,_,_,_,_,_,_,rfl,gr0.le (l47.trans (l48.trans (l49))),gs0.le l49⟩⟩⟩
end Go.Proofs.Tryz
/- Plain: sets of spans: the points inside; a list in order is told by its points. -/
namespace Go.Proofs.Tryz
open Go.Eng Go.Big
def Sp.inn (s:Sp) (t:Rat):Prop:=(s.a=true \/ s.lo < t)/\(s.b=true \/ t < s.hi)
def memS (ss:List Sp) (t:Rat):Prop:=∃s ∈ ss,s.inn t
def Sp.good (s:Sp):Prop:=s.can/\s.emp=false
def Sp.bef (s t:Sp):Prop:=s.b=false/\t.a=false/\s.hi < t.lo
/-- A list in order whose spans do not touch. -/
def reg (ss:List Sp):Prop:=(∀s ∈ ss,s.good)/\ss.Pairwise Sp.bef
theorem pick (E:List Rat):∀l u:Rat,l < u->∃t,l < t/\t < u/\t ∉ E:=by
 induction E with
 | nil=>exact fun l u h=>⟨(l + u) / 2,by grind,by grind,by simp⟩
 | cons e r ih=>
  intro l u h
  by_cases c:l < e/\e < u
  ·obtain ⟨t,h1,h2,h3⟩:=ih l e c.1
   refine ⟨t,h1,by grind,fun hm=>?_⟩
   rcases List.mem_cons.1 hm with rfl | hm
   ·grind
   ·exact h3 hm
  ·obtain ⟨t,h1,h2,h3⟩:=ih l u h
   refine ⟨t,h1,h2,fun hm=>?_⟩
   rcases List.mem_cons.1 hm with rfl | hm
   ·exact c ⟨h1,h2⟩
   ·exact h3 hm
theorem maxL : ∀ l : List Rat, l = [] ∨ ∃ m ∈ l, ∀ x ∈ l, x ≤ m := by
  intro l
  induction l with
  | nil => exact .inl rfl
  | cons y r ih =>
    rcases ih with rfl | ⟨m, hm, h⟩
    · exact .inr ⟨y, by simp, by intro x hx; simp at hx; grind⟩
    · by_cases c : m < y
      · exact .inr ⟨y, by simp, fun x hx => by rcases List.mem_cons.1 hx with rfl | hx; · grind
                                               · have := h x hx; grind⟩
      · exact .inr ⟨m, by simp [hm], fun x hx => by rcases List.mem_cons.1 hx with rfl | hx; · grind
                                                    · exact h x hx⟩
theorem minL : ∀ l : List Rat, l = [] ∨ ∃ m ∈ l, ∀ x ∈ l, m ≤ x := by
  intro l
  induction l with
  | nil => exact .inl rfl
  | cons y r ih =>
    rcases ih with rfl | ⟨m, hm, h⟩
    · exact .inr ⟨y, by simp, by intro x hx; simp at hx; grind⟩
    · by_cases c : y < m
      · exact .inr ⟨y, by simp, fun x hx => by rcases List.mem_cons.1 hx with rfl | hx; · grind
                                               · have := h x hx; grind⟩
      · exact .inr ⟨m, by simp [hm], fun x hx => by rcases List.mem_cons.1 hx with rfl | hx; · grind
                                                    · exact h x hx⟩
theorem pickL (E Ls Us:List Rat) (h:∀l ∈ Ls,∀u ∈ Us,l < u):∃t,(∀l ∈ Ls,l < t)/\(∀u ∈ Us,t < u)/\t ∉ E:=by
 have key:∃a b:Rat,a < b/\(∀l ∈ Ls,l<=a)/\∀u ∈ Us,b<=u:=by
  rcases maxL Ls with rfl | ⟨m,hm,h1⟩
  ·rcases minL Us with rfl | ⟨n,hn,h2⟩
   ·exact ⟨0,1,by decide,(fun _ h=>by cases h),(fun _ h=>by cases h)⟩
   ·exact ⟨n - 1,n,by grind,(fun _ h=>by cases h),h2⟩
  ·rcases minL Us with rfl | ⟨n,hn,h2⟩
   ·exact ⟨m,m + 1,by grind,h1,(fun _ h=>by cases h)⟩
   ·exact ⟨m,n,h m hm n hn,h1,h2⟩
 obtain ⟨a,b,hab,h1,h2⟩:=key
 obtain ⟨t,t1,t2,t3⟩:=pick E a b hab
 exact ⟨t,fun l hl=>by have:=h1 l hl; grind,fun u hu=>by have:=h2 u hu; grind,t3⟩
def Sp.los (s:Sp):List Rat:=if s.a then [] else [s.lo]
def Sp.his (s:Sp):List Rat:=if s.b then [] else [s.hi]
theorem inn_iff {s:Sp} {t:Rat}:s.inn t↔(∀l ∈ s.los,l < t)/\∀u ∈ s.his,t < u:=by
 unfold Sp.inn Sp.los Sp.his
 cases s.a <;> cases s.b <;> simp
theorem los_mem {s:Sp} {l:Rat} (h:l ∈ s.los):s.a=false/\l=s.lo:=by
 unfold Sp.los at h; cases ha:s.a <;> simp [ha] at h; exact ⟨rfl,h⟩
theorem his_mem {s:Sp} {l:Rat} (h:l ∈ s.his):s.b=false/\l=s.hi:=by
 unfold Sp.his at h; cases ha:s.b <;> simp [ha] at h; exact ⟨rfl,h⟩
theorem lo_hi {s:Sp} (h:s.emp=false) (ha:s.a=false) (hb:s.b=false):s.lo < s.hi:=by
 rcases Sp.emp_iff.1 h with h | h | h
 ·rw [ha] at h; cases h
 ·rw [hb] at h; cases h
 ·exact h
theorem pick_in {s:Sp} (h:s.emp=false) (E:List Rat):∃t,s.inn t/\t ∉ E:=by
 obtain ⟨t,h1,h2,h3⟩:=pickL E s.los s.his (fun l hl u hu=>by
  obtain ⟨ha,rfl⟩:=los_mem hl; obtain ⟨hb,rfl⟩:=his_mem hu; exact lo_hi h ha hb)
 exact ⟨t,inn_iff.2 ⟨h1,h2⟩,h3⟩
theorem reg.tail {s:Sp} {r:List Sp} (h:reg (s :: r)):reg r:=⟨fun x hx=>h.1 x (by simp [hx]),(List.pairwise_cons.1 h.2).2⟩
theorem reg.bef {s:Sp} {r:List Sp} (h:reg (s :: r)) {x:Sp} (hx:x ∈ r):s.bef x:=(List.pairwise_cons.1 h.2).1 x hx
theorem not_low {s:Sp} {r:List Sp} (h:reg (s :: r)) (ha:s.a=false) {t:Rat} (ht:t<=s.lo):¬ memS (s :: r) t:=by
 rintro ⟨x,hx,h1,h2⟩
 rcases List.mem_cons.1 hx with rfl | hx
 ·rcases h1 with h1 | h1
  ·rw [ha] at h1; cases h1
  ·grind
 ·obtain ⟨b1,b2,b3⟩:=h.bef hx
  have:=lo_hi (h.1 s (by simp)).2 ha b1
  rcases h1 with h1 | h1
  ·rw [b2] at h1; cases h1
  ·grind
def nl:List Sp->List Rat
 | []=>[]
 | x :: _=>[x.lo]
theorem not_gap {s:Sp} {r:List Sp} (h:reg (s :: r)) (hb:s.b=false) {t:Rat} (h1:s.hi<=t) (h2:∀x ∈ nl r,t<=x):¬ memS (s :: r) t:=by
 rintro ⟨x,hx,g1,g2⟩
 rcases List.mem_cons.1 hx with rfl | hx
 ·rcases g2 with g2 | g2
  ·rw [hb] at g2; cases g2
  ·grind
 ·cases r with
  | nil=>cases hx
  | cons y r=>exact not_low h.tail (h.bef (by simp)).2.1 (h2 y.lo (by simp [nl])) ⟨x,hx,g1,g2⟩
set_option linter.unusedSectionVars false
section
variable {s s':Sp} {r r':List Sp} {E:List Rat} (h:reg (s :: r)) (h':reg (s' :: r')) (e:∀t,t ∉ E->memS (s :: r) t->memS (s' :: r') t)
include h h' e
theorem un_a (ha:s.a=true):s'.a=true:=by
 cases ha':s'.a with
 | true=>rfl
 | false=>
  obtain ⟨t,-,h2,h3⟩:=pickL E [] (s'.lo :: s.his) (fun l hl=>by cases hl)
  have:=e t h3 ⟨s,by simp,.inl ha,(inn_iff.2 ⟨(fun l hl=>by unfold Sp.los at hl; rw [if_pos ha] at hl; cases hl),fun u hu=>h2 u (by simp [hu])⟩).2⟩
  exact absurd this (not_low h' ha' (by have:=h2 s'.lo (by simp); grind))
theorem un_lo (ha:s.a=false) (ha':s'.a=false):¬ s.lo < s'.lo:=by
 intro hlt
 obtain ⟨t,h1,h2,h3⟩:=pickL E [s.lo] (s'.lo :: s.his) (fun l hl u hu=>by
  obtain rfl:l=s.lo:=by simpa using hl
  rcases List.mem_cons.1 hu with rfl | hu
  ·exact hlt
  ·obtain ⟨hb,rfl⟩:=his_mem hu
   exact lo_hi (h.1 s (by simp)).2 ha hb)
 have:=e t h3 ⟨s,by simp,inn_iff.2 ⟨(fun l hl=>by obtain ⟨-,rfl⟩:=los_mem hl; exact h1 _ (by simp)),fun u hu=>h2 u (by simp [hu])⟩⟩
 exact absurd this (not_low h' ha' (by have:=h2 s'.lo (by simp); grind))
theorem un_b (h0 : s.a = false → s'.a = false ∧ s.lo = s'.lo) (hb : s.b = true) : s'.b = true := by
  cases hb' : s'.b with
  | true => rfl
  | false =>
    have hn : ∀ u ∈ nl r', s'.hi < u := fun u hu => by
      cases r' with
      | nil => cases hu
      | cons y r' => obtain rfl : u = y.lo := by simpa [nl] using hu
                     exact (h'.bef (by simp)).2.2
    obtain ⟨t, h1, h2, h3⟩ := pickL E (s'.hi :: s.los) (nl r') (fun l hl u hu => by
      rcases List.mem_cons.1 hl with rfl | hl
      · exact hn u hu
      · obtain ⟨ha, rfl⟩ := los_mem hl
        have := lo_hi (h'.1 s' (by simp)).2 (h0 ha).1 hb'
        have := hn u hu
        rw [(h0 ha).2]; grind)
    have := e t h3 ⟨s, by simp, (inn_iff.2 ⟨(fun l hl => h1 l (by simp [hl])), (fun u hu => by unfold Sp.his at hu; rw [if_pos hb] at hu; cases hu)⟩ : s.inn t)⟩
    exact absurd this (not_gap h' hb' (by have := h1 s'.hi (by simp); grind) (fun x hx => by have := h2 x hx; grind))
theorem un_hi (h0 : s.a = false → s'.a = false ∧ s.lo = s'.lo) (hb : s.b = false) (hb' : s'.b = false) : ¬ s'.hi < s.hi := by
  intro hlt
  have hn : ∀ u ∈ nl r', s'.hi < u := fun u hu => by
    cases r' with
    | nil => cases hu
    | cons y r' => obtain rfl : u = y.lo := by simpa [nl] using hu
                   exact (h'.bef (by simp)).2.2
  obtain ⟨t, h1, h2, h3⟩ := pickL E [s'.hi] (s.hi :: nl r') (fun l hl u hu => by
    obtain rfl : l = s'.hi := by simpa using hl
    rcases List.mem_cons.1 hu with rfl | hu
    · exact hlt
    · exact hn u hu)
  have ht := h1 s'.hi (by simp)
  have hin : s.inn t := by
    refine ⟨?_, .inr (h2 s.hi (by simp))⟩
    cases ha : s.a with
    | true => exact .inl rfl
    | false =>
      have := lo_hi (h'.1 s' (by simp)).2 (h0 ha).1 hb'
      rw [(h0 ha).2]
      exact .inr (by grind)
  exact absurd (e t h3 ⟨s, by simp, hin⟩) (not_gap h' hb' (by grind) (fun x hx => by have := h2 x (by simp [hx]); grind))
end
theorem Sp.ext' {s t:Sp} (h1:s.a=t.a) (h2:s.b=t.b) (h3:s.lo=t.lo) (h4:s.hi=t.hi):s=t:=by
 cases s; cases t; simp at *; exact ⟨h3,h4,h1,h2⟩
/-- A list in order is told by its points, but for a few. -/
theorem reg_unique {E:List Rat}:∀{xs ys:List Sp},reg xs->reg ys->(∀t,t ∉ E->(memS xs t↔memS ys t))->xs=ys:=by
 intro xs
 induction xs with
 | nil=>
  intro ys _ hy e
  cases ys with
  | nil=>rfl
  | cons s r=>
   obtain ⟨t,h1,h2⟩:=pick_in (hy.1 s (by simp)).2 E
   obtain ⟨x,hx,-⟩:=(e t h2).2 ⟨s,by simp,h1⟩
   cases hx
 | cons s r ih=>
  intro ys hx hy e
  cases ys with
  | nil=>
   obtain ⟨t,h1,h2⟩:=pick_in (hx.1 s (by simp)).2 E
   obtain ⟨x,hx,-⟩:=(e t h2).1 ⟨s,by simp,h1⟩
   cases hx
  | cons s' r'=>
   have e1:=fun t ht=>(e t ht).1
   have e2:=fun t ht=>(e t ht).2
   have beq:∀{a b:Bool},(a=true->b=true)->(b=true->a=true)->a=b:=fun {a b} h1 h2=>by
    cases a <;> cases b <;> simp at h1 h2 ⊢
   have ha:s.a=s'.a:=beq (un_a hx hy e1) (un_a hy hx e2)
   have hl:s.a=false->s.lo=s'.lo:=fun h1=>by
    have k1:=un_lo hx hy e1 h1 (ha ▸ h1)
    have k2:=un_lo hy hx e2 (ha ▸ h1) h1
    grind
   have h0:s.a=false->s'.a=false/\s.lo=s'.lo:=fun h=>⟨ha ▸ h,hl h⟩
   have h0':s'.a=false->s.a=false/\s'.lo=s.lo:=fun h=>⟨ha.symm ▸ h,(hl (ha.symm ▸ h)).symm⟩
   have hb:s.b=s'.b:=beq (un_b hx hy e1 h0) (un_b hy hx e2 h0')
   have hh:s.b=false->s.hi=s'.hi:=fun h1=>by
    have k1:=un_hi hx hy e1 h0 h1 (hb ▸ h1)
    have k2:=un_hi hy hx e2 h0' (hb ▸ h1) h1
    grind
   have gs:=(hx.1 s (by simp)).1
   have gs':=(hy.1 s' (by simp)).1
   have es:s=s':=by
    refine Sp.ext' ha hb ?_ ?_
    ·cases h1:s.a with
     | false=>exact hl h1
     | true=>rw [gs.1 h1,gs'.1 (ha ▸ h1)]
    ·cases h1:s.b with
     | false=>exact hh h1
     | true=>rw [gs.2 h1,gs'.2 (hb ▸ h1)]
   subst es
   have dis:∀{q:List Sp} {t:Rat},reg (s :: q)->memS q t->¬ s.inn t:=by
    rintro q t hq ⟨x,hx,h1,h2⟩ ⟨g1,g2⟩
    obtain ⟨b1,b2,b3⟩:=hq.bef hx
    rw [b1] at g2; rw [b2] at h1
    simp at g2 h1
    grind
   rw [ih hx.tail hy.tail (fun t ht=>⟨fun m=>?_,fun m=>?_⟩)]
   ·obtain ⟨x,hm,hi⟩:=e1 t ht (by obtain ⟨x,g1,g2⟩:=m; exact ⟨x,by simp [g1],g2⟩)
    rcases List.mem_cons.1 hm with rfl | hm
    ·exact absurd hi (dis hx m)
    ·exact ⟨x,hm,hi⟩
   ·obtain ⟨x,hm,hi⟩:=e2 t ht (by obtain ⟨x,g1,g2⟩:=m; exact ⟨x,by simp [g1],g2⟩)
    rcases List.mem_cons.1 hm with rfl | hm
    ·exact absurd hi (dis hy m)
    ·exact ⟨x,hm,hi⟩
end Go.Proofs.Tryz
/- Lists of any element: as they lie in an own row, and in memory. -/
namespace Go.Eng
theorem adr_add2 (a:Addr) (m n:Nat):(a.add m).add n=a.add (m + n):=by
 unfold Addr.add
 by_cases h1:m=0
 ·subst h1; simp
 ·by_cases h2:n=0
  ·subst h2; simp [h1]
  ·rw [if_neg h1,if_neg h2,if_neg (by omega)]
   simp only [Nat.add_assoc]
variable {α:Type} {sz:Nat} {R:View->Value->α->Prop} {V V':View}
/-- The first cells of a row are the elements of a list. -/
structure Row (sz:Nat) (R:View->Value->α->Prop) (V:View) (vs:List Value) (al:List α):Prop where
 at_:∀(i:Nat) (h:i < al.length),∃xs:List Value,xs.length=sz/\R V (.agg xs.toArray) al[i]/\∀j x,xs[j]?=some x->vs[i * sz + j]?=some x
/-- The elements of a list lie one behind the other. -/
structure Lst (sz:Nat) (R:View->Value->α->Prop) (V:View) (p:OA) (n:Nat) (al:List α):Prop where
 len:n=al.length
 at_:∀(i:Nat) (h:i < al.length),∃ad,addrAdd p (i * sz)=some ad/\∃xs:List Value,xs.length=sz/\R V (.agg xs.toArray) al[i]/\∀j x,xs[j]?=some x->V.at (ad.add j) x
theorem Row.nil {vs:List Value}:Row sz R V vs []:=⟨fun i h=>absurd h (Nat.not_lt_zero i)⟩
theorem Lst.nil {p:OA}:Lst sz R V p 0 []:=⟨rfl,fun i h=>absurd h (Nat.not_lt_zero i)⟩
theorem Row.le {vs:List Value} {al:List α} (h:Row sz R V vs al) (m:∀v a,R V v a->R V' v a):Row sz R V' vs al:=
 ⟨fun i hi=>by obtain ⟨xs,h1,h2,h3⟩:=h.at_ i hi; exact ⟨xs,h1,m _ _ h2,h3⟩⟩
theorem Lst.le {p:OA} {n:Nat} {al:List α} (h:Lst sz R V p n al) (l:V.Le V') (m:∀v a,R V v a->R V' v a):Lst sz R V' p n al:=
 ⟨h.len,fun i hi=>by obtain ⟨ad,h0,xs,h1,h2,h3⟩:=h.at_ i hi; exact ⟨ad,h0,xs,h1,m _ _ h2,fun j x hx=>l.at (h3 j x hx)⟩⟩
theorem Row.len_le {vs:List Value} {al:List α} (h:Row sz R V vs al) (hs:0 < sz):al.length * sz<=vs.length:=by
 by_cases h0:al.length=0
 ·rw [h0]; omega
 ·obtain ⟨xs,h1,-,h3⟩:=h.at_ (al.length - 1) (by omega)
  have hx:sz - 1 < xs.length:=by omega
  have:=(List.getElem?_eq_some_iff.1 (h3 (sz - 1) _ (List.getElem?_eq_getElem hx))).1
  have e:al.length * sz=(al.length - 1) * sz + sz:=by
   obtain ⟨m,hm⟩:∃m,al.length=m + 1:=⟨al.length - 1,by omega⟩
   rw [hm,Nat.add_sub_cancel,Nat.succ_mul]
  omega
/-- One more element at the end, al 'append' lays it. -/
theorem Row.snoc {vs:List Value} {al:List α} (h:Row sz R V vs al) {xs sp:List Value} {a:α} (hx:xs.length=sz) (ha:R V (.agg xs.toArray) a) (hs:0 < sz) :
  Row sz R V (vs.take (al.length * sz)++xs++sp) (al++[a]):=by
 have hl:=h.len_le hs
 have ht:(vs.take (al.length * sz)).length=al.length * sz:=by rw [List.length_take]; omega
 refine ⟨fun i hi=>?_⟩
 rw [List.length_append,List.length_singleton] at hi
 by_cases e:i=al.length
 ·subst e
  refine ⟨xs,hx,by rw [List.getElem_append_right (Nat.le_refl _)]; simpa using ha,fun j x hj=>?_⟩
  have hj':=(List.getElem?_eq_some_iff.1 hj).1
  rw [List.append_assoc,List.getElem?_append_right (by rw [ht]; omega),ht,Nat.add_sub_cancel_left,List.getElem?_append_left hj']
  exact hj
 ·have hi':i < al.length:=by omega
  obtain ⟨ys,y1,y2,y3⟩:=h.at_ i hi'
  refine ⟨ys,y1,by rw [List.getElem_append_left hi']; exact y2,fun j x hj=>?_⟩
  have hj':=(List.getElem?_eq_some_iff.1 hj).1
  have hlt:i * sz + j < al.length * sz:=by
   have:(i + 1) * sz<=al.length * sz:=Nat.mul_le_mul_right _ hi'
   rw [Nat.succ_mul] at this
   omega
  rw [List.append_assoc,List.getElem?_append_left (by rw [ht]; exact hlt),List.getElem?_take,if_pos hlt]
  exact y3 j x hj
/-- A row that became memory. -/
theorem Lst.of_row {bk:Nat} {ty:TypeId} {m:Nat × Nat} {vs:List Value} {al:List α} (hb:V.blk bk (.cells vs.toArray ty m)) (h:Row sz R V vs al):Lst sz R V (some ⟨bk,0,none⟩) al.length al:=by
 refine ⟨rfl,fun i hi=>?_⟩
 obtain ⟨xs,h1,h2,h3⟩:=h.at_ i hi
 refine ⟨⟨bk,i * sz,none⟩,by simp [addrAdd,add_zero'],xs,h1,h2,fun j x hj=>?_⟩
 have e:(⟨bk,i * sz,none⟩:Addr).add j=⟨bk,i * sz + j,none⟩:=by rw [← add_zero',adr_add2,add_zero']
 rw [e]
 exact blk_at hb (h3 j x hj)
/-- The same for a slice that may be nil. -/
theorem Lst.of_mrow {bk c:Nat} {ty:TypeId} {m:Nat × Nat} {vs:List Value} {al:List α} (hb:vs≠[]->V.blk bk (.cells vs.toArray ty m)) (h:Row sz R V vs al) (hs:0 < sz) (hc:al.length<=c):Lst sz R V (mA bk c) al.length al:=by
 cases al with
 | nil=>exact Lst.nil
 | cons a r=>
  have hne:vs≠[]:=fun e=>by
   have:=h.len_le hs
   rw [e,List.length_cons,Nat.succ_mul] at this
   simp at this; omega
  have:mA bk c=some ⟨bk,0,none⟩:=by unfold mA; rw [if_neg]; rw [List.length_cons] at hc; omega
  rw [this]
  exact Lst.of_row (hb hne) h
end Go.Eng
/- Contracts: Half, Mid, Sample, Cross of the reference; it reads right fragments. -/
namespace Go.Proofs.Tryz
open Go.Eng Go.Big
theorem szi_two:Sz 2 (((2:Int):Rat)):=⟨by show (2:Int).natAbs < _; decide,by show (1:Nat) < _; decide⟩
theorem szi_one:Sz 2 (((1:Int):Rat)):=⟨by show (1:Int).natAbs < _; decide,by show (1:Nat) < _; decide⟩
theorem c_num_Half {V:View} {v:Value} {x:Rat} (h:RQ V v x) {k:Nat} (sx:Sz k x) (hk:k + 2 < 274877906944) :
  Acts prog 156 #[v] V fun r V'=>RQ V' r (x * ((2:Int):Rat)⁻¹):=by
 have h0:=h
 obtain ⟨_,_,_,_,_,_,rfl⟩:=h.shape
 refine vc_num_Half _ _ _ _ _ _ _ V _ fun V1 l1=>(c_num_Of 2 (by decide) (by decide)).mono ?_
 rintro r V2 l2 g
 have g0:=g
 obtain ⟨_,_,_,_,_,_,rfl⟩:=g.shape
 refine ⟨_,_,_,_,_,_,_,rfl,fun V3 l3=>(c_num_Over (h0.le (l1.trans (l2.trans l3))) (g0.le l3) (by show (2:Int)≠0; decide) sx szi_two hk).mono ?_⟩
 rintro r V4 l4 q
 have q0:=q
 obtain ⟨_,_,_,_,_,_,rfl⟩:=q.shape
 exact ⟨_,_,_,_,_,_,_,rfl,fun V5 l5=>q0.le l5⟩
theorem c_num_Mid {V:View} {v w:Value} {x y:Rat} (h:RQ V v x) (h':RQ V w y) {k:Nat} (sx:Sz k x) (sy:Sz k y) (hk:4 * k + 4 < 274877906944) :
  Acts prog 96 #[v,w] V fun r V'=>RQ V' r ((x + y) * ((2:Int):Rat)⁻¹):=by
 have h0:=h
 have h0':=h'
 obtain ⟨_,_,_,_,_,_,rfl⟩:=h.shape
 obtain ⟨_,_,_,_,_,_,rfl⟩:=h'.shape
 refine vc_num_Mid _ _ _ _ _ _ _ _ _ _ _ _ _ _ V _ fun V1 l1=>(c_num_Plus (h0.le l1) (h0'.le l1) sx sy (by omega)).mono ?_
 rintro r V2 l2 g
 have g0:=g
 obtain ⟨_,_,_,_,_,_,rfl⟩:=g.shape
 refine ⟨_,_,_,_,_,_,_,rfl,fun V3 l3=>(c_num_Half (g0.le l3) (sx.add sy) (by omega)).mono ?_⟩
 rintro r V4 l4 q
 have q0:=q
 obtain ⟨_,_,_,_,_,_,rfl⟩:=q.shape
 exact ⟨_,_,_,_,_,_,_,rfl,fun V5 l5=>q0.le l5⟩
/-- A right fragment of package api in normal form. -/
theorem RFa.raw {V:View} {v:Value} {l:L3} {s:Sp} (h:RFa V v l s) (ho:FOk l s) {k:Nat} (sl:SzL k l) (ss:s.sz k) (hk:k<=1000000):∃f:FW,RFw V v f/\f.ok=true/\f.ln=l/\f.sp=s/\f.short:=by
 obtain ⟨b1,p1,n1,c1,b2,p2,n2,c2,b3,p3,n3,c3,b,p,n,c,p',n',c',d,q,m,e,q',m',e',rfl,h1,h2⟩:=h
 obtain ⟨_,_,_,_,_,_,_,_,_,el,x1,x2,x3⟩:=h1
 have el:=congrArg Array.toList (Value.agg.inj el)
 simp only [List.cons.injEq,Value.bool.injEq,Value.slice.injEq,and_true] at el
 obtain ⟨rfl,⟨rfl,rfl,rfl⟩,rfl,⟨rfl,rfl,rfl⟩,rfl,rfl,rfl,rfl⟩:=el
 obtain ⟨_,_,_,_,_,_,_,_,_,_,_,_,_,_,es,y1,y2⟩:=h2
 have es:=congrArg Array.toList (Value.agg.inj es)
 simp only [List.cons.injEq,Value.bool.injEq,Value.slice.injEq,and_true] at es
 obtain ⟨rfl,⟨rfl,rfl,rfl⟩,⟨rfl,rfl,rfl⟩,rfl,⟨rfl,rfl,rfl⟩,⟨rfl,rfl,rfl⟩⟩:=es
 obtain ⟨ok,can,emp⟩:=ho
 obtain ⟨w1,us,vs,r1,o1,e1,z1⟩:=y1.raw can.1
 obtain ⟨w2,ws,ts,r2,o2,e2,z2⟩:=y2.raw can.2
 have i1:=r1
 have i2:=r2
 obtain ⟨_,_,_,_,_,_,f1,-,-⟩:=i1
 obtain ⟨_,_,_,_,_,_,f2,-,-⟩:=i2
 have f1:=congrArg Array.toList (Value.agg.inj f1)
 have f2:=congrArg Array.toList (Value.agg.inj f2)
 simp only [List.cons.injEq,Value.bool.injEq,Value.slice.injEq,and_true] at f1 f2
 obtain ⟨rfl,-⟩:=f1
 obtain ⟨rfl,-⟩:=f2
 have len:∀{z:Int},Sz k (z:Rat)->(digs z.natAbs).length<=1000000:=fun h=>Nat.le_trans (digs_len_bits h.1) hk
 have d1:=z1 k ss.1
 have d2:=z2 k ss.2
 refine ⟨⟨decide (l.1 < 0),digs l.1.natAbs,decide (l.2.1 < 0),digs l.2.1.natAbs,decide (l.2.2 < 0),digs l.2.2.natAbs,b,us,vs,d,ws,ts,s.a,s.b⟩,⟨_,_,_,_,_,_,_,_,_,_,_,_,_,_,_,_,_,_,_,_,_,rfl,⟨_,_,_,_,_,_,_,_,_,rfl,x1,x2,x3⟩,⟨_,_,_,_,_,_,_,_,_,_,_,_,rfl,r1,r2⟩⟩,?_,?_,?_,⟨len sl.1,len sl.2.1,len sl.2.2,Nat.le_trans d1.1 hk,Nat.le_trans d1.2 hk,Nat.le_trans d2.1 hk,Nat.le_trans d2.2 hk⟩⟩
 ·have e3:spW b us vs d ws ts s.a s.b=s:=by unfold spW; rw [e1,e2]
  unfold FW.ok okW
  dsimp only
  rw [okLn_okL,o1,o2,e3,emp]
  show okL l && true=true
  rw [ok]; rfl
 ·unfold FW.ln lnW
  dsimp only
  rw [ival_digs,ival_digs,ival_digs]
 ·unfold FW.sp spW
  dsimp only
  rw [e1,e2]
end Go.Proofs.Tryz
