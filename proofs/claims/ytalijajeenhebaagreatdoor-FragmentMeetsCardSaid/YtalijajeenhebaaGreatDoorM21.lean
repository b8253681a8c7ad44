/- A part of the proof (joined by program from: VLaw7C, Law7C). -/
import Derived.Test.YtalijajeenhebaaGreatDoorM5
import Derived.Test.YtalijajeenhebaaGreatDoorM17
import Derived.Test.YtalijajeenhebaaGreatDoorM20
set_option linter.unusedVariables false
open Go.IntKind (i64 u64 u32)
/- By program: the conditions of the functions, from their loaded code. -/
namespace Go.Proofs.Tryz
open Go.Eng
open Go.Value renaming int→I,pointer→P,slice→S,agg→A,bool→B,tuple→T
open Go.IntKind renaming i64→J,u64→U,u32→W
set_option maxRecDepth 100000
theorem vc_law07_FragmentMeets (o1:OA) (o2 o3:Nat) (V:View) (R:VR) (h:(∀m4,V.Le m4->Acts prog 7 #[S o1 o2 o3] m4 fun b82 o4=>∃f3:Nat,∃o5 o6 o7,∃o8,b82=P (some ⟨f3,0,none⟩)/\m4.w.heap.size<=f3/\o4.blk f3 (.cells #[S o5 o6 o7,I J o8] 105 (0,0))/\(∀f4:View,(o4.hide f3).Le f4->∀e4:Nat,(f4.w.heap[e4]?=some (.cells #[S o5 o6 o7,I J o8] 105 (0,0)))->(f4.H e4)->Acts prog 14 #[P (some ⟨e4,0,none⟩)] (f4.lend [e4]) fun b83 o9=>∃g,∃i k l,∃m,∃n o p,∃q,∃r s t,∃c5,∃c6 c7 c8,∃c9 d0 d1,∃d2,∃d3 d4 d5,∃d6 d7 d8,∃d9,∃e0,b83=A #[B g,S i k l,B m,S n o p,B q,S r s t,B c5,S c6 c7 c8,S c9 d0 d1,B d2,S d3 d4 d5,S d6 d7 d8,B d9,B e0]/\∃p0 p1 p2,∃p3,o9.w.heap[e4]?=some (.cells #[S p0 p1 p2,I J p3] 105 (0,0))/\(∀f5,o9.shut.Le f5->∀e5:Nat,(f5.w.heap[e5]?=some (.cells #[S p0 p1 p2,I J p3] 105 (0,0)))->(f5.H e5)->Acts prog 14 #[P (some ⟨e5,0,none⟩)] (f5.lend [e5]) fun b84 p4=>∃p5,∃p6 p7 p8,∃p9,∃q0 q1 q2,∃q3,∃q4 q5 q6,∃q7,∃q8 q9 r0,∃r1 r2 r3,∃r4,∃r5 r6 r7,∃r8 r9 t0,∃t1,∃t2,b84=A #[B p5,S p6 p7 p8,B p9,S q0 q1 q2,B q3,S q4 q5 q6,B q7,S q8 q9 r0,S r1 r2 r3,B r4,S r5 r6 r7,S r8 r9 t0,B t1,B t2]/\∃t3 t4 t5,∃t6,p4.w.heap[e5]?=some (.cells #[S t3 t4 t5,I J t6] 105 (0,0))/\(∀f6,p4.shut.Le f6->∀e6:Nat,(f6.w.heap[e6]?=some (.cells #[S t3 t4 t5,I J t6] 105 (0,0)))->(f6.H e6)->Acts prog 33 #[P (some ⟨e6,0,none⟩),I J 4] (f6.lend [e6]) fun b85 e7=>∃e8,b85=I J e8/\∃m5 m6 m7,∃m8,e7.w.heap[e6]?=some (.cells #[S m5 m6 m7,I J m8] 105 (0,0))/\(∃f7:(Bool × (OA) × Nat × Nat × Bool × (OA) × Nat × Nat × Bool × (OA) × Nat × Nat × Bool × (OA) × Nat × Nat × (OA) × Nat × Nat × Bool × (OA) × Nat × Nat × (OA) × Nat × Nat × Bool × Bool)->VP,(((e8 == (0:Int))=true->(∀f8,e7.shut.Le f8->∀e9:Nat,(f8.w.heap[e9]?=some (.cells #[S m5 m6 m7,I J m8] 105 (0,0)))->(f8.H e9)->Acts prog 34 #[P (some ⟨e9,0,none⟩)] (f8.lend [e9]) fun b86 t7=>∃t8,∃t9 u0 u1,∃u2 u3 u4,∃u5,∃u6 u7 u8,∃u9 w0 w1,∃w2,∃w3,b86=A #[B t8,S t9 u0 u1,S u2 u3 u4,B u5,S u6 u7 u8,S u9 w0 w1,B w2,B w3]/\∃b87 b88 b89,∃b90,t7.w.heap[e9]?=some (.cells #[S b87 b88 b89,I J b90] 105 (0,0))/\(∃b,(s12 0 0 g i k l m n o p q r (s12 s t c5 c6 c7 c8 c9 d0 d1 d2 d3 d4 (s6 d5 d6 d7 d8 d9 e0 ((g=b.1)/\((i:OA)=b.2.1)/\((k:Nat)=b.2.2.1)/\((l:Nat)=b.2.2.2.1)/\(m=b.2.2.2.2.1)/\((n:OA)=b.2.2.2.2.2.1)/\((o:Nat)=b.2.2.2.2.2.2.1)/\((p:Nat)=b.2.2.2.2.2.2.2.1)/\(q=b.2.2.2.2.2.2.2.2.1)/\((r:OA)=b.2.2.2.2.2.2.2.2.2.1)/\((s:Nat)=b.2.2.2.2.2.2.2.2.2.2.1)/\((t:Nat)=b.2.2.2.2.2.2.2.2.2.2.2.1)/\(t8=b.2.2.2.2.2.2.2.2.2.2.2.2.1)/\((t9:OA)=b.2.2.2.2.2.2.2.2.2.2.2.2.2.1)/\((u0:Nat)=b.2.2.2.2.2.2.2.2.2.2.2.2.2.2.1)/\((u1:Nat)=b.2.2.2.2.2.2.2.2.2.2.2.2.2.2.2.1)/\((u2:OA)=b.2.2.2.2.2.2.2.2.2.2.2.2.2.2.2.2.1)/\((u3:Nat)=b.2.2.2.2.2.2.2.2.2.2.2.2.2.2.2.2.2.1)/\((u4:Nat)=b.2.2.2.2.2.2.2.2.2.2.2.2.2.2.2.2.2.2.1)/\(u5=b.2.2.2.2.2.2.2.2.2.2.2.2.2.2.2.2.2.2.2.1)/\((u6:OA)=b.2.2.2.2.2.2.2.2.2.2.2.2.2.2.2.2.2.2.2.2.1)/\((u7:Nat)=b.2.2.2.2.2.2.2.2.2.2.2.2.2.2.2.2.2.2.2.2.2.1)/\((u8:Nat)=b.2.2.2.2.2.2.2.2.2.2.2.2.2.2.2.2.2.2.2.2.2.2.1)/\((u9:OA)=b.2.2.2.2.2.2.2.2.2.2.2.2.2.2.2.2.2.2.2.2.2.2.2.1)/\((w0:Nat)=b.2.2.2.2.2.2.2.2.2.2.2.2.2.2.2.2.2.2.2.2.2.2.2.2.1)/\((w1:Nat)=b.2.2.2.2.2.2.2.2.2.2.2.2.2.2.2.2.2.2.2.2.2.2.2.2.2.1)/\(w2=b.2.2.2.2.2.2.2.2.2.2.2.2.2.2.2.2.2.2.2.2.2.2.2.2.2.2.1)/\(w3=b.2.2.2.2.2.2.2.2.2.2.2.2.2.2.2.2.2.2.2.2.2.2.2.2.2.2.2)))))/\f7 b t7.shut)))/\((e8 == (0:Int))=false->(((e8 == (1:Int))=true->(∀f9,e7.shut.Le f9->∀f0:Nat,(f9.w.heap[f0]?=some (.cells #[S m5 m6 m7,I J m8] 105 (0,0)))->(f9.H f0)->Acts prog 34 #[P (some ⟨f0,0,none⟩)] (f9.lend [f0]) fun b91 w4=>∃w5,∃w6 w7 w8,∃w9 x0 x1,∃x2,∃x3 x4 x5,∃x6 x7 x8,∃x9,∃y0,b91=A #[B w5,S w6 w7 w8,S w9 x0 x1,B x2,S x3 x4 x5,S x6 x7 x8,B x9,B y0]/\∃b92 b93 b94,∃b95,w4.w.heap[f0]?=some (.cells #[S b92 b93 b94,I J b95] 105 (0,0))/\(∀y1,w4.shut.Le y1->Acts prog 25 #[A #[B g,S i k l,B m,S n o p,B q,S r s t,B w5,S w6 w7 w8,S w9 x0 x1,B x2,S x3 x4 x5,S x6 x7 x8,B x9,B y0]] y1 fun b96 b97=>∃y2,∃y3 y4 y5,∃y6,∃y7 y8 y9,∃z0,∃z1 z2 z3,∃z4,∃z5 z6 z7,∃z8 z9 a00,∃a01,∃a02 a03 a04,∃a05 a06 a07,∃a08,∃a09,b96=A #[B y2,S y3 y4 y5,B y6,S y7 y8 y9,B z0,S z1 z2 z3,B z4,S z5 z6 z7,S z8 z9 a00,B a01,S a02 a03 a04,S a05 a06 a07,B a08,B a09]/\(∃c,(s12 0 0 g i k l m n o p q r (s12 s t c5 c6 c7 c8 c9 d0 d1 d2 d3 d4 (s6 d5 d6 d7 d8 d9 e0 ((y2=c.1)/\((y3:OA)=c.2.1)/\((y4:Nat)=c.2.2.1)/\((y5:Nat)=c.2.2.2.1)/\(y6=c.2.2.2.2.1)/\((y7:OA)=c.2.2.2.2.2.1)/\((y8:Nat)=c.2.2.2.2.2.2.1)/\((y9:Nat)=c.2.2.2.2.2.2.2.1)/\(z0=c.2.2.2.2.2.2.2.2.1)/\((z1:OA)=c.2.2.2.2.2.2.2.2.2.1)/\((z2:Nat)=c.2.2.2.2.2.2.2.2.2.2.1)/\((z3:Nat)=c.2.2.2.2.2.2.2.2.2.2.2.1)/\(z4=c.2.2.2.2.2.2.2.2.2.2.2.2.1)/\((z5:OA)=c.2.2.2.2.2.2.2.2.2.2.2.2.2.1)/\((z6:Nat)=c.2.2.2.2.2.2.2.2.2.2.2.2.2.2.1)/\((z7:Nat)=c.2.2.2.2.2.2.2.2.2.2.2.2.2.2.2.1)/\((z8:OA)=c.2.2.2.2.2.2.2.2.2.2.2.2.2.2.2.2.1)/\((z9:Nat)=c.2.2.2.2.2.2.2.2.2.2.2.2.2.2.2.2.2.1)/\((a00:Nat)=c.2.2.2.2.2.2.2.2.2.2.2.2.2.2.2.2.2.2.1)/\(a01=c.2.2.2.2.2.2.2.2.2.2.2.2.2.2.2.2.2.2.2.1)/\((a02:OA)=c.2.2.2.2.2.2.2.2.2.2.2.2.2.2.2.2.2.2.2.2.1)/\((a03:Nat)=c.2.2.2.2.2.2.2.2.2.2.2.2.2.2.2.2.2.2.2.2.2.1)/\((a04:Nat)=c.2.2.2.2.2.2.2.2.2.2.2.2.2.2.2.2.2.2.2.2.2.2.1)/\((a05:OA)=c.2.2.2.2.2.2.2.2.2.2.2.2.2.2.2.2.2.2.2.2.2.2.2.1)/\((a06:Nat)=c.2.2.2.2.2.2.2.2.2.2.2.2.2.2.2.2.2.2.2.2.2.2.2.2.1)/\((a07:Nat)=c.2.2.2.2.2.2.2.2.2.2.2.2.2.2.2.2.2.2.2.2.2.2.2.2.2.1)/\(a08=c.2.2.2.2.2.2.2.2.2.2.2.2.2.2.2.2.2.2.2.2.2.2.2.2.2.2.1)/\(a09=c.2.2.2.2.2.2.2.2.2.2.2.2.2.2.2.2.2.2.2.2.2.2.2.2.2.2.2)))))/\f7 c b97))))/\((e8 == (1:Int))=false->(∃d,(s12 0 0 g i k l m n o p q r (s12 s t c5 c6 c7 c8 c9 d0 d1 d2 d3 d4 (s6 d5 d6 d7 d8 d9 e0 ((p5=d.1)/\((p6:OA)=d.2.1)/\((p7:Nat)=d.2.2.1)/\((p8:Nat)=d.2.2.2.1)/\(p9=d.2.2.2.2.1)/\((q0:OA)=d.2.2.2.2.2.1)/\((q1:Nat)=d.2.2.2.2.2.2.1)/\((q2:Nat)=d.2.2.2.2.2.2.2.1)/\(q3=d.2.2.2.2.2.2.2.2.1)/\((q4:OA)=d.2.2.2.2.2.2.2.2.2.1)/\((q5:Nat)=d.2.2.2.2.2.2.2.2.2.2.1)/\((q6:Nat)=d.2.2.2.2.2.2.2.2.2.2.2.1)/\(q7=d.2.2.2.2.2.2.2.2.2.2.2.2.1)/\((q8:OA)=d.2.2.2.2.2.2.2.2.2.2.2.2.2.1)/\((q9:Nat)=d.2.2.2.2.2.2.2.2.2.2.2.2.2.2.1)/\((r0:Nat)=d.2.2.2.2.2.2.2.2.2.2.2.2.2.2.2.1)/\((r1:OA)=d.2.2.2.2.2.2.2.2.2.2.2.2.2.2.2.2.1)/\((r2:Nat)=d.2.2.2.2.2.2.2.2.2.2.2.2.2.2.2.2.2.1)/\((r3:Nat)=d.2.2.2.2.2.2.2.2.2.2.2.2.2.2.2.2.2.2.1)/\(r4=d.2.2.2.2.2.2.2.2.2.2.2.2.2.2.2.2.2.2.2.1)/\((r5:OA)=d.2.2.2.2.2.2.2.2.2.2.2.2.2.2.2.2.2.2.2.2.1)/\((r6:Nat)=d.2.2.2.2.2.2.2.2.2.2.2.2.2.2.2.2.2.2.2.2.2.1)/\((r7:Nat)=d.2.2.2.2.2.2.2.2.2.2.2.2.2.2.2.2.2.2.2.2.2.2.1)/\((r8:OA)=d.2.2.2.2.2.2.2.2.2.2.2.2.2.2.2.2.2.2.2.2.2.2.2.1)/\((r9:Nat)=d.2.2.2.2.2.2.2.2.2.2.2.2.2.2.2.2.2.2.2.2.2.2.2.2.1)/\((t0:Nat)=d.2.2.2.2.2.2.2.2.2.2.2.2.2.2.2.2.2.2.2.2.2.2.2.2.2.1)/\(t1=d.2.2.2.2.2.2.2.2.2.2.2.2.2.2.2.2.2.2.2.2.2.2.2.2.2.2.1)/\(t2=d.2.2.2.2.2.2.2.2.2.2.2.2.2.2.2.2.2.2.2.2.2.2.2.2.2.2.2)))))/\f7 d e7.shut)))))/\∀(a:Bool × (OA) × Nat × Nat × Bool × (OA) × Nat × Nat × Bool × (OA) × Nat × Nat × Bool × (OA) × Nat × Nat × (OA) × Nat × Nat × Bool × (OA) × Nat × Nat × (OA) × Nat × Nat × Bool × Bool) (m9:View),e7.shut.Le m9->f7 a m9->(true=true/\(Ca m9 15 #[A #[B g,S i k l,B m,S n o p,B q,S r s t,B c5,S c6 c7 c8,S c9 d0 d1,B d2,S d3 d4 d5,S d6 d7 d8,B d9,B e0]] fun b98 b99=>∃a10,∃a11 a12 a13,∃a14,∃a15 a16 a17,∃a18,∃a19 a20 a21,∃a22,∃a23 a24 a25,∃a26 a27 a28,∃a29,∃a30 a31 a32,∃a33 a34 a35,∃a36,∃a37,b98=A #[B a10,S a11 a12 a13,B a14,S a15 a16 a17,B a18,S a19 a20 a21,B a22,S a23 a24 a25,S a26 a27 a28,B a29,S a30 a31 a32,S a33 a34 a35,B a36,B a37]/\(Ca b99 15 #[A #[B a.1,S a.2.1 a.2.2.1 a.2.2.2.1,B a.2.2.2.2.1,S a.2.2.2.2.2.1 a.2.2.2.2.2.2.1 a.2.2.2.2.2.2.2.1,B a.2.2.2.2.2.2.2.2.1,S a.2.2.2.2.2.2.2.2.2.1 a.2.2.2.2.2.2.2.2.2.2.1 a.2.2.2.2.2.2.2.2.2.2.2.1,B a.2.2.2.2.2.2.2.2.2.2.2.2.1,S a.2.2.2.2.2.2.2.2.2.2.2.2.2.1 a.2.2.2.2.2.2.2.2.2.2.2.2.2.2.1 a.2.2.2.2.2.2.2.2.2.2.2.2.2.2.2.1,S a.2.2.2.2.2.2.2.2.2.2.2.2.2.2.2.2.1 a.2.2.2.2.2.2.2.2.2.2.2.2.2.2.2.2.2.1 a.2.2.2.2.2.2.2.2.2.2.2.2.2.2.2.2.2.2.1,B a.2.2.2.2.2.2.2.2.2.2.2.2.2.2.2.2.2.2.2.1,S a.2.2.2.2.2.2.2.2.2.2.2.2.2.2.2.2.2.2.2.2.1 a.2.2.2.2.2.2.2.2.2.2.2.2.2.2.2.2.2.2.2.2.2.1 a.2.2.2.2.2.2.2.2.2.2.2.2.2.2.2.2.2.2.2.2.2.2.1,S a.2.2.2.2.2.2.2.2.2.2.2.2.2.2.2.2.2.2.2.2.2.2.2.1 a.2.2.2.2.2.2.2.2.2.2.2.2.2.2.2.2.2.2.2.2.2.2.2.2.1 a.2.2.2.2.2.2.2.2.2.2.2.2.2.2.2.2.2.2.2.2.2.2.2.2.2.1,B a.2.2.2.2.2.2.2.2.2.2.2.2.2.2.2.2.2.2.2.2.2.2.2.2.2.2.1,B a.2.2.2.2.2.2.2.2.2.2.2.2.2.2.2.2.2.2.2.2.2.2.2.2.2.2.2]] fun c00 c01=>∃a38,∃a39 a40 a41,∃a42,∃a43 a44 a45,∃a46,∃a47 a48 a49,∃a50,∃a51 a52 a53,∃a54 a55 a56,∃a57,∃a58 a59 a60,∃a61 a62 a63,∃a64,∃a65,c00=A #[B a38,S a39 a40 a41,B a42,S a43 a44 a45,B a46,S a47 a48 a49,B a50,S a51 a52 a53,S a54 a55 a56,B a57,S a58 a59 a60,S a61 a62 a63,B a64,B a65]/\(Ca c01 35 #[A #[B a10,S a11 a12 a13,B a14,S a15 a16 a17,B a18,S a19 a20 a21,B a22,S a23 a24 a25,S a26 a27 a28,B a29,S a30 a31 a32,S a33 a34 a35,B a36,B a37],A #[B a38,S a39 a40 a41,B a42,S a43 a44 a45,B a46,S a47 a48 a49,B a50,S a51 a52 a53,S a54 a55 a56,B a57,S a58 a59 a60,S a61 a62 a63,B a64,B a65]] fun c02 c03=>∃g0,∃g1 g2 g3,∃g4 g5 g6,∃g7,∃g8 g9 i0,∃i1 i2 i3,∃c4,∃i4,c02=T #[A #[B g0,S g1 g2 g3,S g4 g5 g6,B g7,S g8 g9 i0,S i1 i2 i3],B c4,i4]/\(Ca c03 36 #[A #[B g,S i k l,B m,S n o p,B q,S r s t,B c5,S c6 c7 c8,S c9 d0 d1,B d2,S d3 d4 d5,S d6 d7 d8,B d9,B e0],A #[B a.1,S a.2.1 a.2.2.1 a.2.2.2.1,B a.2.2.2.2.1,S a.2.2.2.2.2.1 a.2.2.2.2.2.2.1 a.2.2.2.2.2.2.2.1,B a.2.2.2.2.2.2.2.2.1,S a.2.2.2.2.2.2.2.2.2.1 a.2.2.2.2.2.2.2.2.2.2.1 a.2.2.2.2.2.2.2.2.2.2.2.1,B a.2.2.2.2.2.2.2.2.2.2.2.2.1,S a.2.2.2.2.2.2.2.2.2.2.2.2.2.1 a.2.2.2.2.2.2.2.2.2.2.2.2.2.2.1 a.2.2.2.2.2.2.2.2.2.2.2.2.2.2.2.1,S a.2.2.2.2.2.2.2.2.2.2.2.2.2.2.2.2.1 a.2.2.2.2.2.2.2.2.2.2.2.2.2.2.2.2.2.1 a.2.2.2.2.2.2.2.2.2.2.2.2.2.2.2.2.2.2.1,B a.2.2.2.2.2.2.2.2.2.2.2.2.2.2.2.2.2.2.2.1,S a.2.2.2.2.2.2.2.2.2.2.2.2.2.2.2.2.2.2.2.2.1 a.2.2.2.2.2.2.2.2.2.2.2.2.2.2.2.2.2.2.2.2.2.1 a.2.2.2.2.2.2.2.2.2.2.2.2.2.2.2.2.2.2.2.2.2.2.1,S a.2.2.2.2.2.2.2.2.2.2.2.2.2.2.2.2.2.2.2.2.2.2.2.1 a.2.2.2.2.2.2.2.2.2.2.2.2.2.2.2.2.2.2.2.2.2.2.2.2.1 a.2.2.2.2.2.2.2.2.2.2.2.2.2.2.2.2.2.2.2.2.2.2.2.2.2.1,B a.2.2.2.2.2.2.2.2.2.2.2.2.2.2.2.2.2.2.2.2.2.2.2.2.2.2.1,B a.2.2.2.2.2.2.2.2.2.2.2.2.2.2.2.2.2.2.2.2.2.2.2.2.2.2.2]] fun c04 c05=>∃a66,∃a67 a68 a69,∃a70 a71 a72,∃a73,∃a74 a75 a76,∃a77 a78 a79,∃n0,c04=T #[A #[B a66,S a67 a68 a69,S a70 a71 a72,B a73,S a74 a75 a76,S a77 a78 a79],B n0]/\(Ca c05 15 #[A #[B g,S i k l,B m,S n o p,B q,S r s t,B c5,S c6 c7 c8,S c9 d0 d1,B d2,S d3 d4 d5,S d6 d7 d8,B d9,B e0]] fun c06 c07=>∃a80,∃a81 a82 a83,∃a84,∃a85 a86 a87,∃a88,∃a89 a90 a91,∃a92,∃a93 a94 a95,∃a96 a97 a98,∃a99,∃b00 b01 b02,∃b03 b04 b05,∃b06,∃b07,c06=A #[B a80,S a81 a82 a83,B a84,S a85 a86 a87,B a88,S a89 a90 a91,B a92,S a93 a94 a95,S a96 a97 a98,B a99,S b00 b01 b02,S b03 b04 b05,B b06,B b07]/\(Ca c07 15 #[A #[B a.1,S a.2.1 a.2.2.1 a.2.2.2.1,B a.2.2.2.2.1,S a.2.2.2.2.2.1 a.2.2.2.2.2.2.1 a.2.2.2.2.2.2.2.1,B a.2.2.2.2.2.2.2.2.1,S a.2.2.2.2.2.2.2.2.2.1 a.2.2.2.2.2.2.2.2.2.2.1 a.2.2.2.2.2.2.2.2.2.2.2.1,B a.2.2.2.2.2.2.2.2.2.2.2.2.1,S a.2.2.2.2.2.2.2.2.2.2.2.2.2.1 a.2.2.2.2.2.2.2.2.2.2.2.2.2.2.1 a.2.2.2.2.2.2.2.2.2.2.2.2.2.2.2.1,S a.2.2.2.2.2.2.2.2.2.2.2.2.2.2.2.2.1 a.2.2.2.2.2.2.2.2.2.2.2.2.2.2.2.2.2.1 a.2.2.2.2.2.2.2.2.2.2.2.2.2.2.2.2.2.2.1,B a.2.2.2.2.2.2.2.2.2.2.2.2.2.2.2.2.2.2.2.1,S a.2.2.2.2.2.2.2.2.2.2.2.2.2.2.2.2.2.2.2.2.1 a.2.2.2.2.2.2.2.2.2.2.2.2.2.2.2.2.2.2.2.2.2.1 a.2.2.2.2.2.2.2.2.2.2.2.2.2.2.2.2.2.2.2.2.2.2.1,S a.2.2.2.2.2.2.2.2.2.2.2.2.2.2.2.2.2.2.2.2.2.2.2.1 a.2.2.2.2.2.2.2.2.2.2.2.2.2.2.2.2.2.2.2.2.2.2.2.2.1 a.2.2.2.2.2.2.2.2.2.2.2.2.2.2.2.2.2.2.2.2.2.2.2.2.2.1,B a.2.2.2.2.2.2.2.2.2.2.2.2.2.2.2.2.2.2.2.2.2.2.2.2.2.2.1,B a.2.2.2.2.2.2.2.2.2.2.2.2.2.2.2.2.2.2.2.2.2.2.2.2.2.2.2]] fun c08 c09=>∃b08,∃b09 b10 b11,∃b12,∃b13 b14 b15,∃b16,∃b17 b18 b19,∃b20,∃b21 b22 b23,∃b24 b25 b26,∃b27,∃b28 b29 b30,∃b31 b32 b33,∃b34,∃b35,c08=A #[B b08,S b09 b10 b11,B b12,S b13 b14 b15,B b16,S b17 b18 b19,B b20,S b21 b22 b23,S b24 b25 b26,B b27,S b28 b29 b30,S b31 b32 b33,B b34,B b35]/\(Ca c09 37 #[A #[B a80,S a81 a82 a83,B a84,S a85 a86 a87,B a88,S a89 a90 a91,B a92,S a93 a94 a95,S a96 a97 a98,B a99,S b00 b01 b02,S b03 b04 b05,B b06,B b07],A #[B b08,S b09 b10 b11,B b12,S b13 b14 b15,B b16,S b17 b18 b19,B b20,S b21 b22 b23,S b24 b25 b26,B b27,S b28 b29 b30,S b31 b32 b33,B b34,B b35]] fun c10 c11=>∃u,∃x y z,∃a0,∃a1 a2 a3,∃a4,∃a5 a6 a7,∃a8,∃a9 b0 b1,∃b2 b3 b4,∃b5,∃b6 b7 b8,∃b9 c0 c1,∃c2,∃c3,∃f,∃i5,c10=T #[A #[B u,S x y z,B a0,S a1 a2 a3,B a4,S a5 a6 a7,B a8,S a9 b0 b1,S b2 b3 b4,B b5,S b6 b7 b8,S b9 c0 c1,B c2,B c3],B f,i5]/\(Ca c11 38 #[A #[B g,S i k l,B m,S n o p,B q,S r s t,B c5,S c6 c7 c8,S c9 d0 d1,B d2,S d3 d4 d5,S d6 d7 d8,B d9,B e0],A #[B a.1,S a.2.1 a.2.2.1 a.2.2.2.1,B a.2.2.2.2.1,S a.2.2.2.2.2.1 a.2.2.2.2.2.2.1 a.2.2.2.2.2.2.2.1,B a.2.2.2.2.2.2.2.2.1,S a.2.2.2.2.2.2.2.2.2.1 a.2.2.2.2.2.2.2.2.2.2.1 a.2.2.2.2.2.2.2.2.2.2.2.1,B a.2.2.2.2.2.2.2.2.2.2.2.2.1,S a.2.2.2.2.2.2.2.2.2.2.2.2.2.1 a.2.2.2.2.2.2.2.2.2.2.2.2.2.2.1 a.2.2.2.2.2.2.2.2.2.2.2.2.2.2.2.1,S a.2.2.2.2.2.2.2.2.2.2.2.2.2.2.2.2.1 a.2.2.2.2.2.2.2.2.2.2.2.2.2.2.2.2.2.1 a.2.2.2.2.2.2.2.2.2.2.2.2.2.2.2.2.2.2.1,B a.2.2.2.2.2.2.2.2.2.2.2.2.2.2.2.2.2.2.2.1,S a.2.2.2.2.2.2.2.2.2.2.2.2.2.2.2.2.2.2.2.2.1 a.2.2.2.2.2.2.2.2.2.2.2.2.2.2.2.2.2.2.2.2.2.1 a.2.2.2.2.2.2.2.2.2.2.2.2.2.2.2.2.2.2.2.2.2.2.1,S a.2.2.2.2.2.2.2.2.2.2.2.2.2.2.2.2.2.2.2.2.2.2.2.1 a.2.2.2.2.2.2.2.2.2.2.2.2.2.2.2.2.2.2.2.2.2.2.2.2.1 a.2.2.2.2.2.2.2.2.2.2.2.2.2.2.2.2.2.2.2.2.2.2.2.2.2.1,B a.2.2.2.2.2.2.2.2.2.2.2.2.2.2.2.2.2.2.2.2.2.2.2.2.2.2.1,B a.2.2.2.2.2.2.2.2.2.2.2.2.2.2.2.2.2.2.2.2.2.2.2.2.2.2.2]] fun c12 c13=>∃i6,∃i7 i8 i9,∃k0,∃k1 k2 k3,∃k4,∃k5 k6 k7,∃k8,∃k9 l0 l1,∃l2 l3 l4,∃l5,∃l6 l7 l8,∃l9 m0 m1,∃m2,∃m3,∃e1,c12=T #[A #[B i6,S i7 i8 i9,B k0,S k1 k2 k3,B k4,S k5 k6 k7,B k8,S k9 l0 l1,S l2 l3 l4,B l5,S l6 l7 l8,S l9 m0 m1,B m2,B m3],B e1]/\(Ca c13 23 #[] fun c14 e2=>∃n1,c14=B n1/\((n1=true->(IsIface i4)/\(((isNilI i4)=true->(IsIface i5)/\(((isNilI i5)=true->(((c4 == n0)=true->((c4=true->(Ca e2 10 #[A #[B a66,S a67 a68 a69,S a70 a71 a72,B a73,S a74 a75 a76,S a77 a78 a79]] fun c15 c16=>∃b36,∃b37 b38 b39,∃b40 b41 b42,∃b43,∃b44 b45 b46,∃b47 b48 b49,c15=A #[B b36,S b37 b38 b39,S b40 b41 b42,B b43,S b44 b45 b46,S b47 b48 b49]/\(Ca c16 18 #[A #[B g0,S g1 g2 g3,S g4 g5 g6,B g7,S g8 g9 i0,S i1 i2 i3],A #[B b36,S b37 b38 b39,S b40 b41 b42,B b43,S b44 b45 b46,S b47 b48 b49]] fun c17 e3=>∃n2,c17=B n2/\((n2=true->(((f == e1)=true->((f=true->(Ca e3 12 #[A #[B u,S x y z,B a0,S a1 a2 a3,B a4,S a5 a6 a7,B a8,S a9 b0 b1,S b2 b3 b4,B b5,S b6 b7 b8,S b9 c0 c1,B c2,B c3],A #[B i6,S i7 i8 i9,B k0,S k1 k2 k3,B k4,S k5 k6 k7,B k8,S k9 l0 l1,S l2 l3 l4,B l5,S l6 l7 l8,S l9 m0 m1,B m2,B m3]] fun c18 n3=>∃n4,c18=B n4/\((n4=true->(Rt n3 R (B true)))/\(n4=false->(((!f)=true->(Ca n3 13 #[A #[B u,S x y z,B a0,S a1 a2 a3,B a4,S a5 a6 a7,B a8,S a9 b0 b1,S b2 b3 b4,B b5,S b6 b7 b8,S b9 c0 c1,B c2,B c3]] fun c19 c20=>∃b51,c19=B b51/\(Rt c20 R (B b51))))/\((!f)=false->(Rt n3 R (B false))))))))/\(f=false->(((!f)=true->(Ca e3 13 #[A #[B u,S x y z,B a0,S a1 a2 a3,B a4,S a5 a6 a7,B a8,S a9 b0 b1,S b2 b3 b4,B b5,S b6 b7 b8,S b9 c0 c1,B c2,B c3]] fun c21 c22=>∃b54,c21=B b54/\(Rt c22 R (B b54))))/\((!f)=false->(Rt e3 R (B false)))))))/\((f == e1)=false->(Rt e3 R (B false)))))/\(n2=false->(((!c4)=true->(Ca e3 18 #[A #[B g0,S g1 g2 g3,S g4 g5 g6,B g7,S g8 g9 i0,S i1 i2 i3],A #[B false,S none 0 0,S none 0 0,B false,S none 0 0,S none 0 0]] fun c23 f1=>∃n5,c23=B n5/\((n5=true->(((f == e1)=true->((f=true->(Ca f1 12 #[A #[B u,S x y z,B a0,S a1 a2 a3,B a4,S a5 a6 a7,B a8,S a9 b0 b1,S b2 b3 b4,B b5,S b6 b7 b8,S b9 c0 c1,B c2,B c3],A #[B i6,S i7 i8 i9,B k0,S k1 k2 k3,B k4,S k5 k6 k7,B k8,S k9 l0 l1,S l2 l3 l4,B l5,S l6 l7 l8,S l9 m0 m1,B m2,B m3]] fun c24 n6=>∃n7,c24=B n7/\((n7=true->(Rt n6 R (B true)))/\(n7=false->(((!f)=true->(Ca n6 13 #[A #[B u,S x y z,B a0,S a1 a2 a3,B a4,S a5 a6 a7,B a8,S a9 b0 b1,S b2 b3 b4,B b5,S b6 b7 b8,S b9 c0 c1,B c2,B c3]] fun c25 c26=>∃b59,c25=B b59/\(Rt c26 R (B b59))))/\((!f)=false->(Rt n6 R (B false))))))))/\(f=false->(((!f)=true->(Ca f1 13 #[A #[B u,S x y z,B a0,S a1 a2 a3,B a4,S a5 a6 a7,B a8,S a9 b0 b1,S b2 b3 b4,B b5,S b6 b7 b8,S b9 c0 c1,B c2,B c3]] fun c27 c28=>∃b62,c27=B b62/\(Rt c28 R (B b62))))/\((!f)=false->(Rt f1 R (B false)))))))/\((f == e1)=false->(Rt f1 R (B false)))))/\(n5=false->(Rt f1 R (B false))))))/\((!c4)=false->(Rt e3 R (B false)))))))))/\(c4=false->(((!c4)=true->(Ca e2 18 #[A #[B g0,S g1 g2 g3,S g4 g5 g6,B g7,S g8 g9 i0,S i1 i2 i3],A #[B false,S none 0 0,S none 0 0,B false,S none 0 0,S none 0 0]] fun c29 f2=>∃n8,c29=B n8/\((n8=true->(((f == e1)=true->((f=true->(Ca f2 12 #[A #[B u,S x y z,B a0,S a1 a2 a3,B a4,S a5 a6 a7,B a8,S a9 b0 b1,S b2 b3 b4,B b5,S b6 b7 b8,S b9 c0 c1,B c2,B c3],A #[B i6,S i7 i8 i9,B k0,S k1 k2 k3,B k4,S k5 k6 k7,B k8,S k9 l0 l1,S l2 l3 l4,B l5,S l6 l7 l8,S l9 m0 m1,B m2,B m3]] fun c30 n9=>∃o0,c30=B o0/\((o0=true->(Rt n9 R (B true)))/\(o0=false->(((!f)=true->(Ca n9 13 #[A #[B u,S x y z,B a0,S a1 a2 a3,B a4,S a5 a6 a7,B a8,S a9 b0 b1,S b2 b3 b4,B b5,S b6 b7 b8,S b9 c0 c1,B c2,B c3]] fun c31 c32=>∃b69,c31=B b69/\(Rt c32 R (B b69))))/\((!f)=false->(Rt n9 R (B false))))))))/\(f=false->(((!f)=true->(Ca f2 13 #[A #[B u,S x y z,B a0,S a1 a2 a3,B a4,S a5 a6 a7,B a8,S a9 b0 b1,S b2 b3 b4,B b5,S b6 b7 b8,S b9 c0 c1,B c2,B c3]] fun c33 c34=>∃b72,c33=B b72/\(Rt c34 R (B b72))))/\((!f)=false->(Rt f2 R (B false)))))))/\((f == e1)=false->(Rt f2 R (B false)))))/\(n8=false->(Rt f2 R (B false))))))/\((!c4)=false->(Rt e2 R (B false)))))))/\((c4 == n0)=false->(Rt e2 R (B false)))))/\((isNilI i5)=false->(Rt e2 R (B false)))))/\((isNilI i4)=false->(Rt e2 R (B false)))))/\(n1=false->(Rt e2 R (B false)))))))))))))))))))):
 Acts prog 5 #[S o1 o2 o3] V R:=
 fd (LF:=LF0) (RF:=[1000007]) [] [(500000,⟨Bool × (OA) × Nat × Nat × Bool × (OA) × Nat × Nat × Bool × (OA) × Nat × Nat × Bool × (OA) × Nat × Nat × (OA) × Nat × Nat × Bool × (OA) × Nat × Nat × (OA) × Nat × Nat × Bool × Bool,false,[4,5],[4],fun e=>[],fun e=>[(5,⟨.lit [.v (B e.1),.v (S e.2.1 e.2.2.1 e.2.2.2.1),.v (B e.2.2.2.2.1),.v (S e.2.2.2.2.2.1 e.2.2.2.2.2.2.1 e.2.2.2.2.2.2.2.1),.v (B e.2.2.2.2.2.2.2.2.1),.v (S e.2.2.2.2.2.2.2.2.2.1 e.2.2.2.2.2.2.2.2.2.2.1 e.2.2.2.2.2.2.2.2.2.2.2.1),.v (B e.2.2.2.2.2.2.2.2.2.2.2.2.1),.v (S e.2.2.2.2.2.2.2.2.2.2.2.2.2.1 e.2.2.2.2.2.2.2.2.2.2.2.2.2.2.1 e.2.2.2.2.2.2.2.2.2.2.2.2.2.2.2.1),.v (S e.2.2.2.2.2.2.2.2.2.2.2.2.2.2.2.2.1 e.2.2.2.2.2.2.2.2.2.2.2.2.2.2.2.2.2.1 e.2.2.2.2.2.2.2.2.2.2.2.2.2.2.2.2.2.2.1),.v (B e.2.2.2.2.2.2.2.2.2.2.2.2.2.2.2.2.2.2.2.1),.v (S e.2.2.2.2.2.2.2.2.2.2.2.2.2.2.2.2.2.2.2.2.1 e.2.2.2.2.2.2.2.2.2.2.2.2.2.2.2.2.2.2.2.2.2.1 e.2.2.2.2.2.2.2.2.2.2.2.2.2.2.2.2.2.2.2.2.2.2.1),.v (S e.2.2.2.2.2.2.2.2.2.2.2.2.2.2.2.2.2.2.2.2.2.2.2.1 e.2.2.2.2.2.2.2.2.2.2.2.2.2.2.2.2.2.2.2.2.2.2.2.2.1 e.2.2.2.2.2.2.2.2.2.2.2.2.2.2.2.2.2.2.2.2.2.2.2.2.2.1),.v (B e.2.2.2.2.2.2.2.2.2.2.2.2.2.2.2.2.2.2.2.2.2.2.2.2.2.2.1),.v (B e.2.2.2.2.2.2.2.2.2.2.2.2.2.2.2.2.2.2.2.2.2.2.2.2.2.2.2)],55⟩)]⟩)] func5 h
end Go.Proofs.Tryz
/- Law 07: FragmentMeets. -/
namespace Go.Proofs.Tryz
open Go.Eng Go.Big
theorem c_Overlap {V:View} {v w:Value} {l:L3} {s:Sp} {m:L3} {t:Sp} (h:RFa V v l s) (h':RFa V w m t) (ho:FOk l s) (ho':FOk m t) {k:Nat} (sl:SzL k l) (ss:s.sz k) (sm:SzL k m) (st:t.sz k) (hk:400 * k + 400 < 274877906944) :
  Acts prog 37 #[v,w] V fun r V'=>∃u,r=.tuple #[u,.bool (ovB l s m t),.nilIface]/\FSh u/\(ovB l s m t=false->FZero u)/\(ovB l s m t=true->RFa V' u l (s.meet (onS m t l))):=by
 have h0:=h
 have h0':=h'
 obtain ⟨_,_,_,_,_,_,_,_,_,_,_,_,_,_,_,_,_,_,_,_,_,_,_,_,_,_,rfl⟩:=fa_shape h
 obtain ⟨_,_,_,_,_,_,_,_,_,_,_,_,_,_,_,_,_,_,_,_,_,_,_,_,_,_,rfl⟩:=fa_shape h'
 refine vc_fragment_Overlap _ _ _ _ _ _ _ _ _ _ _ _ _ _ _ _ _ _ _ _ _ _ _ _ _ _ _ _ _ _ _ _ _ _ _ _ _ _ _ _ _ _ _ _ _ _ _ _ _ _ _ _ _ _ _ _ V _ fun V1 l1=>(c_FrOf_ok (h0.le l1) ho sl ss (by omega)).mono ?_
 rintro r V2 l2 ⟨u,rfl,g1⟩
 have g10:=g1
 obtain ⟨_,_,_,_,_,_,_,_,_,_,_,_,_,_,_,rfl⟩:=FrSh.ex g1
 refine ⟨_,_,_,_,_,_,_,_,_,_,_,_,_,_,_,_,_,_,rfl,fun V3 l3=>(c_FrOf_ok (h0'.le (l1.trans (l2.trans l3))) ho' sm st (by omega)).mono ?_⟩
 rintro r V4 l4 ⟨u,rfl,g2⟩
 have g20:=g2
 obtain ⟨_,_,_,_,_,_,_,_,_,_,_,_,_,_,_,rfl⟩:=FrSh.ex g2
 refine ⟨_,_,_,_,_,_,_,_,_,_,_,_,_,_,_,_,_,_,rfl,(fun h=>nomatch h),fun _=>⟨(fun h=>nomatch h),fun _ V7 l7=>(c_Fr_Overlap (g10.le (l3.trans (l4.trans l7))) (g20.le l7) sl ss sm st (by omega)).mono ?_⟩⟩
 rintro r V8 l8 ⟨u,rfl,⟨_,_,_,_,_,_,_,_,_,_,_,_,_,_,_,_,_,rfl⟩,k1⟩
 refine ⟨_,_,_,_,_,_,_,_,_,_,_,_,_,_,_,_,_,_,rfl,fun hb V9 l9=>?_,fun hb V10 l10=>?_⟩
 ·rw [Bool.not_eq_true'] at hb
  rw [hb]
  exact ⟨_,rfl,⟨_,_,_,_,_,_,_,_,_,_,_,_,_,_,_,_,_,_,_,_,_,_,_,_,_,_,_,_,rfl⟩,fun _=>rfl,(fun h=>nomatch h)⟩
 ·rw [Bool.not_eq_false'] at hb
  rw [hb]
  refine (c_Fr_API ((k1 hb).le l10) sl (Sp.meet_sz ss (onS_sz st)) (by omega)).mono ?_
  rintro r V11 l11 g
  have g0:=g
  obtain ⟨_,_,_,_,_,_,_,_,_,_,_,_,_,_,_,_,_,_,_,_,_,_,_,_,_,_,rfl⟩:=fa_shape g
  exact ⟨_,_,_,_,_,_,_,_,_,_,_,_,_,_,_,_,_,_,_,_,_,_,_,_,_,_,_,_,rfl,fun V12 l12=>⟨_,rfl,⟨_,_,_,_,_,_,_,_,_,_,_,_,_,_,_,_,_,_,_,_,_,_,_,_,_,_,_,_,rfl⟩,(fun h=>nomatch h),fun _=>g0.le l12⟩⟩
theorem okL_rev {l:L3} (h:okL l=true):okL (revL l)=true:=by
 unfold okL revL gcd3 at *
 simp only [Int.natAbs_neg] at *
 simpa using h
/-- A right, small fragment of the reference. -/
def RGf (V:View) (v:Value):Prop:=∃m t,RF V v m t/\FOk m t/\SzL 5000 m/\t.sz 5000
set_option maxHeartbeats 1000000 in
theorem c_FragmentMeets {V:View} {lp:OA} {ln lc:Nat} (hr:Rdl V lp ln) (hc:ln<=lc) :
  Acts prog 5 #[.slice lp ln lc] V fun r V'=>r=.bool true:=by
 refine vc_law07_FragmentMeets lp ln lc V _ fun V1 l1=>(c_scene_New hc).mono ?_
 rintro r V2 l2 ⟨bk1,rfl,hfr,hb⟩
 refine ⟨bk1,_,_,_,_,rfl,hfr,hb,fun V3 l3 bk4 e4 h4=>?_⟩
 have l13:V1.Le V3:=le_fresh l2 hfr l3
 have hmin:min ln 400<=400:=Nat.min_le_right _ _
 have hr:Rdl V lp (min ln 400):=fun i hi=>hr i (Nat.lt_of_lt_of_le hi (Nat.min_le_left _ _))
 generalize min ln 400=n at *
 have l03:V.Le V3:=l1.trans l13
 refine (c_F (V:=V3.lend [bk4]) (hr.le fun b o h=>l03 b o h) hmin e4 ⟨by simp,h4⟩ (Int.le_refl 0)).mono ?_
 rintro r V4 l4 ⟨lf,sf,at1,gf,fok,slf,ssf,t1,hw1⟩
 have gf0:=gf
 obtain ⟨_,_,_,_,_,_,_,_,_,_,_,_,_,_,_,_,_,_,_,_,_,_,_,_,_,_,rfl⟩:=rf_shape gf
 refine ⟨_,_,_,_,_,_,_,_,_,_,_,_,_,_,_,_,_,_,_,_,_,_,_,_,_,_,_,_,rfl,_,_,_,_,hw1,fun V5 l5 bk13 e5 h5=>(c_F (V:=V5.lend [bk13]) (hr.le fun b o h=>l5 b o (l4 b o (l03 b o h))) hmin e5 ⟨by simp,h5⟩ t1).mono ?_⟩
 rintro r V6 l6 ⟨lg,sg,at2,gg,gok,slg,ssg,t2,hw2⟩
 have gg0:=gg
 obtain ⟨_,_,_,_,_,_,_,_,_,_,_,_,_,_,_,_,_,_,_,_,_,_,_,_,_,_,rfl⟩:=rf_shape gg
 have l46:V4.Le V6:=fun b o h=>l6 b o (l5 b o h)
 refine ⟨_,_,_,_,_,_,_,_,_,_,_,_,_,_,_,_,_,_,_,_,_,_,_,_,_,_,_,_,rfl,_,_,_,_,hw2,fun V7 l7 bk38 e7 h7=>(c_Next (V:=V7.lend [bk38]) 4 (hr.le fun b o h=>l7 b o (l46 b o (l4 b o (l03 b o h)))) hmin e7 ⟨by simp,h7⟩ t2 (by omega) (by omega)).mono ?_⟩
 rintro r V8 l8 ⟨x,at3,rfl,-,-,t3,hw3⟩
 have l68:V6.Le V8:=fun b o h=>l8 b o (l7 b o h)
 obtain ⟨gl0,-⟩:=rf_parts gf0
 refine ⟨_,rfl,_,_,_,_,hw3,fun ⟨b1,p1,n1,c1,b2,p2,n2,c2,b3,p3,n3,c3,b,p,n,c,p',n',c',d,q,m,e,q',m',e',x,y⟩ V'=>RGf V' (.agg #[.bool b1,.slice p1 n1 c1,.bool b2,.slice p2 n2 c2,.bool b3,.slice p3 n3 c3,.bool b,.slice p n c,.slice p' n' c',.bool d,.slice q m e,.slice q' m' e',.bool x,.bool y]),
  ⟨fun _ V9 l9 bk43 e9 h9=>(c_S (V:=V9.lend [bk43]) (hr.le fun b o h=>l9 b o (l68 b o (l46 b o (l4 b o (l03 b o h))))) hmin e9 ⟨by simp,h9⟩ t3).mono ?_,fun _=>⟨fun _ V11 l11 bk55 e11 h11=>(c_S (V:=V11.lend [bk55]) (hr.le fun b o h=>l11 b o (l68 b o (l46 b o (l4 b o (l03 b o h))))) hmin e11 ⟨by simp,h11⟩ t3).mono ?_,fun _=>⟨(_,_,_,_,_,_,_,_,_,_,_,_,_,_,_,_,_,_,_,_,_,_,_,_,_,_,_,_),by and_intros <;> rfl,lg,sg,gg0.le fun b o h=>l68 b o h,gok,slg,ssg⟩⟩⟩,?_⟩
 ·rintro r V10 l10 ⟨s,at4,gs,hc,hne,ss,-,hw4⟩
  have gs0:=gs
  obtain ⟨_,_,_,_,_,_,_,_,_,_,_,_,_,_,rfl⟩:=rs_shape gs
  exact ⟨_,_,_,_,_,_,_,_,_,_,_,_,_,_,_,_,rfl,_,_,_,_,hw4,⟨(_,_,_,_,_,_,_,_,_,_,_,_,_,_,_,_,_,_,_,_,_,_,_,_,_,_,_,_),by and_intros <;> rfl,lf,s,⟨_,_,_,_,_,_,_,_,_,_,_,_,_,_,_,_,_,_,_,_,_,_,_,_,_,_,rfl,gl0.le fun b o h=>l10 b o (l9 b o (l68 b o (l46 b o h))),gs0.le fun b o h=>h⟩,⟨fok.1,hc,hne⟩,slf,Sz.mono ss.1 (by omega),Sz.mono ss.2 (by omega)⟩⟩
 ·rintro r V12 l12 ⟨s,at4,gs,hc,hne,ss,-,hw4⟩
  have gs0:=gs
  obtain ⟨_,_,_,_,_,_,_,_,_,_,_,_,_,_,rfl⟩:=rs_shape gs
  refine ⟨_,_,_,_,_,_,_,_,_,_,_,_,_,_,_,_,rfl,_,_,_,_,hw4,fun V13 l13=>?_⟩
  have gx:RF V13 _ lf s:=⟨_,_,_,_,_,_,_,_,_,_,_,_,_,_,_,_,_,_,_,_,_,_,_,_,_,_,rfl,gl0.le fun b o h=>l13 b o (l12 b o (l11 b o (l68 b o (l46 b o h)))),gs0.le fun b o h=>l13 b o h⟩
  refine (c_ref06_Rev gx).mono ?_
  rintro r V14 l14 gv
  have gv0:=gv
  obtain ⟨_,_,_,_,_,_,_,_,_,_,_,_,_,_,_,_,_,_,_,_,_,_,_,_,_,_,rfl⟩:=rf_shape gv
  exact ⟨_,_,_,_,_,_,_,_,_,_,_,_,_,_,_,_,_,_,_,_,_,_,_,_,_,_,_,_,rfl,(_,_,_,_,_,_,_,_,_,_,_,_,_,_,_,_,_,_,_,_,_,_,_,_,_,_,_,_),by and_intros <;> rfl,revL lf,s.neg,gv0,⟨okL_rev fok.1,neg_good ⟨hc,hne⟩⟩,slf.rev,Sp.neg_sz ⟨Sz.mono ss.1 (by omega),Sz.mono ss.2 (by omega)⟩⟩
 clear gg0 gok slg ssg gl0 hw1 hw2 hw3 hb e4 h4 e5 h5 e7 h7
 rintro ⟨_,_,_,_,_,_,_,_,_,_,_,_,_,_,_,_,_,_,_,_,_,_,_,_,_,_,_,_⟩ V15 l15 ⟨lg,sg,gg0,gok,slg,ssg⟩
 have l4_15:V4.Le V15:=fun b o h=>l15 b o (l68 b o (l46 b o h))
 replace gf0:=gf0.le l4_15
 clear l4_15 l15 l68 l46 l4 l5 l6 l7 l8 l3 l13 l03 hfr
 obtain ⟨K,hK⟩:∃K:Nat,K=5000:=⟨5000,rfl⟩
 rw [← hK] at slf ssf slg ssg
 refine ⟨rfl,fun V16 l16=>(c_ref06_WriteF (gf0.le l16) slf ssf (by omega)).mono ?_⟩
 rintro r V17 l17 wa
 have wa0:=wa
 obtain ⟨_,_,_,_,_,_,_,_,_,_,_,_,_,_,_,_,_,_,_,_,_,_,_,_,_,_,rfl⟩:=fa_shape wa
 refine ⟨_,_,_,_,_,_,_,_,_,_,_,_,_,_,_,_,_,_,_,_,_,_,_,_,_,_,_,_,rfl,fun V18 l18=>(c_ref06_WriteF (gg0.le (l16.trans (l17.trans l18))) slg ssg (by omega)).mono ?_⟩
 rintro r V19 l19 wb
 have wb0:=wb
 obtain ⟨_,_,_,_,_,_,_,_,_,_,_,_,_,_,_,_,_,_,_,_,_,_,_,_,_,_,rfl⟩:=fa_shape wb
 refine ⟨_,_,_,_,_,_,_,_,_,_,_,_,_,_,_,_,_,_,_,_,_,_,_,_,_,_,_,_,rfl,fun V20 l20=>(c_Meet (wa0.le (l18.trans (l19.trans l20))) (wb0.le l20) fok gok slf ssf slg ssg (by omega)).mono ?_⟩
 rintro r V21 l21 ⟨u,rfl,u1,u2⟩
 obtain ⟨_,_,_,_,_,_,_,_,_,_,_,_,_,_,rfl⟩:=me_shape u1 u2
 have l15_21:=l16.trans (l17.trans (l18.trans (l19.trans (l20.trans l21))))
 refine ⟨_,_,_,_,_,_,_,_,_,_,_,_,_,_,_,_,rfl,fun V22 l22=>(c_ref06_Meet (gf0.le (l15_21.trans l22)) (gg0.le (l15_21.trans l22)) fok gok slf ssf slg ssg (by omega)).mono ?_⟩
 rintro r V23 l23 ⟨u,rfl,⟨_,_,_,_,_,_,_,_,_,_,_,_,_,_,rfl⟩,v2⟩
 have l15_23:=l15_21.trans (l22.trans l23)
 refine ⟨_,_,_,_,_,_,_,_,_,_,_,_,_,_,_,rfl,fun V24 l24=>(c_ref06_WriteF (gf0.le (l15_23.trans l24)) slf ssf (by omega)).mono ?_⟩
 rintro r V25 l25 wc
 have wc0:=wc
 obtain ⟨_,_,_,_,_,_,_,_,_,_,_,_,_,_,_,_,_,_,_,_,_,_,_,_,_,_,rfl⟩:=fa_shape wc
 refine ⟨_,_,_,_,_,_,_,_,_,_,_,_,_,_,_,_,_,_,_,_,_,_,_,_,_,_,_,_,rfl,fun V26 l26=>(c_ref06_WriteF (gg0.le (l15_23.trans (l24.trans (l25.trans l26)))) slg ssg (by omega)).mono ?_⟩
 rintro r V27 l27 wd
 have wd0:=wd
 obtain ⟨_,_,_,_,_,_,_,_,_,_,_,_,_,_,_,_,_,_,_,_,_,_,_,_,_,_,rfl⟩:=fa_shape wd
 refine ⟨_,_,_,_,_,_,_,_,_,_,_,_,_,_,_,_,_,_,_,_,_,_,_,_,_,_,_,_,rfl,fun V28 l28=>(c_Overlap (wc0.le (l26.trans (l27.trans l28))) (wd0.le l28) fok gok slf ssf slg ssg (by omega)).mono ?_⟩
 rintro r V29 l29 ⟨u,rfl,⟨_,_,_,_,_,_,_,_,_,_,_,_,_,_,_,_,_,_,_,_,_,_,_,_,_,_,_,_,rfl⟩,x1,x2⟩
 have l23_29:=l24.trans (l25.trans (l26.trans (l27.trans (l28.trans l29))))
 refine ⟨_,_,_,_,_,_,_,_,_,_,_,_,_,_,_,_,_,_,_,_,_,_,_,_,_,_,_,_,_,_,rfl,fun V30 l30=>(c_ref06_Overlap (gf0.le (l15_23.trans (l23_29.trans l30))) (gg0.le (l15_23.trans (l23_29.trans l30))) fok gok slf ssf slg ssg (by omega)).mono ?_⟩
 rintro r V31 l31 ⟨u,rfl,⟨_,_,_,_,_,_,_,_,_,_,_,_,_,_,_,_,_,_,_,_,_,_,_,_,_,_,_,_,rfl⟩,y2⟩
 refine ⟨_,_,_,_,_,_,_,_,_,_,_,_,_,_,_,_,_,_,_,_,_,_,_,_,_,_,_,_,_,rfl,fun V32 l32=>c_known7.mono ?_⟩
 rintro r V33 l33 rfl
 have l29_33:=l30.trans (l31.trans (l32.trans l33))
 have sm:=Sp.meet_sz ssf (onS_sz (m:=lg) (l:=lf) ssg)
 have hs:ovB lf sf lg sg=true->∀W,V33.Le W->Acts prog 12 _ W fun r V'=>r=.bool true:=fun h W lw=>
  c_same ((x2 h).le (l29_33.trans lw)) ((y2 h).le (l32.trans (l33.trans lw))) slf sm (by omega)
 refine ⟨_,rfl,fun _=>⟨iface_nil,fun _=>⟨iface_nil,fun _=>⟨fun _=>⟨fun hm V34 l34=>?_,fun hm=>?_⟩,fun h=>absurd h (by simp)⟩,(fun h=>nomatch h)⟩,(fun h=>nomatch h)⟩,(fun h=>nomatch h)⟩
 ·obtain ⟨q3,q4⟩:=sz_mt (t:=sg) slf ssf slg
  refine (c_ref04_ToP ((v2 hm).le (l23_29.trans (l29_33.trans l34))) q3 q4 (by omega)).mono ?_
  rintro r V35 l35 ga
  have ga0:=ga
  obtain ⟨_,_,_,_,_,_,_,_,_,_,_,_,_,_,rfl⟩:=ap_shape ga
  refine ⟨_,_,_,_,_,_,_,_,_,_,_,_,_,_,rfl,fun V36 l36=>(c_ref04_SameP ((u2 hm).le (l22.trans (l23.trans (l23_29.trans (l29_33.trans (l34.trans (l35.trans l36))))))) (ga0.le l36) q3 q4 (by omega)).mono ?_⟩
  rintro r V37 l37 rfl
  have l33_37:=l34.trans (l35.trans (l36.trans l37))
  refine ⟨_,rfl,fun _=>⟨fun _=>⟨fun ho V38 l38=>(hs ho V38 (l33_37.trans l38)).mono ?_,fun ho=>⟨fun _ V39 l39=>(c_same0 (x1 ho)).mono ?_,fun h=>?_⟩⟩,fun h=>?_⟩,fun h=>?_⟩
  ·rintro r V40 l40 rfl
   exact ⟨_,rfl,fun _ V41 l41=>rfl,(fun h=>nomatch h)⟩
  ·rintro r V40 l40 rfl
   exact ⟨_,rfl,fun V41 l41=>rfl⟩
  ·rw [ho] at h; cases h
  ·simp at h
  ·exact absurd h (by simp)
 ·refine ⟨fun _ V34 l34=>(c_SameP0 (u1 hm) rfl).mono ?_,fun h=>by rw [hm] at h; cases h⟩
  rintro r V37 l37 rfl
  have l33_37:=l34.trans l37
  refine ⟨_,rfl,fun _=>⟨fun _=>⟨fun ho V38 l38=>(hs ho V38 (l33_37.trans l38)).mono ?_,fun ho=>⟨fun _ V39 l39=>(c_same0 (x1 ho)).mono ?_,fun h=>?_⟩⟩,fun h=>?_⟩,fun h=>?_⟩
  ·rintro r V40 l40 rfl
   exact ⟨_,rfl,fun _ V41 l41=>rfl,(fun h=>nomatch h)⟩
  ·rintro r V40 l40 rfl
   exact ⟨_,rfl,fun V41 l41=>rfl⟩
  ·rw [ho] at h; cases h
  ·simp at h
  ·exact absurd h (by simp)
end Go.Proofs.Tryz
