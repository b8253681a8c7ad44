/- A part of the proof (joined by program from: VLaw6G, Law6F). -/
import Derived.Test.YtimkdinmcbepnaaGreatDoorR5
import Derived.Test.YtimkdinmcbepnaaGreatDoorR19
set_option linter.unusedVariables false
open Go.IntKind (i64 u64 u32)
/- By program: the conditions of the functions, from their loaded code. -/
namespace Go.Proofs.Tryz
open Go.Eng
open Go.Value renaming int→I,pointer→P,slice→S,agg→A,bool→B,tuple→T
open Go.IntKind renaming i64→J,u64→U,u32→W
set_option maxRecDepth 100000
theorem vc_law06_SpanMeasures (k0:OA) (k1 k2:Nat) (V:View) (R:VR) (h:(∀f4,V.Le f4->Acts prog 10 #[S k0 k1 k2] f4 fun a92 k3=>∃c5:Nat,∃k4 k5 k6,∃k7,a92=P (some ⟨c5,0,none⟩)/\f4.w.heap.size<=c5/\k3.blk c5 (.cells #[S k4 k5 k6,I J k7] 107 (0,0))/\(∀c6:View,(k3.hide c5).Le c6->∀b8:Nat,(c6.w.heap[b8]?=some (.cells #[S k4 k5 k6,I J k7] 107 (0,0)))->(c6.H b8)->Acts prog 12 #[P (some ⟨b8,0,none⟩)] (c6.lend [b8]) fun a93 k8=>∃a8 m b0,a93=S a8 m b0/\∃k9 l0 l1,∃l2,k8.w.heap[b8]?=some (.cells #[S k9 l0 l1,I J l2] 107 (0,0))/\(∀c7,k8.shut.Le c7->∀b9:Nat,(c7.w.heap[b9]?=some (.cells #[S k9 l0 l1,I J l2] 107 (0,0)))->(c7.H b9)->Acts prog 29 #[P (some ⟨b9,0,none⟩)] (c7.lend [b9]) fun a94 l3=>∃s,∃t u x,∃y z a0,a94=A #[B s,S t u x,S y z a0]/\∃l4 l5 l6,∃l7,l3.w.heap[b9]?=some (.cells #[S l4 l5 l6,I J l7] 107 (0,0))/\(∀c8,l3.shut.Le c8->∀c0:Nat,(c8.w.heap[c0]?=some (.cells #[S l4 l5 l6,I J l7] 107 (0,0)))->(c8.H c0)->Acts prog 31 #[P (some ⟨c0,0,none⟩),I J 2] (c8.lend [c0]) fun a95 c1=>∃f5,a95=I J f5/\∃a96 a97 a98,∃a99,c1.w.heap[c0]?=some (.cells #[S a96 a97 a98,I J a99] 107 (0,0))/\(∃f6:((OA) × Nat × Nat)->VP,(((f5 == (0:Int))=true->(∃(c2:(Nat × Nat × (List Value) × Int)->VP) (b1:(Nat × Nat × (List Value) × Int)->Nat),(∃c3,(s6 0 a8 m b0 (m:Int) (none:OA) (((0:Nat)=c3.1)/\((0:Nat)=c3.2.1)/\sm 0/\((0:Int)=c3.2.2.2)/\s7 s t u x y z a0 ((c3.2.2.1=[]))))/\c2 c3 c1.shut)/\∀(b:Nat × Nat × (List Value) × Int) (l:View),c1.shut.Le l->c2 b l->(true=true/\(((decide (b.2.2.2 < (m:Int)))=true->(a8.isSome=true)/\(0<=b.2.2.2/\b.2.2.2 < (m:Int))/\(∃c9,∃d0 d1 d2,∃d3 d4 d5,∃d6,∃d7 d8 d9,∃e0 e1 e2,∃b2,∃b3,∃a1,addrAdd a8 (b.2.2.2.toNat * 8)=some a1/\l.at (a1.add 0) (B c9)/\l.at (a1.add 1) (S d0 d1 d2)/\l.at (a1.add 2) (S d3 d4 d5)/\l.at (a1.add 3) (B d6)/\l.at (a1.add 4) (S d7 d8 d9)/\l.at (a1.add 5) (S e0 e1 e2)/\l.at (a1.add 6) (B b2)/\l.at (a1.add 7) (B b3)/\(((!b2)=true->(((!b3)=true->((b.1 + 1) * 120<=140737488355328/\b.1<=b.2.1/\b.2.1 * 8<=b.2.2.1.length/\([B c9,S d0 d1 d2,S d3 d4 d5,B d6,S d7 d8 d9,S e0 e1 e2,B b2,B b3]:List Value).length=1 * 8/\(∀b00 ∈ ([B c9,S d0 d1 d2,S d3 d4 d5,B d6,S d7 d8 d9,S e0 e1 e2,B b2,B b3]:List Value),b00.oneCell'=true)/\∀(l8:List Value) (f7:Nat),b.1 + 1<=f7->f7 * 8<=(b.1 + 1) * 8 + l8.length->(∃b4:Nat × Nat × (List Value) × Int,b1 b4 < b1 b/\(s5 0 a8 m b0 (m:Int) (((b.1 + 1:Nat)=b4.1)/\((f7:Nat)=b4.2.1)/\((J.wrap (b.2.2.2 + (1:Int)))=b4.2.2.2)/\s7 s t u x y z a0 (((b.2.2.1.take (b.1 * 8)++([B c9,S d0 d1 d2,S d3 d4 d5,B d6,S d7 d8 d9,S e0 e1 e2,B b2,B b3]:List Value)++l8)=b4.2.2.1))))/\c2 b4 l)))/\((!b3)=false->(∃b5:Nat × Nat × (List Value) × Int,b1 b5 < b1 b/\(s5 0 a8 m b0 (m:Int) (((b.1:Nat)=b5.1)/\((b.2.1:Nat)=b5.2.1)/\((J.wrap (b.2.2.2 + (1:Int)))=b5.2.2.2)/\s7 s t u x y z a0 ((b.2.2.1=b5.2.2.1))))/\c2 b5 l))))/\((!b2)=false->(∃b6:Nat × Nat × (List Value) × Int,b1 b6 < b1 b/\(s5 0 a8 m b0 (m:Int) (((b.1:Nat)=b6.1)/\((b.2.1:Nat)=b6.2.1)/\((J.wrap (b.2.2.2 + (1:Int)))=b6.2.2.2)/\s7 s t u x y z a0 ((b.2.2.1=b6.2.2.1))))/\c2 b6 l)))))/\((decide (b.2.2.2 < (m:Int)))=false->(∀f8,l.Le f8->∀l9:Nat,(b.2.2.1≠[]->f8.blk l9 (.cells b.2.2.1.toArray 45 (0,0)))->∀b46:C->Value,(∃e3:(OA) × Nat × Nat,(sm 0/\((mA l9 b.2.1:OA)=e3.1)/\((b.1:Nat)=e3.2.1)/\((b.2.1:Nat)=e3.2.2)/\s6 s t u x y z (sm a0))/\f6 e3 f8)))))))/\((f5 == (0:Int))=false->(∃e4:(OA) × Nat × Nat,(sm 0/\((a8:OA)=e4.1)/\((m:Nat)=e4.2.1)/\((b0:Nat)=e4.2.2)/\s6 s t u x y z (sm a0))/\f6 e4 c1.shut)))/\∀(a:(OA) × Nat × Nat) (f9:View),c1.shut.Le f9->f6 a f9->(true=true/\(Ca f9 11 #[S a.1 a.2.1 a.2.2] fun b01 b02=>∃e5 e6 e7,b01=S e5 e6 e7/\(Ca b02 28 #[A #[B s,S t u x,S y z a0]] fun b03 b04=>∃m0,∃m1 m2 m3,∃m4 m5 m6,b03=A #[B m0,S m1 m2 m3,S m4 m5 m6]/\(Ca b04 32 #[S e5 e6 e7,A #[B m0,S m1 m2 m3,S m4 m5 m6]] fun b05 b06=>∃g0,∃e8,b05=T #[I J g0,e8]/\(Ca b06 34 #[S e5 e6 e7] fun b07 b08=>∃e d a2,∃e9,b07=T #[S e d a2,e9]/\(Ca b08 21 #[S e5 e6 e7] fun b09 b10=>∃m7,∃m8 m9 n0,∃n1 n2 n3,∃b7,b09=T #[A #[B m7,S m8 m9 n0,S n1 n2 n3],b7]/\(Ca b10 35 #[S a.1 a.2.1 a.2.2] fun b11 g1=>∃n4,∃n5 n6 n7,∃n8 n9 o0,∃a3,b11=T #[A #[B n4,S n5 n6 n7,S n8 n9 o0],B a3]/\(IsIface e8)/\(((!isNilI e8)=true->(Rt g1 R (B false)))/\((!isNilI e8)=false->(IsIface e9)/\(((!isNilI e9)=true->(Rt g1 R (B false)))/\((!isNilI e9)=false->(Ca g1 36 #[S a.1 a.2.1 a.2.2,A #[B s,S t u x,S y z a0]] fun b12 a9=>∃g2,b12=I J g2/\(((g0 != g2)=true->(Rt a9 R (B false)))/\((g0 != g2)=false->((((d:Int) != ((a.2.1:Nat):Int))=true->(Rt a9 R (B false)))/\(((d:Int) != ((a.2.1:Nat):Int))=false->(IsIface b7)/\(((!(a3 == (isNilI b7)))=true->(Rt a9 R (B false)))/\((!(a3 == (isNilI b7)))=false->((a3=true->(Ca a9 28 #[A #[B n4,S n5 n6 n7,S n8 n9 o0]] fun b13 b14=>∃o6,∃o7 o8 o9,∃p0 p1 p2,b13=A #[B o6,S o7 o8 o9,S p0 p1 p2]/\(Ca b14 37 #[A #[B m7,S m8 m9 n0,S n1 n2 n3],A #[B o6,S o7 o8 o9,S p0 p1 p2]] fun b15 c4=>∃g3,b15=B g3/\(((!g3)=true->(Rt c4 R (B false)))/\((!g3)=false->(((!a3)=true->(∃p4,(∃p5,(some ⟨0,0,none⟩:OA)=some p5/\c4.at p5 (p4))/\(Ca c4 38 #[b7,p4] fun b16 g4=>∃g5,b16=B g5/\(((!g5)=true->(Rt g4 R (B false)))/\((!g5)=false->(∃(g6:Int->VP) (p7:Int->Nat),(∃p8:Int,(((a.1:OA)=a.1)/\((a.2.1:Nat)=a.2.1)/\((a.2.2:Nat)=a.2.2)/\s4 e d a2 (d:Int) (((0:Int)=p8)))/\g6 p8 g4)/\∀(o:Int) (f:View),g4.Le f->g6 o f->(true=true/\(((decide (o < (d:Int)))=true->(e.isSome=true)/\(0<=o/\o < (d:Int))/\(∃p9,∃q0 q1 q2,∃q3 q4 q5,∃f0,addrAdd e (o.toNat * 3)=some f0/\f.at (f0.add 0) (B p9)/\f.at (f0.add 1) (S q0 q1 q2)/\f.at (f0.add 2) (S q3 q4 q5)/\(a.1.isSome=true)/\(0<=o/\o < ((a.2.1:Nat):Int))/\(∃q6,∃q7 q8 q9,∃r0 r1 r2,∃r3,∃r4 r5 r6,∃r7 r8 r9,∃t0,∃t1,∃a4,addrAdd a.1 (o.toNat * 8)=some a4/\f.at (a4.add 0) (B q6)/\f.at (a4.add 1) (S q7 q8 q9)/\f.at (a4.add 2) (S r0 r1 r2)/\f.at (a4.add 3) (B r3)/\f.at (a4.add 4) (S r4 r5 r6)/\f.at (a4.add 5) (S r7 r8 r9)/\f.at (a4.add 6) (B t0)/\f.at (a4.add 7) (B t1)/\(Ca f 39 #[A #[B q6,S q7 q8 q9,S r0 r1 r2,B r3,S r4 r5 r6,S r7 r8 r9,B t0,B t1]] fun b17 b18=>∃t2,∃t3 t4 t5,∃t6 t7 t8,b17=A #[B t2,S t3 t4 t5,S t6 t7 t8]/\(Ca b18 28 #[A #[B t2,S t3 t4 t5,S t6 t7 t8]] fun b19 b20=>∃t9,∃u0 u1 u2,∃u3 u4 u5,b19=A #[B t9,S u0 u1 u2,S u3 u4 u5]/\(Ca b20 37 #[A #[B p9,S q0 q1 q2,S q3 q4 q5],A #[B t9,S u0 u1 u2,S u3 u4 u5]] fun b21 u6=>∃g7,b21=B g7/\(((!g7)=true->(Rt u6 R (B false)))/\((!g7)=false->(∃g8:Int,p7 g8 < p7 o/\(((a.1:OA)=a.1)/\((a.2.1:Nat)=a.2.1)/\((a.2.2:Nat)=a.2.2)/\s4 e d a2 (d:Int) (((J.wrap (o + (1:Int)))=g8)))/\g6 g8 u6)))))))))/\((decide (o < (d:Int)))=false->(Ca f 17 #[] fun b22 b23=>∃u8,b22=B u8/\(Rt b23 R (B u8))))))))))))/\((!a3)=false->(∃(g9:Int->VP) (w0:Int->Nat),(∃w1:Int,(((a.1:OA)=a.1)/\((a.2.1:Nat)=a.2.1)/\((a.2.2:Nat)=a.2.2)/\s4 e d a2 (d:Int) (((0:Int)=w1)))/\g9 w1 c4)/\∀(p:Int) (g:View),c4.Le g->g9 p g->(true=true/\(((decide (p < (d:Int)))=true->(e.isSome=true)/\(0<=p/\p < (d:Int))/\(∃w2,∃w3 w4 w5,∃w6 w7 w8,∃f1,addrAdd e (p.toNat * 3)=some f1/\g.at (f1.add 0) (B w2)/\g.at (f1.add 1) (S w3 w4 w5)/\g.at (f1.add 2) (S w6 w7 w8)/\(a.1.isSome=true)/\(0<=p/\p < ((a.2.1:Nat):Int))/\(∃w9,∃x0 x1 x2,∃x3 x4 x5,∃x6,∃x7 x8 x9,∃y0 y1 y2,∃y3,∃y4,∃a5,addrAdd a.1 (p.toNat * 8)=some a5/\g.at (a5.add 0) (B w9)/\g.at (a5.add 1) (S x0 x1 x2)/\g.at (a5.add 2) (S x3 x4 x5)/\g.at (a5.add 3) (B x6)/\g.at (a5.add 4) (S x7 x8 x9)/\g.at (a5.add 5) (S y0 y1 y2)/\g.at (a5.add 6) (B y3)/\g.at (a5.add 7) (B y4)/\(Ca g 39 #[A #[B w9,S x0 x1 x2,S x3 x4 x5,B x6,S x7 x8 x9,S y0 y1 y2,B y3,B y4]] fun b24 b25=>∃y5,∃y6 y7 y8,∃y9 z0 z1,b24=A #[B y5,S y6 y7 y8,S y9 z0 z1]/\(Ca b25 28 #[A #[B y5,S y6 y7 y8,S y9 z0 z1]] fun b26 b27=>∃z2,∃z3 z4 z5,∃z6 z7 z8,b26=A #[B z2,S z3 z4 z5,S z6 z7 z8]/\(Ca b27 37 #[A #[B w2,S w3 w4 w5,S w6 w7 w8],A #[B z2,S z3 z4 z5,S z6 z7 z8]] fun b28 z9=>∃i0,b28=B i0/\(((!i0)=true->(Rt z9 R (B false)))/\((!i0)=false->(∃i1:Int,w0 i1 < w0 p/\(((a.1:OA)=a.1)/\((a.2.1:Nat)=a.2.1)/\((a.2.2:Nat)=a.2.2)/\s4 e d a2 (d:Int) (((J.wrap (p + (1:Int)))=i1)))/\g9 i1 z9)))))))))/\((decide (p < (d:Int)))=false->(Ca g 17 #[] fun b29 b30=>∃a01,b29=B a01/\(Rt b30 R (B a01))))))))))))))/\(a3=false->(((!a3)=true->(∃a03,(∃a04,(some ⟨0,0,none⟩:OA)=some a04/\a9.at a04 (a03))/\(Ca a9 38 #[b7,a03] fun b31 i2=>∃i3,b31=B i3/\(((!i3)=true->(Rt i2 R (B false)))/\((!i3)=false->(∃(i4:Int->VP) (a06:Int->Nat),(∃a07:Int,(((a.1:OA)=a.1)/\((a.2.1:Nat)=a.2.1)/\((a.2.2:Nat)=a.2.2)/\s4 e d a2 (d:Int) (((0:Int)=a07)))/\i4 a07 i2)/\∀(q:Int) (i:View),i2.Le i->i4 q i->(true=true/\(((decide (q < (d:Int)))=true->(e.isSome=true)/\(0<=q/\q < (d:Int))/\(∃a08,∃a09 a10 a11,∃a12 a13 a14,∃f2,addrAdd e (q.toNat * 3)=some f2/\i.at (f2.add 0) (B a08)/\i.at (f2.add 1) (S a09 a10 a11)/\i.at (f2.add 2) (S a12 a13 a14)/\(a.1.isSome=true)/\(0<=q/\q < ((a.2.1:Nat):Int))/\(∃a15,∃a16 a17 a18,∃a19 a20 a21,∃a22,∃a23 a24 a25,∃a26 a27 a28,∃a29,∃a30,∃a6,addrAdd a.1 (q.toNat * 8)=some a6/\i.at (a6.add 0) (B a15)/\i.at (a6.add 1) (S a16 a17 a18)/\i.at (a6.add 2) (S a19 a20 a21)/\i.at (a6.add 3) (B a22)/\i.at (a6.add 4) (S a23 a24 a25)/\i.at (a6.add 5) (S a26 a27 a28)/\i.at (a6.add 6) (B a29)/\i.at (a6.add 7) (B a30)/\(Ca i 39 #[A #[B a15,S a16 a17 a18,S a19 a20 a21,B a22,S a23 a24 a25,S a26 a27 a28,B a29,B a30]] fun b32 b33=>∃a31,∃a32 a33 a34,∃a35 a36 a37,b32=A #[B a31,S a32 a33 a34,S a35 a36 a37]/\(Ca b33 28 #[A #[B a31,S a32 a33 a34,S a35 a36 a37]] fun b34 b35=>∃a38,∃a39 a40 a41,∃a42 a43 a44,b34=A #[B a38,S a39 a40 a41,S a42 a43 a44]/\(Ca b35 37 #[A #[B a08,S a09 a10 a11,S a12 a13 a14],A #[B a38,S a39 a40 a41,S a42 a43 a44]] fun b36 a45=>∃i5,b36=B i5/\(((!i5)=true->(Rt a45 R (B false)))/\((!i5)=false->(∃i6:Int,a06 i6 < a06 q/\(((a.1:OA)=a.1)/\((a.2.1:Nat)=a.2.1)/\((a.2.2:Nat)=a.2.2)/\s4 e d a2 (d:Int) (((J.wrap (q + (1:Int)))=i6)))/\i4 i6 a45)))))))))/\((decide (q < (d:Int)))=false->(Ca i 17 #[] fun b37 b38=>∃a47,b37=B a47/\(Rt b38 R (B a47))))))))))))/\((!a3)=false->(∃(i7:Int->VP) (a49:Int->Nat),(∃a50:Int,(((a.1:OA)=a.1)/\((a.2.1:Nat)=a.2.1)/\((a.2.2:Nat)=a.2.2)/\s4 e d a2 (d:Int) (((0:Int)=a50)))/\i7 a50 a9)/\∀(r:Int) (k:View),a9.Le k->i7 r k->(true=true/\(((decide (r < (d:Int)))=true->(e.isSome=true)/\(0<=r/\r < (d:Int))/\(∃a51,∃a52 a53 a54,∃a55 a56 a57,∃f3,addrAdd e (r.toNat * 3)=some f3/\k.at (f3.add 0) (B a51)/\k.at (f3.add 1) (S a52 a53 a54)/\k.at (f3.add 2) (S a55 a56 a57)/\(a.1.isSome=true)/\(0<=r/\r < ((a.2.1:Nat):Int))/\(∃a58,∃a59 a60 a61,∃a62 a63 a64,∃a65,∃a66 a67 a68,∃a69 a70 a71,∃a72,∃a73,∃a7,addrAdd a.1 (r.toNat * 8)=some a7/\k.at (a7.add 0) (B a58)/\k.at (a7.add 1) (S a59 a60 a61)/\k.at (a7.add 2) (S a62 a63 a64)/\k.at (a7.add 3) (B a65)/\k.at (a7.add 4) (S a66 a67 a68)/\k.at (a7.add 5) (S a69 a70 a71)/\k.at (a7.add 6) (B a72)/\k.at (a7.add 7) (B a73)/\(Ca k 39 #[A #[B a58,S a59 a60 a61,S a62 a63 a64,B a65,S a66 a67 a68,S a69 a70 a71,B a72,B a73]] fun b39 b40=>∃a74,∃a75 a76 a77,∃a78 a79 a80,b39=A #[B a74,S a75 a76 a77,S a78 a79 a80]/\(Ca b40 28 #[A #[B a74,S a75 a76 a77,S a78 a79 a80]] fun b41 b42=>∃a81,∃a82 a83 a84,∃a85 a86 a87,b41=A #[B a81,S a82 a83 a84,S a85 a86 a87]/\(Ca b42 37 #[A #[B a51,S a52 a53 a54,S a55 a56 a57],A #[B a81,S a82 a83 a84,S a85 a86 a87]] fun b43 a88=>∃i8,b43=B i8/\(((!i8)=true->(Rt a88 R (B false)))/\((!i8)=false->(∃i9:Int,a49 i9 < a49 r/\(((a.1:OA)=a.1)/\((a.2.1:Nat)=a.2.1)/\((a.2.2:Nat)=a.2.2)/\s4 e d a2 (d:Int) (((J.wrap (r + (1:Int)))=i9)))/\i7 i9 a88)))))))))/\((decide (r < (d:Int)))=false->(Ca k 17 #[] fun b44 b45=>∃a90,b44=B a90/\(Rt b45 R (B a90))))))))))))))))))))))))))))))))))):
 Acts prog 7 #[S k0 k1 k2] V R:=
 fd (LF:=LF0) (RF:=[1000010,11100006]) [(6,⟨Nat × Nat × (List Value) × Int,false,[5,28,29],[5],fun n=>[(6,.c (.msl 6 n.1 n.2.1)),(30,.c (.v (I J n.2.2.2)))],fun n=>[(6,⟨.mrow n.2.2.1,45⟩)]⟩),(20,⟨Int,false,[4,12,119],[],fun n=>[(120,.c (.v (I J n)))],fun n=>[]⟩)] [(4,⟨(OA) × Nat × Nat,false,[5],[5],fun n=>[(4,.c (.v (S n.1 n.2.1 n.2.2)))],fun n=>[]⟩)] func7 h
end Go.Proofs.Tryz
/- Law 06: SpanMeasures (printed by mkmeas.py). -/
namespace Go.Proofs.Tryz
open Go.Eng Go.Big
def okS (s:Sp):Bool:=!s.a && !s.b
theorem fe_filter:∀{l:List Sp},fe (l.filter okS)<=fe l
 | []=>Nat.le_refl _
 | s :: r=>by
  have:=fe_filter (l:=r)
  rw [List.filter_cons,fe_cons]
  split
  ·rw [fe_cons]; omega
  ·omega
theorem Ok6.filter {l:List Sp} {m:Nat} (h:Ok6 l m):Ok6 (l.filter okS) m:=
 ⟨⟨fun s hs=>h.rg.1 s (List.mem_filter.1 hs).1,h.rg.2.filter _⟩,fun s hs=>h.sz s (List.mem_filter.1 hs).1,Nat.le_trans fe_filter h.fe,Nat.le_trans (List.length_filter_le _ _) h.len⟩
theorem iface_of {y:Value} (h:SErr y):IsIface y:=by obtain ⟨a,rfl⟩:=h; exact .inr ⟨_,_,rfl⟩
theorem isNil_of {y:Value} (h:SErr y):isNilI y=false:=by obtain ⟨a,rfl⟩:=h; rfl
theorem ok6_lenM {l:List Sp} {m:Nat} (h:Ok6 l m) (hm:m < 50:=by decide):Sz 1100000 (lenL l):=(lenL_sz (k:=10000) h.sz).mono (by have:=h.len; omega)
set_option maxHeartbeats 1000000 in
theorem c_SpanMeasures {V:View} {lp:OA} {ln lc:Nat} (hr:Rdl V lp ln) (hc:ln<=lc) {y:Value} (hy:Sent V 0 y) (he:SErr y) :
  Acts prog 7 #[.slice lp ln lc] V fun r V'=>r=.bool true:=by
 refine vc_law06_SpanMeasures lp ln lc V _ fun V1 l1=>(c_scene_New hc).mono ?_
 rintro r V2 l2 ⟨bk1,rfl,hfr,hb⟩
 refine ⟨bk1,_,_,_,_,rfl,hfr,hb,fun V3 l3 bk4 e4 h4=>?_⟩
 have l13:V1.Le V3:=le_fresh l2 hfr l3
 have hmin:min ln 400<=400:=Nat.min_le_right _ _
 replace hr:Rdl V lp (min ln 400):=fun i hi=>hr i (Nat.lt_of_lt_of_le hi (Nat.min_le_left _ _))
 generalize min ln 400=n at *
 replace hr:=hr.le (l1.trans l13)
 replace hy:=hy.le (l1.trans l13)
 clear l1 l2 l3 l13 hfr hb
 refine (c_made (V:=V3.lend [bk4]) (hr.le fun b o h=>h) hmin e4 ⟨by simp,h4⟩ (Int.le_refl 0)).mono ?_
 rintro r V4 l4 ⟨qa,ma,da,A,at1,rfl,ga,oa,sa,t1,hw1⟩
 refine ⟨_,_,_,rfl,_,_,_,_,hw1,fun V5 l5 bk8 e5 h5=>(c_Q (V:=V5.lend [bk8]) (hr.le fun b o h=>l5 b o (l4 b o h)) hmin e5 ⟨by simp,h5⟩ t1).mono ?_⟩
 rintro r V6 l6 ⟨q,atq,gq,sq,tq,hwq⟩
 have gq0:=gq
 obtain ⟨_,_,_,_,_,_,rfl⟩:=gq.shape
 refine ⟨_,_,_,_,_,_,_,rfl,_,_,_,_,hwq,fun V7 l7 bk14 e7 h7=>(c_Next (V:=V7.lend [bk14]) 2 (hr.le fun b o h=>l7 b o (l6 b o (l5 b o (l4 b o h)))) hmin e7 ⟨by simp,h7⟩ tq (by decide) (by decide)).mono ?_⟩
 rintro r V8 l8 ⟨x,atx,rfl,x0,x1,tx,hwx⟩
 have L4:View.Le V4 V8:=fun b o h=>l8 b o (l7 b o (l6 b o (l5 b o h)))
 have L6:View.Le V6 V8:=fun b o h=>l8 b o (l7 b o h)
 replace hy:=hy.le (V':=V8) fun b o h=>L4 b o (l4 b o h)
 replace ga:=RSl.le (V':=V8) ga L4
 have gq8:RQ V8 _ q:=RQ.le gq0 L6
 obtain rfl:=ga.len
 refine ⟨_,rfl,_,_,_,_,hwx,fun z V'=>∃L,RSl V' z.1 z.2.1 L/\Ok6 L 8/\∀s ∈ L,s.sz 40,⟨fun _=>⟨fun z V'=>∃j:Nat,z.2.2.2=(j:Int)/\j<=A.length/\GR 8 RSs V' z.1 z.2.1 z.2.2.1 ((A.take j).filter okS),fun z=>A.length - z.2.2.2.toNat,
  ⟨(0,0,[],0),by and_intros <;> rfl,0,rfl,Nat.zero_le _,GR.nil⟩,?_⟩,fun _=>⟨(qa,A.length,da),by and_intros <;> rfl,A,ga.le (le_shut' _),oa,sa⟩⟩,?_⟩
 ·rintro ⟨z1,z2,vs,z4⟩ V9 l9 ⟨j,e,jle,hg⟩
  dsimp only at e hg
  subst e
  dsimp only
  have al:=oa.len
  have zl:=hg.len
  have zb:((A.take j).filter okS).length<=A.length:=Nat.le_trans (List.length_filter_le _ _) (by rw [List.length_take]; omega)
  refine ⟨rfl,fun hlt=>?_,fun hlt V10 l10 bk hb J=>?_⟩
  ·have hlt:(j:Int) < A.length:=of_decide_eq_true hlt
   have hi:j < A.length:=by omega
   obtain ⟨ad,ha,xs,-,hv,hat⟩:=(ga.le (V':=V9) fun b o h=>l9 b o h).lst.at_ j hi
   have hv0:=hv
   obtain ⟨_,_,_,_,_,_,_,_,_,_,_,_,_,_,ex⟩:=rs_shape hv
   have ex:=congrArg Array.toList (Value.agg.inj ex)
   dsimp only at ex
   subst ex
   have w:i64.wrap ((j:Int) + 1)=((j + 1:Nat):Int):=by rw [i64w (by omega)]; rfl
   rw [Int.toNat_natCast,w]
   have ft:(A.take (j + 1)).filter okS=(A.take j).filter okS++if okS A[j] then [A[j]] else []:=by
    rw [List.take_add_one,List.getElem?_eq_getElem hi,List.filter_append]
    congr 1
    show List.filter okS [A[j]]=_
    rw [List.filter_cons]
    rfl
   refine ⟨isSome_addr ha,⟨by omega,by omega⟩,_,_,_,_,_,_,_,_,_,_,_,_,_,_,_,_,ad,ha,hat 0 _ rfl,hat 1 _ rfl,hat 2 _ rfl,hat 3 _ rfl,hat 4 _ rfl,hat 5 _ rfl,hat 6 _ rfl,hat 7 _ rfl,fun h1=>⟨fun h2=>⟨by omega,hg.le,hg.cap,rfl,one8s,fun sp c' g1 g2=>⟨(z1 + 1,c',_,((j + 1:Nat):Int)),by dsimp only; omega,by and_intros <;> rfl,j + 1,rfl,hi,?_⟩⟩,fun h2=>⟨(z1,z2,vs,((j + 1:Nat):Int)),by dsimp only; omega,by and_intros <;> rfl,j + 1,rfl,hi,?_⟩⟩,fun h1=>⟨(z1,z2,vs,((j + 1:Nat):Int)),by dsimp only; omega,by and_intros <;> rfl,j + 1,rfl,hi,?_⟩⟩
   ·dsimp only
    rw [ft,if_pos (by unfold okS; rw [h1,h2]; rfl)]
    exact hg.snoc rfl hv0 (by decide) g1 g2
   ·dsimp only
    rw [ft,if_neg (by unfold okS; rw [h2]; simp),List.append_nil]
    exact hg
   ·dsimp only
    rw [ft,if_neg (by unfold okS; rw [h1]; simp),List.append_nil]
    exact hg
  ·have hlt:¬ (j:Int) < A.length:=of_decide_eq_false hlt
   obtain rfl:j=A.length:=by omega
   rw [List.take_length] at hg
   refine ⟨(mA bk z2,z1,z2),by and_intros <;> rfl,A.filter okS,?_,oa.filter,fun s hs=>sa s (List.mem_filter.1 hs).1⟩
   obtain rfl:=hg.len
   exact lst_rsl (Lst.of_mrow hb (hg.row.le fun _ _ g=>RSs.le g l10) (by decide) hg.le)
 clear ga sa oa
 rintro ⟨pz,nz,cz⟩ V11 l11 ⟨L,gl,ol,sl⟩
 dsimp only at gl
 dsimp only
 obtain rfl:=gl.len
 have ll:=ol.len
 replace hy:=hy.le (V':=V11) fun b o h=>l11 b o h
 replace gq8:=RQ.le (V':=V11) gq8 fun b o h=>l11 b o h
 refine ⟨rfl,fun V12 l12=>(c_ref06_WriteAll (gl.le l12).lst (by omega) sl (by decide)).mono ?_⟩
 rintro r V13 l13 ⟨pa,na,ca,rfl,ha⟩
 have M:=l12.trans l13
 refine ⟨_,_,_,rfl,fun V14 l14=>(c_ref01_ToQ (gq8.le (M.trans l14)) sq (by decide)).mono ?_⟩
 rintro r V15 l15 gr
 have gr0:=gr
 obtain ⟨_,_,_,_,_,_,_,rfl⟩:=gr.shape
 replace M:=M.trans (l14.trans l15)
 replace ha:=up ha (l14.trans l15)
 refine ⟨_,_,_,_,_,_,_,rfl,fun V16 l16=>(c_span_Class (up ha l16) ol (by decide) (gr0.le l16) (sq.mono (by decide))).mono ?_⟩
 rintro r V17 l17 rfl
 replace M:=M.trans (l16.trans l17)
 replace ha:=up ha (l16.trans l17)
 refine ⟨_,_,rfl,fun V18 l18=>(c_span_Samples (up ha l18) ol (by decide)).mono ?_⟩
 rintro r V19 l19 ⟨ps,ns,cs,rfl,hs⟩
 replace M:=M.trans (l18.trans l19)
 replace ha:=up ha (l18.trans l19)
 have nsl:=hs.len
 rw [List.length_map] at nsl
 subst nsl
 have len:∀V20:View,V19.Le V20->Acts prog 21 #[.slice pa na ca] V20 fun r V'=>∃w e,r=.tuple #[w,e]/\(bddB L=true->e=.nilIface/\RA V' w (lenL L))/\(bddB L=false->e=y)/\∃b p n c p' n' c',w=.agg #[.bool b,.slice p n c,.slice p' n' c']:=fun V20 l20=>by
  cases hb:bddB L with
  | true=>
   refine (c_span_Length (up ha l20) ol (by decide) (bddB_iff.1 hb)).mono ?_
   rintro r V' l' ⟨w,rfl,g⟩
   have g0:=g
   obtain ⟨_,_,_,_,_,_,_,rfl⟩:=g.shape
   exact ⟨_,_,rfl,fun _=>⟨rfl,g0⟩,(fun h=>nomatch h),_,_,_,_,_,_,_,rfl⟩
  | false=>
   refine (c_span_Length_un (up ha l20) ol (by decide) hb (hy.le (M.trans l20))).mono ?_
   rintro r V' l' rfl
   exact ⟨_,_,rfl,(fun h=>nomatch h),fun _=>rfl,_,_,_,_,_,_,_,rfl⟩
 refine ⟨_,_,_,_,rfl,fun V20 l20=>(len V20 l20).mono ?_⟩
 rintro r V21 l21 ⟨w,e,rfl,len1,len2,_,_,_,_,_,_,_,rfl⟩
 replace M:=M.trans (l20.trans l21)
 replace hs:=hs.le (l20.trans l21) fun _ _ g=>RA.le g (l20.trans l21)
 refine ⟨_,_,_,_,_,_,_,_,rfl,fun V22 l22=>(c_ref06_Length (gl.le (M.trans l22)).lst (by omega) sl (by decide)).mono ?_⟩
 rintro r V23 l23 ⟨w,rfl,rlen,_,_,_,_,_,_,_,rfl⟩
 replace M:=M.trans (l22.trans l23)
 replace hs:=hs.le (l22.trans l23) fun _ _ g=>RA.le g (l22.trans l23)
 replace gl:=gl.le M
 replace hy:=hy.le M
 replace gq8:=gq8.le M
 refine ⟨_,_,_,_,_,_,_,_,rfl,.inl rfl,(fun h=>nomatch h),fun _=>⟨.inl rfl,(fun h=>nomatch h),fun _ V26 l26=>(c_ref06_Class (gl.le l26) (gq8.le l26) sl (sq.mono (by decide)) (by decide) (by omega)).mono ?_⟩⟩
 rintro r V27 l27 rfl
 have L26:=l26.trans l27
 have kn:∀V':View,Acts prog 17 #[] V' fun r V''=>∃b:Bool,r=.bool b/\∀V5:View,V''.Le V5->(fun (r:Value) (_:View)=>r=.bool true) (.bool b) V5:=fun V'=>c_known6.mono fun r V'' _ h=>⟨true,h,fun _ _=>rfl⟩
 replace hs:=hs.le L26 fun _ _ g=>RA.le g L26
 replace gl:=gl.le L26
 replace hy:=hy.le L26
 refine ⟨_,rfl,(fun h=>by simp at h),fun _=>⟨fun h=>by simp at h,fun _=>?_⟩⟩
 cases hb:bddB L with
 | true=>
  obtain ⟨rfl,gw⟩:=len1 hb
  have rw_:=rlen hb
  have L22:=(l22.trans l23).trans L26
  refine ⟨.inl rfl,(fun h=>absurd h (by decide)),fun _=>⟨fun _ V31 l31=>(c_ref01_ToQ (rw_.le (L26.trans l31)) (ok6_lenM ol) (by decide)).mono ?_,(fun h=>nomatch h)⟩⟩
  rintro r V32 l32 d
  have d0:=d
  obtain ⟨_,_,_,_,_,_,_,rfl⟩:=d.shape
  refine ⟨_,_,_,_,_,_,_,rfl,fun V33 l33=>(c_ref01_SameQ (gw.le (L22.trans (l31.trans (l32.trans l33)))) (d0.le l33) (ok6_lenM ol) (by decide)).mono ?_⟩
  rintro r V34 l34 h34
  rw [decide_eq_true rfl] at h34
  subst h34
  refine ⟨_,rfl,(fun h=>nomatch h),fun _=>⟨(fun h=>nomatch h),fun _=>?_⟩⟩
  have L31:=l31.trans (l32.trans (l33.trans l34))
  refine ⟨fun z V'=>∃j:Nat,z=(j:Int)/\j<=L.length,fun z=>L.length - z.toNat,⟨0,by and_intros <;> rfl,0,rfl,Nat.zero_le _⟩,?_⟩
  rintro z V39 l39 ⟨j,rfl,jle⟩
  refine ⟨rfl,fun hlt=>?_,fun hlt V46 l46=>kn V46⟩
  have hlt:(j:Int) < L.length:=of_decide_eq_true hlt
  have hi:j < L.length:=by omega
  have LL:=L31.trans l39
  obtain ⟨ad,ha1,xs,-,hv,hat⟩:=(hs.le LL fun _ _ g=>RA.le g LL).at_ j (by rw [List.length_map]; exact hi)
  rw [List.getElem_map] at hv
  have hv0:=hv
  obtain ⟨_,_,_,_,_,_,_,ex⟩:=hv.shape
  have ex:=congrArg Array.toList (Value.agg.inj ex)
  dsimp only at ex
  subst ex
  obtain ⟨ad',ha2,ys,-,hw,hat'⟩:=(gl.le LL).lst.at_ j hi
  have hw0:=hw
  obtain ⟨_,_,_,_,_,_,_,_,_,_,_,_,_,_,ex⟩:=rs_shape hw
  have ex:=congrArg Array.toList (Value.agg.inj ex)
  dsimp only at ex
  subst ex
  have ss:=sl _ (List.getElem_mem hi)
  have w:i64.wrap ((j:Int) + 1)=((j + 1:Nat):Int):=by rw [i64w (by omega)]; rfl
  rw [Int.toNat_natCast,w]
  refine ⟨isSome_addr ha1,⟨by omega,by omega⟩,_,_,_,_,_,_,_,ad,ha1,hat 0 _ rfl,hat 1 _ rfl,hat 2 _ rfl,isSome_addr ha2,⟨by omega,by omega⟩,_,_,_,_,_,_,_,_,_,_,_,_,_,_,_,_,ad',ha2,hat' 0 _ rfl,hat' 1 _ rfl,hat' 2 _ rfl,hat' 3 _ rfl,hat' 4 _ rfl,hat' 5 _ rfl,hat' 6 _ rfl,hat' 7 _ rfl,fun V40 l40=>(c_ref06_Sample (hw0.le l40) ss (by decide)).mono ?_⟩
  rintro r V41 l41 f
  have f0:=f
  obtain ⟨_,_,_,_,_,_,rfl⟩:=f.shape
  refine ⟨_,_,_,_,_,_,_,rfl,fun V42 l42=>(c_ref01_ToQ (f0.le l42) (sz_samp ss) (by decide)).mono ?_⟩
  rintro r V43 l43 d
  have d0:=d
  obtain ⟨_,_,_,_,_,_,_,rfl⟩:=d.shape
  refine ⟨_,_,_,_,_,_,_,rfl,fun V44 l44=>(c_ref01_SameQ (hv0.le (l40.trans (l41.trans (l42.trans (l43.trans l44))))) (d0.le l44) (sz_samp ss) (by decide)).mono ?_⟩
  rintro r V45 l45 h45
  rw [decide_eq_true rfl] at h45
  subst h45
  exact ⟨_,rfl,(fun h=>nomatch h),fun _=>⟨((j + 1:Nat):Int),by dsimp only; omega,by and_intros <;> rfl,j + 1,rfl,hi⟩⟩
 | false=>
  obtain rfl:=len2 hb
  have hn:=isNil_of he
  refine ⟨iface_of he,fun h=>by rw [hn] at h; simp at h,fun _=>⟨(fun h=>nomatch h),fun _=>⟨fun _=>⟨e,⟨_,rfl,hy⟩,fun V60 l60=>(c_errors_Is_same he).mono ?_⟩,(fun h=>nomatch h)⟩⟩⟩
  rintro r V61 l61 rfl
  refine ⟨_,rfl,(fun h=>nomatch h),fun _=>?_⟩
  have L60:=l60.trans l61
  refine ⟨fun z V'=>∃j:Nat,z=(j:Int)/\j<=L.length,fun z=>L.length - z.toNat,⟨0,by and_intros <;> rfl,0,rfl,Nat.zero_le _⟩,?_⟩
  rintro z V39 l39 ⟨j,rfl,jle⟩
  refine ⟨rfl,fun hlt=>?_,fun hlt V46 l46=>kn V46⟩
  have hlt:(j:Int) < L.length:=of_decide_eq_true hlt
  have hi:j < L.length:=by omega
  have LL:=L60.trans l39
  obtain ⟨ad,ha1,xs,-,hv,hat⟩:=(hs.le LL fun _ _ g=>RA.le g LL).at_ j (by rw [List.length_map]; exact hi)
  rw [List.getElem_map] at hv
  have hv0:=hv
  obtain ⟨_,_,_,_,_,_,_,ex⟩:=hv.shape
  have ex:=congrArg Array.toList (Value.agg.inj ex)
  dsimp only at ex
  subst ex
  obtain ⟨ad',ha2,ys,-,hw,hat'⟩:=(gl.le LL).lst.at_ j hi
  have hw0:=hw
  obtain ⟨_,_,_,_,_,_,_,_,_,_,_,_,_,_,ex⟩:=rs_shape hw
  have ex:=congrArg Array.toList (Value.agg.inj ex)
  dsimp only at ex
  subst ex
  have ss:=sl _ (List.getElem_mem hi)
  have w:i64.wrap ((j:Int) + 1)=((j + 1:Nat):Int):=by rw [i64w (by omega)]; rfl
  rw [Int.toNat_natCast,w]
  refine ⟨isSome_addr ha1,⟨by omega,by omega⟩,_,_,_,_,_,_,_,ad,ha1,hat 0 _ rfl,hat 1 _ rfl,hat 2 _ rfl,isSome_addr ha2,⟨by omega,by omega⟩,_,_,_,_,_,_,_,_,_,_,_,_,_,_,_,_,ad',ha2,hat' 0 _ rfl,hat' 1 _ rfl,hat' 2 _ rfl,hat' 3 _ rfl,hat' 4 _ rfl,hat' 5 _ rfl,hat' 6 _ rfl,hat' 7 _ rfl,fun V40 l40=>(c_ref06_Sample (hw0.le l40) ss (by decide)).mono ?_⟩
  rintro r V41 l41 f
  have f0:=f
  obtain ⟨_,_,_,_,_,_,rfl⟩:=f.shape
  refine ⟨_,_,_,_,_,_,_,rfl,fun V42 l42=>(c_ref01_ToQ (f0.le l42) (sz_samp ss) (by decide)).mono ?_⟩
  rintro r V43 l43 d
  have d0:=d
  obtain ⟨_,_,_,_,_,_,_,rfl⟩:=d.shape
  refine ⟨_,_,_,_,_,_,_,rfl,fun V44 l44=>(c_ref01_SameQ (hv0.le (l40.trans (l41.trans (l42.trans (l43.trans l44))))) (d0.le l44) (sz_samp ss) (by decide)).mono ?_⟩
  rintro r V45 l45 h45
  rw [decide_eq_true rfl] at h45
  subst h45
  exact ⟨_,rfl,(fun h=>nomatch h),fun _=>⟨((j + 1:Nat):Int),by dsimp only; omega,by and_intros <;> rfl,j + 1,rfl,hi⟩⟩
end Go.Proofs.Tryz
