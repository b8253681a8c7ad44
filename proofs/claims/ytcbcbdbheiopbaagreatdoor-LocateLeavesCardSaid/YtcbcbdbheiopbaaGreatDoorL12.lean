/- A part of the proof (joined by program from: VFrac, FracA, NumH, NumI, FracB). -/
import Derived.Test.YtcbcbdbheiopbaaGreatDoorL5
import Derived.Test.YtcbcbdbheiopbaaGreatDoorL11
import Derived.Test.YtcbcbdbheiopbaaGreatDoorL10
set_option linter.unusedVariables false
open Go.IntKind (i64 u64 u32)
/- By program: the conditions of the functions, from their loaded code. -/
namespace Go.Proofs.Tryz
open Go.Eng
open Go.Value renaming int→I,pointer→P,slice→S,agg→A,bool→B,tuple→T
open Go.IntKind renaming i64→J,u64→U,u32→W
set_option maxRecDepth 100000
theorem vc_frac_Int (a:Int) (V:View) (R:VR) (h:(((decide (a<=(-4611686018427387904:Int)))=true->(Ca V 256 #[I J a] fun z a0=>∃d,∃e f g,z=A #[B d,S e f g]/\(∀b,a0.Le b->∀i:Nat,(b.blk i (.cells #[I W 1] 264 (0,0)))->Acts prog 240 #[A #[B d,S e f g],S (some ⟨i,0,none⟩) 1 1] b fun a1 a2=>∃k,∃l,∃m,a1=A #[I J k,I J l,P m]/\∀a7:C->Value,(Rt a2 R (A #[I J k,I J l,P m])))))/\((decide (a<=(-4611686018427387904:Int)))=false->(((decide (a ≥ (4611686018427387904:Int)))=true->(Ca V 256 #[I J a] fun a3 a4=>∃o,∃p q r,a3=A #[B o,S p q r]/\(∀c,a4.Le c->∀s:Nat,(c.blk s (.cells #[I W 1] 264 (0,0)))->Acts prog 240 #[A #[B o,S p q r],S (some ⟨s,0,none⟩) 1 1] c fun a5 a6=>∃t,∃u,∃w,a5=A #[I J t,I J u,P w]/\∀a8:C->Value,(Rt a6 R (A #[I J t,I J u,P w])))))/\((decide (a ≥ (4611686018427387904:Int)))=false->(Rt V R (A #[I J a,I J 0,P none]))))))):
 Acts prog 200 #[I J a] V R:=
 fd (LF:=LF0) (RF:=[1000015]) [] [] func200 h
theorem vc_frac_reduce (n:Bool) (f:OA) (g i:Nat) (k:OA) (l m:Nat) (V:View) (R:VR) (h:(Ca V 286 #[S k l m] fun d3 a2=>∃r,d3=I J r/\(((r == (0:Int))=true->(Rt a2 R (A #[I J 0,I J 0,P none])))/\((r == (0:Int))=false->(Ca a2 244 #[A #[B n,S f g i]] fun d4 a4=>∃s,d4=I J s/\(((s == (0:Int))=true->(Rt a4 R (A #[I J 0,I J 0,P none])))/\((s == (0:Int))=false->(Ca a4 265 #[S f g i,S k l m] fun d5 d6=>∃o p q,d5=S o p q/\(Ca d6 286 #[S o p q] fun d7 t=>∃u,d7=I J u/\(∃w:((OA) × Nat × Nat × Bool × (OA) × Nat × Nat)->VP,(((decide (u > (1:Int)))=true->(Ca t 287 #[S f g i,S o p q] fun d8 d9=>∃a6 a7 a8,∃e0 e1 e2,∃e3,d8=T #[S a6 a7 a8,S e0 e1 e2,B e3]/\(Ca d9 287 #[S k l m,S o p q] fun e4 e5=>∃a9 b0 b1,∃e6 e7 e8,∃e9,e4=T #[S a9 b0 b1,S e6 e7 e8,B e9]/\(∃b:(OA) × Nat × Nat × Bool × (OA) × Nat × Nat,(sm 0/\sm 0/\((a9:OA)=b.1)/\((b0:Nat)=b.2.1)/\((b1:Nat)=b.2.2.1)/\s3 (0:Int) (0:Int) (none:OA) ((n=b.2.2.2.1)/\((a6:OA)=b.2.2.2.2.1)/\((a7:Nat)=b.2.2.2.2.2.1)/\((a8:Nat)=b.2.2.2.2.2.2)))/\w b e5))))/\((decide (u > (1:Int)))=false->(∃d:(OA) × Nat × Nat × Bool × (OA) × Nat × Nat,(sm 0/\sm 0/\((k:OA)=d.1)/\((l:Nat)=d.2.1)/\((m:Nat)=d.2.2.1)/\s3 (0:Int) (0:Int) (none:OA) ((n=d.2.2.2.1)/\((f:OA)=d.2.2.2.2.1)/\((g:Nat)=d.2.2.2.2.2.1)/\((i:Nat)=d.2.2.2.2.2.2)))/\w d t)))/\∀(a:(OA) × Nat × Nat × Bool × (OA) × Nat × Nat) (x:View),t.Le x->w a x->(true=true/\(Ca x 286 #[S a.2.2.2.2.1 a.2.2.2.2.2.1 a.2.2.2.2.2.2] fun f0 b2=>∃y,f0=I J y/\(((decide (y<=(62:Int)))=true->(Ca b2 286 #[S a.1 a.2.1 a.2.2.1] fun f1 b3=>∃z,f1=I J z/\(((decide (z<=(62:Int)))=true->(Ca b3 288 #[A #[B a.2.2.2.1,S a.2.2.2.2.1 a.2.2.2.2.2.1 a.2.2.2.2.2.2]] fun f2 f3=>∃b4,∃f4,f2=T #[I J b4,B f4]/\(Ca f3 289 #[S a.1 a.2.1 a.2.2.1] fun f5 f6=>∃b5,∃f7,f5=T #[I U b5,B f7]/\(Rt f6 R (A #[I J b4,I J (J.wrap ((J.wrap b5)-1)),P none])))))/\((decide (z<=(62:Int)))=false->(Ca b3 255 #[A #[B a.2.2.2.1,S a.2.2.2.2.1 a.2.2.2.2.2.1 a.2.2.2.2.2.2]] fun f8 f9=>∃b7,∃b8 b9 c0,f8=A #[B b7,S b8 b9 c0]/\(Ca f9 290 #[S a.1 a.2.1 a.2.2.1] fun g0 g1=>∃c1 c2 c3,g0=S c1 c2 c3/\(∀a0,g1.Le a0->∀c4:Nat,(a0.blk c4 (.cells #[B b7,S b8 b9 c0,S c1 c2 c3] 340 (0,0)))->R (A #[I J 0,I J 0,P (some ⟨c4,0,none⟩)]) a0)))))))/\((decide (y<=(62:Int)))=false->(Ca b2 255 #[A #[B a.2.2.2.1,S a.2.2.2.2.1 a.2.2.2.2.2.1 a.2.2.2.2.2.2]] fun g2 g3=>∃c5,∃c6 c7 c8,g2=A #[B c5,S c6 c7 c8]/\(Ca g3 290 #[S a.1 a.2.1 a.2.2.1] fun g4 g5=>∃c9 d0 d1,g4=S c9 d0 d1/\(∀a1,g5.Le a1->∀d2:Nat,(a1.blk d2 (.cells #[B c5,S c6 c7 c8,S c9 d0 d1] 340 (0,0)))->R (A #[I J 0,I J 0,P (some ⟨d2,0,none⟩)]) a1))))))))))))))))):
 Acts prog 240 #[A #[B n,S f g i],S k l m] V R:=
 fd (LF:=LF0) (RF:=[1000015]) [] [(5,⟨(OA) × Nat × Nat × Bool × (OA) × Nat × Nat,false,[2,4],[4],fun e=>[(1,.c (.v (S e.1 e.2.1 e.2.2.1)))],fun e=>[(2,⟨.lit [.v (B e.2.2.2.1),.v (S e.2.2.2.2.1 e.2.2.2.2.2.1 e.2.2.2.2.2.2)],46⟩)]⟩)] func240 h
theorem vc_frac_Of (a:Bool) (b:OA) (c d:Nat) (e:OA) (f g:Nat) (V:View) (R:VR) (h:(Ca V 240 #[A #[B a,S b c d],S e f g] fun n o=>∃i,∃k,∃l,n=A #[I J i,I J k,P l]/\(Rt o R (A #[I J i,I J k,P l])))):
 Acts prog 156 #[A #[B a,S b c d,S e f g]] V R:=
 fd (LF:=LF0) (RF:=[1000015]) [] [] func156 h
theorem vc_frac_Whole (b:Bool) (c:OA) (d e:Nat) (V:View) (R:VR) (h:(∀a,V.Le a->∀f:Nat,(a.blk f (.cells #[I W 1] 264 (0,0)))->Acts prog 240 #[A #[B b,S c d e],S (some ⟨f,0,none⟩) 1 1] a fun m n=>∃g,∃i,∃k,m=A #[I J g,I J i,P k]/\∀o:C->Value,(Rt n R (A #[I J g,I J i,P k])))):
 Acts prog 196 #[A #[B b,S c d e]] V R:=
 fd (LF:=LF0) (RF:=[1000015]) [] [] func196 h
theorem vc_frac_R_Num (c t:Int) (a:OA) (V:View) (R:VR) (h:(((!a.isNone)=true->(a.isSome=true)/\(a.isSome=true)/\(∃d,∃e f g,∃b,addrAdd a 0=some b/\V.at (b.add 0) (B d)/\V.at (b.add 1) (S e f g)/\(Ca V 255 #[A #[B d,S e f g]] fun u w=>∃i,∃k l m,u=A #[B i,S k l m]/\(Rt w R (A #[B i,S k l m])))))/\((!a.isNone)=false->(Ca V 256 #[I J c] fun x y=>∃o,∃p q r,x=A #[B o,S p q r]/\(Rt y R (A #[B o,S p q r])))))):
 Acts prog 191 #[A #[I J c,I J t,P a]] V R:=
 fd (LF:=LF0) (RF:=[1000015]) [] [] func191 h
theorem vc_frac_R_Den (q b:Int) (a:OA) (V:View) (R:VR) (h:(((!a.isNone)=true->(a.isSome=true)/\(a.isSome=true)/\(∃c d e,(∃f,addrAdd a 2=some f/\V.at f (S c d e))/\(Ca V 290 #[S c d e] fun r s=>∃g i k,r=S g i k/\(Rt s R (S g i k)))))/\((!a.isNone)=false->(Ca V 309 #[I U (U.wrap (J.wrap (b + (1:Int))))] fun t u=>∃m n o,t=S m n o/\(Rt u R (S m n o)))))):
 Acts prog 264 #[A #[I J q,I J b,P a]] V R:=
 fd (LF:=LF0) (RF:=[1000015]) [] [] func264 h
theorem vc_frac_abs (a:Int) (V:View) (R:VR) (h:(((decide (a < (0:Int)))=true->(Rt V R (I U (U.wrap (J.wrap (0 - a))))))/\((decide (a < (0:Int)))=false->(Rt V R (I U (U.wrap a)))))):
 Acts prog 262 #[I J a] V R:=
 fd (LF:=LF0) (RF:=[1000015]) [] [] func262 h
theorem vc_frac_gcd (i k:Int) (V:View) (R:VR) (h:(∃(e:(Int × Int)->VP) (l:(Int × Int)->Nat),(∃f,((i=f.1)/\(k=f.2))/\e f V)/\∀(a:Int × Int) (b:View),V.Le b->e a b->(true=true/\(((a.2 != (0:Int))=true->(a.2≠0)/\(∃d:Int × Int,l d < l a/\((a.2=d.1)/\((a.1.tmod a.2)=d.2))/\e d b))/\((a.2 != (0:Int))=false->(Rt b R (I U a.1))))))):
 Acts prog 261 #[I U i,I U k] V R:=
 fd (LF:=LF0) (RF:=[1000015]) [(1,⟨Int × Int,false,[],[],fun g=>[(0,.c (.v (I U g.1))),(1,.c (.v (I U g.2)))],fun g=>[]⟩)] [] func261 h
theorem vc_frac_times (b c:Int) (V:View) (R:VR) (h:(Ca V 262 #[I J b] fun n o=>∃f,n=I U f/\(Ca o 262 #[I J c] fun p q=>∃g,p=I U g/\(Ca q 342 #[I U f,I U g] fun r d=>∃e,∃a,r=T #[I U e,I U a]/\(((e != (0:Int))=true->(Rt d R (T #[I J 0,B false])))/\((e != (0:Int))=false->(((decide (a ≥ (4611686018427387904:Int)))=true->(Rt d R (T #[I J 0,B false])))/\((decide (a ≥ (4611686018427387904:Int)))=false->(((!((decide (b < (0:Int))) == (decide (c < (0:Int)))))=true->(Rt d R (T #[I J (J.wrap (0 - (J.wrap a))),B true])))/\((!((decide (b < (0:Int))) == (decide (c < (0:Int)))))=false->(Rt d R (T #[I J (J.wrap a),B true])))))))))))):
 Acts prog 291 #[I J b,I J c] V R:=
 fd (LF:=LF0) (RF:=[1000015]) [] [] func291 h
theorem vc_frac_lowest (b c:Int) (V:View) (R:VR) (h:(Ca V 262 #[I J b] fun i k=>∃d,i=I U d/\(Ca k 261 #[I U d,I U (U.wrap c)] fun l e=>∃a,l=I U a/\(((decide ((J.wrap a) > (1:Int)))=true->((J.wrap a)≠0)/\((J.wrap a)≠0)/\(Rt e R (A #[I J (J.wrap (b.tdiv (J.wrap a))),I J (J.wrap ((J.wrap (c.tdiv (J.wrap a)))-1)),P none])))/\((decide ((J.wrap a) > (1:Int)))=false->(Rt e R (A #[I J b,I J (J.wrap (c - (1:Int))),P none]))))))):
 Acts prog 292 #[I J b,I J c] V R:=
 fd (LF:=LF0) (RF:=[1000015]) [] [] func292 h
theorem vc_frac_R_Add (c a:Int) (e:OA) (d b:Int) (f:OA) (V:View) (R:VR) (h:((e.isNone=true->(∃g:Unit->VP,((f.isNone=true->(((a == (0:Int))=true->(((b == (0:Int))=true->(Ca V 200 #[I J (J.wrap (c + d))] fun k9 l0=>∃x,∃y,∃z,k9=A #[I J x,I J y,P z]/\(Rt l0 R (A #[I J x,I J y,P z]))))/\((b == (0:Int))=false->(Ca V 291 #[I J c,I J (J.wrap (b + (1:Int)))] fun l1 l2=>∃i,∃p,l1=T #[I J i,B p]/\(Ca l2 291 #[I J d,I J (J.wrap (a + (1:Int)))] fun l3 l4=>∃k,∃q,l3=T #[I J k,B q]/\(Ca l4 291 #[I J (J.wrap (a + (1:Int))),I J (J.wrap (b + (1:Int)))] fun l5 l=>∃a1,∃r,l5=T #[I J a1,B r]/\((p=true->((q=true->((r=true->(((decide ((J.wrap (i + k)) > (-4611686018427387904:Int)))=true->(((decide ((J.wrap (i + k)) < (4611686018427387904:Int)))=true->(Ca l 292 #[I J (J.wrap (i + k)),I J a1] fun l6 l7=>∃a2,∃a3,∃a4,l6=A #[I J a2,I J a3,P a4]/\(Rt l7 R (A #[I J a2,I J a3,P a4]))))/\((decide ((J.wrap (i + k)) < (4611686018427387904:Int)))=false->(∃l8:Unit,(s11 0 0 0 c a e d b f (0:Int) (0:Int) (((none:OA)=none)))/\g l8 l))))/\((decide ((J.wrap (i + k)) > (-4611686018427387904:Int)))=false->(∃l9:Unit,(s11 0 0 0 c a e d b f (0:Int) (0:Int) (((none:OA)=none)))/\g l9 l))))/\(r=false->(∃m0:Unit,(s11 0 0 0 c a e d b f (0:Int) (0:Int) (((none:OA)=none)))/\g m0 l))))/\(q=false->(∃m1:Unit,(s11 0 0 0 c a e d b f (0:Int) (0:Int) (((none:OA)=none)))/\g m1 l))))/\(p=false->(∃m2:Unit,(s11 0 0 0 c a e d b f (0:Int) (0:Int) (((none:OA)=none)))/\g m2 l)))))))))/\((a == (0:Int))=false->(Ca V 291 #[I J c,I J (J.wrap (b + (1:Int)))] fun m3 m4=>∃m,∃s,m3=T #[I J m,B s]/\(Ca m4 291 #[I J d,I J (J.wrap (a + (1:Int)))] fun m5 m6=>∃n,∃t,m5=T #[I J n,B t]/\(Ca m6 291 #[I J (J.wrap (a + (1:Int))),I J (J.wrap (b + (1:Int)))] fun m7 o=>∃a6,∃u,m7=T #[I J a6,B u]/\((s=true->((t=true->((u=true->(((decide ((J.wrap (m + n)) > (-4611686018427387904:Int)))=true->(((decide ((J.wrap (m + n)) < (4611686018427387904:Int)))=true->(Ca o 292 #[I J (J.wrap (m + n)),I J a6] fun m8 m9=>∃a7,∃a8,∃a9,m8=A #[I J a7,I J a8,P a9]/\(Rt m9 R (A #[I J a7,I J a8,P a9]))))/\((decide ((J.wrap (m + n)) < (4611686018427387904:Int)))=false->(∃n0:Unit,(s11 0 0 0 c a e d b f (0:Int) (0:Int) (((none:OA)=none)))/\g n0 o))))/\((decide ((J.wrap (m + n)) > (-4611686018427387904:Int)))=false->(∃n1:Unit,(s11 0 0 0 c a e d b f (0:Int) (0:Int) (((none:OA)=none)))/\g n1 o))))/\(u=false->(∃n2:Unit,(s11 0 0 0 c a e d b f (0:Int) (0:Int) (((none:OA)=none)))/\g n2 o))))/\(t=false->(∃n3:Unit,(s11 0 0 0 c a e d b f (0:Int) (0:Int) (((none:OA)=none)))/\g n3 o))))/\(s=false->(∃n4:Unit,(s11 0 0 0 c a e d b f (0:Int) (0:Int) (((none:OA)=none)))/\g n4 o)))))))))/\(f.isNone=false->(∃n5:Unit,(s11 0 0 0 c a e d b f (0:Int) (0:Int) (((none:OA)=none)))/\g n5 V)))/\∀(n6:Unit) (w:View),V.Le w->g n6 w->(true=true/\(Ca w 191 #[A #[I J c,I J a,P e]] fun n7 n8=>∃b1,∃b2 b3 b4,n7=A #[B b1,S b2 b3 b4]/\(Ca n8 264 #[A #[I J d,I J b,P f]] fun n9 o0=>∃b5 b6 b7,n9=S b5 b6 b7/\(Ca o0 293 #[A #[B b1,S b2 b3 b4],A #[B false,S b5 b6 b7]] fun o1 o2=>∃b8,∃b9 c0 c1,o1=A #[B b8,S b9 c0 c1]/\(Ca o2 191 #[A #[I J d,I J b,P f]] fun o3 o4=>∃c2,∃c3 c4 c5,o3=A #[B c2,S c3 c4 c5]/\(Ca o4 264 #[A #[I J c,I J a,P e]] fun o5 o6=>∃c6 c7 c8,o5=S c6 c7 c8/\(Ca o6 293 #[A #[B c2,S c3 c4 c5],A #[B false,S c6 c7 c8]] fun o7 o8=>∃c9,∃d0 d1 d2,o7=A #[B c9,S d0 d1 d2]/\(Ca o8 294 #[A #[B b8,S b9 c0 c1],A #[B c9,S d0 d1 d2]] fun o9 p0=>∃d3,∃d4 d5 d6,o9=A #[B d3,S d4 d5 d6]/\(Ca p0 264 #[A #[I J c,I J a,P e]] fun p1 p2=>∃d7 d8 d9,p1=S d7 d8 d9/\(Ca p2 264 #[A #[I J d,I J b,P f]] fun p3 p4=>∃e0 e1 e2,p3=S e0 e1 e2/\(Ca p4 263 #[S d7 d8 d9,S e0 e1 e2] fun p5 p6=>∃e3 e4 e5,p5=S e3 e4 e5/\(Ca p6 240 #[A #[B d3,S d4 d5 d6],S e3 e4 e5] fun p7 p8=>∃e6,∃e7,∃e8,p7=A #[I J e6,I J e7,P e8]/\(Rt p8 R (A #[I J e6,I J e7,P e8]))))))))))))))))/\(e.isNone=false->(Ca V 191 #[A #[I J c,I J a,P e]] fun p9 q0=>∃f0,∃f1 f2 f3,p9=A #[B f0,S f1 f2 f3]/\(Ca q0 264 #[A #[I J d,I J b,P f]] fun q1 q2=>∃f4 f5 f6,q1=S f4 f5 f6/\(Ca q2 293 #[A #[B f0,S f1 f2 f3],A #[B false,S f4 f5 f6]] fun q3 q4=>∃f7,∃f8 f9 g0,q3=A #[B f7,S f8 f9 g0]/\(Ca q4 191 #[A #[I J d,I J b,P f]] fun q5 q6=>∃g1,∃g2 g3 g4,q5=A #[B g1,S g2 g3 g4]/\(Ca q6 264 #[A #[I J c,I J a,P e]] fun q7 q8=>∃g5 g6 g7,q7=S g5 g6 g7/\(Ca q8 293 #[A #[B g1,S g2 g3 g4],A #[B false,S g5 g6 g7]] fun q9 r0=>∃g8,∃g9 i0 i1,q9=A #[B g8,S g9 i0 i1]/\(Ca r0 294 #[A #[B f7,S f8 f9 g0],A #[B g8,S g9 i0 i1]] fun r1 r2=>∃i2,∃i3 i4 i5,r1=A #[B i2,S i3 i4 i5]/\(Ca r2 264 #[A #[I J c,I J a,P e]] fun r3 r4=>∃i6 i7 i8,r3=S i6 i7 i8/\(Ca r4 264 #[A #[I J d,I J b,P f]] fun r5 r6=>∃i9 k0 k1,r5=S i9 k0 k1/\(Ca r6 263 #[S i6 i7 i8,S i9 k0 k1] fun r7 r8=>∃k2 k3 k4,r7=S k2 k3 k4/\(Ca r8 240 #[A #[B i2,S i3 i4 i5],S k2 k3 k4] fun r9 t0=>∃k5,∃k6,∃k7,r9=A #[I J k5,I J k6,P k7]/\(Rt t0 R (A #[I J k5,I J k6,P k7])))))))))))))))):
 Acts prog 243 #[A #[I J c,I J a,P e],A #[I J d,I J b,P f]] V R:=
 fd (LF:=LF0) (RF:=[1000015]) [] [(2,⟨Unit,false,[2,3,4],[2,3,4],fun t1=>[],fun t1=>[]⟩)] func243 h
theorem vc_frac_R_Neg (d e:Int) (a:OA) (V:View) (R:VR) (h:(((!a.isNone)=true->(a.isSome=true)/\(a.isSome=true)/\(∃f,∃g i k,∃b,addrAdd a 0=some b/\V.at (b.add 0) (B f)/\V.at (b.add 1) (S g i k)/\(a.isSome=true)/\(a.isSome=true)/\(∃l m n,(∃o,addrAdd a 2=some o/\V.at o (S l m n))/\(Ca V 314 #[A #[B f,S g i k]] fun w x=>∃p,∃q r s,w=A #[B p,S q r s]/\(∀c,x.Le c->∀t:Nat,(c.blk t (.cells #[B p,S q r s,S l m n] 340 (0,0)))->R (A #[I J 0,I J 0,P (some ⟨t,0,none⟩)]) c)))))/\((!a.isNone)=false->(Rt V R (A #[I J (J.wrap (0 - d)),I J e,P none]))))):
 Acts prog 269 #[A #[I J d,I J e,P a]] V R:=
 fd (LF:=LF0) (RF:=[1000015]) [] [] func269 h
theorem vc_frac_R_Sub (a b:Int) (c:OA) (d e:Int) (f:OA) (V:View) (R:VR) (h:(Ca V 269 #[A #[I J d,I J e,P f]] fun p q=>∃g,∃i,∃k,p=A #[I J g,I J i,P k]/\(Ca q 243 #[A #[I J a,I J b,P c],A #[I J g,I J i,P k]] fun r s=>∃l,∃m,∃n,r=A #[I J l,I J m,P n]/\(Rt s R (A #[I J l,I J m,P n]))))):
 Acts prog 273 #[A #[I J a,I J b,P c],A #[I J d,I J e,P f]] V R:=
 fd (LF:=LF0) (RF:=[1000015]) [] [] func273 h
theorem vc_frac_R_Mul (a b:Int) (e:OA) (c d:Int) (f:OA) (V:View) (R:VR) (h:((e.isNone=true->(∃g:Unit->VP,((f.isNone=true->(Ca V 291 #[I J a,I J c] fun e4 e5=>∃n,∃i,e4=T #[I J n,B i]/\(Ca e5 291 #[I J (J.wrap (b + (1:Int))),I J (J.wrap (d + (1:Int)))] fun e6 k=>∃o,∃l,e6=T #[I J o,B l]/\((i=true->((l=true->(Ca k 292 #[I J n,I J o] fun e7 e8=>∃p,∃q,∃r,e7=A #[I J p,I J q,P r]/\(Rt e8 R (A #[I J p,I J q,P r]))))/\(l=false->(∃e9:Unit,(s11 0 0 0 a b e c d f (0:Int) (0:Int) (((none:OA)=none)))/\g e9 k))))/\(i=false->(∃f0:Unit,(s11 0 0 0 a b e c d f (0:Int) (0:Int) (((none:OA)=none)))/\g f0 k))))))/\(f.isNone=false->(∃f1:Unit,(s11 0 0 0 a b e c d f (0:Int) (0:Int) (((none:OA)=none)))/\g f1 V)))/\∀(f2:Unit) (m:View),V.Le m->g f2 m->(true=true/\(Ca m 191 #[A #[I J a,I J b,P e]] fun f3 f4=>∃t,∃u w x,f3=A #[B t,S u w x]/\(Ca f4 191 #[A #[I J c,I J d,P f]] fun f5 f6=>∃y,∃z a0 a1,f5=A #[B y,S z a0 a1]/\(Ca f6 293 #[A #[B t,S u w x],A #[B y,S z a0 a1]] fun f7 f8=>∃a2,∃a3 a4 a5,f7=A #[B a2,S a3 a4 a5]/\(Ca f8 264 #[A #[I J a,I J b,P e]] fun f9 g0=>∃a6 a7 a8,f9=S a6 a7 a8/\(Ca g0 264 #[A #[I J c,I J d,P f]] fun g1 g2=>∃a9 b0 b1,g1=S a9 b0 b1/\(Ca g2 263 #[S a6 a7 a8,S a9 b0 b1] fun g3 g4=>∃b2 b3 b4,g3=S b2 b3 b4/\(Ca g4 240 #[A #[B a2,S a3 a4 a5],S b2 b3 b4] fun g5 g6=>∃b5,∃b6,∃b7,g5=A #[I J b5,I J b6,P b7]/\(Rt g6 R (A #[I J b5,I J b6,P b7]))))))))))))/\(e.isNone=false->(Ca V 191 #[A #[I J a,I J b,P e]] fun g7 g8=>∃b9,∃c0 c1 c2,g7=A #[B b9,S c0 c1 c2]/\(Ca g8 191 #[A #[I J c,I J d,P f]] fun g9 i0=>∃c3,∃c4 c5 c6,g9=A #[B c3,S c4 c5 c6]/\(Ca i0 293 #[A #[B b9,S c0 c1 c2],A #[B c3,S c4 c5 c6]] fun i1 i2=>∃c7,∃c8 c9 d0,i1=A #[B c7,S c8 c9 d0]/\(Ca i2 264 #[A #[I J a,I J b,P e]] fun i3 i4=>∃d1 d2 d3,i3=S d1 d2 d3/\(Ca i4 264 #[A #[I J c,I J d,P f]] fun i5 i6=>∃d4 d5 d6,i5=S d4 d5 d6/\(Ca i6 263 #[S d1 d2 d3,S d4 d5 d6] fun i7 i8=>∃d7 d8 d9,i7=S d7 d8 d9/\(Ca i8 240 #[A #[B c7,S c8 c9 d0],S d7 d8 d9] fun i9 k0=>∃e0,∃e1,∃e2,i9=A #[I J e0,I J e1,P e2]/\(Rt k0 R (A #[I J e0,I J e1,P e2])))))))))))):
 Acts prog 242 #[A #[I J a,I J b,P e],A #[I J c,I J d,P f]] V R:=
 fd (LF:=LF0) (RF:=[1000015]) [] [(2,⟨Unit,false,[2,3,4],[2,3,4],fun k1=>[],fun k1=>[]⟩)] func242 h
theorem vc_frac_R_Inv (b c:Int) (a:OA) (V:View) (R:VR) (h:(((!a.isNone)=true->(a.isSome=true)/\(a.isSome=true)/\((addrAdd a 0).isSome=true)/\(∃d,(∃e,addrAdd (addrAdd a 0) 0=some e/\V.at e (B d))/\(a.isSome=true)/\(a.isSome=true)/\(∃f g i,(∃k,addrAdd a 2=some k/\V.at k (S f g i))/\(a.isSome=true)/\(a.isSome=true)/\((addrAdd a 0).isSome=true)/\(∃l m n,(∃o,addrAdd (addrAdd a 0) 1=some o/\V.at o (S l m n))/\(Ca V 240 #[A #[B d,S f g i],S l m n] fun x y=>∃p,∃q,∃r,x=A #[I J p,I J q,P r]/\(Rt y R (A #[I J p,I J q,P r])))))))/\((!a.isNone)=false->(((decide (b < (0:Int)))=true->(Rt V R (A #[I J (J.wrap (0 - (J.wrap (c + (1:Int))))),I J (J.wrap ((J.wrap (0 - b))-1)),P none])))/\((decide (b < (0:Int)))=false->(((b == (0:Int))=true->(Rt V R (A #[I J 0,I J 0,P none])))/\((b == (0:Int))=false->(Rt V R (A #[I J (J.wrap (c + (1:Int))),I J (J.wrap (b - (1:Int))),P none]))))))))):
 Acts prog 285 #[A #[I J b,I J c,P a]] V R:=
 fd (LF:=LF0) (RF:=[1000015]) [] [] func285 h
theorem vc_frac_R_Sign (b o:Int) (a:OA) (V:View) (R:VR) (h:(((!a.isNone)=true->(a.isSome=true)/\(a.isSome=true)/\(∃d,∃e f g,∃c,addrAdd a 0=some c/\V.at (c.add 0) (B d)/\V.at (c.add 1) (S e f g)/\(Ca V 244 #[A #[B d,S e f g]] fun p q=>∃i,p=I J i/\(Rt q R (I J i)))))/\((!a.isNone)=false->(((decide (b < (0:Int)))=true->(Rt V R (I J (-1))))/\((decide (b < (0:Int)))=false->(((decide (b > (0:Int)))=true->(Rt V R (I J 1)))/\((decide (b > (0:Int)))=false->(Rt V R (I J 0))))))))):
 Acts prog 165 #[A #[I J b,I J o,P a]] V R:=
 fd (LF:=LF0) (RF:=[1000015]) [] [] func165 h
theorem vc_frac_R_Zero (b e:Int) (a:OA) (V:View) (R:VR) (h:((a.isNone=true->(Rt V R (B (b == (0:Int)))))/\(a.isNone=false->(Rt V R (B false))))):
 Acts prog 197 #[A #[I J b,I J e,P a]] V R:=
 fd (LF:=LF0) (RF:=[1000015]) [] [] func197 h
theorem vc_frac_R_Cmp (a c:Int) (d:OA) (b e:Int) (f:OA) (V:View) (R:VR) (h:((d.isNone=true->((f.isNone=true->(((c == e)=true->(((decide (a < b))=true->(Rt V R (I J (-1))))/\((decide (a < b))=false->(((decide (a > b))=true->(Rt V R (I J 1)))/\((decide (a > b))=false->(Rt V R (I J 0)))))))/\((c == e)=false->(Ca V 273 #[A #[I J a,I J c,P d],A #[I J b,I J e,P f]] fun a1 a2=>∃l,∃m,∃n,a1=A #[I J l,I J m,P n]/\(Ca a2 165 #[A #[I J l,I J m,P n]] fun a3 a4=>∃o,a3=I J o/\(Rt a4 R (I J o)))))))/\(f.isNone=false->(Ca V 273 #[A #[I J a,I J c,P d],A #[I J b,I J e,P f]] fun a5 a6=>∃q,∃r,∃s,a5=A #[I J q,I J r,P s]/\(Ca a6 165 #[A #[I J q,I J r,P s]] fun a7 a8=>∃t,a7=I J t/\(Rt a8 R (I J t)))))))/\(d.isNone=false->(Ca V 273 #[A #[I J a,I J c,P d],A #[I J b,I J e,P f]] fun a9 b0=>∃w,∃x,∃y,a9=A #[I J w,I J x,P y]/\(Ca b0 165 #[A #[I J w,I J x,P y]] fun b1 b2=>∃z,b1=I J z/\(Rt b2 R (I J z))))))):
 Acts prog 211 #[A #[I J a,I J c,P d],A #[I J b,I J e,P f]] V R:=
 fd (LF:=LF0) (RF:=[1000015]) [] [] func211 h
theorem vc_frac_R_Equal (a b:Int) (c:OA) (d e:Int) (f:OA) (V:View) (R:VR) (h:(Ca V 211 #[A #[I J a,I J b,P c],A #[I J d,I J e,P f]] fun k l=>∃g,k=I J g/\(Rt l R (B (g == (0:Int)))))):
 Acts prog 199 #[A #[I J a,I J b,P c],A #[I J d,I J e,P f]] V R:=
 fd (LF:=LF0) (RF:=[1000015]) [] [] func199 h
theorem vc_frac_Gcd (c a:Int) (d:OA) (e b:Int) (f:OA) (V:View) (R:VR) (h:((d.isNone=true->((f.isNone=true->(((a == (0:Int))=true->(∃i:Unit->VP,(((b == (0:Int))=true->(Ca V 262 #[I J c] fun o5 o6=>∃k,o5=I U k/\(Ca o6 262 #[I J e] fun o7 o8=>∃l,o7=I U l/\(Ca o8 261 #[I U k,I U l] fun o9 p0=>∃m,o9=I U m/\(Rt p0 R (A #[I J (J.wrap m),I J 0,P none]))))))/\((b == (0:Int))=false->(∃p1:Unit,(s11 0 0 0 c a d e b f (0:Int) (0:Int) (((none:OA)=none)))/\i p1 V)))/\∀(p2:Unit) (g:View),V.Le g->i p2 g->(true=true/\(Ca g 264 #[A #[I J c,I J a,P d]] fun p3 p4=>∃o p q,p3=S o p q/\(Ca p4 264 #[A #[I J e,I J b,P f]] fun p5 p6=>∃r s t,p5=S r s t/\(Ca p6 263 #[S o p q,S r s t] fun p7 p8=>∃u w x,p7=S u w x/\(Ca p8 191 #[A #[I J c,I J a,P d]] fun p9 q0=>∃q1,∃y z a0,p9=A #[B q1,S y z a0]/\(Ca q0 264 #[A #[I J e,I J b,P f]] fun q2 q3=>∃a1 a2 a3,q2=S a1 a2 a3/\(Ca q3 263 #[S y z a0,S a1 a2 a3] fun q4 q5=>∃a4 a5 a6,q4=S a4 a5 a6/\(Ca q5 191 #[A #[I J e,I J b,P f]] fun q6 q7=>∃q8,∃a7 a8 a9,q6=A #[B q8,S a7 a8 a9]/\(Ca q7 264 #[A #[I J c,I J a,P d]] fun q9 r0=>∃b0 b1 b2,q9=S b0 b1 b2/\(Ca r0 263 #[S a7 a8 a9,S b0 b1 b2] fun r1 r2=>∃b3 b4 b5,r1=S b3 b4 b5/\(Ca r2 265 #[S a4 a5 a6,S b3 b4 b5] fun r3 r4=>∃b6 b7 b8,r3=S b6 b7 b8/\(Ca r4 240 #[A #[B false,S b6 b7 b8],S u w x] fun r5 r6=>∃b9,∃c0,∃c1,r5=A #[I J b9,I J c0,P c1]/\(Rt r6 R (A #[I J b9,I J c0,P c1]))))))))))))))))/\((a == (0:Int))=false->(Ca V 264 #[A #[I J c,I J a,P d]] fun r7 r8=>∃c3 c4 c5,r7=S c3 c4 c5/\(Ca r8 264 #[A #[I J e,I J b,P f]] fun r9 t0=>∃c6 c7 c8,r9=S c6 c7 c8/\(Ca t0 263 #[S c3 c4 c5,S c6 c7 c8] fun t1 t2=>∃c9 d0 d1,t1=S c9 d0 d1/\(Ca t2 191 #[A #[I J c,I J a,P d]] fun t3 t4=>∃t5,∃d2 d3 d4,t3=A #[B t5,S d2 d3 d4]/\(Ca t4 264 #[A #[I J e,I J b,P f]] fun t6 t7=>∃d5 d6 d7,t6=S d5 d6 d7/\(Ca t7 263 #[S d2 d3 d4,S d5 d6 d7] fun t8 t9=>∃d8 d9 e0,t8=S d8 d9 e0/\(Ca t9 191 #[A #[I J e,I J b,P f]] fun u0 u1=>∃u2,∃e1 e2 e3,u0=A #[B u2,S e1 e2 e3]/\(Ca u1 264 #[A #[I J c,I J a,P d]] fun u3 u4=>∃e4 e5 e6,u3=S e4 e5 e6/\(Ca u4 263 #[S e1 e2 e3,S e4 e5 e6] fun u5 u6=>∃e7 e8 e9,u5=S e7 e8 e9/\(Ca u6 265 #[S d8 d9 e0,S e7 e8 e9] fun u7 u8=>∃f0 f1 f2,u7=S f0 f1 f2/\(Ca u8 240 #[A #[B false,S f0 f1 f2],S c9 d0 d1] fun u9 w0=>∃f3,∃f4,∃f5,u9=A #[I J f3,I J f4,P f5]/\(Rt w0 R (A #[I J f3,I J f4,P f5]))))))))))))))))/\(f.isNone=false->(Ca V 264 #[A #[I J c,I J a,P d]] fun w1 w2=>∃f7 f8 f9,w1=S f7 f8 f9/\(Ca w2 264 #[A #[I J e,I J b,P f]] fun w3 w4=>∃g0 g1 g2,w3=S g0 g1 g2/\(Ca w4 263 #[S f7 f8 f9,S g0 g1 g2] fun w5 w6=>∃g3 g4 g5,w5=S g3 g4 g5/\(Ca w6 191 #[A #[I J c,I J a,P d]] fun w7 w8=>∃w9,∃g6 g7 g8,w7=A #[B w9,S g6 g7 g8]/\(Ca w8 264 #[A #[I J e,I J b,P f]] fun x0 x1=>∃g9 i0 i1,x0=S g9 i0 i1/\(Ca x1 263 #[S g6 g7 g8,S g9 i0 i1] fun x2 x3=>∃i2 i3 i4,x2=S i2 i3 i4/\(Ca x3 191 #[A #[I J e,I J b,P f]] fun x4 x5=>∃x6,∃i5 i6 i7,x4=A #[B x6,S i5 i6 i7]/\(Ca x5 264 #[A #[I J c,I J a,P d]] fun x7 x8=>∃i8 i9 k0,x7=S i8 i9 k0/\(Ca x8 263 #[S i5 i6 i7,S i8 i9 k0] fun x9 y0=>∃k1 k2 k3,x9=S k1 k2 k3/\(Ca y0 265 #[S i2 i3 i4,S k1 k2 k3] fun y1 y2=>∃k4 k5 k6,y1=S k4 k5 k6/\(Ca y2 240 #[A #[B false,S k4 k5 k6],S g3 g4 g5] fun y3 y4=>∃k7,∃k8,∃k9,y3=A #[I J k7,I J k8,P k9]/\(Rt y4 R (A #[I J k7,I J k8,P k9]))))))))))))))))/\(d.isNone=false->(Ca V 264 #[A #[I J c,I J a,P d]] fun y5 y6=>∃l1 l2 l3,y5=S l1 l2 l3/\(Ca y6 264 #[A #[I J e,I J b,P f]] fun y7 y8=>∃l4 l5 l6,y7=S l4 l5 l6/\(Ca y8 263 #[S l1 l2 l3,S l4 l5 l6] fun y9 z0=>∃l7 l8 l9,y9=S l7 l8 l9/\(Ca z0 191 #[A #[I J c,I J a,P d]] fun z1 z2=>∃z3,∃m0 m1 m2,z1=A #[B z3,S m0 m1 m2]/\(Ca z2 264 #[A #[I J e,I J b,P f]] fun z4 z5=>∃m3 m4 m5,z4=S m3 m4 m5/\(Ca z5 263 #[S m0 m1 m2,S m3 m4 m5] fun z6 z7=>∃m6 m7 m8,z6=S m6 m7 m8/\(Ca z7 191 #[A #[I J e,I J b,P f]] fun z8 z9=>∃a00,∃m9 n0 n1,z8=A #[B a00,S m9 n0 n1]/\(Ca z9 264 #[A #[I J c,I J a,P d]] fun a01 a02=>∃n2 n3 n4,a01=S n2 n3 n4/\(Ca a02 263 #[S m9 n0 n1,S n2 n3 n4] fun a03 a04=>∃n5 n6 n7,a03=S n5 n6 n7/\(Ca a04 265 #[S m6 m7 m8,S n5 n6 n7] fun a05 a06=>∃n8 n9 o0,a05=S n8 n9 o0/\(Ca a06 240 #[A #[B false,S n8 n9 o0],S l7 l8 l9] fun a07 a08=>∃o1,∃o2,∃o3,a07=A #[I J o1,I J o2,P o3]/\(Rt a08 R (A #[I J o1,I J o2,P o3])))))))))))))))):
 Acts prog 198 #[A #[I J c,I J a,P d],A #[I J e,I J b,P f]] V R:=
 fd (LF:=LF0) (RF:=[1000015]) [] [(2,⟨Unit,false,[2,3,4],[2,3,4],fun a09=>[],fun a09=>[]⟩)] func198 h
end Go.Proofs.Tryz
/- Contracts of package frac: reduce, Num, Den, words. -/
namespace Go.Eng
open Go.Big
/-- A number that fits machine words. -/
def Wd (q:Rat):Prop:=q.num.natAbs < 4611686018427387904/\q.den < 4611686018427387904
/-- A rational number of package frac. -/
def RR (V:View) (v:Value) (q:Rat):Prop:=
 (v=.agg #[.int .i64 q.num,.int .i64 ((q.den:Int) - 1),.pointer none]/\Wd q) \/
 (∃a b p n c p' n' c',v=.agg #[.int .i64 0,.int .i64 0,.pointer (some a)]/\V.at (a.add 0) (.bool b)/\V.at (a.add 1) (.slice p n c)/\V.at (a.add 2) (.slice p' n' c') /\
  RI V (.agg #[.bool b,.slice p n c]) q.num/\RD V p' n' c' (digs q.den)/\¬ Wd q)
theorem RR.le {V V':View} {v:Value} {q:Rat} (h:RR V v q) (l:V.Le V'):RR V' v q:=by
 rcases h with h | ⟨a,b,p,n,c,p',n',c',e,h1,h2,h3,h4,h5,h6⟩
 ·exact .inl h
 ·exact .inr ⟨a,b,p,n,c,p',n',c',e,l.at h1,l.at h2,l.at h3,h4.le l,h5.le l,h6⟩
/-- Its size: binary digits. -/
def Sz (k:Nat) (q:Rat):Prop:=q.num.natAbs < 2 ^ k/\q.den < 2 ^ k
theorem Sz.mono {k m:Nat} {q:Rat} (h:Sz k q) (hm:k<=m):Sz m q:=
 ⟨Nat.lt_of_lt_of_le h.1 (Nat.pow_le_pow_right (by omega) hm),Nat.lt_of_lt_of_le h.2 (Nat.pow_le_pow_right (by omega) hm)⟩
theorem digs_len_bits {n k:Nat} (h:n < 2 ^ k):(digs n).length<=k:=by
 rw [digs_len_le]
 exact Nat.lt_of_lt_of_le h (Nat.pow_le_pow_left (by omega) k)
theorem Wd.sz {q:Rat} (h:Wd q):Sz 62 q:=h
theorem RR.shape {V:View} {v:Value} {q:Rat} (h:RR V v q):∃(n d:Int) (p:OA),v=.agg #[.int .i64 n,.int .i64 d,.pointer p]:=by
 rcases h with ⟨e,-⟩ | ⟨a,b,p,n,c,p',n',c',e,-⟩
 ·exact ⟨_,_,_,e⟩
 ·exact ⟨_,_,_,e⟩
end Go.Eng
namespace Go.Proofs.Tryz
open Go.Eng Go.Big
theorem blen62 (n:Nat):decide ((blen n:Int)<=62)=decide (n < 4611686018427387904):=by
 have:=@blen_le n 62
 rw [Bool.eq_iff_iff,decide_eq_true_eq,decide_eq_true_eq]
 omega
/-- num / den in lowest terms. -/
theorem mkRat_low {z:Int} {d:Nat} (hd:d≠0) (hg:Nat.gcd z.natAbs d=1):(mkRat z d).num=z/\(mkRat z d).den=d:=by
 have:Nat.gcd d z.natAbs=1:=by rw [Nat.gcd_comm]; exact hg
 rw [Rat.num_mkRat,Rat.den_mkRat,if_neg hd,if_neg hd,this]
 simp
theorem c_frac_reduce {V:View} (b:Bool) {p q:OA} {n c m e:Nat} {xs ys:List Nat} (hx:RD V p n c xs) (hy:RD V q m e ys) (hm:xs.length<=1099511627776) (hn:ys.length<=1099511627776) :
  Acts prog 240 #[.agg #[.bool b,.slice p n c],.slice q m e] V fun r V'=>RR V' r (mkRat (ival b xs) (val ys)):=by
 have zero:∀V':View,RR V' (.agg #[.int .i64 0,.int .i64 0,.pointer none]) 0:=fun V'=>.inl ⟨rfl,by unfold Wd; decide⟩
 refine vc_frac_reduce b p n c q m e V _ fun V1 l1=>(c_nat_Bits (hy.le l1) hn).mono ?_
 rintro r V2 l2 rfl
 refine ⟨_,rfl,fun h0 V3 l3=>?_,fun h0 V4 l4=>(c_integer_Sign b (hx.le (l1.trans (l2.trans l4))) hm).mono ?_⟩
 ·have:val ys=0:=blen_zero.1 (by simp at h0; omega)
  rw [this,Rat.mkRat_zero]; exact zero _
 rintro r V5 l5 rfl
 have hy0:val ys≠0:=fun e=>by simp [blen_zero.2 e] at h0
 refine ⟨_,rfl,fun h1 V6 l6=>?_,fun h1 V7 l7=>?_⟩
 ·have:ival b xs=0:=Int.sign_eq_zero_iff_zero.1 (by simpa using h1)
  rw [this,Rat.zero_mkRat]; exact zero _
 have hx0:ival b xs≠0:=fun e=>by simp [e] at h1
 have hx0':val xs≠0:=by rw [← ival_natAbs b xs]; omega
 replace hx:=hx.le (l1.trans (l2.trans (l4.trans (l5.trans l7))))
 replace hy:=hy.le (l1.trans (l2.trans (l4.trans (l5.trans l7))))
 refine (c_nat_Gcd hx hy hm hn).mono ?_
 rintro r V8 l8 ⟨p3,n3,c3,rfl,hg⟩
 replace hx:=hx.le l8
 replace hy:=hy.le l8
 have hgl:Nat.gcd (val xs) (val ys)<=val ys:=Nat.le_of_dvd (by omega) (Nat.gcd_dvd_right _ _)
 have hgd:(digs (Nat.gcd (val xs) (val ys))).length<=1099511627776:=Nat.le_trans (digs_len_mono hgl) (by have:=digs_val_len hy.dig; omega)
 have hgp:Nat.gcd (val xs) (val ys)≠0:=by
  intro e0; exact hx0' (Nat.eq_zero_of_gcd_eq_zero_left e0)
 refine ⟨_,_,_,rfl,fun V9 l9=>(c_nat_Bits (hg.le l9) hgd).mono ?_⟩
 rintro r V10 l10 rfl
 rw [val_digs]
 replace hx:=hx.le (l9.trans l10)
 replace hy:=hy.le (l9.trans l10)
 replace hg:=hg.le (l9.trans l10)
 refine ⟨_,rfl,fun z V'=>∃(us vs:List Nat),z.2.2.2.1=b/\RD V' z.2.2.2.2.1 z.2.2.2.2.2.1 z.2.2.2.2.2.2 us/\RD V' z.1 z.2.1 z.2.2.1 vs/\us.length<=1099511627776/\vs.length<=1099511627776/\val vs≠0 /\
  Nat.gcd (val us) (val vs)=1/\mkRat (ival b xs) (val ys)=mkRat (ival b us) (val vs),⟨fun h2 V11 l11=>?_,fun h2=>?_⟩,?_⟩
 ·refine (c_nat_DivMod (hx.le l11) (hg.le l11) hm hgd (by rw [val_digs]; exact hgp)).mono ?_
  rintro r V12 l12 ⟨p4,n4,c4,p5,n5,c5,rfl,g1,g2⟩
  refine ⟨_,_,_,_,_,_,_,rfl,fun V13 l13=>(c_nat_DivMod (hy.le (l11.trans (l12.trans l13))) (hg.le (l11.trans (l12.trans l13))) hn hgd (by rw [val_digs]; exact hgp)).mono ?_⟩
  rintro r V14 l14 ⟨p6,n6,c6,p7,n7,c7,rfl,g3,g4⟩
  rw [val_digs] at g1 g3
  have e1:val (digs (val xs / Nat.gcd (val xs) (val ys)))=val xs / Nat.gcd (val xs) (val ys):=val_digs _
  have e2:val (digs (val ys / Nat.gcd (val xs) (val ys)))=val ys / Nat.gcd (val xs) (val ys):=val_digs _
  have d1:=Nat.gcd_dvd_left (val xs) (val ys)
  have d2:=Nat.gcd_dvd_right (val xs) (val ys)
  have hdy:val ys / Nat.gcd (val xs) (val ys)≠0:=by
   intro e0
   have:=Nat.div_mul_cancel d2
   rw [e0,Nat.zero_mul] at this
   exact hy0 this.symm
  refine ⟨_,_,_,_,_,_,_,rfl,(p6,n6,c6,b,p4,n4,c4),by (try dsimp only); and_intros <;> trivial,_,_,rfl,g1.le (l13.trans l14),g3,?_,?_,?_,?_,?_⟩
  ·exact Nat.le_trans (digs_len_mono (Nat.div_le_self _ _)) (by have:=digs_val_len hx.dig; omega)
  ·exact Nat.le_trans (digs_len_mono (Nat.div_le_self _ _)) (by have:=digs_val_len hy.dig; omega)
  ·rw [e2]; exact hdy
  ·rw [e1,e2]; exact Nat.gcd_div_gcd_div_gcd_of_pos_left (by omega)
  ·rw [e2]
   have k1:val ys=val ys / Nat.gcd (val xs) (val ys) * Nat.gcd (val xs) (val ys):=(Nat.div_mul_cancel d2).symm
   have k2:ival b xs=ival b (digs (val xs / Nat.gcd (val xs) (val ys))) * (Nat.gcd (val xs) (val ys):Nat):=by
    have k3:(val xs:Int)=((val xs / Nat.gcd (val xs) (val ys):Nat):Int) * (Nat.gcd (val xs) (val ys):Nat):=by
     rw [← Int.natCast_mul,Nat.div_mul_cancel d1]
    unfold ival
    rw [e1]
    cases b
    ·simpa using k3
    ·simp only [if_true]; rw [Int.neg_mul,← k3]
   conv=>lhs; rw [k1,k2]
   exact Rat.mkRat_mul_right hgp
 ·have hg1:Nat.gcd (val xs) (val ys)=1:=by
   have h3:¬ (1 < blen (Nat.gcd (val xs) (val ys))):=by simp at h2; omega
   have:=@blen_le (Nat.gcd (val xs) (val ys)) 1
   omega
  exact ⟨(q,m,e,b,p,n,c),by (try dsimp only); and_intros <;> trivial,xs,ys,rfl,hx,hy,hm,hn,hy0,hg1,rfl⟩
 ·rintro ⟨q,m,e,b',p,n,c⟩ V15 l15 ⟨us,vs,hbb,hu,hv,hul,hvl,hv0,hgc,hq⟩
  dsimp only at hbb hu hv ⊢
  subst hbb
  rw [hq]
  obtain ⟨hnum,hden⟩:=mkRat_low (z:=ival b' us) hv0 (by rw [ival_natAbs]; exact hgc)
  generalize mkRat (ival b' us) (val vs)=w at *
  have hW:Wd w↔val us < 4611686018427387904/\val vs < 4611686018427387904:=by
   unfold Wd; rw [hnum,hden,ival_natAbs]
  have big:∀V1:View,V15.Le V1->¬ Wd w->Acts prog 255 #[.agg #[.bool b',.slice p n c]] V1 fun r V2=>∃(b1_:Bool) (p2_:OA) (n2_ c2_:Nat),r=.agg #[.bool b1_,.slice p2_ n2_ c2_] /\
    (∀V3:View,V2.Le V3->Acts prog 290 #[.slice q m e] V3 fun r V4=>∃(p3_:OA) (n3_ c3_:Nat),r=.slice p3_ n3_ c3_ /\
    (∀V5:View,V4.Le V5->∀bk:Nat,V5.blk bk (.cells #[.bool b1_,.slice p2_ n2_ c2_,.slice p3_ n3_ c3_] 340 (0,0))->RR V5 (.agg #[.int .i64 0,.int .i64 0,.pointer (some ⟨bk,0,none⟩)]) w)):=by
   intro V1 l1 hw
   refine (c_integer_Norm b' (hu.le l1) hul).mono ?_
   rintro r V2 l2 hri
   obtain ⟨p2,n2,c2,rfl,h2⟩:=hri
   have hri:RI V2 (.agg #[.bool (decide (ival b' us < 0)),.slice p2 n2 c2]) (ival b' us):=⟨_,_,_,rfl,h2⟩
   refine ⟨_,_,_,_,rfl,fun V3 l3=>(c_nat_Norm (hv.le (l1.trans (l2.trans l3))) hvl).mono ?_⟩
   rintro r V4 l4 ⟨p3,n3,c3,rfl,h3⟩
   refine ⟨_,_,_,rfl,fun V5 l5 bk hb=>.inr ⟨⟨bk,0,none⟩,decide (ival b' us < 0),p2,n2,c2,p3,n3,c3,rfl,?_,?_,?_,?_,?_,hw⟩⟩
   ·rw [add_zero']; exact blk_at (xs:=[_,_,_]) hb rfl
   ·rw [add_zero']; exact blk_at (xs:=[_,_,_]) hb rfl
   ·rw [add_zero']; exact blk_at (xs:=[_,_,_]) hb rfl
   ·rw [hnum]; exact hri.le (l3.trans (l4.trans l5))
   ·rw [hden]; exact h3.le l5
  refine ⟨by trivial,fun V16 l16=>(c_nat_Bits (hu.le l16) hul).mono ?_⟩
  rintro r V17 l17 rfl
  refine ⟨_,rfl,fun h3 V18 l18=>(c_nat_Bits (hv.le (l16.trans (l17.trans l18))) hvl).mono ?_,fun h3 V30 l30=>big V30 (l16.trans (l17.trans l30)) ?_⟩
  ·rintro r V19 l19 rfl
   rw [blen62,decide_eq_true_eq] at h3
   refine ⟨_,rfl,fun h4 V20 l20=>?_,fun h4 V25 l25=>big V25 (l16.trans (l17.trans (l18.trans (l19.trans l25)))) ?_⟩
   ·rw [blen62,decide_eq_true_eq] at h4
    refine (c_integer_Int64 b' (hu.le (l16.trans (l17.trans (l18.trans (l19.trans l20))))) hul h3).mono ?_
    rintro r V21 l21 rfl
    refine ⟨_,_,rfl,fun V22 l22=>(c_nat_Uint (hv.le (l16.trans (l17.trans (l18.trans (l19.trans (l20.trans (l21.trans l22))))))) hvl).mono ?_⟩
    rintro r V23 l23 rfl
    rw [if_pos (by omega)]
    refine ⟨_,_,rfl,fun V24 l24=>.inl ⟨?_,hW.2 ⟨h3,h4⟩⟩⟩
    rw [i64w (x:=((val vs:Nat):Int)) (by omega),i64w (by omega),hnum,hden]
   ·rw [blen62,decide_eq_false_iff_not] at h4
    rw [hW]; omega
  ·rw [blen62,decide_eq_false_iff_not] at h3
   rw [hW]; omega
end Go.Proofs.Tryz
/- Contracts of the reference's integers: Make, Int, Sign, Minus, Add, Mul. -/
namespace Go.Proofs.Tryz
open Go.Eng Go.Big
theorem c_num_Make {V:View} (b:Bool) {p:OA} {n c x:Nat} (h:RN V p n c x) :
  Acts prog 103 #[.bool b,.slice p n c] V fun r V'=>RI V' r (if b then -(x:Int) else x):=by
 have hp:=len_pos_digs h.len
 refine vc_num_Make b p n c V _ ⟨fun h0 V1 l1=>?_,fun h0 V1 l1=>?_⟩
 ·rw [if_pos h0]
  refine RI.mk ?_ ?_
  ·rw [Bool.eq_iff_iff,decide_eq_true_eq,decide_eq_true_eq]
   omega
  ·rw [Int.natAbs_neg,Int.natAbs_natCast]; exact h.le l1
 ·rw [h0,if_neg (by decide)]
  refine RI.mk ?_ ?_
  ·symm; rw [decide_eq_false_iff_not]; omega
  ·rw [Int.natAbs_natCast]; exact h.le l1
theorem make_fin {V:View} {b:Bool} {p:OA} {n c x:Nat} {z:Int} (h:RN V p n c x) (hz:(if b then -(x:Int) else x)=z) :
  Acts prog 103 #[.bool b,.slice p n c] V fun r V'=>∃(b1_:Bool) (p2_:OA) (n2_ c2_:Nat),r=.agg #[.bool b1_,.slice p2_ n2_ c2_]/\∀V3:View,V'.Le V3->RI V3 (.agg #[.bool b1_,.slice p2_ n2_ c2_]) z:=by
 refine (c_num_Make b h).mono ?_
 rintro r V2 l2 ⟨p1,n1,c1,rfl,g⟩
 rw [hz] at g ⊢
 exact ⟨_,_,_,_,rfl,fun V3 l3=>⟨_,_,_,rfl,g.le l3⟩⟩
theorem c_num_Int {V:View} (n:Int) (h0:-9223372036854775808<=n) (h1:n<=9223372036854775807) :
  Acts prog 170 #[.int .i64 n] V fun r V'=>RI V' r n:=by
 refine vc_num_Int n V _ ⟨fun h2 V1 l1=>?_,fun h2 V1 l1=>?_⟩
 ·have h2:n < 0:=by simpa using h2
  have e:u64.wrap (0 - u64.wrap n)=((-n).toNat:Int):=by rw [u64m,u64m]; omega
  rw [e]
  refine (c_num_Word _ (by omega)).mono ?_
  rintro r V2 l2 ⟨p1,n1,c1,rfl,g1⟩
  exact ⟨_,_,_,rfl,fun V3 l3=>make_fin (g1.le l3) (by simp; omega)⟩
 ·have h2:0<=n:=by simpa using h2
  have e:u64.wrap n=(n.toNat:Int):=by rw [u64w (by omega)]; omega
  rw [e]
  refine (c_num_Word _ (by omega)).mono ?_
  rintro r V2 l2 ⟨p1,n1,c1,rfl,g1⟩
  exact ⟨_,_,_,rfl,fun V3 l3=>make_fin (g1.le l3) (by simp; omega)⟩
theorem c_num_Sign {V:View} (z:Int) {p:OA} {n c:Nat} (h:RN V p n c z.natAbs) :
  Acts prog 166 #[.agg #[.bool (decide (z < 0)),.slice p n c]] V fun r V'=>r=.int .i64 z.sign:=by
 have hp:=len_pos_digs h.len
 refine vc_num_Sign _ p n c V _ ⟨fun h0 V1 l1=>?_,fun h0=>⟨fun h1 V1 l1=>?_,fun h1 V1 l1=>?_⟩⟩
 ·have:z=0:=by simp at h0; omega
  rw [this]; rfl
 ·rw [decide_eq_true_eq] at h1
  rw [Int.sign_eq_neg_one_of_neg h1]
 ·rw [decide_eq_false_iff_not] at h1
  have:0 < z:=by simp at h0; omega
  rw [Int.sign_eq_one_of_pos this]
theorem c_num_Minus {V:View} (z:Int) {p:OA} {n c:Nat} (h:RN V p n c z.natAbs) :
  Acts prog 123 #[.agg #[.bool (decide (z < 0)),.slice p n c]] V fun r V'=>RI V' r (-z):=by
 refine vc_num_Minus _ p n c V _ fun V1 l1=>make_fin (h.le l1) ?_
 by_cases hz:z < 0 <;> simp [hz] <;> omega
theorem c_num_Mul {V:View} (z w:Int) {p q:OA} {n c m e:Nat} (ha:RN V p n c z.natAbs) (hb:RN V q m e w.natAbs) (hm:(digs z.natAbs).length + (digs w.natAbs).length<=1099511627776) :
  Acts prog 102 #[.agg #[.bool (decide (z < 0)),.slice p n c],.agg #[.bool (decide (w < 0)),.slice q m e]] V fun r V'=>RI V' r (z * w):=by
 refine vc_num_Mul _ p n c _ q m e V _ fun V1 l1=>(c_num_Product (ha.le l1) (hb.le l1) hm).mono ?_
 rintro r V2 l2 ⟨p1,n1,c1,rfl,g1⟩
 rw [val_digs,val_digs] at g1
 refine ⟨_,_,_,rfl,fun V3 l3=>make_fin (g1.le l3) ?_⟩
 have e1:z=ival (decide (z < 0)) (digs z.natAbs):=(ival_digs z).symm
 have e2:w=ival (decide (w < 0)) (digs w.natAbs):=(ival_digs w).symm
 conv=>rhs; rw [e1,e2]
 unfold ival
 rw [val_digs,val_digs]
 cases decide (z < 0) <;> cases decide (w < 0) <;> simp [Int.neg_mul,Int.mul_neg]
theorem c_num_Add {V:View} (z w:Int) {p q:OA} {n c m e:Nat} (ha:RN V p n c z.natAbs) (hb:RN V q m e w.natAbs) (hm:(digs z.natAbs).length<=1099511627776) (hn:(digs w.natAbs).length<=1099511627776) :
  Acts prog 100 #[.agg #[.bool (decide (z < 0)),.slice p n c],.agg #[.bool (decide (w < 0)),.slice q m e]] V fun r V'=>RI V' r (z + w):=by
 refine vc_num_Add _ p n c _ q m e V _ ⟨fun h0 V1 l1=>(c_num_Sum (ha.le l1) (hb.le l1) hm hn).mono ?_,fun h0 V1 l1=>(c_num_Cmp (ha.le l1) (hb.le l1) hm hn).mono ?_⟩
 ·rintro r V2 l2 ⟨p1,n1,c1,rfl,g1⟩
  rw [val_digs,val_digs] at g1
  refine ⟨_,_,_,rfl,fun V3 l3=>make_fin (g1.le l3) ?_⟩
  by_cases hz:z < 0 <;> by_cases hw:w < 0 <;> simp [hz,hw] at h0 ⊢ <;> omega
 ·rintro r V2 l2 rfl
  refine ⟨_,rfl,fun h2 V3 l3=>?_,fun h2 V3 l3=>?_⟩
  ·have h2:z.natAbs < w.natAbs:=by simpa [cmpN_neg] using h2
   refine (c_num_Less (hb.le (l1.trans (l2.trans l3))) (ha.le (l1.trans (l2.trans l3))) hn (digs_len_mono (Nat.le_of_lt h2)) (by rw [val_digs,val_digs]; omega)).mono ?_
   rintro r V4 l4 ⟨p1,n1,c1,rfl,g1⟩
   rw [val_digs,val_digs] at g1
   refine ⟨_,_,_,rfl,fun V5 l5=>make_fin (g1.le l5) ?_⟩
   by_cases hz:z < 0 <;> by_cases hw:w < 0 <;> simp [hz,hw] at h0 ⊢ <;> omega
  ·have h2:w.natAbs<=z.natAbs:=by simpa [← Int.not_lt,cmpN_neg] using h2
   refine (c_num_Less (ha.le (l1.trans (l2.trans l3))) (hb.le (l1.trans (l2.trans l3))) hm (digs_len_mono h2) (by rw [val_digs,val_digs]; omega)).mono ?_
   rintro r V4 l4 ⟨p1,n1,c1,rfl,g1⟩
   rw [val_digs,val_digs] at g1
   refine ⟨_,_,_,rfl,fun V5 l5=>make_fin (g1.le l5) ?_⟩
   by_cases hz:z < 0 <;> by_cases hw:w < 0 <;> simp [hz,hw] at h0 ⊢ <;> omega
end Go.Proofs.Tryz
/- Contracts of the reference's rational numbers: Den, Frac, Of, S, Opp. -/
namespace Go.Eng
open Go.Big
/-- The digits of a denominator; none stands for 1. -/
def dend (d:Nat):List Nat:=if d=1 then [] else digs d
/-- A rational number of the reference. -/
def RQ (V:View) (v:Value) (q:Rat):Prop:=∃p n c p' n' c',v=.agg #[.bool (decide (q.num < 0)),.slice p n c,.slice p' n' c'] /\
 RD V p n c (digs q.num.natAbs)/\RD V p' n' c' (dend q.den)
theorem RQ.le {V V':View} {v:Value} {q:Rat} (h:RQ V v q) (l:V.Le V'):RQ V' v q:=by
 obtain ⟨p,n,c,p',n',c',e,h1,h2⟩:=h
 exact ⟨p,n,c,p',n',c',e,h1.le l,h2.le l⟩
theorem dend_nil {q:Rat}:dend q.den=[]↔q.den=1:=by
 unfold dend
 split
 ·rename_i h; simp [h]
 ·rename_i h
  rw [digs_eq_nil]
  have:=q.den_nz
  omega
end Go.Eng
namespace Go.Proofs.Tryz
open Go.Eng Go.Big
theorem dend_len {V:View} {q:Rat} {p:OA} {n c:Nat} (h:RD V p n c (dend q.den)):n=0↔q.den=1:=by
 rw [← dend_nil,h.len,List.length_eq_zero_iff]
theorem c_num_Den {V:View} (q:Rat) {p p':OA} {n c n' c':Nat} (b:Bool) (h2:RD V p' n' c' (dend q.den)) :
  Acts prog 104 #[.agg #[.bool b,.slice p n c,.slice p' n' c']] V fun r V'=>∃p1 n1 c1,r=.slice p1 n1 c1/\RN V' p1 n1 c1 q.den:=by
 have hl:=dend_len h2
 refine vc_num_Den b p n c p' n' c' V _ ⟨fun h0 V1 l1=>c_num_One.mono ?_,fun h0 V1 l1=>⟨_,_,_,rfl,?_⟩⟩
 ·rintro r V2 l2 ⟨p1,n1,c1,rfl,g⟩
  have:q.den=1:=hl.1 (by simp at h0; omega)
  rw [this]
  exact ⟨_,_,_,rfl,fun V3 l3=>⟨_,_,_,rfl,g.le l3⟩⟩
 ·have:q.den≠1:=fun e=>by have:=hl.2 e; simp at h0; omega
  unfold dend at h2
  rw [if_neg this] at h2
  exact h2.le l1
theorem rq_of {V:View} {q:Rat} {z:Int} {d:Nat} {p p':OA} {n c n' c':Nat} (hn:q.num=z) (hd:q.den=d) (h1:RD V p n c (digs z.natAbs)) (h2:RD V p' n' c' (dend d)) {b:Bool} (hb:b=decide (z < 0)) :
  RQ V (.agg #[.bool b,.slice p n c,.slice p' n' c']) q:=by
 subst hn hd hb
 exact ⟨_,_,_,_,_,_,rfl,h1,h2⟩
theorem c_num_Frac {V:View} (z:Int) {d:Nat} {p q:OA} {n c m e:Nat} (hx:RN V p n c z.natAbs) (hy:RN V q m e d) (hm:(digs z.natAbs).length<=274877906944) (hn:(digs d).length<=274877906944) (hd:d≠0) :
  Acts prog 101 #[.agg #[.bool (decide (z < 0)),.slice p n c],.slice q m e] V fun r V'=>RQ V' r (mkRat z d):=by
 refine vc_num_Frac _ p n c q m e V _ fun V1 l1=>(c_num_Common (hx.le l1) (hy.le l1) hm hn).mono ?_
 rintro r V2 l2 ⟨p1,n1,c1,rfl,hg⟩
 have hgd:=Nat.gcd_dvd_right z.natAbs d
 have hgx:=Nat.gcd_dvd_left z.natAbs d
 have hgp:0 < Nat.gcd z.natAbs d:=Nat.gcd_pos_of_pos_right _ (by omega)
 have hgl:(digs (Nat.gcd z.natAbs d)).length<=274877906944:=Nat.le_trans (digs_len_mono (Nat.le_of_dvd (by omega) hgd)) hn
 have hnum:(mkRat z d).num=z / (Nat.gcd d z.natAbs:Nat):=by rw [Rat.num_mkRat,if_neg hd]
 have hden:(mkRat z d).den=d / Nat.gcd d z.natAbs:=by rw [Rat.den_mkRat,if_neg hd]
 rw [Nat.gcd_comm d] at hnum hden
 generalize hG:Nat.gcd z.natAbs d=g at *
 generalize mkRat z d=w at *
 refine ⟨_,_,_,rfl,fun V3 l3=>c_num_One.mono ?_⟩
 rintro r V4 l4 ⟨p2,n2,c2,rfl,h1⟩
 refine ⟨_,_,_,rfl,fun V5 l5=>(c_num_Cmp (hg.le (l3.trans (l4.trans l5))) (h1.le l5) (by omega) (by decide)).mono ?_⟩
 rintro r V6 l6 rfl
 replace hx:=hx.le (l1.trans (l2.trans (l3.trans (l4.trans (l5.trans l6)))))
 replace hy:=hy.le (l1.trans (l2.trans (l3.trans (l4.trans (l5.trans l6)))))
 replace hg:=hg.le (l3.trans (l4.trans (l5.trans l6)))
 refine ⟨_,rfl,fun h0 V7 l7=>(c_num_Divide (hx.le l7) (hg.le l7) hm hgl hgp).mono ?_,fun h0 V19 l19=>c_num_One.mono ?_⟩
 ·rintro r V8 l8 ⟨p4,n4,c4,p5,n5,c5,rfl,g1,-⟩
  have hnd:(mkRat z d).num.natAbs=(mkRat z d).num.natAbs:=rfl
  obtain ⟨k,hk⟩:=hgx
  have hk1:z.natAbs / g=k:=by rw [hk,Nat.mul_div_cancel_left _ hgp]
  rw [hk1] at g1
  have hz:z=(g:Int) * (if z < 0 then -(k:Int) else k):=by
   split
   ·rw [Int.mul_neg,← Int.natCast_mul,← hk]; omega
   ·rw [← Int.natCast_mul,← hk]; omega
  have hwn:w.num=(if z < 0 then -(k:Int) else k):=by
   rw [hnum]
   generalize (if z < 0 then -(k:Int) else k)=t at *
   rw [hz,Int.mul_ediv_cancel_left _ (by omega)]
  refine ⟨_,_,_,_,_,_,rfl,fun V9 l9=>(c_num_Make _ (g1.le l9)).mono ?_⟩
  have hite:(if decide (z < 0)=true then -(k:Int) else k)=w.num:=by
   rw [hwn]; simp
  rw [hite]
  rintro r V10 l10 ⟨p7,n7,c7,rfl,g2⟩
  refine ⟨_,_,_,_,rfl,fun V11 l11=>(c_num_Divide (hy.le (l7.trans (l8.trans (l9.trans (l10.trans l11))))) (hg.le (l7.trans (l8.trans (l9.trans (l10.trans l11))))) hn hgl hgp).mono ?_⟩
  rintro r V12 l12 ⟨p8,n8,c8,p9,n9,c9,rfl,g3,-⟩
  rw [← hden] at g3
  refine ⟨_,_,_,_,_,_,rfl,fun V13 l13=>c_num_One.mono ?_⟩
  rintro r V14 l14 ⟨p10,n10,c10,rfl,g4⟩
  have hdl:(digs w.den).length<=274877906944:=by rw [hden]; exact Nat.le_trans (digs_len_mono (Nat.div_le_self _ _)) hn
  refine ⟨_,_,_,rfl,fun V15 l15=>(c_num_Cmp (g3.le (l13.trans (l14.trans l15))) (g4.le l15) (by omega) (by decide)).mono ?_⟩
  rintro r V16 l16 rfl
  refine ⟨_,rfl,fun h9 V17 l17=>rq_of rfl rfl (g2.le (l11.trans (l12.trans (l13.trans (l14.trans (l15.trans (l16.trans l17))))))) ?_ rfl,fun h9 V18 l18=>rq_of rfl rfl (g2.le (l11.trans (l12.trans (l13.trans (l14.trans (l15.trans (l16.trans l18))))))) ?_ rfl⟩
  ·have:w.den=1:=cmpN_zero.1 (by simpa using h9)
   rw [dend_nil.2 this]; exact RD.nil
  ·have:w.den≠1:=fun e=>by rw [cmpN_zero.2 e] at h9; simp at h9
   unfold dend
   rw [if_neg this]
   exact g3.le (l13.trans (l14.trans (l15.trans (l16.trans l18))))
 ·have hg1:g=1:=cmpN_zero.1 (by simpa using h0)
  have hwn:w.num=z:=by rw [hnum,hg1]; simp
  have hwd:w.den=d:=by rw [hden,hg1]; simp
  rintro r V20 l20 ⟨p12,n12,c12,rfl,g4⟩
  refine ⟨_,_,_,rfl,fun V21 l21=>(c_num_Cmp (hy.le (l19.trans (l20.trans l21))) (g4.le l21) (by omega) (by decide)).mono ?_⟩
  rintro r V22 l22 rfl
  refine ⟨_,rfl,fun h9 V17 l17=>rq_of hwn hwd (hx.le (l19.trans (l20.trans (l21.trans (l22.trans l17))))) ?_ rfl,fun h9 V18 l18=>rq_of hwn hwd (hx.le (l19.trans (l20.trans (l21.trans (l22.trans l18))))) ?_ rfl⟩
  ·have:d=1:=cmpN_zero.1 (by simpa using h9)
   unfold dend
   rw [if_pos this]; exact RD.nil
  ·have:d≠1:=fun e=>by rw [cmpN_zero.2 e] at h9; simp at h9
   unfold dend
   rw [if_neg this]
   exact hy.le (l19.trans (l20.trans (l21.trans (l22.trans l18))))
theorem c_num_Of {V:View} (n:Int) (h0:-9223372036854775808<=n) (h1:n<=9223372036854775807) :
  Acts prog 92 #[.int .i64 n] V fun r V'=>RQ V' r (n:Rat):=by
 refine vc_num_Of n V _ fun V1 l1=>(c_num_Int n h0 h1).mono ?_
 rintro r V2 l2 ⟨p,m,c,rfl,g⟩
 exact ⟨_,_,_,_,rfl,fun V3 l3=>rq_of (z:=n) (d:=1) rfl rfl (g.le l3) RD.nil rfl⟩
theorem c_num_S {V:View} (q:Rat) {p p':OA} {n c n' c':Nat} (h1:RD V p n c (digs q.num.natAbs)) :
  Acts prog 86 #[.agg #[.bool (decide (q.num < 0)),.slice p n c,.slice p' n' c']] V fun r V'=>r=.int .i64 q.num.sign:=by
 refine vc_num_S _ p n c p' n' c' V _ fun V1 l1=>(c_num_Sign q.num (h1.le l1)).mono ?_
 rintro r V2 l2 rfl
 exact ⟨_,rfl,fun V3 l3=>rfl⟩
theorem c_num_Opp {V:View} (q:Rat) {p p':OA} {n c n' c':Nat} (h1:RD V p n c (digs q.num.natAbs)) (h2:RD V p' n' c' (dend q.den)) :
  Acts prog 83 #[.agg #[.bool (decide (q.num < 0)),.slice p n c,.slice p' n' c']] V fun r V'=>RQ V' r (-q):=by
 refine vc_num_Opp _ p n c p' n' c' V _ fun V1 l1=>(c_num_Minus q.num (h1.le l1)).mono ?_
 rintro r V2 l2 ⟨p1,n1,c1,rfl,g⟩
 exact ⟨_,_,_,_,rfl,fun V3 l3=>rq_of (q:=-q) (z:=-q.num) (d:=q.den) (by rfl) (by rfl) (g.le l3) ((h2.le l1).le (l2.trans l3)) rfl⟩
end Go.Proofs.Tryz
/- Contracts of package frac: Num, Den, words, Int, Whole, Neg, Sign. -/
namespace Go.Eng
open Go.Big
theorem RI.inv {V:View} {b:Bool} {p:OA} {n c:Nat} {z:Int} (h:RI V (.agg #[.bool b,.slice p n c]) z):b=decide (z < 0)/\RD V p n c (digs z.natAbs):=by
 obtain ⟨p1,n1,c1,e,hn⟩:=h
 simp at e
 obtain ⟨rfl,rfl,rfl,rfl⟩:=e
 exact ⟨rfl,hn⟩
end Go.Eng
namespace Go.Proofs.Tryz
open Go.Eng Go.Big
theorem c_R_Num {V:View} {v:Value} {q:Rat} (h:RR V v q) {k:Nat} (hs:Sz k q) (hk:k<=1099511627776) :
  Acts prog 191 #[v] V fun r V'=>RI V' r q.num:=by
 rcases h with ⟨rfl,hw⟩ | ⟨a,b,p,n,c,p',n',c',rfl,h1,h2,h3,h4,h5,hw⟩
 ·have:=hw.1
  refine vc_frac_R_Num _ _ _ V _ ⟨(fun h0=>nomatch h0),fun _ V1 l1=>(c_integer_FromInt _ (by omega) (by omega)).mono ?_⟩
  rintro r V2 l2 ⟨p,n,c,rfl,g⟩
  exact ⟨_,_,_,_,rfl,fun V3 l3=>⟨_,_,_,rfl,g.le l3⟩⟩
 ·obtain ⟨rfl,hn⟩:=h4.inv
  refine vc_frac_R_Num _ _ _ V _ ⟨fun _=>⟨rfl,rfl,decide (q.num < 0),p,n,c,a.add 0,rfl,?_,?_,fun V1 l1=>(c_integer_Norm _ (hn.le l1) (Nat.le_trans (digs_len_bits hs.1) hk)).mono ?_⟩,fun h0=>nomatch h0⟩
  ·exact h1
  ·simpa [Addr.add] using h2
  ·rintro r V2 l2 ⟨p,n,c,rfl,g⟩
   rw [ival_digs] at g ⊢
   exact ⟨_,_,_,_,rfl,fun V3 l3=>⟨_,_,_,rfl,g.le l3⟩⟩
theorem c_R_Den {V:View} {v:Value} {q:Rat} (h:RR V v q) {k:Nat} (hs:Sz k q) (hk:k<=1099511627776) :
  Acts prog 264 #[v] V fun r V'=>∃p n c,r=.slice p n c/\RN V' p n c q.den:=by
 rcases h with ⟨rfl,hw⟩ | ⟨a,b,p,n,c,p',n',c',rfl,h1,h2,h3,h4,h5,hw⟩
 ·have:=hw.2
  have hd:=q.den_nz
  refine vc_frac_R_Den _ _ _ V _ ⟨(fun h0=>nomatch h0),fun _ V1 l1=>?_⟩
  rw [i64w (by omega),u64w (by omega)]
  refine (c_nat_FromUint _ (by omega) (by omega)).mono ?_
  rintro r V2 l2 ⟨p,n,c,rfl,g⟩
  rw [show ((q.den:Int) - 1 + 1).toNat=q.den from by omega] at g
  exact ⟨_,_,_,rfl,fun V3 l3=>⟨_,_,_,rfl,g.le l3⟩⟩
 ·refine vc_frac_R_Den _ _ _ V _ ⟨fun _=>⟨rfl,rfl,_,_,_,⟨_,rfl,h3⟩,fun V1 l1=>(c_nat_Norm (h5.le l1) (Nat.le_trans (digs_len_bits hs.2) hk)).mono ?_⟩,fun h0=>nomatch h0⟩
  rintro r V2 l2 ⟨p,n,c,rfl,g⟩
  rw [val_digs] at g
  exact ⟨_,_,_,rfl,fun V3 l3=>⟨_,_,_,rfl,g.le l3⟩⟩
theorem c_frac_abs {V:View} (n:Int) (h0:-9223372036854775808 < n) (h1:n<=9223372036854775807) :
  Acts prog 262 #[.int .i64 n] V fun r V'=>r=.int .u64 (n.natAbs:Int):=by
 refine vc_frac_abs n V _ ⟨fun h2 V1 l1=>?_,fun h2 V1 l1=>?_⟩
 ·have h2:n < 0:=by simpa using h2
  rw [i64w (by omega),u64w (by omega)]; congr 1; omega
 ·have h2:0<=n:=by simpa using h2
  rw [u64w (by omega)]; congr 1; omega
theorem c_frac_gcd {V:View} (x y:Nat) (hx:x < 18446744073709551616) (hy:y < 18446744073709551616) :
  Acts prog 261 #[.int .u64 (x:Int),.int .u64 (y:Int)] V fun r V'=>r=.int .u64 (Nat.gcd x y:Int):=by
 refine vc_frac_gcd _ _ V _ ⟨fun z V'=>∃a b:Nat,z=((a:Int),(b:Int))/\Nat.gcd a b=Nat.gcd x y,fun z=>z.2.toNat,
  ⟨((x:Int),(y:Int)),by (try dsimp only); and_intros <;> trivial,x,y,rfl,rfl⟩,?_⟩
 rintro _ V16 l16 ⟨a,b,rfl,hab⟩
 dsimp only
 refine ⟨by trivial,fun h3=>?_,fun h3 V17 l17=>?_⟩
 ·have h3:b≠0:=by rw [bne_iff_ne] at h3; omega
  have hlt:a % b < b:=Nat.mod_lt _ (by omega)
  have e4:(a:Int).tmod (b:Int)=((a % b:Nat):Int):=by rw [Int.tmod_eq_emod_of_nonneg (by omega),← Int.natCast_emod]
  rw [e4]
  exact ⟨by omega,((b:Int),((a % b:Nat):Int)),by (try dsimp only); rw [Int.toNat_natCast,Int.toNat_natCast]; exact hlt,by (try dsimp only); and_intros <;> trivial,b,a % b,rfl,by rw [gcd_step,hab]⟩
 ·have h3:b=0:=by rw [bne_eq_false_iff_eq] at h3; omega
  subst h3
  rw [Nat.gcd_zero_right] at hab
  rw [hab]
theorem c_frac_times {V:View} (a b:Int) (ha:a.natAbs < 4611686018427387904) (hb:b.natAbs < 4611686018427387904) :
  Acts prog 291 #[.int .i64 a,.int .i64 b] V fun r V'=>∃z:Int,r=.tuple #[.int .i64 z,.bool (decide ((a * b).natAbs < 4611686018427387904))]/\((a * b).natAbs < 4611686018427387904->z=a * b):=by
 refine vc_frac_times a b V _ fun V1 l1=>(c_frac_abs a (by omega) (by omega)).mono ?_
 rintro r V2 l2 rfl
 refine ⟨_,rfl,fun V3 l3=>(c_frac_abs b (by omega) (by omega)).mono ?_⟩
 rintro r V4 l4 rfl
 refine ⟨_,rfl,fun V5 l5=>(c_Mul64 _ _ (by omega) (by omega)).mono ?_⟩
 rintro r V6 l6 rfl
 have hab:(a * b).natAbs=a.natAbs * b.natAbs:=Int.natAbs_mul a b
 have hsg:a * b=if (decide (a < 0) == decide (b < 0)) then ((a.natAbs * b.natAbs:Nat):Int) else -((a.natAbs * b.natAbs:Nat):Int):=by
  rw [Int.natCast_mul]
  by_cases h1:a < 0 <;> by_cases h2:b < 0
  ·rw [decide_eq_true h1,decide_eq_true h2,show (a.natAbs:Int)=-a from by omega,show (b.natAbs:Int)=-b from by omega]; simp [Int.neg_mul,Int.mul_neg]
  ·rw [decide_eq_true h1,decide_eq_false h2,if_neg (by decide),show (a.natAbs:Int)=-a from by omega,show (b.natAbs:Int)=b from by omega]; simp [Int.neg_mul]
  ·rw [decide_eq_false h1,decide_eq_true h2,if_neg (by decide),show (a.natAbs:Int)=a from by omega,show (b.natAbs:Int)=-b from by omega]; simp [Int.mul_neg]
  ·rw [decide_eq_false h1,decide_eq_false h2,show (a.natAbs:Int)=a from by omega,show (b.natAbs:Int)=b from by omega]; simp
 rw [hab]
 generalize a.natAbs * b.natAbs=p at *
 refine ⟨_,_,rfl,fun h0 V7 l7=>?_,fun h0=>⟨fun h1 V7 l7=>?_,fun h1=>⟨fun h2 V7 l7=>?_,fun h2 V7 l7=>?_⟩⟩⟩
 ·have h0:18446744073709551616<=p:=by rw [bne_iff_ne] at h0; omega
  rw [decide_eq_false (by omega)]
  exact ⟨_,rfl,fun h=>by omega⟩
 ·have h1:4611686018427387904<=p:=by
   rw [decide_eq_true_eq] at h1; omega
  rw [decide_eq_false (by omega)]
  exact ⟨_,rfl,fun h=>by omega⟩
 ·have h0:p / 18446744073709551616=0:=by rw [bne_eq_false_iff_eq] at h0; omega
  have h1:p < 4611686018427387904:=by rw [decide_eq_false_iff_not] at h1; omega
  rw [decide_eq_true h1,i64w (x:=((p % 18446744073709551616:Nat):Int)) (by omega),i64w (by omega)]
  refine ⟨_,rfl,fun _=>?_⟩
  have h2:(decide (a < 0) == decide (b < 0))=false:=by simpa using h2
  rw [hsg,h2,if_neg (by decide)]; omega
 ·have h0:p / 18446744073709551616=0:=by rw [bne_eq_false_iff_eq] at h0; omega
  have h1:p < 4611686018427387904:=by rw [decide_eq_false_iff_not] at h1; omega
  rw [decide_eq_true h1,i64w (x:=((p % 18446744073709551616:Nat):Int)) (by omega)]
  refine ⟨_,rfl,fun _=>?_⟩
  have h2:(decide (a < 0) == decide (b < 0))=true:=by simpa using h2
  rw [hsg,h2,if_pos rfl]; omega
theorem c_frac_lowest {V:View} (n:Int) (d:Nat) (hn:n.natAbs < 4611686018427387904) (hd:d < 4611686018427387904) (hd0:d≠0) :
  Acts prog 292 #[.int .i64 n,.int .i64 (d:Int)] V fun r V'=>RR V' r (mkRat n d):=by
 refine vc_frac_lowest n _ V _ fun V1 l1=>(c_frac_abs n (by omega) (by omega)).mono ?_
 rintro r V2 l2 rfl
 rw [u64w (x:=(d:Int)) (by omega)]
 refine ⟨_,rfl,fun V3 l3=>(c_frac_gcd _ _ (by omega) (by omega)).mono ?_⟩
 rintro r V4 l4 rfl
 have hgl:Nat.gcd n.natAbs d<=d:=Nat.le_of_dvd (by omega) (Nat.gcd_dvd_right _ _)
 have hgp:0 < Nat.gcd n.natAbs d:=Nat.gcd_pos_of_pos_right _ (by omega)
 have hnum:=Rat.num_mkRat n d
 have hden:=Rat.den_mkRat n d
 rw [if_neg hd0,Nat.gcd_comm] at hnum hden
 have hdvd:(Nat.gcd n.natAbs d:Int) ∣ n:=Int.ofNat_dvd_left.2 (Nat.gcd_dvd_left _ _)
 have hdl:d / Nat.gcd n.natAbs d<=d:=Nat.div_le_self _ _
 have hnl:(n / (Nat.gcd n.natAbs d:Int)).natAbs<=n.natAbs:=by
  rw [Int.natAbs_ediv_of_dvd hdvd,Int.natAbs_natCast]; exact Nat.div_le_self _ _
 have hW:Wd (mkRat n d):=by unfold Wd; rw [hnum,hden]; omega
 refine ⟨_,rfl,?_⟩
 rw [i64w (x:=((Nat.gcd n.natAbs d:Nat):Int)) (by omega)]
 refine ⟨fun h0=>⟨by omega,by omega,fun V5 l5=>.inl ⟨?_,hW⟩⟩,fun h0 V5 l5=>.inl ⟨?_,hW⟩⟩
 ·rw [hnum,hden]
  have e1:n.tdiv (Nat.gcd n.natAbs d:Int)=n / (Nat.gcd n.natAbs d:Int):=Int.tdiv_eq_ediv_of_dvd hdvd
  have e2:(d:Int).tdiv (Nat.gcd n.natAbs d:Int)=((d / Nat.gcd n.natAbs d:Nat):Int):=by rw [Int.tdiv_eq_ediv_of_nonneg (by omega),← Int.natCast_ediv]
  rw [e1,e2]
  generalize n / (Nat.gcd n.natAbs d:Int)=nn at *
  generalize d / Nat.gcd n.natAbs d=dd at *
  rw [i64w (by omega),i64w (x:=(dd:Int)) (by omega),i64w (by omega)]
 ·have h0:Nat.gcd n.natAbs d=1:=by rw [decide_eq_false_iff_not] at h0; omega
  rw [hnum,hden,h0,i64w (by omega)]
  simp
end Go.Proofs.Tryz
