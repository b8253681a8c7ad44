/- A part of the proof (joined by program from: VSweep, SweepA, SweepB, VSpanB, SpanB, NewA, SceneE). -/
import Derived.Test.YtimkdinmcbepnaaGreatDoorS5
import Derived.Test.YtimkdinmcbepnaaGreatDoorS16
import Derived.Test.YtimkdinmcbepnaaGreatDoorS14
import Derived.Test.YtimkdinmcbepnaaGreatDoorS12
import Derived.Test.YtimkdinmcbepnaaGreatDoorS13
set_option linter.unusedVariables false
open Go.IntKind (i64 u64 u32)
/- By program: the conditions of the functions, from their loaded code. -/
namespace Go.Proofs.Tryz
open Go.Eng
open Go.Value renaming int→I,pointer→P,slice→S,agg→A,bool→B,tuple→T
open Go.IntKind renaming i64→J,u64→U,u32→W
set_option maxRecDepth 100000
theorem vc_geo_sweep_2 (a b d:Nat) (e f:Int) (V:View) (R:VR) (hw100000:V.w.heap[a]?=some (.cells #[.func (.func d) #[] #[]] 202 (0,0))) (hx100000:V.X a) (hw100001:V.w.heap[b]?=some (.cells #[I J e,I J f] 179 (0,0))) (hx100001:V.X b) (hn100000_100001:a≠b) (h:(0<=(0:Int)/\(0:Int) < (2:Int))/\(0<=(1:Int)/\(1:Int) < (2:Int))/\(∀i,V.Le i->Acts prog d #[B (decide (e > (0:Int))),B (decide (f > (0:Int)))] i fun l m=>∃k,l=B k/\(∀g,m.Le g->g.w.heap[a]?=some (.cells #[.func (.func d) #[] #[]] 202 (0,0))->g.w.heap[b]?=some (.cells #[I J e,I J f] 179 (0,0))->R (B k) g))):
 Acts prog 177 #[P (some ⟨a,0,none⟩),P (some ⟨b,0,none⟩)] V R:=
 fn_does (LF:=LF0) (RF:=[1000010]) (β0:=(upd1 (upd1 (fun _=>0) 100000 a) 100001 b)) tab_ok mixed [] [] func177 (by kernel_rfl) [(0,.c (.ptr 100000 0)),(1,.c (.ptr 100001 0))] [(100000,⟨.lit [.clo d []],202⟩),(100001,⟨.lit [.v (I J e),.v (I J f)],179⟩)] (by kernel_rfl) ⟨⟨hw100000,hx100000⟩,⟨hn100000_100001,trivial⟩,⟨⟨hw100001,hx100001⟩,trivial,trivial⟩⟩ h (by kernel_rfl)
theorem vc_geo_sweep (e:OA) (f g:Nat) (i:OA) (k l m:Nat) (V:View) (R:VR) (h:(∃(f1:(Nat × Nat × (List Value) × Int × (List Value))->VP) (i1:(Nat × Nat × (List Value) × Int × (List Value))->Nat),(∃c2,(s9 0 0 e f g i k l (none:OA) (((0:Nat)=c2.1)/\((0:Nat)=c2.2.1)/\sm 0/\((0:Int)=c2.2.2.2.1)/\((m:FuncId)=m)/\(([I J 0,I J 0]:List Value)=c2.2.2.2.2)/\(c2.2.2.1=[])))/\f1 c2 V)/\∀(a:Nat × Nat × (List Value) × Int × (List Value)) (b7:View),V.Le b7->f1 a b7->(true=true/\(((decide (a.2.2.2.1 < (2:Int)))=true->(0<=a.2.2.2.1/\a.2.2.2.1 < (2:Int))/\(∃(f2:(Nat × Nat × (List Value) × Int × (List Value))->VP) (i2:(Nat × Nat × (List Value) × Int × (List Value))->Nat),(∃c3,(s10 0 0 a.2.2.2.1 e f g i k l a.2.2.2.1 ((((([(e,f,g),(i,k,l)]:List (OA × Nat × Nat)).getD a.2.2.2.1.toNat (none,0,0)).1:OA)=((([(e,f,g),(i,k,l)]:List (OA × Nat × Nat)).getD a.2.2.2.1.toNat (none,0,0)).1))/\(((([(e,f,g),(i,k,l)]:List (OA × Nat × Nat)).getD a.2.2.2.1.toNat (none,0,0)).2.1:Nat)=((([(e,f,g),(i,k,l)]:List (OA × Nat × Nat)).getD a.2.2.2.1.toNat (none,0,0)).2.1))/\(((([(e,f,g),(i,k,l)]:List (OA × Nat × Nat)).getD a.2.2.2.1.toNat (none,0,0)).2.2:Nat)=((([(e,f,g),(i,k,l)]:List (OA × Nat × Nat)).getD a.2.2.2.1.toNat (none,0,0)).2.2))/\((((([(e,f,g),(i,k,l)]:List (OA × Nat × Nat)).getD a.2.2.2.1.toNat (none,0,0)).2.1:Nat):Int)=(((([(e,f,g),(i,k,l)]:List (OA × Nat × Nat)).getD a.2.2.2.1.toNat (none,0,0)).2.1:Nat):Int))/\((a.1:Nat)=c3.1)/\((a.2.1:Nat)=c3.2.1)/\((0:Int)=c3.2.2.2.1)/\((m:FuncId)=m)/\(a.2.2.2.2=c3.2.2.2.2)/\(a.2.2.1=c3.2.2.1)))/\f2 c3 b7)/\∀(n:Nat × Nat × (List Value) × Int × (List Value)) (x:View),b7.Le x->f2 n x->(true=true/\(((decide (n.2.2.2.1 < (((([(e,f,g),(i,k,l)]:List (OA × Nat × Nat)).getD a.2.2.2.1.toNat (none,0,0)).2.1:Nat):Int)))=true->(((([(e,f,g),(i,k,l)]:List (OA × Nat × Nat)).getD a.2.2.2.1.toNat (none,0,0)).1).isSome=true)/\(0<=n.2.2.2.1/\n.2.2.2.1 < (((([(e,f,g),(i,k,l)]:List (OA × Nat × Nat)).getD a.2.2.2.1.toNat (none,0,0)).2.1:Nat):Int))/\(∃c4,∃c5,∃c6,∃c7,∃c8,∃c9,∃d5,∃d6,∃b3,addrAdd ((([(e,f,g),(i,k,l)]:List (OA × Nat × Nat)).getD a.2.2.2.1.toNat (none,0,0)).1) (n.2.2.2.1.toNat * 8)=some b3/\x.at (b3.add 0) (I J c4)/\x.at (b3.add 1) (I J c5)/\x.at (b3.add 2) (P c6)/\x.at (b3.add 3) (I J c7)/\x.at (b3.add 4) (I J c8)/\x.at (b3.add 5) (P c9)/\x.at (b3.add 6) (B d5)/\x.at (b3.add 7) (B d6)/\(∃f3:(Nat × Nat × (List Value) × (List Value))->VP,((d5=true->(0<=a.2.2.2.1/\a.2.2.2.1 < (2:Int))/\(∃i3,n.2.2.2.2[0 + (a.2.2.2.1.toNat * 1)]?=some (I J i3)/\(0<=a.2.2.2.1/\a.2.2.2.1 < (2:Int))/\((0 + (a.2.2.2.1.toNat * 1)) + 1<=n.2.2.2.2.length)/\(∃d7,(s11 0 0 a.2.2.2.1 0 e f g i k l a.2.2.2.1 ((((([(e,f,g),(i,k,l)]:List (OA × Nat × Nat)).getD a.2.2.2.1.toNat (none,0,0)).1:OA)=((([(e,f,g),(i,k,l)]:List (OA × Nat × Nat)).getD a.2.2.2.1.toNat (none,0,0)).1))/\(((([(e,f,g),(i,k,l)]:List (OA × Nat × Nat)).getD a.2.2.2.1.toNat (none,0,0)).2.1:Nat)=((([(e,f,g),(i,k,l)]:List (OA × Nat × Nat)).getD a.2.2.2.1.toNat (none,0,0)).2.1))/\(((([(e,f,g),(i,k,l)]:List (OA × Nat × Nat)).getD a.2.2.2.1.toNat (none,0,0)).2.2:Nat)=((([(e,f,g),(i,k,l)]:List (OA × Nat × Nat)).getD a.2.2.2.1.toNat (none,0,0)).2.2))/\((((([(e,f,g),(i,k,l)]:List (OA × Nat × Nat)).getD a.2.2.2.1.toNat (none,0,0)).2.1:Nat):Int)=(((([(e,f,g),(i,k,l)]:List (OA × Nat × Nat)).getD a.2.2.2.1.toNat (none,0,0)).2.1:Nat):Int))/\sm n.2.2.2.1/\((n.1:Nat)=d7.1)/\((n.2.1:Nat)=d7.2.1)/\((m:FuncId)=m)/\s8 c4 c5 c6 c7 c8 c9 d5 d6 (((n.2.2.2.2.set (0 + (a.2.2.2.1.toNat * 1)) (I J (J.wrap (i3 + (1:Int)))))=d7.2.2.2)/\(n.2.2.1=d7.2.2.1))))/\f3 d7 x)))/\(d5=false->((n.1 + 1) * 40<=140737488355328/\n.1<=n.2.1/\n.2.1 * 5<=n.2.2.1.length/\([I J c4,I J c5,P c6,I J a.2.2.2.1,I J 1]:List Value).length=1 * 5/\(∀b4 ∈ ([I J c4,I J c5,P c6,I J a.2.2.2.1,I J 1]:List Value),b4.oneCell'=true)/\∀(i4:List Value) (f4:Nat),n.1 + 1<=f4->f4 * 5<=(n.1 + 1) * 5 + i4.length->(∃d8,(s11 0 0 a.2.2.2.1 0 e f g i k l a.2.2.2.1 ((((([(e,f,g),(i,k,l)]:List (OA × Nat × Nat)).getD a.2.2.2.1.toNat (none,0,0)).1:OA)=((([(e,f,g),(i,k,l)]:List (OA × Nat × Nat)).getD a.2.2.2.1.toNat (none,0,0)).1))/\(((([(e,f,g),(i,k,l)]:List (OA × Nat × Nat)).getD a.2.2.2.1.toNat (none,0,0)).2.1:Nat)=((([(e,f,g),(i,k,l)]:List (OA × Nat × Nat)).getD a.2.2.2.1.toNat (none,0,0)).2.1))/\(((([(e,f,g),(i,k,l)]:List (OA × Nat × Nat)).getD a.2.2.2.1.toNat (none,0,0)).2.2:Nat)=((([(e,f,g),(i,k,l)]:List (OA × Nat × Nat)).getD a.2.2.2.1.toNat (none,0,0)).2.2))/\((((([(e,f,g),(i,k,l)]:List (OA × Nat × Nat)).getD a.2.2.2.1.toNat (none,0,0)).2.1:Nat):Int)=(((([(e,f,g),(i,k,l)]:List (OA × Nat × Nat)).getD a.2.2.2.1.toNat (none,0,0)).2.1:Nat):Int))/\sm n.2.2.2.1/\((n.1 + 1:Nat)=d8.1)/\((f4:Nat)=d8.2.1)/\((m:FuncId)=m)/\s8 c4 c5 c6 c7 c8 c9 d5 d6 ((n.2.2.2.2=d8.2.2.2)/\((n.2.2.1.take (n.1 * 5)++([I J c4,I J c5,P c6,I J a.2.2.2.1,I J 1]:List Value)++i4)=d8.2.2.1))))/\f3 d8 x))))/\∀(p:Nat × Nat × (List Value) × (List Value)) (d9:View),x.Le d9->f3 p d9->(true=true/\(∃f5:(Nat × Nat × (List Value))->VP,(((!d6)=true->((p.1 + 1) * 40<=140737488355328/\p.1<=p.2.1/\p.2.1 * 5<=p.2.2.1.length/\([I J c7,I J c8,P c9,I J a.2.2.2.1,I J (-1)]:List Value).length=1 * 5/\(∀b4 ∈ ([I J c7,I J c8,P c9,I J a.2.2.2.1,I J (-1)]:List Value),b4.oneCell'=true)/\∀(i5:List Value) (f6:Nat),p.1 + 1<=f6->f6 * 5<=(p.1 + 1) * 5 + i5.length->(∃e2,(s10 0 0 a.2.2.2.1 e f g i k l a.2.2.2.1 ((((([(e,f,g),(i,k,l)]:List (OA × Nat × Nat)).getD a.2.2.2.1.toNat (none,0,0)).1:OA)=((([(e,f,g),(i,k,l)]:List (OA × Nat × Nat)).getD a.2.2.2.1.toNat (none,0,0)).1))/\(((([(e,f,g),(i,k,l)]:List (OA × Nat × Nat)).getD a.2.2.2.1.toNat (none,0,0)).2.1:Nat)=((([(e,f,g),(i,k,l)]:List (OA × Nat × Nat)).getD a.2.2.2.1.toNat (none,0,0)).2.1))/\(((([(e,f,g),(i,k,l)]:List (OA × Nat × Nat)).getD a.2.2.2.1.toNat (none,0,0)).2.2:Nat)=((([(e,f,g),(i,k,l)]:List (OA × Nat × Nat)).getD a.2.2.2.1.toNat (none,0,0)).2.2))/\((((([(e,f,g),(i,k,l)]:List (OA × Nat × Nat)).getD a.2.2.2.1.toNat (none,0,0)).2.1:Nat):Int)=(((([(e,f,g),(i,k,l)]:List (OA × Nat × Nat)).getD a.2.2.2.1.toNat (none,0,0)).2.1:Nat):Int))/\sm n.2.2.2.1/\((p.1 + 1:Nat)=e2.1)/\((f6:Nat)=e2.2.1)/\((m:FuncId)=m)/\sm p.2.2.2/\((p.2.2.1.take (p.1 * 5)++([I J c7,I J c8,P c9,I J a.2.2.2.1,I J (-1)]:List Value)++i5)=e2.2.2)))/\f5 e2 d9)))/\((!d6)=false->(∃e3,(s10 0 0 a.2.2.2.1 e f g i k l a.2.2.2.1 ((((([(e,f,g),(i,k,l)]:List (OA × Nat × Nat)).getD a.2.2.2.1.toNat (none,0,0)).1:OA)=((([(e,f,g),(i,k,l)]:List (OA × Nat × Nat)).getD a.2.2.2.1.toNat (none,0,0)).1))/\(((([(e,f,g),(i,k,l)]:List (OA × Nat × Nat)).getD a.2.2.2.1.toNat (none,0,0)).2.1:Nat)=((([(e,f,g),(i,k,l)]:List (OA × Nat × Nat)).getD a.2.2.2.1.toNat (none,0,0)).2.1))/\(((([(e,f,g),(i,k,l)]:List (OA × Nat × Nat)).getD a.2.2.2.1.toNat (none,0,0)).2.2:Nat)=((([(e,f,g),(i,k,l)]:List (OA × Nat × Nat)).getD a.2.2.2.1.toNat (none,0,0)).2.2))/\((((([(e,f,g),(i,k,l)]:List (OA × Nat × Nat)).getD a.2.2.2.1.toNat (none,0,0)).2.1:Nat):Int)=(((([(e,f,g),(i,k,l)]:List (OA × Nat × Nat)).getD a.2.2.2.1.toNat (none,0,0)).2.1:Nat):Int))/\sm n.2.2.2.1/\((p.1:Nat)=e3.1)/\((p.2.1:Nat)=e3.2.1)/\((m:FuncId)=m)/\sm p.2.2.2/\(p.2.2.1=e3.2.2)))/\f5 e3 d9)))/\∀(e4:Nat × Nat × (List Value)) (f7:View),d9.Le f7->f5 e4 f7->(true=true/\(∃b8:Nat × Nat × (List Value) × Int × (List Value),i2 b8 < i2 n/\(s10 0 0 a.2.2.2.1 e f g i k l a.2.2.2.1 ((((([(e,f,g),(i,k,l)]:List (OA × Nat × Nat)).getD a.2.2.2.1.toNat (none,0,0)).1:OA)=((([(e,f,g),(i,k,l)]:List (OA × Nat × Nat)).getD a.2.2.2.1.toNat (none,0,0)).1))/\(((([(e,f,g),(i,k,l)]:List (OA × Nat × Nat)).getD a.2.2.2.1.toNat (none,0,0)).2.1:Nat)=((([(e,f,g),(i,k,l)]:List (OA × Nat × Nat)).getD a.2.2.2.1.toNat (none,0,0)).2.1))/\(((([(e,f,g),(i,k,l)]:List (OA × Nat × Nat)).getD a.2.2.2.1.toNat (none,0,0)).2.2:Nat)=((([(e,f,g),(i,k,l)]:List (OA × Nat × Nat)).getD a.2.2.2.1.toNat (none,0,0)).2.2))/\((((([(e,f,g),(i,k,l)]:List (OA × Nat × Nat)).getD a.2.2.2.1.toNat (none,0,0)).2.1:Nat):Int)=(((([(e,f,g),(i,k,l)]:List (OA × Nat × Nat)).getD a.2.2.2.1.toNat (none,0,0)).2.1:Nat):Int))/\((e4.1:Nat)=b8.1)/\((e4.2.1:Nat)=b8.2.1)/\((J.wrap (n.2.2.2.1 + (1:Int)))=b8.2.2.2.1)/\((m:FuncId)=m)/\(p.2.2.2=b8.2.2.2.2)/\(e4.2.2=b8.2.2.1)))/\f2 b8 f7)))))))/\((decide (n.2.2.2.1 < (((([(e,f,g),(i,k,l)]:List (OA × Nat × Nat)).getD a.2.2.2.1.toNat (none,0,0)).2.1:Nat):Int)))=false->(∃b9:Nat × Nat × (List Value) × Int × (List Value),i1 b9 < i1 a/\(s8 0 0 e f g i k l (((n.1:Nat)=b9.1)/\((n.2.1:Nat)=b9.2.1)/\((J.wrap (a.2.2.2.1 + (1:Int)))=b9.2.2.2.1)/\((m:FuncId)=m)/\(n.2.2.2.2=b9.2.2.2.2)/\(n.2.2.1=b9.2.2.1)))/\f1 b9 x))))))/\((decide (a.2.2.2.1 < (2:Int)))=false->(∃f8:(List Value)->VP,((a.2.2.1=[]->(a.2.1:Nat)=0/\(Ca b7 175 #[S none a.1 a.2.1,.func (.func 176) #[] #[]] fun l0 l1=> l0=T #[]/\(∃i6:(List Value),(sm 0/\((a.1:Nat)=a.1)/\((a.2.1:Nat)=a.2.1)/\sm 0/\((m:FuncId)=m)/\sm a.2.2.2.2/\(a.2.2.1=i6))/\f8 i6 l1)))/\(a.2.2.1≠[]->(∀e0,b7.Le e0->∀e1:Nat,(a.2.2.1≠[]->e0.w.heap[e1]?=some (.cells a.2.2.1.toArray 261 (0,0)))->(a.2.2.1≠[]->e0.H e1)->Acts prog 175 #[S (mA e1 a.2.1) a.1 a.2.1,.func (.func 176) #[] #[]] (e0.lend [vb a.2.2.1 e0.w.heap.size e1]) fun l2 i7=> l2=T #[]/\a.2.2.1≠[]/\∃f9:List Value,f9≠[]/\i7.w.heap[e1]?=some (.cells f9.toArray 261 (0,0))/\(∃i8:(List Value),(sm 0/\((a.1:Nat)=a.1)/\((a.2.1:Nat)=a.2.1)/\sm 0/\((m:FuncId)=m)/\sm a.2.2.2.2/\(f9=i8))/\f8 i8 i7.shut))))/\∀(q:(List Value)) (g0:View),b7.Le g0->f8 q g0->(true=true/\(∀c0,g0.Le c0->∀d0 d1:Nat,(c0.w.heap[d0]?=some (.cells #[.func (.func m) #[] #[]] 202 (0,0)))->(c0.H d0)->(a.2.2.2.2≠[]->c0.w.heap[d1]?=some (.cells a.2.2.2.2.toArray 179 (0,0)))->(a.2.2.2.2≠[]->c0.H d1)->(a.2.2.2.2≠[]->d0≠d1)->Acts prog 177 #[P (some ⟨d0,0,none⟩),P (some ⟨d1,0,none⟩)] (c0.lend [d0,vb a.2.2.2.2 c0.w.heap.size d1]) fun l3 e5=>∃i9,l3=B i9/\ e5.w.heap[d0]?=some (.cells #[.func (.func m) #[] #[]] 202 (0,0))/\a.2.2.2.2≠[]/\∃g1:List Value,g1≠[]/\e5.w.heap[d1]?=some (.cells g1.toArray 179 (0,0))/\(∃(e6:(Nat × Nat × (List Value) × Bool × Int × (List Value) × Int × Int × (OA) × Int × Int × (OA) × Bool × Bool)->VP) (e7:(Nat × Nat × (List Value) × Bool × Int × (List Value) × Int × Int × (OA) × Int × Int × (OA) × Bool × Bool)->Nat),(∃t,(((a.1:Nat)=a.1)/\((a.2.1:Nat)=a.2.1)/\sm 0/\((177:FuncId)=177)/\sm 0/\((a.1:Nat)=a.1)/\((a.2.1:Nat)=a.2.1)/\(((a.1:Nat):Int)=((a.1:Nat):Int))/\((none:OA)=none)/\((0:Nat)=t.1)/\((0:Nat)=t.2.1)/\sm 0/\(i9=t.2.2.2.1)/\((0:Int)=t.2.2.2.2.1)/\((m:FuncId)=m)/\sm q/\(g1=t.2.2.2.2.2.1)/\((0:Int)=t.2.2.2.2.2.2.1)/\((0:Int)=t.2.2.2.2.2.2.2.1)/\((none:OA)=t.2.2.2.2.2.2.2.2.1)/\((0:Int)=t.2.2.2.2.2.2.2.2.2.1)/\((0:Int)=t.2.2.2.2.2.2.2.2.2.2.1)/\((none:OA)=t.2.2.2.2.2.2.2.2.2.2.2.1)/\(true=t.2.2.2.2.2.2.2.2.2.2.2.2.1)/\(false=t.2.2.2.2.2.2.2.2.2.2.2.2.2)/\(t.2.2.1=[]))/\e6 t e5.shut)/\∀(b:Nat × Nat × (List Value) × Bool × Int × (List Value) × Int × Int × (OA) × Int × Int × (OA) × Bool × Bool) (b5:View),e5.shut.Le b5->e6 b b5->(true=true/\(((decide (b.2.2.2.2.1 < ((a.1:Nat):Int)))=true->(0<=b.2.2.2.2.1/\b.2.2.2.2.1 < ((a.1:Nat):Int))/\(a.1<=a.2.1)/\(∃z,∃a0,∃a1,∃o,∃y,((b.2.2.2.2.1.toNat * 5) + 5<=q.length/\(q.drop (b.2.2.2.2.1.toNat * 5)).take 5=[I J z,I J a0,P a1,I J o,I J y])/\(0<=o/\o < (2:Int))/\(∃a2,b.2.2.2.2.2.1[0 + (o.toNat * 1)]?=some (I J a2)/\(0<=o/\o < (2:Int))/\((0 + (o.toNat * 1)) + 1<=b.2.2.2.2.2.1.length)/\(∃g2:Bool->VP,(((decide ((J.wrap (b.2.2.2.2.1 + (1:Int))) < ((a.1:Nat):Int)))=true->(0<=(J.wrap (b.2.2.2.2.1 + (1:Int)))/\(J.wrap (b.2.2.2.2.1 + (1:Int))) < ((a.1:Nat):Int))/\(a.1<=a.2.1)/\(∃k0,∃k1,∃k2,(((((J.wrap (b.2.2.2.2.1 + (1:Int))).toNat) * 5) + 0) + 3<=q.length/\(q.drop ((((J.wrap (b.2.2.2.2.1 + (1:Int))).toNat) * 5) + 0)).take 3=[I J k0,I J k1,P k2])/\(Ca b5 178 #[A #[I J k0,I J k1,P k2],A #[I J z,I J a0,P a1]] fun l4 l5=>∃k3,l4=B k3/\(∃k4:Bool,(((a.1:Nat)=a.1)/\((a.2.1:Nat)=a.2.1)/\sm 0/\((177:FuncId)=177)/\((b.1:Nat)=b.1)/\((b.2.1:Nat)=b.2.1)/\s3 0 b.2.2.2.1 0 (((a.1:Nat)=a.1)/\((a.2.1:Nat)=a.2.1)/\(((a.1:Nat):Int)=((a.1:Nat):Int))/\sm b.2.2.2.2.1/\(k3=k4)/\((m:FuncId)=m)/\sm q/\((b.2.2.2.2.2.1.set (0 + (o.toNat * 1)) (I J (J.wrap (a2 + y))))=(b.2.2.2.2.2.1.set (0 + (o.toNat * 1)) (I J (J.wrap (a2 + y)))))/\s3 b.2.2.1 b.2.2.2.2.2.2.1 b.2.2.2.2.2.2.2.1 (((b.2.2.2.2.2.2.2.2.1:OA)=b.2.2.2.2.2.2.2.2.1)/\sm b.2.2.2.2.2.2.2.2.2.1/\sm b.2.2.2.2.2.2.2.2.2.2.1/\((b.2.2.2.2.2.2.2.2.2.2.2.1:OA)=b.2.2.2.2.2.2.2.2.2.2.2.1)/\s6 b.2.2.2.2.2.2.2.2.2.2.2.2.1 b.2.2.2.2.2.2.2.2.2.2.2.2.2 z a0 a1 o (sm y))))/\g2 k4 l5))))/\((decide ((J.wrap (b.2.2.2.2.1 + (1:Int))) < ((a.1:Nat):Int)))=false->(∃k5:Bool,(((a.1:Nat)=a.1)/\((a.2.1:Nat)=a.2.1)/\sm 0/\((177:FuncId)=177)/\((b.1:Nat)=b.1)/\((b.2.1:Nat)=b.2.1)/\s3 0 b.2.2.2.1 0 (((a.1:Nat)=a.1)/\((a.2.1:Nat)=a.2.1)/\(((a.1:Nat):Int)=((a.1:Nat):Int))/\sm b.2.2.2.2.1/\(false=k5)/\((m:FuncId)=m)/\sm q/\((b.2.2.2.2.2.1.set (0 + (o.toNat * 1)) (I J (J.wrap (a2 + y))))=(b.2.2.2.2.2.1.set (0 + (o.toNat * 1)) (I J (J.wrap (a2 + y)))))/\s3 b.2.2.1 b.2.2.2.2.2.2.1 b.2.2.2.2.2.2.2.1 (((b.2.2.2.2.2.2.2.2.1:OA)=b.2.2.2.2.2.2.2.2.1)/\sm b.2.2.2.2.2.2.2.2.2.1/\sm b.2.2.2.2.2.2.2.2.2.2.1/\((b.2.2.2.2.2.2.2.2.2.2.2.1:OA)=b.2.2.2.2.2.2.2.2.2.2.2.1)/\s6 b.2.2.2.2.2.2.2.2.2.2.2.2.1 b.2.2.2.2.2.2.2.2.2.2.2.2.2 z a0 a1 o (sm y))))/\g2 k5 b5)))/\∀(g3:Bool) (e8:View),b5.Le e8->g2 g3 e8->(true=true/\((g3=true->(∃r:Nat × Nat × (List Value) × Bool × Int × (List Value) × Int × Int × (OA) × Int × Int × (OA) × Bool × Bool,e7 r < e7 b/\(((a.1:Nat)=a.1)/\((a.2.1:Nat)=a.2.1)/\sm 0/\((177:FuncId)=177)/\sm 0/\((a.1:Nat)=a.1)/\((a.2.1:Nat)=a.2.1)/\(((a.1:Nat):Int)=((a.1:Nat):Int))/\((b.1:Nat)=r.1)/\((b.2.1:Nat)=r.2.1)/\(b.2.2.2.1=r.2.2.2.1)/\((J.wrap (b.2.2.2.2.1 + (1:Int)))=r.2.2.2.2.1)/\((m:FuncId)=m)/\sm q/\((b.2.2.2.2.2.1.set (0 + (o.toNat * 1)) (I J (J.wrap (a2 + y))))=r.2.2.2.2.2.1)/\(b.2.2.2.2.2.2.1=r.2.2.2.2.2.2.1)/\(b.2.2.2.2.2.2.2.1=r.2.2.2.2.2.2.2.1)/\((b.2.2.2.2.2.2.2.2.1:OA)=r.2.2.2.2.2.2.2.2.1)/\(b.2.2.2.2.2.2.2.2.2.1=r.2.2.2.2.2.2.2.2.2.1)/\(b.2.2.2.2.2.2.2.2.2.2.1=r.2.2.2.2.2.2.2.2.2.2.1)/\((b.2.2.2.2.2.2.2.2.2.2.2.1:OA)=r.2.2.2.2.2.2.2.2.2.2.2.1)/\(b.2.2.2.2.2.2.2.2.2.2.2.2.1=r.2.2.2.2.2.2.2.2.2.2.2.2.1)/\(b.2.2.2.2.2.2.2.2.2.2.2.2.2=r.2.2.2.2.2.2.2.2.2.2.2.2.2)/\(b.2.2.1=r.2.2.1))/\e6 r e8))/\(g3=false->(∀c1,e8.Le c1->∀d2 d3:Nat,(c1.w.heap[d2]?=some (.cells #[.func (.func m) #[] #[]] 202 (0,0)))->(c1.H d2)->((b.2.2.2.2.2.1.set (0 + (o.toNat * 1)) (I J (J.wrap (a2 + y))))≠[]->c1.w.heap[d3]?=some (.cells (b.2.2.2.2.2.1.set (0 + (o.toNat * 1)) (I J (J.wrap (a2 + y)))).toArray 179 (0,0)))->((b.2.2.2.2.2.1.set (0 + (o.toNat * 1)) (I J (J.wrap (a2 + y))))≠[]->c1.H d3)->((b.2.2.2.2.2.1.set (0 + (o.toNat * 1)) (I J (J.wrap (a2 + y))))≠[]->d2≠d3)->Acts prog 177 #[P (some ⟨d2,0,none⟩),P (some ⟨d3,0,none⟩)] (c1.lend [d2,vb (b.2.2.2.2.2.1.set (0 + (o.toNat * 1)) (I J (J.wrap (a2 + y)))) c1.w.heap.size d3]) fun l6 b1=>∃u,l6=B u/\ b1.w.heap[d2]?=some (.cells #[.func (.func m) #[] #[]] 202 (0,0))/\(b.2.2.2.2.2.1.set (0 + (o.toNat * 1)) (I J (J.wrap (a2 + y))))≠[]/\∃b2:List Value,b2≠[]/\b1.w.heap[d3]?=some (.cells b2.toArray 179 (0,0))/\(∃b6:(Nat × Nat × (List Value) × Int × Int × (OA) × Int × Int × (OA) × Bool × Bool)->VP,((u=true->(((!b.2.2.2.1)=true->(∃a3,(((a.1:Nat)=a.1)/\((a.2.1:Nat)=a.2.1)/\sm 0/\((177:FuncId)=177)/\sm 0/\sm u/\((a.1:Nat)=a.1)/\((a.2.1:Nat)=a.2.1)/\(((a.1:Nat):Int)=((a.1:Nat):Int))/\sm b.2.2.2.2.1/\((b.1:Nat)=a3.1)/\((b.2.1:Nat)=a3.2.1)/\((m:FuncId)=m)/\sm q/\sm b2/\(z=a3.2.2.2.1)/\(a0=a3.2.2.2.2.1)/\((a1:OA)=a3.2.2.2.2.2.1)/\((0:Int)=a3.2.2.2.2.2.2.1)/\((0:Int)=a3.2.2.2.2.2.2.2.1)/\((none:OA)=a3.2.2.2.2.2.2.2.2.1)/\(false=a3.2.2.2.2.2.2.2.2.2.1)/\(false=a3.2.2.2.2.2.2.2.2.2.2)/\(b.2.2.1=a3.2.2.1))/\b6 a3 b1.shut))/\((!b.2.2.2.1)=false->((b.2.2.2.1=true->(((!u)=true->((b.1 + 1) * 56<=140737488355328/\b.1<=b.2.1/\b.2.1 * 8<=b.2.2.1.length/\([I J b.2.2.2.2.2.2.1,I J b.2.2.2.2.2.2.2.1,P b.2.2.2.2.2.2.2.2.1,I J z,I J a0,P a1,B b.2.2.2.2.2.2.2.2.2.2.2.2.1,B b.2.2.2.2.2.2.2.2.2.2.2.2.2]:List Value).length=1 * 8/\(∀b4 ∈ ([I J b.2.2.2.2.2.2.1,I J b.2.2.2.2.2.2.2.1,P b.2.2.2.2.2.2.2.2.1,I J z,I J a0,P a1,B b.2.2.2.2.2.2.2.2.2.2.2.2.1,B b.2.2.2.2.2.2.2.2.2.2.2.2.2]:List Value),b4.oneCell'=true)/\∀(k6:List Value) (g4:Nat),b.1 + 1<=g4->g4 * 8<=(b.1 + 1) * 8 + k6.length->(∃a4,(((a.1:Nat)=a.1)/\((a.2.1:Nat)=a.2.1)/\sm 0/\((177:FuncId)=177)/\sm 0/\sm u/\((a.1:Nat)=a.1)/\((a.2.1:Nat)=a.2.1)/\(((a.1:Nat):Int)=((a.1:Nat):Int))/\sm b.2.2.2.2.1/\((b.1 + 1:Nat)=a4.1)/\((g4:Nat)=a4.2.1)/\((m:FuncId)=m)/\sm q/\sm b2/\(b.2.2.2.2.2.2.1=a4.2.2.2.1)/\(b.2.2.2.2.2.2.2.1=a4.2.2.2.2.1)/\((b.2.2.2.2.2.2.2.2.1:OA)=a4.2.2.2.2.2.1)/\(z=a4.2.2.2.2.2.2.1)/\(a0=a4.2.2.2.2.2.2.2.1)/\((a1:OA)=a4.2.2.2.2.2.2.2.2.1)/\(b.2.2.2.2.2.2.2.2.2.2.2.2.1=a4.2.2.2.2.2.2.2.2.2.1)/\(b.2.2.2.2.2.2.2.2.2.2.2.2.2=a4.2.2.2.2.2.2.2.2.2.2)/\((b.2.2.1.take (b.1 * 8)++([I J b.2.2.2.2.2.2.1,I J b.2.2.2.2.2.2.2.1,P b.2.2.2.2.2.2.2.2.1,I J z,I J a0,P a1,B b.2.2.2.2.2.2.2.2.2.2.2.2.1,B b.2.2.2.2.2.2.2.2.2.2.2.2.2]:List Value)++k6)=a4.2.2.1))/\b6 a4 b1.shut)))/\((!u)=false->(∃a5,(((a.1:Nat)=a.1)/\((a.2.1:Nat)=a.2.1)/\sm 0/\((177:FuncId)=177)/\sm 0/\sm u/\((a.1:Nat)=a.1)/\((a.2.1:Nat)=a.2.1)/\(((a.1:Nat):Int)=((a.1:Nat):Int))/\sm b.2.2.2.2.1/\((b.1:Nat)=a5.1)/\((b.2.1:Nat)=a5.2.1)/\((m:FuncId)=m)/\sm q/\sm b2/\(b.2.2.2.2.2.2.1=a5.2.2.2.1)/\(b.2.2.2.2.2.2.2.1=a5.2.2.2.2.1)/\((b.2.2.2.2.2.2.2.2.1:OA)=a5.2.2.2.2.2.1)/\(b.2.2.2.2.2.2.2.2.2.1=a5.2.2.2.2.2.2.1)/\(b.2.2.2.2.2.2.2.2.2.2.1=a5.2.2.2.2.2.2.2.1)/\((b.2.2.2.2.2.2.2.2.2.2.2.1:OA)=a5.2.2.2.2.2.2.2.2.1)/\(b.2.2.2.2.2.2.2.2.2.2.2.2.1=a5.2.2.2.2.2.2.2.2.2.1)/\(b.2.2.2.2.2.2.2.2.2.2.2.2.2=a5.2.2.2.2.2.2.2.2.2.2)/\(b.2.2.1=a5.2.2.1))/\b6 a5 b1.shut))))/\(b.2.2.2.1=false->(∃a6,(((a.1:Nat)=a.1)/\((a.2.1:Nat)=a.2.1)/\sm 0/\((177:FuncId)=177)/\sm 0/\sm u/\((a.1:Nat)=a.1)/\((a.2.1:Nat)=a.2.1)/\(((a.1:Nat):Int)=((a.1:Nat):Int))/\sm b.2.2.2.2.1/\((b.1:Nat)=a6.1)/\((b.2.1:Nat)=a6.2.1)/\((m:FuncId)=m)/\sm q/\sm b2/\(b.2.2.2.2.2.2.1=a6.2.2.2.1)/\(b.2.2.2.2.2.2.2.1=a6.2.2.2.2.1)/\((b.2.2.2.2.2.2.2.2.1:OA)=a6.2.2.2.2.2.1)/\(b.2.2.2.2.2.2.2.2.2.1=a6.2.2.2.2.2.2.1)/\(b.2.2.2.2.2.2.2.2.2.2.1=a6.2.2.2.2.2.2.2.1)/\((b.2.2.2.2.2.2.2.2.2.2.2.1:OA)=a6.2.2.2.2.2.2.2.2.1)/\(b.2.2.2.2.2.2.2.2.2.2.2.2.1=a6.2.2.2.2.2.2.2.2.2.1)/\(b.2.2.2.2.2.2.2.2.2.2.2.2.2=a6.2.2.2.2.2.2.2.2.2.2)/\(b.2.2.1=a6.2.2.1))/\b6 a6 b1.shut))))))/\(u=false->((b.2.2.2.1=true->(((!u)=true->((b.1 + 1) * 56<=140737488355328/\b.1<=b.2.1/\b.2.1 * 8<=b.2.2.1.length/\([I J b.2.2.2.2.2.2.1,I J b.2.2.2.2.2.2.2.1,P b.2.2.2.2.2.2.2.2.1,I J z,I J a0,P a1,B b.2.2.2.2.2.2.2.2.2.2.2.2.1,B b.2.2.2.2.2.2.2.2.2.2.2.2.2]:List Value).length=1 * 8/\(∀b4 ∈ ([I J b.2.2.2.2.2.2.1,I J b.2.2.2.2.2.2.2.1,P b.2.2.2.2.2.2.2.2.1,I J z,I J a0,P a1,B b.2.2.2.2.2.2.2.2.2.2.2.2.1,B b.2.2.2.2.2.2.2.2.2.2.2.2.2]:List Value),b4.oneCell'=true)/\∀(k7:List Value) (g5:Nat),b.1 + 1<=g5->g5 * 8<=(b.1 + 1) * 8 + k7.length->(∃a7,(((a.1:Nat)=a.1)/\((a.2.1:Nat)=a.2.1)/\sm 0/\((177:FuncId)=177)/\sm 0/\sm u/\((a.1:Nat)=a.1)/\((a.2.1:Nat)=a.2.1)/\(((a.1:Nat):Int)=((a.1:Nat):Int))/\sm b.2.2.2.2.1/\((b.1 + 1:Nat)=a7.1)/\((g5:Nat)=a7.2.1)/\((m:FuncId)=m)/\sm q/\sm b2/\(b.2.2.2.2.2.2.1=a7.2.2.2.1)/\(b.2.2.2.2.2.2.2.1=a7.2.2.2.2.1)/\((b.2.2.2.2.2.2.2.2.1:OA)=a7.2.2.2.2.2.1)/\(z=a7.2.2.2.2.2.2.1)/\(a0=a7.2.2.2.2.2.2.2.1)/\((a1:OA)=a7.2.2.2.2.2.2.2.2.1)/\(b.2.2.2.2.2.2.2.2.2.2.2.2.1=a7.2.2.2.2.2.2.2.2.2.1)/\(b.2.2.2.2.2.2.2.2.2.2.2.2.2=a7.2.2.2.2.2.2.2.2.2.2)/\((b.2.2.1.take (b.1 * 8)++([I J b.2.2.2.2.2.2.1,I J b.2.2.2.2.2.2.2.1,P b.2.2.2.2.2.2.2.2.1,I J z,I J a0,P a1,B b.2.2.2.2.2.2.2.2.2.2.2.2.1,B b.2.2.2.2.2.2.2.2.2.2.2.2.2]:List Value)++k7)=a7.2.2.1))/\b6 a7 b1.shut)))/\((!u)=false->(∃a8,(((a.1:Nat)=a.1)/\((a.2.1:Nat)=a.2.1)/\sm 0/\((177:FuncId)=177)/\sm 0/\sm u/\((a.1:Nat)=a.1)/\((a.2.1:Nat)=a.2.1)/\(((a.1:Nat):Int)=((a.1:Nat):Int))/\sm b.2.2.2.2.1/\((b.1:Nat)=a8.1)/\((b.2.1:Nat)=a8.2.1)/\((m:FuncId)=m)/\sm q/\sm b2/\(b.2.2.2.2.2.2.1=a8.2.2.2.1)/\(b.2.2.2.2.2.2.2.1=a8.2.2.2.2.1)/\((b.2.2.2.2.2.2.2.2.1:OA)=a8.2.2.2.2.2.1)/\(b.2.2.2.2.2.2.2.2.2.1=a8.2.2.2.2.2.2.1)/\(b.2.2.2.2.2.2.2.2.2.2.1=a8.2.2.2.2.2.2.2.1)/\((b.2.2.2.2.2.2.2.2.2.2.2.1:OA)=a8.2.2.2.2.2.2.2.2.1)/\(b.2.2.2.2.2.2.2.2.2.2.2.2.1=a8.2.2.2.2.2.2.2.2.2.1)/\(b.2.2.2.2.2.2.2.2.2.2.2.2.2=a8.2.2.2.2.2.2.2.2.2.2)/\(b.2.2.1=a8.2.2.1))/\b6 a8 b1.shut))))/\(b.2.2.2.1=false->(∃a9,(((a.1:Nat)=a.1)/\((a.2.1:Nat)=a.2.1)/\sm 0/\((177:FuncId)=177)/\sm 0/\sm u/\((a.1:Nat)=a.1)/\((a.2.1:Nat)=a.2.1)/\(((a.1:Nat):Int)=((a.1:Nat):Int))/\sm b.2.2.2.2.1/\((b.1:Nat)=a9.1)/\((b.2.1:Nat)=a9.2.1)/\((m:FuncId)=m)/\sm q/\sm b2/\(b.2.2.2.2.2.2.1=a9.2.2.2.1)/\(b.2.2.2.2.2.2.2.1=a9.2.2.2.2.1)/\((b.2.2.2.2.2.2.2.2.1:OA)=a9.2.2.2.2.2.1)/\(b.2.2.2.2.2.2.2.2.2.1=a9.2.2.2.2.2.2.1)/\(b.2.2.2.2.2.2.2.2.2.2.1=a9.2.2.2.2.2.2.2.1)/\((b.2.2.2.2.2.2.2.2.2.2.2.1:OA)=a9.2.2.2.2.2.2.2.2.1)/\(b.2.2.2.2.2.2.2.2.2.2.2.2.1=a9.2.2.2.2.2.2.2.2.2.1)/\(b.2.2.2.2.2.2.2.2.2.2.2.2.2=a9.2.2.2.2.2.2.2.2.2.2)/\(b.2.2.1=a9.2.2.1))/\b6 a9 b1.shut)))))/\∀(b0:Nat × Nat × (List Value) × Int × Int × (OA) × Int × Int × (OA) × Bool × Bool) (g6:View),b1.shut.Le g6->b6 b0 g6->(true=true/\(∃s:Nat × Nat × (List Value) × Bool × Int × (List Value) × Int × Int × (OA) × Int × Int × (OA) × Bool × Bool,e7 s < e7 b/\(((a.1:Nat)=a.1)/\((a.2.1:Nat)=a.2.1)/\sm 0/\((177:FuncId)=177)/\sm 0/\((a.1:Nat)=a.1)/\((a.2.1:Nat)=a.2.1)/\(((a.1:Nat):Int)=((a.1:Nat):Int))/\((b0.1:Nat)=s.1)/\((b0.2.1:Nat)=s.2.1)/\(u=s.2.2.2.1)/\((J.wrap (b.2.2.2.2.1 + (1:Int)))=s.2.2.2.2.1)/\((m:FuncId)=m)/\sm q/\(b2=s.2.2.2.2.2.1)/\(b0.2.2.2.1=s.2.2.2.2.2.2.1)/\(b0.2.2.2.2.1=s.2.2.2.2.2.2.2.1)/\((b0.2.2.2.2.2.1:OA)=s.2.2.2.2.2.2.2.2.1)/\(b0.2.2.2.2.2.2.1=s.2.2.2.2.2.2.2.2.2.1)/\(b0.2.2.2.2.2.2.2.1=s.2.2.2.2.2.2.2.2.2.2.1)/\((b0.2.2.2.2.2.2.2.2.1:OA)=s.2.2.2.2.2.2.2.2.2.2.2.1)/\(b0.2.2.2.2.2.2.2.2.2.1=s.2.2.2.2.2.2.2.2.2.2.2.2.1)/\(b0.2.2.2.2.2.2.2.2.2.2=s.2.2.2.2.2.2.2.2.2.2.2.2.2)/\(b0.2.2.1=s.2.2.1))/\e6 s g6)))))))))))/\((decide (b.2.2.2.2.1 < ((a.1:Nat):Int)))=false->(∃g7:(Nat × Nat × (List Value))->VP,((b.2.2.2.1=true->((b.1 + 1) * 56<=140737488355328/\b.1<=b.2.1/\b.2.1 * 8<=b.2.2.1.length/\([I J b.2.2.2.2.2.2.1,I J b.2.2.2.2.2.2.2.1,P b.2.2.2.2.2.2.2.2.1,I J b.2.2.2.2.2.2.2.2.2.1,I J b.2.2.2.2.2.2.2.2.2.2.1,P b.2.2.2.2.2.2.2.2.2.2.2.1,B b.2.2.2.2.2.2.2.2.2.2.2.2.1,B true]:List Value).length=1 * 8/\(∀b4 ∈ ([I J b.2.2.2.2.2.2.1,I J b.2.2.2.2.2.2.2.1,P b.2.2.2.2.2.2.2.2.1,I J b.2.2.2.2.2.2.2.2.2.1,I J b.2.2.2.2.2.2.2.2.2.2.1,P b.2.2.2.2.2.2.2.2.2.2.2.1,B b.2.2.2.2.2.2.2.2.2.2.2.2.1,B true]:List Value),b4.oneCell'=true)/\∀(k8:List Value) (g8:Nat),b.1 + 1<=g8->g8 * 8<=(b.1 + 1) * 8 + k8.length->(∃e9,(((b.1 + 1:Nat)=e9.1)/\((g8:Nat)=e9.2.1)/\((b.2.2.1.take (b.1 * 8)++([I J b.2.2.2.2.2.2.1,I J b.2.2.2.2.2.2.2.1,P b.2.2.2.2.2.2.2.2.1,I J b.2.2.2.2.2.2.2.2.2.1,I J b.2.2.2.2.2.2.2.2.2.2.1,P b.2.2.2.2.2.2.2.2.2.2.2.1,B b.2.2.2.2.2.2.2.2.2.2.2.2.1,B true]:List Value)++k8)=e9.2.2))/\g7 e9 b5)))/\(b.2.2.2.1=false->(∃f0,(((b.1:Nat)=f0.1)/\((b.2.1:Nat)=f0.2.1)/\(b.2.2.1=f0.2.2))/\g7 f0 b5)))/\∀(d4:Nat × Nat × (List Value)) (g9:View),b5.Le g9->g7 d4 g9->(true=true/\(∀i0,g9.Le i0->∀k9:Nat,(d4.2.2≠[]->i0.blk k9 (.cells d4.2.2.toArray 131 (0,0)))->R (S (mA k9 d4.2.1) d4.1 d4.2.1) i0))))))))))))))):
 Acts prog 126 #[A #[S e f g,S i k l],.func (.func m) #[] #[]] V R:=
 fn_does (LF:=LF0) (RF:=[1000010]) (β0:=(fun _=>0)) tab_ok mixed [(4,⟨Nat × Nat × (List Value) × Int × (List Value),false,[3,6,18],[3],fun d=>[(5,.c (.msl 5 d.1 d.2.1)),(19,.c (.v (I J d.2.2.2.1)))],fun d=>[(6,⟨.mrow d.2.2.2.2,179⟩),(5,⟨.mrow d.2.2.1,261⟩)]⟩),(7,⟨Nat × Nat × (List Value) × Int × (List Value),false,[3,6,7,18,19,23,24],[3],fun d=>[(5,.c (.msl 5 d.1 d.2.1)),(25,.c (.v (I J d.2.2.2.1)))],fun d=>[(6,⟨.mrow d.2.2.2.2,179⟩),(5,⟨.mrow d.2.2.1,261⟩)]⟩),(22,⟨Nat × Nat × (List Value) × Bool × Int × (List Value) × Int × Int × (OA) × Int × Int × (OA) × Bool × Bool,false,[5,6,11,13,61,62],[3,5],fun d=>[(12,.c (.msl 12 d.1 d.2.1)),(14,.c (.v (B d.2.2.2.1))),(63,.c (.v (I J d.2.2.2.2.1)))],fun d=>[(6,⟨.mrow d.2.2.2.2.2.1,179⟩),(13,⟨.lit [.v (I J d.2.2.2.2.2.2.1),.v (I J d.2.2.2.2.2.2.2.1),.v (P d.2.2.2.2.2.2.2.2.1),.v (I J d.2.2.2.2.2.2.2.2.2.1),.v (I J d.2.2.2.2.2.2.2.2.2.2.1),.v (P d.2.2.2.2.2.2.2.2.2.2.2.1),.v (B d.2.2.2.2.2.2.2.2.2.2.2.2.1),.v (B d.2.2.2.2.2.2.2.2.2.2.2.2.2)],131⟩),(12,⟨.mrow d.2.2.1,131⟩)]⟩)] [(10,⟨Nat × Nat × (List Value) × (List Value),false,[3,6,7,10,18,19,23,24,25],[3,10],fun d=>[(5,.c (.msl 5 d.1 d.2.1))],fun d=>[(6,⟨.mrow d.2.2.2,179⟩),(5,⟨.mrow d.2.2.1,261⟩)]⟩),(13,⟨Nat × Nat × (List Value),false,[3,6,7,18,19,23,24,25],[3,6],fun d=>[(5,.c (.msl 5 d.1 d.2.1))],fun d=>[(5,⟨.mrow d.2.2,261⟩)]⟩),(600016,⟨(List Value),false,[3,5,6],[3,6],fun d=>[],fun d=>[(5,⟨.mrow d,261⟩)]⟩),(600025,⟨Bool,false,[5,6,11,12,13,14,16,61,62,63],[3,5,6,12,13,16],fun d=>[(91,.c (.v (B d)))],fun d=>[]⟩),(500006,⟨Nat × Nat × (List Value) × Int × Int × (OA) × Int × Int × (OA) × Bool × Bool,false,[5,6,11,13,17,61,62,63],[3,5,6],fun d=>[(12,.c (.msl 12 d.1 d.2.1))],fun d=>[(13,⟨.lit [.v (I J d.2.2.2.1),.v (I J d.2.2.2.2.1),.v (P d.2.2.2.2.2.1),.v (I J d.2.2.2.2.2.2.1),.v (I J d.2.2.2.2.2.2.2.1),.v (P d.2.2.2.2.2.2.2.2.1),.v (B d.2.2.2.2.2.2.2.2.2.1),.v (B d.2.2.2.2.2.2.2.2.2.2)],131⟩),(12,⟨.mrow d.2.2.1,131⟩)]⟩),(35,⟨Nat × Nat × (List Value),false,[],[],fun d=>[(12,.c (.msl 12 d.1 d.2.1))],fun d=>[(12,⟨.mrow d.2.2,131⟩)]⟩)] func126 (by kernel_rfl) [(0,.agg [.v (S e f g),.v (S i k l)]),(1,.c (.clo m []))] [] (by kernel_rfl) trivial h (by kernel_rfl)
end Go.Proofs.Tryz
/- Contracts: the sweep over the ends of two lists of intervals. -/
namespace Go.Proofs.Tryz
open Go.Eng Go.Big
theorem c_sweep_2 {V:View} {ab ob fa:Nat} {x y:Int} {acc:Bool->Bool->Bool} (hw:V.w.heap[ab]?=some (.cells #[.func (.func fa) #[] #[]] 202 (0,0))) (hx:V.X ab)
  (hw':V.w.heap[ob]?=some (.cells #[.int .i64 x,.int .i64 y] 179 (0,0))) (hx':V.X ob) (hne:ab≠ob) (hf:∀a b (W:View),Acts prog fa #[.bool a,.bool b] W fun r _=>r=.bool (acc a b)) :
  Acts prog 177 #[.pointer (some ⟨ab,0,none⟩),.pointer (some ⟨ob,0,none⟩)] V fun r V'=>r=.bool (acc (decide ((0:Int) < x)) (decide ((0:Int) < y))) /\
   V'.w.heap[ab]?=some (.cells #[.func (.func fa) #[] #[]] 202 (0,0))/\V'.w.heap[ob]?=some (.cells #[.int .i64 x,.int .i64 y] 179 (0,0)):=by
 refine vc_geo_sweep_2 ab ob fa x y V _ hw hx hw' hx' hne ⟨by decide,by decide,fun V1 l1=>(hf _ _ V1).mono ?_⟩
 rintro r V2 l2 rfl
 exact ⟨_,rfl,fun V3 l3 h1 h2=>⟨rfl,h1,h2⟩⟩
/-! how many are open -/
def osK (A:List Sp) (k:Nat) (m:Int):List Value:=if k=0 then [.int .i64 m,.int .i64 0] else if k=1 then [.int .i64 (op0 A),.int .i64 m] else []
theorem osK_get {A:List Sp} {k:Nat} {m:Int} (hk:k < 2):(osK A k m)[0 + k * 1]?=some (.int .i64 m):=by
 obtain rfl | rfl:k=0 \/ k=1:=by omega
 ·rfl
 ·rfl
theorem osK_len {A:List Sp} {k:Nat} {m:Int} (hk:k < 2):(osK A k m).length=2:=by
 obtain rfl | rfl:k=0 \/ k=1:=by omega
 ·rfl
 ·rfl
theorem osK_set {A:List Sp} {k:Nat} {m m':Int} (hk:k < 2):(osK A k m).set (0 + k * 1) (.int .i64 m')=osK A k m':=by
 obtain rfl | rfl:k=0 \/ k=1:=by omega
 ·rfl
 ·rfl
theorem op0_app {a b:List Sp}:op0 (a++b)=op0 a + op0 b:=by
 induction a with
 | nil=>simp [op0]
 | cons s r ih=>simp only [List.cons_append,op0,ih]; omega
theorem op0_le:∀{a:List Sp},0<=op0 a/\op0 a<=a.length
 | []=>⟨Int.le_refl _,Int.le_refl _⟩
 | s :: r=>by
  have ⟨h1,h2⟩:=op0_le (a:=r)
  simp only [op0,List.length_cons]
  split <;> omega
theorem chg_one {A B:List Sp} {c:Chg}:c ∈ chgL A B->(c.2.1=0 \/ c.2.1=1)/\(c.2.2=1 \/ c.2.2=-1):=by
 intro h
 have one:∀{k:Int} {s:Sp},c ∈ chg1 k s->c.2.1=k/\(c.2.2=1 \/ c.2.2=-1):=fun {k s} h=>by
  unfold chg1 at h
  rcases List.mem_append.1 h with h | h
  ·split at h
   ·cases h
   ·rw [List.mem_singleton.1 h]; exact ⟨rfl,.inl rfl⟩
  ·split at h
   ·cases h
   ·rw [List.mem_singleton.1 h]; exact ⟨rfl,.inr rfl⟩
 rcases List.mem_append.1 h with h | h
 ·obtain ⟨s,hs,h⟩:=List.mem_flatMap.1 h
  exact ⟨.inl (one h).1,(one h).2⟩
 ·obtain ⟨s,hs,h⟩:=List.mem_flatMap.1 h
  exact ⟨.inr (one h).1,(one h).2⟩
theorem sumA_le {k:Int}:∀{l:List Chg},(∀c ∈ l,c.2.2=1 \/ c.2.2=-1)->-(l.length:Int)<=sumA k l/\sumA k l<=l.length
 | [],_=>⟨Int.le_refl _,Int.le_refl _⟩
 | c :: r,h=>by
  have ⟨h1,h2⟩:=sumA_le (k:=k) (l:=r) fun x hx=>h x (by simp [hx])
  have:=h c (by simp)
  simp only [sumA,List.length_cons]
  split <;> omega
def osT (A B:List Sp) (l:List Chg):List Value:=[.int .i64 (op0 A + sumA 0 l),.int .i64 (op0 B + sumA 1 l)]
def osX (A B:List Sp) (l:List Chg) (k:Int):Int:=if k=0 then op0 A + sumA 0 l else op0 B + sumA 1 l
theorem osT_get {A B:List Sp} {l:List Chg} {k:Int} (hk:k=0 \/ k=1):(osT A B l)[0 + k.toNat * 1]?=some (.int .i64 (osX A B l k)):=by
 rcases hk with rfl | rfl <;> rfl
theorem osT_set {A B:List Sp} {l:List Chg} {c:Chg} (hk:c.2.1=0 \/ c.2.1=1):(osT A B l).set (0 + c.2.1.toNat * 1) (.int .i64 (osX A B l c.2.1 + c.2.2))=osT A B (l++[c]):=by
 unfold osT osX
 rw [sumA_app,sumA_app]
 simp only [sumA]
 rcases hk with h | h <;> rw [h]
 ·simp [Int.add_assoc]
 ·simp [Int.add_assoc]
/-- The row of changes as it grows. -/
structure CR (V:View) (n c:Nat) (vs:List Value) (l:List Chg):Prop where
 len:n=l.length
 le:n<=c
 cap:c * 5<=vs.length
 row:Row 5 RC V vs l
 ne:vs≠[]->l≠[]
theorem CR.mono {V V':View} {n c:Nat} {vs:List Value} {l:List Chg} (h:CR V n c vs l) (e:V.Le V'):CR V' n c vs l:=⟨h.len,h.le,h.cap,h.row.le fun _ _ g=>RC.le g e,h.ne⟩
theorem CR.snoc {V:View} {n c:Nat} {vs:List Value} {l:List Chg} (h:CR V n c vs l) {x y:Int} {p:OA} {q:Rat} (hr:RR V (.agg #[.int .i64 x,.int .i64 y,.pointer p]) q) (hs:Sz 10000 q) (k d:Int) {sp:List Value} {c':Nat} (h1:n + 1<=c') (h2:c' * 5<=(n + 1) * 5 + sp.length) :
  CR V (n + 1) c' (vs.take (n * 5)++([.int .i64 x,.int .i64 y,.pointer p,.int .i64 k,.int .i64 d]:List Value)++sp) (l++[(q,k,d)]):=by
 have hn:=h.len
 have hc:=h.cap
 have hl:=h.le
 refine ⟨by rw [List.length_append,hn]; rfl,h1,?_,?_,fun _=>by simp⟩
 ·have ht:(vs.take (n * 5)).length=n * 5:=by rw [List.length_take]; omega
  rw [List.length_append,List.length_append,ht]
  simp only [List.length_cons,List.length_nil]
  omega
 ·have:=h.row.snoc (sp:=sp) (xs:=[.int .i64 x,.int .i64 y,.pointer p,.int .i64 k,.int .i64 d]) (a:=(q,k,d)) rfl ⟨x,y,p,rfl,hr,hs⟩ (by decide)
  rw [← hn] at this
  exact this
/-- The row of intervals as it grows. -/
structure IR (V:View) (n c:Nat) (vs:List Value) (l:List Sp):Prop where
 len:n=l.length
 le:n<=c
 cap:c * 8<=vs.length
 row:Row 8 RIv V vs l
theorem IR.mono {V V':View} {n c:Nat} {vs:List Value} {l:List Sp} (h:IR V n c vs l) (e:V.Le V'):IR V' n c vs l:=⟨h.len,h.le,h.cap,h.row.le fun _ _ g=>RIv.le g e⟩
theorem IR.nil {V:View}:IR V 0 0 [] []:=⟨rfl,Nat.le_refl _,Nat.le_refl _,Row.nil⟩
theorem IR.snoc {V:View} {n c:Nat} {vs:List Value} {l:List Sp} (h:IR V n c vs l) {x1 x2:Int} {p:OA} {y1 y2:Int} {q:OA} {s:Sp} (hr:RR V (.agg #[.int .i64 x1,.int .i64 x2,.pointer p]) s.lo) (hr':RR V (.agg #[.int .i64 y1,.int .i64 y2,.pointer q]) s.hi) {sp:List Value} {c':Nat} (h1:n + 1<=c') (h2:c' * 8<=(n + 1) * 8 + sp.length) :
  IR V (n + 1) c' (vs.take (n * 8)++([.int .i64 x1,.int .i64 x2,.pointer p,.int .i64 y1,.int .i64 y2,.pointer q,.bool s.a,.bool s.b]:List Value)++sp) (l++[s]):=by
 have hn:=h.len
 have hc:=h.cap
 have hl:=h.le
 refine ⟨by rw [List.length_append,hn]; rfl,h1,?_,?_⟩
 ·have ht:(vs.take (n * 8)).length=n * 8:=by rw [List.length_take]; omega
  rw [List.length_append,List.length_append,ht]
  simp only [List.length_cons,List.length_nil]
  omega
 ·have:=h.row.snoc (sp:=sp) (xs:=[.int .i64 x1,.int .i64 x2,.pointer p,.int .i64 y1,.int .i64 y2,.pointer q,.bool s.a,.bool s.b]) (a:=s) rfl ⟨_,_,_,_,_,_,rfl,hr,hr'⟩ (by decide)
  rw [← hn] at this
  exact this
theorem one5 {x y:Int} {p:OA} {a b:Int}:∀v ∈ ([.int .i64 x,.int .i64 y,.pointer p,.int .i64 a,.int .i64 b]:List Value),v.oneCell'=true:=by
 intro v hm
 simp only [List.mem_cons,List.not_mem_nil,or_false] at hm
 rcases hm with rfl | rfl | rfl | rfl | rfl <;> rfl
theorem one8 {x1 x2:Int} {p:OA} {y1 y2:Int} {q:OA} {a b:Bool}:∀v ∈ ([.int .i64 x1,.int .i64 x2,.pointer p,.int .i64 y1,.int .i64 y2,.pointer q,.bool a,.bool b]:List Value),v.oneCell'=true:=by
 intro v hm
 simp only [List.mem_cons,List.not_mem_nil,or_false] at hm
 rcases hm with rfl | rfl | rfl | rfl | rfl | rfl | rfl | rfl <;> rfl
/-! the changes list by list -/
def LK (A B:List Sp) (k:Nat):List Sp:=if k=0 then A else B
def bsK (A B:List Sp) (k:Nat):List Chg:=if k=0 then [] else if k=1 then A.flatMap (chg1 0) else chgL A B
def osA (A B:List Sp) (k:Nat):List Value:=if k=2 then osT A B [] else osK A k 0
theorem bsK_next {A B:List Sp} {k:Nat} (hk:k < 2):bsK A B k++(LK A B k).flatMap (chg1 k)=bsK A B (k + 1):=by
 obtain rfl | rfl:k=0 \/ k=1:=by omega
 ·rfl
 ·rfl
theorem osA_next {A B:List Sp} {k:Nat} (hk:k < 2):osK A k (op0 (LK A B k))=osA A B (k + 1):=by
 obtain rfl | rfl:k=0 \/ k=1:=by omega
 ·rfl
 ·simp [osK,osA,osT,LK,sumA]
end Go.Proofs.Tryz
/- Contract: the sweep makes the regular set of its operator. -/
namespace Go.Proofs.Tryz
open Go.Eng Go.Big
theorem mA_pos {b c:Nat} (h:0 < c):mA b c=some ⟨b,0,none⟩:=by unfold mA; rw [if_neg (by omega)]
theorem flat_take {f:Sp->List Chg} {l:List Sp} {j:Nat} (h:j < l.length):(l.take (j + 1)).flatMap f=(l.take j).flatMap f++f l[j]:=by
 rw [List.take_add_one,List.getElem?_eq_getElem h,List.flatMap_append]
 simp
theorem op0_take {l:List Sp} {j:Nat} (h:j < l.length):op0 (l.take (j + 1))=op0 (l.take j) + if l[j].a then 1 else 0:=by
 rw [List.take_add_one,List.getElem?_eq_getElem h,op0_app]
 simp [op0]
theorem bsK_len {A B:List Sp} {k j:Nat} (hk:k < 2):(bsK A B k++((LK A B k).take j).flatMap (chg1 k)).length<=fe A + fe B:=by
 have h1:((LK A B k).flatMap (chg1 k)).length=(((LK A B k).take j).flatMap (chg1 k)).length + (((LK A B k).drop j).flatMap (chg1 k)).length:=by
  conv=>lhs; rw [← List.take_append_drop j (LK A B k),List.flatMap_append]
  rw [List.length_append]
 have h2:=congrArg List.length (bsK_next (A:=A) (B:=B) hk)
 rw [List.length_append] at h2
 have h3:(bsK A B (k + 1)).length<=(chgL A B).length:=by
  obtain rfl | rfl:k=0 \/ k=1:=by omega
  ·unfold chgL; rw [List.length_append]; exact Nat.le_add_right _ _
  ·exact Nat.le_refl _
 rw [chg_len] at h3
 rw [List.length_append]
 omega
theorem sw_endG {acc:Bool->Bool->Bool} {A B:List Sp} {cs:List Chg} {was:Bool} {last:Sp} {out:List Sp} (h:SwI acc A B cs cs.length was last out) {op:Int} (ha:∀t,acc (inB A t) (inB B t)=opB op (inB A t) (inB B t)):swR was last out=combL op A B:=by
 refine reg_eq (endsL (A++B)) h.rg (comb_reg _ _ _) fun t ht=>?_
 rw [comb_inB _ _ _ ht,h.inn t (fun s hs he=>ht (ends_iff.2 ⟨s,hs,he⟩)) fun h=>absurd h (Nat.lt_irrefl _)]
 exact ha t
theorem c_sweepG {V:View} {p0 p1:OA} {n0 c0 n1 c1 fa:Nat} {A B:List Sp} {op:Int} {acc:Bool->Bool->Bool} (hacc:∀t,acc (inB A t) (inB B t)=opB op (inB A t) (inB B t)) (hA:Lst 8 RIv V p0 n0 A) (hB:Lst 8 RIv V p1 n1 B) (gA:∀s ∈ A,s.good) (gB:∀s ∈ B,s.good) (sA:∀s ∈ A,s.sz 10000) (sB:∀s ∈ B,s.sz 10000)
  (nA:A.length<=1000) (nB:B.length<=1000) (few:fe A + fe B < 50) (hf:∀a b (W:View),Acts prog fa #[.bool a,.bool b] W fun r _=>r=.bool (acc a b)) :
  Acts prog 126 #[.agg #[.slice p0 n0 c0,.slice p1 n1 c1],.func (.func fa) #[] #[]] V fun r V'=>∃q m e,r=.slice q m e/\Lst 8 RIv V' q m (combL op A B):=by
 obtain rfl:=hA.len
 obtain rfl:=hB.len
 refine vc_geo_sweep p0 _ c0 p1 _ c1 fa V _ ⟨fun z V'=>∃k:Nat,z.2.2.2.1=(k:Int)/\k<=2/\CR V' z.1 z.2.1 z.2.2.1 (bsK A B k)/\z.2.2.2.2=osA A B k,fun z=>2 - z.2.2.2.1.toNat,
  ⟨(0,0,[],0,[.int .i64 0,.int .i64 0]),by and_intros <;> rfl,0,rfl,by decide,⟨rfl,Nat.le_refl _,Nat.le_refl _,Row.nil,fun h=>absurd rfl h⟩,rfl⟩,?_⟩
 rintro ⟨z1,z2,vs,z4,os⟩ V1 l1 ⟨k,e4,kle,hc,eo⟩
 dsimp only at e4 hc eo
 subst e4 eo
 dsimp only
 refine ⟨rfl,fun hlt=>?_,fun hlt=>?_⟩
 ·have hlt:(k:Int) < 2:=of_decide_eq_true hlt
  have hk:k < 2:=by omega
  have w1:i64.wrap ((k:Int) + 1)=((k + 1:Nat):Int):=by rw [i64w (by omega)]; rfl
  rw [w1,Int.toNat_natCast]
  obtain ⟨p,n,c,el,hL⟩:∃p n c,([(p0,A.length,c0),(p1,B.length,c1)]:List (OA × Nat × Nat)).getD k (none,0,0)=(p,n,c)/\Lst 8 RIv V p n (LK A B k):=by
   obtain rfl | rfl:k=0 \/ k=1:=by omega
   ·exact ⟨_,_,_,rfl,hA⟩
   ·exact ⟨_,_,_,rfl,hB⟩
  rw [el]
  dsimp only
  have hL2:(∀s ∈ LK A B k,s.sz 10000)/\(LK A B k).length<=1000:=by
   obtain rfl | rfl:k=0 \/ k=1:=by omega
   ·exact ⟨sA,nA⟩
   ·exact ⟨sB,nB⟩
  obtain ⟨sL,nL⟩:=hL2
  obtain rfl:=hL.len
  refine ⟨⟨by omega,by omega⟩,fun z V'=>∃j:Nat,z.2.2.2.1=(j:Int)/\j<=(LK A B k).length/\CR V' z.1 z.2.1 z.2.2.1 (bsK A B k++((LK A B k).take j).flatMap (chg1 k))/\z.2.2.2.2=osK A k (op0 ((LK A B k).take j)),fun z=>(LK A B k).length - z.2.2.2.1.toNat,
   ⟨(z1,z2,vs,0,osA A B k),by and_intros <;> rfl,0,rfl,Nat.zero_le _,by simpa using hc,by rw [List.take_zero]; unfold osA; rw [if_neg (by omega)]; rfl⟩,?_⟩
  rintro ⟨w1,w2,us,w4,os⟩ V2 l2 ⟨j,e4,jle,hc2,eo⟩
  dsimp only at e4 hc2 eo
  subst e4 eo
  dsimp only
  refine ⟨rfl,fun hj=>?_,fun hj=>?_⟩
  ·have hj:(j:Int) < (LK A B k).length:=of_decide_eq_true hj
   have hjl:j < (LK A B k).length:=by omega
   have w3:i64.wrap ((j:Int) + 1)=((j + 1:Nat):Int):=by rw [i64w (by omega)]; rfl
   rw [Int.toNat_natCast,w3]
   obtain ⟨ad,ha,xs,-,hv,hat⟩:=(hL.le (l1.trans l2) fun _ _ g=>RIv.le g (l1.trans l2)).at_ j hjl
   obtain ⟨x1,x2,q,y1,y2,q',ex,r1,r2⟩:=hv
   have ex:=congrArg Array.toList (Value.agg.inj ex)
   dsimp only at ex
   subst ex
   have hs:=sL _ (List.getElem_mem hjl)
   have ft:=flat_take (f:=chg1 (k:Int)) hjl
   have ot:=op0_take hjl
   have ob:=op0_le (a:=(LK A B k).take j)
   rw [List.length_take] at ob
   have cn:=hc2.len
   have bl:=bsK_len (A:=A) (B:=B) (j:=j) hk
   rw [← cn] at bl
   have c1:chg1 (k:Int) (LK A B k)[j]=(if (LK A B k)[j].a then [] else [((LK A B k)[j].lo,(k:Int),1)])++(if (LK A B k)[j].b then [] else [((LK A B k)[j].hi,(k:Int),-1)]):=rfl
   rw [c1] at ft
   generalize (LK A B k)[j]=s at *
   refine ⟨isSome_addr ha,⟨by omega,by omega⟩,_,_,_,_,_,_,_,_,ad,ha,hat 0 _ rfl,hat 1 _ rfl,hat 2 _ rfl,hat 3 _ rfl,hat 4 _ rfl,hat 5 _ rfl,hat 6 _ rfl,hat 7 _ rfl,
    fun z V'=>CR V' z.1 z.2.1 z.2.2.1 (bsK A B k++((LK A B k).take j).flatMap (chg1 k)++(if s.a then [] else [(s.lo,(k:Int),1)]))/\z.2.2.2=osK A k (op0 ((LK A B k).take (j + 1))),⟨fun hb=>?_,fun hb=>?_⟩,?_⟩
   ·rw [hb,if_pos rfl] at ot
    rw [hb,if_pos rfl,List.append_nil]
    refine ⟨⟨by omega,by omega⟩,_,osK_get hk,⟨by omega,by omega⟩,by rw [osK_len hk]; omega,(w1,w2,us,osK A k (op0 ((LK A B k).take (j + 1)))),?_,hc2,rfl⟩
    have e:(osK A k (op0 ((LK A B k).take j))).set (0 + k * 1) (.int .i64 (i64.wrap (op0 ((LK A B k).take j) + 1)))=osK A k (op0 ((LK A B k).take (j + 1))):=by rw [osK_set hk,i64w (by omega),ot]
    and_intros <;> first | rfl | exact e
   ·rw [hb,if_neg (by decide),Int.add_zero] at ot
    rw [hb,if_neg (by decide)]
    refine ⟨by omega,hc2.le,hc2.cap,rfl,one5,fun sp c' h1 h2=>⟨(w1 + 1,c',_,osK A k (op0 ((LK A B k).take j))),by and_intros <;> rfl,hc2.snoc r1 hs.1 _ _ h1 h2,by dsimp only; rw [ot]⟩⟩
   ·rintro ⟨k1,k2,ks,os⟩ V3 l3 ⟨hc3,eo⟩
    dsimp only at hc3 eo
    subst eo
    dsimp only
    have cn3:=hc3.len
    have bl3:k1<=w1 + 1:=by rw [cn3,cn,List.length_append]; split <;> simp
    refine ⟨rfl,fun z V'=>CR V' z.1 z.2.1 z.2.2 (bsK A B k++((LK A B k).take (j + 1)).flatMap (chg1 k)),⟨fun hb=>?_,fun hb=>?_⟩,?_⟩
    ·have hb:s.b=false:=by simpa using hb
     simp only [hb,Bool.false_eq_true,if_false] at ft
     rw [ft,← List.append_assoc,← List.append_assoc]
     refine ⟨by omega,hc3.le,hc3.cap,rfl,one5,fun sp c' h1 h2=>⟨(k1 + 1,c',_),by and_intros <;> rfl,hc3.snoc (r2.le l3) hs.2 _ _ h1 h2⟩⟩
    ·have hb:s.b=true:=by simpa using hb
     simp only [hb,if_true,List.append_nil] at ft
     rw [ft,← List.append_assoc]
     exact ⟨(k1,k2,ks),by and_intros <;> rfl,hc3⟩
    ·rintro ⟨m1,m2,ms⟩ V4 l4 hc4
     dsimp only at hc4
     exact ⟨rfl,(m1,m2,ms,((j + 1:Nat):Int),_),by dsimp only; omega,by and_intros <;> rfl,j + 1,rfl,by omega,hc4,rfl⟩
  ·have hj:¬ (j:Int) < (LK A B k).length:=of_decide_eq_false hj
   obtain rfl:j=(LK A B k).length:=by omega
   rw [List.take_length] at *
   refine ⟨(w1,w2,us,((k + 1:Nat):Int),osK A k (op0 (LK A B k))),by dsimp only; omega,by and_intros <;> rfl,k + 1,rfl,by omega,?_,osA_next hk⟩
   rw [← bsK_next hk]
   exact hc2
 have hlt:¬ (k:Int) < 2:=of_decide_eq_false hlt
 obtain rfl:k=2:=by omega
 have hc:CR V1 z1 z2 vs (chgL A B):=hc
 have cl:(chgL A B).length < 50:=by rw [chg_len]; exact few
 have z1l:=hc.len
 have z1c:=hc.le
 rw [show osA A B 2=osT A B [] from rfl]
 have ne0:∀l:List Chg,osT A B l≠[]:=fun l h=>by cases h
 refine ⟨fun z V'=>∃cs:List Chg,SR V' z1 z cs/\cs.Perm (chgL A B)/\cs.Pairwise (fun x y=>x.1<=y.1),⟨fun h0=>?_,fun h0 V7 l7 bk e7 h7=>?_⟩,?_⟩
 ·subst h0
  have h1:=hc.cap
  rw [List.length_nil] at h1
  obtain rfl:z2=0:=by omega
  obtain rfl:z1=0:=by omega
  have hnil:chgL A B=[]:=List.eq_nil_of_length_eq_zero (by omega)
  exact ⟨rfl,fun V5 l5=>c_SortFunc_nil.mono fun r V6 l6 hr=>⟨hr,[],by and_intros <;> rfl,[],⟨Row.nil,rfl,by simp⟩,by rw [hnil],List.Pairwise.nil⟩⟩
 ·have hl0:0 < (chgL A B).length:=List.length_pos_iff.2 (hc.ne h0)
  rw [vb_ne h0,mA_pos (show 0 < z2 by omega)]
  refine (c_SortFunc (V:=V7.lend [bk]) (e7 h0) ⟨by simp,h7 h0⟩ (l:=chgL A B) ⟨hc.row.le fun _ _ g=>RC.le g fun b o h=>l7 b o h,z1l,cl⟩).mono ?_
  rintro r V8 l8 ⟨rfl,vs',cs,e8,hs8,hp,hsd⟩
  refine ⟨rfl,h0,vs',fun e=>?_,e8,vs',by and_intros <;> rfl,cs,hs8.le (le_shut' _),hp,hsd⟩
  have h1:=hs8.row.len_le (by decide)
  rw [e,hp.length_eq,List.length_nil] at h1
  omega
 rintro cvs V9 l9 ⟨cs,hsr,hp,hsd⟩
 have zl:=hsr.len
 have gA':=fun c (h:c ∈ cs)=>chg_one (hp.mem_iff.1 h)
 refine ⟨rfl,fun V10 l10 ab ob ea ha eo ho hne=>?_⟩
 rw [vb_ne (ne0 [])]
 refine (c_sweep_2 (V:=V10.lend [ab,ob]) (x:=op0 A + sumA 0 []) (y:=op0 B + sumA 1 []) (acc:=acc) ea ⟨by simp,ha⟩ (eo (ne0 _)) ⟨by simp,ho (ne0 _)⟩ (hne (ne0 _)) hf).mono ?_
 rintro r V11 l11 ⟨rfl,e1,e2⟩
 refine ⟨_,rfl,e1,ne0 _,osT A B [],ne0 _,e2,fun z V'=>∃(i:Nat) (last:Sp) (out:List Sp),z.2.2.2.2.1=(i:Int)/\i<=cs.length/\out.length<=i/\SwI acc A B cs i z.2.2.2.1 last out/\z.2.2.2.2.2.1=osT A B (cs.take i)/\IR V' z.1 z.2.1 z.2.2.1 out /\
   RR V' (.agg #[.int .i64 z.2.2.2.2.2.2.1,.int .i64 z.2.2.2.2.2.2.2.1,.pointer z.2.2.2.2.2.2.2.2.1]) last.lo/\RR V' (.agg #[.int .i64 z.2.2.2.2.2.2.2.2.2.1,.int .i64 z.2.2.2.2.2.2.2.2.2.2.1,.pointer z.2.2.2.2.2.2.2.2.2.2.2.1]) last.hi/\last.a=z.2.2.2.2.2.2.2.2.2.2.2.2.1/\last.b=z.2.2.2.2.2.2.2.2.2.2.2.2.2,
  fun z=>cs.length - z.2.2.2.2.1.toNat,⟨(0,0,[],_,0,osT A B [],0,0,none,0,0,none,true,false),by and_intros <;> rfl,0,⟨0,0,true,false⟩,[],rfl,Nat.zero_le _,Nat.zero_le _,sw_start (acc:=acc) (by show acc (decide ((0:Int) < op0 A + 0)) (decide ((0:Int) < op0 B + 0))=_; rw [Int.add_zero,Int.add_zero]) hp gA gB hsd,rfl,IR.nil,RR.zero _,RR.zero _,rfl,rfl⟩,?_⟩
 rintro ⟨m1,m2,us,was,iz,ov,x1,x2,p,y1,y2,q,la,lb⟩ V12 l12 ⟨i,last,out,e5,ile,oi,hI,eo',hir,r1,r2,f1,f2⟩
 dsimp only at e5 hI eo' hir r1 r2 f1 f2
 subst e5 eo' f1 f2
 dsimp only
 have ml:=hir.len
 refine ⟨rfl,fun hi=>?_,fun hi=>?_⟩
 ·have hi:(i:Int) < z1:=of_decide_eq_true hi
  have hil:i < cs.length:=by omega
  have sr12:SR V12 z1 cvs cs:=hsr.le fun b o h=>l12 b o (l11 b o (l10 b o h))
  have gd:∀j (h:j < cs.length),cs.getD j dC=cs[j]:=fun j h=>by rw [List.getD_eq_getElem?_getD,List.getElem?_eq_getElem h]; rfl
  obtain ⟨x,y,pp,a,b,g,x',y',p',ev,hr,hsz⟩:=sr12.get hil
  rw [gd i hil] at ev hr hsz
  rw [Nat.zero_add] at g
  have ev:=congrArg Array.toList (Value.agg.inj ev)
  simp only [List.cons.injEq,Value.int.injEq,Value.pointer.injEq,true_and,and_true] at ev
  obtain ⟨rfl,rfl,rfl,rfl,rfl⟩:=ev
  obtain ⟨ck,cd⟩:=gA' _ (List.getElem_mem hil)
  have w1:i64.wrap ((i:Int) + 1)=((i + 1:Nat):Int):=by rw [i64w (by omega)]; rfl
  have tk:cs.take (i + 1)=cs.take i++[cs[i]]:=by rw [List.take_add_one,List.getElem?_eq_getElem hil]; rfl
  have hset:(osT A B (cs.take i)).set (0 + cs[i].2.1.toNat * 1) (.int .i64 (i64.wrap (osX A B (cs.take i) cs[i].2.1 + cs[i].2.2)))=osT A B (cs.take (i + 1)):=by
   have b1:=op0_le (a:=A)
   have b2:=op0_le (a:=B)
   have b3:=sumA_le (k:=0) (l:=cs.take i) fun c hc=>(gA' c (List.mem_of_mem_take hc)).2
   have b4:=sumA_le (k:=1) (l:=cs.take i) fun c hc=>(gA' c (List.mem_of_mem_take hc)).2
   rw [List.length_take] at b3 b4
   have b5:-3000<=osX A B (cs.take i) cs[i].2.1/\osX A B (cs.take i) cs[i].2.1<=3000:=by unfold osX; split <;> omega
   rw [i64w (by omega),osT_set ck,tk]
  rw [w1,Int.toNat_natCast,Int.toNat_natCast]
  refine ⟨⟨by omega,by omega⟩,by omega,x,y,pp,_,_,g,⟨by omega,by omega⟩,_,osT_get ck,⟨by omega,by omega⟩,by rw [show (osT A B (cs.take i)).length=2 from rfl]; omega,?_⟩
  rw [hset]
  refine ⟨fun t V'=>(t=true->∃h:i + 1 < cs.length,cs[i].1=cs[i + 1].1)/\(t=false->∀h:i + 1 < cs.length,cs[i].1 < cs[i + 1].1),⟨fun h1=>?_,fun h1=>?_⟩,?_⟩
  ·have h1:((i + 1:Nat):Int) < z1:=of_decide_eq_true h1
   have h1l:i + 1 < cs.length:=by omega
   obtain ⟨u,w,pw,a',b',g',x',y',p',ev',hr',hsz'⟩:=sr12.get h1l
   rw [gd _ h1l] at hr' hsz'
   rw [Nat.zero_add] at g'
   have ev':=congrArg Array.toList (Value.agg.inj ev')
   simp only [List.cons.injEq,Value.int.injEq,Value.pointer.injEq,true_and] at ev'
   obtain ⟨rfl,rfl,rfl,-⟩:=ev'
   refine ⟨⟨by omega,by omega⟩,by omega,u,w,pw,⟨by omega,?_⟩,fun V13 l13=>(c_R_Equal (hr'.le l13) (hr.le l13) hsz' hsz (by decide)).mono ?_⟩
   ·have:∀l:List Value,l.take 3=(l.take 5).take 3:=fun l=>by rw [List.take_take]; rfl
    rw [this,Nat.add_zero,g'.2]; rfl
   ·rintro r V14 l14 rfl
    refine ⟨_,rfl,_,by and_intros <;> rfl,fun h=>⟨h1l,Eq.symm (of_decide_eq_true h)⟩,fun h _=>?_⟩
    have h:=of_decide_eq_false h
    have:=List.pairwise_iff_getElem.1 hsd i (i + 1) hil h1l (by omega)
    grind
  ·have h1:¬ ((i + 1:Nat):Int) < z1:=of_decide_eq_false h1
   exact ⟨false,by and_intros <;> rfl,(fun h=>nomatch h),fun _ h=>absurd h (by omega)⟩
  rintro t V15 l15 ⟨ht,hf'⟩
  refine ⟨rfl,fun e=>?_,fun e V16 l16 ab' ob' ea ha eo ho hne'=>?_⟩
  ·obtain ⟨h1,h2⟩:=ht e
   exact ⟨(m1,m2,us,was,((i + 1:Nat):Int),osT A B (cs.take (i + 1)),x1,x2,p,y1,y2,q,last.a,last.b),by dsimp only; omega,by and_intros <;> rfl,i + 1,last,out,rfl,by omega,by omega,sw_skip hI h1 h2,rfl,hir.mono l15,r1.le l15,r2.le l15,rfl,rfl⟩
  rw [vb_ne (ne0 _)]
  refine (c_sweep_2 (V:=V16.lend [ab',ob']) (x:=op0 A + sumA 0 (cs.take (i + 1))) (y:=op0 B + sumA 1 (cs.take (i + 1))) (acc:=acc) ea ⟨by simp,ha⟩ (eo (ne0 _)) ⟨by simp,ho (ne0 _)⟩ (hne' (ne0 _)) hf).mono ?_
  rintro r V17 l17 ⟨rfl,e1',e2'⟩
  have st:=sw_step hI hil (hf' e) hp gA gB hsd rfl
  generalize acc (decide ((0:Int) < op0 A + sumA 0 (cs.take (i + 1)))) (decide ((0:Int) < op0 B + sumA 1 (cs.take (i + 1))))=now at st ⊢
  have L:V12.Le V17.shut:=fun b o h=>l17 b o (l16 b o (l15 b o h))
  have same:now=was->IR V17.shut m1 m2 us (swOut was now last cs[i].1 out)/\RR V17.shut (.agg #[.int .i64 x1,.int .i64 x2,.pointer p]) (swLast was now last cs[i].1).lo/\RR V17.shut (.agg #[.int .i64 y1,.int .i64 y2,.pointer q]) (swLast was now last cs[i].1).hi /\
    last.a=(swLast was now last cs[i].1).a/\last.b=(swLast was now last cs[i].1).b:=fun h=>by
   subst h
   unfold swOut swLast
   cases now <;> exact ⟨hir.mono L,r1.le L,r2.le L,rfl,rfl⟩
  refine ⟨_,rfl,e1',ne0 _,osT A B (cs.take (i + 1)),ne0 _,e2',fun z V'=>IR V' z.1 z.2.1 z.2.2.1 (swOut was now last cs[i].1 out)/\RR V' (.agg #[.int .i64 z.2.2.2.1,.int .i64 z.2.2.2.2.1,.pointer z.2.2.2.2.2.1]) (swLast was now last cs[i].1).lo /\
   RR V' (.agg #[.int .i64 z.2.2.2.2.2.2.1,.int .i64 z.2.2.2.2.2.2.2.1,.pointer z.2.2.2.2.2.2.2.2.1]) (swLast was now last cs[i].1).hi/\z.2.2.2.2.2.2.2.2.2.1=(swLast was now last cs[i].1).a/\z.2.2.2.2.2.2.2.2.2.2=(swLast was now last cs[i].1).b,
   ⟨fun hn=>⟨fun hw=>?_,fun hw=>⟨fun hw'=>⟨fun hn'=>?_,fun _=>?_⟩,fun hw'=>?_⟩⟩,fun hn=>⟨fun hw=>⟨fun hn'=>?_,fun hn'=>?_⟩,fun hw=>?_⟩⟩,?_⟩
  ·have hw:was=false:=by simpa using hw
   subst hn hw
   exact ⟨(m1,m2,us,x,y,pp,0,0,none,false,false),by and_intros <;> rfl,hir.mono L,hr.le L,RR.zero _,rfl,rfl⟩
  ·rw [hn] at hn'; cases hn'
  ·exact ⟨(m1,m2,us,x1,x2,p,y1,y2,q,last.a,last.b),by and_intros <;> rfl,same (hn.trans hw'.symm)⟩
  ·rw [hw'] at hw; cases hw
  ·subst hn hw
   exact ⟨by omega,hir.le,hir.cap,rfl,one8,fun sp c' h1 h2=>⟨(m1 + 1,c',_,x1,x2,p,x,y,pp,last.a,last.b),by and_intros <;> rfl,(hir.mono L).snoc (s:=⟨last.lo,cs[i].1,last.a,last.b⟩) (r1.le L) (hr.le L) h1 h2,r1.le L,hr.le L,rfl,rfl⟩⟩
  ·rw [hn] at hn'; cases hn'
  ·exact ⟨(m1,m2,us,x1,x2,p,y1,y2,q,last.a,last.b),by and_intros <;> rfl,same (hn.trans hw.symm)⟩
  ·rintro ⟨k1,k2,ks,u1,u2,pu,t1,t2,pt,ua,ub⟩ V18 l18 ⟨hir',r1',r2',g1,g2⟩
   dsimp only at hir' r1' r2' g1 g2
   subst g1 g2
   dsimp only
   have ol:(swOut was now last cs[i].1 out).length<=i + 1:=by
    unfold swOut
    split
    ·rw [List.length_append]; simp; omega
    ·omega
   exact ⟨rfl,(k1,k2,ks,now,((i + 1:Nat):Int),osT A B (cs.take (i + 1)),u1,u2,pu,t1,t2,pt,_,_),by dsimp only; omega,by and_intros <;> rfl,i + 1,_,_,rfl,by omega,ol,st,rfl,hir',r1',r2',rfl,rfl⟩
 ·have hi:¬ (i:Int) < z1:=of_decide_eq_false hi
  obtain rfl:i=cs.length:=by omega
  have fin:=sw_endG hI hacc
  refine ⟨fun z V'=>IR V' z.1 z.2.1 z.2.2 (combL op A B),⟨fun hw=>?_,fun hw=>?_⟩,?_⟩
  ·subst hw
   refine ⟨by omega,hir.le,hir.cap,rfl,one8,fun sp c' h1 h2=>⟨(m1 + 1,c',_),by and_intros <;> rfl,?_⟩⟩
   rw [← fin]
   have:=hI.fr rfl
   rw [this.1] at r2
   exact hir.snoc (s:=endOf last) r1 r2 h1 h2
  ·subst hw
   refine ⟨(m1,m2,us),by and_intros <;> rfl,?_⟩
   rw [← fin]
   simpa [swR] using hir
  ·rintro ⟨k1,k2,ks⟩ V19 l19 h
   dsimp only at h
   obtain rfl:=h.len
   exact ⟨rfl,fun V20 l20 bk hb=>⟨_,_,_,rfl,Lst.of_mrow hb (h.row.le fun _ _ g=>RIv.le g l20) (by decide) h.le⟩⟩
theorem c_sweep {V:View} {p0 p1:OA} {n0 c0 n1 c1 fa:Nat} {A B:List Sp} {op:Int} (hA:Lst 8 RIv V p0 n0 A) (hB:Lst 8 RIv V p1 n1 B) (gA:∀s ∈ A,s.good) (gB:∀s ∈ B,s.good) (sA:∀s ∈ A,s.sz 10000) (sB:∀s ∈ B,s.sz 10000)
  (nA:A.length<=1000) (nB:B.length<=1000) (few:fe A + fe B < 50) (hf:∀a b (W:View),Acts prog fa #[.bool a,.bool b] W fun r _=>r=.bool (opB op a b)) :
  Acts prog 126 #[.agg #[.slice p0 n0 c0,.slice p1 n1 c1],.func (.func fa) #[] #[]] V fun r V'=>∃q m e,r=.slice q m e/\Lst 8 RIv V' q m (combL op A B):=
 c_sweepG (acc:=opB op) (fun _=>rfl) hA hB gA gB sA sB nA nB few hf
end Go.Proofs.Tryz
/- By program: the conditions of the functions, from their loaded code. -/
namespace Go.Proofs.Tryz
open Go.Eng
open Go.Value renaming int→I,pointer→P,slice→S,agg→A,bool→B,tuple→T
open Go.IntKind renaming i64→J,u64→U,u32→W
set_option maxRecDepth 100000
theorem vc_geo_IvsOf (g:OA) (d t:Nat) (V:View) (R:VR) (h:(((decide ((d:Int) > (4096:Int)))=true->(Rt V R (T #[S none 0 0,B false])))/\((decide ((d:Int) > (4096:Int)))=false->(∃(u:(Nat × Nat × (List Value) × Int)->VP) (a0:(Nat × Nat × (List Value) × Int)->Nat),(∃i,(s5 g d t (d:Int) (none:OA) (((0:Nat)=i.1)/\((0:Nat)=i.2.1)/\sm 0/\((0:Int)=i.2.2.2)/\(i.2.2.1=[])))/\u i V)/\∀(a:Nat × Nat × (List Value) × Int) (b:View),V.Le b->u a b->(true=true/\(((decide (a.2.2.2 < (d:Int)))=true->(g.isSome=true)/\(0<=a.2.2.2/\a.2.2.2 < (d:Int))/\(∃a1,∃a2 a3 a4,∃a5 a6 a7,∃a8,∃a9 b0 b1,∃b2 b3 b4,∃b5,∃b6,∃e,addrAdd g (a.2.2.2.toNat * 8)=some e/\b.at (e.add 0) (B a1)/\b.at (e.add 1) (S a2 a3 a4)/\b.at (e.add 2) (S a5 a6 a7)/\b.at (e.add 3) (B a8)/\b.at (e.add 4) (S a9 b0 b1)/\b.at (e.add 5) (S b2 b3 b4)/\b.at (e.add 6) (B b5)/\b.at (e.add 7) (B b6)/\(Ca b 104 #[A #[B a1,S a2 a3 a4,S a5 a6 a7,B a8,S a9 b0 b1,S b2 b3 b4,B b5,B b6]] fun c1 b7=>∃l,∃m,∃n,∃o,∃p,∃q,∃r,∃s,∃w,c1=T #[A #[I J l,I J m,P n,I J o,I J p,P q,B r,B s],B w]/\(((!w)=true->(Rt b7 R (T #[S none 0 0,B false])))/\((!w)=false->((a.1 + 1) * 56<=140737488355328/\a.1<=a.2.1/\a.2.1 * 8<=a.2.2.1.length/\([I J l,I J m,P n,I J o,I J p,P q,B r,B s]:List Value).length=1 * 8/\(∀c2 ∈ ([I J l,I J m,P n,I J o,I J p,P q,B r,B s]:List Value),c2.oneCell'=true)/\∀(b9:List Value) (x:Nat),a.1 + 1<=x->x * 8<=(a.1 + 1) * 8 + b9.length->(∃f:Nat × Nat × (List Value) × Int,a0 f < a0 a/\(s4 g d t (d:Int) (((a.1 + 1:Nat)=f.1)/\((x:Nat)=f.2.1)/\((J.wrap (a.2.2.2 + (1:Int)))=f.2.2.2)/\((a.2.2.1.take (a.1 * 8)++([I J l,I J m,P n,I J o,I J p,P q,B r,B s]:List Value)++b9)=f.2.2.1)))/\u f b7)))))))/\((decide (a.2.2.2 < (d:Int)))=false->(∀y,b.Le y->∀c0:Nat,(a.2.2.1≠[]->y.blk c0 (.cells a.2.2.1.toArray 131 (0,0)))->R (T #[S (mA c0 a.2.1) a.1 a.2.1,B true]) y)))))))):
 Acts prog 88 #[S g d t] V R:=
 fd (LF:=LF0) (RF:=[1000010]) [(5,⟨Nat × Nat × (List Value) × Int,false,[12,13],[],fun k=>[(4,.c (.msl 4 k.1 k.2.1)),(14,.c (.v (I J k.2.2.2)))],fun k=>[(4,⟨.mrow k.2.2.1,131⟩)]⟩)] [] func88 h
theorem vc_geo_SetOf (t:OA) (u w:Nat) (V:View) (R:VR) (h:(Ca V 88 #[S t u w] fun b2 m=>∃d e g,∃n,b2=T #[S d e g,B n]/\(((!n)=true->(Rt m R (T #[S none 0 0,B false])))/\((!n)=false->(∃(i:Int->VP) (k:Int->Nat),(∃y:Int,(s7 d e g d e g (e:Int) (((0:Int)=y)))/\i y m)/\∀(a:Int) (b:View),m.Le b->i a b->(true=true/\(((decide (a < (e:Int)))=true->(d.isSome=true)/\(0<=a/\a < (e:Int))/\(∃z,∃a0,∃a1,∃b3,∃b4,∃b5,∃o,∃b6,∃f,addrAdd d (a.toNat * 8)=some f/\b.at (f.add 0) (I J z)/\b.at (f.add 1) (I J a0)/\b.at (f.add 2) (P a1)/\b.at (f.add 3) (I J b3)/\b.at (f.add 4) (I J b4)/\b.at (f.add 5) (P b5)/\b.at (f.add 6) (B o)/\b.at (f.add 7) (B b6)/\(((decide (a > (0:Int)))=true->((o=true->(Rt b R (T #[S none 0 0,B false])))/\(o=false->(d.isSome=true)/\(0<=(J.wrap (a - (1:Int)))/\(J.wrap (a - (1:Int))) < (e:Int))/\((addrAdd d (((J.wrap (a - (1:Int))).toNat) * 8)).isSome=true)/\(∃p,(∃a3,addrAdd (addrAdd d (((J.wrap (a - (1:Int))).toNat) * 8)) 7=some a3/\b.at a3 (B p))/\((p=true->(Rt b R (T #[S none 0 0,B false])))/\(p=false->(d.isSome=true)/\(0<=(J.wrap (a - (1:Int)))/\(J.wrap (a - (1:Int))) < (e:Int))/\((addrAdd d (((J.wrap (a - (1:Int))).toNat) * 8)).isSome=true)/\(∃a5,∃a6,∃a7,∃l,addrAdd (addrAdd d (((J.wrap (a - (1:Int))).toNat) * 8)) 3=some l/\b.at (l.add 0) (I J a5)/\b.at (l.add 1) (I J a6)/\b.at (l.add 2) (P a7)/\(Ca b 129 #[A #[I J a5,I J a6,P a7],A #[I J z,I J a0,P a1]] fun b7 a8=>∃q,b7=I J q/\(((decide (q ≥ (0:Int)))=true->(Rt a8 R (T #[S none 0 0,B false])))/\((decide (q ≥ (0:Int)))=false->(∃r:Int,k r < k a/\(s7 d e g d e g (e:Int) (((J.wrap (a + (1:Int)))=r)))/\i r a8)))))))))))/\((decide (a > (0:Int)))=false->(∃s:Int,k s < k a/\(s7 d e g d e g (e:Int) (((J.wrap (a + (1:Int)))=s)))/\i s b)))))/\((decide (a < (e:Int)))=false->(Rt b R (T #[S d e g,B true])))))))))):
 Acts prog 63 #[S t u w] V R:=
 fd (LF:=LF0) (RF:=[1000010]) [(5,⟨Int,false,[4,15,16],[],fun b1=>[(17,.c (.v (I J b1)))],fun b1=>[]⟩)] [] func63 h
theorem vc_geo_Set_Union (a:OA) (b c:Nat) (d:OA) (e f:Nat) (V:View) (R:VR) (h:(Ca V 126 #[A #[S a b c,S d e f],.func (.func 127) #[] #[]] fun m n=>∃g i k,m=S g i k/\(Rt n R (S g i k)))):
 Acts prog 61 #[S a b c,S d e f] V R:=
 fd (LF:=LF0) (RF:=[1000010]) [] [] func61 h
theorem vc_geo_Set_Union_1 (a b:Bool) (V:View) (R:VR) (h:((a=true->(Rt V R (B true)))/\(a=false->(Rt V R (B b))))):
 Acts prog 127 #[B a,B b] V R:=
 fd (LF:=LF0) (RF:=[1000010]) [] [] func127 h
theorem vc_geo_Set_Intersect (a:OA) (b c:Nat) (d:OA) (e f:Nat) (V:View) (R:VR) (h:(Ca V 126 #[A #[S a b c,S d e f],.func (.func 128) #[] #[]] fun m n=>∃g i k,m=S g i k/\(Rt n R (S g i k)))):
 Acts prog 62 #[S a b c,S d e f] V R:=
 fd (LF:=LF0) (RF:=[1000010]) [] [] func62 h
theorem vc_geo_Set_Intersect_1 (a b:Bool) (V:View) (R:VR) (h:((a=true->(Rt V R (B b)))/\(a=false->(Rt V R (B false))))):
 Acts prog 128 #[B a,B b] V R:=
 fd (LF:=LF0) (RF:=[1000010]) [] [] func128 h
theorem vc_span_two (b:OA) (d e:Nat) (f:OA) (g i k:Nat) (V:View) (R:VR) (h:(Ca V 63 #[S b d e] fun a8 a9=>∃n o p,∃l,a8=T #[S n o p,B l]/\(Ca a9 63 #[S f g i] fun b0 a=>∃q r s,∃m,b0=T #[S q r s,B m]/\(((!l)=true->(∃t,(∃u,(some ⟨1,0,none⟩:OA)=some u/\a.at u (t))/\(Rt a R (T #[S none 0 0,t]))))/\((!l)=false->(((!m)=true->(∃x,(∃y,(some ⟨1,0,none⟩:OA)=some y/\a.at y (x))/\(Rt a R (T #[S none 0 0,x]))))/\((!m)=false->(∀a0,a.Le a0->Acts prog k #[S n o p,S q r s] a0 fun b1 b2=>∃a1 a2 a3,b1=S a1 a2 a3/\(Ca b2 65 #[S a1 a2 a3] fun b3 b4=>∃a4 a5 a6,b3=S a4 a5 a6/\(Rt b4 R (T #[S a4 a5 a6,.nilIface]))))))))))):
 Acts prog 60 #[S b d e,S f g i,.func (.func k) #[] #[]] V R:=
 fn_does (LF:=LF0) (RF:=[1000010]) (β0:=(fun _=>0)) tab_ok mixed [] [] func60 (by kernel_rfl) [(0,.c (.v (S b d e))),(1,.c (.v (S f g i))),(2,.c (.clo k []))] [] (by kernel_rfl) trivial h (by kernel_rfl)
theorem vc_span_Union (a:OA) (b c:Nat) (d:OA) (e f:Nat) (V:View) (R:VR) (h:(Ca V 60 #[S a b c,S d e f,.func (.func 61) #[] #[]] fun n o=>∃g i k,∃l,n=T #[S g i k,l]/\(Rt o R (T #[S g i k,l])))):
 Acts prog 13 #[S a b c,S d e f] V R:=
 fd (LF:=LF0) (RF:=[1000010]) [] [] func13 h
theorem vc_span_Intersect (a:OA) (b c:Nat) (d:OA) (e f:Nat) (V:View) (R:VR) (h:(Ca V 60 #[S a b c,S d e f,.func (.func 62) #[] #[]] fun n o=>∃g i k,∃l,n=T #[S g i k,l]/\(Rt o R (T #[S g i k,l])))):
 Acts prog 14 #[S a b c,S d e f] V R:=
 fd (LF:=LF0) (RF:=[1000010]) [] [] func14 h
theorem vc_span_Complement (c:OA) (d e:Nat) (V:View) (R:VR) (h:(Ca V 63 #[S c d e] fun u a=>∃f g i,∃b,u=T #[S f g i,B b]/\(((!b)=true->(∃k,(∃l,(some ⟨1,0,none⟩:OA)=some l/\a.at l (k))/\(Rt a R (T #[S none 0 0,k]))))/\((!b)=false->(Ca a 64 #[S f g i] fun w x=>∃n o p,w=S n o p/\(Ca x 65 #[S n o p] fun y z=>∃q r s,y=S q r s/\(Rt z R (T #[S q r s,.nilIface])))))))):
 Acts prog 15 #[S c d e] V R:=
 fd (LF:=LF0) (RF:=[1000010]) [] [] func15 h
theorem vc_ref06_SameAll (i:OA) (d l:Nat) (k:OA) (g m:Nat) (V:View) (R:VR) (h:((((d:Int) != (g:Int))=true->(Rt V R (B false)))/\(((d:Int) != (g:Int))=false->(∃(n:Int->VP) (r:Int->Nat),(∃s:Int,(s7 i d l k g m (d:Int) (((0:Int)=s)))/\n s V)/\∀(b:Int) (a:View),V.Le a->n b a->(true=true/\(((decide (b < (d:Int)))=true->(i.isSome=true)/\(0<=b/\b < (d:Int))/\(∃t,∃u w x,∃y z a0,∃a1,∃a2 a3 a4,∃a5 a6 a7,∃a8,∃a9,∃e,addrAdd i (b.toNat * 8)=some e/\a.at (e.add 0) (B t)/\a.at (e.add 1) (S u w x)/\a.at (e.add 2) (S y z a0)/\a.at (e.add 3) (B a1)/\a.at (e.add 4) (S a2 a3 a4)/\a.at (e.add 5) (S a5 a6 a7)/\a.at (e.add 6) (B a8)/\a.at (e.add 7) (B a9)/\(k.isSome=true)/\(0<=b/\b < (g:Int))/\(∃b0,∃b1 b2 b3,∃b4 b5 b6,∃b7,∃b8 b9 c0,∃c1 c2 c3,∃c4,∃c5,∃f,addrAdd k (b.toNat * 8)=some f/\a.at (f.add 0) (B b0)/\a.at (f.add 1) (S b1 b2 b3)/\a.at (f.add 2) (S b4 b5 b6)/\a.at (f.add 3) (B b7)/\a.at (f.add 4) (S b8 b9 c0)/\a.at (f.add 5) (S c1 c2 c3)/\a.at (f.add 6) (B c4)/\a.at (f.add 7) (B c5)/\(Ca a 68 #[A #[B t,S u w x,S y z a0,B a1,S a2 a3 a4,S a5 a6 a7,B a8,B a9],A #[B b0,S b1 b2 b3,S b4 b5 b6,B b7,S b8 b9 c0,S c1 c2 c3,B c4,B c5]] fun d0 c6=>∃o,d0=B o/\(((!o)=true->(Rt c6 R (B false)))/\((!o)=false->(∃p:Int,r p < r b/\(s7 i d l k g m (d:Int) (((J.wrap (b + (1:Int)))=p)))/\n p c6)))))))/\((decide (b < (d:Int)))=false->(Rt a R (B true))))))))):
 Acts prog 18 #[S i d l,S k g m] V R:=
 fd (LF:=LF0) (RF:=[1000010]) [(4,⟨Int,false,[0,1,12],[],fun c9=>[(13,.c (.v (I J c9)))],fun c9=>[]⟩)] [] func18 h
end Go.Proofs.Tryz
/- Contracts: sets of intervals: read, joined, cut, written; the functions of package span. -/
namespace Go.Proofs.Tryz
open Go.Eng Go.Big
/-- A regular set with few ends and small numbers. -/
structure Ok6 (l:List Sp) (m:Nat):Prop where
 rg:reg l
 sz:∀s ∈ l,s.sz 10000
 fe:fe l<=m
 len:l.length<=m + 1
theorem Ok6.comb {a b:List Sp} {m n:Nat} (ha:Ok6 a m) (hb:Ok6 b n) (op:Int):Ok6 (combL op a b) (m + n):=
 ⟨comb_reg _ _ _,comb_sz (by decide) ha.sz hb.sz,Nat.le_trans (comb_fe op a b) (Nat.add_le_add ha.fe hb.fe),Nat.le_trans (comb_len op a b) (by have:=ha.fe; have:=hb.fe; omega)⟩
theorem c_U1 (a b:Bool) (W:View):Acts prog 127 #[.bool a,.bool b] W fun r _=>r=.bool (opB 1 a b):=
 vc_geo_Set_Union_1 a b W _ ⟨fun h V l=>by subst h; simp [opB],fun h V l=>by subst h; simp [opB]⟩
theorem c_I1 (a b:Bool) (W:View):Acts prog 128 #[.bool a,.bool b] W fun r _=>r=.bool (opB 2 a b):=
 vc_geo_Set_Intersect_1 a b W _ ⟨fun h V l=>by subst h; simp [opB],fun h V l=>by subst h; simp [opB]⟩
/-- A function that joins two sets. -/
def Joins (f:Nat) (op:Int):Prop:=∀{V:View} {p:OA} {n c:Nat} {q:OA} {m d:Nat} {A B:List Sp} {x y:Nat},Lst 8 RIv V p n A->Lst 8 RIv V q m B->Ok6 A x->Ok6 B y->x + y < 50 ->
 Acts prog f #[.slice p n c,.slice q m d] V fun r V'=>∃q m e,r=.slice q m e/\Lst 8 RIv V' q m (combL op A B)
theorem sweep_of {V:View} {p:OA} {n c:Nat} {q:OA} {m d:Nat} {A B:List Sp} {x y fa:Nat} {op:Int} (hA:Lst 8 RIv V p n A) (hB:Lst 8 RIv V q m B) (oA:Ok6 A x) (oB:Ok6 B y) (h:x + y < 50) (hf:∀a b (W:View),Acts prog fa #[.bool a,.bool b] W fun r _=>r=.bool (opB op a b)) :
  Acts prog 126 #[.agg #[.slice p n c,.slice q m d],.func (.func fa) #[] #[]] V fun r V'=>∃q m e,r=.slice q m e/\Lst 8 RIv V' q m (combL op A B):=
 c_sweep hA hB oA.rg.1 oB.rg.1 oA.sz oB.sz (by have:=oA.len; omega) (by have:=oB.len; omega) (by have:=oA.fe; have:=oB.fe; omega) hf
theorem c_Set_Union:Joins 61 1:=by
 intro V p n c q m d A B x y hA hB oA oB h
 refine vc_geo_Set_Union p n c q m d V _ fun V1 l1=>(sweep_of (hA.le l1 fun _ _ g=>RIv.le g l1) (hB.le l1 fun _ _ g=>RIv.le g l1) oA oB h c_U1).mono ?_
 rintro r V2 l2 ⟨q,m,e,rfl,g⟩
 exact ⟨_,_,_,rfl,fun V3 l3=>⟨_,_,_,rfl,g.le l3 fun _ _ g=>RIv.le g l3⟩⟩
theorem c_Set_Intersect:Joins 62 2:=by
 intro V p n c q m d A B x y hA hB oA oB h
 refine vc_geo_Set_Intersect p n c q m d V _ fun V1 l1=>(sweep_of (hA.le l1 fun _ _ g=>RIv.le g l1) (hB.le l1 fun _ _ g=>RIv.le g l1) oA oB h c_I1).mono ?_
 rintro r V2 l2 ⟨q,m,e,rfl,g⟩
 exact ⟨_,_,_,rfl,fun V3 l3=>⟨_,_,_,rfl,g.le l3 fun _ _ g=>RIv.le g l3⟩⟩
theorem c_IvsOf {V:View} {p:OA} {n c:Nat} {ls:List Sp} (h:Lst 8 RSp V p n ls) (hn:ls.length<=1000) (hg:∀s ∈ ls,s.good) (hs:∀s ∈ ls,s.sz 10000) :
  Acts prog 88 #[.slice p n c] V fun r V'=>∃q m e,r=.tuple #[.slice q m e,.bool true]/\Lst 8 RIv V' q m ls:=by
 obtain rfl:=h.len
 refine vc_geo_IvsOf p _ c V _ ⟨fun h1=>absurd (of_decide_eq_true h1) (by omega),fun _=>⟨fun z V'=>∃j:Nat,z.2.2.2=(j:Int)/\j<=ls.length/\IR V' z.1 z.2.1 z.2.2.1 (ls.take j),
  fun z=>ls.length - z.2.2.2.toNat,⟨(0,0,[],0),by and_intros <;> rfl,0,rfl,Nat.zero_le _,IR.nil⟩,?_⟩⟩
 rintro ⟨z1,z2,vs,z4⟩ V1 l1 ⟨j,e4,jle,hir⟩
 dsimp only at e4 hir
 subst e4
 have zl:=hir.len
 rw [List.length_take] at zl
 refine ⟨rfl,fun hlt=>?_,fun hlt V4 l4 bk hb=>?_⟩
 ·have hlt:(j:Int) < ls.length:=of_decide_eq_true hlt
  have hi:j < ls.length:=by omega
  obtain ⟨ad,ha,xs,-,hf,hat⟩:=(h.le l1 fun _ _ g=>RSp.le g l1).at_ j hi
  have w:i64.wrap ((j:Int) + 1)=(j:Int) + 1:=i64w (by omega)
  dsimp only
  rw [Int.toNat_natCast,w]
  have hf0:=hf
  obtain ⟨_,_,_,_,_,_,_,_,_,_,_,_,_,_,ex⟩:=sp_shape hf
  have ex:=congrArg Array.toList (Value.agg.inj ex)
  dsimp only at ex
  subst ex
  have hgj:=hg _ (List.getElem_mem hi)
  refine ⟨isSome_addr ha,⟨by omega,by omega⟩,_,_,_,_,_,_,_,_,_,_,_,_,_,_,_,_,ad,ha,hat 0 _ rfl,hat 1 _ rfl,hat 2 _ rfl,hat 3 _ rfl,hat 4 _ rfl,hat 5 _ rfl,hat 6 _ rfl,hat 7 _ rfl,fun V2 l2=>(c_IvOf_ok (hf0.le l2) hgj.1 hgj.2 (hs _ (List.getElem_mem hi)) (by decide)).mono ?_⟩
  rintro r V3 l3 ⟨w,rfl,x1,x2,q,y1,y2,q',rfl,r1,r2⟩
  refine ⟨_,_,_,_,_,_,_,_,_,rfl,(fun h=>nomatch h),fun _=>⟨by omega,hir.le,hir.cap,rfl,one8,fun sp c' h1 h2=>⟨(z1 + 1,c',_,(j:Int) + 1),by dsimp only; omega,by and_intros <;> rfl,j + 1,rfl,hi,?_⟩⟩⟩
  dsimp only
  rw [List.take_add_one,List.getElem?_eq_getElem hi]
  exact (hir.mono (l2.trans l3)).snoc r1 r2 h1 h2
 ·have hlt:¬ (j:Int) < ls.length:=of_decide_eq_false hlt
  obtain rfl:j=ls.length:=by omega
  rw [List.take_length] at hir
  obtain rfl:=hir.len
  exact ⟨_,_,_,rfl,Lst.of_mrow hb (hir.row.le fun _ _ g=>RIv.le g l4) (by decide) hir.le⟩
theorem c_SetOf {V:View} {p:OA} {n c:Nat} {ls:List Sp} (h:Lst 8 RSp V p n ls) {m:Nat} (ho:Ok6 ls m) (hm:m < 100) :
  Acts prog 63 #[.slice p n c] V fun r V'=>∃q m e,r=.tuple #[.slice q m e,.bool true]/\Lst 8 RIv V' q m ls:=by
 have hn:=ho.len
 refine vc_geo_SetOf p n c V _ fun V1 l1=>(c_IvsOf (h.le l1 fun _ _ g=>RSp.le g l1) (by omega) ho.rg.1 ho.sz).mono ?_
 rintro r V2 l2 ⟨q,k,e,rfl,g⟩
 obtain rfl:=g.len
 refine ⟨_,_,_,_,rfl,(fun h=>nomatch h),fun _=>⟨fun z V'=>∃j:Nat,z=(j:Int)/\j<=ls.length,fun z=>ls.length - z.toNat,⟨0,by and_intros <;> rfl,0,rfl,Nat.zero_le _⟩,?_⟩⟩
 rintro z V4 l4 ⟨j,rfl,jle⟩
 refine ⟨rfl,fun hlt=>?_,fun hlt V10 l10=>⟨_,_,_,rfl,g.le (l4.trans l10) fun _ _ g=>RIv.le g (l4.trans l10)⟩⟩
 have hlt:(j:Int) < ls.length:=of_decide_eq_true hlt
 have hi:j < ls.length:=by omega
 have g4:=g.le l4 fun _ _ g=>RIv.le g l4
 obtain ⟨ad,ha,xs,-,⟨x1,x2,q1,y1,y2,q2,ex,r1,r2⟩,hat⟩:=g4.at_ j hi
 have ex:=congrArg Array.toList (Value.agg.inj ex)
 dsimp only at ex
 subst ex
 have w:i64.wrap ((j:Int) + 1)=((j + 1:Nat):Int):=by rw [i64w (by omega)]; rfl
 rw [Int.toNat_natCast,w]
 refine ⟨isSome_addr ha,⟨by omega,by omega⟩,_,_,_,_,_,_,_,_,ad,ha,hat 0 _ rfl,hat 1 _ rfl,hat 2 _ rfl,hat 3 _ rfl,hat 4 _ rfl,hat 5 _ rfl,hat 6 _ rfl,hat 7 _ rfl,fun h0=>?_,fun h0=>⟨((j + 1:Nat):Int),by dsimp only; omega,by and_intros <;> rfl,j + 1,rfl,hi⟩⟩
 have h0:(j:Int) > 0:=of_decide_eq_true h0
 obtain ⟨i,rfl⟩:∃i,j=i + 1:=⟨j - 1,by omega⟩
 have hi':i < ls.length:=by omega
 obtain ⟨b1,b2,b3⟩:=List.pairwise_iff_getElem.1 ho.rg.2 i (i + 1) hi' hi (by omega)
 have w2:i64.wrap (((i + 1:Nat):Int) - 1)=(i:Int):=by rw [i64w (by omega)]; omega
 rw [w2,Int.toNat_natCast]
 obtain ⟨ad',ha',xs,-,⟨u1,u2,p1,v1,v2,p2,ex,r1',r2'⟩,hat'⟩:=g4.at_ i hi'
 have ex:=congrArg Array.toList (Value.agg.inj ex)
 dsimp only at ex
 subst ex
 have hat7:=hat' 7 _ rfl
 have hat3:=hat' 3 _ rfl
 have hat4:=hat' 4 _ rfl
 have hat5:=hat' 5 _ rfl
 have A7:addrAdd (addrAdd q (i * 8)) 7=some (ad'.add 7):=by rw [ha']; rfl
 have A3:addrAdd (addrAdd q (i * 8)) 3=some (ad'.add 3):=by rw [ha']; rfl
 refine ⟨fun h=>(by rw [b2] at h; cases h),fun _=>⟨isSome_addr ha',⟨by omega,by omega⟩,by rw [ha']; rfl,_,⟨_,A7,hat7⟩,fun h=>(by rw [b1] at h; cases h),fun _=>⟨isSome_addr ha',⟨by omega,by omega⟩,by rw [ha']; rfl,v1,v2,p2,_,A3,by rw [adr_add2]; exact hat3,by rw [adr_add2]; exact hat4,by rw [adr_add2]; exact hat5,fun V7 l7=>(c_R_Cmp (r2'.le l7) (r1.le l7) (ho.sz _ (List.getElem_mem hi')).2 (ho.sz _ (List.getElem_mem hi)).1 (by decide)).mono ?_⟩⟩⟩
 rintro r V8 l8 rfl
 refine ⟨_,rfl,fun h=>?_,fun _=>⟨((i + 1 + 1:Nat):Int),by dsimp only; omega,by and_intros <;> rfl,i + 1 + 1,rfl,hi⟩⟩
 have h:=of_decide_eq_true h
 rcases cmpQ_or ls[i].hi ls[i + 1].lo with ⟨h1,e⟩ | ⟨h1,e⟩ | ⟨h1,e⟩ <;> rw [e] at h <;> grind
/-! package span -/
theorem c_span_two {V:View} {p:OA} {n c:Nat} {q:OA} {m d:Nat} {A B:List Sp} {x y fa:Nat} {op:Int} (hA:Lst 8 RSp V p n A) (hB:Lst 8 RSp V q m B) (oA:Ok6 A x) (oB:Ok6 B y) (h:x + y < 50) (hf:Joins fa op) :
  Acts prog 60 #[.slice p n c,.slice q m d,.func (.func fa) #[] #[]] V fun r V'=>∃q m e,r=.tuple #[.slice q m e,.nilIface]/\Lst 8 RSp V' q m (combL op A B):=by
 have oC:=oA.comb oB op
 refine vc_span_two p n c q m d fa V _ fun V1 l1=>(c_SetOf (hA.le l1 fun _ _ g=>RSp.le g l1) oA (by omega)).mono ?_
 rintro r V2 l2 ⟨p1,n1,d1,rfl,g1⟩
 refine ⟨_,_,_,_,rfl,fun V3 l3=>(c_SetOf (hB.le (l1.trans (l2.trans l3)) fun _ _ g=>RSp.le g (l1.trans (l2.trans l3))) oB (by omega)).mono ?_⟩
 rintro r V4 l4 ⟨p2,n2,d2,rfl,g2⟩
 refine ⟨_,_,_,_,rfl,(fun h=>nomatch h),fun _=>⟨(fun h=>nomatch h),fun _ V7 l7=>(hf (g1.le (l3.trans (l4.trans l7)) fun _ _ g=>RIv.le g (l3.trans (l4.trans l7))) (g2.le l7 fun _ _ g=>RIv.le g l7) oA oB h).mono ?_⟩⟩
 rintro r V8 l8 ⟨p3,n3,d3,rfl,g3⟩
 refine ⟨_,_,_,rfl,fun V9 l9=>(c_Set_API (g3.le l9 fun _ _ g=>RIv.le g l9) (by have:=oC.len; omega) oC.sz (by decide)).mono ?_⟩
 rintro r V10 l10 ⟨p4,n4,d4,rfl,g4⟩
 exact ⟨_,_,_,rfl,fun V11 l11=>⟨_,_,_,rfl,g4.le l11 fun _ _ g=>RSp.le g l11⟩⟩
def SJoins (f:Nat) (op:Int):Prop:=∀{V:View} {p:OA} {n c:Nat} {q:OA} {m d:Nat} {A B:List Sp} {x y:Nat},Lst 8 RSp V p n A->Lst 8 RSp V q m B->Ok6 A x->Ok6 B y->x + y < 50 ->
 Acts prog f #[.slice p n c,.slice q m d] V fun r V'=>∃q m e,r=.tuple #[.slice q m e,.nilIface]/\Lst 8 RSp V' q m (combL op A B)
theorem c_span_Union:SJoins 13 1:=by
 intro V p n c q m d A B x y hA hB oA oB h
 refine vc_span_Union p n c q m d V _ fun V1 l1=>(c_span_two (hA.le l1 fun _ _ g=>RSp.le g l1) (hB.le l1 fun _ _ g=>RSp.le g l1) oA oB h c_Set_Union).mono ?_
 rintro r V2 l2 ⟨q,m,e,rfl,g⟩
 exact ⟨_,_,_,_,rfl,fun V3 l3=>⟨_,_,_,rfl,g.le l3 fun _ _ g=>RSp.le g l3⟩⟩
theorem c_span_Intersect:SJoins 14 2:=by
 intro V p n c q m d A B x y hA hB oA oB h
 refine vc_span_Intersect p n c q m d V _ fun V1 l1=>(c_span_two (hA.le l1 fun _ _ g=>RSp.le g l1) (hB.le l1 fun _ _ g=>RSp.le g l1) oA oB h c_Set_Intersect).mono ?_
 rintro r V2 l2 ⟨q,m,e,rfl,g⟩
 exact ⟨_,_,_,_,rfl,fun V3 l3=>⟨_,_,_,rfl,g.le l3 fun _ _ g=>RSp.le g l3⟩⟩
theorem c_SameAll {V:View} {p:OA} {n c:Nat} {q:OA} {m d:Nat} {A:List Sp} (hA:Lst 8 RSp V p n A) (hB:Lst 8 RSp V q m A) (hn:A.length<=1000) (hs:∀s ∈ A,s.sz 10000) :
  Acts prog 18 #[.slice p n c,.slice q m d] V fun r V'=>r=.bool true:=by
 obtain rfl:=hA.len
 obtain rfl:=hB.len
 refine vc_ref06_SameAll p _ c q _ d V _ ⟨fun h=>by simp at h,fun _=>⟨fun z V'=>∃j:Nat,z=(j:Int)/\j<=A.length,fun z=>A.length - z.toNat,⟨0,by and_intros <;> rfl,0,rfl,Nat.zero_le _⟩,?_⟩⟩
 rintro z V2 l2 ⟨j,rfl,jle⟩
 refine ⟨rfl,fun hlt=>?_,fun hlt V6 l6=>rfl⟩
 have hlt:(j:Int) < A.length:=of_decide_eq_true hlt
 have hi:j < A.length:=by omega
 obtain ⟨ad,ha,xs,-,hf,hat⟩:=(hA.le l2 fun _ _ g=>RSp.le g l2).at_ j hi
 obtain ⟨ad',ha',ys,-,hf',hat'⟩:=(hB.le l2 fun _ _ g=>RSp.le g l2).at_ j hi
 have hf0:=hf
 have hf0':=hf'
 obtain ⟨_,_,_,_,_,_,_,_,_,_,_,_,_,_,ex⟩:=sp_shape hf
 obtain ⟨_,_,_,_,_,_,_,_,_,_,_,_,_,_,ey⟩:=sp_shape hf'
 have ex:=congrArg Array.toList (Value.agg.inj ex)
 have ey:=congrArg Array.toList (Value.agg.inj ey)
 dsimp only at ex ey
 subst ex ey
 have w:i64.wrap ((j:Int) + 1)=((j + 1:Nat):Int):=by rw [i64w (by omega)]; rfl
 rw [Int.toNat_natCast,w]
 refine ⟨isSome_addr ha,⟨by omega,by omega⟩,_,_,_,_,_,_,_,_,_,_,_,_,_,_,_,_,ad,ha,hat 0 _ rfl,hat 1 _ rfl,hat 2 _ rfl,hat 3 _ rfl,hat 4 _ rfl,hat 5 _ rfl,hat 6 _ rfl,hat 7 _ rfl,isSome_addr ha',⟨by omega,by omega⟩,_,_,_,_,_,_,_,_,_,_,_,_,_,_,_,_,ad',ha',hat' 0 _ rfl,hat' 1 _ rfl,hat' 2 _ rfl,hat' 3 _ rfl,hat' 4 _ rfl,hat' 5 _ rfl,hat' 6 _ rfl,hat' 7 _ rfl,fun V3 l3=>(c_ref06_Same (hf0.le l3) (hf0'.le l3) (hs _ (List.getElem_mem hi)) (by decide)).mono ?_⟩
 rintro r V4 l4 rfl
 exact ⟨_,rfl,(fun h=>nomatch h),fun _=>⟨((j + 1:Nat):Int),by dsimp only; omega,by and_intros <;> rfl,j + 1,rfl,hi⟩⟩
end Go.Proofs.Tryz
/- A new block that is handed back; scene.New. -/
namespace Go.Proofs.Tryz
open Go.Eng Go.Big
end Go.Proofs.Tryz
/- Contracts: the tape's spans and fragments. -/
namespace Go.Proofs.Tryz
open Go.Eng Go.Big
end Go.Proofs.Tryz
