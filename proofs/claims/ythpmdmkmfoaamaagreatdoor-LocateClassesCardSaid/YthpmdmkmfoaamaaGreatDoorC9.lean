import Derived.Test.YthpmdmkmfoaamaaGreatDoorC5
set_option linter.unusedVariables false
open Go.IntKind (i64 u64 u32)
namespace Go.Proofs.Tryz
open Go.bK
open Go.Value renaming int→I,pointer→P,slice→S,agg→A,bool→B,tuple→T
open Go.IntKind renaming i64→J,u64→U,u32→W
set_option maxRecDepth 100000
theorem lC (a2:OA)(a3 a4:Nat)(V:View)(R:VR)(h:(∀i,V.Le i->ab prog 10 #[S a2 a3 a4] i fun e0 a5=>∃c:Nat,∃a6 a7 a8,∃a9,e0=P (some ⟨c,0,none⟩)/\i.w.heap.size<=c/\a5.bE c (.cells #[S a6 a7 a8,I J a9] 95 (0,0))/\(∀d:View,(a5.Ir c).Le d->∀a:Nat,(d.w.heap[a]?=some (.cells #[S a6 a7 a8,I J a9] 95 (0,0)))->(d.H a)->ab prog 11 #[P (some ⟨a,0,none⟩),I J 4] (d.au [a]) fun e1 b0=>∃e,e1=P e/\∃b1 b2 b3,∃b4,b0.w.heap[a]?=some (.cells #[S b1 b2 b3,I J b4] 95 (0,0))/\(∀f,b0.shut.Le f->∀b:Nat,(f.w.heap[b]?=some (.cells #[S b1 b2 b3,I J b4] 95 (0,0)))->(f.H b)->ab prog 12 #[P (some ⟨b,0,none⟩),P e] (f.au [b]) fun e2 b5=>mV e2 fun k l m n o p q r s t u x y z=>∃e3 e4 e5,∃e6,b5.w.heap[b]?=some (.cells #[S e3 e4 e5,I J e6] 95 (0,0))/\(∀b6,b5.shut.Le b6->ab prog 14 #[P e] b6 fun e7 e8=>TD e7 fun b7 b8 b9 c0=>(Ca e8 15 #[dV k l m n o p q r s t u x y z] fun e9 f0=>mV e9 fun c1 c2 c3 c4 c5 c6 c7 c8 c9 d0 d1 d2 d3 d4=>(Ca f0 13 #[Mg b7 b8 b9 c0,dV c1 c2 c3 c4 c5 c6 c7 c8 c9 d0 d1 d2 d3 d4] fun f1 f2=>∃d5,∃g,f1=T #[I J d5,g]/\(Ca f2 16 #[] fun f3 a0=>∃a1,f3=B a1/\((a1=true->(IsIface g)/\(((fN g)=true->(Ca a0 17 #[P e,dV k l m n o p q r s t u x y z] fun f4 f5=>∃d6,f4=I J d6/\(Rt f5 R (B (d5==d6)))))/\((fN g)=false->(Rt a0 R (B false)))))/\(a1=false->(Rt a0 R (B false)))))))))))):
 ab prog 3 #[S a2 a3 a4] V R:=
 fd (LF:=aV) (RF:=[1000010]) [] [] func3 h
end Go.Proofs.Tryz
