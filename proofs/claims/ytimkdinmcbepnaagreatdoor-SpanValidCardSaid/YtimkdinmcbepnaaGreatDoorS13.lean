/- A part of the proof (joined by program from: VFrB, RefI, RawE, ArgN, SideP, SetP, FragA, VFrS, RefJ, VFrC, CombA, CombB, CombC, CombD, CombE, CombF, SetQ, CombG). -/
import Derived.Test.YtimkdinmcbepnaaGreatDoorS5
import Derived.Test.YtimkdinmcbepnaaGreatDoorS12
import Derived.Deep.Slices
set_option linter.unusedVariables false
open Go.IntKind (i64 u64 u32)
/- By program: the conditions of the functions, from their loaded code. -/
namespace Go.Proofs.Tryz
open Go.Eng
open Go.Value renaming int→I,pointer→P,slice→S,agg→A,bool→B,tuple→T
open Go.IntKind renaming i64→J,u64→U,u32→W
set_option maxRecDepth 100000
theorem vc_ref01_N (e:OA) (a n:Nat) (V:View) (R:VR) (h:(∃b:List Value,V.sl e b/\b.length=a * 1/\((0 + a) * 4<=140737488355328/\0<=0/\0 * 1<=([]:List Value).length/\b.length=a * 1/\(∀o ∈ b,o.oneCell'=true)/\∀(r:Nat) (s:C->Value) (f:List Value) (c:Nat),0 + a<=c->c * 1<=(0 + a) * 1 + f.length->(∀d,V.Le d->∀g:Nat,(d.blk g (.cells (([]:List Value).take (0 * 1)++b++f).toArray 221 (0,0)))->Acts prog 151 #[S (some ⟨g,0,none⟩) (0 + a) c] d fun p q=>∃i k l,p=S i k l/\∀t:C->Value,(Rt q R (S i k l)))))):
 Acts prog 85 #[S e a n] V R:=
 fd (LF:=LF0) (RF:=[1000010]) [] [] func85 h
theorem vc_ref01_I (a:Bool) (b:OA) (c d:Nat) (V:View) (R:VR) (h:(Ca V 85 #[S b c d] fun o p=>∃e f g,o=S e f g/\(Ca p 82 #[B a,S e f g] fun q r=>∃i,∃k l m,q=A #[B i,S k l m]/\(Rt r R (A #[B i,S k l m]))))):
 Acts prog 86 #[A #[B a,S b c d]] V R:=
 fd (LF:=LF0) (RF:=[1000010]) [] [] func86 h
theorem vc_ref01_Q (b:Bool) (c:OA) (d e:Nat) (f:OA) (g i:Nat) (V:View) (R:VR) (h:(Ca V 85 #[S f g i] fun a1 k=>∃l a m,a1=S l a m/\((((a:Int) == (0:Int))=true->(Rt k R (A #[B false,S none 0 0,S none 0 0])))/\(((a:Int) == (0:Int))=false->(Ca k 86 #[A #[B b,S c d e]] fun a2 a3=>∃o,∃p q r,a2=A #[B o,S p q r]/\(Ca a3 80 #[A #[B o,S p q r],S l a m] fun a4 a5=>∃s,∃t u w,∃x y z,a4=A #[B s,S t u w,S x y z]/\(Rt a5 R (A #[B s,S t u w,S x y z])))))))):
 Acts prog 24 #[A #[B b,S c d e,S f g i]] V R:=
 fd (LF:=LF0) (RF:=[1000010]) [] [] func24 h
theorem vc_ref01_NormalQ (b:Bool) (c:OA) (d e:Nat) (f:OA) (a g:Nat) (V:View) (R:VR) (h:(Ca V 24 #[A #[B b,S c d e,S f a g]] fun a2 a3=>∃k,∃l m n,∃o p q,a2=A #[B k,S l m n,S o p q]/\(Ca a3 28 #[A #[B k,S l m n,S o p q]] fun a4 a5=>∃r,∃s t u,∃w x y,a4=A #[B r,S s t u,S w x y]/\(Ca a5 37 #[A #[B b,S c d e,S f a g],A #[B r,S s t u,S w x y]] fun a6 z=>∃i,a6=B i/\((i=true->(Rt z R (B (decide ((a:Int) > (0:Int))))))/\(i=false->(Rt z R (B false)))))))):
 Acts prog 103 #[A #[B b,S c d e,S f a g]] V R:=
 fd (LF:=LF0) (RF:=[1000010]) [] [] func103 h
theorem vc_ref06_Read (e:Bool) (n:OA) (o p:Nat) (q:OA) (r s:Nat) (b:Bool) (f:OA) (g i:Nat) (k:OA) (l m:Nat) (d a:Bool) (V:View) (R:VR) (h:(∃t:Bool->VP,((d=true->(Ca V 102 #[A #[B e,S n o p,S q r s]] fun g3 u=>∃b3,g3=B b3/\(((!b3)=true->(∃c6:Bool,(sm 0/\sm 0/\(true=c6)/\s12 e n o p q r s b f g i k (s12 l m d a (none:OA) 0 0 (none:OA) 0 0 (none:OA) 0 (s3 0 (none:OA) 0 (sm 0))))/\t c6 u))/\((!b3)=false->(((!d)=true->(Ca u 103 #[A #[B e,S n o p,S q r s]] fun g4 b0=>∃b4,g4=B b4/\(((!b4)=true->(∃c7:Bool,(sm 0/\sm 0/\(true=c7)/\s12 e n o p q r s b f g i k (s12 l m d a (none:OA) 0 0 (none:OA) 0 0 (none:OA) 0 (s3 0 (none:OA) 0 (sm 0))))/\t c7 b0))/\((!b4)=false->((a=true->(Ca b0 102 #[A #[B b,S f g i,S k l m]] fun g5 b5=>∃b6,g5=B b6/\(((!b6)=true->(∃c8:Bool,(sm 0/\sm 0/\(true=c8)/\s12 e n o p q r s b f g i k (s12 l m d a (none:OA) 0 0 (none:OA) 0 0 (none:OA) 0 (s3 0 (none:OA) 0 (sm 0))))/\t c8 b5))/\((!b6)=false->(((!a)=true->(Ca b5 103 #[A #[B b,S f g i,S k l m]] fun g6 g7=>∃c9,g6=B c9/\(∃d0:Bool,(sm 0/\sm 0/\((!c9)=d0)/\s12 e n o p q r s b f g i k (s12 l m d a (none:OA) 0 0 (none:OA) 0 0 (none:OA) 0 (s3 0 (none:OA) 0 (sm 0))))/\t d0 g7)))/\((!a)=false->(∃d1:Bool,(sm 0/\sm 0/\(false=d1)/\s12 e n o p q r s b f g i k (s12 l m d a (none:OA) 0 0 (none:OA) 0 0 (none:OA) 0 (s3 0 (none:OA) 0 (sm 0))))/\t d1 b5)))))))/\(a=false->(((!a)=true->(Ca b0 103 #[A #[B b,S f g i,S k l m]] fun g8 g9=>∃d2,g8=B d2/\(∃d3:Bool,(sm 0/\sm 0/\((!d2)=d3)/\s12 e n o p q r s b f g i k (s12 l m d a (none:OA) 0 0 (none:OA) 0 0 (none:OA) 0 (s3 0 (none:OA) 0 (sm 0))))/\t d3 g9)))/\((!a)=false->(∃d4:Bool,(sm 0/\sm 0/\(false=d4)/\s12 e n o p q r s b f g i k (s12 l m d a (none:OA) 0 0 (none:OA) 0 0 (none:OA) 0 (s3 0 (none:OA) 0 (sm 0))))/\t d4 b0)))))))))/\((!d)=false->((a=true->(Ca u 102 #[A #[B b,S f g i,S k l m]] fun i0 b7=>∃b8,i0=B b8/\(((!b8)=true->(∃d5:Bool,(sm 0/\sm 0/\(true=d5)/\s12 e n o p q r s b f g i k (s12 l m d a (none:OA) 0 0 (none:OA) 0 0 (none:OA) 0 (s3 0 (none:OA) 0 (sm 0))))/\t d5 b7))/\((!b8)=false->(((!a)=true->(Ca b7 103 #[A #[B b,S f g i,S k l m]] fun i1 i2=>∃d6,i1=B d6/\(∃d7:Bool,(sm 0/\sm 0/\((!d6)=d7)/\s12 e n o p q r s b f g i k (s12 l m d a (none:OA) 0 0 (none:OA) 0 0 (none:OA) 0 (s3 0 (none:OA) 0 (sm 0))))/\t d7 i2)))/\((!a)=false->(∃d8:Bool,(sm 0/\sm 0/\(false=d8)/\s12 e n o p q r s b f g i k (s12 l m d a (none:OA) 0 0 (none:OA) 0 0 (none:OA) 0 (s3 0 (none:OA) 0 (sm 0))))/\t d8 b7)))))))/\(a=false->(((!a)=true->(Ca u 103 #[A #[B b,S f g i,S k l m]] fun i3 i4=>∃d9,i3=B d9/\(∃e0:Bool,(sm 0/\sm 0/\((!d9)=e0)/\s12 e n o p q r s b f g i k (s12 l m d a (none:OA) 0 0 (none:OA) 0 0 (none:OA) 0 (s3 0 (none:OA) 0 (sm 0))))/\t e0 i4)))/\((!a)=false->(∃e1:Bool,(sm 0/\sm 0/\(false=e1)/\s12 e n o p q r s b f g i k (s12 l m d a (none:OA) 0 0 (none:OA) 0 0 (none:OA) 0 (s3 0 (none:OA) 0 (sm 0))))/\t e1 u)))))))))))/\(d=false->(((!d)=true->(Ca V 103 #[A #[B e,S n o p,S q r s]] fun i5 b1=>∃b9,i5=B b9/\(((!b9)=true->(∃e2:Bool,(sm 0/\sm 0/\(true=e2)/\s12 e n o p q r s b f g i k (s12 l m d a (none:OA) 0 0 (none:OA) 0 0 (none:OA) 0 (s3 0 (none:OA) 0 (sm 0))))/\t e2 b1))/\((!b9)=false->((a=true->(Ca b1 102 #[A #[B b,S f g i,S k l m]] fun i6 c0=>∃c1,i6=B c1/\(((!c1)=true->(∃e3:Bool,(sm 0/\sm 0/\(true=e3)/\s12 e n o p q r s b f g i k (s12 l m d a (none:OA) 0 0 (none:OA) 0 0 (none:OA) 0 (s3 0 (none:OA) 0 (sm 0))))/\t e3 c0))/\((!c1)=false->(((!a)=true->(Ca c0 103 #[A #[B b,S f g i,S k l m]] fun i7 i8=>∃e4,i7=B e4/\(∃e5:Bool,(sm 0/\sm 0/\((!e4)=e5)/\s12 e n o p q r s b f g i k (s12 l m d a (none:OA) 0 0 (none:OA) 0 0 (none:OA) 0 (s3 0 (none:OA) 0 (sm 0))))/\t e5 i8)))/\((!a)=false->(∃e6:Bool,(sm 0/\sm 0/\(false=e6)/\s12 e n o p q r s b f g i k (s12 l m d a (none:OA) 0 0 (none:OA) 0 0 (none:OA) 0 (s3 0 (none:OA) 0 (sm 0))))/\t e6 c0)))))))/\(a=false->(((!a)=true->(Ca b1 103 #[A #[B b,S f g i,S k l m]] fun i9 k0=>∃e7,i9=B e7/\(∃e8:Bool,(sm 0/\sm 0/\((!e7)=e8)/\s12 e n o p q r s b f g i k (s12 l m d a (none:OA) 0 0 (none:OA) 0 0 (none:OA) 0 (s3 0 (none:OA) 0 (sm 0))))/\t e8 k0)))/\((!a)=false->(∃e9:Bool,(sm 0/\sm 0/\(false=e9)/\s12 e n o p q r s b f g i k (s12 l m d a (none:OA) 0 0 (none:OA) 0 0 (none:OA) 0 (s3 0 (none:OA) 0 (sm 0))))/\t e9 b1)))))))))/\((!d)=false->((a=true->(Ca V 102 #[A #[B b,S f g i,S k l m]] fun k1 c2=>∃c3,k1=B c3/\(((!c3)=true->(∃f0:Bool,(sm 0/\sm 0/\(true=f0)/\s12 e n o p q r s b f g i k (s12 l m d a (none:OA) 0 0 (none:OA) 0 0 (none:OA) 0 (s3 0 (none:OA) 0 (sm 0))))/\t f0 c2))/\((!c3)=false->(((!a)=true->(Ca c2 103 #[A #[B b,S f g i,S k l m]] fun k2 k3=>∃f1,k2=B f1/\(∃f2:Bool,(sm 0/\sm 0/\((!f1)=f2)/\s12 e n o p q r s b f g i k (s12 l m d a (none:OA) 0 0 (none:OA) 0 0 (none:OA) 0 (s3 0 (none:OA) 0 (sm 0))))/\t f2 k3)))/\((!a)=false->(∃f3:Bool,(sm 0/\sm 0/\(false=f3)/\s12 e n o p q r s b f g i k (s12 l m d a (none:OA) 0 0 (none:OA) 0 0 (none:OA) 0 (s3 0 (none:OA) 0 (sm 0))))/\t f3 c2)))))))/\(a=false->(((!a)=true->(Ca V 103 #[A #[B b,S f g i,S k l m]] fun k4 k5=>∃f4,k4=B f4/\(∃f5:Bool,(sm 0/\sm 0/\((!f4)=f5)/\s12 e n o p q r s b f g i k (s12 l m d a (none:OA) 0 0 (none:OA) 0 0 (none:OA) 0 (s3 0 (none:OA) 0 (sm 0))))/\t f5 k5)))/\((!a)=false->(∃f6:Bool,(sm 0/\sm 0/\(false=f6)/\s12 e n o p q r s b f g i k (s12 l m d a (none:OA) 0 0 (none:OA) 0 0 (none:OA) 0 (s3 0 (none:OA) 0 (sm 0))))/\t f6 V)))))))))/\∀(c4:Bool) (b2:View),V.Le b2->t c4 b2->(true=true/\((c4=true->(Rt b2 R (T #[A #[B false,S none 0 0,S none 0 0,B false,S none 0 0,S none 0 0,B false,B false],B false])))/\(c4=false->(Ca b2 24 #[A #[B e,S n o p,S q r s]] fun k6 k7=>∃w,∃x y z,∃a0 a1 a2,k6=A #[B w,S x y z,S a0 a1 a2]/\(Ca k7 24 #[A #[B b,S f g i,S k l m]] fun k8 c5=>∃a3,∃a4 a5 a6,∃a7 a8 a9,k8=A #[B a3,S a4 a5 a6,S a7 a8 a9]/\((d=true->(Rt c5 R (T #[A #[B w,S x y z,S a0 a1 a2,B a3,S a4 a5 a6,S a7 a8 a9,B d,B a],B true])))/\(d=false->((a=true->(Rt c5 R (T #[A #[B w,S x y z,S a0 a1 a2,B a3,S a4 a5 a6,S a7 a8 a9,B d,B a],B true])))/\(a=false->(Ca c5 22 #[A #[B w,S x y z,S a0 a1 a2],A #[B a3,S a4 a5 a6,S a7 a8 a9]] fun k9 l0=>∃g0,k9=I J g0/\(Rt l0 R (T #[A #[B w,S x y z,S a0 a1 a2,B a3,S a4 a5 a6,S a7 a8 a9,B d,B a],B (decide (g0 < (0:Int)))])))))))))))))):
 Acts prog 41 #[A #[B e,S n o p,S q r s,B b,S f g i,S k l m,B d,B a]] V R:=
 fd (LF:=LF0) (RF:=[1000010]) [] [(600001,⟨Bool,false,[1,2],[1,2],fun g2=>[(44,.c (.v (B g2)))],fun g2=>[]⟩)] func41 h
theorem vc_scene_SmallQ (a:Int) (f:OA) (d i:Nat) (V:View) (R:VR) (h:(∃(k:Int->VP) (o:Int->Nat),(∃p:Int,(s5 a f d i (d:Int) (((0:Int)=p)))/\k p V)/\∀(e:Int) (b:View),V.Le b->k e b->(true=true/\(((decide (e < (d:Int)))=true->(f.isSome=true)/\(0<=e/\e < (d:Int))/\(∃u,∃w l x,∃y m z,∃g,addrAdd f (e.toNat * 3)=some g/\b.at (g.add 0) (B u)/\b.at (g.add 1) (S w l x)/\b.at (g.add 2) (S y m z)/\(((decide ((l:Int) > a))=true->(Rt b R (B false)))/\((decide ((l:Int) > a))=false->(((decide ((m:Int) > a))=true->(Rt b R (B false)))/\((decide ((m:Int) > a))=false->(∃n:Int,o n < o e/\(s5 a f d i (d:Int) (((J.wrap (e + (1:Int)))=n)))/\k n b)))))))/\((decide (e < (d:Int)))=false->(Rt b R (B true))))))):
 Acts prog 40 #[I J a,S f d i] V R:=
 fd (LF:=LF0) (RF:=[1000010]) [(2,⟨Int,false,[0,7,8],[],fun t=>[(9,.c (.v (I J t)))],fun t=>[]⟩)] [] func40 h
end Go.Proofs.Tryz
/- Contracts: the reference reads numbers, points, lines, spans, fragments of package api in any form. -/
namespace Go.Proofs.Tryz
open Go.Eng Go.Big
theorem c_zero_raw {V:View} {v:Value} {b:Bool} {xs ys:List Nat} (h:RRw V v b xs ys):Acts prog 102 #[v] V fun r V'=>r=.bool (zerQ b xs ys):=by
 obtain ⟨p,n,c,q,m,e,rfl,hx,hy⟩:=h
 have hl:=hx.len
 have hl':=hy.len
 refine vc_ref06_zero b p n c q m e V _ ⟨fun h=>⟨fun h1 V1 l1=>?_,fun h1 V2 l2=>?_⟩,fun h V3 l3=>?_⟩
 ·have e1:xs=[]:=by
   have h:((n:Nat):Int)=0:=by simpa using h1
   exact List.length_eq_zero_iff.1 (by omega)
  have e2:(((m:Nat):Int) == 0)=decide (ys=[]):=by
   rw [Bool.eq_iff_iff,beq_iff_eq,decide_eq_true_eq,← List.length_eq_zero_iff]; omega
  rw [Bool.not_eq_true'] at h
  simp [zerQ,h,e1,← e2]
 ·have e1:xs≠[]:=fun e=>by
   have h:¬ ((n:Nat):Int)=0:=by simpa using h1
   rw [e] at hl; exact h (by simp at hl; omega)
  simp [zerQ,e1]
 ·rw [Bool.not_eq_false'] at h
  simp [zerQ,h]
theorem c_ref01_N {V:View} {p:OA} {n c:Nat} {ds:List Nat} (h:RD V p n c ds) (hm:ds.length<=1099511627776) :
  Acts prog 85 #[.slice p n c] V fun r V'=>∃p1 n1 c1,r=.slice p1 n1 c1/\RN V' p1 n1 c1 (val ds):=by
 have hl:=h.len
 refine vc_ref01_N p n c V _ ⟨u32s ds,h.sl,by simp [hl],by omega,by omega,by simp,by simp [hl],?_,?_⟩
 ·intro v hv
  simp only [u32s,List.mem_map] at hv
  obtain ⟨d,-,rfl⟩:=hv
  rfl
 ·intro bk J sp c' h1 h2 V1 l1 b hb
  simp only [Nat.zero_add,Nat.zero_mul,List.take_zero,List.nil_append] at hb h1 ⊢
  refine (c_num_Trim (copied h.dig hl h1 hb) (by omega)).mono ?_
  rintro r V2 l2 ⟨k,rfl,g⟩
  rw [trimD_eq h.dig] at g
  exact ⟨_,_,_,rfl,fun J' V3 l3=>⟨_,_,_,rfl,g.le l3⟩⟩
theorem c_ref01_I {V:View} (b:Bool) {p:OA} {n c:Nat} {ds:List Nat} (h:RD V p n c ds) (hm:ds.length<=1099511627776) :
  Acts prog 86 #[.agg #[.bool b,.slice p n c]] V fun r V'=>RI V' r (ival b ds):=by
 refine vc_ref01_I b p n c V _ fun V1 l1=>(c_ref01_N (h.le l1) hm).mono ?_
 rintro r V2 l2 ⟨p1,n1,c1,rfl,g⟩
 refine ⟨_,_,_,rfl,fun V3 l3=>(c_num_Make b (g.le l3)).mono ?_⟩
 rintro r V4 l4 ⟨p2,n2,c2,rfl,g2⟩
 exact ⟨_,_,_,_,rfl,fun V5 l5=>⟨_,_,_,rfl,g2.le l5⟩⟩
theorem ival_len {b:Bool} {ds:List Nat} (h:Dig ds):(digs (ival b ds).natAbs).length<=ds.length:=by
 rw [ival_natAbs]; exact digs_val_len h
theorem c_ref01_Q {V:View} {v:Value} {b:Bool} {xs ys:List Nat} (h:RRw V v b xs ys) (m1:xs.length<=274877906944) (m2:ys.length<=274877906944) :
  Acts prog 24 #[v] V fun r V'=>RQ V' r (rawQ b xs ys):=by
 obtain ⟨p,n,c,q,m,e,rfl,hx,hy⟩:=h
 have d1:=ival_len (b:=b) hx.dig
 have d2:=digs_val_len hy.dig
 refine vc_ref01_Q b p n c q m e V _ fun V1 l1=>(c_ref01_N (hy.le l1) (by omega)).mono ?_
 rintro r V2 l2 ⟨p1,n1,c1,rfl,g⟩
 have gl:=g.len
 refine ⟨_,_,_,rfl,fun h0 V3 l3=>?_,fun h0 V4 l4=>(c_ref01_I b (hx.le (l1.trans (l2.trans l4))) (by omega)).mono ?_⟩
 ·have h0:((n1:Nat):Int)=0:=by simpa using h0
  have:digs (val ys)=[]:=List.length_eq_zero_iff.1 (by omega)
  have:val ys=0:=digs_eq_nil.1 this
  unfold rawQ
  rw [this,Rat.mkRat_zero]
  have:=RQ.zero (V:=V3)
  simpa using this
 ·have hd:val ys≠0:=fun e=>by
   rw [e] at gl
   have h0:¬ ((n1:Nat):Int)=0:=by simpa using h0
   exact h0 (by rw [gl]; rfl)
  rintro r V5 l5 ⟨p2,n2,c2,rfl,g2⟩
  refine ⟨_,_,_,_,rfl,fun V6 l6=>(c_num_Frac _ (g2.le l6) (g.le (l4.trans (l5.trans l6))) (by omega) (by omega) hd).mono ?_⟩
  rintro r V7 l7 k
  have k0:=k
  obtain ⟨_,_,_,_,_,_,rfl⟩:=k.shape
  exact ⟨_,_,_,_,_,_,_,rfl,fun V8 l8=>k0.le l8⟩
/-- A number in any form, held against one in normal form. -/
theorem c_SameQ_raw {V:View} {v w:Value} {b:Bool} {xs ys:List Nat} {q:Rat} (h:RRw V v b xs ys) (h':RA V w q) (m1:xs.length<=1099511627776) (m2:ys.length<=1099511627776) :
  Acts prog 37 #[v,w] V fun r V'=>r=.bool (decide (b=decide (q.num < 0)) && decide (xs=digs q.num.natAbs) && decide (ys=digs q.den)):=by
 obtain ⟨p,n,c,p',n',c',rfl,hx,hy⟩:=h
 obtain ⟨o,m,e,o',m',e',rfl,gx,gy⟩:=h'
 have hI:∀V1:View,V.Le V1->Acts prog 97 #[.agg #[.bool b,.slice p n c],.agg #[.bool (decide (q.num < 0)),.slice o m e]] V1 fun r V'=>r=.bool (decide (b=decide (q.num < 0)) && decide (xs=digs q.num.natAbs)):=by
  intro V1 l1
  refine vc_ref01_SameI b p n c _ o m e V1 _ ⟨fun h0 V2 l2=>(c_ref01_SameN (hx.le (l1.trans l2)) (gx.le (l1.trans l2)) m1).mono ?_,fun h0 V3 l3=>?_⟩
  ·rintro r V3 l3 rfl
   exact ⟨_,rfl,fun V4 l4=>by rw [beq_iff_eq] at h0; simp [h0]⟩
  ·rw [beq_eq_false_iff_ne] at h0
   simp [h0]
 refine vc_ref01_SameQ _ _ _ _ _ _ _ _ _ _ _ _ _ _ V _ fun V1 l1=>(hI V1 l1).mono ?_
 rintro r V2 l2 rfl
 refine ⟨_,rfl,fun h1 V3 l3=>(c_ref01_SameN (hy.le (l1.trans (l2.trans l3))) (gy.le (l1.trans (l2.trans l3))) m2).mono ?_,fun h1 V6 l6=>by rw [h1]; rfl⟩
 rintro r V4 l4 rfl
 exact ⟨_,rfl,fun V5 l5=>by rw [h1]; rfl⟩
theorem nrmQ_iff {b:Bool} {xs ys:List Nat}:nrmQ b xs ys=(decide (b=decide ((rawQ b xs ys).num < 0)) && decide (xs=digs (rawQ b xs ys).num.natAbs) && decide (ys=digs (rawQ b xs ys).den) && !decide (ys=[])):=by
 rw [Bool.eq_iff_iff]
 constructor
 ·intro h
  unfold nrmQ NrmI at h
  simp only [Bool.and_eq_true,decide_eq_true_eq,Bool.not_eq_true',decide_eq_false_iff_not,Bool.or_eq_true] at h
  obtain ⟨⟨⟨⟨h1,h2⟩,h3⟩,h4⟩,h5⟩:=h
  have hd:val ys≠0:=fun e=>h4 (by rw [← h3,e]; rfl)
  obtain ⟨e1,e2⟩:=mkRat_low (z:=ival b xs) (d:=val ys) hd (by rw [ival_natAbs]; exact h5)
  have e1:(rawQ b xs ys).num=ival b xs:=e1
  have e2:(rawQ b xs ys).den=val ys:=e2
  rw [e1,e2,ival_natAbs,h1,h3]
  have hb:b=decide (ival b xs < 0):=by
   cases b with
   | false=>simp [ival]
   | true=>
    have:xs≠[]:=by simpa using h2
    have:val xs≠0:=fun e=>this (by rw [← h1,e]; rfl)
    simp [ival]
    omega
  simp [← hb,h4]
 ·intro h
  simp only [Bool.and_eq_true,decide_eq_true_eq,Bool.not_eq_true',decide_eq_false_iff_not] at h
  obtain ⟨⟨⟨h1,h2⟩,h3⟩,h4⟩:=h
  have:=(nrm_gcd (q:=rawQ b xs ys)).1
  rwa [← h1,← h2,← h3] at this
theorem sz_of_len {b:Bool} {xs ys:List Nat} (hx:Dig xs) (hy:Dig ys) {k:Nat} (h1:xs.length<=k) (h2:ys.length<=k):Sz (32 * k + 1) (rawQ b xs ys):=by
 have b1:∀{ds:List Nat},Dig ds->ds.length<=k->val ds < 2 ^ (32 * k):=by
  intro ds hd hl
  have:=val_lt hd
  refine Nat.lt_of_lt_of_le this ?_
  have e:(4294967296:Nat) ^ ds.length<=4294967296 ^ k:=Nat.pow_le_pow_right (by omega) hl
  refine Nat.le_trans e ?_
  rw [show (4294967296:Nat)=2 ^ 32 from rfl,← Nat.pow_mul]
  exact Nat.le_refl _
 have c1:=b1 hx h1
 have c2:=b1 hy h2
 have up:(2:Nat) ^ (32 * k)<=2 ^ (32 * k + 1):=Nat.pow_le_pow_right (by omega) (by omega)
 have one:1 < 2 ^ (32 * k + 1):=Nat.one_lt_two_pow (by omega)
 unfold rawQ
 by_cases h0:val ys=0
 ·rw [h0,Rat.mkRat_zero]
  exact ⟨by show (0:Int).natAbs < _; omega,one⟩
 ·unfold Sz
  rw [Rat.num_mkRat,Rat.den_mkRat,if_neg h0,if_neg h0]
  constructor
  ·refine Nat.lt_of_le_of_lt ?_ (Nat.lt_of_lt_of_le c1 up)
   refine Nat.le_trans (Int.natAbs_ediv_le_natAbs _ _) ?_
   rw [ival_natAbs]
   exact Nat.le_refl _
  ·exact Nat.lt_of_le_of_lt (Nat.div_le_self _ _) (Nat.lt_of_lt_of_le c2 up)
theorem c_NormalQ_raw {V:View} {v:Value} {b:Bool} {xs ys:List Nat} (h:RRw V v b xs ys) (m1:xs.length<=1000000) (m2:ys.length<=1000000) :
  Acts prog 103 #[v] V fun r V'=>r=.bool (nrmQ b xs ys):=by
 have h0:=h
 obtain ⟨p,n,c,q,m,e,rfl,hx,hy⟩:=h
 have hl:=hy.len
 obtain ⟨K,hK⟩:∃K:Nat,K=32 * 1000000 + 1:=⟨_,rfl⟩
 have sq:Sz K (rawQ b xs ys):=by rw [hK]; exact sz_of_len hx.dig hy.dig m1 m2
 refine vc_ref01_NormalQ b p n c q m e V _ fun V1 l1=>(c_ref01_Q (h0.le l1) (by omega) (by omega)).mono ?_
 rintro r V2 l2 g
 have g0:=g
 obtain ⟨_,_,_,_,_,_,rfl⟩:=g.shape
 refine ⟨_,_,_,_,_,_,_,rfl,fun V3 l3=>(c_ref01_ToQ (g0.le l3) sq (by omega)).mono ?_⟩
 rintro r V4 l4 k
 have k0:=k
 obtain ⟨_,_,_,_,_,_,_,rfl⟩:=k.shape
 refine ⟨_,_,_,_,_,_,_,rfl,fun V5 l5=>(c_SameQ_raw (h0.le (l1.trans (l2.trans (l3.trans (l4.trans l5))))) (k0.le l5) (by omega) (by omega)).mono ?_⟩
 rintro r V6 l6 rfl
 have e:decide (((m:Nat):Int) > 0)=!decide (ys=[]):=by
  rw [Bool.eq_iff_iff,decide_eq_true_eq,Bool.not_eq_true',decide_eq_false_iff_not,← List.length_eq_zero_iff]; omega
 refine ⟨_,rfl,fun h1 V7 l7=>?_,fun h1 V8 l8=>?_⟩
 ·rw [e,nrmQ_iff,h1,Bool.true_and]
 ·rw [nrmQ_iff,h1,Bool.false_and]
/-- A line of package api in any form. -/
def RLw (V:View) (v:Value) (b1:Bool) (xs:List Nat) (b2:Bool) (ys:List Nat) (b3:Bool) (zs:List Nat):Prop:=∃p n c q m e s i j,v=.agg #[.bool b1,.slice p n c,.bool b2,.slice q m e,.bool b3,.slice s i j]/\RD V p n c xs/\RD V q m e ys/\RD V s i j zs
theorem RLw.le {V V':View} {v:Value} {b1:Bool} {xs:List Nat} {b2:Bool} {ys:List Nat} {b3:Bool} {zs:List Nat} (h:RLw V v b1 xs b2 ys b3 zs) (l:V.Le V'):RLw V' v b1 xs b2 ys b3 zs:=by
 obtain ⟨p,n,c,q,m,e,s,i,j,rfl,h1,h2,h3⟩:=h
 exact ⟨_,_,_,_,_,_,_,_,_,rfl,h1.le l,h2.le l,h3.le l⟩
def lnW (b1:Bool) (xs:List Nat) (b2:Bool) (ys:List Nat) (b3:Bool) (zs:List Nat):L3:=(ival b1 xs,ival b2 ys,ival b3 zs)
/-- The shape of a span of the reference. -/
def SpSh (v:Value):Prop:=∃b p n c p' n' c' d q m e q' m' e' b1 b2,v=.agg #[.bool b,.slice p n c,.slice p' n' c',.bool d,.slice q m e,.slice q' m' e',.bool b1,.bool b2]
theorem endQ_raw {b:Bool} {xs ys:List Nat} {no:Bool} (h:endOk b xs ys no=true):endQ b xs ys no=rawQ b xs ys:=by
 cases no with
 | false=>rfl
 | true=>
  have h:zerQ b xs ys=true:=h
  unfold zerQ at h
  simp only [Bool.and_eq_true,decide_eq_true_eq] at h
  obtain ⟨⟨h1,rfl⟩,rfl⟩:=h
  show (0:Rat)=mkRat _ (val [])
  rw [show val []=0 from rfl,Rat.mkRat_zero]
theorem c_ref06_Read {V:View} {v:Value} {b1:Bool} {xs1 ys1:List Nat} {b2:Bool} {xs2 ys2:List Nat} {na nb:Bool} (h:RSw V v b1 xs1 ys1 b2 xs2 ys2 na nb) (m1:xs1.length<=1000000) (m2:ys1.length<=1000000) (m3:xs2.length<=1000000) (m4:ys2.length<=1000000) :
  Acts prog 41 #[v] V fun r V'=>∃w,r=.tuple #[w,.bool (okW b1 xs1 ys1 b2 xs2 ys2 na nb)]/\SpSh w/\(okW b1 xs1 ys1 b2 xs2 ys2 na nb=true->RSs V' w (spW b1 xs1 ys1 b2 xs2 ys2 na nb)):=by
 obtain ⟨p,n,c,p',n',c',q,m,e,q',m',e',rfl,h1,h2⟩:=h
 have hd1:Dig xs1/\Dig ys1:=by obtain ⟨_,_,_,_,_,_,-,g1,g2⟩:=h1; exact ⟨g1.dig,g2.dig⟩
 have hd2:Dig xs2/\Dig ys2:=by obtain ⟨_,_,_,_,_,_,-,g1,g2⟩:=h2; exact ⟨g1.dig,g2.dig⟩
 obtain ⟨K,hK⟩:∃K:Nat,K=32 * 1000000 + 1:=⟨_,rfl⟩
 have s1:Sz K (rawQ b1 xs1 ys1):=by rw [hK]; exact sz_of_len hd1.1 hd1.2 m1 m2
 have s2:Sz K (rawQ b2 xs2 ys2):=by rw [hK]; exact sz_of_len hd2.1 hd2.2 m3 m4
 refine vc_ref06_Read b1 p n c p' n' c' b2 q m e q' m' e' na nb V _ ⟨fun z _=>z=!(endOk b1 xs1 ys1 na && endOk b2 xs2 ys2 nb),⟨?_,?_⟩,?_⟩
 ·rintro rfl V1 l1
  refine (c_zero_raw (h1.le l1)).mono ?_
  rintro r V2 l2 rfl
  refine ⟨_,rfl,fun hz=>⟨true,by and_intros <;> rfl,by rw [Bool.not_eq_true'] at hz; simp [endOk,hz]⟩,fun hy=>⟨(fun h=>nomatch h),fun _=>?_⟩⟩
  have L:=l1.trans l2
  cases nb with
  | true=>
   refine ⟨fun _ V5 l5=>(c_zero_raw (h2.le (L.trans l5))).mono ?_,(fun h=>nomatch h)⟩
   rintro r V6 l6 rfl
   exact ⟨_,rfl,fun hz=>⟨true,by and_intros <;> rfl,by rw [Bool.not_eq_true'] at hz; simp [endOk,hz]⟩,fun hz=>⟨(fun h=>nomatch h),fun _=>⟨false,by and_intros <;> rfl,by rw [Bool.not_eq_false'] at hz hy; simp [endOk,hz,hy]⟩⟩⟩
  | false=>
   refine ⟨(fun h=>nomatch h),fun _=>⟨fun _ V5 l5=>(c_NormalQ_raw (h2.le (L.trans l5)) m3 m4).mono ?_,(fun h=>nomatch h)⟩⟩
   rintro r V6 l6 rfl
   exact ⟨_,rfl,_,by and_intros <;> rfl,by rw [Bool.not_eq_false'] at hy; simp [endOk,hy]⟩
 ·rintro rfl
  refine ⟨fun _ V1 l1=>(c_NormalQ_raw (h1.le l1) m1 m2).mono ?_,(fun h=>nomatch h)⟩
  rintro r V2 l2 rfl
  refine ⟨_,rfl,fun hz=>⟨true,by and_intros <;> rfl,by rw [Bool.not_eq_true'] at hz; simp [endOk,hz]⟩,fun hy=>?_⟩
  have L:=l1.trans l2
  cases nb with
  | true=>
   refine ⟨fun _ V5 l5=>(c_zero_raw (h2.le (L.trans l5))).mono ?_,(fun h=>nomatch h)⟩
   rintro r V6 l6 rfl
   exact ⟨_,rfl,fun hz=>⟨true,by and_intros <;> rfl,by rw [Bool.not_eq_true'] at hz; simp [endOk,hz]⟩,fun hz=>⟨(fun h=>nomatch h),fun _=>⟨false,by and_intros <;> rfl,by rw [Bool.not_eq_false'] at hz hy; simp [endOk,hz,hy]⟩⟩⟩
  | false=>
   refine ⟨(fun h=>nomatch h),fun _=>⟨fun _ V5 l5=>(c_NormalQ_raw (h2.le (L.trans l5)) m3 m4).mono ?_,(fun h=>nomatch h)⟩⟩
   rintro r V6 l6 rfl
   exact ⟨_,rfl,_,by and_intros <;> rfl,by rw [Bool.not_eq_false'] at hy; simp [endOk,hy]⟩
 rintro z V31 l31 rfl
 refine ⟨rfl,fun hz V32 l32=>?_,fun hz V33 l33=>?_⟩
 ·rw [Bool.not_eq_true'] at hz
  have e:okW b1 xs1 ys1 b2 xs2 ys2 na nb=false:=by unfold okW; rw [hz]; rfl
  rw [e]
  exact ⟨_,rfl,⟨_,_,_,_,_,_,_,_,_,_,_,_,_,_,_,_,rfl⟩,(fun h=>nomatch h)⟩
 ·rw [Bool.not_eq_false',Bool.and_eq_true] at hz
  have k1:=endQ_raw hz.1
  have k2:=endQ_raw hz.2
  have ok:okW b1 xs1 ys1 b2 xs2 ys2 na nb=!(spW b1 xs1 ys1 b2 xs2 ys2 na nb).emp:=by unfold okW; rw [hz.1,hz.2]; rfl
  refine (c_ref01_Q (h1.le (l31.trans l33)) (by omega) (by omega)).mono ?_
  rintro r V34 l34 g
  have g0:=g
  obtain ⟨_,_,_,_,_,_,rfl⟩:=g.shape
  refine ⟨_,_,_,_,_,_,_,rfl,fun V35 l35=>(c_ref01_Q (h2.le (l31.trans (l33.trans (l34.trans l35)))) (by omega) (by omega)).mono ?_⟩
  rintro r V36 l36 k
  have k0:=k
  obtain ⟨_,_,_,_,_,_,rfl⟩:=k.shape
  have es:spW b1 xs1 ys1 b2 xs2 ys2 na nb=⟨rawQ b1 xs1 ys1,rawQ b2 xs2 ys2,na,nb⟩:=by unfold spW; rw [k1,k2]
  have rs:∀V':View,V36.Le V'->RSs V' _ (spW b1 xs1 ys1 b2 xs2 ys2 na nb):=fun V' l'=>by rw [es]; exact ⟨_,_,_,_,_,_,_,_,_,_,_,_,_,_,rfl,g0.le (l35.trans (l36.trans l')),k0.le l'⟩
  refine ⟨_,_,_,_,_,_,_,rfl,fun ha V37 l37=>⟨_,by rw [ok,es,ha]; rfl,⟨_,_,_,_,_,_,_,_,_,_,_,_,_,_,_,_,rfl⟩,fun _=>rs V37 l37⟩,fun ha=>⟨fun hb V38 l38=>⟨_,by rw [ok,es,ha,hb]; rfl,⟨_,_,_,_,_,_,_,_,_,_,_,_,_,_,_,_,rfl⟩,fun _=>rs V38 l38⟩,fun hb V39 l39=>(c_num_C (g0.le (l35.trans (l36.trans l39))) (k0.le l39) s1 s2 (by omega)).mono ?_⟩⟩
  rintro r V40 l40 rfl
  refine ⟨_,rfl,fun V41 l41=>⟨_,?_,⟨_,_,_,_,_,_,_,_,_,_,_,_,_,_,_,_,rfl⟩,fun _=>rs V41 (l39.trans (l40.trans l41))⟩⟩
  rw [ok,es]
  simp only [Sp.emp,ha,hb,Bool.not_false,Bool.true_and]
  have e:∀x:Int,decide (x < 0)=!decide (x ≥ 0):=fun x=>by rw [Bool.eq_iff_iff,decide_eq_true_eq,Bool.not_eq_true',decide_eq_false_iff_not]; omega
  rw [e (cmpQ _ _)]
/-- A fragment of package api in any form. -/
structure FW where
 b1:Bool
 xs:List Nat
 b2:Bool
 ys:List Nat
 b3:Bool
 zs:List Nat
 c1:Bool
 us:List Nat
 vs:List Nat
 c2:Bool
 ws:List Nat
 ts:List Nat
 na:Bool
 nb:Bool
def FW.ln (f:FW):L3:=lnW f.b1 f.xs f.b2 f.ys f.b3 f.zs
def FW.sp (f:FW):Sp:=spW f.c1 f.us f.vs f.c2 f.ws f.ts f.na f.nb
def FW.ok (f:FW):Bool:=okLn f.b1 f.xs f.b2 f.ys f.b3 f.zs && okW f.c1 f.us f.vs f.c2 f.ws f.ts f.na f.nb
structure FW.short (f:FW):Prop where
 x:f.xs.length<=1000000
 y:f.ys.length<=1000000
 z:f.zs.length<=1000000
 u:f.us.length<=1000000
 v:f.vs.length<=1000000
 w:f.ws.length<=1000000
 t:f.ts.length<=1000000
def RFw (V:View) (v:Value) (f:FW):Prop:=∃p1 n1 d1 p2 n2 d2 p3 n3 d3 p n c p' n' c' q m e q' m' e',
 v=.agg #[.bool f.b1,.slice p1 n1 d1,.bool f.b2,.slice p2 n2 d2,.bool f.b3,.slice p3 n3 d3,.bool f.c1,.slice p n c,.slice p' n' c',.bool f.c2,.slice q m e,.slice q' m' e',.bool f.na,.bool f.nb] /\
 RLw V (.agg #[.bool f.b1,.slice p1 n1 d1,.bool f.b2,.slice p2 n2 d2,.bool f.b3,.slice p3 n3 d3]) f.b1 f.xs f.b2 f.ys f.b3 f.zs /\
 RSw V (.agg #[.bool f.c1,.slice p n c,.slice p' n' c',.bool f.c2,.slice q m e,.slice q' m' e',.bool f.na,.bool f.nb]) f.c1 f.us f.vs f.c2 f.ws f.ts f.na f.nb
theorem RFw.le {V V':View} {v:Value} {f:FW} (h:RFw V v f) (l:V.Le V'):RFw V' v f:=by
 obtain ⟨p1,n1,d1,p2,n2,d2,p3,n3,d3,p,n,c,p',n',c',q,m,e,q',m',e',rfl,h1,h2⟩:=h
 exact ⟨_,_,_,_,_,_,_,_,_,_,_,_,_,_,_,_,_,_,_,_,_,rfl,h1.le l,h2.le l⟩
end Go.Proofs.Tryz
/- Numbers in any form that are right; short numbers. -/
namespace Go.Proofs.Tryz
open Go.Eng Go.Big
theorem re_of {V:View} {v:Value} {b:Bool} {xs ys:List Nat} {no:Bool} (h:RRw V v b xs ys) (ho:endOk b xs ys no=true):RE V v (endQ b xs ys no) no:=by
 cases no with
 | true=>
  have ho:zerQ b xs ys=true:=ho
  unfold zerQ at ho
  simp only [Bool.and_eq_true,decide_eq_true_eq,Bool.not_eq_true'] at ho
  obtain ⟨⟨rfl,rfl⟩,rfl⟩:=ho
  exact ⟨fun _=>h,(fun h=>nomatch h)⟩
 | false=>
  have ho:nrmQ b xs ys=true:=ho
  rw [nrmQ_iff] at ho
  simp only [Bool.and_eq_true,decide_eq_true_eq] at ho
  obtain ⟨⟨⟨h1,h2⟩,h3⟩,-⟩:=ho
  refine ⟨(fun h=>nomatch h),fun _=>?_⟩
  obtain ⟨p,n,c,p',n',c',rfl,g1,g2⟩:=h
  refine ⟨p,n,c,p',n',c',?_,?_,?_⟩
  ·show _=Value.agg #[.bool (decide ((rawQ b xs ys).num < 0)),.slice p n c,.slice p' n' c']
   rw [← h1]
  ·show RD V p n c (digs (rawQ b xs ys).num.natAbs)
   rw [← h2]; exact g1
  ·show RD V p' n' c' (digs (rawQ b xs ys).den)
   rw [← h3]; exact g2
/-! short numbers -/
structure Lns (V:View) (p:OA) (n:Nat) (l:List Nat):Prop where
 len:n=l.length
 at_:∀(i:Nat) (h:i < l.length),∃ad q e,addrAdd p (i * 1)=some ad/\V.at ad (.slice q l[i] e)
theorem Lns.le {V V':View} {p:OA} {n:Nat} {l:List Nat} (h:Lns V p n l) (e:V.Le V'):Lns V' p n l:=⟨h.len,fun i hi=>by obtain ⟨ad,q,c,h1,h2⟩:=h.at_ i hi; exact ⟨ad,q,c,h1,e.at h2⟩⟩
structure LnsQ (V:View) (p:OA) (n:Nat) (l:List (Nat × Nat)):Prop where
 len:n=l.length
 at_:∀(i:Nat) (h:i < l.length),∃ad b q e q' e',addrAdd p (i * 3)=some ad/\V.at (ad.add 0) (.bool b)/\V.at (ad.add 1) (.slice q l[i].1 e)/\V.at (ad.add 2) (.slice q' l[i].2 e')
theorem LnsQ.le {V V':View} {p:OA} {n:Nat} {l:List (Nat × Nat)} (h:LnsQ V p n l) (e:V.Le V'):LnsQ V' p n l:=⟨h.len,fun i hi=>by obtain ⟨ad,b,q,c,q',c',h1,h2,h3,h4⟩:=h.at_ i hi; exact ⟨ad,b,q,c,q',c',h1,e.at h2,e.at h3,e.at h4⟩⟩
theorem c_SmallQ {V:View} {p:OA} {n c:Nat} {l:List (Nat × Nat)} (N:Int) (h:LnsQ V p n l) (hn:l.length < 1000000) :
  Acts prog 40 #[.int .i64 N,.slice p n c] V fun r V'=>∃b,r=.bool b/\(b=true->∀m ∈ l,(m.1:Int)<=N/\(m.2:Int)<=N):=by
 obtain rfl:=h.len
 refine vc_scene_SmallQ N p _ c V _ ⟨fun z _=>0<=z/\z<=l.length/\∀i (hi:i < l.length),(i:Int) < z->((l[i].1:Nat):Int)<=N/\((l[i].2:Nat):Int)<=N,fun z=>(l.length - z).toNat,⟨0,by and_intros <;> rfl,by omega,by omega,fun i hi h=>by omega⟩,?_⟩
 rintro z V1 l1 ⟨z0,z1,z2⟩
 refine ⟨rfl,fun hz=>?_,fun hz V3 l3=>⟨true,rfl,fun _ m hm=>?_⟩⟩
 ·have hz:z < l.length:=of_decide_eq_true hz
  obtain ⟨i,rfl⟩:∃i:Nat,z=i:=⟨z.toNat,by omega⟩
  have hi:i < l.length:=by omega
  rw [Int.toNat_natCast]
  have w:i64.wrap ((i:Int) + 1)=(i:Int) + 1:=i64w (by omega)
  rw [w]
  obtain ⟨ad,b,q,e,q',e',ha,hx,hy,hw⟩:=(h.le l1).at_ i hi
  refine ⟨isSome_addr ha,⟨by omega,hz⟩,b,q,l[i].1,e,q',l[i].2,e',ad,ha,hx,hy,hw,fun hb V2 l2=>⟨false,rfl,(fun h=>nomatch h)⟩,fun hb=>⟨fun hc V2 l2=>⟨false,rfl,(fun h=>nomatch h)⟩,fun hc=>⟨(i:Int) + 1,by dsimp only; omega,by and_intros <;> rfl,by omega,by omega,fun j hj hlt=>?_⟩⟩⟩
  have hb:¬ ((l[i].1:Nat):Int) > N:=of_decide_eq_false hb
  have hc:¬ ((l[i].2:Nat):Int) > N:=of_decide_eq_false hc
  by_cases e:j=i
  ·subst e; exact ⟨by omega,by omega⟩
  ·exact z2 j hj (by omega)
 ·have hz:¬ z < l.length:=of_decide_eq_false hz
  obtain ⟨i,hi,rfl⟩:=List.mem_iff_getElem.1 hm
  exact z2 i hi (by omega)
theorem lnsQ2 {V:View} {bk:Nat} {b1 p1 n1 c1 p2 n2 c2 b2 p3 n3 c3 p4 n4 c4} {ty:TypeId} (h:V.blk bk (.cells #[.bool b1,.slice p1 n1 c1,.slice p2 n2 c2,.bool b2,.slice p3 n3 c3,.slice p4 n4 c4] ty (0,0))):LnsQ V (some ⟨bk,0,none⟩) 2 [(n1,n2),(n3,n4)]:=by
 refine ⟨rfl,fun i hi=>?_⟩
 have hv:=fun i x hx=>blk_at (i:=i) (v:=x) (xs:=[Value.bool b1,.slice p1 n1 c1,.slice p2 n2 c2,.bool b2,.slice p3 n3 c3,.slice p4 n4 c4]) h hx
 have ha:addrAdd (some ⟨bk,0,none⟩) (i * 3)=some ⟨bk,i * 3,none⟩:=by simp [addrAdd,add_zero']
 have hi:i=0 \/ i=1:=by have:i < 2:=hi; omega
 have hj:∀j,(⟨bk,i * 3,none⟩:Addr).add j=⟨bk,i * 3 + j,none⟩:=fun j=>by rw [← add_zero',Addr_add_add,add_zero']
 rcases hi with rfl | rfl
 ·exact ⟨_,_,_,_,_,_,ha,by rw [hj]; exact hv 0 _ rfl,by rw [hj]; exact hv 1 _ rfl,by rw [hj]; exact hv 2 _ rfl⟩
 ·exact ⟨_,_,_,_,_,_,ha,by rw [hj]; exact hv 3 _ rfl,by rw [hj]; exact hv 4 _ rfl,by rw [hj]; exact hv 5 _ rfl⟩
end Go.Proofs.Tryz
/- Arguments of package api as they came in: digits, numbers, lines, spans; slices of such. -/
namespace Go.Proofs.YtimkdinmcbepnaaGreatDoor
open Go.ChangeShapes Go.WideShapes Go.ChangeAt Go.RowKit Go.Eng Go.Big Go.Proofs.Tryz
section
variable {H:Type} {enc:TypeId × Value->H} {W:World} {fuel:Nat}
theorem some_of {α:Type} {xs:List α} {i:Nat} {o:Option α} (h:o=xs[i]?) (hi:i < xs.length):∃y,o=some y:=⟨xs[i],by rw [h,List.getElem?_eq_getElem hi]⟩
theorem field_of {H:Type} {enc:TypeId × Value->H} {W:World} {fs:Array Field} {cs:List Value} {xs:List (DataW H × List MemPlace)} {m:Nat} (hf:∀(i:Nat) (f:Field),fs[i]?=some f->DataW.trod enc Tryz.prog W 0 (fun _=>true) true m f.type ((cs.drop f.offset).take (Tryz.prog.cellsOf f.type))=xs[i]?) (hl:xs.length=fs.size) (i:Nat) {f:Field} (hi:fs[i]?=some f) {n:Nat} (hn:Tryz.prog.cellsOf f.type=n) :
  ∃y,DataW.trod enc Tryz.prog W 0 (fun _=>true) true m f.type ((cs.drop f.offset).take n)=some y:=by
 have:=hf i f hi
 rw [hn] at this
 have lt:i < xs.length:=by
  rw [hl]
  exact (Array.getElem?_eq_some_iff.1 hi).1
 exact some_of this lt
set_option maxRecDepth 100000 in
theorem bool_of {c:Value} {y:DataW H × List MemPlace} (h:DataW.trod enc Tryz.prog W 0 (fun _=>true) true fuel 4 [c]=some y):∃b,c=.bool b:=by
 obtain ⟨b,e,-⟩:=DataW.trod_bool Tryz.underlying4 h
 exact ⟨b,by simpa using e⟩
set_option maxRecDepth 100000 in
theorem nat_of {c:Value} {y:DataW H × List MemPlace} (h:DataW.trod enc Tryz.prog W 0 (fun _=>true) true fuel 47 [c]=some y):∃p n k ds,c=.slice p n k/\RD (View.all W) p n k ds:=by
 rcases open_ints Tryz.underlying47 Tryz.underlying221 (show Tryz.prog.cellsOf 221=1 by kernel_rfl) h with ⟨e,-⟩ | ⟨a,len,cap,zs,e,_,hl,-,hz,-,hcell,hwf⟩
 ·exact ⟨none,0,0,[],by simpa using e,RD.nil⟩
 ·simp only [if_true] at hz
  have hd:∀z ∈ zs,0<=z/\z < 4294967296:=fun z hm=>by
   have:=hwf z hm
   simp only [Lit.wf,Bool.and_eq_true,decide_eq_true_eq] at this
   have h1:IntKind.min .u32=0:=by decide
   have h2:IntKind.max .u32=4294967295:=by decide
   rw [h1,h2] at this
   exact ⟨this.1,by omega⟩
  refine ⟨some a,len,cap,(zs.take len).map Int.toNat,by simpa using e,?_,hl,?_,?_,(fun h=>nomatch h)⟩
  ·simp; omega
  ·intro i v hv
   simp only [u32s,List.map_map,List.getElem?_map,Option.map_eq_some_iff] at hv
   obtain ⟨z,hz1,rfl⟩:=hv
   rw [List.getElem?_take] at hz1
   split at hz1
   ·rename_i hi
    have hi':i < zs.length:=by omega
    rw [List.getElem?_eq_getElem hi'] at hz1
    have hz1:=Option.some.inj hz1
    have:=hcell i hi'
    rw [List.getD_eq_getElem?_getD,List.getElem?_eq_getElem hi'] at this
    simp only [Option.getD_some] at this
    have hm:=hd _ (List.getElem_mem hi')
    refine ⟨a,rfl,fun h=>h,?_⟩
    show W.cell? (a.add i)=_
    rw [this,hz1]
    have:((z.toNat:Nat):Int)=z:=Int.toNat_of_nonneg (hz1 ▸ hm.1)
    simp only [Function.comp]
    rw [this]
   ·cases hz1
  ·intro d hm
   simp only [List.mem_map] at hm
   obtain ⟨z,hz1,rfl⟩:=hm
   have:=hd z (List.mem_of_mem_take hz1)
   omega
set_option maxRecDepth 100000 in
theorem int_of {c0 c1:Value} {y:DataW H × List MemPlace} (h:DataW.trod enc Tryz.prog W 0 (fun _=>true) true fuel 49 [c0,c1]=some y):∃b p n k ds,c0=.bool b/\c1=.slice p n k/\RD (View.all W) p n k ds:=by
 obtain ⟨xs,m,-,-,-,hl,hf⟩:=DataW.trod_struct Tryz.underlying49 h
 obtain ⟨y0,h0⟩:=field_of hf hl 0 rfl (show Tryz.prog.cellsOf 4=1 by kernel_rfl)
 obtain ⟨y1,h1⟩:=field_of hf hl 1 rfl (show Tryz.prog.cellsOf 47=1 by kernel_rfl)
 obtain ⟨b,rfl⟩:=bool_of h0
 obtain ⟨p,n,k,ds,rfl,hd⟩:=nat_of h1
 exact ⟨b,p,n,k,ds,rfl,rfl,hd⟩
set_option maxRecDepth 100000 in
theorem rat_of {c0 c1 c2:Value} {y:DataW H × List MemPlace} (h:DataW.trod enc Tryz.prog W 0 (fun _=>true) true fuel 51 [c0,c1,c2]=some y):∃b xs ys,RRw (View.all W) (.agg #[c0,c1,c2]) b xs ys/\∃p n k p' n' k',c0=.bool b/\c1=.slice p n k/\c2=.slice p' n' k':=by
 obtain ⟨xs,m,-,-,-,hl,hf⟩:=DataW.trod_struct Tryz.underlying51 h
 obtain ⟨y0,h0⟩:=field_of hf hl 0 rfl (show Tryz.prog.cellsOf 49=2 by kernel_rfl)
 obtain ⟨y1,h1⟩:=field_of hf hl 1 rfl (show Tryz.prog.cellsOf 47=1 by kernel_rfl)
 obtain ⟨b,p,n,k,ds,rfl,rfl,hd⟩:=int_of h0
 obtain ⟨p',n',k',ds',rfl,hd'⟩:=nat_of h1
 exact ⟨b,ds,ds',⟨_,_,_,_,_,_,rfl,hd,hd'⟩,_,_,_,_,_,_,rfl,rfl,rfl⟩
set_option maxRecDepth 100000 in
theorem span_of {c0 c1 c2 c3 c4 c5 c6 c7:Value} {y:DataW H × List MemPlace} (h:DataW.trod enc Tryz.prog W 0 (fun _=>true) true fuel 77 [c0,c1,c2,c3,c4,c5,c6,c7]=some y):∃b1 us vs b2 ws ts na nb,RSw (View.all W) (.agg #[c0,c1,c2,c3,c4,c5,c6,c7]) b1 us vs b2 ws ts na nb/\∃p n k p' n' k' p2 n2 k2 p3 n3 k3,c0=.bool b1/\c1=.slice p n k/\c2=.slice p' n' k'/\c3=.bool b2/\c4=.slice p2 n2 k2/\c5=.slice p3 n3 k3/\c6=.bool na/\c7=.bool nb:=by
 obtain ⟨xs,m,-,-,-,hl,hf⟩:=DataW.trod_struct Tryz.underlying77 h
 obtain ⟨y0,h0⟩:=field_of hf hl 0 rfl (show Tryz.prog.cellsOf 51=3 by kernel_rfl)
 obtain ⟨y1,h1⟩:=field_of hf hl 1 rfl (show Tryz.prog.cellsOf 51=3 by kernel_rfl)
 obtain ⟨y2,h2⟩:=field_of hf hl 2 rfl (show Tryz.prog.cellsOf 4=1 by kernel_rfl)
 obtain ⟨y3,h3⟩:=field_of hf hl 3 rfl (show Tryz.prog.cellsOf 4=1 by kernel_rfl)
 obtain ⟨b1,d1,e1,g1,_,_,_,_,_,_,rfl,rfl,rfl⟩:=rat_of h0
 obtain ⟨b2,d2,e2,g2,_,_,_,_,_,_,rfl,rfl,rfl⟩:=rat_of h1
 obtain ⟨na,rfl⟩:=bool_of h2
 obtain ⟨nb,rfl⟩:=bool_of h3
 exact ⟨b1,d1,e1,b2,d2,e2,na,nb,⟨_,_,_,_,_,_,_,_,_,_,_,_,rfl,g1,g2⟩,_,_,_,_,_,_,_,_,_,_,_,_,rfl,rfl,rfl,rfl,rfl,rfl,rfl,rfl⟩
end
theorem cons_of {α:Type} {l:List α} {n:Nat} (h:l.length=n + 1):∃a r,l=a :: r/\r.length=n:=by
 cases l with
 | nil=>simp at h
 | cons a r=>exact ⟨a,r,rfl,by simpa using h⟩
theorem list_of {α:Type} {P:Nat->α->Prop} (n:Nat) (h:∀i,i < n->∃a,P i a):∃l:List α,l.length=n/\∀i (hi:i < l.length),P i l[i]:=by
 induction n with
 | zero=>exact ⟨[],rfl,fun i hi=>absurd hi (Nat.not_lt_zero i)⟩
 | succ n ih=>
  obtain ⟨l,hl,hp⟩:=ih fun i hi=>h i (by omega)
  obtain ⟨a,ha⟩:=h n (by omega)
  refine ⟨l++[a],by simp [hl],fun i hi=>?_⟩
  rw [List.length_append,List.length_singleton] at hi
  by_cases e:i < l.length
  ·rw [List.getElem_append_left e]; exact hp i e
  ·obtain rfl:i=l.length:=by omega
   rw [List.getElem_append_right (Nat.le_refl _)]
   simpa [hl] using ha
/-- A slice of structs as it came in. -/
theorem lst_of_trod {α:Type} {sz:Nat} {R:View->Value->α->Prop} {H:Type} {enc:TypeId × Value->H} {W:World} {t e:TypeId} {p:OA} {n c:Nat} {d:DataW H} {ps:List MemPlace} (ht:Tryz.prog.underlying t=some (.slice e)) (hc:Tryz.prog.cellsOf e=sz)
  (each:∀(fuel:Nat) (cs:List Value) (y:DataW H × List MemPlace),cs.length=sz->DataW.trod enc Tryz.prog W 0 (fun _=>true) true fuel e cs=some y->∃a:α,R (View.all W) (.agg cs.toArray) a)
  (h:DataW.Trod enc Tryz.prog W 0 (fun _=>true) true t (.slice p n c) d ps):n<=c/\∃l:List α,Lst sz R (View.all W) p n l:=by
 obtain ⟨fuel,hf⟩:=h
 rcases Go.Deep.open_slice ht hf with ⟨hcs,-⟩ | ⟨a,len,cap,m,k,D,Pl,hcs,-,hl,-,hm,-,hx⟩
 ·simp [Value.cells] at hcs
  obtain ⟨rfl,rfl,rfl⟩:=hcs
  exact ⟨Nat.le_refl _,[],Lst.nil⟩
 ·simp [Value.cells] at hcs
  obtain ⟨rfl,rfl,rfl⟩:=hcs
  simp only [if_true] at hm
  subst hm
  refine ⟨hl,?_⟩
  have key:∀i,i < n->∃x:α,∃cs:List Value,cs.length=sz/\R (View.all W) (.agg cs.toArray) x/\∀j v,cs[j]?=some v->(View.all W).at ((a.add (i * sz)).add j) v:=by
   intro i hi
   obtain ⟨cs,h1,h2⟩:=hx i (by omega)
   rw [hc] at h1
   unfold World.cells? at h1
   rw [if_pos (Nat.zero_le _)] at h1
   have h3:cs.length=sz:=by simpa using mapM_some_length h1
   obtain ⟨x,h4⟩:=each k cs _ h3 h2
   refine ⟨x,cs,h3,h4,fun j v hj=>?_⟩
   have hj':j < sz:=by rw [← h3]; exact (List.getElem?_eq_some_iff.1 hj).1
   have:=mapM_some_get h1 j j (by simp [hj'])
   exact ⟨fun h=>h,by show W.cell? _=_; rw [this]; exact hj⟩
  obtain ⟨l,hl2,hp⟩:=list_of n key
  refine ⟨l,hl2.symm,fun i hi=>?_⟩
  obtain ⟨cs,h3,h4,h5⟩:=hp i hi
  exact ⟨a.add (i * sz),rfl,cs,h3,h4,h5⟩
end Go.Proofs.YtimkdinmcbepnaaGreatDoor
/- Plain laws: the part of a span on one side of a line and its sample; the only common point of two fragments is symmetric. -/
namespace Go.Proofs.Tryz
open Go.Eng Go.Big
theorem cmpQ_or (x y:Rat):(x < y/\cmpQ x y=-1) \/ (x=y/\cmpQ x y=0) \/ (y < x/\cmpQ x y=1):=by
 by_cases h1:x < y
 ·exact .inl ⟨h1,cmpQ_lt.1 h1⟩
 ·by_cases h2:x=y
  ·exact .inr (.inl ⟨h2,cmpQ_eq.1 h2⟩)
  ·have h3:y < x:=by grind
   exact .inr (.inr ⟨h3,cmpQ_gt.1 h3⟩)
theorem Sp.emp_iff {s:Sp}:s.emp=false↔(s.a=true \/ s.b=true \/ s.lo < s.hi):=by
 unfold Sp.emp
 rcases cmpQ_or s.lo s.hi with ⟨h,e⟩ | ⟨h,e⟩ | ⟨h,e⟩ <;> rw [e] <;> cases s.a <;> cases s.b <;> simp <;> grind
/-! the only common point -/
end Go.Proofs.Tryz
/- Plain: sets of spans: the points inside; a list in order is told by its points. -/
namespace Go.Proofs.Tryz
open Go.Eng Go.Big
def Sp.inn (s:Sp) (t:Rat):Prop:=(s.a=true \/ s.lo < t)/\(s.b=true \/ t < s.hi)
def memS (ss:List Sp) (t:Rat):Prop:=∃s ∈ ss,s.inn t
def Sp.good (s:Sp):Prop:=s.can/\s.emp=false
def Sp.bef (s t:Sp):Prop:=s.b=false/\t.a=false/\s.hi < t.lo
/-- A list in order whose spans do not touch. -/
def reg (ss:List Sp):Prop:=(∀s ∈ ss,s.good)/\ss.Pairwise Sp.bef
theorem pick (E:List Rat):∀l u:Rat,l < u->∃t,l < t/\t < u/\t ∉ E:=by
 induction E with
 | nil=>exact fun l u h=>⟨(l + u) / 2,by grind,by grind,by simp⟩
 | cons e r ih=>
  intro l u h
  by_cases c:l < e/\e < u
  ·obtain ⟨t,h1,h2,h3⟩:=ih l e c.1
   refine ⟨t,h1,by grind,fun hm=>?_⟩
   rcases List.mem_cons.1 hm with rfl | hm
   ·grind
   ·exact h3 hm
  ·obtain ⟨t,h1,h2,h3⟩:=ih l u h
   refine ⟨t,h1,h2,fun hm=>?_⟩
   rcases List.mem_cons.1 hm with rfl | hm
   ·exact c ⟨h1,h2⟩
   ·exact h3 hm
theorem maxL : ∀ l : List Rat, l = [] ∨ ∃ m ∈ l, ∀ x ∈ l, x ≤ m := by
  intro l
  induction l with
  | nil => exact .inl rfl
  | cons y r ih =>
    rcases ih with rfl | ⟨m, hm, h⟩
    · exact .inr ⟨y, by simp, by intro x hx; simp at hx; grind⟩
    · by_cases c : m < y
      · exact .inr ⟨y, by simp, fun x hx => by rcases List.mem_cons.1 hx with rfl | hx; · grind
                                               · have := h x hx; grind⟩
      · exact .inr ⟨m, by simp [hm], fun x hx => by rcases List.mem_cons.1 hx with rfl | hx; · grind
                                                    · exact h x hx⟩
theorem minL : ∀ l : List Rat, l = [] ∨ ∃ m ∈ l, ∀ x ∈ l, m ≤ x := by
  intro l
  induction l with
  | nil => exact .inl rfl
  | cons y r ih =>
    rcases ih with rfl | ⟨m, hm, h⟩
    · exact .inr ⟨y, by simp, by intro x hx; simp at hx; grind⟩
    · by_cases c : y < m
      · exact .inr ⟨y, by simp, fun x hx => by rcases List.mem_cons.1 hx with rfl | hx; · grind
                                               · have := h x hx; grind⟩
      · exact .inr ⟨m, by simp [hm], fun x hx => by rcases List.mem_cons.1 hx with rfl | hx; · grind
                                                    · exact h x hx⟩
theorem pickL (E Ls Us:List Rat) (h:∀l ∈ Ls,∀u ∈ Us,l < u):∃t,(∀l ∈ Ls,l < t)/\(∀u ∈ Us,t < u)/\t ∉ E:=by
 have key:∃a b:Rat,a < b/\(∀l ∈ Ls,l<=a)/\∀u ∈ Us,b<=u:=by
  rcases maxL Ls with rfl | ⟨m,hm,h1⟩
  ·rcases minL Us with rfl | ⟨n,hn,h2⟩
   ·exact ⟨0,1,by decide,(fun _ h=>by cases h),(fun _ h=>by cases h)⟩
   ·exact ⟨n - 1,n,by grind,(fun _ h=>by cases h),h2⟩
  ·rcases minL Us with rfl | ⟨n,hn,h2⟩
   ·exact ⟨m,m + 1,by grind,h1,(fun _ h=>by cases h)⟩
   ·exact ⟨m,n,h m hm n hn,h1,h2⟩
 obtain ⟨a,b,hab,h1,h2⟩:=key
 obtain ⟨t,t1,t2,t3⟩:=pick E a b hab
 exact ⟨t,fun l hl=>by have:=h1 l hl; grind,fun u hu=>by have:=h2 u hu; grind,t3⟩
def Sp.los (s:Sp):List Rat:=if s.a then [] else [s.lo]
def Sp.his (s:Sp):List Rat:=if s.b then [] else [s.hi]
theorem inn_iff {s:Sp} {t:Rat}:s.inn t↔(∀l ∈ s.los,l < t)/\∀u ∈ s.his,t < u:=by
 unfold Sp.inn Sp.los Sp.his
 cases s.a <;> cases s.b <;> simp
theorem los_mem {s:Sp} {l:Rat} (h:l ∈ s.los):s.a=false/\l=s.lo:=by
 unfold Sp.los at h; cases ha:s.a <;> simp [ha] at h; exact ⟨rfl,h⟩
theorem his_mem {s:Sp} {l:Rat} (h:l ∈ s.his):s.b=false/\l=s.hi:=by
 unfold Sp.his at h; cases ha:s.b <;> simp [ha] at h; exact ⟨rfl,h⟩
theorem lo_hi {s:Sp} (h:s.emp=false) (ha:s.a=false) (hb:s.b=false):s.lo < s.hi:=by
 rcases Sp.emp_iff.1 h with h | h | h
 ·rw [ha] at h; cases h
 ·rw [hb] at h; cases h
 ·exact h
theorem pick_in {s:Sp} (h:s.emp=false) (E:List Rat):∃t,s.inn t/\t ∉ E:=by
 obtain ⟨t,h1,h2,h3⟩:=pickL E s.los s.his (fun l hl u hu=>by
  obtain ⟨ha,rfl⟩:=los_mem hl; obtain ⟨hb,rfl⟩:=his_mem hu; exact lo_hi h ha hb)
 exact ⟨t,inn_iff.2 ⟨h1,h2⟩,h3⟩
theorem reg.tail {s:Sp} {r:List Sp} (h:reg (s :: r)):reg r:=⟨fun x hx=>h.1 x (by simp [hx]),(List.pairwise_cons.1 h.2).2⟩
theorem reg.bef {s:Sp} {r:List Sp} (h:reg (s :: r)) {x:Sp} (hx:x ∈ r):s.bef x:=(List.pairwise_cons.1 h.2).1 x hx
theorem not_low {s:Sp} {r:List Sp} (h:reg (s :: r)) (ha:s.a=false) {t:Rat} (ht:t<=s.lo):¬ memS (s :: r) t:=by
 rintro ⟨x,hx,h1,h2⟩
 rcases List.mem_cons.1 hx with rfl | hx
 ·rcases h1 with h1 | h1
  ·rw [ha] at h1; cases h1
  ·grind
 ·obtain ⟨b1,b2,b3⟩:=h.bef hx
  have:=lo_hi (h.1 s (by simp)).2 ha b1
  rcases h1 with h1 | h1
  ·rw [b2] at h1; cases h1
  ·grind
def nl:List Sp->List Rat
 | []=>[]
 | x :: _=>[x.lo]
theorem not_gap {s:Sp} {r:List Sp} (h:reg (s :: r)) (hb:s.b=false) {t:Rat} (h1:s.hi<=t) (h2:∀x ∈ nl r,t<=x):¬ memS (s :: r) t:=by
 rintro ⟨x,hx,g1,g2⟩
 rcases List.mem_cons.1 hx with rfl | hx
 ·rcases g2 with g2 | g2
  ·rw [hb] at g2; cases g2
  ·grind
 ·cases r with
  | nil=>cases hx
  | cons y r=>exact not_low h.tail (h.bef (by simp)).2.1 (h2 y.lo (by simp [nl])) ⟨x,hx,g1,g2⟩
set_option linter.unusedSectionVars false
section
variable {s s':Sp} {r r':List Sp} {E:List Rat} (h:reg (s :: r)) (h':reg (s' :: r')) (e:∀t,t ∉ E->memS (s :: r) t->memS (s' :: r') t)
include h h' e
theorem un_a (ha:s.a=true):s'.a=true:=by
 cases ha':s'.a with
 | true=>rfl
 | false=>
  obtain ⟨t,-,h2,h3⟩:=pickL E [] (s'.lo :: s.his) (fun l hl=>by cases hl)
  have:=e t h3 ⟨s,by simp,.inl ha,(inn_iff.2 ⟨(fun l hl=>by unfold Sp.los at hl; rw [if_pos ha] at hl; cases hl),fun u hu=>h2 u (by simp [hu])⟩).2⟩
  exact absurd this (not_low h' ha' (by have:=h2 s'.lo (by simp); grind))
theorem un_lo (ha:s.a=false) (ha':s'.a=false):¬ s.lo < s'.lo:=by
 intro hlt
 obtain ⟨t,h1,h2,h3⟩:=pickL E [s.lo] (s'.lo :: s.his) (fun l hl u hu=>by
  obtain rfl:l=s.lo:=by simpa using hl
  rcases List.mem_cons.1 hu with rfl | hu
  ·exact hlt
  ·obtain ⟨hb,rfl⟩:=his_mem hu
   exact lo_hi (h.1 s (by simp)).2 ha hb)
 have:=e t h3 ⟨s,by simp,inn_iff.2 ⟨(fun l hl=>by obtain ⟨-,rfl⟩:=los_mem hl; exact h1 _ (by simp)),fun u hu=>h2 u (by simp [hu])⟩⟩
 exact absurd this (not_low h' ha' (by have:=h2 s'.lo (by simp); grind))
theorem un_b (h0 : s.a = false → s'.a = false ∧ s.lo = s'.lo) (hb : s.b = true) : s'.b = true := by
  cases hb' : s'.b with
  | true => rfl
  | false =>
    have hn : ∀ u ∈ nl r', s'.hi < u := fun u hu => by
      cases r' with
      | nil => cases hu
      | cons y r' => obtain rfl : u = y.lo := by simpa [nl] using hu
                     exact (h'.bef (by simp)).2.2
    obtain ⟨t, h1, h2, h3⟩ := pickL E (s'.hi :: s.los) (nl r') (fun l hl u hu => by
      rcases List.mem_cons.1 hl with rfl | hl
      · exact hn u hu
      · obtain ⟨ha, rfl⟩ := los_mem hl
        have := lo_hi (h'.1 s' (by simp)).2 (h0 ha).1 hb'
        have := hn u hu
        rw [(h0 ha).2]; grind)
    have := e t h3 ⟨s, by simp, (inn_iff.2 ⟨(fun l hl => h1 l (by simp [hl])), (fun u hu => by unfold Sp.his at hu; rw [if_pos hb] at hu; cases hu)⟩ : s.inn t)⟩
    exact absurd this (not_gap h' hb' (by have := h1 s'.hi (by simp); grind) (fun x hx => by have := h2 x hx; grind))
theorem un_hi (h0 : s.a = false → s'.a = false ∧ s.lo = s'.lo) (hb : s.b = false) (hb' : s'.b = false) : ¬ s'.hi < s.hi := by
  intro hlt
  have hn : ∀ u ∈ nl r', s'.hi < u := fun u hu => by
    cases r' with
    | nil => cases hu
    | cons y r' => obtain rfl : u = y.lo := by simpa [nl] using hu
                   exact (h'.bef (by simp)).2.2
  obtain ⟨t, h1, h2, h3⟩ := pickL E [s'.hi] (s.hi :: nl r') (fun l hl u hu => by
    obtain rfl : l = s'.hi := by simpa using hl
    rcases List.mem_cons.1 hu with rfl | hu
    · exact hlt
    · exact hn u hu)
  have ht := h1 s'.hi (by simp)
  have hin : s.inn t := by
    refine ⟨?_, .inr (h2 s.hi (by simp))⟩
    cases ha : s.a with
    | true => exact .inl rfl
    | false =>
      have := lo_hi (h'.1 s' (by simp)).2 (h0 ha).1 hb'
      rw [(h0 ha).2]
      exact .inr (by grind)
  exact absurd (e t h3 ⟨s, by simp, hin⟩) (not_gap h' hb' (by grind) (fun x hx => by have := h2 x (by simp [hx]); grind))
end
theorem Sp.ext' {s t:Sp} (h1:s.a=t.a) (h2:s.b=t.b) (h3:s.lo=t.lo) (h4:s.hi=t.hi):s=t:=by
 cases s; cases t; simp at *; exact ⟨h3,h4,h1,h2⟩
/-- A list in order is told by its points, but for a few. -/
theorem reg_unique {E:List Rat}:∀{xs ys:List Sp},reg xs->reg ys->(∀t,t ∉ E->(memS xs t↔memS ys t))->xs=ys:=by
 intro xs
 induction xs with
 | nil=>
  intro ys _ hy e
  cases ys with
  | nil=>rfl
  | cons s r=>
   obtain ⟨t,h1,h2⟩:=pick_in (hy.1 s (by simp)).2 E
   obtain ⟨x,hx,-⟩:=(e t h2).2 ⟨s,by simp,h1⟩
   cases hx
 | cons s r ih=>
  intro ys hx hy e
  cases ys with
  | nil=>
   obtain ⟨t,h1,h2⟩:=pick_in (hx.1 s (by simp)).2 E
   obtain ⟨x,hx,-⟩:=(e t h2).1 ⟨s,by simp,h1⟩
   cases hx
  | cons s' r'=>
   have e1:=fun t ht=>(e t ht).1
   have e2:=fun t ht=>(e t ht).2
   have beq:∀{a b:Bool},(a=true->b=true)->(b=true->a=true)->a=b:=fun {a b} h1 h2=>by
    cases a <;> cases b <;> simp at h1 h2 ⊢
   have ha:s.a=s'.a:=beq (un_a hx hy e1) (un_a hy hx e2)
   have hl:s.a=false->s.lo=s'.lo:=fun h1=>by
    have k1:=un_lo hx hy e1 h1 (ha ▸ h1)
    have k2:=un_lo hy hx e2 (ha ▸ h1) h1
    grind
   have h0:s.a=false->s'.a=false/\s.lo=s'.lo:=fun h=>⟨ha ▸ h,hl h⟩
   have h0':s'.a=false->s.a=false/\s'.lo=s.lo:=fun h=>⟨ha.symm ▸ h,(hl (ha.symm ▸ h)).symm⟩
   have hb:s.b=s'.b:=beq (un_b hx hy e1 h0) (un_b hy hx e2 h0')
   have hh:s.b=false->s.hi=s'.hi:=fun h1=>by
    have k1:=un_hi hx hy e1 h0 h1 (hb ▸ h1)
    have k2:=un_hi hy hx e2 h0' (hb ▸ h1) h1
    grind
   have gs:=(hx.1 s (by simp)).1
   have gs':=(hy.1 s' (by simp)).1
   have es:s=s':=by
    refine Sp.ext' ha hb ?_ ?_
    ·cases h1:s.a with
     | false=>exact hl h1
     | true=>rw [gs.1 h1,gs'.1 (ha ▸ h1)]
    ·cases h1:s.b with
     | false=>exact hh h1
     | true=>rw [gs.2 h1,gs'.2 (hb ▸ h1)]
   subst es
   have dis:∀{q:List Sp} {t:Rat},reg (s :: q)->memS q t->¬ s.inn t:=by
    rintro q t hq ⟨x,hx,h1,h2⟩ ⟨g1,g2⟩
    obtain ⟨b1,b2,b3⟩:=hq.bef hx
    rw [b1] at g2; rw [b2] at h1
    simp at g2 h1
    grind
   rw [ih hx.tail hy.tail (fun t ht=>⟨fun m=>?_,fun m=>?_⟩)]
   ·obtain ⟨x,hm,hi⟩:=e1 t ht (by obtain ⟨x,g1,g2⟩:=m; exact ⟨x,by simp [g1],g2⟩)
    rcases List.mem_cons.1 hm with rfl | hm
    ·exact absurd hi (dis hx m)
    ·exact ⟨x,hm,hi⟩
   ·obtain ⟨x,hm,hi⟩:=e2 t ht (by obtain ⟨x,g1,g2⟩:=m; exact ⟨x,by simp [g1],g2⟩)
    rcases List.mem_cons.1 hm with rfl | hm
    ·exact absurd hi (dis hy m)
    ·exact ⟨x,hm,hi⟩
end Go.Proofs.Tryz
/- Contracts of package fragment; points made of ints. -/
namespace Go.Proofs.Tryz
open Go.Eng Go.Big
theorem FrSh.ex {V:View} {v:Value} {l:L3} {s:Sp} (h:RFr V v l s):∃(x1 x2:Int) (p:OA) (y1 y2:Int) (q:OA) (z1 z2:Int) (r:OA) (u1 u2:Int) (t:OA) (w1 w2:Int) (o:OA),
 v=.agg #[.int .i64 x1,.int .i64 x2,.pointer p,.int .i64 y1,.int .i64 y2,.pointer q,.int .i64 z1,.int .i64 z2,.pointer r,.int .i64 u1,.int .i64 u2,.pointer t,.int .i64 w1,.int .i64 w2,.pointer o,.bool s.a,.bool s.b]:=by
 obtain ⟨_,_,_,_,_,_,_,_,_,_,_,_,_,_,_,e,-⟩:=h; exact ⟨_,_,_,_,_,_,_,_,_,_,_,_,_,_,_,e⟩
end Go.Proofs.Tryz
/- By program: the conditions of the functions, from their loaded code. -/
namespace Go.Proofs.Tryz
open Go.Eng
set_option maxRecDepth 100000
end Go.Proofs.Tryz
/- Contracts: Half, Mid, Sample, Cross of the reference; it reads right fragments. -/
namespace Go.Proofs.Tryz
open Go.Eng Go.Big
/-- A right fragment of package api in normal form. -/
theorem RFa.raw {V:View} {v:Value} {l:L3} {s:Sp} (h:RFa V v l s) (ho:FOk l s) {k:Nat} (sl:SzL k l) (ss:s.sz k) (hk:k<=1000000):∃f:FW,RFw V v f/\f.ok=true/\f.ln=l/\f.sp=s/\f.short:=by
 obtain ⟨b1,p1,n1,c1,b2,p2,n2,c2,b3,p3,n3,c3,b,p,n,c,p',n',c',d,q,m,e,q',m',e',rfl,h1,h2⟩:=h
 obtain ⟨_,_,_,_,_,_,_,_,_,el,x1,x2,x3⟩:=h1
 have el:=congrArg Array.toList (Value.agg.inj el)
 simp only [List.cons.injEq,Value.bool.injEq,Value.slice.injEq,and_true] at el
 obtain ⟨rfl,⟨rfl,rfl,rfl⟩,rfl,⟨rfl,rfl,rfl⟩,rfl,rfl,rfl,rfl⟩:=el
 obtain ⟨_,_,_,_,_,_,_,_,_,_,_,_,_,_,es,y1,y2⟩:=h2
 have es:=congrArg Array.toList (Value.agg.inj es)
 simp only [List.cons.injEq,Value.bool.injEq,Value.slice.injEq,and_true] at es
 obtain ⟨rfl,⟨rfl,rfl,rfl⟩,⟨rfl,rfl,rfl⟩,rfl,⟨rfl,rfl,rfl⟩,⟨rfl,rfl,rfl⟩⟩:=es
 obtain ⟨ok,can,emp⟩:=ho
 obtain ⟨w1,us,vs,r1,o1,e1,z1⟩:=y1.raw can.1
 obtain ⟨w2,ws,ts,r2,o2,e2,z2⟩:=y2.raw can.2
 have i1:=r1
 have i2:=r2
 obtain ⟨_,_,_,_,_,_,f1,-,-⟩:=i1
 obtain ⟨_,_,_,_,_,_,f2,-,-⟩:=i2
 have f1:=congrArg Array.toList (Value.agg.inj f1)
 have f2:=congrArg Array.toList (Value.agg.inj f2)
 simp only [List.cons.injEq,Value.bool.injEq,Value.slice.injEq,and_true] at f1 f2
 obtain ⟨rfl,-⟩:=f1
 obtain ⟨rfl,-⟩:=f2
 have len:∀{z:Int},Sz k (z:Rat)->(digs z.natAbs).length<=1000000:=fun h=>Nat.le_trans (digs_len_bits h.1) hk
 have d1:=z1 k ss.1
 have d2:=z2 k ss.2
 refine ⟨⟨decide (l.1 < 0),digs l.1.natAbs,decide (l.2.1 < 0),digs l.2.1.natAbs,decide (l.2.2 < 0),digs l.2.2.natAbs,b,us,vs,d,ws,ts,s.a,s.b⟩,⟨_,_,_,_,_,_,_,_,_,_,_,_,_,_,_,_,_,_,_,_,_,rfl,⟨_,_,_,_,_,_,_,_,_,rfl,x1,x2,x3⟩,⟨_,_,_,_,_,_,_,_,_,_,_,_,rfl,r1,r2⟩⟩,?_,?_,?_,⟨len sl.1,len sl.2.1,len sl.2.2,Nat.le_trans d1.1 hk,Nat.le_trans d1.2 hk,Nat.le_trans d2.1 hk,Nat.le_trans d2.2 hk⟩⟩
 ·have e3:spW b us vs d ws ts s.a s.b=s:=by unfold spW; rw [e1,e2]
  unfold FW.ok okW
  dsimp only
  rw [okLn_okL,o1,o2,e3,emp]
  show okL l && true=true
  rw [ok]; rfl
 ·unfold FW.ln lnW
  dsimp only
  rw [ival_digs,ival_digs,ival_digs]
 ·unfold FW.sp spW
  dsimp only
  rw [e1,e2]
end Go.Proofs.Tryz
/- By program: the conditions of the functions, from their loaded code. -/
namespace Go.Proofs.Tryz
open Go.Eng
set_option maxRecDepth 100000
end Go.Proofs.Tryz
/- Contracts: the reference's in and Probes. -/
namespace Go.Proofs.Tryz
open Go.Eng Go.Big
theorem row_one {α:Type} {sz:Nat} {R:View->Value->α->Prop} {V:View} {xs:List Value} {a:α} (hx:xs.length=sz) (ha:R V (.agg xs.toArray) a):Row sz R V xs [a]:=by
 refine ⟨fun i hi=>?_⟩
 obtain rfl:i=0:=by simpa using hi
 exact ⟨xs,hx,ha,fun j x hj=>by rw [Nat.zero_mul,Nat.zero_add]; exact hj⟩
/-- The probes up to the i-th cut; all of them. -/
def outL (c:List Rat) (i:Nat):List Rat:=(c.getD 0 0 - ((1:Int):Rat)) :: (List.range (i - 1)).map fun k=>(c.getD k 0 + c.getD (k + 1) 0) * ((2:Int):Rat)⁻¹
def probesL (c:List Rat):List Rat:=if c.length=0 then [0] else outL c c.length++[c.getD (c.length - 1) 0 + ((1:Int):Rat)]
theorem outL_len (c:List Rat) {i:Nat} (h:1<=i):(outL c i).length=i:=by unfold outL; simp; omega
theorem getD_at {c:List Rat} {i:Nat} (h:i < c.length):c.getD i 0=c[i]:=by rw [List.getD_eq_getElem?_getD,List.getElem?_eq_getElem h]; rfl
end Go.Proofs.Tryz
/- Plain: a number put into an ascending list; an element put into a row. -/
namespace Go.Proofs.Tryz
open Go.Eng Go.Big
/-- x put into a list, each number once. -/
def insQ (x:Rat):List Rat->List Rat
 | []=>[x]
 | y :: r=>if y < x then y :: insQ x r else if y=x then y :: r else x :: y :: r
end Go.Proofs.Tryz
/- Contract: the reference's ends. -/
namespace Go.Proofs.Tryz
open Go.Eng Go.Big
def stepE (s:Sp) (o:List Rat):Nat->List Rat
 | 0=>o
 | 1=>if s.a then o else insQ s.lo o
 | _=>if s.b then (if s.a then o else insQ s.lo o) else insQ s.hi (if s.a then o else insQ s.lo o)
def endsL (ss:List Sp):List Rat:=ss.foldl (fun o s=>stepE s o 2) []
theorem insQ_mem {x q:Rat}:∀{o:List Rat},q ∈ insQ x o->q=x \/ q ∈ o:=by
 intro o
 induction o with
 | nil=>intro h; simp [insQ] at h; exact .inl h
 | cons y r ih=>
  unfold insQ
  split
  ·intro h
   rcases List.mem_cons.1 h with h | h
   ·exact .inr (by simp [h])
   ·rcases ih h with h | h
    ·exact .inl h
    ·exact .inr (by simp [h])
  ·split
   ·exact .inr
   ·intro h
    rcases List.mem_cons.1 h with h | h
    ·exact .inl h
    ·exact .inr h
theorem insQ_len {x:Rat}:∀{o:List Rat},(insQ x o).length<=o.length + 1:=by
 intro o
 induction o with
 | nil=>simp [insQ]
 | cons y r ih=>
  unfold insQ
  split
  ·simp; omega
  ·split <;> simp
theorem stepE_mem {s:Sp} {o:List Rat} {y:Nat} (hy:y<=2) {q:Rat} (h:q ∈ stepE s o y):q=s.lo \/ q=s.hi \/ q ∈ o:=by
 have h1:q ∈ (if s.a then o else insQ s.lo o)->q=s.lo \/ q=s.hi \/ q ∈ o:=by
  split
  ·exact fun h=>.inr (.inr h)
  ·intro h
   rcases insQ_mem h with h | h
   ·exact .inl h
   ·exact .inr (.inr h)
 have:y=0 \/ y=1 \/ y=2:=by omega
 rcases this with rfl | rfl | rfl
 ·exact .inr (.inr h)
 ·exact h1 h
 ·replace h:q ∈ (if s.b=true then (if s.a=true then o else insQ s.lo o) else insQ s.hi (if s.a=true then o else insQ s.lo o)):=h
  by_cases hb:s.b=true
  ·rw [if_pos hb] at h
   exact h1 h
  ·rw [if_neg hb] at h
   rcases insQ_mem h with h | h
   ·exact .inr (.inl h)
   ·exact h1 h
theorem endsL_mem {ss:List Sp} {q:Rat} (h:q ∈ endsL ss):∃s ∈ ss,q=s.lo \/ q=s.hi:=by
 have:∀(ss:List Sp) (o:List Rat),q ∈ (ss.foldl (fun o s=>stepE s o 2) o)->q ∈ o \/ ∃s ∈ ss,q=s.lo \/ q=s.hi:=by
  intro ss
  induction ss with
  | nil=>exact fun o h=>.inl h
  | cons s r ih=>
   intro o h
   rcases ih _ h with h | ⟨t,ht,h⟩
   ·rcases stepE_mem (Nat.le_refl 2) h with h | h | h
    ·exact .inr ⟨s,by simp,.inl h⟩
    ·exact .inr ⟨s,by simp,.inr h⟩
    ·exact .inl h
   ·exact .inr ⟨t,by simp [ht],h⟩
 rcases this ss [] h with h | h
 ·simp at h
 ·exact h
end Go.Proofs.Tryz
/- Contract: the reference's ends. -/
namespace Go.Proofs.Tryz
open Go.Eng Go.Big
end Go.Proofs.Tryz
/- Contract: the reference's From. -/
namespace Go.Proofs.Tryz
open Go.Eng Go.Big
def gapS (cuts:List Rat) (i:Nat):Sp:=⟨if 0 < i then cuts.getD (i - 1) 0 else 0,if i < cuts.length then cuts.getD i 0 else 0,decide (i=0),decide (i=cuts.length)⟩
/-- The last span takes the upper end of another one. -/
def lastHi (out:List Sp) (s:Sp):List Sp:=out.dropLast++[⟨(out.getLastD Sp.zero).lo,s.hi,(out.getLastD Sp.zero).a,s.b⟩]
def fromI (cuts:List Rat) (marks:List Bool):Nat->List Sp
 | 0=>[]
 | i + 1=>if marks.getD i false=true then (if 0 < i/\marks.getD (i - 1) false=true/\0 < (fromI cuts marks i).length then lastHi (fromI cuts marks i) (gapS cuts i) else fromI cuts marks i++[gapS cuts i]) else fromI cuts marks i
def fromL (cuts:List Rat) (marks:List Bool):List Sp:=fromI cuts marks marks.length
theorem lastHi_len {out:List Sp} {s:Sp} (h:0 < out.length):(lastHi out s).length=out.length:=by
 unfold lastHi; rw [List.length_append,List.length_dropLast]; simp; omega
theorem fromI_len (cuts:List Rat) (marks:List Bool) (i:Nat):(fromI cuts marks i).length<=i:=by
 induction i with
 | zero=>simp [fromI]
 | succ i ih=>
  unfold fromI
  split
  ·split
   ·rename_i h; rw [lastHi_len h.2.2]; omega
   ·rw [List.length_append]; simp; omega
  ·omega
end Go.Proofs.Tryz
/- Contract: the reference's From. By program (tools/mkcf.py). -/
namespace Go.Proofs.Tryz
open Go.Eng Go.Big
end Go.Proofs.Tryz
/- Plain: the reference's Combine on sets of spans: its list is in order, and its points are told by those of the operands. -/
namespace Go.Proofs.Tryz
open Go.Eng Go.Big
set_option linter.unusedSectionVars false
theorem getD_r {a b:List Rat} {i:Nat} (h:a.length<=i):(a++b).getD i 0=b.getD (i - a.length) 0:=by
 rw [List.getD_eq_getElem?_getD,List.getElem?_append_right h,List.getD_eq_getElem?_getD]
theorem getD_l {a b:List Rat} {i:Nat} (h:i < a.length):(a++b).getD i 0=a.getD i 0:=by
 rw [List.getD_eq_getElem?_getD,List.getElem?_append_left h,List.getD_eq_getElem?_getD]
def asc (c:List Rat):Prop:=c.Pairwise (· < ·)
theorem insQ_iff {x q : Rat} : ∀ {o : List Rat}, q ∈ insQ x o ↔ q = x ∨ q ∈ o := by
  intro o
  induction o with
  | nil => simp [insQ]
  | cons y r ih =>
    unfold insQ
    split
    · rw [List.mem_cons, ih, List.mem_cons]
      constructor
      · rintro (h | h | h)
        · exact .inr (.inl h)
        · exact .inl h
        · exact .inr (.inr h)
      · rintro (h | h | h)
        · exact .inr (.inl h)
        · exact .inl h
        · exact .inr (.inr h)
    · split
      · rename_i e
        subst e
        exact ⟨.inr, fun h => by rcases h with rfl | h; · simp
                                 · exact h⟩
      · rw [List.mem_cons]
theorem insQ_asc {x:Rat}:∀{o:List Rat},asc o->asc (insQ x o):=by
 intro o
 induction o with
 | nil=>intro _; simp [insQ,asc]
 | cons y r ih=>
  intro h
  obtain ⟨h1,h2⟩:=List.pairwise_cons.1 h
  unfold insQ
  split
  ·rename_i c
   refine List.pairwise_cons.2 ⟨fun q hq=>?_,ih h2⟩
   rcases insQ_iff.1 hq with rfl | hq
   ·exact c
   ·exact h1 q hq
  ·split
   ·exact h
   ·rename_i c1 c2
    refine List.pairwise_cons.2 ⟨fun q hq=>?_,h⟩
    rcases List.mem_cons.1 hq with rfl | hq
    ·grind
    ·have:=h1 q hq; grind
def Sp.isEnd (s:Sp) (q:Rat):Prop:=(s.a=false/\q=s.lo) \/ (s.b=false/\q=s.hi)
theorem step_iff {s:Sp} {o:List Rat} {q:Rat}:q ∈ stepE s o 2↔s.isEnd q \/ q ∈ o:=by
 show q ∈ (if s.b=true then (if s.a=true then o else insQ s.lo o) else insQ s.hi (if s.a=true then o else insQ s.lo o))↔_
 unfold Sp.isEnd
 cases s.a <;> cases s.b <;> simp [insQ_iff]
 ·constructor
  ·rintro (h | h | h)
   ·exact .inl (.inr h)
   ·exact .inl (.inl h)
   ·exact .inr h
  ·rintro ((h | h) | h)
   ·exact .inr (.inl h)
   ·exact .inl h
   ·exact .inr (.inr h)
theorem step_asc {s:Sp} {o:List Rat} (h:asc o):asc (stepE s o 2):=by
 show asc (if s.b=true then (if s.a=true then o else insQ s.lo o) else insQ s.hi (if s.a=true then o else insQ s.lo o))
 cases s.a <;> cases s.b <;> simp [insQ_asc,h]
theorem ends_fold:∀(ss:List Sp) (o:List Rat),(asc o->asc (ss.foldl (fun o s=>stepE s o 2) o))/\∀q,q ∈ (ss.foldl (fun o s=>stepE s o 2) o)↔q ∈ o \/ ∃s ∈ ss,s.isEnd q:=by
 intro ss
 induction ss with
 | nil=>exact fun o=>⟨id,fun q=>by simp⟩
 | cons s r ih=>
  intro o
  refine ⟨fun h=>(ih _).1 (step_asc h),fun q=>?_⟩
  rw [List.foldl_cons,(ih _).2,step_iff]
  constructor
  ·rintro ((h | h) | ⟨t,h1,h2⟩)
   ·exact .inr ⟨s,by simp,h⟩
   ·exact .inl h
   ·exact .inr ⟨t,by simp [h1],h2⟩
  ·rintro (h | ⟨t,h1,h2⟩)
   ·exact .inl (.inr h)
   ·rcases List.mem_cons.1 h1 with rfl | h1
    ·exact .inl (.inl h2)
    ·exact .inr ⟨t,h1,h2⟩
theorem ends_asc (ss:List Sp):asc (endsL ss):=(ends_fold ss []).1 List.Pairwise.nil
theorem ends_iff {ss:List Sp} {q:Rat}:q ∈ endsL ss↔∃s ∈ ss,s.isEnd q:=by
 have:=(ends_fold ss []).2 q
 simpa [endsL] using this
section
variable {c:List Rat} (h:asc c)
include h
theorem asc_lt {i j:Nat} (hij:i < j) (hj:j < c.length):c.getD i 0 < c.getD j 0:=by
 rw [getD_at (by omega),getD_at hj]
 exact List.pairwise_iff_getElem.1 h i j (by omega) hj hij
theorem asc_le {i j:Nat} (hij:i<=j) (hj:j < c.length):c.getD i 0<=c.getD j 0:=by
 rcases Nat.lt_or_ge i j with h1 | h1
 ·have:=asc_lt h h1 hj; grind
 ·obtain rfl:i=j:=by omega
  grind
omit h
theorem gap_inn {i:Nat} {t:Rat}:(gapS c i).inn t↔(0 < i->c.getD (i - 1) 0 < t)/\(i≠c.length->i < c.length->t < c.getD i 0)/\(i≠c.length->c.length < i->t < 0):=by
 unfold gapS Sp.inn
 simp only [decide_eq_true_eq]
 constructor
 ·rintro ⟨h1,h2⟩
  refine ⟨fun h0=>?_,fun h3 h4=>?_,fun h3 h4=>?_⟩
  ·rcases h1 with h1 | h1
   ·omega
   ·rwa [if_pos h0] at h1
  ·rcases h2 with h2 | h2
   ·exact absurd h2 h3
   ·rwa [if_pos h4] at h2
  ·rcases h2 with h2 | h2
   ·exact absurd h2 h3
   ·rwa [if_neg (by omega)] at h2
 ·rintro ⟨h1,h2,h3⟩
  refine ⟨?_,?_⟩
  ·by_cases h0:i=0
   ·exact .inl h0
   ·rw [if_pos (by omega)]; exact .inr (h1 (by omega))
  ·by_cases h0:i=c.length
   ·exact .inl h0
   ·refine .inr ?_
    by_cases h4:i < c.length
    ·rw [if_pos h4]; exact h2 h0 h4
    ·rw [if_neg h4]; exact h3 h0 (by omega)
theorem gap_inn' {i:Nat} (hi:i<=c.length) {t:Rat}:(gapS c i).inn t↔(0 < i->c.getD (i - 1) 0 < t)/\(i < c.length->t < c.getD i 0):=by
 rw [gap_inn]
 exact ⟨fun ⟨h1,h2,_⟩=>⟨h1,fun h=>h2 (by omega) h⟩,fun ⟨h1,h2⟩=>⟨h1,fun _ h=>h2 h,fun _ h=>by omega⟩⟩
include h
theorem gap_good {i:Nat} (hi:i<=c.length):(gapS c i).good:=by
 refine ⟨⟨fun e=>?_,fun e=>?_⟩,Sp.emp_iff.2 ?_⟩
 ·have e:i=0:=of_decide_eq_true e
  subst e; rfl
 ·have e:i=c.length:=of_decide_eq_true e
  subst e
  exact if_neg (Nat.lt_irrefl _)
 ·by_cases h0:i=0
  ·exact .inl (decide_eq_true h0)
  ·by_cases h1:i=c.length
   ·exact .inr (.inl (decide_eq_true h1))
   ·refine .inr (.inr ?_)
    show (if 0 < i then c.getD (i - 1) 0 else 0) < (if i < c.length then c.getD i 0 else 0)
    rw [if_pos (by omega),if_pos (by omega)]
    exact asc_lt h (by omega) (by omega)
theorem gap_ex {t:Rat} (ht:t ∉ c):∃i,i<=c.length/\(gapS c i).inn t:=by
 have key:∀k,k<=c.length->(∀j,j < k->c.getD j 0 < t) \/ ∃i,i<=c.length/\(gapS c i).inn t:=by
  intro k
  induction k with
  | zero=>exact fun _=>.inl fun j hj=>absurd hj (Nat.not_lt_zero j)
  | succ k ih=>
   intro hk
   rcases ih (by omega) with g | g
   ·by_cases hlt:c.getD k 0 < t
    ·refine .inl fun j hj=>?_
     rcases Nat.lt_or_ge j k with h1 | h1
     ·exact g j h1
     ·obtain rfl:j=k:=by omega
      exact hlt
    ·refine .inr ⟨k,by omega,(gap_inn' (by omega)).2 ⟨fun h0=>g _ (by omega),fun _=>?_⟩⟩
     have hne:c.getD k 0≠t:=by
      rintro rfl
      rw [getD_at (by omega)] at ht
      exact ht (List.getElem_mem _)
     grind
   ·exact .inr g
 rcases key c.length (Nat.le_refl _) with g | g
 ·exact ⟨c.length,Nat.le_refl _,(gap_inn' (Nat.le_refl _)).2 ⟨fun h0=>g _ (by omega),fun h0=>by omega⟩⟩
 ·exact g
theorem gap_side {i:Nat} (hi:i<=c.length) {t u x:Rat} (ht:(gapS c i).inn t) (hu:(gapS c i).inn u) (hx:x ∈ c):(x < t↔x < u)/\(t < x↔u < x)/\x≠t:=by
 obtain ⟨t1,t2⟩:=(gap_inn' hi).1 ht
 obtain ⟨u1,u2⟩:=(gap_inn' hi).1 hu
 obtain ⟨j,hj,rfl⟩:=List.getElem_of_mem hx
 rw [← getD_at hj]
 rcases Nat.lt_or_ge j i with hji | hji
 ·have:=asc_le h (show j<=i - 1 by omega) (by omega)
  have:=t1 (by omega)
  have:=u1 (by omega)
  grind
 ·have:=asc_le h hji hj
  have:=t2 (by omega)
  have:=u2 (by omega)
  grind
theorem probe_in {i:Nat} (hi:i<=c.length):(gapS c i).inn ((probesL c).getD i 0):=by
 rw [gap_inn' hi]
 unfold probesL
 by_cases h0:c.length=0
 ·exact ⟨fun _=>by omega,fun _=>by omega⟩
 ·rw [if_neg h0]
  have hl:=outL_len c (show 1<=c.length by omega)
  by_cases h1:i=c.length
  ·subst h1
   rw [getD_r (by omega),hl,Nat.sub_self]
   refine ⟨fun _=>?_,fun _=>by omega⟩
   show _ < c.getD (c.length - 1) 0 + ((1:Int):Rat)
   grind
  ·rw [getD_l (by omega)]
   unfold outL
   by_cases h2:i=0
   ·subst h2
    refine ⟨fun _=>by omega,fun _=>?_⟩
    show c.getD 0 0 - ((1:Int):Rat) < _
    grind
   ·obtain ⟨m,rfl⟩:∃m,i=m + 1:=⟨i - 1,by omega⟩
    have:=asc_lt h (show m < m + 1 by omega) (by omega)
    have e2:((List.range (c.length - 1)).map fun k=>(c.getD k 0 + c.getD (k + 1) 0) * ((2:Int):Rat)⁻¹).getD m 0=(c.getD m 0 + c.getD (m + 1) 0) * ((2:Int):Rat)⁻¹:=by
     rw [List.getD_eq_getElem?_getD,List.getElem?_map,List.getElem?_range (by omega)]; rfl
    rw [List.getD_cons_succ,e2,Nat.add_sub_cancel]
    generalize c.getD m 0=x at *
    generalize c.getD (m + 1) 0=y at *
    exact ⟨fun _=>by grind,fun _=>by grind⟩
omit h
theorem probes_len:(probesL c).length=c.length + 1:=by
 unfold probesL
 by_cases h0:c.length=0
 ·rw [if_pos h0,h0]; rfl
 ·rw [if_neg h0,List.length_append,outL_len c (by omega)]; rfl
end
section
variable {c:List Rat} {ms:List Bool}
/-- What is known of the list behind the i-th gap. -/
structure FI (c:List Rat) (ms:List Bool) (i:Nat):Prop where
 r:reg (fromI c ms i)
 mem:∀t,t ∉ c->(memS (fromI c ms i) t↔∃j,j < i/\ms.getD j false=true/\(gapS c j).inn t)
 top:0 < i->i<=c.length->∀s ∈ fromI c ms i,s.b=false/\s.hi<=c.getD (i - 1) 0
 str:0 < i->i<=c.length->ms.getD (i - 1) false=false->∀s ∈ fromI c ms i,s.hi < c.getD (i - 1) 0
 last:0 < i->i<=c.length->ms.getD (i - 1) false=true->∃l0 l,fromI c ms i=l0++[l]/\l.hi=c.getD (i - 1) 0
theorem memS_snoc {ss:List Sp} {s:Sp} {t:Rat}:memS (ss++[s]) t↔memS ss t \/ s.inn t:=by
 unfold memS
 constructor
 ·rintro ⟨x,hx,hi⟩
  rcases List.mem_append.1 hx with hx | hx
  ·exact .inl ⟨x,hx,hi⟩
  ·obtain rfl:x=s:=by simpa using hx
   exact .inr hi
 ·rintro (⟨x,hx,hi⟩ | hi)
  ·exact ⟨x,by simp [hx],hi⟩
  ·exact ⟨s,by simp,hi⟩
theorem reg_snoc {ss:List Sp} {s:Sp} (h:reg ss) (hs:s.good) (hb:∀x ∈ ss,x.bef s):reg (ss++[s]):=by
 refine ⟨fun x hx=>?_,List.pairwise_append.2 ⟨h.2,by simp,fun x hx y hy=>?_⟩⟩
 ·rcases List.mem_append.1 hx with hx | hx
  ·exact h.1 x hx
  ·obtain rfl:x=s:=by simpa using hx
   exact hs
 ·obtain rfl:y=s:=by simpa using hy
  exact hb x hx
theorem reg_init {ss:List Sp} {s:Sp} (h:reg (ss++[s])):reg ss/\s.good/\∀x ∈ ss,x.bef s:=by
 obtain ⟨h1,-,h3⟩:=List.pairwise_append.1 h.2
 exact ⟨⟨fun x hx=>h.1 x (by simp [hx]),h1⟩,h.1 s (by simp),fun x hx=>h3 x hx s (by simp)⟩
theorem ex_succ {P:Nat->Prop} {i:Nat}:(∃j,j < i + 1/\P j)↔(∃j,j < i/\P j) \/ P i:=by
 constructor
 ·rintro ⟨j,hj,hp⟩
  rcases Nat.lt_or_ge j i with h | h
  ·exact .inl ⟨j,h,hp⟩
  ·obtain rfl:j=i:=by omega
   exact .inr hp
 ·rintro (⟨j,hj,hp⟩ | hp)
  ·exact ⟨j,by omega,hp⟩
  ·exact ⟨i,by omega,hp⟩
theorem fi_step (h:asc c) {i:Nat} (hi:i<=c.length) (F:FI c ms i):FI c ms (i + 1):=by
 have hg:=gap_good h hi
 have ghi:i < c.length->(gapS c i).hi=c.getD i 0:=fun h0=>if_pos h0
 have glo:0 < i->(gapS c i).lo=c.getD (i - 1) 0:=fun h0=>if_pos h0
 have ga:0 < i->(gapS c i).a=false:=fun h0=>decide_eq_false (by omega)
 have gb:i < c.length->(gapS c i).b=false:=fun h0=>decide_eq_false (by omega)
 by_cases hm:ms.getD i false=true
 ·have hne:¬ ms.getD i false=false:=by rw [hm]; decide
  by_cases h0:0 < i/\ms.getD (i - 1) false=true
  ·obtain ⟨l0,l,el,hl⟩:=F.last h0.1 hi h0.2
   have e:fromI c ms (i + 1)=l0++[⟨l.lo,(gapS c i).hi,l.a,(gapS c i).b⟩]:=by
    rw [fromI,if_pos hm,if_pos ⟨h0.1,h0.2,by rw [el]; simp⟩,el]
    simp [lastHi]
   have F1:=F.r
   rw [el] at F1
   obtain ⟨f1,f2,f3⟩:=reg_init F1
   have hlb:l.b=false:=(F.top h0.1 hi l (by rw [el]; simp)).1
   have hgood:(⟨l.lo,(gapS c i).hi,l.a,(gapS c i).b⟩:Sp).good:=by
    refine ⟨⟨f2.1.1,hg.1.2⟩,Sp.emp_iff.2 ?_⟩
    dsimp only
    cases ha:l.a with
    | true=>exact .inl rfl
    | false=>
     cases hb:(gapS c i).b with
     | true=>exact .inr (.inl rfl)
     | false=>
      have h1:=lo_hi f2.2 ha hlb
      have h2:=lo_hi hg.2 (ga h0.1) hb
      rw [glo h0.1] at h2
      exact .inr (.inr (by grind))
   refine ⟨?_,fun t ht=>?_,fun _ hi1 s hs=>?_,fun _ hi1 hx=>?_,fun _ hi1 _=>?_⟩
   ·rw [e]
    exact reg_snoc f1 hgood fun x hx=>⟨(f3 x hx).1,(f3 x hx).2.1,(f3 x hx).2.2⟩
   ·rw [e,ex_succ,← F.mem t ht,memS_snoc,el,memS_snoc,or_assoc]
    refine or_congr Iff.rfl ?_
    have hk:(gapS c i).inn t↔c.getD (i - 1) 0 < t/\((gapS c i).b=true \/ t < (gapS c i).hi):=by
     unfold Sp.inn; rw [ga h0.1,glo h0.1]; simp
    have hne':t≠c.getD (i - 1) 0:=by
     rintro rfl
     rw [getD_at (by omega)] at ht
     exact ht (List.getElem_mem _)
    rw [hk]
    show (l.a=true \/ l.lo < t)/\((gapS c i).b=true \/ t < (gapS c i).hi)↔((l.a=true \/ l.lo < t)/\(l.b=true \/ t < l.hi)) \/ _
    rw [hl,hlb]
    have h1:l.a=true \/ l.lo < c.getD (i - 1) 0:=by
     cases ha:l.a with
     | true=>exact .inl rfl
     | false=>have:=lo_hi f2.2 ha hlb; rw [hl] at this; exact .inr this
    have h2:(gapS c i).b=true \/ c.getD (i - 1) 0 < (gapS c i).hi:=by
     cases hb:(gapS c i).b with
     | true=>exact .inl rfl
     | false=>have:=lo_hi hg.2 (ga h0.1) hb; rw [glo h0.1] at this; exact .inr this
    constructor
    ·rintro ⟨g1,g2⟩
     by_cases g:t < c.getD (i - 1) 0
     ·exact .inl ⟨g1,.inr g⟩
     ·exact .inr ⟨hm,by grind,g2⟩
    ·rintro (⟨g1,g2⟩ | ⟨-,g1,g2⟩)
     ·have g3:t < c.getD (i - 1) 0:=by
       rcases g2 with g2 | g2
       ·cases g2
       ·exact g2
      exact ⟨g1,h2.imp_right fun h2=>by grind⟩
     ·exact ⟨h1.imp_right fun h1=>by grind,g2⟩
   ·rw [e] at hs
    rw [Nat.add_sub_cancel]
    rcases List.mem_append.1 hs with hs | hs
    ·have b:=f3 s hs
     refine ⟨b.1,?_⟩
     have h1:l.lo < c.getD (i - 1) 0:=by have:=lo_hi f2.2 b.2.1 hlb; rwa [hl] at this
     have h2:=asc_lt h (show i - 1 < i by omega) hi1
     have:=b.2.2
     grind
    ·obtain rfl:s=_:=by simpa using hs
     refine ⟨gb hi1,?_⟩
     show (gapS c i).hi<=_
     rw [ghi hi1]; grind
   ·rw [Nat.add_sub_cancel] at hx; exact absurd hx hne
   ·rw [Nat.add_sub_cancel]
    exact ⟨l0,_,e,ghi hi1⟩
  ·have e:fromI c ms (i + 1)=fromI c ms i++[gapS c i]:=by
    rw [fromI,if_pos hm,if_neg (fun g=>h0 ⟨g.1,g.2.1⟩)]
   have hb:∀x ∈ fromI c ms i,x.bef (gapS c i):=fun x hx=>by
    by_cases hz:0 < i
    ·have hmf:ms.getD (i - 1) false=false:=by
      cases hq:ms.getD (i - 1) false with
      | false=>rfl
      | true=>exact absurd ⟨hz,hq⟩ h0
     exact ⟨(F.top hz hi x hx).1,ga hz,by rw [glo hz]; exact F.str hz hi hmf x hx⟩
    ·obtain rfl:i=0:=by omega
     cases hx
   refine ⟨?_,fun t ht=>?_,fun _ hi1 s hs=>?_,fun _ hi1 hx=>?_,fun _ hi1 _=>?_⟩
   ·rw [e]; exact reg_snoc F.r hg hb
   ·rw [e,ex_succ,← F.mem t ht,memS_snoc]
    exact or_congr Iff.rfl ⟨fun g=>⟨hm,g⟩,fun g=>g.2⟩
   ·rw [e] at hs
    rw [Nat.add_sub_cancel]
    rcases List.mem_append.1 hs with hs | hs
    ·refine ⟨(hb s hs).1,?_⟩
     by_cases hz:0 < i
     ·have h1:=(F.top hz hi s hs).2
      have h2:=asc_lt h (show i - 1 < i by omega) hi1
      grind
     ·obtain rfl:i=0:=by omega
      cases hs
    ·obtain rfl:s=_:=by simpa using hs
     refine ⟨gb hi1,?_⟩
     rw [ghi hi1]; grind
   ·rw [Nat.add_sub_cancel] at hx; exact absurd hx hne
   ·rw [Nat.add_sub_cancel]
    exact ⟨_,_,e,ghi hi1⟩
 ·have e:fromI c ms (i + 1)=fromI c ms i:=by rw [fromI,if_neg hm]
  have hlt:i < c.length->∀s ∈ fromI c ms i,s.b=false/\s.hi < c.getD i 0:=fun hi1 s hs=>by
   by_cases hz:0 < i
   ·obtain ⟨h1,h2⟩:=F.top hz hi s hs
    have h3:=asc_lt h (show i - 1 < i by omega) hi1
    exact ⟨h1,by grind⟩
   ·obtain rfl:i=0:=by omega
    cases hs
  refine ⟨by rw [e]; exact F.r,fun t ht=>?_,fun _ hi1 s hs=>?_,fun _ hi1 hx s hs=>?_,fun _ hi1 hx=>?_⟩
  ·rw [e,ex_succ,F.mem t ht]
   exact ⟨.inl,fun g=>g.elim id fun g=>absurd g.1 hm⟩
  ·rw [e] at hs
   rw [Nat.add_sub_cancel]
   obtain ⟨h1,h2⟩:=hlt hi1 s hs
   exact ⟨h1,by grind⟩
  ·rw [e] at hs
   rw [Nat.add_sub_cancel]
   exact (hlt hi1 s hs).2
  ·rw [Nat.add_sub_cancel] at hx; exact absurd hx hm
theorem fi (h:asc c):∀{i:Nat},i<=c.length + 1->FI c ms i:=by
 intro i
 induction i with
 | zero=>exact fun _=>⟨⟨(fun _ h=>by cases h),List.Pairwise.nil⟩,(fun t _=>⟨(fun ⟨_,h,_⟩=>by cases h),(fun ⟨_,h,_⟩=>absurd h (Nat.not_lt_zero _))⟩),(fun h=>absurd h (Nat.lt_irrefl _)),(fun h=>absurd h (Nat.lt_irrefl _)),(fun h=>absurd h (Nat.lt_irrefl _))⟩
 | succ i ih=>exact fun hi=>fi_step h (by omega) (ih (by omega))
end
/-- Whether a number is inside. -/
def Sp.innB (s:Sp) (t:Rat):Bool:=(s.a || decide (s.lo < t)) && (s.b || decide (t < s.hi))
def inB (ss:List Sp) (t:Rat):Bool:=ss.any fun s=>s.innB t
theorem innB_iff {s:Sp} {t:Rat}:s.innB t=true↔s.inn t:=by unfold Sp.innB Sp.inn; simp
theorem inB_iff {ss:List Sp} {t:Rat}:inB ss t=true↔memS ss t:=by
 unfold inB memS; rw [List.any_eq_true]; exact ⟨fun ⟨s,h1,h2⟩=>⟨s,h1,innB_iff.1 h2⟩,fun ⟨s,h1,h2⟩=>⟨s,h1,innB_iff.2 h2⟩⟩
theorem bool_eq {a b:Bool} (h:a=true↔b=true):a=b:=by cases a <;> cases b <;> simp at h <;> rfl
theorem cls_two {ss:List Sp} {t:Rat} (h:∀s ∈ ss,¬ s.isEnd t):(clsL ss t == 2)=inB ss t:=by
 induction ss with
 | nil=>rfl
 | cons s r ih=>
  have ih:=ih fun x hx=>h x (by simp [hx])
  have hs:=h s (by simp)
  have hb:s.innB t=decide (clsV (s.la t) (s.lb t)=2)/\(clsV (s.la t) (s.lb t)≠0->clsV (s.la t) (s.lb t)=2):=by
   unfold Sp.isEnd at hs
   unfold Sp.innB Sp.la Sp.lb clsV
   rcases cmpQ_or t s.lo with ⟨h1,e1⟩ | ⟨h1,e1⟩ | ⟨h1,e1⟩ <;> rcases cmpQ_or t s.hi with ⟨h2,e2⟩ | ⟨h2,e2⟩ | ⟨h2,e2⟩ <;> rw [e1,e2] <;> cases ha:s.a <;> cases hb:s.b <;> simp [ha,hb] at hs ⊢ <;> grind
  have e:inB (s :: r) t=(s.innB t || inB r t):=rfl
  rw [e,← ih,hb.1]
  by_cases h0:clsV (s.la t) (s.lb t)=0
  ·simp [clsL,h0]
  ·have:=hb.2 h0
   simp [clsL,this]
def opB (op:Int) (x y:Bool):Bool:=if op=2 then x && y else if op=3 then x && !y else if op=4 then x != y else x || y
def marksL (op:Int) (a b:List Sp) (c:List Rat):List Bool:=(probesL c).map fun t=>opB op (clsL a t == 2) (clsL b t == 2)
def combL (op:Int) (a b:List Sp):List Sp:=fromL (endsL (a++b)) (marksL op a b (endsL (a++b)))
theorem marks_len (op:Int) (a b:List Sp) (c:List Rat):(marksL op a b c).length=c.length + 1:=by unfold marksL; rw [List.length_map,probes_len]
theorem comb_reg (op:Int) (a b:List Sp):reg (combL op a b):=by
 unfold combL fromL
 rw [marks_len]
 exact (fi (ends_asc _) (Nat.le_refl _)).r
/-- A gap lies in a span as a whole or not at all. -/
theorem gap_inB {ss:List Sp} {c:List Rat} (h:asc c) (hc:∀s ∈ ss,∀q,s.isEnd q->q ∈ c) {i:Nat} (hi:i<=c.length) {t u:Rat} (ht:(gapS c i).inn t) (hu:(gapS c i).inn u):inB ss t=inB ss u:=by
 induction ss with
 | nil=>rfl
 | cons s r ih=>
  have ih:=ih fun x hx=>hc x (by simp [hx])
  have e:∀t,inB (s :: r) t=(s.innB t || inB r t):=fun _=>rfl
  rw [e,e,ih]
  congr 1
  have hs:=hc s (by simp)
  unfold Sp.innB
  cases ha:s.a <;> cases hb:s.b <;> simp
  ·have h1:=gap_side h hi ht hu (hs s.lo (.inl ⟨ha,rfl⟩))
   have h2:=gap_side h hi ht hu (hs s.hi (.inr ⟨hb,rfl⟩))
   rw [decide_eq_decide.2 h1.1,decide_eq_decide.2 h2.2.1]
  ·exact (gap_side h hi ht hu (hs s.lo (.inl ⟨ha,rfl⟩))).1
  ·exact (gap_side h hi ht hu (hs s.hi (.inr ⟨hb,rfl⟩))).2.1
theorem comb_inB (op:Int) (a b:List Sp) {t:Rat} (ht:t ∉ endsL (a++b)):inB (combL op a b) t=opB op (inB a t) (inB b t):=by
 have hA:=ends_asc (a++b)
 have hE:∀s ∈ a++b,∀q,s.isEnd q->q ∈ endsL (a++b):=fun s hs q hq=>ends_iff.2 ⟨s,hs,hq⟩
 unfold combL fromL
 generalize endsL (a++b)=c at ht hA hE
 rw [marks_len]
 have ha:∀s ∈ a,∀q,s.isEnd q->q ∈ c:=fun s hs=>hE s (by simp [hs])
 have hb:∀s ∈ b,∀q,s.isEnd q->q ∈ c:=fun s hs=>hE s (by simp [hs])
 have mk:∀j,j<=c.length->(gapS c j).inn t->(marksL op a b c).getD j false=opB op (inB a t) (inB b t):=fun j hj hg=>by
  have hp:=probe_in hA hj
  have hnot:(probesL c).getD j 0 ∉ c:=fun hm=>(gap_side hA hj hp hp hm).2.2 rfl
  unfold marksL
  rw [List.getD_eq_getElem?_getD,List.getElem?_map,List.getElem?_eq_getElem (by rw [probes_len]; omega)]
  have e:(probesL c)[j]'(by rw [probes_len]; omega)=(probesL c).getD j 0:=by rw [List.getD_eq_getElem?_getD,List.getElem?_eq_getElem (by rw [probes_len]; omega)]; rfl
  simp only [Option.map_some,Option.getD_some,e]
  rw [cls_two (fun s hs he=>hnot (ha s hs _ he)),cls_two (fun s hs he=>hnot (hb s hs _ he)),gap_inB hA ha hj hp hg,gap_inB hA hb hj hp hg]
 refine bool_eq ?_
 rw [inB_iff,(fi hA (Nat.le_refl _)).mem t ht]
 constructor
 ·rintro ⟨j,hj,h1,h2⟩
  rw [← mk j (by omega) h2]; exact h1
 ·intro h1
  obtain ⟨i,hi,hg⟩:=gap_ex hA ht
  exact ⟨i,by omega,by rw [mk i hi hg]; exact h1,hg⟩
/-- Two lists in order with the same points, but for a few, are the same. -/
theorem reg_eq {xs ys:List Sp} (E:List Rat) (hx:reg xs) (hy:reg ys) (h:∀t,t ∉ E->inB xs t=inB ys t):xs=ys:=
 reg_unique (E:=E) hx hy fun t ht=>by rw [← inB_iff,← inB_iff,h t ht]
end Go.Proofs.Tryz
/- Contract: the reference's Combine. -/
namespace Go.Proofs.Tryz
open Go.Eng Go.Big
theorem lst_rsl {V:View} {p:OA} {n:Nat} {ss:List Sp} (h:Lst 8 RSs V p n ss):RSl V p n ss:=
 ⟨h.len,fun i hi=>by obtain ⟨ad,ha,xs,-,hx,hc⟩:=h.at_ i hi; exact ⟨ad,ha,xs,hx,hc⟩⟩
end Go.Proofs.Tryz
