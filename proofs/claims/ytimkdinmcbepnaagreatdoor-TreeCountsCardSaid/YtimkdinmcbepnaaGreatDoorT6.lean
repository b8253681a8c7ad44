/- A part of the proof (joined by program from: VNum, VBits, Big, Rep). -/
import Derived.Test.YtimkdinmcbepnaaGreatDoorT5
import Derived.WalkKit
import Derived.IntWalk
set_option linter.unusedVariables false
open Go.IntKind (i64 u64 u32)
/- By program: the conditions of the functions, from their loaded code. -/
namespace Go.Proofs.Tryz
open Go.Eng
open Go.Value renaming int→I,pointer→P,slice→S,agg→A,bool→B,tuple→T
open Go.IntKind renaming i64→J,u64→U,u32→W
set_option maxRecDepth 100000
theorem vc_num_Trim (b:OA) (f d:Nat) (V:View) (R:VR) (h:(∃(g:Int->VP) (l:Int->Nat),(∃m:Int,(s3 b f d (((f:Int)=m)))/\g m V)/\∀(a:Int) (e:View),V.Le e->g a e->(true=true/\(((decide (a > (0:Int)))=true->(b.isSome=true)/\(0<=(J.wrap (a - (1:Int)))/\(J.wrap (a - (1:Int))) < (f:Int))/\(∃i,(∃n,addrAdd b (((J.wrap (a - (1:Int))).toNat) * 1)=some n/\e.at n (I W i))/\(((i == (0:Int))=true->(∃k:Int,l k < l a/\(s3 b f d (((J.wrap (a - (1:Int)))=k)))/\g k e))/\((i == (0:Int))=false->(0<=a/\a<=(d:Int))/\(Rt e R (S b a.toNat d))))))/\((decide (a > (0:Int)))=false->(0<=a/\a<=(d:Int))/\(Rt e R (S b a.toNat d))))))):
 Acts prog 151 #[S b f d] V R:=
 fd (LF:=LF0) (RF:=[1000010]) [(2,⟨Int,false,[0],[],fun q=>[(3,.c (.v (I J q)))],fun q=>[]⟩)] [] func151 h
theorem vc_num_Word (a:Int) (V:View) (R:VR) (h:(0<=(32:Int))/\(∀b,V.Le b->∀c:Nat,(b.blk c (.cells #[I W (W.wrap a),I W (W.wrap (a.fdiv (2 ^ 32)))] 221 (0,0)))->Acts prog 151 #[S (some ⟨c,0,none⟩) 2 2] b fun i k=>∃d e f,i=S d e f/\∀l:C->Value,(Rt k R (S d e f)))):
 Acts prog 92 #[I U a] V R:=
 fd (LF:=LF0) (RF:=[1000010]) [] [] func92 h
theorem vc_num_One (V:View) (R:VR) (h:(∀a,V.Le a->∀b:Nat,(a.blk b (.cells #[I W 1] 221 (0,0)))->R (S (some ⟨b,0,none⟩) 1 1) a)):
 Acts prog 149 #[] V R:=
 fd (LF:=LF0) (RF:=[1000010]) [] [] func149 h
theorem vc_num_sign (a:Int) (V:View) (R:VR) (h:(((decide (a > (0:Int)))=true->(Rt V R (I J 1)))/\((decide (a > (0:Int)))=false->(((decide (a < (0:Int)))=true->(Rt V R (I J (-1))))/\((decide (a < (0:Int)))=false->(Rt V R (I J 0))))))):
 Acts prog 200 #[I J a] V R:=
 fd (LF:=LF0) (RF:=[1000010]) [] [] func200 h
theorem vc_num_Cmp (f:OA) (d i:Nat) (g:OA) (e k:Nat) (V:View) (R:VR) (h:((((d:Int) != (e:Int))=true->(Ca V 200 #[I J (J.wrap ((d:Int) - (e:Int)))] fun a4 a5=>∃r,a4=I J r/\(Rt a5 R (I J r))))/\(((d:Int) != (e:Int))=false->(∃(l:Int->VP) (t:Int->Nat),(∃u:Int,(s6 f d i g e k (((J.wrap ((d:Int)-1))=u)))/\l u V)/\∀(a:Int) (b:View),V.Le b->l a b->(true=true/\(((decide (a ≥ (0:Int)))=true->(f.isSome=true)/\(0<=a/\a < (d:Int))/\(∃m,(∃w,addrAdd f (a.toNat * 1)=some w/\b.at w (I W m))/\(g.isSome=true)/\(0<=a/\a < (e:Int))/\(∃n,(∃x,addrAdd g (a.toNat * 1)=some x/\b.at x (I W n))/\(((decide (m > n))=true->(Rt b R (I J 1)))/\((decide (m > n))=false->(f.isSome=true)/\(0<=a/\a < (d:Int))/\(∃o,(∃z,addrAdd f (a.toNat * 1)=some z/\b.at z (I W o))/\(g.isSome=true)/\(0<=a/\a < (e:Int))/\(∃p,(∃a0,addrAdd g (a.toNat * 1)=some a0/\b.at a0 (I W p))/\(((decide (o < p))=true->(Rt b R (I J (-1))))/\((decide (o < p))=false->(∃q:Int,t q < t a/\(s6 f d i g e k (((J.wrap (a - (1:Int)))=q)))/\l q b))))))))))/\((decide (a ≥ (0:Int)))=false->(Rt b R (I J 0))))))))):
 Acts prog 146 #[S f d i,S g e k] V R:=
 fd (LF:=LF0) (RF:=[1000010]) [(4,⟨Int,false,[0,1],[],fun a3=>[(5,.c (.v (I J a3)))],fun a3=>[]⟩)] [] func146 h
theorem vc_num_Sum (f:OA) (a i:Nat) (g:OA) (b k:Nat) (V:View) (R:VR) (h:(0<=J.wrap ((maxI (a:Int) (b:Int))+1))/\(J.wrap ((maxI (a:Int) (b:Int))+1)<=J.wrap ((maxI (a:Int) (b:Int))+1))/\((4:Int) * (J.wrap ((maxI (a:Int) (b:Int))+1))<=140737488355328)/\(∃(q:(Int × Int × (List Value))->VP) (w:(Int × Int × (List Value))->Nat),(∃o,(s6 f a i g b k (((maxI (a:Int) (b:Int))=(maxI (a:Int) (b:Int)))/\sm 0/\(((J.wrap ((maxI (a:Int) (b:Int))+1)).toNat:Nat)=(J.wrap ((maxI (a:Int) (b:Int))+1)).toNat)/\(((J.wrap ((maxI (a:Int) (b:Int))+1)).toNat:Nat)=(J.wrap ((maxI (a:Int) (b:Int))+1)).toNat)/\((0:Int)=o.1)/\((0:Int)=o.2.1)/\((List.replicate ((J.wrap ((maxI (a:Int) (b:Int))+1)).toNat) (I W 0))=o.2.2)))/\q o V)/\∀(d:Int × Int × (List Value)) (l:View),V.Le l->q d l->(true=true/\(((decide (d.2.1 < (maxI (a:Int) (b:Int))))=true->(∃r:Int->VP,(((decide (d.2.1 < (a:Int)))=true->(f.isSome=true)/\(0<=d.2.1/\d.2.1 < (a:Int))/\(∃x,(∃y,addrAdd f (d.2.1.toNat * 1)=some y/\l.at y (I W x))/\(∃z:Int,(s6 f a i g b k (((maxI (a:Int) (b:Int))=(maxI (a:Int) (b:Int)))/\sm 0/\(((J.wrap ((maxI (a:Int) (b:Int))+1)).toNat:Nat)=(J.wrap ((maxI (a:Int) (b:Int))+1)).toNat)/\(((J.wrap ((maxI (a:Int) (b:Int))+1)).toNat:Nat)=(J.wrap ((maxI (a:Int) (b:Int))+1)).toNat)/\s3 d.1 d.2.1 (0:Int) ((x=z)/\sm d.2.2)))/\r z l)))/\((decide (d.2.1 < (a:Int)))=false->(∃a0:Int,(s6 f a i g b k (((maxI (a:Int) (b:Int))=(maxI (a:Int) (b:Int)))/\sm 0/\(((J.wrap ((maxI (a:Int) (b:Int))+1)).toNat:Nat)=(J.wrap ((maxI (a:Int) (b:Int))+1)).toNat)/\(((J.wrap ((maxI (a:Int) (b:Int))+1)).toNat:Nat)=(J.wrap ((maxI (a:Int) (b:Int))+1)).toNat)/\s3 d.1 d.2.1 (0:Int) (((0:Int)=a0)/\sm d.2.2)))/\r a0 l)))/\∀(p:Int) (m:View),l.Le m->r p m->(true=true/\(∃s:Int->VP,(((decide (d.2.1 < (b:Int)))=true->(g.isSome=true)/\(0<=d.2.1/\d.2.1 < (b:Int))/\(∃a1,(∃a2,addrAdd g (d.2.1.toNat * 1)=some a2/\m.at a2 (I W a1))/\(∃a3:Int,(s6 f a i g b k (((maxI (a:Int) (b:Int))=(maxI (a:Int) (b:Int)))/\sm 0/\(((J.wrap ((maxI (a:Int) (b:Int))+1)).toNat:Nat)=(J.wrap ((maxI (a:Int) (b:Int))+1)).toNat)/\(((J.wrap ((maxI (a:Int) (b:Int))+1)).toNat:Nat)=(J.wrap ((maxI (a:Int) (b:Int))+1)).toNat)/\s3 d.1 d.2.1 p ((a1=a3)/\sm d.2.2)))/\s a3 m)))/\((decide (d.2.1 < (b:Int)))=false->(∃a4:Int,(s6 f a i g b k (((maxI (a:Int) (b:Int))=(maxI (a:Int) (b:Int)))/\sm 0/\(((J.wrap ((maxI (a:Int) (b:Int))+1)).toNat:Nat)=(J.wrap ((maxI (a:Int) (b:Int))+1)).toNat)/\(((J.wrap ((maxI (a:Int) (b:Int))+1)).toNat:Nat)=(J.wrap ((maxI (a:Int) (b:Int))+1)).toNat)/\s3 d.1 d.2.1 p (((0:Int)=a4)/\sm d.2.2)))/\s a4 m)))/\∀(a5:Int) (t:View),m.Le t->s a5 t->(true=true/\(Ca t 199 #[I W p,I W a5,I W d.1] fun b3 b4=>∃a6,∃a7,b3=T #[I W a6,I W a7]/\(0<=d.2.1/\d.2.1 < (((J.wrap ((maxI (a:Int) (b:Int))+1)).toNat:Nat):Int))/\((0 + (d.2.1.toNat * 1)) + 1<=d.2.2.length)/\(∃n:Int × Int × (List Value),w n < w d/\(s6 f a i g b k (((maxI (a:Int) (b:Int))=(maxI (a:Int) (b:Int)))/\sm 0/\(((J.wrap ((maxI (a:Int) (b:Int))+1)).toNat:Nat)=(J.wrap ((maxI (a:Int) (b:Int))+1)).toNat)/\(((J.wrap ((maxI (a:Int) (b:Int))+1)).toNat:Nat)=(J.wrap ((maxI (a:Int) (b:Int))+1)).toNat)/\(a7=n.1)/\((J.wrap (d.2.1 + (1:Int)))=n.2.1)/\((d.2.2.set (0 + (d.2.1.toNat * 1)) (I W a6))=n.2.2)))/\q n b4)))))))/\((decide (d.2.1 < (maxI (a:Int) (b:Int))))=false->(0<=(maxI (a:Int) (b:Int))/\(maxI (a:Int) (b:Int)) < (((J.wrap ((maxI (a:Int) (b:Int))+1)).toNat:Nat):Int))/\((0 + (((maxI (a:Int) (b:Int)).toNat) * 1)) + 1<=d.2.2.length)/\(∀u,l.Le u->∀a8:Nat,(u.blk a8 (.cells (d.2.2.set (0 + (((maxI (a:Int) (b:Int)).toNat) * 1)) (I W d.1)).toArray 221 (0,0)))->Acts prog 151 #[S (some ⟨a8,0,none⟩) ((J.wrap ((maxI (a:Int) (b:Int))+1)).toNat) ((J.wrap ((maxI (a:Int) (b:Int))+1)).toNat)] u fun b5 b6=>∃a9 b0 b1,b5=S a9 b0 b1/\∀b7:C->Value,(Rt b6 R (S a9 b0 b1)))))))):
 Acts prog 145 #[S f a i,S g b k] V R:=
 fd (LF:=LF0) (RF:=[1000010]) [(5,⟨Int × Int × (List Value),false,[0,1,5,6],[],fun e=>[(7,.c (.v (I W e.1))),(8,.c (.v (I J e.2.1)))],fun e=>[(18,⟨.row e.2.2,221⟩)]⟩)] [(9,⟨Int,false,[0,1,5,6,7,8,10],[18],fun e=>[(9,.c (.v (I W e)))],fun e=>[]⟩),(11,⟨Int,false,[0,1,5,6,7,8,9],[18],fun e=>[(10,.c (.v (I W e)))],fun e=>[]⟩)] func145 h
theorem vc_num_Less (e:OA) (a k:Nat) (f:OA) (d l:Nat) (V:View) (R:VR) (h:(0<=(a:Int))/\((a:Int)<=(a:Int))/\((4:Int) * (a:Int)<=140737488355328)/\(∃(p:(Int × Int × (List Value))->VP) (s:(Int × Int × (List Value))->Nat),(∃n,(s7 e a k f d l 0 ((((a:Int).toNat:Nat)=(a:Int).toNat)/\(((a:Int).toNat:Nat)=(a:Int).toNat)/\sm (a:Int)/\((0:Int)=n.1)/\((0:Int)=n.2.1)/\((List.replicate ((a:Int).toNat) (I W 0))=n.2.2)))/\p n V)/\∀(b:Int × Int × (List Value)) (g:View),V.Le g->p b g->(true=true/\(((decide (b.2.1 < (a:Int)))=true->(∃q:Int->VP,(((decide (b.2.1 < (d:Int)))=true->(f.isSome=true)/\(0<=b.2.1/\b.2.1 < (d:Int))/\(∃t,(∃u,addrAdd f (b.2.1.toNat * 1)=some u/\g.at u (I W t))/\(∃w:Int,(s7 e a k f d l 0 ((((a:Int).toNat:Nat)=(a:Int).toNat)/\(((a:Int).toNat:Nat)=(a:Int).toNat)/\s4 b.1 b.2.1 (a:Int) b.2.1 ((t=w)/\sm b.2.2)))/\q w g)))/\((decide (b.2.1 < (d:Int)))=false->(∃x:Int,(s7 e a k f d l 0 ((((a:Int).toNat:Nat)=(a:Int).toNat)/\(((a:Int).toNat:Nat)=(a:Int).toNat)/\s4 b.1 b.2.1 (a:Int) b.2.1 (((0:Int)=x)/\sm b.2.2)))/\q x g)))/\∀(y:Int) (o:View),g.Le o->q y o->(true=true/\(e.isSome=true)/\(0<=b.2.1/\b.2.1 < (a:Int))/\(∃z,(∃a0,addrAdd e (b.2.1.toNat * 1)=some a0/\o.at a0 (I W z))/\(Ca o 201 #[I W z,I W y,I W b.1] fun a8 a9=>∃a1,∃a2,a8=T #[I W a1,I W a2]/\(0<=b.2.1/\b.2.1 < (((a:Int).toNat:Nat):Int))/\((0 + (b.2.1.toNat * 1)) + 1<=b.2.2.length)/\(∃m:Int × Int × (List Value),s m < s b/\(s7 e a k f d l 0 ((((a:Int).toNat:Nat)=(a:Int).toNat)/\(((a:Int).toNat:Nat)=(a:Int).toNat)/\sm (a:Int)/\(a2=m.1)/\((J.wrap (b.2.1 + (1:Int)))=m.2.1)/\((b.2.2.set (0 + (b.2.1.toNat * 1)) (I W a1))=m.2.2)))/\p m a9))))))/\((decide (b.2.1 < (a:Int)))=false->(∀r,g.Le r->∀a3:Nat,(r.blk a3 (.cells b.2.2.toArray 221 (0,0)))->Acts prog 151 #[S (some ⟨a3,0,none⟩) ((a:Int).toNat) ((a:Int).toNat)] r fun b0 b1=>∃a4 a5 a6,b0=S a4 a5 a6/\∀b2:C->Value,(Rt b1 R (S a4 a5 a6)))))))):
 Acts prog 147 #[S e a k,S f d l] V R:=
 fd (LF:=LF0) (RF:=[1000010]) [(4,⟨Int × Int × (List Value),false,[0,1,5,13],[],fun i=>[(6,.c (.v (I W i.1))),(14,.c (.v (I J i.2.1)))],fun i=>[(11,⟨.row i.2.2,221⟩)]⟩)] [(8,⟨Int,false,[0,1,5,6,7,13,14],[11],fun i=>[(8,.c (.v (I W i)))],fun i=>[]⟩)] func147 h
theorem vc_num_Product (k:OA) (b m:Nat) (i:OA) (a l:Nat) (V:View) (R:VR) (h:((((b:Int) == (1:Int))=true->((((a:Int) == (1:Int))=true->(k.isSome=true)/\(0<=(0:Int)/\(0:Int) < (b:Int))/\(∃b3,(∃b4,addrAdd k 0=some b4/\V.at b4 (I W b3))/\(i.isSome=true)/\(0<=(0:Int)/\(0:Int) < (a:Int))/\(∃b5,(∃b6,addrAdd i 0=some b6/\V.at b6 (I W b5))/\(Ca V 92 #[I U (U.wrap ((U.wrap b3) * (U.wrap b5)))] fun d9 e0=>∃b7 b8 b9,d9=S b7 b8 b9/\(Rt e0 R (S b7 b8 b9))))))/\(((a:Int) == (1:Int))=false->(0<=J.wrap ((b:Int) + (a:Int)))/\(J.wrap ((b:Int) + (a:Int))<=J.wrap ((b:Int) + (a:Int)))/\((4:Int) * (J.wrap ((b:Int) + (a:Int)))<=140737488355328)/\(∃(a1:(Int × (List Value))->VP) (c1:(Int × (List Value))->Nat),(∃a2,(s4 i a l 0 ((((J.wrap ((b:Int) + (a:Int))).toNat:Nat)=(J.wrap ((b:Int) + (a:Int))).toNat)/\(((J.wrap ((b:Int) + (a:Int))).toNat:Nat)=(J.wrap ((b:Int) + (a:Int))).toNat)/\s4 k b m (b:Int) (((0:Int)=a2.1)/\((List.replicate ((J.wrap ((b:Int) + (a:Int))).toNat) (I W 0))=a2.2))))/\a1 a2 V)/\∀(d:Int × (List Value)) (o:View),V.Le o->a1 d o->(true=true/\(((decide (d.1 < (b:Int)))=true->(k.isSome=true)/\(0<=d.1/\d.1 < (b:Int))/\(∃q,(∃c2,addrAdd k (d.1.toNat * 1)=some c2/\o.at c2 (I W q))/\(∃(a3:(Int × Int × (List Value))->VP) (c3:(Int × Int × (List Value))->Nat),(∃x,(s4 i a l 0 ((((J.wrap ((b:Int) + (a:Int))).toNat:Nat)=(J.wrap ((b:Int) + (a:Int))).toNat)/\(((J.wrap ((b:Int) + (a:Int))).toNat:Nat)=(J.wrap ((b:Int) + (a:Int))).toNat)/\s11 d.1 q k b m (b:Int) d.1 i a l (a:Int) (((0:Int)=x.1)/\((0:Int)=x.2.1)/\(d.2=x.2.2))))/\a3 x o)/\∀(f:Int × Int × (List Value)) (r:View),o.Le r->a3 f r->(true=true/\(((decide (f.2.1 < (a:Int)))=true->(i.isSome=true)/\(0<=f.2.1/\f.2.1 < (a:Int))/\(∃a4,(∃c4,addrAdd i (f.2.1.toNat * 1)=some c4/\r.at c4 (I W a4))/\(0<=(J.wrap (d.1 + f.2.1))/\(J.wrap (d.1 + f.2.1)) < (((J.wrap ((b:Int) + (a:Int))).toNat:Nat):Int))/\(∃a5,f.2.2[0 + (((J.wrap (d.1 + f.2.1)).toNat) * 1)]?=some (I W a5)/\(0<=(J.wrap (d.1 + f.2.1))/\(J.wrap (d.1 + f.2.1)) < (((J.wrap ((b:Int) + (a:Int))).toNat:Nat):Int))/\((0 + (((J.wrap (d.1 + f.2.1)).toNat) * 1)) + 1<=f.2.2.length)/\(0<=(32:Int))/\(∃s:Int × Int × (List Value),c3 s < c3 f/\(s4 i a l 0 ((((J.wrap ((b:Int) + (a:Int))).toNat:Nat)=(J.wrap ((b:Int) + (a:Int))).toNat)/\(((J.wrap ((b:Int) + (a:Int))).toNat:Nat)=(J.wrap ((b:Int) + (a:Int))).toNat)/\s11 d.1 q k b m (b:Int) d.1 i a l (a:Int) ((((U.wrap ((U.wrap ((U.wrap ((U.wrap q) * (U.wrap a4))) + (U.wrap a5))) + f.1)).fdiv (2 ^ 32))=s.1)/\((J.wrap (f.2.1 + (1:Int)))=s.2.1)/\((f.2.2.set (0 + (((J.wrap (d.1 + f.2.1)).toNat) * 1)) (I W (W.wrap (U.wrap ((U.wrap ((U.wrap ((U.wrap q) * (U.wrap a4))) + (U.wrap a5))) + f.1)))))=s.2.2))))/\a3 s r))))/\((decide (f.2.1 < (a:Int)))=false->(0<=(J.wrap (d.1 + (a:Int)))/\(J.wrap (d.1 + (a:Int))) < (((J.wrap ((b:Int) + (a:Int))).toNat:Nat):Int))/\((0 + (((J.wrap (d.1 + (a:Int))).toNat) * 1)) + 1<=f.2.2.length)/\(∃y:Int × (List Value),c1 y < c1 d/\(s4 i a l 0 ((((J.wrap ((b:Int) + (a:Int))).toNat:Nat)=(J.wrap ((b:Int) + (a:Int))).toNat)/\(((J.wrap ((b:Int) + (a:Int))).toNat:Nat)=(J.wrap ((b:Int) + (a:Int))).toNat)/\s4 k b m (b:Int) (((J.wrap (d.1 + (1:Int)))=y.1)/\((f.2.2.set (0 + (((J.wrap (d.1 + (a:Int))).toNat) * 1)) (I W (W.wrap (f.1))))=y.2))))/\a1 y r)))))))/\((decide (d.1 < (b:Int)))=false->(∀a6,o.Le a6->∀c5:Nat,(a6.blk c5 (.cells d.2.toArray 221 (0,0)))->Acts prog 151 #[S (some ⟨c5,0,none⟩) ((J.wrap ((b:Int) + (a:Int))).toNat) ((J.wrap ((b:Int) + (a:Int))).toNat)] a6 fun e1 e2=>∃c6 c7 c8,e1=S c6 c7 c8/\∀e5:C->Value,(Rt e2 R (S c6 c7 c8))))))))))/\(((b:Int) == (1:Int))=false->(0<=J.wrap ((b:Int) + (a:Int)))/\(J.wrap ((b:Int) + (a:Int))<=J.wrap ((b:Int) + (a:Int)))/\((4:Int) * (J.wrap ((b:Int) + (a:Int)))<=140737488355328)/\(∃(a7:(Int × (List Value))->VP) (d0:(Int × (List Value))->Nat),(∃a8,(s4 i a l 0 ((((J.wrap ((b:Int) + (a:Int))).toNat:Nat)=(J.wrap ((b:Int) + (a:Int))).toNat)/\(((J.wrap ((b:Int) + (a:Int))).toNat:Nat)=(J.wrap ((b:Int) + (a:Int))).toNat)/\s4 k b m (b:Int) (((0:Int)=a8.1)/\((List.replicate ((J.wrap ((b:Int) + (a:Int))).toNat) (I W 0))=a8.2))))/\a7 a8 V)/\∀(e:Int × (List Value)) (p:View),V.Le p->a7 e p->(true=true/\(((decide (e.1 < (b:Int)))=true->(k.isSome=true)/\(0<=e.1/\e.1 < (b:Int))/\(∃t,(∃d1,addrAdd k (e.1.toNat * 1)=some d1/\p.at d1 (I W t))/\(∃(a9:(Int × Int × (List Value))->VP) (d2:(Int × Int × (List Value))->Nat),(∃z,(s4 i a l 0 ((((J.wrap ((b:Int) + (a:Int))).toNat:Nat)=(J.wrap ((b:Int) + (a:Int))).toNat)/\(((J.wrap ((b:Int) + (a:Int))).toNat:Nat)=(J.wrap ((b:Int) + (a:Int))).toNat)/\s11 e.1 t k b m (b:Int) e.1 i a l (a:Int) (((0:Int)=z.1)/\((0:Int)=z.2.1)/\(e.2=z.2.2))))/\a9 z p)/\∀(g:Int × Int × (List Value)) (u:View),p.Le u->a9 g u->(true=true/\(((decide (g.2.1 < (a:Int)))=true->(i.isSome=true)/\(0<=g.2.1/\g.2.1 < (a:Int))/\(∃b0,(∃d3,addrAdd i (g.2.1.toNat * 1)=some d3/\u.at d3 (I W b0))/\(0<=(J.wrap (e.1 + g.2.1))/\(J.wrap (e.1 + g.2.1)) < (((J.wrap ((b:Int) + (a:Int))).toNat:Nat):Int))/\(∃b1,g.2.2[0 + (((J.wrap (e.1 + g.2.1)).toNat) * 1)]?=some (I W b1)/\(0<=(J.wrap (e.1 + g.2.1))/\(J.wrap (e.1 + g.2.1)) < (((J.wrap ((b:Int) + (a:Int))).toNat:Nat):Int))/\((0 + (((J.wrap (e.1 + g.2.1)).toNat) * 1)) + 1<=g.2.2.length)/\(0<=(32:Int))/\(∃w:Int × Int × (List Value),d2 w < d2 g/\(s4 i a l 0 ((((J.wrap ((b:Int) + (a:Int))).toNat:Nat)=(J.wrap ((b:Int) + (a:Int))).toNat)/\(((J.wrap ((b:Int) + (a:Int))).toNat:Nat)=(J.wrap ((b:Int) + (a:Int))).toNat)/\s11 e.1 t k b m (b:Int) e.1 i a l (a:Int) ((((U.wrap ((U.wrap ((U.wrap ((U.wrap t) * (U.wrap b0))) + (U.wrap b1))) + g.1)).fdiv (2 ^ 32))=w.1)/\((J.wrap (g.2.1 + (1:Int)))=w.2.1)/\((g.2.2.set (0 + (((J.wrap (e.1 + g.2.1)).toNat) * 1)) (I W (W.wrap (U.wrap ((U.wrap ((U.wrap ((U.wrap t) * (U.wrap b0))) + (U.wrap b1))) + g.1)))))=w.2.2))))/\a9 w u))))/\((decide (g.2.1 < (a:Int)))=false->(0<=(J.wrap (e.1 + (a:Int)))/\(J.wrap (e.1 + (a:Int))) < (((J.wrap ((b:Int) + (a:Int))).toNat:Nat):Int))/\((0 + (((J.wrap (e.1 + (a:Int))).toNat) * 1)) + 1<=g.2.2.length)/\(∃a0:Int × (List Value),d0 a0 < d0 e/\(s4 i a l 0 ((((J.wrap ((b:Int) + (a:Int))).toNat:Nat)=(J.wrap ((b:Int) + (a:Int))).toNat)/\(((J.wrap ((b:Int) + (a:Int))).toNat:Nat)=(J.wrap ((b:Int) + (a:Int))).toNat)/\s4 k b m (b:Int) (((J.wrap (e.1 + (1:Int)))=a0.1)/\((g.2.2.set (0 + (((J.wrap (e.1 + (a:Int))).toNat) * 1)) (I W (W.wrap (g.1))))=a0.2))))/\a7 a0 u)))))))/\((decide (e.1 < (b:Int)))=false->(∀b2,p.Le b2->∀d4:Nat,(b2.blk d4 (.cells e.2.toArray 221 (0,0)))->Acts prog 151 #[S (some ⟨d4,0,none⟩) ((J.wrap ((b:Int) + (a:Int))).toNat) ((J.wrap ((b:Int) + (a:Int))).toNat)] b2 fun e3 e4=>∃d5 d6 d7,e3=S d5 d6 d7/\∀e6:C->Value,(Rt e4 R (S d5 d6 d7)))))))))):
 Acts prog 84 #[S k b m,S i a l] V R:=
 fd (LF:=LF0) (RF:=[1000010]) [(5,⟨Int × (List Value),false,[1,5,36,37],[],fun n=>[(38,.c (.v (I J n.1)))],fun n=>[(35,⟨.row n.2,221⟩)]⟩),(9,⟨Int × Int × (List Value),false,[1,5,6,7,36,37,38,43,44],[],fun n=>[(8,.c (.v (I U n.1))),(45,.c (.v (I J n.2.1)))],fun n=>[(35,⟨.row n.2.2,221⟩)]⟩)] [] func84 h
theorem vc_num_Left (e:OA) (d l:Nat) (a:Int) (V:View) (R:VR) (h:((32:Int)≠0)/\(0<=J.wrap ((J.wrap ((J.wrap (a.tdiv (32:Int))) + (d:Int)))+1))/\(J.wrap ((J.wrap ((J.wrap (a.tdiv (32:Int))) + (d:Int)))+1)<=J.wrap ((J.wrap ((J.wrap (a.tdiv (32:Int))) + (d:Int)))+1))/\((4:Int) * (J.wrap ((J.wrap ((J.wrap (a.tdiv (32:Int))) + (d:Int)))+1))<=140737488355328)/\((32:Int)≠0)/\(∃(m:(Int × (List Value))->VP) (q:(Int × (List Value))->Nat),(∃n,((a=a)/\sm 0/\(((J.wrap ((J.wrap ((J.wrap (a.tdiv (32:Int))) + (d:Int)))+1)).toNat:Nat)=(J.wrap ((J.wrap ((J.wrap (a.tdiv (32:Int))) + (d:Int)))+1)).toNat)/\(((J.wrap ((J.wrap ((J.wrap (a.tdiv (32:Int))) + (d:Int)))+1)).toNat:Nat)=(J.wrap ((J.wrap ((J.wrap (a.tdiv (32:Int))) + (d:Int)))+1)).toNat)/\((U.wrap (a.tmod (32:Int)))=(U.wrap (a.tmod (32:Int))))/\s4 e d l (d:Int) (((0:Int)=n.1)/\((List.replicate ((J.wrap ((J.wrap ((J.wrap (a.tdiv (32:Int))) + (d:Int)))+1)).toNat) (I W 0))=n.2)))/\m n V)/\∀(b:Int × (List Value)) (f:View),V.Le f->m b f->(true=true/\(((decide (b.1 < (d:Int)))=true->(e.isSome=true)/\(0<=b.1/\b.1 < (d:Int))/\(∃g,(∃r,addrAdd e (b.1.toNat * 1)=some r/\f.at r (I W g))/\(0<=(U.wrap (a.tmod (32:Int))))/\((32:Int)≠0)/\(0<=(J.wrap ((J.wrap (a.tdiv (32:Int))) + b.1))/\(J.wrap ((J.wrap (a.tdiv (32:Int))) + b.1)) < (((J.wrap ((J.wrap ((J.wrap (a.tdiv (32:Int))) + (d:Int)))+1)).toNat:Nat):Int))/\(∃i,b.2[0 + (((J.wrap ((J.wrap (a.tdiv (32:Int))) + b.1)).toNat) * 1)]?=some (I W i)/\(0<=(J.wrap ((J.wrap (a.tdiv (32:Int))) + b.1))/\(J.wrap ((J.wrap (a.tdiv (32:Int))) + b.1)) < (((J.wrap ((J.wrap ((J.wrap (a.tdiv (32:Int))) + (d:Int)))+1)).toNat:Nat):Int))/\((0 + (((J.wrap ((J.wrap (a.tdiv (32:Int))) + b.1)).toNat) * 1)) + 1<=b.2.length)/\((32:Int)≠0)/\(0<=(J.wrap ((J.wrap ((J.wrap (a.tdiv (32:Int))) + b.1))+1))/\(J.wrap ((J.wrap ((J.wrap (a.tdiv (32:Int))) + b.1))+1)) < (((J.wrap ((J.wrap ((J.wrap (a.tdiv (32:Int))) + (d:Int)))+1)).toNat:Nat):Int))/\(∃s,(b.2.set (0 + (((J.wrap ((J.wrap (a.tdiv (32:Int))) + b.1)).toNat) * 1)) (I W (bitI .or .u32 i (W.wrap (U.wrap ((U.wrap g) * 2 ^ (min (U.wrap (a.tmod (32:Int))).toNat IntKind.u64.bits)))))))[0 + (((J.wrap ((J.wrap ((J.wrap (a.tdiv (32:Int))) + b.1))+1)).toNat) * 1)]?=some (I W s)/\(0<=(32:Int))/\(0<=(J.wrap ((J.wrap ((J.wrap (a.tdiv (32:Int))) + b.1))+1))/\(J.wrap ((J.wrap ((J.wrap (a.tdiv (32:Int))) + b.1))+1)) < (((J.wrap ((J.wrap ((J.wrap (a.tdiv (32:Int))) + (d:Int)))+1)).toNat:Nat):Int))/\((0 + (((J.wrap ((J.wrap ((J.wrap (a.tdiv (32:Int))) + b.1))+1)).toNat) * 1)) + 1<=(b.2.set (0 + (((J.wrap ((J.wrap (a.tdiv (32:Int))) + b.1)).toNat) * 1)) (I W (bitI .or .u32 i (W.wrap (U.wrap ((U.wrap g) * 2 ^ (min (U.wrap (a.tmod (32:Int))).toNat IntKind.u64.bits))))))).length)/\(∃k:Int × (List Value),q k < q b/\((a=a)/\sm 0/\(((J.wrap ((J.wrap ((J.wrap (a.tdiv (32:Int))) + (d:Int)))+1)).toNat:Nat)=(J.wrap ((J.wrap ((J.wrap (a.tdiv (32:Int))) + (d:Int)))+1)).toNat)/\(((J.wrap ((J.wrap ((J.wrap (a.tdiv (32:Int))) + (d:Int)))+1)).toNat:Nat)=(J.wrap ((J.wrap ((J.wrap (a.tdiv (32:Int))) + (d:Int)))+1)).toNat)/\((U.wrap (a.tmod (32:Int)))=(U.wrap (a.tmod (32:Int))))/\s4 e d l (d:Int) (((J.wrap (b.1 + (1:Int)))=k.1)/\(((b.2.set (0 + (((J.wrap ((J.wrap (a.tdiv (32:Int))) + b.1)).toNat) * 1)) (I W (bitI .or .u32 i (W.wrap (U.wrap ((U.wrap g) * 2 ^ (min (U.wrap (a.tmod (32:Int))).toNat IntKind.u64.bits))))))).set (0 + (((J.wrap ((J.wrap ((J.wrap (a.tdiv (32:Int))) + b.1))+1)).toNat) * 1)) (I W (bitI .or .u32 s (W.wrap ((U.wrap ((U.wrap g) * 2 ^ (min (U.wrap (a.tmod (32:Int))).toNat IntKind.u64.bits))).fdiv (2 ^ 32))))))=k.2)))/\m k f)))))/\((decide (b.1 < (d:Int)))=false->(∀o,f.Le o->∀t:Nat,(o.blk t (.cells b.2.toArray 221 (0,0)))->Acts prog 151 #[S (some ⟨t,0,none⟩) ((J.wrap ((J.wrap ((J.wrap (a.tdiv (32:Int))) + (d:Int)))+1)).toNat) ((J.wrap ((J.wrap ((J.wrap (a.tdiv (32:Int))) + (d:Int)))+1)).toNat)] o fun z a0=>∃u w x,z=S u w x/\∀a1:C->Value,(Rt a0 R (S u w x)))))))):
 Acts prog 229 #[S e d l,I J a] V R:=
 fd (LF:=LF0) (RF:=[1000010]) [(4,⟨Int × (List Value),false,[1,5,6,20,21],[],fun p=>[(22,.c (.v (I J p.1)))],fun p=>[(16,⟨.row p.2,221⟩)]⟩)] [] func229 h
theorem vc_num_Right (f:OA) (b d:Nat) (a:Int) (V:View) (R:VR) (h:((32:Int)≠0)/\(((decide ((J.wrap (a.tdiv (32:Int))) ≥ (b:Int)))=true->(Rt V R (S none 0 0)))/\((decide ((J.wrap (a.tdiv (32:Int))) ≥ (b:Int)))=false->((32:Int)≠0)/\((32:Int)≠0)/\(0<=(J.wrap (a.tdiv (32:Int)))/\(J.wrap (a.tdiv (32:Int)))<=(b:Int))/\(0<=((b - ((J.wrap (a.tdiv (32:Int))).toNat):Nat):Int))/\(((b - ((J.wrap (a.tdiv (32:Int))).toNat):Nat):Int)<=((b - ((J.wrap (a.tdiv (32:Int))).toNat):Nat):Int))/\((4:Int) * ((b - ((J.wrap (a.tdiv (32:Int))).toNat):Nat):Int)<=140737488355328)/\(∃(l:(Int × (List Value))->VP) (s:(Int × (List Value))->Nat),(∃m,(((U.wrap (a.tmod (32:Int)))=(U.wrap (a.tmod (32:Int))))/\((slA f d ((J.wrap (a.tdiv (32:Int))).toNat) 1:OA)=(slA f d ((J.wrap (a.tdiv (32:Int))).toNat) 1))/\((b - ((J.wrap (a.tdiv (32:Int))).toNat):Nat)=(b - ((J.wrap (a.tdiv (32:Int))).toNat)))/\((d - ((J.wrap (a.tdiv (32:Int))).toNat):Nat)=(d - ((J.wrap (a.tdiv (32:Int))).toNat)))/\sm 0/\((((b - ((J.wrap (a.tdiv (32:Int))).toNat):Nat):Int).toNat:Nat)=((b - ((J.wrap (a.tdiv (32:Int))).toNat):Nat):Int).toNat)/\((((b - ((J.wrap (a.tdiv (32:Int))).toNat):Nat):Int).toNat:Nat)=((b - ((J.wrap (a.tdiv (32:Int))).toNat):Nat):Int).toNat)/\((slA f d ((J.wrap (a.tdiv (32:Int))).toNat) 1:OA)=(slA f d ((J.wrap (a.tdiv (32:Int))).toNat) 1))/\((b - ((J.wrap (a.tdiv (32:Int))).toNat):Nat)=(b - ((J.wrap (a.tdiv (32:Int))).toNat)))/\((d - ((J.wrap (a.tdiv (32:Int))).toNat):Nat)=(d - ((J.wrap (a.tdiv (32:Int))).toNat)))/\(((b - ((J.wrap (a.tdiv (32:Int))).toNat):Nat):Int)=((b - ((J.wrap (a.tdiv (32:Int))).toNat):Nat):Int))/\((0:Int)=m.1)/\((List.replicate (((b - ((J.wrap (a.tdiv (32:Int))).toNat):Nat):Int).toNat) (I W 0))=m.2))/\l m V)/\∀(e:Int × (List Value)) (g:View),V.Le g->l e g->(true=true/\(((decide (e.1 < ((b - ((J.wrap (a.tdiv (32:Int))).toNat):Nat):Int)))=true->((slA f d ((J.wrap (a.tdiv (32:Int))).toNat) 1).isSome=true)/\(0<=e.1/\e.1 < ((b - ((J.wrap (a.tdiv (32:Int))).toNat):Nat):Int))/\(∃n,(∃t,addrAdd (slA f d ((J.wrap (a.tdiv (32:Int))).toNat) 1) (e.1.toNat * 1)=some t/\g.at t (I W n))/\(∃o:Int->VP,(((decide ((J.wrap (e.1 + (1:Int))) < ((b - ((J.wrap (a.tdiv (32:Int))).toNat):Nat):Int)))=true->((slA f d ((J.wrap (a.tdiv (32:Int))).toNat) 1).isSome=true)/\(0<=(J.wrap (e.1 + (1:Int)))/\(J.wrap (e.1 + (1:Int))) < ((b - ((J.wrap (a.tdiv (32:Int))).toNat):Nat):Int))/\(∃u,(∃w,addrAdd (slA f d ((J.wrap (a.tdiv (32:Int))).toNat) 1) (((J.wrap (e.1 + (1:Int))).toNat) * 1)=some w/\g.at w (I W u))/\(0<=(32:Int))/\(∃x:Int,(((U.wrap (a.tmod (32:Int)))=(U.wrap (a.tmod (32:Int))))/\((slA f d ((J.wrap (a.tdiv (32:Int))).toNat) 1:OA)=(slA f d ((J.wrap (a.tdiv (32:Int))).toNat) 1))/\((b - ((J.wrap (a.tdiv (32:Int))).toNat):Nat)=(b - ((J.wrap (a.tdiv (32:Int))).toNat)))/\((d - ((J.wrap (a.tdiv (32:Int))).toNat):Nat)=(d - ((J.wrap (a.tdiv (32:Int))).toNat)))/\sm 0/\((((b - ((J.wrap (a.tdiv (32:Int))).toNat):Nat):Int).toNat:Nat)=((b - ((J.wrap (a.tdiv (32:Int))).toNat):Nat):Int).toNat)/\((((b - ((J.wrap (a.tdiv (32:Int))).toNat):Nat):Int).toNat:Nat)=((b - ((J.wrap (a.tdiv (32:Int))).toNat):Nat):Int).toNat)/\sm e.1/\((slA f d ((J.wrap (a.tdiv (32:Int))).toNat) 1:OA)=(slA f d ((J.wrap (a.tdiv (32:Int))).toNat) 1))/\((b - ((J.wrap (a.tdiv (32:Int))).toNat):Nat)=(b - ((J.wrap (a.tdiv (32:Int))).toNat)))/\((d - ((J.wrap (a.tdiv (32:Int))).toNat):Nat)=(d - ((J.wrap (a.tdiv (32:Int))).toNat)))/\(((b - ((J.wrap (a.tdiv (32:Int))).toNat):Nat):Int)=((b - ((J.wrap (a.tdiv (32:Int))).toNat):Nat):Int))/\sm e.1/\((bitI .or .u64 (U.wrap n) (U.wrap ((U.wrap u) * 2 ^ 32)))=x)/\sm e.2)/\o x g)))/\((decide ((J.wrap (e.1 + (1:Int))) < ((b - ((J.wrap (a.tdiv (32:Int))).toNat):Nat):Int)))=false->(∃y:Int,(((U.wrap (a.tmod (32:Int)))=(U.wrap (a.tmod (32:Int))))/\((slA f d ((J.wrap (a.tdiv (32:Int))).toNat) 1:OA)=(slA f d ((J.wrap (a.tdiv (32:Int))).toNat) 1))/\((b - ((J.wrap (a.tdiv (32:Int))).toNat):Nat)=(b - ((J.wrap (a.tdiv (32:Int))).toNat)))/\((d - ((J.wrap (a.tdiv (32:Int))).toNat):Nat)=(d - ((J.wrap (a.tdiv (32:Int))).toNat)))/\sm 0/\((((b - ((J.wrap (a.tdiv (32:Int))).toNat):Nat):Int).toNat:Nat)=((b - ((J.wrap (a.tdiv (32:Int))).toNat):Nat):Int).toNat)/\((((b - ((J.wrap (a.tdiv (32:Int))).toNat):Nat):Int).toNat:Nat)=((b - ((J.wrap (a.tdiv (32:Int))).toNat):Nat):Int).toNat)/\sm e.1/\((slA f d ((J.wrap (a.tdiv (32:Int))).toNat) 1:OA)=(slA f d ((J.wrap (a.tdiv (32:Int))).toNat) 1))/\((b - ((J.wrap (a.tdiv (32:Int))).toNat):Nat)=(b - ((J.wrap (a.tdiv (32:Int))).toNat)))/\((d - ((J.wrap (a.tdiv (32:Int))).toNat):Nat)=(d - ((J.wrap (a.tdiv (32:Int))).toNat)))/\(((b - ((J.wrap (a.tdiv (32:Int))).toNat):Nat):Int)=((b - ((J.wrap (a.tdiv (32:Int))).toNat):Nat):Int))/\sm e.1/\((U.wrap n)=y)/\sm e.2)/\o y g)))/\∀(z:Int) (p:View),g.Le p->o z p->(true=true/\(0<=(U.wrap (a.tmod (32:Int))))/\(0<=e.1/\e.1 < ((((b - ((J.wrap (a.tdiv (32:Int))).toNat):Nat):Int).toNat:Nat):Int))/\((0 + (e.1.toNat * 1)) + 1<=e.2.length)/\(∃k:Int × (List Value),s k < s e/\(((U.wrap (a.tmod (32:Int)))=(U.wrap (a.tmod (32:Int))))/\((slA f d ((J.wrap (a.tdiv (32:Int))).toNat) 1:OA)=(slA f d ((J.wrap (a.tdiv (32:Int))).toNat) 1))/\((b - ((J.wrap (a.tdiv (32:Int))).toNat):Nat)=(b - ((J.wrap (a.tdiv (32:Int))).toNat)))/\((d - ((J.wrap (a.tdiv (32:Int))).toNat):Nat)=(d - ((J.wrap (a.tdiv (32:Int))).toNat)))/\sm 0/\((((b - ((J.wrap (a.tdiv (32:Int))).toNat):Nat):Int).toNat:Nat)=((b - ((J.wrap (a.tdiv (32:Int))).toNat):Nat):Int).toNat)/\((((b - ((J.wrap (a.tdiv (32:Int))).toNat):Nat):Int).toNat:Nat)=((b - ((J.wrap (a.tdiv (32:Int))).toNat):Nat):Int).toNat)/\((slA f d ((J.wrap (a.tdiv (32:Int))).toNat) 1:OA)=(slA f d ((J.wrap (a.tdiv (32:Int))).toNat) 1))/\((b - ((J.wrap (a.tdiv (32:Int))).toNat):Nat)=(b - ((J.wrap (a.tdiv (32:Int))).toNat)))/\((d - ((J.wrap (a.tdiv (32:Int))).toNat):Nat)=(d - ((J.wrap (a.tdiv (32:Int))).toNat)))/\(((b - ((J.wrap (a.tdiv (32:Int))).toNat):Nat):Int)=((b - ((J.wrap (a.tdiv (32:Int))).toNat):Nat):Int))/\((J.wrap (e.1 + (1:Int)))=k.1)/\((e.2.set (0 + (e.1.toNat * 1)) (I W (W.wrap (z.fdiv (2 ^ (min (U.wrap (a.tmod (32:Int))).toNat IntKind.u64.bits))))))=k.2))/\l k p)))))/\((decide (e.1 < ((b - ((J.wrap (a.tdiv (32:Int))).toNat):Nat):Int)))=false->(∀q,g.Le q->∀a0:Nat,(q.blk a0 (.cells e.2.toArray 221 (0,0)))->Acts prog 151 #[S (some ⟨a0,0,none⟩) (((b - ((J.wrap (a.tdiv (32:Int))).toNat):Nat):Int).toNat) (((b - ((J.wrap (a.tdiv (32:Int))).toNat):Nat):Int).toNat)] q fun a5 a6=>∃a1 a2 a3,a5=S a1 a2 a3/\∀a7:C->Value,(Rt a6 R (S a1 a2 a3)))))))))):
 Acts prog 230 #[S f b d,I J a] V R:=
 fd (LF:=LF0) (RF:=[1000010]) [(7,⟨Int × (List Value),false,[5,6,7,26,27],[],fun i=>[(28,.c (.v (I J i.1)))],fun i=>[(25,⟨.row i.2,221⟩)]⟩)] [(11,⟨Int,false,[5,6,7,8,26,27,28],[25],fun i=>[(10,.c (.v (I U i)))],fun i=>[]⟩)] func230 h
theorem vc_num_word (b:OA) (a o:Nat) (V:View) (R:VR) (h:((((a:Int) == (0:Int))=true->(Rt V R (T #[I U 0,B true])))/\(((a:Int) == (0:Int))=false->((((a:Int) == (1:Int))=true->(b.isSome=true)/\(0<=(0:Int)/\(0:Int) < (a:Int))/\(∃d,(∃e,addrAdd b 0=some e/\V.at e (I W d))/\(Rt V R (T #[I U (U.wrap d),B true]))))/\(((a:Int) == (1:Int))=false->((((a:Int) == (2:Int))=true->(b.isSome=true)/\(0<=(1:Int)/\(1:Int) < (a:Int))/\(∃g,(∃i,addrAdd b 1=some i/\V.at i (I W g))/\(0<=(32:Int))/\(b.isSome=true)/\(0<=(0:Int)/\(0:Int) < (a:Int))/\(∃k,(∃l,addrAdd b 0=some l/\V.at l (I W k))/\(Rt V R (T #[I U (bitI .or .u64 (U.wrap ((U.wrap g) * 2 ^ 32)) (U.wrap k)),B true])))))/\(((a:Int) == (2:Int))=false->(Rt V R (T #[I U 0,B false]))))))))):
 Acts prog 202 #[S b a o] V R:=
 fd (LF:=LF0) (RF:=[1000010]) [] [] func202 h
theorem vc_num_Divide (d:OA) (a g:Nat) (f:OA) (e i:Nat) (V:View) (R:VR) (h:(Ca V 202 #[S d a g] fun d7 r=>∃s,∃t,d7=T #[I U s,B t]/\(∃u:Unit->VP,((t=true->(Ca r 202 #[S f e i] fun d8 a4=>∃m,∃w,d8=T #[I U m,B w]/\((w=true->(m≠0)/\(m≠0)/\(Ca a4 92 #[I U (U.wrap (s.tdiv m))] fun d9 e0=>∃a5 a6 a7,d9=S a5 a6 a7/\(Ca e0 92 #[I U (s.tmod m)] fun e1 e2=>∃a8 a9 b0,e1=S a8 a9 b0/\(Rt e2 R (T #[S a5 a6 a7,S a8 a9 b0])))))/\(w=false->(∃e3:Unit,(s5 d a g f e (sm i))/\u e3 a4)))))/\(t=false->(∃e4:Unit,(s5 d a g f e (sm i))/\u e4 r)))/\∀(e5:Unit) (x:View),r.Le x->u e5 x->(true=true/\(Ca x 146 #[S d a g,S f e i] fun e6 n=>∃y,e6=I J y/\(((decide (y < (0:Int)))=true->(∃o:List Value,n.sl d o/\o.length=a * 1/\((0 + a) * 4<=140737488355328/\0<=0/\0 * 1<=([]:List Value).length/\o.length=a * 1/\(∀e7 ∈ o,e7.oneCell'=true)/\∀(f6:Nat) (f7:C->Value) (b2:List Value) (z:Nat),0 + a<=z->z * 1<=(0 + a) * 1 + b2.length->(∀a0,n.Le a0->∀b3:Nat,(a0.blk b3 (.cells (([]:List Value).take (0 * 1)++o++b2).toArray 221 (0,0)))->R (T #[S none 0 0,S (some ⟨b3,0,none⟩) (0 + a) z]) a0))))/\((decide (y < (0:Int)))=false->((((e:Int) == (1:Int))=true->(0<=(a:Int))/\((a:Int)<=(a:Int))/\((4:Int) * (a:Int)<=140737488355328)/\(∃(a1:(Int × Int × (List Value))->VP) (b4:(Int × Int × (List Value))->Nat),(∃q,(s7 d a g f e i 0 ((((a:Int).toNat:Nat)=(a:Int).toNat)/\(((a:Int).toNat:Nat)=(a:Int).toNat)/\((0:Int)=q.1)/\((J.wrap ((a:Int)-1))=q.2.1)/\((List.replicate ((a:Int).toNat) (I W 0))=q.2.2)))/\a1 q n)/\∀(b:Int × Int × (List Value)) (k:View),n.Le k->a1 b k->(true=true/\(((decide (b.2.1 ≥ (0:Int)))=true->(d.isSome=true)/\(0<=b.2.1/\b.2.1 < (a:Int))/\(∃b5,(∃b6,addrAdd d (b.2.1.toNat * 1)=some b6/\k.at b6 (I W b5))/\(f.isSome=true)/\(0<=(0:Int)/\(0:Int) < (e:Int))/\(∃b7,(∃b8,addrAdd f 0=some b8/\k.at b8 (I W b7))/\(Ca k 203 #[I W b.1,I W b5,I W b7] fun e8 e9=>∃b9,∃c0,e8=T #[I W b9,I W c0]/\(0<=b.2.1/\b.2.1 < (((a:Int).toNat:Nat):Int))/\((0 + (b.2.1.toNat * 1)) + 1<=b.2.2.length)/\(∃p:Int × Int × (List Value),b4 p < b4 b/\(s7 d a g f e i 0 ((((a:Int).toNat:Nat)=(a:Int).toNat)/\(((a:Int).toNat:Nat)=(a:Int).toNat)/\(c0=p.1)/\((J.wrap (b.2.1 - (1:Int)))=p.2.1)/\((b.2.2.set (0 + (b.2.1.toNat * 1)) (I W b9))=p.2.2)))/\a1 p e9)))))/\((decide (b.2.1 ≥ (0:Int)))=false->(∀a2,k.Le a2->∀c1:Nat,(a2.blk c1 (.cells b.2.2.toArray 221 (0,0)))->Acts prog 151 #[S (some ⟨c1,0,none⟩) ((a:Int).toNat) ((a:Int).toNat)] a2 fun f0 f1=>∃c2 c3 c4,f0=S c2 c3 c4/\∀f8:C->Value,(∀a3,f1.Le a3->∀c5:Nat,(a3.blk c5 (.cells #[I W b.1] 221 (0,0)))->Acts prog 151 #[S (some ⟨c5,0,none⟩) 1 1] a3 fun f2 f3=>∃c6 c7 c8,f2=S c6 c7 c8/\∀f9:C->Value,(Rt f3 R (T #[S c2 c3 c4,S c6 c7 c8])))))))))/\(((e:Int) == (1:Int))=false->(Ca n 204 #[S d a g,S f e i] fun f4 f5=>∃d0 d1 d2,∃d3 d4 d5,f4=T #[S d0 d1 d2,S d3 d4 d5]/\(Rt f5 R (T #[S d0 d1 d2,S d3 d4 d5])))))))))))):
 Acts prog 150 #[S d a g,S f e i] V R:=
 fd (LF:=LF0) (RF:=[1000010]) [(12,⟨Int × Int × (List Value),false,[0,1,10],[],fun l=>[(11,.c (.v (I W l.1))),(12,.c (.v (I J l.2.1)))],fun l=>[(45,⟨.row l.2.2,221⟩)]⟩)] [(3,⟨Unit,false,[0,1],[],fun l=>[],fun l=>[]⟩)] func150 h
theorem vc_num_long (a5:OA) (d a6:Nat) (s:OA) (b a7:Nat) (V:View) (R:VR) (h:(s.isSome=true)/\(0<=(J.wrap ((b:Int)-1))/\(J.wrap ((b:Int)-1)) < (b:Int))/\(∃a8,(∃a9,addrAdd s (((J.wrap ((b:Int)-1)).toNat) * 1)=some a9/\V.at a9 (I W a8))/\(Ca V 226 #[I W a8] fun f8 f9=>∃k,f8=I J k/\(Ca f9 229 #[S s b a7,I J k] fun g0 g1=>∃i e l,g0=S i e l/\(Ca g1 229 #[S a5 d a6,I J k] fun g2 t=>∃b0 b1 b2,g2=S b0 b1 b2/\(i.isSome=true)/\(0<=(J.wrap ((e:Int)-1))/\(J.wrap ((e:Int)-1)) < (e:Int))/\(∃f,(∃b3,addrAdd i (((J.wrap ((e:Int)-1)).toNat) * 1)=some b3/\t.at b3 (I W f))/\(0<=J.wrap ((J.wrap ((d:Int) - (b:Int)))+1))/\(J.wrap ((J.wrap ((d:Int) - (b:Int)))+1)<=J.wrap ((J.wrap ((d:Int) - (b:Int)))+1))/\((4:Int) * (J.wrap ((J.wrap ((d:Int) - (b:Int)))+1))<=140737488355328)/\(∃(u:((OA) × Nat × Nat × Int × (List Value))->VP) (b4:((OA) × Nat × Nat × Int × (List Value))->Nat),(∃p:(OA) × Nat × Nat × Int × (List Value),(s4 k i e l (((U.wrap f)=(U.wrap f))/\sm 0/\(((J.wrap ((J.wrap ((d:Int) - (b:Int)))+1)).toNat:Nat)=(J.wrap ((J.wrap ((d:Int) - (b:Int)))+1)).toNat)/\(((J.wrap ((J.wrap ((d:Int) - (b:Int)))+1)).toNat:Nat)=(J.wrap ((J.wrap ((d:Int) - (b:Int)))+1)).toNat)/\((b0:OA)=p.1)/\((b1:Nat)=p.2.1)/\((b2:Nat)=p.2.2.1)/\((J.wrap ((((J.wrap ((J.wrap ((d:Int) - (b:Int)))+1)).toNat:Nat):Int)-1))=p.2.2.2.1)/\((List.replicate ((J.wrap ((J.wrap ((d:Int) - (b:Int)))+1)).toNat) (I W 0))=p.2.2.2.2)))/\u p t)/\∀(a:(OA) × Nat × Nat × Int × (List Value)) (m:View),t.Le m->u a m->(true=true/\(((decide (a.2.2.2.1 ≥ (0:Int)))=true->(∃w:Int->VP,(((decide ((J.wrap ((e:Int) + a.2.2.2.1)) < ((a.2.1:Nat):Int)))=true->(a.1.isSome=true)/\(0<=(J.wrap ((e:Int) + a.2.2.2.1))/\(J.wrap ((e:Int) + a.2.2.2.1)) < ((a.2.1:Nat):Int))/\(∃b5,(∃b6,addrAdd a.1 (((J.wrap ((e:Int) + a.2.2.2.1)).toNat) * 1)=some b6/\m.at b6 (I W b5))/\(0<=(32:Int))/\(a.1.isSome=true)/\(0<=(J.wrap ((J.wrap ((e:Int) + a.2.2.2.1))-1))/\(J.wrap ((J.wrap ((e:Int) + a.2.2.2.1))-1)) < ((a.2.1:Nat):Int))/\(∃b7,(∃b8,addrAdd a.1 (((J.wrap ((J.wrap ((e:Int) + a.2.2.2.1))-1)).toNat) * 1)=some b8/\m.at b8 (I W b7))/\(∃b9:Int,(s4 k i e l (((a.1:OA)=a.1)/\((a.2.1:Nat)=a.2.1)/\((a.2.2.1:Nat)=a.2.2.1)/\((U.wrap f)=(U.wrap f))/\sm 0/\(((J.wrap ((J.wrap ((d:Int) - (b:Int)))+1)).toNat:Nat)=(J.wrap ((J.wrap ((d:Int) - (b:Int)))+1)).toNat)/\(((J.wrap ((J.wrap ((d:Int) - (b:Int)))+1)).toNat:Nat)=(J.wrap ((J.wrap ((d:Int) - (b:Int)))+1)).toNat)/\sm a.2.2.2.1/\((bitI .or .u64 (U.wrap ((U.wrap b5) * 2 ^ 32)) (U.wrap b7))=b9)/\sm a.2.2.2.2))/\w b9 m))))/\((decide ((J.wrap ((e:Int) + a.2.2.2.1)) < ((a.2.1:Nat):Int)))=false->(∃x:Int->VP,(((decide ((J.wrap ((J.wrap ((e:Int) + a.2.2.2.1))-1)) < ((a.2.1:Nat):Int)))=true->(a.1.isSome=true)/\(0<=(J.wrap ((J.wrap ((e:Int) + a.2.2.2.1))-1))/\(J.wrap ((J.wrap ((e:Int) + a.2.2.2.1))-1)) < ((a.2.1:Nat):Int))/\(∃c0,(∃c1,addrAdd a.1 (((J.wrap ((J.wrap ((e:Int) + a.2.2.2.1))-1)).toNat) * 1)=some c1/\m.at c1 (I W c0))/\(∃c2:Int,(s4 k i e l (((a.1:OA)=a.1)/\((a.2.1:Nat)=a.2.1)/\((a.2.2.1:Nat)=a.2.2.1)/\((U.wrap f)=(U.wrap f))/\sm 0/\(((J.wrap ((J.wrap ((d:Int) - (b:Int)))+1)).toNat:Nat)=(J.wrap ((J.wrap ((d:Int) - (b:Int)))+1)).toNat)/\(((J.wrap ((J.wrap ((d:Int) - (b:Int)))+1)).toNat:Nat)=(J.wrap ((J.wrap ((d:Int) - (b:Int)))+1)).toNat)/\sm a.2.2.2.1/\((U.wrap c0)=c2)/\sm a.2.2.2.2))/\x c2 m)))/\((decide ((J.wrap ((J.wrap ((e:Int) + a.2.2.2.1))-1)) < ((a.2.1:Nat):Int)))=false->(∃c3:Int,(s4 k i e l (((a.1:OA)=a.1)/\((a.2.1:Nat)=a.2.1)/\((a.2.2.1:Nat)=a.2.2.1)/\((U.wrap f)=(U.wrap f))/\sm 0/\(((J.wrap ((J.wrap ((d:Int) - (b:Int)))+1)).toNat:Nat)=(J.wrap ((J.wrap ((d:Int) - (b:Int)))+1)).toNat)/\(((J.wrap ((J.wrap ((d:Int) - (b:Int)))+1)).toNat:Nat)=(J.wrap ((J.wrap ((d:Int) - (b:Int)))+1)).toNat)/\sm a.2.2.2.1/\((0:Int)=c3)/\sm a.2.2.2.2))/\x c3 m)))/\∀(c4:Int) (y:View),m.Le y->x c4 y->(true=true/\(∃c5:Int,(s4 k i e l (((a.1:OA)=a.1)/\((a.2.1:Nat)=a.2.1)/\((a.2.2.1:Nat)=a.2.2.1)/\((U.wrap f)=(U.wrap f))/\sm 0/\(((J.wrap ((J.wrap ((d:Int) - (b:Int)))+1)).toNat:Nat)=(J.wrap ((J.wrap ((d:Int) - (b:Int)))+1)).toNat)/\(((J.wrap ((J.wrap ((d:Int) - (b:Int)))+1)).toNat:Nat)=(J.wrap ((J.wrap ((d:Int) - (b:Int)))+1)).toNat)/\sm a.2.2.2.1/\(c4=c5)/\sm a.2.2.2.2))/\w c5 y)))))/\∀(z:Int) (a0:View),m.Le a0->w z a0->(true=true/\((U.wrap f)≠0)/\(Ca a0 92 #[I U (minI (U.wrap (z.tdiv (U.wrap f))) (4294967295))] fun g3 g4=>∃c6 c7 c8,g3=S c6 c7 c8/\(Ca g4 84 #[S i e l,S c6 c7 c8] fun g5 g6=>∃c9 d0 d1,g5=S c9 d0 d1/\(Ca g6 229 #[S c9 d0 d1,I J (J.wrap ((32:Int) * a.2.2.2.1))] fun g7 d2=>∃d3 d4 d5,g7=S d3 d4 d5/\(∃(a1:(Int × (OA) × Nat × Nat)->VP) (d6:(Int × (OA) × Nat × Nat)->Nat),(∃r,(s4 k i e l (((a.1:OA)=a.1)/\((a.2.1:Nat)=a.2.1)/\((a.2.2.1:Nat)=a.2.2.1)/\((U.wrap f)=(U.wrap f))/\sm 0/\(((J.wrap ((J.wrap ((d:Int) - (b:Int)))+1)).toNat:Nat)=(J.wrap ((J.wrap ((d:Int) - (b:Int)))+1)).toNat)/\(((J.wrap ((J.wrap ((d:Int) - (b:Int)))+1)).toNat:Nat)=(J.wrap ((J.wrap ((d:Int) - (b:Int)))+1)).toNat)/\sm a.2.2.2.1/\((minI (U.wrap (z.tdiv (U.wrap f))) (4294967295))=r.1)/\((d3:OA)=r.2.1)/\((d4:Nat)=r.2.2.1)/\((d5:Nat)=r.2.2.2)/\sm a.2.2.2.2))/\a1 r d2)/\∀(n:Int × (OA) × Nat × Nat) (a2:View),d2.Le a2->a1 n a2->(true=true/\(Ca a2 146 #[S n.2.1 n.2.2.1 n.2.2.2,S a.1 a.2.1 a.2.2.1] fun g8 d7=>∃a3,g8=I J a3/\(((decide (a3 > (0:Int)))=true->(Ca d7 92 #[I U (U.wrap (n.1 - (1:Int)))] fun g9 i0=>∃d8 d9 e0,g9=S d8 d9 e0/\(Ca i0 84 #[S i e l,S d8 d9 e0] fun i1 i2=>∃e1 e2 e3,i1=S e1 e2 e3/\(Ca i2 229 #[S e1 e2 e3,I J (J.wrap ((32:Int) * a.2.2.2.1))] fun i3 i4=>∃e4 e5 e6,i3=S e4 e5 e6/\(∃q:Int × (OA) × Nat × Nat,d6 q < d6 n/\(s4 k i e l (((a.1:OA)=a.1)/\((a.2.1:Nat)=a.2.1)/\((a.2.2.1:Nat)=a.2.2.1)/\((U.wrap f)=(U.wrap f))/\sm 0/\(((J.wrap ((J.wrap ((d:Int) - (b:Int)))+1)).toNat:Nat)=(J.wrap ((J.wrap ((d:Int) - (b:Int)))+1)).toNat)/\(((J.wrap ((J.wrap ((d:Int) - (b:Int)))+1)).toNat:Nat)=(J.wrap ((J.wrap ((d:Int) - (b:Int)))+1)).toNat)/\sm a.2.2.2.1/\((U.wrap (n.1 - (1:Int)))=q.1)/\((e4:OA)=q.2.1)/\((e5:Nat)=q.2.2.1)/\((e6:Nat)=q.2.2.2)/\sm a.2.2.2.2))/\a1 q i4)))))/\((decide (a3 > (0:Int)))=false->(0<=a.2.2.2.1/\a.2.2.2.1 < (((J.wrap ((J.wrap ((d:Int) - (b:Int)))+1)).toNat:Nat):Int))/\((0 + (a.2.2.2.1.toNat * 1)) + 1<=a.2.2.2.2.length)/\(Ca d7 147 #[S a.1 a.2.1 a.2.2.1,S n.2.1 n.2.2.1 n.2.2.2] fun i5 i6=>∃e7 e8 e9,i5=S e7 e8 e9/\(∃o:(OA) × Nat × Nat × Int × (List Value),b4 o < b4 a/\(s4 k i e l (((U.wrap f)=(U.wrap f))/\sm 0/\(((J.wrap ((J.wrap ((d:Int) - (b:Int)))+1)).toNat:Nat)=(J.wrap ((J.wrap ((d:Int) - (b:Int)))+1)).toNat)/\(((J.wrap ((J.wrap ((d:Int) - (b:Int)))+1)).toNat:Nat)=(J.wrap ((J.wrap ((d:Int) - (b:Int)))+1)).toNat)/\((e7:OA)=o.1)/\((e8:Nat)=o.2.1)/\((e9:Nat)=o.2.2.1)/\((J.wrap (a.2.2.2.1 - (1:Int)))=o.2.2.2.1)/\((a.2.2.2.2.set (0 + (a.2.2.2.1.toNat * 1)) (I W (W.wrap (n.1))))=o.2.2.2.2)))/\u o i6)))))))))))))/\((decide (a.2.2.2.1 ≥ (0:Int)))=false->(∀a4,m.Le a4->∀f0:Nat,(a4.blk f0 (.cells a.2.2.2.2.toArray 221 (0,0)))->Acts prog 151 #[S (some ⟨f0,0,none⟩) ((J.wrap ((J.wrap ((d:Int) - (b:Int)))+1)).toNat) ((J.wrap ((J.wrap ((d:Int) - (b:Int)))+1)).toNat)] a4 fun i7 i8=>∃f1 f2 f3,i7=S f1 f2 f3/\∀k1:C->Value,(Ca i8 230 #[S a.1 a.2.1 a.2.2.1,I J k] fun i9 k0=>∃f4 f5 f6,i9=S f4 f5 f6/\(Rt k0 R (T #[S f1 f2 f3,S f4 f5 f6])))))))))))))):
 Acts prog 204 #[S a5 d a6,S s b a7] V R:=
 fd (LF:=LF0) (RF:=[1000010]) [(6,⟨(OA) × Nat × Nat × Int × (List Value),false,[6,7,9,10],[],fun g=>[(8,.c (.v (S g.1 g.2.1 g.2.2.1))),(11,.c (.v (I J g.2.2.2.1)))],fun g=>[(42,⟨.row g.2.2.2.2,221⟩)]⟩),(16,⟨Int × (OA) × Nat × Nat,false,[6,7,8,9,10,11],[42],fun g=>[(14,.c (.v (I U g.1))),(15,.c (.v (S g.2.1 g.2.2.1 g.2.2.2)))],fun g=>[]⟩)] [(11,⟨Int,false,[6,7,8,9,10,11],[42],fun g=>[(12,.c (.v (I U g)))],fun g=>[]⟩),(13,⟨Int,false,[6,7,8,9,10,11],[42],fun g=>[(12,.c (.v (I U g)))],fun g=>[]⟩)] func204 h
theorem vc_num_Common (g:OA) (i k:Nat) (l:OA) (m n:Nat) (V:View) (R:VR) (h:(Ca V 202 #[S g i k] fun b8 t=>∃a4,∃u,b8=T #[I U a4,B u]/\(∃w:Unit->VP,((u=true->(Ca t 202 #[S l m n] fun b9 x=>∃a5,∃y,b9=T #[I U a5,B y]/\((y=true->(∃(z:(Int × Int)->VP) (a6:(Int × Int)->Nat),(∃a0,((a4=a0.1)/\(a5=a0.2))/\z a0 x)/\∀(d:Int × Int) (q:View),x.Le q->z d q->(true=true/\(((decide (d.2 > (0:Int)))=true->(d.2≠0)/\(∃r:Int × Int,a6 r < a6 d/\((d.2=r.1)/\((d.1.tmod d.2)=r.2))/\z r q))/\((decide (d.2 > (0:Int)))=false->(Ca q 92 #[I U d.1] fun c0 c1=>∃a7 a8 a9,c0=S a7 a8 a9/\(Rt c1 R (S a7 a8 a9))))))))/\(y=false->(∃c2:Unit,(s5 g i k l m (sm n))/\w c2 x)))))/\(u=false->(∃c3:Unit,(s5 g i k l m (sm n))/\w c3 t)))/\∀(c4:Unit) (s:View),t.Le s->w c4 s->(true=true/\(∃a1:((OA) × Nat × Nat × (OA) × Nat × Nat)->Nat->VP,(∃(e:(OA) × Nat × Nat × (OA) × Nat × Nat) (c5:Nat),(((g:OA)=e.1)/\((i:Nat)=e.2.1)/\((k:Nat)=e.2.2.1)/\((l:OA)=e.2.2.2.1)/\((m:Nat)=e.2.2.2.2.1)/\((n:Nat)=e.2.2.2.2.2))/\a1 e c5 s)/\∀(a:(OA) × Nat × Nat × (OA) × Nat × Nat) (b1:Nat) (o:View),s.Le o->a1 a b1 o->(true=true/\(((decide (((a.2.2.2.2.1:Nat):Int) > (0:Int)))=true->(Ca o 150 #[S a.1 a.2.1 a.2.2.1,S a.2.2.2.1 a.2.2.2.2.1 a.2.2.2.2.2] fun c6 c7=>∃c8 c9 d0,∃b2 b3 b4,c6=T #[S c8 c9 d0,S b2 b3 b4]/\(∃(f:(OA) × Nat × Nat × (OA) × Nat × Nat) (b5:Nat),b5 < b1/\(((a.2.2.2.1:OA)=f.1)/\((a.2.2.2.2.1:Nat)=f.2.1)/\((a.2.2.2.2.2:Nat)=f.2.2.1)/\((b2:OA)=f.2.2.2.1)/\((b3:Nat)=f.2.2.2.2.1)/\((b4:Nat)=f.2.2.2.2.2))/\a1 f b5 c7)))/\((decide (((a.2.2.2.2.1:Nat):Int) > (0:Int)))=false->(∃p:List Value,o.sl a.1 p/\p.length=a.2.1 * 1/\((0 + a.2.1) * 4<=140737488355328/\0<=0/\0 * 1<=([]:List Value).length/\p.length=a.2.1 * 1/\(∀d1 ∈ p,d1.oneCell'=true)/\∀(d2:Nat) (d3:C->Value) (b6:List Value) (a2:Nat),0 + a.2.1<=a2->a2 * 1<=(0 + a.2.1) * 1 + b6.length->(∀a3,o.Le a3->∀b7:Nat,(a3.blk b7 (.cells (([]:List Value).take (0 * 1)++p++b6).toArray 221 (0,0)))->R (S (some ⟨b7,0,none⟩) (0 + a.2.1) a2) a3))))))))))):
 Acts prog 148 #[S g i k,S l m n] V R:=
 fd (LF:=LF0) (RF:=[1000010]) [(5,⟨Int × Int,false,[],[],fun b=>[(5,.c (.v (I U b.1))),(7,.c (.v (I U b.2)))],fun b=>[]⟩),(8,⟨(OA) × Nat × Nat × (OA) × Nat × Nat,true,[],[],fun b=>[(0,.c (.v (S b.1 b.2.1 b.2.2.1))),(1,.c (.v (S b.2.2.2.1 b.2.2.2.2.1 b.2.2.2.2.2)))],fun b=>[]⟩)] [(3,⟨Unit,false,[0,1],[],fun b=>[],fun b=>[]⟩)] func148 h
end Go.Proofs.Tryz
/- By program: the conditions of the functions, from their loaded code. -/
namespace Go.Proofs.Tryz
open Go.Eng
open Go.Value renaming int→I,pointer→P,slice→S,agg→A,bool→B,tuple→T
open Go.IntKind renaming i64→J,u64→U,u32→W
set_option maxRecDepth 100000
theorem vc_math_bits_Len32 (d:Int) (V:View) (R:VR) (h:(∃g:(Int × Int)->VP,(((decide (d ≥ (65536:Int)))=true->(0<=(16:Int))/\(∃i,(((d.fdiv (2 ^ 16))=i.1)/\((16:Int)=i.2))/\g i V))/\((decide (d ≥ (65536:Int)))=false->(∃k,((d=k.1)/\((0:Int)=k.2))/\g k V)))/\∀(a:Int × Int) (e:View),V.Le e->g a e->(true=true/\(∃l:(Int × Int)->VP,(((decide (a.1 ≥ (256:Int)))=true->(0<=(8:Int))/\(∃m,(((a.1.fdiv (2 ^ 8))=m.1)/\((J.wrap (a.2 + (8:Int)))=m.2))/\l m e))/\((decide (a.1 ≥ (256:Int)))=false->(∃n,((a.1=n.1)/\(a.2=n.2))/\l n e)))/\∀(f:Int × Int) (o:View),e.Le o->l f o->(true=true/\(0<=(IntKind.u8.wrap (f.1))/\(IntKind.u8.wrap (f.1)) < (((⟨#[0,1,2,2,3,3,3,3,4,4,4,4,4,4,4,4,5,5,5,5,5,5,5,5,5,5,5,5,5,5,5,5,6,6,6,6,6,6,6,6,6,6,6,6,6,6,6,6,6,6,6,6,6,6,6,6,6,6,6,6,6,6,6,6,7,7,7,7,7,7,7,7,7,7,7,7,7,7,7,7,7,7,7,7,7,7,7,7,7,7,7,7,7,7,7,7,7,7,7,7,7,7,7,7,7,7,7,7,7,7,7,7,7,7,7,7,7,7,7,7,7,7,7,7,7,7,7,7,8,8,8,8,8,8,8,8,8,8,8,8,8,8,8,8,8,8,8,8,8,8,8,8,8,8,8,8,8,8,8,8,8,8,8,8,8,8,8,8,8,8,8,8,8,8,8,8,8,8,8,8,8,8,8,8,8,8,8,8,8,8,8,8,8,8,8,8,8,8,8,8,8,8,8,8,8,8,8,8,8,8,8,8,8,8,8,8,8,8,8,8,8,8,8,8,8,8,8,8,8,8,8,8,8,8,8,8,8,8,8,8,8,8,8,8,8,8,8,8,8,8,8,8,8,8,8,8]⟩:ByteArray).size:Nat):Int))/\(Rt o R (I J (J.wrap (f.2 + (J.wrap ((((⟨#[0,1,2,2,3,3,3,3,4,4,4,4,4,4,4,4,5,5,5,5,5,5,5,5,5,5,5,5,5,5,5,5,6,6,6,6,6,6,6,6,6,6,6,6,6,6,6,6,6,6,6,6,6,6,6,6,6,6,6,6,6,6,6,6,7,7,7,7,7,7,7,7,7,7,7,7,7,7,7,7,7,7,7,7,7,7,7,7,7,7,7,7,7,7,7,7,7,7,7,7,7,7,7,7,7,7,7,7,7,7,7,7,7,7,7,7,7,7,7,7,7,7,7,7,7,7,7,7,8,8,8,8,8,8,8,8,8,8,8,8,8,8,8,8,8,8,8,8,8,8,8,8,8,8,8,8,8,8,8,8,8,8,8,8,8,8,8,8,8,8,8,8,8,8,8,8,8,8,8,8,8,8,8,8,8,8,8,8,8,8,8,8,8,8,8,8,8,8,8,8,8,8,8,8,8,8,8,8,8,8,8,8,8,8,8,8,8,8,8,8,8,8,8,8,8,8,8,8,8,8,8,8,8,8,8,8,8,8,8,8,8,8,8,8,8,8,8,8,8,8,8,8,8,8,8,8]⟩:ByteArray).data.toList.getD ((IntKind.u8.wrap (f.1)).toNat) 0).toNat:Int)))))))))))):
 Acts prog 240 #[I W d] V R:=
 fd (LF:=LF0) (RF:=[1000010]) [] [(2,⟨Int × Int,false,[],[],fun b=>[(0,.c (.v (I W b.1))),(2,.c (.v (I J b.2)))],fun b=>[]⟩),(5,⟨Int × Int,false,[],[],fun b=>[(0,.c (.v (I W b.1))),(2,.c (.v (I J b.2)))],fun b=>[]⟩)] func240 h
theorem vc_math_bits_LeadingZeros32 (a:Int) (V:View) (R:VR) (h:(Ca V 240 #[I W a] fun d e=>∃b,d=I J b/\(Rt e R (I J (J.wrap ((32:Int) - b)))))):
 Acts prog 226 #[I W a] V R:=
 fd (LF:=LF0) (RF:=[1000010]) [] [] func226 h
theorem vc_math_bits_Add32 (a b c:Int) (V:View) (R:VR) (h:(0<=(32:Int))/\(Rt V R (T #[I W (W.wrap (U.wrap ((U.wrap ((U.wrap a) + (U.wrap b))) + (U.wrap c)))),I W (W.wrap ((U.wrap ((U.wrap ((U.wrap a) + (U.wrap b))) + (U.wrap c))).fdiv (2 ^ 32)))]))):
 Acts prog 199 #[I W a,I W b,I W c] V R:=
 fd (LF:=LF0) (RF:=[1000010]) [] [] func199 h
theorem vc_math_bits_Sub32 (a b c:Int) (V:View) (R:VR) (h:(0<=(31:Int))/\(Rt V R (T #[I W (W.wrap ((W.wrap (a - b)) - c)),I W ((bitI .or .u32 (bitI .and .u32 (bitI .xor .u32 (IntKind.u32.max) a) b) (bitI .and .u32 (bitI .xor .u32 (IntKind.u32.max) (bitI .xor .u32 a b)) (W.wrap ((W.wrap (a - b)) - c)))).fdiv (2 ^ 31))]))):
 Acts prog 201 #[I W a,I W b,I W c] V R:=
 fd (LF:=LF0) (RF:=[1000010]) [] [] func201 h
theorem vc_math_bits_Mul64 (a b:Int) (V:View) (R:VR) (h:(0<=(32:Int))/\(0<=(32:Int))/\(0<=(32:Int))/\(0<=(32:Int))/\(0<=(32:Int))/\(Rt V R (T #[I U (U.wrap ((U.wrap ((U.wrap ((a.fdiv (2 ^ 32)) * (b.fdiv (2 ^ 32)))) + ((U.wrap ((U.wrap ((a.fdiv (2 ^ 32)) * (bitI .and .u64 b (4294967295:Int)))) + ((U.wrap ((bitI .and .u64 a (4294967295:Int)) * (bitI .and .u64 b (4294967295:Int)))).fdiv (2 ^ 32)))).fdiv (2 ^ 32)))) + ((U.wrap ((bitI .and .u64 (U.wrap ((U.wrap ((a.fdiv (2 ^ 32)) * (bitI .and .u64 b (4294967295:Int)))) + ((U.wrap ((bitI .and .u64 a (4294967295:Int)) * (bitI .and .u64 b (4294967295:Int)))).fdiv (2 ^ 32)))) (4294967295:Int)) + (U.wrap ((bitI .and .u64 a (4294967295:Int)) * (b.fdiv (2 ^ 32)))))).fdiv (2 ^ 32)))),I U (U.wrap (a * b))]))):
 Acts prog 181 #[I U a,I U b] V R:=
 fd (LF:=LF0) (RF:=[1000010]) [] [] func181 h
theorem vc_math_bits_Div32 (b c a:Int) (V:View) (R:VR) (h:(((a != (0:Int))=true->(((decide (a<=b))=true->(∃g,(∃d,(some ⟨3,0,none⟩:OA)=some d/\V.at d (g))/\False))/\((decide (a<=b))=false->(0<=(32:Int))/\((U.wrap a)≠0)/\((U.wrap a)≠0)/\(Rt V R (T #[I W (W.wrap (U.wrap ((bitI .or .u64 (U.wrap ((U.wrap b) * 2 ^ 32)) (U.wrap c)).tdiv (U.wrap a)))),I W (W.wrap ((bitI .or .u64 (U.wrap ((U.wrap b) * 2 ^ 32)) (U.wrap c)).tmod (U.wrap a)))])))))/\((a != (0:Int))=false->(0<=(32:Int))/\((U.wrap a)≠0)/\((U.wrap a)≠0)/\(Rt V R (T #[I W (W.wrap (U.wrap ((bitI .or .u64 (U.wrap ((U.wrap b) * 2 ^ 32)) (U.wrap c)).tdiv (U.wrap a)))),I W (W.wrap ((bitI .or .u64 (U.wrap ((U.wrap b) * 2 ^ 32)) (U.wrap c)).tmod (U.wrap a)))]))))):
 Acts prog 203 #[I W b,I W c,I W a] V R:=
 fd (LF:=LF0) (RF:=[1000010]) [] [] func203 h
end Go.Proofs.Tryz
/- Plain facts on lists of digits in base 2^32: their value, their normal form. -/
namespace Go.Big
/-- The value of digits, the least significant first. -/
def val:List Nat->Nat
 | []=>0
 | d :: r=>d + 4294967296 * val r
def Dig (ds:List Nat):Prop:=∀d ∈ ds,d < 4294967296
/-- Without zeros at the end. -/
def trimD:List Nat->List Nat
 | []=>[]
 | d :: r=>if trimD r=[]/\d=0 then [] else d :: trimD r
def Nrm (ds:List Nat):Prop:=trimD ds=ds
def digsF:Nat->Nat->List Nat
 | 0,_=>[]
 | f + 1,n=>if n=0 then [] else n % 4294967296 :: digsF f (n / 4294967296)
def digs (n:Nat):List Nat:=digsF n n
@[simp] theorem val_nil:val []=0:=rfl
@[simp] theorem val_cons (d:Nat) (r:List Nat):val (d :: r)=d + 4294967296 * val r:=rfl
theorem Dig.nil:Dig []:=fun _ h=>nomatch h
theorem Dig.cons {d:Nat} {r:List Nat}:Dig (d :: r)↔d < 4294967296/\Dig r:=by simp [Dig]
theorem Dig.append {a b:List Nat}:Dig (a++b)↔Dig a/\Dig b:=by simp [Dig,or_imp,forall_and]
theorem Dig.take {a:List Nat} (h:Dig a) (k:Nat):Dig (a.take k):=fun d hd=>h d (List.mem_of_mem_take hd)
theorem Dig.drop {a:List Nat} (h:Dig a) (k:Nat):Dig (a.drop k):=fun d hd=>h d (List.mem_of_mem_drop hd)
theorem Dig.set {a:List Nat} (h:Dig a) (k x:Nat) (hx:x < 4294967296):Dig (a.set k x):=fun d hd=>by
 rcases List.mem_or_eq_of_mem_set hd with h' | h'
 ·exact h d h'
 ·exact h' ▸ hx
theorem Dig.get {a:List Nat} (h:Dig a) {i:Nat} (hi:i < a.length):a[i] < 4294967296:=h _ (List.getElem_mem hi)
theorem Dig.rep (n:Nat):Dig (List.replicate n 0):=fun d hd=>by rw [List.eq_of_mem_replicate hd]; omega
theorem val_append (a b:List Nat):val (a++b)=val a + 4294967296 ^ a.length * val b:=by
 induction a with
 | nil=>simp
 | cons d r ih=>simp only [List.cons_append,val_cons,ih,List.length_cons,Nat.pow_succ]; grind
theorem val_lt {ds:List Nat} (h:Dig ds):val ds < 4294967296 ^ ds.length:=by
 induction ds with
 | nil=>simp
 | cons d r ih=>
  have h':=Dig.cons.1 h
  have:=ih h'.2
  have h1:=h'.1
  simp only [val_cons,List.length_cons,Nat.pow_succ]
  have h2:val r + 1<=4294967296 ^ r.length:=this
  have h3:=Nat.mul_le_mul_left 4294967296 h2
  omega
theorem val_rep (n:Nat):val (List.replicate n 0)=0:=by
 induction n with
 | zero=>rfl
 | succ n ih=>simp [List.replicate_succ,ih]
theorem val_take_succ (ds:List Nat) (i:Nat) (h:i < ds.length):val (ds.take (i + 1))=val (ds.take i) + 4294967296 ^ i * ds[i]:=by
 rw [List.take_succ_eq_append_getElem h,val_append]
 simp [List.length_take,Nat.min_eq_left (Nat.le_of_lt h)]
theorem val_take_of_le {ds:List Nat} {i:Nat} (h:ds.length<=i):val (ds.take i)=val ds:=by rw [List.take_of_length_le h]
theorem take_set_succ (ds:List Nat) (i x:Nat) (h:i < ds.length):(ds.set i x).take (i + 1)=ds.take i++[x]:=by
 rw [List.take_succ_eq_append_getElem (by simpa using h),List.take_set,List.set_eq_of_length_le (by simp; omega)]
 simp
theorem val_take_set (ds:List Nat) (i x:Nat) (h:i < ds.length):val ((ds.set i x).take (i + 1))=val (ds.take i) + 4294967296 ^ i * x:=by
 rw [take_set_succ ds i x h,val_append]
 simp [List.length_take,Nat.min_eq_left (Nat.le_of_lt h)]
theorem trimD_snoc_zero (r:List Nat):trimD (r++[0])=trimD r:=by
 induction r with
 | nil=>simp [trimD]
 | cons d r ih=>simp only [List.cons_append,trimD,ih]
theorem trimD_snoc (r:List Nat) (d:Nat) (h:d≠0):trimD (r++[d])=r++[d]:=by
 induction r with
 | nil=>simp [trimD,h]
 | cons x r ih=>simp [List.cons_append,trimD,ih]
theorem val_trimD (ds:List Nat):val (trimD ds)=val ds:=by
 induction ds with
 | nil=>rfl
 | cons d r ih=>
  simp only [trimD]
  split
  ·rename_i h
   rw [val_cons,← ih,h.1,h.2]; rfl
  ·simp [ih]
theorem trimD_len (ds:List Nat):(trimD ds).length<=ds.length:=by
 induction ds with
 | nil=>simp [trimD]
 | cons d r ih=>simp only [trimD]; split <;> simp <;> omega
theorem trimD_pre (ds:List Nat):trimD ds=ds.take (trimD ds).length:=by
 induction ds with
 | nil=>rfl
 | cons d r ih=>
  simp only [trimD]
  split
  ·rfl
  ·simp only [List.length_cons,List.take_succ_cons]; rw [← ih]
theorem Dig.trim {ds:List Nat} (h:Dig ds):Dig (trimD ds):=by rw [trimD_pre]; exact h.take _
theorem trimD_trimD (ds:List Nat):Nrm (trimD ds):=by
 unfold Nrm
 induction ds with
 | nil=>rfl
 | cons d r ih=>
  rw [trimD]
  split
  ·rfl
  ·rename_i h; rw [trimD,ih,if_neg h]
theorem Nrm.tail {d:Nat} {r:List Nat} (h:Nrm (d :: r)):Nrm r:=by
 unfold Nrm at h ⊢
 simp only [trimD] at h
 split at h
 ·cases h
 ·injection h
theorem Nrm.zero {ds:List Nat} (h:Nrm ds) (hv:val ds=0):ds=[]:=by
 induction ds with
 | nil=>rfl
 | cons d r ih=>
  have hr:=ih h.tail (by simp at hv; omega)
  subst hr
  simp at hv; subst hv
  simp [Nrm,trimD] at h
theorem digsF_eq:∀(f n:Nat),n<=f->val (digsF f n)=n/\Dig (digsF f n)/\Nrm (digsF f n)
 | 0,n,h=>⟨by simp [digsF]; omega,Dig.nil,rfl⟩
 | f + 1,n,h=>by
  simp only [digsF]
  split
  ·subst_vars; exact ⟨rfl,Dig.nil,rfl⟩
  ·obtain ⟨h1,h2,h3⟩:=digsF_eq f (n / 4294967296) (by omega)
   refine ⟨by rw [val_cons,h1]; omega,Dig.cons.2 ⟨by omega,h2⟩,?_⟩
   unfold Nrm at h3 ⊢
   rw [trimD,h3,if_neg]
   rintro ⟨e1,e2⟩
   rw [e1] at h1
   simp at h1
   omega
theorem val_digs (n:Nat):val (digs n)=n:=(digsF_eq n n (Nat.le_refl _)).1
theorem dig_digs (n:Nat):Dig (digs n):=(digsF_eq n n (Nat.le_refl _)).2.1
theorem nrm_digs (n:Nat):Nrm (digs n):=(digsF_eq n n (Nat.le_refl _)).2.2
theorem Nrm.ext:∀{a b:List Nat},Dig a->Dig b->Nrm a->Nrm b->val a=val b->a=b
 | [],b,_,_,_,hb,h=>(hb.zero (by rw [← h]; rfl)).symm
 | d :: r,[],_,_,ha,_,h=>by have:=ha.zero h; cases this
 | d :: r,e :: s,ha,hb,na,nb,h=>by
  have h1:=(Dig.cons.1 ha).1
  have h2:=(Dig.cons.1 hb).1
  simp only [val_cons] at h
  have:val r=val s:=by omega
  have hrs:=Nrm.ext (Dig.cons.1 ha).2 (Dig.cons.1 hb).2 na.tail nb.tail this
  have:d=e:=by omega
  subst this; rw [hrs]
theorem digs_val {ds:List Nat} (h:Dig ds) (hn:Nrm ds):digs (val ds)=ds:=Nrm.ext (dig_digs _) h (nrm_digs _) hn (val_digs _)
theorem trimD_eq {ds:List Nat} (h:Dig ds):trimD ds=digs (val ds):=by
 rw [← val_trimD,digs_val h.trim (trimD_trimD _)]
theorem digs_inj {a b:Nat} (h:digs a=digs b):a=b:=by rw [← val_digs a,h,val_digs]
@[simp] theorem digs_zero:digs 0=[]:=rfl
theorem digs_eq_nil {n:Nat}:digs n=[]↔n=0:=⟨fun h=>digs_inj (by rw [h]; rfl),fun h=>h ▸ rfl⟩
theorem Nrm.last {ds:List Nat} (h:Nrm ds) (hl:0 < ds.length):ds[ds.length - 1]≠0:=by
 intro e
 have hs:ds=ds.take (ds.length - 1)++[ds[ds.length - 1]]:=by
  rw [← List.take_succ_eq_append_getElem (by omega),Nat.sub_add_cancel hl,List.take_length]
 rw [e] at hs
 have h2:trimD ds=ds:=h
 rw [hs,trimD_snoc_zero] at h2
 have:=trimD_len (ds.take (ds.length - 1))
 rw [h2] at this
 simp at this
 omega
theorem nrm_of_last {ds:List Nat} (h:∀hl:0 < ds.length,ds[ds.length - 1]≠0):Nrm ds:=by
 rcases Nat.eq_zero_or_pos ds.length with e | e
 ·rw [List.length_eq_zero_iff.1 e]; rfl
 ·have hs:ds=ds.take (ds.length - 1)++[ds[ds.length - 1]]:=by
   rw [← List.take_succ_eq_append_getElem (by omega),Nat.sub_add_cancel e,List.take_length]
  have:=trimD_snoc (ds.take (ds.length - 1)) _ (h e)
  rw [← hs] at this
  exact this
theorem val_ge {ds:List Nat} (h:Nrm ds) (hl:0 < ds.length):4294967296 ^ (ds.length - 1)<=val ds:=by
 have hs:ds=ds.take (ds.length - 1)++[ds[ds.length - 1]]:=by
  rw [← List.take_succ_eq_append_getElem (by omega),Nat.sub_add_cancel hl,List.take_length]
 have h0:=h.last hl
 rw [hs,val_append]
 simp only [val_cons,val_nil,List.length_take]
 rw [Nat.min_eq_left (by omega)]
 simp only [List.length_append,List.length_take,List.length_singleton]
 rw [Nat.min_eq_left (by omega),Nat.sub_add_cancel hl]
 have:4294967296 ^ (ds.length - 1) * 1<=4294967296 ^ (ds.length - 1) * (ds[ds.length - 1] + 4294967296 * 0):=Nat.mul_le_mul_left _ (by omega)
 omega
theorem digs_len_le {n k:Nat}:(digs n).length<=k↔n < 4294967296 ^ k:=by
 constructor
 ·intro h
  have:=val_lt (dig_digs n)
  rw [val_digs] at this
  exact Nat.lt_of_lt_of_le this (Nat.pow_le_pow_right (by omega) h)
 ·intro h
  rcases Nat.lt_or_ge k (digs n).length with h' | h'
  ·have:=val_ge (nrm_digs n) (by omega)
   rw [val_digs] at this
   have h2:4294967296 ^ k<=4294967296 ^ ((digs n).length - 1):=Nat.pow_le_pow_right (by omega) (by omega)
   omega
  ·exact h'
theorem digs_len_lt {n k:Nat}:k < (digs n).length↔4294967296 ^ k<=n:=by
 have:=@digs_len_le n k
 omega
theorem val_split (ds:List Nat) (i:Nat) (h:i < ds.length):val ds=val (ds.take i) + 4294967296 ^ i * (ds[i] + 4294967296 * val (ds.drop (i + 1))):=by
 have h2:val ds=val (ds.take i++ds.drop i):=by rw [List.take_append_drop]
 rw [h2,val_append,List.drop_eq_getElem_cons h]
 simp only [List.length_take,Nat.min_eq_left (Nat.le_of_lt h),val_cons]
theorem lt_of_digit {a b:List Nat} {i:Nat} (ha:Dig a) (hi:i < a.length) (hj:i < b.length) (hd:a.drop (i + 1)=b.drop (i + 1)) (hl:a[i] < b[i]):val a < val b:=by
 rw [val_split a i hi,val_split b i hj,hd]
 have h1:=val_lt (ha.take i)
 simp only [List.length_take,Nat.min_eq_left (Nat.le_of_lt hi)] at h1
 have h2:4294967296 ^ i * (a[i] + 4294967296 * val (b.drop (i + 1)) + 1)<=4294967296 ^ i * (b[i] + 4294967296 * val (b.drop (i + 1))):=Nat.mul_le_mul_left _ (by omega)
 rw [Nat.mul_add,Nat.mul_one] at h2
 omega
theorem lt_of_len {a b:Nat} (h:(digs a).length < (digs b).length):a < b:=by
 have h1:=val_lt (dig_digs a)
 have h2:=val_ge (nrm_digs b) (by omega)
 rw [val_digs] at h1 h2
 have h3:4294967296 ^ (digs a).length<=4294967296 ^ ((digs b).length - 1):=Nat.pow_le_pow_right (by omega) (by omega)
 omega
def cmpN (a b:Nat):Int:=if a < b then -1 else if b < a then 1 else 0
theorem digs_len_mono {a b:Nat} (h:a<=b):(digs a).length<=(digs b).length:=by
 rcases Nat.lt_or_ge (digs b).length (digs a).length with h' | h'
 ·have:=lt_of_len h'; omega
 ·exact h'
theorem digs_val_len {ds:List Nat} (h:Dig ds):(digs (val ds)).length<=ds.length:=by rw [← trimD_eq h]; exact trimD_len ds
theorem digs_lt {n:Nat} (h:n < 4294967296) (h0:n≠0):digs n=[n]:=by
 have:Nrm [n]:=by simp [Nrm,trimD,h0]
 have:=digs_val (by simp [Dig]; exact h) this
 simpa using this
end Go.Big
/- How digits lie in memory; small laws for the conditions. -/
namespace Go.Eng
open Go.Big
/-! arithmetic of the machine's integers -/
theorem i64w {x:Int} (h:-9223372036854775808<=x/\x<=9223372036854775807):i64.wrap x=x:=IntWalk.i64_in x h
theorem u64w {x:Int} (h:0<=x/\x<=18446744073709551615):u64.wrap x=x:=IntWalk.u64_in x h
theorem u32w {x:Int} (h:0<=x/\x<=4294967295):u32.wrap x=x:=IntWalk.u32_in x h
theorem u32m (x:Int):u32.wrap x=x % 4294967296:=by rw [IntKind.wrap_u32]
theorem u64m (x:Int):u64.wrap x=x % 18446744073709551616:=by rw [IntKind.wrap_u64]
theorem shr32 {x:Int}:x.fdiv (2 ^ 32)=x / 4294967296:=by rw [Int.fdiv_eq_ediv_of_nonneg _ (by decide)]; rfl
theorem shr63 {x:Int}:x.fdiv (2 ^ 63)=x / 9223372036854775808:=by rw [Int.fdiv_eq_ediv_of_nonneg _ (by decide)]; rfl
theorem or64 (a b:Nat) (ha:a < 4294967296) (hb:b < 4294967296):bitI .or .u64 ((a:Int) * 4294967296) (b:Int)=(a:Int) * 4294967296 + b:=by
 have h1:((a:Int) * 4294967296)=((a * 2 ^ 32:Nat):Int):=by simp
 rw [bitI,h1,u64m]
 have h2:(BitVec.ofInt IntKind.u64.bits ((a * 2 ^ 32:Nat):Int) ||| BitVec.ofInt IntKind.u64.bits (b:Int)).toNat=a * 2 ^ 32 + b:=by
  show (BitVec.ofInt 64 ((a * 2 ^ 32:Nat):Int) ||| BitVec.ofInt 64 (b:Int)).toNat=_
  rw [BitVec.ofInt_natCast,BitVec.ofInt_natCast,BitVec.toNat_or,BitVec.toNat_ofNat,BitVec.toNat_ofNat,Nat.mod_eq_of_lt (by omega),Nat.mod_eq_of_lt (by omega)]
  have:=Nat.shiftLeft_add_eq_or_of_lt (b:=b) (i:=32) (by omega) a
  rw [Nat.shiftLeft_eq] at this
  exact this.symm
 rw [h2]
 omega
def u32s (ds:List Nat):List Value:=ds.map fun (d:Nat)=>Value.int .u32 (d:Int)
@[simp] theorem u32s_len (ds:List Nat):(u32s ds).length=ds.length:=by simp [u32s]
theorem u32s_set (ds:List Nat) (i x:Nat):(u32s ds).set i (.int .u32 (x:Int))=u32s (ds.set i x):=by simp [u32s,List.map_set]
theorem u32s_rep (n:Nat):List.replicate n (Value.int .u32 0)=u32s (List.replicate n 0):=by simp [u32s]
theorem u32s_get {ds:List Nat} {i:Nat} (h:i < ds.length):(u32s ds)[i]?=some (.int .u32 (ds[i]:Int)):=by simp [u32s,h]
theorem u32s_take (ds:List Nat) (k:Nat):u32s (ds.take k)=(u32s ds).take k:=by simp [u32s,List.map_take]
theorem u32s_drop (ds:List Nat) (k:Nat):u32s (ds.drop k)=(u32s ds).drop k:=by simp [u32s,List.map_drop]
theorem u32s_append (a b:List Nat):u32s (a++b)=u32s a++u32s b:=by simp [u32s]
theorem View.Le.sl {V V':View} (h:V.Le V') {a:OA} {xs:List Value} (hs:V.sl a xs):V'.sl a xs:=
 fun i v hv=>let ⟨ad,e,ha⟩:=hs i v hv; ⟨ad,e,h.at ha⟩
/-- A slice of digits. -/
structure RD (V:View) (p:OA) (n c:Nat) (ds:List Nat):Prop where
 len:n=ds.length
 cap:n<=c
 sl:V.sl p (u32s ds)
 dig:Dig ds
 nilc:p.isNone=true->c=0
theorem RD.le {V V':View} {p:OA} {n c:Nat} {ds:List Nat} (h:RD V p n c ds) (l:V.Le V'):RD V' p n c ds:=⟨h.len,h.cap,l.sl h.sl,h.dig,h.nilc⟩
theorem RD.nil {V:View}:RD V none 0 0 []:=⟨rfl,Nat.le_refl _,fun i v h=>by simp [u32s] at h,Dig.nil,fun _=>rfl⟩
theorem RD.take {V:View} {p:OA} {n c:Nat} {ds:List Nat} (h:RD V p n c ds) {k:Nat} (hk:k<=n):RD V p k c (ds.take k):=by
 have:=h.len
 refine ⟨by simp; omega,by have:=h.cap; omega,fun i v hv=>h.sl i v ?_,h.dig.take k,h.nilc⟩
 rw [u32s_take] at hv
 rw [List.getElem?_take] at hv
 split at hv
 ·exact hv
 ·cases hv
/-- A digit is read. -/
theorem RD.rd {V:View} {p:OA} {n c:Nat} {ds:List Nat} (h:RD V p n c ds) {i:Int} {K:Int->Prop} (j:Nat) (hj:i=j) (hn:j < ds.length)
  (hK:K ((ds[j]:Nat):Int)):(p.isSome=true)/\(0<=i/\i < (n:Int))/\∃x:Int,(∃a,addrAdd p (i.toNat * 1)=some a/\V.at a (.int .u32 x))/\K x:=by
 obtain ⟨ad,e,ha⟩:=h.sl j _ (u32s_get hn)
 have:=h.len
 subst hj
 refine ⟨by rw [e]; rfl,⟨by omega,by omega⟩,_,⟨ad.add j,?_,ha⟩,hK⟩
 rw [e]; simp [addrAdd]
theorem blk_at {V:View} {b:Nat} {xs:List Value} {ty:TypeId} {m:Nat × Nat} (h:V.blk b (.cells xs.toArray ty m)) {i:Nat} {v:Value} (hv:xs[i]?=some v):V.at ⟨b,i,none⟩ v:=by
 refine ⟨h.1,?_⟩
 unfold World.cell?
 rw [h.2]
 simpa using hv
theorem add_zero' (b i:Nat):(⟨b,0,none⟩:Addr).add i=⟨b,i,none⟩:=by
 unfold Addr.add
 split
 ·rename_i h; simp_all
 ·simp
/-- A block of digits that is seen. -/
theorem RD.blk {V:View} {b:Nat} {ds:List Nat} {ty:TypeId} {m:Nat × Nat} (h:V.blk b (.cells (u32s ds).toArray ty m)) (hd:Dig ds) {n c:Nat} (hn:n=ds.length) (hc:n<=c):RD V (some ⟨b,0,none⟩) n c ds:=
 ⟨hn,hc,fun i v hv=>⟨_,rfl,by rw [add_zero']; exact blk_at h hv⟩,hd,fun e=>nomatch e⟩
end Go.Eng
