/- A part of the proof (joined by program from: VNum, BitsB, NumA). -/
import Derived.Test.YtimkdinmcbepnaaGreatDoorS5
import Derived.Test.YtimkdinmcbepnaaGreatDoorS6
import Derived.Test.YtimkdinmcbepnaaGreatDoorS8
set_option linter.unusedVariables false
open Go.IntKind (i64 u64 u32)
/- By program: the conditions of the functions, from their loaded code. -/
namespace Go.Proofs.Tryz
open Go.Eng
open Go.Value renaming int→I,pointer→P,slice→S,agg→A,bool→B,tuple→T
open Go.IntKind renaming i64→J,u64→U,u32→W
set_option maxRecDepth 100000
theorem vc_num_Trim (b:OA) (f d:Nat) (V:View) (R:VR) (h:(∃(g:Int->VP) (l:Int->Nat),(∃m:Int,(s3 b f d (((f:Int)=m)))/\g m V)/\∀(a:Int) (e:View),V.Le e->g a e->(true=true/\(((decide (a > (0:Int)))=true->(b.isSome=true)/\(0<=(J.wrap (a - (1:Int)))/\(J.wrap (a - (1:Int))) < (f:Int))/\(∃i,(∃n,addrAdd b (((J.wrap (a - (1:Int))).toNat) * 1)=some n/\e.at n (I W i))/\(((i == (0:Int))=true->(∃k:Int,l k < l a/\(s3 b f d (((J.wrap (a - (1:Int)))=k)))/\g k e))/\((i == (0:Int))=false->(0<=a/\a<=(d:Int))/\(Rt e R (S b a.toNat d))))))/\((decide (a > (0:Int)))=false->(0<=a/\a<=(d:Int))/\(Rt e R (S b a.toNat d))))))):
 Acts prog 151 #[S b f d] V R:=
 fd (LF:=LF0) (RF:=[1000010]) [(2,⟨Int,false,[0],[],fun q=>[(3,.c (.v (I J q)))],fun q=>[]⟩)] [] func151 h
theorem vc_num_Word (a:Int) (V:View) (R:VR) (h:(0<=(32:Int))/\(∀b,V.Le b->∀c:Nat,(b.blk c (.cells #[I W (W.wrap a),I W (W.wrap (a.fdiv (2 ^ 32)))] 221 (0,0)))->Acts prog 151 #[S (some ⟨c,0,none⟩) 2 2] b fun i k=>∃d e f,i=S d e f/\∀l:C->Value,(Rt k R (S d e f)))):
 Acts prog 92 #[I U a] V R:=
 fd (LF:=LF0) (RF:=[1000010]) [] [] func92 h
theorem vc_num_One (V:View) (R:VR) (h:(∀a,V.Le a->∀b:Nat,(a.blk b (.cells #[I W 1] 221 (0,0)))->R (S (some ⟨b,0,none⟩) 1 1) a)):
 Acts prog 149 #[] V R:=
 fd (LF:=LF0) (RF:=[1000010]) [] [] func149 h
theorem vc_num_sign (a:Int) (V:View) (R:VR) (h:(((decide (a > (0:Int)))=true->(Rt V R (I J 1)))/\((decide (a > (0:Int)))=false->(((decide (a < (0:Int)))=true->(Rt V R (I J (-1))))/\((decide (a < (0:Int)))=false->(Rt V R (I J 0))))))):
 Acts prog 200 #[I J a] V R:=
 fd (LF:=LF0) (RF:=[1000010]) [] [] func200 h
theorem vc_num_Cmp (f:OA) (d i:Nat) (g:OA) (e k:Nat) (V:View) (R:VR) (h:((((d:Int) != (e:Int))=true->(Ca V 200 #[I J (J.wrap ((d:Int) - (e:Int)))] fun a4 a5=>∃r,a4=I J r/\(Rt a5 R (I J r))))/\(((d:Int) != (e:Int))=false->(∃(l:Int->VP) (t:Int->Nat),(∃u:Int,(s6 f d i g e k (((J.wrap ((d:Int)-1))=u)))/\l u V)/\∀(a:Int) (b:View),V.Le b->l a b->(true=true/\(((decide (a ≥ (0:Int)))=true->(f.isSome=true)/\(0<=a/\a < (d:Int))/\(∃m,(∃w,addrAdd f (a.toNat * 1)=some w/\b.at w (I W m))/\(g.isSome=true)/\(0<=a/\a < (e:Int))/\(∃n,(∃x,addrAdd g (a.toNat * 1)=some x/\b.at x (I W n))/\(((decide (m > n))=true->(Rt b R (I J 1)))/\((decide (m > n))=false->(f.isSome=true)/\(0<=a/\a < (d:Int))/\(∃o,(∃z,addrAdd f (a.toNat * 1)=some z/\b.at z (I W o))/\(g.isSome=true)/\(0<=a/\a < (e:Int))/\(∃p,(∃a0,addrAdd g (a.toNat * 1)=some a0/\b.at a0 (I W p))/\(((decide (o < p))=true->(Rt b R (I J (-1))))/\((decide (o < p))=false->(∃q:Int,t q < t a/\(s6 f d i g e k (((J.wrap (a - (1:Int)))=q)))/\l q b))))))))))/\((decide (a ≥ (0:Int)))=false->(Rt b R (I J 0))))))))):
 Acts prog 146 #[S f d i,S g e k] V R:=
 fd (LF:=LF0) (RF:=[1000010]) [(4,⟨Int,false,[0,1],[],fun a3=>[(5,.c (.v (I J a3)))],fun a3=>[]⟩)] [] func146 h
theorem vc_num_Sum (f:OA) (a i:Nat) (g:OA) (b k:Nat) (V:View) (R:VR) (h:(0<=J.wrap ((maxI (a:Int) (b:Int))+1))/\(J.wrap ((maxI (a:Int) (b:Int))+1)<=J.wrap ((maxI (a:Int) (b:Int))+1))/\((4:Int) * (J.wrap ((maxI (a:Int) (b:Int))+1))<=140737488355328)/\(∃(q:(Int × Int × (List Value))->VP) (w:(Int × Int × (List Value))->Nat),(∃o,(s6 f a i g b k (((maxI (a:Int) (b:Int))=(maxI (a:Int) (b:Int)))/\sm 0/\(((J.wrap ((maxI (a:Int) (b:Int))+1)).toNat:Nat)=(J.wrap ((maxI (a:Int) (b:Int))+1)).toNat)/\(((J.wrap ((maxI (a:Int) (b:Int))+1)).toNat:Nat)=(J.wrap ((maxI (a:Int) (b:Int))+1)).toNat)/\((0:Int)=o.1)/\((0:Int)=o.2.1)/\((List.replicate ((J.wrap ((maxI (a:Int) (b:Int))+1)).toNat) (I W 0))=o.2.2)))/\q o V)/\∀(d:Int × Int × (List Value)) (l:View),V.Le l->q d l->(true=true/\(((decide (d.2.1 < (maxI (a:Int) (b:Int))))=true->(∃r:Int->VP,(((decide (d.2.1 < (a:Int)))=true->(f.isSome=true)/\(0<=d.2.1/\d.2.1 < (a:Int))/\(∃x,(∃y,addrAdd f (d.2.1.toNat * 1)=some y/\l.at y (I W x))/\(∃z:Int,(s6 f a i g b k (((maxI (a:Int) (b:Int))=(maxI (a:Int) (b:Int)))/\sm 0/\(((J.wrap ((maxI (a:Int) (b:Int))+1)).toNat:Nat)=(J.wrap ((maxI (a:Int) (b:Int))+1)).toNat)/\(((J.wrap ((maxI (a:Int) (b:Int))+1)).toNat:Nat)=(J.wrap ((maxI (a:Int) (b:Int))+1)).toNat)/\s3 d.1 d.2.1 (0:Int) ((x=z)/\sm d.2.2)))/\r z l)))/\((decide (d.2.1 < (a:Int)))=false->(∃a0:Int,(s6 f a i g b k (((maxI (a:Int) (b:Int))=(maxI (a:Int) (b:Int)))/\sm 0/\(((J.wrap ((maxI (a:Int) (b:Int))+1)).toNat:Nat)=(J.wrap ((maxI (a:Int) (b:Int))+1)).toNat)/\(((J.wrap ((maxI (a:Int) (b:Int))+1)).toNat:Nat)=(J.wrap ((maxI (a:Int) (b:Int))+1)).toNat)/\s3 d.1 d.2.1 (0:Int) (((0:Int)=a0)/\sm d.2.2)))/\r a0 l)))/\∀(p:Int) (m:View),l.Le m->r p m->(true=true/\(∃s:Int->VP,(((decide (d.2.1 < (b:Int)))=true->(g.isSome=true)/\(0<=d.2.1/\d.2.1 < (b:Int))/\(∃a1,(∃a2,addrAdd g (d.2.1.toNat * 1)=some a2/\m.at a2 (I W a1))/\(∃a3:Int,(s6 f a i g b k (((maxI (a:Int) (b:Int))=(maxI (a:Int) (b:Int)))/\sm 0/\(((J.wrap ((maxI (a:Int) (b:Int))+1)).toNat:Nat)=(J.wrap ((maxI (a:Int) (b:Int))+1)).toNat)/\(((J.wrap ((maxI (a:Int) (b:Int))+1)).toNat:Nat)=(J.wrap ((maxI (a:Int) (b:Int))+1)).toNat)/\s3 d.1 d.2.1 p ((a1=a3)/\sm d.2.2)))/\s a3 m)))/\((decide (d.2.1 < (b:Int)))=false->(∃a4:Int,(s6 f a i g b k (((maxI (a:Int) (b:Int))=(maxI (a:Int) (b:Int)))/\sm 0/\(((J.wrap ((maxI (a:Int) (b:Int))+1)).toNat:Nat)=(J.wrap ((maxI (a:Int) (b:Int))+1)).toNat)/\(((J.wrap ((maxI (a:Int) (b:Int))+1)).toNat:Nat)=(J.wrap ((maxI (a:Int) (b:Int))+1)).toNat)/\s3 d.1 d.2.1 p (((0:Int)=a4)/\sm d.2.2)))/\s a4 m)))/\∀(a5:Int) (t:View),m.Le t->s a5 t->(true=true/\(Ca t 199 #[I W p,I W a5,I W d.1] fun b3 b4=>∃a6,∃a7,b3=T #[I W a6,I W a7]/\(0<=d.2.1/\d.2.1 < (((J.wrap ((maxI (a:Int) (b:Int))+1)).toNat:Nat):Int))/\((0 + (d.2.1.toNat * 1)) + 1<=d.2.2.length)/\(∃n:Int × Int × (List Value),w n < w d/\(s6 f a i g b k (((maxI (a:Int) (b:Int))=(maxI (a:Int) (b:Int)))/\sm 0/\(((J.wrap ((maxI (a:Int) (b:Int))+1)).toNat:Nat)=(J.wrap ((maxI (a:Int) (b:Int))+1)).toNat)/\(((J.wrap ((maxI (a:Int) (b:Int))+1)).toNat:Nat)=(J.wrap ((maxI (a:Int) (b:Int))+1)).toNat)/\(a7=n.1)/\((J.wrap (d.2.1 + (1:Int)))=n.2.1)/\((d.2.2.set (0 + (d.2.1.toNat * 1)) (I W a6))=n.2.2)))/\q n b4)))))))/\((decide (d.2.1 < (maxI (a:Int) (b:Int))))=false->(0<=(maxI (a:Int) (b:Int))/\(maxI (a:Int) (b:Int)) < (((J.wrap ((maxI (a:Int) (b:Int))+1)).toNat:Nat):Int))/\((0 + (((maxI (a:Int) (b:Int)).toNat) * 1)) + 1<=d.2.2.length)/\(∀u,l.Le u->∀a8:Nat,(u.blk a8 (.cells (d.2.2.set (0 + (((maxI (a:Int) (b:Int)).toNat) * 1)) (I W d.1)).toArray 221 (0,0)))->Acts prog 151 #[S (some ⟨a8,0,none⟩) ((J.wrap ((maxI (a:Int) (b:Int))+1)).toNat) ((J.wrap ((maxI (a:Int) (b:Int))+1)).toNat)] u fun b5 b6=>∃a9 b0 b1,b5=S a9 b0 b1/\∀b7:C->Value,(Rt b6 R (S a9 b0 b1)))))))):
 Acts prog 145 #[S f a i,S g b k] V R:=
 fd (LF:=LF0) (RF:=[1000010]) [(5,⟨Int × Int × (List Value),false,[0,1,5,6],[],fun e=>[(7,.c (.v (I W e.1))),(8,.c (.v (I J e.2.1)))],fun e=>[(18,⟨.row e.2.2,221⟩)]⟩)] [(9,⟨Int,false,[0,1,5,6,7,8,10],[18],fun e=>[(9,.c (.v (I W e)))],fun e=>[]⟩),(11,⟨Int,false,[0,1,5,6,7,8,9],[18],fun e=>[(10,.c (.v (I W e)))],fun e=>[]⟩)] func145 h
theorem vc_num_Less (e:OA) (a k:Nat) (f:OA) (d l:Nat) (V:View) (R:VR) (h:(0<=(a:Int))/\((a:Int)<=(a:Int))/\((4:Int) * (a:Int)<=140737488355328)/\(∃(p:(Int × Int × (List Value))->VP) (s:(Int × Int × (List Value))->Nat),(∃n,(s7 e a k f d l 0 ((((a:Int).toNat:Nat)=(a:Int).toNat)/\(((a:Int).toNat:Nat)=(a:Int).toNat)/\sm (a:Int)/\((0:Int)=n.1)/\((0:Int)=n.2.1)/\((List.replicate ((a:Int).toNat) (I W 0))=n.2.2)))/\p n V)/\∀(b:Int × Int × (List Value)) (g:View),V.Le g->p b g->(true=true/\(((decide (b.2.1 < (a:Int)))=true->(∃q:Int->VP,(((decide (b.2.1 < (d:Int)))=true->(f.isSome=true)/\(0<=b.2.1/\b.2.1 < (d:Int))/\(∃t,(∃u,addrAdd f (b.2.1.toNat * 1)=some u/\g.at u (I W t))/\(∃w:Int,(s7 e a k f d l 0 ((((a:Int).toNat:Nat)=(a:Int).toNat)/\(((a:Int).toNat:Nat)=(a:Int).toNat)/\s4 b.1 b.2.1 (a:Int) b.2.1 ((t=w)/\sm b.2.2)))/\q w g)))/\((decide (b.2.1 < (d:Int)))=false->(∃x:Int,(s7 e a k f d l 0 ((((a:Int).toNat:Nat)=(a:Int).toNat)/\(((a:Int).toNat:Nat)=(a:Int).toNat)/\s4 b.1 b.2.1 (a:Int) b.2.1 (((0:Int)=x)/\sm b.2.2)))/\q x g)))/\∀(y:Int) (o:View),g.Le o->q y o->(true=true/\(e.isSome=true)/\(0<=b.2.1/\b.2.1 < (a:Int))/\(∃z,(∃a0,addrAdd e (b.2.1.toNat * 1)=some a0/\o.at a0 (I W z))/\(Ca o 201 #[I W z,I W y,I W b.1] fun a8 a9=>∃a1,∃a2,a8=T #[I W a1,I W a2]/\(0<=b.2.1/\b.2.1 < (((a:Int).toNat:Nat):Int))/\((0 + (b.2.1.toNat * 1)) + 1<=b.2.2.length)/\(∃m:Int × Int × (List Value),s m < s b/\(s7 e a k f d l 0 ((((a:Int).toNat:Nat)=(a:Int).toNat)/\(((a:Int).toNat:Nat)=(a:Int).toNat)/\sm (a:Int)/\(a2=m.1)/\((J.wrap (b.2.1 + (1:Int)))=m.2.1)/\((b.2.2.set (0 + (b.2.1.toNat * 1)) (I W a1))=m.2.2)))/\p m a9))))))/\((decide (b.2.1 < (a:Int)))=false->(∀r,g.Le r->∀a3:Nat,(r.blk a3 (.cells b.2.2.toArray 221 (0,0)))->Acts prog 151 #[S (some ⟨a3,0,none⟩) ((a:Int).toNat) ((a:Int).toNat)] r fun b0 b1=>∃a4 a5 a6,b0=S a4 a5 a6/\∀b2:C->Value,(Rt b1 R (S a4 a5 a6)))))))):
 Acts prog 147 #[S e a k,S f d l] V R:=
 fd (LF:=LF0) (RF:=[1000010]) [(4,⟨Int × Int × (List Value),false,[0,1,5,13],[],fun i=>[(6,.c (.v (I W i.1))),(14,.c (.v (I J i.2.1)))],fun i=>[(11,⟨.row i.2.2,221⟩)]⟩)] [(8,⟨Int,false,[0,1,5,6,7,13,14],[11],fun i=>[(8,.c (.v (I W i)))],fun i=>[]⟩)] func147 h
theorem vc_num_Product (k:OA) (b m:Nat) (i:OA) (a l:Nat) (V:View) (R:VR) (h:((((b:Int) == (1:Int))=true->((((a:Int) == (1:Int))=true->(k.isSome=true)/\(0<=(0:Int)/\(0:Int) < (b:Int))/\(∃b3,(∃b4,addrAdd k 0=some b4/\V.at b4 (I W b3))/\(i.isSome=true)/\(0<=(0:Int)/\(0:Int) < (a:Int))/\(∃b5,(∃b6,addrAdd i 0=some b6/\V.at b6 (I W b5))/\(Ca V 92 #[I U (U.wrap ((U.wrap b3) * (U.wrap b5)))] fun d9 e0=>∃b7 b8 b9,d9=S b7 b8 b9/\(Rt e0 R (S b7 b8 b9))))))/\(((a:Int) == (1:Int))=false->(0<=J.wrap ((b:Int) + (a:Int)))/\(J.wrap ((b:Int) + (a:Int))<=J.wrap ((b:Int) + (a:Int)))/\((4:Int) * (J.wrap ((b:Int) + (a:Int)))<=140737488355328)/\(∃(a1:(Int × (List Value))->VP) (c1:(Int × (List Value))->Nat),(∃a2,(s4 i a l 0 ((((J.wrap ((b:Int) + (a:Int))).toNat:Nat)=(J.wrap ((b:Int) + (a:Int))).toNat)/\(((J.wrap ((b:Int) + (a:Int))).toNat:Nat)=(J.wrap ((b:Int) + (a:Int))).toNat)/\s4 k b m (b:Int) (((0:Int)=a2.1)/\((List.replicate ((J.wrap ((b:Int) + (a:Int))).toNat) (I W 0))=a2.2))))/\a1 a2 V)/\∀(d:Int × (List Value)) (o:View),V.Le o->a1 d o->(true=true/\(((decide (d.1 < (b:Int)))=true->(k.isSome=true)/\(0<=d.1/\d.1 < (b:Int))/\(∃q,(∃c2,addrAdd k (d.1.toNat * 1)=some c2/\o.at c2 (I W q))/\(∃(a3:(Int × Int × (List Value))->VP) (c3:(Int × Int × (List Value))->Nat),(∃x,(s4 i a l 0 ((((J.wrap ((b:Int) + (a:Int))).toNat:Nat)=(J.wrap ((b:Int) + (a:Int))).toNat)/\(((J.wrap ((b:Int) + (a:Int))).toNat:Nat)=(J.wrap ((b:Int) + (a:Int))).toNat)/\s11 d.1 q k b m (b:Int) d.1 i a l (a:Int) (((0:Int)=x.1)/\((0:Int)=x.2.1)/\(d.2=x.2.2))))/\a3 x o)/\∀(f:Int × Int × (List Value)) (r:View),o.Le r->a3 f r->(true=true/\(((decide (f.2.1 < (a:Int)))=true->(i.isSome=true)/\(0<=f.2.1/\f.2.1 < (a:Int))/\(∃a4,(∃c4,addrAdd i (f.2.1.toNat * 1)=some c4/\r.at c4 (I W a4))/\(0<=(J.wrap (d.1 + f.2.1))/\(J.wrap (d.1 + f.2.1)) < (((J.wrap ((b:Int) + (a:Int))).toNat:Nat):Int))/\(∃a5,f.2.2[0 + (((J.wrap (d.1 + f.2.1)).toNat) * 1)]?=some (I W a5)/\(0<=(J.wrap (d.1 + f.2.1))/\(J.wrap (d.1 + f.2.1)) < (((J.wrap ((b:Int) + (a:Int))).toNat:Nat):Int))/\((0 + (((J.wrap (d.1 + f.2.1)).toNat) * 1)) + 1<=f.2.2.length)/\(0<=(32:Int))/\(∃s:Int × Int × (List Value),c3 s < c3 f/\(s4 i a l 0 ((((J.wrap ((b:Int) + (a:Int))).toNat:Nat)=(J.wrap ((b:Int) + (a:Int))).toNat)/\(((J.wrap ((b:Int) + (a:Int))).toNat:Nat)=(J.wrap ((b:Int) + (a:Int))).toNat)/\s11 d.1 q k b m (b:Int) d.1 i a l (a:Int) ((((U.wrap ((U.wrap ((U.wrap ((U.wrap q) * (U.wrap a4))) + (U.wrap a5))) + f.1)).fdiv (2 ^ 32))=s.1)/\((J.wrap (f.2.1 + (1:Int)))=s.2.1)/\((f.2.2.set (0 + (((J.wrap (d.1 + f.2.1)).toNat) * 1)) (I W (W.wrap (U.wrap ((U.wrap ((U.wrap ((U.wrap q) * (U.wrap a4))) + (U.wrap a5))) + f.1)))))=s.2.2))))/\a3 s r))))/\((decide (f.2.1 < (a:Int)))=false->(0<=(J.wrap (d.1 + (a:Int)))/\(J.wrap (d.1 + (a:Int))) < (((J.wrap ((b:Int) + (a:Int))).toNat:Nat):Int))/\((0 + (((J.wrap (d.1 + (a:Int))).toNat) * 1)) + 1<=f.2.2.length)/\(∃y:Int × (List Value),c1 y < c1 d/\(s4 i a l 0 ((((J.wrap ((b:Int) + (a:Int))).toNat:Nat)=(J.wrap ((b:Int) + (a:Int))).toNat)/\(((J.wrap ((b:Int) + (a:Int))).toNat:Nat)=(J.wrap ((b:Int) + (a:Int))).toNat)/\s4 k b m (b:Int) (((J.wrap (d.1 + (1:Int)))=y.1)/\((f.2.2.set (0 + (((J.wrap (d.1 + (a:Int))).toNat) * 1)) (I W (W.wrap (f.1))))=y.2))))/\a1 y r)))))))/\((decide (d.1 < (b:Int)))=false->(∀a6,o.Le a6->∀c5:Nat,(a6.blk c5 (.cells d.2.toArray 221 (0,0)))->Acts prog 151 #[S (some ⟨c5,0,none⟩) ((J.wrap ((b:Int) + (a:Int))).toNat) ((J.wrap ((b:Int) + (a:Int))).toNat)] a6 fun e1 e2=>∃c6 c7 c8,e1=S c6 c7 c8/\∀e5:C->Value,(Rt e2 R (S c6 c7 c8))))))))))/\(((b:Int) == (1:Int))=false->(0<=J.wrap ((b:Int) + (a:Int)))/\(J.wrap ((b:Int) + (a:Int))<=J.wrap ((b:Int) + (a:Int)))/\((4:Int) * (J.wrap ((b:Int) + (a:Int)))<=140737488355328)/\(∃(a7:(Int × (List Value))->VP) (d0:(Int × (List Value))->Nat),(∃a8,(s4 i a l 0 ((((J.wrap ((b:Int) + (a:Int))).toNat:Nat)=(J.wrap ((b:Int) + (a:Int))).toNat)/\(((J.wrap ((b:Int) + (a:Int))).toNat:Nat)=(J.wrap ((b:Int) + (a:Int))).toNat)/\s4 k b m (b:Int) (((0:Int)=a8.1)/\((List.replicate ((J.wrap ((b:Int) + (a:Int))).toNat) (I W 0))=a8.2))))/\a7 a8 V)/\∀(e:Int × (List Value)) (p:View),V.Le p->a7 e p->(true=true/\(((decide (e.1 < (b:Int)))=true->(k.isSome=true)/\(0<=e.1/\e.1 < (b:Int))/\(∃t,(∃d1,addrAdd k (e.1.toNat * 1)=some d1/\p.at d1 (I W t))/\(∃(a9:(Int × Int × (List Value))->VP) (d2:(Int × Int × (List Value))->Nat),(∃z,(s4 i a l 0 ((((J.wrap ((b:Int) + (a:Int))).toNat:Nat)=(J.wrap ((b:Int) + (a:Int))).toNat)/\(((J.wrap ((b:Int) + (a:Int))).toNat:Nat)=(J.wrap ((b:Int) + (a:Int))).toNat)/\s11 e.1 t k b m (b:Int) e.1 i a l (a:Int) (((0:Int)=z.1)/\((0:Int)=z.2.1)/\(e.2=z.2.2))))/\a9 z p)/\∀(g:Int × Int × (List Value)) (u:View),p.Le u->a9 g u->(true=true/\(((decide (g.2.1 < (a:Int)))=true->(i.isSome=true)/\(0<=g.2.1/\g.2.1 < (a:Int))/\(∃b0,(∃d3,addrAdd i (g.2.1.toNat * 1)=some d3/\u.at d3 (I W b0))/\(0<=(J.wrap (e.1 + g.2.1))/\(J.wrap (e.1 + g.2.1)) < (((J.wrap ((b:Int) + (a:Int))).toNat:Nat):Int))/\(∃b1,g.2.2[0 + (((J.wrap (e.1 + g.2.1)).toNat) * 1)]?=some (I W b1)/\(0<=(J.wrap (e.1 + g.2.1))/\(J.wrap (e.1 + g.2.1)) < (((J.wrap ((b:Int) + (a:Int))).toNat:Nat):Int))/\((0 + (((J.wrap (e.1 + g.2.1)).toNat) * 1)) + 1<=g.2.2.length)/\(0<=(32:Int))/\(∃w:Int × Int × (List Value),d2 w < d2 g/\(s4 i a l 0 ((((J.wrap ((b:Int) + (a:Int))).toNat:Nat)=(J.wrap ((b:Int) + (a:Int))).toNat)/\(((J.wrap ((b:Int) + (a:Int))).toNat:Nat)=(J.wrap ((b:Int) + (a:Int))).toNat)/\s11 e.1 t k b m (b:Int) e.1 i a l (a:Int) ((((U.wrap ((U.wrap ((U.wrap ((U.wrap t) * (U.wrap b0))) + (U.wrap b1))) + g.1)).fdiv (2 ^ 32))=w.1)/\((J.wrap (g.2.1 + (1:Int)))=w.2.1)/\((g.2.2.set (0 + (((J.wrap (e.1 + g.2.1)).toNat) * 1)) (I W (W.wrap (U.wrap ((U.wrap ((U.wrap ((U.wrap t) * (U.wrap b0))) + (U.wrap b1))) + g.1)))))=w.2.2))))/\a9 w u))))/\((decide (g.2.1 < (a:Int)))=false->(0<=(J.wrap (e.1 + (a:Int)))/\(J.wrap (e.1 + (a:Int))) < (((J.wrap ((b:Int) + (a:Int))).toNat:Nat):Int))/\((0 + (((J.wrap (e.1 + (a:Int))).toNat) * 1)) + 1<=g.2.2.length)/\(∃a0:Int × (List Value),d0 a0 < d0 e/\(s4 i a l 0 ((((J.wrap ((b:Int) + (a:Int))).toNat:Nat)=(J.wrap ((b:Int) + (a:Int))).toNat)/\(((J.wrap ((b:Int) + (a:Int))).toNat:Nat)=(J.wrap ((b:Int) + (a:Int))).toNat)/\s4 k b m (b:Int) (((J.wrap (e.1 + (1:Int)))=a0.1)/\((g.2.2.set (0 + (((J.wrap (e.1 + (a:Int))).toNat) * 1)) (I W (W.wrap (g.1))))=a0.2))))/\a7 a0 u)))))))/\((decide (e.1 < (b:Int)))=false->(∀b2,p.Le b2->∀d4:Nat,(b2.blk d4 (.cells e.2.toArray 221 (0,0)))->Acts prog 151 #[S (some ⟨d4,0,none⟩) ((J.wrap ((b:Int) + (a:Int))).toNat) ((J.wrap ((b:Int) + (a:Int))).toNat)] b2 fun e3 e4=>∃d5 d6 d7,e3=S d5 d6 d7/\∀e6:C->Value,(Rt e4 R (S d5 d6 d7)))))))))):
 Acts prog 84 #[S k b m,S i a l] V R:=
 fd (LF:=LF0) (RF:=[1000010]) [(5,⟨Int × (List Value),false,[1,5,36,37],[],fun n=>[(38,.c (.v (I J n.1)))],fun n=>[(35,⟨.row n.2,221⟩)]⟩),(9,⟨Int × Int × (List Value),false,[1,5,6,7,36,37,38,43,44],[],fun n=>[(8,.c (.v (I U n.1))),(45,.c (.v (I J n.2.1)))],fun n=>[(35,⟨.row n.2.2,221⟩)]⟩)] [] func84 h
theorem vc_num_Left (e:OA) (d l:Nat) (a:Int) (V:View) (R:VR) (h:((32:Int)≠0)/\(0<=J.wrap ((J.wrap ((J.wrap (a.tdiv (32:Int))) + (d:Int)))+1))/\(J.wrap ((J.wrap ((J.wrap (a.tdiv (32:Int))) + (d:Int)))+1)<=J.wrap ((J.wrap ((J.wrap (a.tdiv (32:Int))) + (d:Int)))+1))/\((4:Int) * (J.wrap ((J.wrap ((J.wrap (a.tdiv (32:Int))) + (d:Int)))+1))<=140737488355328)/\((32:Int)≠0)/\(∃(m:(Int × (List Value))->VP) (q:(Int × (List Value))->Nat),(∃n,((a=a)/\sm 0/\(((J.wrap ((J.wrap ((J.wrap (a.tdiv (32:Int))) + (d:Int)))+1)).toNat:Nat)=(J.wrap ((J.wrap ((J.wrap (a.tdiv (32:Int))) + (d:Int)))+1)).toNat)/\(((J.wrap ((J.wrap ((J.wrap (a.tdiv (32:Int))) + (d:Int)))+1)).toNat:Nat)=(J.wrap ((J.wrap ((J.wrap (a.tdiv (32:Int))) + (d:Int)))+1)).toNat)/\((U.wrap (a.tmod (32:Int)))=(U.wrap (a.tmod (32:Int))))/\s4 e d l (d:Int) (((0:Int)=n.1)/\((List.replicate ((J.wrap ((J.wrap ((J.wrap (a.tdiv (32:Int))) + (d:Int)))+1)).toNat) (I W 0))=n.2)))/\m n V)/\∀(b:Int × (List Value)) (f:View),V.Le f->m b f->(true=true/\(((decide (b.1 < (d:Int)))=true->(e.isSome=true)/\(0<=b.1/\b.1 < (d:Int))/\(∃g,(∃r,addrAdd e (b.1.toNat * 1)=some r/\f.at r (I W g))/\(0<=(U.wrap (a.tmod (32:Int))))/\((32:Int)≠0)/\(0<=(J.wrap ((J.wrap (a.tdiv (32:Int))) + b.1))/\(J.wrap ((J.wrap (a.tdiv (32:Int))) + b.1)) < (((J.wrap ((J.wrap ((J.wrap (a.tdiv (32:Int))) + (d:Int)))+1)).toNat:Nat):Int))/\(∃i,b.2[0 + (((J.wrap ((J.wrap (a.tdiv (32:Int))) + b.1)).toNat) * 1)]?=some (I W i)/\(0<=(J.wrap ((J.wrap (a.tdiv (32:Int))) + b.1))/\(J.wrap ((J.wrap (a.tdiv (32:Int))) + b.1)) < (((J.wrap ((J.wrap ((J.wrap (a.tdiv (32:Int))) + (d:Int)))+1)).toNat:Nat):Int))/\((0 + (((J.wrap ((J.wrap (a.tdiv (32:Int))) + b.1)).toNat) * 1)) + 1<=b.2.length)/\((32:Int)≠0)/\(0<=(J.wrap ((J.wrap ((J.wrap (a.tdiv (32:Int))) + b.1))+1))/\(J.wrap ((J.wrap ((J.wrap (a.tdiv (32:Int))) + b.1))+1)) < (((J.wrap ((J.wrap ((J.wrap (a.tdiv (32:Int))) + (d:Int)))+1)).toNat:Nat):Int))/\(∃s,(b.2.set (0 + (((J.wrap ((J.wrap (a.tdiv (32:Int))) + b.1)).toNat) * 1)) (I W (bitI .or .u32 i (W.wrap (U.wrap ((U.wrap g) * 2 ^ (min (U.wrap (a.tmod (32:Int))).toNat IntKind.u64.bits)))))))[0 + (((J.wrap ((J.wrap ((J.wrap (a.tdiv (32:Int))) + b.1))+1)).toNat) * 1)]?=some (I W s)/\(0<=(32:Int))/\(0<=(J.wrap ((J.wrap ((J.wrap (a.tdiv (32:Int))) + b.1))+1))/\(J.wrap ((J.wrap ((J.wrap (a.tdiv (32:Int))) + b.1))+1)) < (((J.wrap ((J.wrap ((J.wrap (a.tdiv (32:Int))) + (d:Int)))+1)).toNat:Nat):Int))/\((0 + (((J.wrap ((J.wrap ((J.wrap (a.tdiv (32:Int))) + b.1))+1)).toNat) * 1)) + 1<=(b.2.set (0 + (((J.wrap ((J.wrap (a.tdiv (32:Int))) + b.1)).toNat) * 1)) (I W (bitI .or .u32 i (W.wrap (U.wrap ((U.wrap g) * 2 ^ (min (U.wrap (a.tmod (32:Int))).toNat IntKind.u64.bits))))))).length)/\(∃k:Int × (List Value),q k < q b/\((a=a)/\sm 0/\(((J.wrap ((J.wrap ((J.wrap (a.tdiv (32:Int))) + (d:Int)))+1)).toNat:Nat)=(J.wrap ((J.wrap ((J.wrap (a.tdiv (32:Int))) + (d:Int)))+1)).toNat)/\(((J.wrap ((J.wrap ((J.wrap (a.tdiv (32:Int))) + (d:Int)))+1)).toNat:Nat)=(J.wrap ((J.wrap ((J.wrap (a.tdiv (32:Int))) + (d:Int)))+1)).toNat)/\((U.wrap (a.tmod (32:Int)))=(U.wrap (a.tmod (32:Int))))/\s4 e d l (d:Int) (((J.wrap (b.1 + (1:Int)))=k.1)/\(((b.2.set (0 + (((J.wrap ((J.wrap (a.tdiv (32:Int))) + b.1)).toNat) * 1)) (I W (bitI .or .u32 i (W.wrap (U.wrap ((U.wrap g) * 2 ^ (min (U.wrap (a.tmod (32:Int))).toNat IntKind.u64.bits))))))).set (0 + (((J.wrap ((J.wrap ((J.wrap (a.tdiv (32:Int))) + b.1))+1)).toNat) * 1)) (I W (bitI .or .u32 s (W.wrap ((U.wrap ((U.wrap g) * 2 ^ (min (U.wrap (a.tmod (32:Int))).toNat IntKind.u64.bits))).fdiv (2 ^ 32))))))=k.2)))/\m k f)))))/\((decide (b.1 < (d:Int)))=false->(∀o,f.Le o->∀t:Nat,(o.blk t (.cells b.2.toArray 221 (0,0)))->Acts prog 151 #[S (some ⟨t,0,none⟩) ((J.wrap ((J.wrap ((J.wrap (a.tdiv (32:Int))) + (d:Int)))+1)).toNat) ((J.wrap ((J.wrap ((J.wrap (a.tdiv (32:Int))) + (d:Int)))+1)).toNat)] o fun z a0=>∃u w x,z=S u w x/\∀a1:C->Value,(Rt a0 R (S u w x)))))))):
 Acts prog 229 #[S e d l,I J a] V R:=
 fd (LF:=LF0) (RF:=[1000010]) [(4,⟨Int × (List Value),false,[1,5,6,20,21],[],fun p=>[(22,.c (.v (I J p.1)))],fun p=>[(16,⟨.row p.2,221⟩)]⟩)] [] func229 h
theorem vc_num_Right (f:OA) (b d:Nat) (a:Int) (V:View) (R:VR) (h:((32:Int)≠0)/\(((decide ((J.wrap (a.tdiv (32:Int))) ≥ (b:Int)))=true->(Rt V R (S none 0 0)))/\((decide ((J.wrap (a.tdiv (32:Int))) ≥ (b:Int)))=false->((32:Int)≠0)/\((32:Int)≠0)/\(0<=(J.wrap (a.tdiv (32:Int)))/\(J.wrap (a.tdiv (32:Int)))<=(b:Int))/\(0<=((b - ((J.wrap (a.tdiv (32:Int))).toNat):Nat):Int))/\(((b - ((J.wrap (a.tdiv (32:Int))).toNat):Nat):Int)<=((b - ((J.wrap (a.tdiv (32:Int))).toNat):Nat):Int))/\((4:Int) * ((b - ((J.wrap (a.tdiv (32:Int))).toNat):Nat):Int)<=140737488355328)/\(∃(l:(Int × (List Value))->VP) (s:(Int × (List Value))->Nat),(∃m,(((U.wrap (a.tmod (32:Int)))=(U.wrap (a.tmod (32:Int))))/\((slA f d ((J.wrap (a.tdiv (32:Int))).toNat) 1:OA)=(slA f d ((J.wrap (a.tdiv (32:Int))).toNat) 1))/\((b - ((J.wrap (a.tdiv (32:Int))).toNat):Nat)=(b - ((J.wrap (a.tdiv (32:Int))).toNat)))/\((d - ((J.wrap (a.tdiv (32:Int))).toNat):Nat)=(d - ((J.wrap (a.tdiv (32:Int))).toNat)))/\sm 0/\((((b - ((J.wrap (a.tdiv (32:Int))).toNat):Nat):Int).toNat:Nat)=((b - ((J.wrap (a.tdiv (32:Int))).toNat):Nat):Int).toNat)/\((((b - ((J.wrap (a.tdiv (32:Int))).toNat):Nat):Int).toNat:Nat)=((b - ((J.wrap (a.tdiv (32:Int))).toNat):Nat):Int).toNat)/\((slA f d ((J.wrap (a.tdiv (32:Int))).toNat) 1:OA)=(slA f d ((J.wrap (a.tdiv (32:Int))).toNat) 1))/\((b - ((J.wrap (a.tdiv (32:Int))).toNat):Nat)=(b - ((J.wrap (a.tdiv (32:Int))).toNat)))/\((d - ((J.wrap (a.tdiv (32:Int))).toNat):Nat)=(d - ((J.wrap (a.tdiv (32:Int))).toNat)))/\(((b - ((J.wrap (a.tdiv (32:Int))).toNat):Nat):Int)=((b - ((J.wrap (a.tdiv (32:Int))).toNat):Nat):Int))/\((0:Int)=m.1)/\((List.replicate (((b - ((J.wrap (a.tdiv (32:Int))).toNat):Nat):Int).toNat) (I W 0))=m.2))/\l m V)/\∀(e:Int × (List Value)) (g:View),V.Le g->l e g->(true=true/\(((decide (e.1 < ((b - ((J.wrap (a.tdiv (32:Int))).toNat):Nat):Int)))=true->((slA f d ((J.wrap (a.tdiv (32:Int))).toNat) 1).isSome=true)/\(0<=e.1/\e.1 < ((b - ((J.wrap (a.tdiv (32:Int))).toNat):Nat):Int))/\(∃n,(∃t,addrAdd (slA f d ((J.wrap (a.tdiv (32:Int))).toNat) 1) (e.1.toNat * 1)=some t/\g.at t (I W n))/\(∃o:Int->VP,(((decide ((J.wrap (e.1 + (1:Int))) < ((b - ((J.wrap (a.tdiv (32:Int))).toNat):Nat):Int)))=true->((slA f d ((J.wrap (a.tdiv (32:Int))).toNat) 1).isSome=true)/\(0<=(J.wrap (e.1 + (1:Int)))/\(J.wrap (e.1 + (1:Int))) < ((b - ((J.wrap (a.tdiv (32:Int))).toNat):Nat):Int))/\(∃u,(∃w,addrAdd (slA f d ((J.wrap (a.tdiv (32:Int))).toNat) 1) (((J.wrap (e.1 + (1:Int))).toNat) * 1)=some w/\g.at w (I W u))/\(0<=(32:Int))/\(∃x:Int,(((U.wrap (a.tmod (32:Int)))=(U.wrap (a.tmod (32:Int))))/\((slA f d ((J.wrap (a.tdiv (32:Int))).toNat) 1:OA)=(slA f d ((J.wrap (a.tdiv (32:Int))).toNat) 1))/\((b - ((J.wrap (a.tdiv (32:Int))).toNat):Nat)=(b - ((J.wrap (a.tdiv (32:Int))).toNat)))/\((d - ((J.wrap (a.tdiv (32:Int))).toNat):Nat)=(d - ((J.wrap (a.tdiv (32:Int))).toNat)))/\sm 0/\((((b - ((J.wrap (a.tdiv (32:Int))).toNat):Nat):Int).toNat:Nat)=((b - ((J.wrap (a.tdiv (32:Int))).toNat):Nat):Int).toNat)/\((((b - ((J.wrap (a.tdiv (32:Int))).toNat):Nat):Int).toNat:Nat)=((b - ((J.wrap (a.tdiv (32:Int))).toNat):Nat):Int).toNat)/\sm e.1/\((slA f d ((J.wrap (a.tdiv (32:Int))).toNat) 1:OA)=(slA f d ((J.wrap (a.tdiv (32:Int))).toNat) 1))/\((b - ((J.wrap (a.tdiv (32:Int))).toNat):Nat)=(b - ((J.wrap (a.tdiv (32:Int))).toNat)))/\((d - ((J.wrap (a.tdiv (32:Int))).toNat):Nat)=(d - ((J.wrap (a.tdiv (32:Int))).toNat)))/\(((b - ((J.wrap (a.tdiv (32:Int))).toNat):Nat):Int)=((b - ((J.wrap (a.tdiv (32:Int))).toNat):Nat):Int))/\sm e.1/\((bitI .or .u64 (U.wrap n) (U.wrap ((U.wrap u) * 2 ^ 32)))=x)/\sm e.2)/\o x g)))/\((decide ((J.wrap (e.1 + (1:Int))) < ((b - ((J.wrap (a.tdiv (32:Int))).toNat):Nat):Int)))=false->(∃y:Int,(((U.wrap (a.tmod (32:Int)))=(U.wrap (a.tmod (32:Int))))/\((slA f d ((J.wrap (a.tdiv (32:Int))).toNat) 1:OA)=(slA f d ((J.wrap (a.tdiv (32:Int))).toNat) 1))/\((b - ((J.wrap (a.tdiv (32:Int))).toNat):Nat)=(b - ((J.wrap (a.tdiv (32:Int))).toNat)))/\((d - ((J.wrap (a.tdiv (32:Int))).toNat):Nat)=(d - ((J.wrap (a.tdiv (32:Int))).toNat)))/\sm 0/\((((b - ((J.wrap (a.tdiv (32:Int))).toNat):Nat):Int).toNat:Nat)=((b - ((J.wrap (a.tdiv (32:Int))).toNat):Nat):Int).toNat)/\((((b - ((J.wrap (a.tdiv (32:Int))).toNat):Nat):Int).toNat:Nat)=((b - ((J.wrap (a.tdiv (32:Int))).toNat):Nat):Int).toNat)/\sm e.1/\((slA f d ((J.wrap (a.tdiv (32:Int))).toNat) 1:OA)=(slA f d ((J.wrap (a.tdiv (32:Int))).toNat) 1))/\((b - ((J.wrap (a.tdiv (32:Int))).toNat):Nat)=(b - ((J.wrap (a.tdiv (32:Int))).toNat)))/\((d - ((J.wrap (a.tdiv (32:Int))).toNat):Nat)=(d - ((J.wrap (a.tdiv (32:Int))).toNat)))/\(((b - ((J.wrap (a.tdiv (32:Int))).toNat):Nat):Int)=((b - ((J.wrap (a.tdiv (32:Int))).toNat):Nat):Int))/\sm e.1/\((U.wrap n)=y)/\sm e.2)/\o y g)))/\∀(z:Int) (p:View),g.Le p->o z p->(true=true/\(0<=(U.wrap (a.tmod (32:Int))))/\(0<=e.1/\e.1 < ((((b - ((J.wrap (a.tdiv (32:Int))).toNat):Nat):Int).toNat:Nat):Int))/\((0 + (e.1.toNat * 1)) + 1<=e.2.length)/\(∃k:Int × (List Value),s k < s e/\(((U.wrap (a.tmod (32:Int)))=(U.wrap (a.tmod (32:Int))))/\((slA f d ((J.wrap (a.tdiv (32:Int))).toNat) 1:OA)=(slA f d ((J.wrap (a.tdiv (32:Int))).toNat) 1))/\((b - ((J.wrap (a.tdiv (32:Int))).toNat):Nat)=(b - ((J.wrap (a.tdiv (32:Int))).toNat)))/\((d - ((J.wrap (a.tdiv (32:Int))).toNat):Nat)=(d - ((J.wrap (a.tdiv (32:Int))).toNat)))/\sm 0/\((((b - ((J.wrap (a.tdiv (32:Int))).toNat):Nat):Int).toNat:Nat)=((b - ((J.wrap (a.tdiv (32:Int))).toNat):Nat):Int).toNat)/\((((b - ((J.wrap (a.tdiv (32:Int))).toNat):Nat):Int).toNat:Nat)=((b - ((J.wrap (a.tdiv (32:Int))).toNat):Nat):Int).toNat)/\((slA f d ((J.wrap (a.tdiv (32:Int))).toNat) 1:OA)=(slA f d ((J.wrap (a.tdiv (32:Int))).toNat) 1))/\((b - ((J.wrap (a.tdiv (32:Int))).toNat):Nat)=(b - ((J.wrap (a.tdiv (32:Int))).toNat)))/\((d - ((J.wrap (a.tdiv (32:Int))).toNat):Nat)=(d - ((J.wrap (a.tdiv (32:Int))).toNat)))/\(((b - ((J.wrap (a.tdiv (32:Int))).toNat):Nat):Int)=((b - ((J.wrap (a.tdiv (32:Int))).toNat):Nat):Int))/\((J.wrap (e.1 + (1:Int)))=k.1)/\((e.2.set (0 + (e.1.toNat * 1)) (I W (W.wrap (z.fdiv (2 ^ (min (U.wrap (a.tmod (32:Int))).toNat IntKind.u64.bits))))))=k.2))/\l k p)))))/\((decide (e.1 < ((b - ((J.wrap (a.tdiv (32:Int))).toNat):Nat):Int)))=false->(∀q,g.Le q->∀a0:Nat,(q.blk a0 (.cells e.2.toArray 221 (0,0)))->Acts prog 151 #[S (some ⟨a0,0,none⟩) (((b - ((J.wrap (a.tdiv (32:Int))).toNat):Nat):Int).toNat) (((b - ((J.wrap (a.tdiv (32:Int))).toNat):Nat):Int).toNat)] q fun a5 a6=>∃a1 a2 a3,a5=S a1 a2 a3/\∀a7:C->Value,(Rt a6 R (S a1 a2 a3)))))))))):
 Acts prog 230 #[S f b d,I J a] V R:=
 fd (LF:=LF0) (RF:=[1000010]) [(7,⟨Int × (List Value),false,[5,6,7,26,27],[],fun i=>[(28,.c (.v (I J i.1)))],fun i=>[(25,⟨.row i.2,221⟩)]⟩)] [(11,⟨Int,false,[5,6,7,8,26,27,28],[25],fun i=>[(10,.c (.v (I U i)))],fun i=>[]⟩)] func230 h
theorem vc_num_word (b:OA) (a o:Nat) (V:View) (R:VR) (h:((((a:Int) == (0:Int))=true->(Rt V R (T #[I U 0,B true])))/\(((a:Int) == (0:Int))=false->((((a:Int) == (1:Int))=true->(b.isSome=true)/\(0<=(0:Int)/\(0:Int) < (a:Int))/\(∃d,(∃e,addrAdd b 0=some e/\V.at e (I W d))/\(Rt V R (T #[I U (U.wrap d),B true]))))/\(((a:Int) == (1:Int))=false->((((a:Int) == (2:Int))=true->(b.isSome=true)/\(0<=(1:Int)/\(1:Int) < (a:Int))/\(∃g,(∃i,addrAdd b 1=some i/\V.at i (I W g))/\(0<=(32:Int))/\(b.isSome=true)/\(0<=(0:Int)/\(0:Int) < (a:Int))/\(∃k,(∃l,addrAdd b 0=some l/\V.at l (I W k))/\(Rt V R (T #[I U (bitI .or .u64 (U.wrap ((U.wrap g) * 2 ^ 32)) (U.wrap k)),B true])))))/\(((a:Int) == (2:Int))=false->(Rt V R (T #[I U 0,B false]))))))))):
 Acts prog 202 #[S b a o] V R:=
 fd (LF:=LF0) (RF:=[1000010]) [] [] func202 h
theorem vc_num_Divide (d:OA) (a g:Nat) (f:OA) (e i:Nat) (V:View) (R:VR) (h:(Ca V 202 #[S d a g] fun d7 r=>∃s,∃t,d7=T #[I U s,B t]/\(∃u:Unit->VP,((t=true->(Ca r 202 #[S f e i] fun d8 a4=>∃m,∃w,d8=T #[I U m,B w]/\((w=true->(m≠0)/\(m≠0)/\(Ca a4 92 #[I U (U.wrap (s.tdiv m))] fun d9 e0=>∃a5 a6 a7,d9=S a5 a6 a7/\(Ca e0 92 #[I U (s.tmod m)] fun e1 e2=>∃a8 a9 b0,e1=S a8 a9 b0/\(Rt e2 R (T #[S a5 a6 a7,S a8 a9 b0])))))/\(w=false->(∃e3:Unit,(s5 d a g f e (sm i))/\u e3 a4)))))/\(t=false->(∃e4:Unit,(s5 d a g f e (sm i))/\u e4 r)))/\∀(e5:Unit) (x:View),r.Le x->u e5 x->(true=true/\(Ca x 146 #[S d a g,S f e i] fun e6 n=>∃y,e6=I J y/\(((decide (y < (0:Int)))=true->(∃o:List Value,n.sl d o/\o.length=a * 1/\((0 + a) * 4<=140737488355328/\0<=0/\0 * 1<=([]:List Value).length/\o.length=a * 1/\(∀e7 ∈ o,e7.oneCell'=true)/\∀(f6:Nat) (f7:C->Value) (b2:List Value) (z:Nat),0 + a<=z->z * 1<=(0 + a) * 1 + b2.length->(∀a0,n.Le a0->∀b3:Nat,(a0.blk b3 (.cells (([]:List Value).take (0 * 1)++o++b2).toArray 221 (0,0)))->R (T #[S none 0 0,S (some ⟨b3,0,none⟩) (0 + a) z]) a0))))/\((decide (y < (0:Int)))=false->((((e:Int) == (1:Int))=true->(0<=(a:Int))/\((a:Int)<=(a:Int))/\((4:Int) * (a:Int)<=140737488355328)/\(∃(a1:(Int × Int × (List Value))->VP) (b4:(Int × Int × (List Value))->Nat),(∃q,(s7 d a g f e i 0 ((((a:Int).toNat:Nat)=(a:Int).toNat)/\(((a:Int).toNat:Nat)=(a:Int).toNat)/\((0:Int)=q.1)/\((J.wrap ((a:Int)-1))=q.2.1)/\((List.replicate ((a:Int).toNat) (I W 0))=q.2.2)))/\a1 q n)/\∀(b:Int × Int × (List Value)) (k:View),n.Le k->a1 b k->(true=true/\(((decide (b.2.1 ≥ (0:Int)))=true->(d.isSome=true)/\(0<=b.2.1/\b.2.1 < (a:Int))/\(∃b5,(∃b6,addrAdd d (b.2.1.toNat * 1)=some b6/\k.at b6 (I W b5))/\(f.isSome=true)/\(0<=(0:Int)/\(0:Int) < (e:Int))/\(∃b7,(∃b8,addrAdd f 0=some b8/\k.at b8 (I W b7))/\(Ca k 203 #[I W b.1,I W b5,I W b7] fun e8 e9=>∃b9,∃c0,e8=T #[I W b9,I W c0]/\(0<=b.2.1/\b.2.1 < (((a:Int).toNat:Nat):Int))/\((0 + (b.2.1.toNat * 1)) + 1<=b.2.2.length)/\(∃p:Int × Int × (List Value),b4 p < b4 b/\(s7 d a g f e i 0 ((((a:Int).toNat:Nat)=(a:Int).toNat)/\(((a:Int).toNat:Nat)=(a:Int).toNat)/\(c0=p.1)/\((J.wrap (b.2.1 - (1:Int)))=p.2.1)/\((b.2.2.set (0 + (b.2.1.toNat * 1)) (I W b9))=p.2.2)))/\a1 p e9)))))/\((decide (b.2.1 ≥ (0:Int)))=false->(∀a2,k.Le a2->∀c1:Nat,(a2.blk c1 (.cells b.2.2.toArray 221 (0,0)))->Acts prog 151 #[S (some ⟨c1,0,none⟩) ((a:Int).toNat) ((a:Int).toNat)] a2 fun f0 f1=>∃c2 c3 c4,f0=S c2 c3 c4/\∀f8:C->Value,(∀a3,f1.Le a3->∀c5:Nat,(a3.blk c5 (.cells #[I W b.1] 221 (0,0)))->Acts prog 151 #[S (some ⟨c5,0,none⟩) 1 1] a3 fun f2 f3=>∃c6 c7 c8,f2=S c6 c7 c8/\∀f9:C->Value,(Rt f3 R (T #[S c2 c3 c4,S c6 c7 c8])))))))))/\(((e:Int) == (1:Int))=false->(Ca n 204 #[S d a g,S f e i] fun f4 f5=>∃d0 d1 d2,∃d3 d4 d5,f4=T #[S d0 d1 d2,S d3 d4 d5]/\(Rt f5 R (T #[S d0 d1 d2,S d3 d4 d5])))))))))))):
 Acts prog 150 #[S d a g,S f e i] V R:=
 fd (LF:=LF0) (RF:=[1000010]) [(12,⟨Int × Int × (List Value),false,[0,1,10],[],fun l=>[(11,.c (.v (I W l.1))),(12,.c (.v (I J l.2.1)))],fun l=>[(45,⟨.row l.2.2,221⟩)]⟩)] [(3,⟨Unit,false,[0,1],[],fun l=>[],fun l=>[]⟩)] func150 h
theorem vc_num_long (a5:OA) (d a6:Nat) (s:OA) (b a7:Nat) (V:View) (R:VR) (h:(s.isSome=true)/\(0<=(J.wrap ((b:Int)-1))/\(J.wrap ((b:Int)-1)) < (b:Int))/\(∃a8,(∃a9,addrAdd s (((J.wrap ((b:Int)-1)).toNat) * 1)=some a9/\V.at a9 (I W a8))/\(Ca V 226 #[I W a8] fun f8 f9=>∃k,f8=I J k/\(Ca f9 229 #[S s b a7,I J k] fun g0 g1=>∃i e l,g0=S i e l/\(Ca g1 229 #[S a5 d a6,I J k] fun g2 t=>∃b0 b1 b2,g2=S b0 b1 b2/\(i.isSome=true)/\(0<=(J.wrap ((e:Int)-1))/\(J.wrap ((e:Int)-1)) < (e:Int))/\(∃f,(∃b3,addrAdd i (((J.wrap ((e:Int)-1)).toNat) * 1)=some b3/\t.at b3 (I W f))/\(0<=J.wrap ((J.wrap ((d:Int) - (b:Int)))+1))/\(J.wrap ((J.wrap ((d:Int) - (b:Int)))+1)<=J.wrap ((J.wrap ((d:Int) - (b:Int)))+1))/\((4:Int) * (J.wrap ((J.wrap ((d:Int) - (b:Int)))+1))<=140737488355328)/\(∃(u:((OA) × Nat × Nat × Int × (List Value))->VP) (b4:((OA) × Nat × Nat × Int × (List Value))->Nat),(∃p:(OA) × Nat × Nat × Int × (List Value),(s4 k i e l (((U.wrap f)=(U.wrap f))/\sm 0/\(((J.wrap ((J.wrap ((d:Int) - (b:Int)))+1)).toNat:Nat)=(J.wrap ((J.wrap ((d:Int) - (b:Int)))+1)).toNat)/\(((J.wrap ((J.wrap ((d:Int) - (b:Int)))+1)).toNat:Nat)=(J.wrap ((J.wrap ((d:Int) - (b:Int)))+1)).toNat)/\((b0:OA)=p.1)/\((b1:Nat)=p.2.1)/\((b2:Nat)=p.2.2.1)/\((J.wrap ((((J.wrap ((J.wrap ((d:Int) - (b:Int)))+1)).toNat:Nat):Int)-1))=p.2.2.2.1)/\((List.replicate ((J.wrap ((J.wrap ((d:Int) - (b:Int)))+1)).toNat) (I W 0))=p.2.2.2.2)))/\u p t)/\∀(a:(OA) × Nat × Nat × Int × (List Value)) (m:View),t.Le m->u a m->(true=true/\(((decide (a.2.2.2.1 ≥ (0:Int)))=true->(∃w:Int->VP,(((decide ((J.wrap ((e:Int) + a.2.2.2.1)) < ((a.2.1:Nat):Int)))=true->(a.1.isSome=true)/\(0<=(J.wrap ((e:Int) + a.2.2.2.1))/\(J.wrap ((e:Int) + a.2.2.2.1)) < ((a.2.1:Nat):Int))/\(∃b5,(∃b6,addrAdd a.1 (((J.wrap ((e:Int) + a.2.2.2.1)).toNat) * 1)=some b6/\m.at b6 (I W b5))/\(0<=(32:Int))/\(a.1.isSome=true)/\(0<=(J.wrap ((J.wrap ((e:Int) + a.2.2.2.1))-1))/\(J.wrap ((J.wrap ((e:Int) + a.2.2.2.1))-1)) < ((a.2.1:Nat):Int))/\(∃b7,(∃b8,addrAdd a.1 (((J.wrap ((J.wrap ((e:Int) + a.2.2.2.1))-1)).toNat) * 1)=some b8/\m.at b8 (I W b7))/\(∃b9:Int,(s4 k i e l (((a.1:OA)=a.1)/\((a.2.1:Nat)=a.2.1)/\((a.2.2.1:Nat)=a.2.2.1)/\((U.wrap f)=(U.wrap f))/\sm 0/\(((J.wrap ((J.wrap ((d:Int) - (b:Int)))+1)).toNat:Nat)=(J.wrap ((J.wrap ((d:Int) - (b:Int)))+1)).toNat)/\(((J.wrap ((J.wrap ((d:Int) - (b:Int)))+1)).toNat:Nat)=(J.wrap ((J.wrap ((d:Int) - (b:Int)))+1)).toNat)/\sm a.2.2.2.1/\((bitI .or .u64 (U.wrap ((U.wrap b5) * 2 ^ 32)) (U.wrap b7))=b9)/\sm a.2.2.2.2))/\w b9 m))))/\((decide ((J.wrap ((e:Int) + a.2.2.2.1)) < ((a.2.1:Nat):Int)))=false->(∃x:Int->VP,(((decide ((J.wrap ((J.wrap ((e:Int) + a.2.2.2.1))-1)) < ((a.2.1:Nat):Int)))=true->(a.1.isSome=true)/\(0<=(J.wrap ((J.wrap ((e:Int) + a.2.2.2.1))-1))/\(J.wrap ((J.wrap ((e:Int) + a.2.2.2.1))-1)) < ((a.2.1:Nat):Int))/\(∃c0,(∃c1,addrAdd a.1 (((J.wrap ((J.wrap ((e:Int) + a.2.2.2.1))-1)).toNat) * 1)=some c1/\m.at c1 (I W c0))/\(∃c2:Int,(s4 k i e l (((a.1:OA)=a.1)/\((a.2.1:Nat)=a.2.1)/\((a.2.2.1:Nat)=a.2.2.1)/\((U.wrap f)=(U.wrap f))/\sm 0/\(((J.wrap ((J.wrap ((d:Int) - (b:Int)))+1)).toNat:Nat)=(J.wrap ((J.wrap ((d:Int) - (b:Int)))+1)).toNat)/\(((J.wrap ((J.wrap ((d:Int) - (b:Int)))+1)).toNat:Nat)=(J.wrap ((J.wrap ((d:Int) - (b:Int)))+1)).toNat)/\sm a.2.2.2.1/\((U.wrap c0)=c2)/\sm a.2.2.2.2))/\x c2 m)))/\((decide ((J.wrap ((J.wrap ((e:Int) + a.2.2.2.1))-1)) < ((a.2.1:Nat):Int)))=false->(∃c3:Int,(s4 k i e l (((a.1:OA)=a.1)/\((a.2.1:Nat)=a.2.1)/\((a.2.2.1:Nat)=a.2.2.1)/\((U.wrap f)=(U.wrap f))/\sm 0/\(((J.wrap ((J.wrap ((d:Int) - (b:Int)))+1)).toNat:Nat)=(J.wrap ((J.wrap ((d:Int) - (b:Int)))+1)).toNat)/\(((J.wrap ((J.wrap ((d:Int) - (b:Int)))+1)).toNat:Nat)=(J.wrap ((J.wrap ((d:Int) - (b:Int)))+1)).toNat)/\sm a.2.2.2.1/\((0:Int)=c3)/\sm a.2.2.2.2))/\x c3 m)))/\∀(c4:Int) (y:View),m.Le y->x c4 y->(true=true/\(∃c5:Int,(s4 k i e l (((a.1:OA)=a.1)/\((a.2.1:Nat)=a.2.1)/\((a.2.2.1:Nat)=a.2.2.1)/\((U.wrap f)=(U.wrap f))/\sm 0/\(((J.wrap ((J.wrap ((d:Int) - (b:Int)))+1)).toNat:Nat)=(J.wrap ((J.wrap ((d:Int) - (b:Int)))+1)).toNat)/\(((J.wrap ((J.wrap ((d:Int) - (b:Int)))+1)).toNat:Nat)=(J.wrap ((J.wrap ((d:Int) - (b:Int)))+1)).toNat)/\sm a.2.2.2.1/\(c4=c5)/\sm a.2.2.2.2))/\w c5 y)))))/\∀(z:Int) (a0:View),m.Le a0->w z a0->(true=true/\((U.wrap f)≠0)/\(Ca a0 92 #[I U (minI (U.wrap (z.tdiv (U.wrap f))) (4294967295))] fun g3 g4=>∃c6 c7 c8,g3=S c6 c7 c8/\(Ca g4 84 #[S i e l,S c6 c7 c8] fun g5 g6=>∃c9 d0 d1,g5=S c9 d0 d1/\(Ca g6 229 #[S c9 d0 d1,I J (J.wrap ((32:Int) * a.2.2.2.1))] fun g7 d2=>∃d3 d4 d5,g7=S d3 d4 d5/\(∃(a1:(Int × (OA) × Nat × Nat)->VP) (d6:(Int × (OA) × Nat × Nat)->Nat),(∃r,(s4 k i e l (((a.1:OA)=a.1)/\((a.2.1:Nat)=a.2.1)/\((a.2.2.1:Nat)=a.2.2.1)/\((U.wrap f)=(U.wrap f))/\sm 0/\(((J.wrap ((J.wrap ((d:Int) - (b:Int)))+1)).toNat:Nat)=(J.wrap ((J.wrap ((d:Int) - (b:Int)))+1)).toNat)/\(((J.wrap ((J.wrap ((d:Int) - (b:Int)))+1)).toNat:Nat)=(J.wrap ((J.wrap ((d:Int) - (b:Int)))+1)).toNat)/\sm a.2.2.2.1/\((minI (U.wrap (z.tdiv (U.wrap f))) (4294967295))=r.1)/\((d3:OA)=r.2.1)/\((d4:Nat)=r.2.2.1)/\((d5:Nat)=r.2.2.2)/\sm a.2.2.2.2))/\a1 r d2)/\∀(n:Int × (OA) × Nat × Nat) (a2:View),d2.Le a2->a1 n a2->(true=true/\(Ca a2 146 #[S n.2.1 n.2.2.1 n.2.2.2,S a.1 a.2.1 a.2.2.1] fun g8 d7=>∃a3,g8=I J a3/\(((decide (a3 > (0:Int)))=true->(Ca d7 92 #[I U (U.wrap (n.1 - (1:Int)))] fun g9 i0=>∃d8 d9 e0,g9=S d8 d9 e0/\(Ca i0 84 #[S i e l,S d8 d9 e0] fun i1 i2=>∃e1 e2 e3,i1=S e1 e2 e3/\(Ca i2 229 #[S e1 e2 e3,I J (J.wrap ((32:Int) * a.2.2.2.1))] fun i3 i4=>∃e4 e5 e6,i3=S e4 e5 e6/\(∃q:Int × (OA) × Nat × Nat,d6 q < d6 n/\(s4 k i e l (((a.1:OA)=a.1)/\((a.2.1:Nat)=a.2.1)/\((a.2.2.1:Nat)=a.2.2.1)/\((U.wrap f)=(U.wrap f))/\sm 0/\(((J.wrap ((J.wrap ((d:Int) - (b:Int)))+1)).toNat:Nat)=(J.wrap ((J.wrap ((d:Int) - (b:Int)))+1)).toNat)/\(((J.wrap ((J.wrap ((d:Int) - (b:Int)))+1)).toNat:Nat)=(J.wrap ((J.wrap ((d:Int) - (b:Int)))+1)).toNat)/\sm a.2.2.2.1/\((U.wrap (n.1 - (1:Int)))=q.1)/\((e4:OA)=q.2.1)/\((e5:Nat)=q.2.2.1)/\((e6:Nat)=q.2.2.2)/\sm a.2.2.2.2))/\a1 q i4)))))/\((decide (a3 > (0:Int)))=false->(0<=a.2.2.2.1/\a.2.2.2.1 < (((J.wrap ((J.wrap ((d:Int) - (b:Int)))+1)).toNat:Nat):Int))/\((0 + (a.2.2.2.1.toNat * 1)) + 1<=a.2.2.2.2.length)/\(Ca d7 147 #[S a.1 a.2.1 a.2.2.1,S n.2.1 n.2.2.1 n.2.2.2] fun i5 i6=>∃e7 e8 e9,i5=S e7 e8 e9/\(∃o:(OA) × Nat × Nat × Int × (List Value),b4 o < b4 a/\(s4 k i e l (((U.wrap f)=(U.wrap f))/\sm 0/\(((J.wrap ((J.wrap ((d:Int) - (b:Int)))+1)).toNat:Nat)=(J.wrap ((J.wrap ((d:Int) - (b:Int)))+1)).toNat)/\(((J.wrap ((J.wrap ((d:Int) - (b:Int)))+1)).toNat:Nat)=(J.wrap ((J.wrap ((d:Int) - (b:Int)))+1)).toNat)/\((e7:OA)=o.1)/\((e8:Nat)=o.2.1)/\((e9:Nat)=o.2.2.1)/\((J.wrap (a.2.2.2.1 - (1:Int)))=o.2.2.2.1)/\((a.2.2.2.2.set (0 + (a.2.2.2.1.toNat * 1)) (I W (W.wrap (n.1))))=o.2.2.2.2)))/\u o i6)))))))))))))/\((decide (a.2.2.2.1 ≥ (0:Int)))=false->(∀a4,m.Le a4->∀f0:Nat,(a4.blk f0 (.cells a.2.2.2.2.toArray 221 (0,0)))->Acts prog 151 #[S (some ⟨f0,0,none⟩) ((J.wrap ((J.wrap ((d:Int) - (b:Int)))+1)).toNat) ((J.wrap ((J.wrap ((d:Int) - (b:Int)))+1)).toNat)] a4 fun i7 i8=>∃f1 f2 f3,i7=S f1 f2 f3/\∀k1:C->Value,(Ca i8 230 #[S a.1 a.2.1 a.2.2.1,I J k] fun i9 k0=>∃f4 f5 f6,i9=S f4 f5 f6/\(Rt k0 R (T #[S f1 f2 f3,S f4 f5 f6])))))))))))))):
 Acts prog 204 #[S a5 d a6,S s b a7] V R:=
 fd (LF:=LF0) (RF:=[1000010]) [(6,⟨(OA) × Nat × Nat × Int × (List Value),false,[6,7,9,10],[],fun g=>[(8,.c (.v (S g.1 g.2.1 g.2.2.1))),(11,.c (.v (I J g.2.2.2.1)))],fun g=>[(42,⟨.row g.2.2.2.2,221⟩)]⟩),(16,⟨Int × (OA) × Nat × Nat,false,[6,7,8,9,10,11],[42],fun g=>[(14,.c (.v (I U g.1))),(15,.c (.v (S g.2.1 g.2.2.1 g.2.2.2)))],fun g=>[]⟩)] [(11,⟨Int,false,[6,7,8,9,10,11],[42],fun g=>[(12,.c (.v (I U g)))],fun g=>[]⟩),(13,⟨Int,false,[6,7,8,9,10,11],[42],fun g=>[(12,.c (.v (I U g)))],fun g=>[]⟩)] func204 h
theorem vc_num_Common (g:OA) (i k:Nat) (l:OA) (m n:Nat) (V:View) (R:VR) (h:(Ca V 202 #[S g i k] fun b8 t=>∃a4,∃u,b8=T #[I U a4,B u]/\(∃w:Unit->VP,((u=true->(Ca t 202 #[S l m n] fun b9 x=>∃a5,∃y,b9=T #[I U a5,B y]/\((y=true->(∃(z:(Int × Int)->VP) (a6:(Int × Int)->Nat),(∃a0,((a4=a0.1)/\(a5=a0.2))/\z a0 x)/\∀(d:Int × Int) (q:View),x.Le q->z d q->(true=true/\(((decide (d.2 > (0:Int)))=true->(d.2≠0)/\(∃r:Int × Int,a6 r < a6 d/\((d.2=r.1)/\((d.1.tmod d.2)=r.2))/\z r q))/\((decide (d.2 > (0:Int)))=false->(Ca q 92 #[I U d.1] fun c0 c1=>∃a7 a8 a9,c0=S a7 a8 a9/\(Rt c1 R (S a7 a8 a9))))))))/\(y=false->(∃c2:Unit,(s5 g i k l m (sm n))/\w c2 x)))))/\(u=false->(∃c3:Unit,(s5 g i k l m (sm n))/\w c3 t)))/\∀(c4:Unit) (s:View),t.Le s->w c4 s->(true=true/\(∃a1:((OA) × Nat × Nat × (OA) × Nat × Nat)->Nat->VP,(∃(e:(OA) × Nat × Nat × (OA) × Nat × Nat) (c5:Nat),(((g:OA)=e.1)/\((i:Nat)=e.2.1)/\((k:Nat)=e.2.2.1)/\((l:OA)=e.2.2.2.1)/\((m:Nat)=e.2.2.2.2.1)/\((n:Nat)=e.2.2.2.2.2))/\a1 e c5 s)/\∀(a:(OA) × Nat × Nat × (OA) × Nat × Nat) (b1:Nat) (o:View),s.Le o->a1 a b1 o->(true=true/\(((decide (((a.2.2.2.2.1:Nat):Int) > (0:Int)))=true->(Ca o 150 #[S a.1 a.2.1 a.2.2.1,S a.2.2.2.1 a.2.2.2.2.1 a.2.2.2.2.2] fun c6 c7=>∃c8 c9 d0,∃b2 b3 b4,c6=T #[S c8 c9 d0,S b2 b3 b4]/\(∃(f:(OA) × Nat × Nat × (OA) × Nat × Nat) (b5:Nat),b5 < b1/\(((a.2.2.2.1:OA)=f.1)/\((a.2.2.2.2.1:Nat)=f.2.1)/\((a.2.2.2.2.2:Nat)=f.2.2.1)/\((b2:OA)=f.2.2.2.1)/\((b3:Nat)=f.2.2.2.2.1)/\((b4:Nat)=f.2.2.2.2.2))/\a1 f b5 c7)))/\((decide (((a.2.2.2.2.1:Nat):Int) > (0:Int)))=false->(∃p:List Value,o.sl a.1 p/\p.length=a.2.1 * 1/\((0 + a.2.1) * 4<=140737488355328/\0<=0/\0 * 1<=([]:List Value).length/\p.length=a.2.1 * 1/\(∀d1 ∈ p,d1.oneCell'=true)/\∀(d2:Nat) (d3:C->Value) (b6:List Value) (a2:Nat),0 + a.2.1<=a2->a2 * 1<=(0 + a.2.1) * 1 + b6.length->(∀a3,o.Le a3->∀b7:Nat,(a3.blk b7 (.cells (([]:List Value).take (0 * 1)++p++b6).toArray 221 (0,0)))->R (S (some ⟨b7,0,none⟩) (0 + a.2.1) a2) a3))))))))))):
 Acts prog 148 #[S g i k,S l m n] V R:=
 fd (LF:=LF0) (RF:=[1000010]) [(5,⟨Int × Int,false,[],[],fun b=>[(5,.c (.v (I U b.1))),(7,.c (.v (I U b.2)))],fun b=>[]⟩),(8,⟨(OA) × Nat × Nat × (OA) × Nat × Nat,true,[],[],fun b=>[(0,.c (.v (S b.1 b.2.1 b.2.2.1))),(1,.c (.v (S b.2.2.2.1 b.2.2.2.2.1 b.2.2.2.2.2)))],fun b=>[]⟩)] [(3,⟨Unit,false,[0,1],[],fun b=>[],fun b=>[]⟩)] func148 h
end Go.Proofs.Tryz
/- Contracts of package math/bits: Sub32, Div32. -/
namespace Go.Proofs.Tryz
open Go.Eng Go.Big
theorem and32 (a b:Nat) (ha:a < 4294967296) (hb:b < 4294967296):bitI .and .u32 (a:Int) (b:Int)=((a &&& b:Nat):Int):=by
 have h2:(BitVec.ofInt IntKind.u32.bits ((a:Nat):Int) &&& BitVec.ofInt IntKind.u32.bits ((b:Nat):Int)).toNat=a &&& b:=by
  show (BitVec.ofInt 32 ((a:Nat):Int) &&& BitVec.ofInt 32 ((b:Nat):Int)).toNat=_
  rw [BitVec.ofInt_natCast,BitVec.ofInt_natCast,BitVec.toNat_and,BitVec.toNat_ofNat,BitVec.toNat_ofNat,Nat.mod_eq_of_lt (by omega),Nat.mod_eq_of_lt (by omega)]
 have h3:a &&& b < 2 ^ 32:=Nat.and_lt_two_pow a (by omega)
 rw [bitI,u32m,h2]
 omega
theorem or32 (a b:Nat) (ha:a < 4294967296) (hb:b < 4294967296):bitI .or .u32 (a:Int) (b:Int)=((a ||| b:Nat):Int):=by
 have h2:(BitVec.ofInt IntKind.u32.bits ((a:Nat):Int) ||| BitVec.ofInt IntKind.u32.bits ((b:Nat):Int)).toNat=a ||| b:=by
  show (BitVec.ofInt 32 ((a:Nat):Int) ||| BitVec.ofInt 32 ((b:Nat):Int)).toNat=_
  rw [BitVec.ofInt_natCast,BitVec.ofInt_natCast,BitVec.toNat_or,BitVec.toNat_ofNat,BitVec.toNat_ofNat,Nat.mod_eq_of_lt (by omega),Nat.mod_eq_of_lt (by omega)]
 have h3:a ||| b < 2 ^ 32:=Nat.or_lt_two_pow (by omega) (by omega)
 rw [bitI,u32m,h2]
 omega
theorem xor32 (a b:Nat) (ha:a < 4294967296) (hb:b < 4294967296):bitI .xor .u32 (a:Int) (b:Int)=((a ^^^ b:Nat):Int):=by
 have h2:(BitVec.ofInt IntKind.u32.bits ((a:Nat):Int) ^^^ BitVec.ofInt IntKind.u32.bits ((b:Nat):Int)).toNat=a ^^^ b:=by
  show (BitVec.ofInt 32 ((a:Nat):Int) ^^^ BitVec.ofInt 32 ((b:Nat):Int)).toNat=_
  rw [BitVec.ofInt_natCast,BitVec.ofInt_natCast,BitVec.toNat_xor,BitVec.toNat_ofNat,BitVec.toNat_ofNat,Nat.mod_eq_of_lt (by omega),Nat.mod_eq_of_lt (by omega)]
 have h3:a ^^^ b < 2 ^ 32:=Nat.xor_lt_two_pow (by omega) (by omega)
 rw [bitI,u32m,h2]
 omega
theorem top32 {n:Nat} (h:n < 4294967296):n / 2147483648=if n.testBit 31 then 1 else 0:=by
 rw [Nat.testBit_eq_decide_div_mod_eq]
 have:(2:Nat) ^ 31=2147483648:=by decide
 rw [this]
 split
 ·rename_i h1; simp at h1; omega
 ·rename_i h1; simp at h1; omega
theorem bot32 {n:Nat} (h:n < 4294967296):n.testBit 31=decide (2147483648<=n):=by
 rw [Nat.testBit_eq_decide_div_mod_eq]
 have:(2:Nat) ^ 31=2147483648:=by decide
 rw [this]
 congr 1
 simp; omega
theorem borrow32 (x y c:Nat) (hx:x < 4294967296) (hy:y < 4294967296) (hc:c<=1) {d:Nat} (hd:(d:Int)=((x:Int) - y - c) % 4294967296) :
  (((4294967295 ^^^ x) &&& y) ||| ((4294967295 ^^^ (x ^^^ y)) &&& d)) / 2147483648=if x < y + c then 1 else 0:=by
 have h1:(4294967295 ^^^ x) < 2 ^ 32:=Nat.xor_lt_two_pow (by omega) (by omega)
 have h2:x ^^^ y < 2 ^ 32:=Nat.xor_lt_two_pow (by omega) (by omega)
 have h3:(4294967295 ^^^ (x ^^^ y)) < 2 ^ 32:=Nat.xor_lt_two_pow (by omega) h2
 have h4:(4294967295 ^^^ x) &&& y < 2 ^ 32:=Nat.and_lt_two_pow _ (by omega)
 have h5:(4294967295 ^^^ (x ^^^ y)) &&& d < 2 ^ 32:=Nat.and_lt_two_pow _ (by omega)
 have h6:=Nat.or_lt_two_pow h4 h5
 rw [top32 h6]
 have hd':d < 4294967296:=by omega
 rw [Nat.testBit_or,Nat.testBit_and,Nat.testBit_and,Nat.testBit_xor,Nat.testBit_xor,Nat.testBit_xor,bot32 hx,bot32 hy,bot32 hd',bot32 (n:=4294967295) (by omega)]
 by_cases a1:2147483648<=x <;> by_cases a2:2147483648<=y <;> by_cases a3:2147483648<=d <;> simp [a1,a2,a3] <;> omega
theorem c_Sub32 {V:View} (x y c:Nat) (hx:x < 4294967296) (hy:y < 4294967296) (hc:c<=1) :
  Acts prog 201 #[.int .u32 (x:Int),.int .u32 (y:Int),.int .u32 (c:Int)] V fun r V'=>∃d b:Nat,r=.tuple #[.int .u32 (d:Int),.int .u32 (b:Int)]/\d < 4294967296/\b<=1/\d + (y + c)=x + 4294967296 * b:=by
 refine vc_math_bits_Sub32 _ _ _ V _ ⟨by omega,fun V1 l1=>?_⟩
 obtain ⟨d,hd⟩:∃d:Nat,(d:Int)=((x:Int) - y - c) % 4294967296:=⟨(((x:Int) - y - c) % 4294967296).toNat,by omega⟩
 have hd':d < 4294967296:=by omega
 have w1:u32.wrap (u32.wrap ((x:Int) - y) - c)=(d:Int):=by rw [u32m,u32m]; omega
 have w2:IntKind.u32.max=((4294967295:Nat):Int):=rfl
 have h1:(4294967295 ^^^ x) < 2 ^ 32:=Nat.xor_lt_two_pow (by omega) (by omega)
 have h2:x ^^^ y < 2 ^ 32:=Nat.xor_lt_two_pow (by omega) (by omega)
 have h3:(4294967295 ^^^ (x ^^^ y)) < 2 ^ 32:=Nat.xor_lt_two_pow (by omega) h2
 have h4:(4294967295 ^^^ x) &&& y < 2 ^ 32:=Nat.and_lt_two_pow _ (by omega)
 have h5:(4294967295 ^^^ (x ^^^ y)) &&& d < 2 ^ 32:=Nat.and_lt_two_pow _ (by omega)
 rw [w1,w2,xor32 _ _ (by omega) hx,and32 _ _ h1 hy,xor32 _ _ hx hy,xor32 _ _ (by omega) h2,and32 _ _ h3 hd',or32 _ _ h4 h5,fdiv_nat]
 have e:(2:Nat) ^ 31=2147483648:=by decide
 rw [e,borrow32 x y c hx hy hc hd]
 refine ⟨d,_,rfl,hd',?_,?_⟩
 ·split <;> omega
 ·split <;> omega
theorem c_Div32 {V:View} (hi lo y:Nat) (hh:hi < y) (hl:lo < 4294967296) (hy:y < 4294967296) :
  Acts prog 203 #[.int .u32 (hi:Int),.int .u32 (lo:Int),.int .u32 (y:Int)] V fun r V'=>r=.tuple #[.int .u32 (((hi * 4294967296 + lo) / y:Nat):Int),.int .u32 (((hi * 4294967296 + lo) % y:Nat):Int)]:=by
 have key:∀V1:View,Value.tuple #[.int .u32 (u32.wrap (u64.wrap ((bitI .or .u64 (u64.wrap ((u64.wrap (hi:Int)) * 2 ^ 32)) (u64.wrap (lo:Int))).tdiv (u64.wrap (y:Int))))),.int .u32 (u32.wrap ((bitI .or .u64 (u64.wrap ((u64.wrap (hi:Int)) * 2 ^ 32)) (u64.wrap (lo:Int))).tmod (u64.wrap (y:Int))))]=.tuple #[.int .u32 (((hi * 4294967296 + lo) / y:Nat):Int),.int .u32 (((hi * 4294967296 + lo) % y:Nat):Int)]:=by
  intro _
  have e3:((2:Int) ^ 32)=4294967296:=by decide
  have e1:u64.wrap (hi:Int)=hi:=u64w (by omega)
  have e2:u64.wrap (lo:Int)=lo:=u64w (by omega)
  have e4:u64.wrap (y:Int)=y:=u64w (by omega)
  have e5:u64.wrap ((hi:Int) * 4294967296)=(hi:Int) * 4294967296:=u64w (by omega)
  rw [e1,e3,e5,e2,e4,or64 _ _ (by omega) hl]
  have e6:(hi:Int) * 4294967296 + lo=((hi * 4294967296 + lo:Nat):Int):=by omega
  rw [e6,← Int.ofNat_tdiv,← Int.ofNat_tmod]
  have hq:(hi * 4294967296 + lo) / y < 4294967296:=by
   rw [Nat.div_lt_iff_lt_mul (by omega)]
   have:(hi + 1) * 4294967296<=y * 4294967296:=Nat.mul_le_mul_right _ hh
   omega
  have hr:(hi * 4294967296 + lo) % y < y:=Nat.mod_lt _ (by omega)
  generalize (hi * 4294967296 + lo) / y=q at *
  generalize (hi * 4294967296 + lo) % y=r at *
  have e7:u64.wrap (q:Int)=q:=u64w (by omega)
  have e8:u32.wrap (q:Int)=q:=u32w (by omega)
  have e9:u32.wrap (r:Int)=r:=u32w (by omega)
  rw [e7,e8,e9]
 have e4:u64.wrap (y:Int)=y:=u64w (by omega)
 refine vc_math_bits_Div32 _ _ _ V _ ⟨fun _=>⟨fun h=>?_,fun _=>⟨by omega,by rw [e4]; omega,by rw [e4]; omega,fun V1 l1=>key V1⟩⟩,fun _=>⟨by omega,by rw [e4]; omega,by rw [e4]; omega,fun V1 l1=>key V1⟩⟩
 simp at h; omega
end Go.Proofs.Tryz
/- Contracts of the reference's numbers: Trim, Word, One, sign, Cmp, Sum, Less. -/
namespace Go.Proofs.Tryz
open Go.Eng Go.Big
theorem c_num_Trim {V:View} {p:OA} {n c:Nat} {ds:List Nat} (h:RD V p n c ds) (hm:ds.length<=4611686018427387904) :
  Acts prog 151 #[.slice p n c] V fun r V'=>∃k,r=.slice p k c/\RD V' p k c (trimD ds):=by
 have hl:=h.len
 have hcp:=h.cap
 refine vc_num_Trim p n c V _ ?_
 refine ⟨fun z V'=>0<=z/\z<=n/\trimD (ds.take z.toNat)=trimD ds,fun z=>z.toNat,⟨n,by (try dsimp only); and_intros <;> first | exact True.intro | rfl,by (try dsimp only); omega,by (try dsimp only); omega,?_⟩,?_⟩
 ·simp [hl]
 ·rintro k V1 l1 ⟨hk0,hk,ht⟩
  obtain ⟨k,rfl⟩:=Int.eq_ofNat_of_zero_le hk0
  dsimp only at hk ht ⊢
  simp only [Int.toNat_natCast] at ht
  refine ⟨rfl,fun h0=>?_,fun h0=>?_⟩
  ·have h0:0 < k:=by simpa using h0
   have w:i64.wrap ((k:Int) - 1)=((k - 1:Nat):Int):=by rw [i64w (by omega)]; omega
   simp only [w]
   have hs:ds.take k=ds.take (k - 1)++[ds[k - 1]]:=by rw [← List.take_succ_eq_append_getElem (by omega),Nat.sub_add_cancel h0]
   refine (h.le l1).rd (k - 1) rfl (by omega) ⟨fun hz=>?_,fun hz=>?_⟩
   ·have hz:ds[k - 1]=0:=by simpa using hz
    refine ⟨_,?_,by (try dsimp only); and_intros <;> first | exact True.intro | rfl,?_,?_,?_⟩
    ·(try dsimp only); omega
    ·(try dsimp only); omega
    ·(try dsimp only); omega
    ·(try dsimp only)
     rw [← ht,hs,hz,trimD_snoc_zero]; rfl
   ·have hz:ds[k - 1]≠0:=by simpa using hz
    refine ⟨⟨by omega,by omega⟩,fun V2 l2=>⟨k,rfl,?_⟩⟩
    rw [← ht,hs,trimD_snoc _ _ hz,← hs]
    exact ((h.le l1).le l2).take (by omega)
  ·have h0:k=0:=by simpa using h0
   subst h0
   refine ⟨⟨by omega,by omega⟩,fun V2 l2=>⟨0,rfl,?_⟩⟩
   rw [← ht]
   exact ((h.le l1).le l2).take (by omega)
theorem c_num_Word {V:View} (u:Nat) (h1:u < 18446744073709551616) :
  Acts prog 92 #[.int .u64 (u:Int)] V fun r V'=>∃q k c',r=.slice q k c'/\RN V' q k c' u:=by
 refine vc_num_Word _ V _ ⟨by omega,fun V1 l1 bk hb=>?_⟩
 rw [shr32,u32m,u32w (by omega)] at hb
 have hb:V1.blk bk (.cells (u32s [u % 4294967296,u / 4294967296]).toArray 221 (0,0)):=by
  simpa [u32s] using hb
 have hd:Dig [u % 4294967296,u / 4294967296]:=by simp [Dig]; omega
 refine (c_num_Trim (RD.blk hb hd (n:=2) (c:=2) rfl (Nat.le_refl _)) (by simp)).mono ?_
 rintro r V2 l2 ⟨k,rfl,h2⟩
 refine ⟨_,_,_,rfl,fun _ V3 l3=>⟨_,_,_,rfl,?_⟩⟩
 rw [trimD_eq hd] at h2
 have:val [u % 4294967296,u / 4294967296]=u:=by simp; omega
 rw [this] at h2
 exact h2.le l3
theorem c_num_One {V:View} :
  Acts prog 149 #[] V fun r V'=>∃q k c',r=.slice q k c'/\RN V' q k c' 1:=by
 refine vc_num_One V _ fun V1 l1 bk hb=>⟨_,_,_,rfl,?_⟩
 have hd:digs 1=[1]:=digs_lt (by omega) (by omega)
 unfold RN
 rw [hd]
 have hb:V1.blk bk (.cells (u32s [1]).toArray 221 (0,0)):=by
  simpa [u32s] using hb
 exact RD.blk hb (by simp [Dig]) rfl (Nat.le_refl _)
def sgnI (x:Int):Int:=if 0 < x then 1 else if x < 0 then -1 else 0
theorem c_num_sign {V:View} (x:Int) :
  Acts prog 200 #[.int .i64 x] V fun r V'=>r=.int .i64 (sgnI x):=by
 refine vc_num_sign x V _ ⟨fun h V1 l1=>?_,fun h=>⟨fun h2 V1 l1=>?_,fun h2 V1 l1=>?_⟩⟩
 ·have h:0 < x:=by simpa using h
  rw [sgnI,if_pos h]
 ·have h:x < 0:=by simpa using h2
  rw [sgnI,if_neg (by omega),if_pos h]
 ·have h:¬ 0 < x:=by simpa using h
  have h2:¬ x < 0:=by simpa using h2
  rw [sgnI,if_neg h,if_neg h2]
theorem c_num_Cmp {V:View} {p q:OA} {n c m e:Nat} {x y:Nat} (ha:RN V p n c x) (hb:RN V q m e y) (hm:(digs x).length<=1099511627776) (hn:(digs y).length<=1099511627776) :
  Acts prog 146 #[.slice p n c,.slice q m e] V fun r V'=>r=.int .i64 (cmpN x y):=by
 have hl1:=ha.len
 have hl2:=hb.len
 refine vc_num_Cmp p n c q m e V _ ⟨fun h0 V1 l1=>?_,fun h0=>?_⟩
 ·have w:i64.wrap ((n:Int) - m)=(n:Int) - m:=i64w (by omega)
  simp only [w]
  refine (c_num_sign _).mono ?_
  rintro r V2 l2 rfl
  refine ⟨_,rfl,fun V3 l3=>?_⟩
  have h0:n≠m:=by simp at h0; omega
  congr 1
  rcases Nat.lt_or_ge n m with h | h
  ·have:=lt_of_len (a:=x) (b:=y) (by omega)
   rw [cmpN,if_pos this,sgnI,if_neg (by omega),if_pos (by omega)]
  ·have:=lt_of_len (a:=y) (b:=x) (by omega)
   rw [cmpN,if_neg (by omega),if_pos this,sgnI,if_pos (by omega)]
 ·have h0:n=m:=by simp at h0; omega
  subst h0
  have w:i64.wrap ((n:Int) - 1)=(n:Int) - 1:=i64w (by omega)
  simp only [w]
  refine ⟨fun z V'=>-1<=z/\z < n/\(digs x).drop (z + 1).toNat=(digs y).drop (z + 1).toNat,fun z=>(z + 1).toNat,⟨_,by (try dsimp only); and_intros <;> first | exact True.intro | rfl,by (try dsimp only); omega,by (try dsimp only); omega,?_⟩,?_⟩
  ·(try dsimp only)
   rw [List.drop_of_length_le (by omega),List.drop_of_length_le (by omega)]
  ·rintro i V7 l7 ⟨hi0,hi1,hd⟩
   dsimp only at hi0 hi1 hd ⊢
   refine ⟨by trivial,fun h3=>?_,fun h3 V5 l5=>?_⟩
   ·have h3:0<=i:=by simpa using h3
    obtain ⟨i,rfl⟩:=Int.eq_ofNat_of_zero_le h3
    have w:i64.wrap ((i:Int) - 1)=(i:Int) - 1:=i64w (by omega)
    simp only [w]
    have hd':(digs x).drop (i + 1)=(digs y).drop (i + 1):=hd
    refine (ha.le l7).rd i rfl (by omega) ((hb.le l7).rd i rfl (by omega) ⟨fun h4 V8 l8=>?_,fun h4=>?_⟩)
    ·have:=lt_of_digit (dig_digs y) (by omega) (by omega) hd'.symm (by simpa using h4)
     rw [val_digs,val_digs] at this
     rw [cmpN,if_neg (by omega),if_pos this]
    ·refine (ha.le l7).rd i rfl (by omega) ((hb.le l7).rd i rfl (by omega) ⟨fun h5 V8 l8=>?_,fun h5=>?_⟩)
     ·have:=lt_of_digit (dig_digs x) (by omega) (by omega) hd' (by simpa using h5)
      rw [val_digs,val_digs] at this
      rw [cmpN,if_pos this]
     ·refine ⟨_,?_,by (try dsimp only); and_intros <;> first | exact True.intro | rfl,?_,?_,?_⟩
      ·(try dsimp only); omega
      ·(try dsimp only); omega
      ·(try dsimp only); omega
      ·(try dsimp only)
       have:((i:Int) - 1 + 1).toNat=i:=by omega
       rw [this,List.drop_eq_getElem_cons (by omega),List.drop_eq_getElem_cons (l:=digs y) (by omega),hd']
       congr 1
       simp at h4 h5
       omega
   ·have h3:i=-1:=by simp at h3; omega
    subst h3
    have:digs x=digs y:=by simpa using hd
    have:=digs_inj this
    subst this
    simp [cmpN]
theorem maxI_nat (a b:Nat):maxI (a:Int) (b:Int)=((max a b:Nat):Int):=by
 unfold maxI
 split <;> omega
theorem c_num_Sum {V:View} {p q:OA} {n c m e:Nat} {xs ys:List Nat} (hx:RD V p n c xs) (hy:RD V q m e ys) (hm:xs.length<=1099511627776) (hn:ys.length<=1099511627776) :
  Acts prog 145 #[.slice p n c,.slice q m e] V fun r V'=>∃p' n' c',r=.slice p' n' c'/\RN V' p' n' c' (val xs + val ys):=by
 have hlx:=hx.len
 have hly:=hy.len
 have vc:=vc_num_Sum p n c q m e V
 have w:i64.wrap (((max n m:Nat):Int) + 1)=((max n m + 1:Nat):Int):=by rw [i64w (by omega)]; omega
 simp only [maxI_nat,w,Int.toNat_natCast] at vc
 obtain ⟨k,hk⟩:∃k,k=max n m:=⟨_,rfl⟩
 rw [← hk] at vc
 refine vc _ ⟨by omega,by omega,by omega,fun z V'=>0<=z.1/\z.1<=1/\0<=z.2.1/\z.2.1<=k/\∃es:List Nat,z.2.2=u32s es/\es.length=k + 1/\Dig es /\
   val (es.take z.2.1.toNat) + 4294967296 ^ z.2.1.toNat * z.1.toNat=val (xs.take z.2.1.toNat) + val (ys.take z.2.1.toNat),fun z=>k - z.2.1.toNat,⟨(0,0,u32s (List.replicate (k + 1) 0)),by (try dsimp only); and_intros <;> first | exact True.intro | rfl | exact u32s_rep _,by (try dsimp only); omega,by (try dsimp only); omega,by (try dsimp only); omega,by (try dsimp only); omega,_,rfl,by simp,Dig.rep _,by simp⟩,?_⟩
 rintro ⟨cy,i,vs⟩ V2 l2 ⟨hc0,hc1,hi0,hi1,es,rfl,hes,hde,hv⟩
 dsimp only at hc0 hc1 hi0 hi1 hv ⊢
 obtain ⟨i,rfl⟩:=Int.eq_ofNat_of_zero_le hi0
 obtain ⟨cy,rfl⟩:=Int.eq_ofNat_of_zero_le hc0
 simp only [Int.toNat_natCast] at hv
 refine ⟨by trivial,fun h3=>?_,fun h3=>?_⟩
 ·have h3:i < k:=by simpa using h3
  refine ⟨fun z V'=>∃x:Nat,z=x/\x < 4294967296/\val (xs.take (i + 1))=val (xs.take i) + 4294967296 ^ i * x,⟨fun h4=>?_,fun h4=>?_⟩,?_⟩
  ·have h4:i < n:=by simpa using h4
   refine (hx.le l2).rd i rfl (by omega) ?_
   exact ⟨_,by (try dsimp only); and_intros <;> first | exact True.intro | rfl,xs[i],rfl,hx.dig.get (by omega),val_take_succ _ _ (by omega)⟩
  ·have h4:n<=i:=by simpa using h4
   exact ⟨_,by (try dsimp only); and_intros <;> first | exact True.intro | rfl,0,rfl,by omega,by rw [val_take_of_le (by omega),val_take_of_le (by omega)]; simp⟩
  rintro _ V3 l3 ⟨x,rfl,hx1,hx2⟩
  refine ⟨by trivial,fun z V'=>∃y:Nat,z=y/\y < 4294967296/\val (ys.take (i + 1))=val (ys.take i) + 4294967296 ^ i * y,⟨fun h4=>?_,fun h4=>?_⟩,?_⟩
  ·have h4:i < m:=by simpa using h4
   refine ((hy.le l2).le l3).rd i rfl (by omega) ?_
   exact ⟨_,by (try dsimp only); and_intros <;> first | exact True.intro | rfl,ys[i],rfl,hy.dig.get (by omega),val_take_succ _ _ (by omega)⟩
  ·have h4:m<=i:=by simpa using h4
   exact ⟨_,by (try dsimp only); and_intros <;> first | exact True.intro | rfl,0,rfl,by omega,by rw [val_take_of_le (by omega),val_take_of_le (by omega)]; simp⟩
  rintro _ V4 l4 ⟨y,rfl,hy1,hy2⟩
  refine ⟨by trivial,fun V5 l5=>(c_Add32 x y cy hx1 hy1 (by omega)).mono ?_⟩
  rintro r V6 l6 rfl
  have w:i64.wrap ((i:Int) + 1)=((i + 1:Nat):Int):=by rw [i64w (by omega)]; omega
  simp only [w,Int.toNat_natCast]
  refine ⟨_,_,rfl,⟨by omega,by omega⟩,by simp; omega,(((x + y + cy) / 4294967296:Nat),((i + 1:Nat):Int),u32s (es.set i ((x + y + cy) % 4294967296))),?_,by (try dsimp only); and_intros <;> first | exact True.intro | rfl | (rw [← u32s_set]; simp),?_⟩
  ·(try dsimp only); omega
  ·(try dsimp only)
   refine ⟨by omega,by omega,by omega,by omega,_,rfl,by simpa using hes,hde.set _ _ (by omega),?_⟩
   simp only [Int.toNat_natCast]
   rw [val_take_set _ _ _ (by omega),Nat.pow_succ,hx2,hy2]
   exact add_step hv (by omega)
 ·have h3:i=k:=by simp at h3; omega
  subst h3
  refine ⟨⟨by omega,by omega⟩,by simp; omega,fun V3 l3 bk hb=>?_⟩
  have e1:(u32s es).set (0 + ((i:Int).toNat) * 1) (.int .u32 (cy:Int))=u32s (es.set i cy):=by rw [← u32s_set]; simp
  simp only [Int.toNat_natCast] at e1
  try simp only [Int.toNat_natCast] at hb
  rw [e1] at hb
  have hd2:=hde.set i cy (by omega)
  refine (c_num_Trim (RD.blk hb hd2 (n:=i + 1) (c:=i + 1) (by simp; omega) (Nat.le_refl _)) (by simp; omega)).mono ?_
  rintro r V4 l4 ⟨k,rfl,h4⟩
  refine ⟨_,_,_,rfl,fun _ V5 l5=>⟨_,_,_,rfl,?_⟩⟩
  rw [trimD_eq hd2] at h4
  have e2:val (es.set i cy)=val xs + val ys:=by
   have:=val_take_set es i cy (by omega)
   rw [val_take_of_le (by simp; omega)] at this
   rw [this,hv,val_take_of_le (by omega),val_take_of_le (by omega)]
  rw [e2] at h4
  exact h4.le l5
theorem sub32_step {E A B c x y W d b:Nat} (h:E + B=A + W * c) (hv:d + (y + c)=x + 4294967296 * b) :
  E + W * d + (B + W * y)=A + W * x + W * 4294967296 * b:=by
 have:=congrArg (W * ·) hv
 simp only [Nat.mul_add,← Nat.mul_assoc] at this
 omega
theorem c_num_Less {V:View} {p q:OA} {n c m e:Nat} {xs ys:List Nat} (hx:RD V p n c xs) (hy:RD V q m e ys) (hm:xs.length<=1099511627776) (hl:ys.length<=xs.length) (hle:val ys<=val xs) :
  Acts prog 147 #[.slice p n c,.slice q m e] V fun r V'=>∃p' n' c',r=.slice p' n' c'/\RN V' p' n' c' (val xs - val ys):=by
 have hlx:=hx.len
 have hly:=hy.len
 refine vc_num_Less p n c q m e V _ ⟨by omega,by omega,by omega,fun z V'=>0<=z.1/\z.1<=1/\0<=z.2.1/\z.2.1<=n/\∃es:List Nat,z.2.2=u32s es/\es.length=n/\Dig es /\
   val (es.take z.2.1.toNat) + val (ys.take z.2.1.toNat)=val (xs.take z.2.1.toNat) + 4294967296 ^ z.2.1.toNat * z.1.toNat,fun z=>n - z.2.1.toNat,
   ⟨(0,0,List.replicate n (.int .u32 0)),by (try dsimp only); and_intros <;> first | exact True.intro | rfl,by (try dsimp only); omega,by (try dsimp only); omega,by (try dsimp only); omega,by (try dsimp only); omega,List.replicate n 0,u32s_rep n,by simp,Dig.rep _,by simp⟩,?_⟩
 rintro ⟨cy,i,vs⟩ V2 l2 ⟨hc0,hc1,hi0,hi1,es,rfl,hes,hde,hv⟩
 dsimp only at hc0 hc1 hi0 hi1 hv ⊢
 obtain ⟨i,rfl⟩:=Int.eq_ofNat_of_zero_le hi0
 obtain ⟨cy,rfl⟩:=Int.eq_ofNat_of_zero_le hc0
 simp only [Int.toNat_natCast] at hv
 refine ⟨by trivial,fun h3=>?_,fun h3=>?_⟩
 ·have h3:i < n:=by simpa using h3
  refine ⟨fun z V'=>∃y:Nat,z=y/\y < 4294967296/\val (ys.take (i + 1))=val (ys.take i) + 4294967296 ^ i * y,⟨fun h4=>?_,fun h4=>?_⟩,?_⟩
  ·have h4:i < m:=by simpa using h4
   refine (hy.le l2).rd i rfl (by omega) ?_
   exact ⟨_,by (try dsimp only); and_intros <;> first | exact True.intro | rfl,ys[i],rfl,hy.dig.get (by omega),val_take_succ _ _ (by omega)⟩
  ·have h4:m<=i:=by simpa using h4
   exact ⟨_,by (try dsimp only); and_intros <;> first | exact True.intro | rfl,0,rfl,by omega,by rw [val_take_of_le (by omega),val_take_of_le (by omega)]; simp⟩
  rintro _ V3 l3 ⟨y,rfl,hy1,hy2⟩
  refine ⟨by trivial,?_⟩
  refine ((hx.le l2).le l3).rd i rfl (by omega) fun V4 l4=>(c_Sub32 _ y cy (hx.dig.get (by omega)) hy1 (by omega)).mono ?_
  rintro r V5 l5 ⟨d,b,rfl,hd,hb,hdb⟩
  have w:i64.wrap ((i:Int) + 1)=((i + 1:Nat):Int):=by rw [i64w (by omega)]; omega
  simp only [w,Int.toNat_natCast]
  refine ⟨_,_,rfl,⟨by omega,by omega⟩,by simp; omega,((b:Int),((i + 1:Nat):Int),u32s (es.set i d)),?_,by (try dsimp only); and_intros <;> first | exact True.intro | rfl | (rw [← u32s_set]; simp),?_⟩
  ·(try dsimp only); omega
  ·(try dsimp only)
   refine ⟨by omega,by omega,by omega,by omega,_,rfl,by simpa using hes,hde.set _ _ (by omega),?_⟩
   simp only [Int.toNat_natCast]
   rw [val_take_set _ _ _ (by omega),Nat.pow_succ,val_take_succ xs i (by omega),hy2]
   exact sub32_step hv hdb
 ·have h3:i=n:=by simp at h3; omega
  subst h3
  simp only [Int.toNat_natCast]
  intro V3 l3 bk hb
  refine (c_num_Trim (RD.blk hb hde (n:=i) (c:=i) hes.symm (Nat.le_refl _)) (by omega)).mono ?_
  rintro r V4 l4 ⟨k,rfl,h4⟩
  refine ⟨_,_,_,rfl,fun _ V5 l5=>⟨_,_,_,rfl,?_⟩⟩
  rw [trimD_eq hde] at h4
  rw [val_take_of_le (by omega),val_take_of_le (by omega),val_take_of_le (by omega)] at hv
  have e1:=val_lt hde
  rw [hes] at e1
  have e2:cy=0:=by
   rcases Nat.eq_zero_or_pos cy with h | h
   ·exact h
   ·have:4294967296 ^ i * 1<=4294967296 ^ i * cy:=Nat.mul_le_mul_left _ h
    omega
  subst e2
  rw [show val es=val xs - val ys from by omega] at h4
  exact h4.le l5
end Go.Proofs.Tryz
