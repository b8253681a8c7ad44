/- A part of the proof (joined by program from: PtB, TreeP, LineA, VScene, SceneA, LineP, LineQ, SceneB, VSceneF, SceneD, VFrag, RefG). -/
import Derived.Test.YtalijajeenhebaaGreatDoorM13
import Derived.Test.YtalijajeenhebaaGreatDoorM14
import Derived.Test.YtalijajeenhebaaGreatDoorM12
import Derived.Test.YtalijajeenhebaaGreatDoorM5
import Derived.Test.YtalijajeenhebaaGreatDoorM10
set_option linter.unusedVariables false
open Go.IntKind (i64 u64 u32)
/- Contracts: points of package api, read, written and compared. -/
namespace Go.Proofs.Tryz
open Go.Eng Go.Big
theorem RA.shape {V:View} {v:Value} {q:Rat} (h:RA V v q):∃b p n c p' n' c',v=.agg #[.bool b,.slice p n c,.slice p' n' c']:=by
 obtain ⟨p,n,c,p',n',c',e,-⟩:=h; exact ⟨_,_,_,_,_,_,_,e⟩
/-- A point of package api in normal form. -/
def RAP (V:View) (v:Value) (x y:Rat):Prop:=∃b p n c p' n' c' d q m e q' m' e',v=.agg #[.bool b,.slice p n c,.slice p' n' c',.bool d,.slice q m e,.slice q' m' e'] /\
 RA V (.agg #[.bool b,.slice p n c,.slice p' n' c']) x/\RA V (.agg #[.bool d,.slice q m e,.slice q' m' e']) y
theorem RAP.le {V V':View} {v:Value} {x y:Rat} (h:RAP V v x y) (l:V.Le V'):RAP V' v x y:=by
 obtain ⟨b,p,n,c,p',n',c',d,q,m,e,q',m',e',rfl,h1,h2⟩:=h
 exact ⟨_,_,_,_,_,_,_,_,_,_,_,_,_,_,rfl,h1.le l,h2.le l⟩
theorem c_geo_PtOf {V:View} {v:Value} {x y:Rat} (h:RAP V v x y) {k:Nat} (s1:Sz k x) (s2:Sz k y) (hk:k<=1099511627776) :
  Acts prog 48 #[v] V fun r V'=>RPt V' r x y:=by
 obtain ⟨b,p,n,c,p',n',c',d,q,m,e,q',m',e',rfl,h1,h2⟩:=h
 refine vc_geo_PtOf b p n c p' n' c' d q m e q' m' e' V _ fun V1 l1=>(c_frac_Of (h1.le l1) s1 hk).mono ?_
 rintro r V2 l2 g1
 have g10:=g1
 obtain ⟨u,v,w,rfl⟩:=g1.shape
 refine ⟨_,_,_,rfl,fun V3 l3=>(c_frac_Of (h2.le (l1.trans (l2.trans l3))) s2 hk).mono ?_⟩
 rintro r V4 l4 g2
 have g20:=g2
 obtain ⟨u,v,w,rfl⟩:=g2.shape
 exact ⟨_,_,_,rfl,fun V5 l5=>⟨_,_,_,_,_,_,rfl,g10.le (l3.trans (l4.trans l5)),g20.le l5⟩⟩
theorem c_geo_Pt_API {V:View} {v:Value} {x y:Rat} (h:RPt V v x y) {k:Nat} (s1:Sz k x) (s2:Sz k y) (hk:k<=1099511627776) :
  Acts prog 83 #[v] V fun r V'=>RAP V' r x y:=by
 obtain ⟨p0,p1,p2,p3,p4,p5,rfl,h1,h2⟩:=h
 refine vc_geo_Pt_API p0 p1 p2 p3 p4 p5 V _ fun V1 l1=>(c_R_API (h1.le l1) s1 hk).mono ?_
 rintro r V2 l2 g1
 have g10:=g1
 obtain ⟨_,_,_,_,_,_,_,rfl⟩:=g1.shape
 refine ⟨_,_,_,_,_,_,_,rfl,fun V3 l3=>(c_R_API (h2.le (l1.trans (l2.trans l3))) s2 hk).mono ?_⟩
 rintro r V4 l4 g2
 have g20:=g2
 obtain ⟨_,_,_,_,_,_,_,rfl⟩:=g2.shape
 exact ⟨_,_,_,_,_,_,_,rfl,fun V5 l5=>⟨_,_,_,_,_,_,_,_,_,_,_,_,_,_,rfl,g10.le (l3.trans (l4.trans l5)),g20.le l5⟩⟩
theorem c_geo_Pt_Equal {V:View} {v w:Value} {x y x' y':Rat} (h:RPt V v x y) (h':RPt V w x' y') {k:Nat} (s1:Sz k x) (s2:Sz k y) (s3:Sz k x') (s4:Sz k y') (hk:2 * k < 1099511627776) :
  Acts prog 128 #[v,w] V fun r V'=>r=.bool (decide (x=x'/\y=y')):=by
 obtain ⟨p0,p1,p2,p3,p4,p5,rfl,h1,h2⟩:=h
 obtain ⟨q0,q1,q2,q3,q4,q5,rfl,h3,h4⟩:=h'
 refine vc_geo_Pt_Equal p0 p1 p2 p3 p4 p5 q0 q1 q2 q3 q4 q5 V _ fun V1 l1=>(c_R_Equal (h1.le l1) (h3.le l1) s1 s3 (by omega)).mono ?_
 rintro r V2 l2 rfl
 refine ⟨_,rfl,fun g V3 l3=>(c_R_Equal (h2.le (l1.trans (l2.trans l3))) (h4.le (l1.trans (l2.trans l3))) s2 s4 (by omega)).mono ?_,fun g V6 l6=>?_⟩
 ·have g:=of_decide_eq_true g
  rintro r V4 l4 rfl
  exact ⟨_,rfl,fun V5 l5=>by simp [g]⟩
 ·have g:=of_decide_eq_false g
  simp [g]
theorem c_ref01_ToQ {V:View} {v:Value} {q:Rat} (h:RQ V v q) {k:Nat} (s:Sz k q) (hk:k<=1099511627776):Acts prog 50 #[v] V fun r V'=>RA V' r q:=by
 obtain ⟨p,n,c,p',n',c',rfl,h1,h2⟩:=h
 have q1:=digs_len_bits s.1
 have q2:=digs_len_bits s.2
 refine vc_ref01_ToQ _ p n c p' n' c' V _ fun V1 l1=>(c_ref01_ToI ⟨_,_,_,rfl,h1.le l1⟩ (by omega)).mono ?_
 rintro r V2 l2 ⟨p1,n1,c1,rfl,g1⟩
 refine ⟨_,_,_,_,rfl,fun V3 l3=>(c_num_Den q _ (h2.le (l1.trans (l2.trans l3)))).mono ?_⟩
 rintro r V4 l4 ⟨p2,n2,c2,rfl,g2⟩
 refine ⟨_,_,_,rfl,fun V5 l5=>(c_ref01_ToN (g2.le l5) (by omega)).mono ?_⟩
 rintro r V6 l6 ⟨p3,n3,c3,rfl,g3⟩
 exact ⟨_,_,_,rfl,fun V7 l7=>⟨_,_,_,_,_,_,rfl,g1.le (l3.trans (l4.trans (l5.trans (l6.trans l7)))),g3.le l7⟩⟩
theorem c_ref04_ToP {V:View} {v:Value} {x y:Rat} (h:RP V v x y) {k:Nat} (s1:Sz k x) (s2:Sz k y) (hk:k<=1099511627776):Acts prog 10 #[v] V fun r V'=>RAP V' r x y:=by
 obtain ⟨p1,n1,c1,p2,n2,c2,p3,n3,c3,p4,n4,c4,rfl,h1,h2⟩:=h
 refine vc_ref04_ToP _ p1 n1 c1 p2 n2 c2 _ p3 n3 c3 p4 n4 c4 V _ fun V1 l1=>(c_ref01_ToQ (h1.le l1) s1 hk).mono ?_
 rintro r V2 l2 g1
 have g10:=g1
 obtain ⟨_,_,_,_,_,_,_,rfl⟩:=g1.shape
 refine ⟨_,_,_,_,_,_,_,rfl,fun V3 l3=>(c_ref01_ToQ (h2.le (l1.trans (l2.trans l3))) s2 hk).mono ?_⟩
 rintro r V4 l4 g2
 have g20:=g2
 obtain ⟨_,_,_,_,_,_,_,rfl⟩:=g2.shape
 exact ⟨_,_,_,_,_,_,_,rfl,fun V5 l5=>⟨_,_,_,_,_,_,_,_,_,_,_,_,_,_,rfl,g10.le (l3.trans (l4.trans l5)),g20.le l5⟩⟩
theorem c_ref01_SameQ {V:View} {v w:Value} {x y:Rat} (hx:RA V v x) (hy:RA V w y) {k:Nat} (s:Sz k x) (hk:k<=1099511627776) :
  Acts prog 63 #[v,w] V fun r V'=>r=.bool (decide (x=y)):=by
 obtain ⟨p,n,c,p',n',c',rfl,h1,h2⟩:=hx
 obtain ⟨q,m,e,q',m',e',rfl,h3,h4⟩:=hy
 have q1:=digs_len_bits s.1
 have q2:=digs_len_bits s.2
 refine vc_ref01_SameQ _ p n c p' n' c' _ q m e q' m' e' V _ fun V1 l1=>(c_ref01_SameI (h1.le l1) (h3.le l1) (by omega)).mono ?_
 rintro r V2 l2 rfl
 refine ⟨_,rfl,fun g V3 l3=>(c_ref01_SameN (h2.le (l1.trans (l2.trans l3))) (h4.le (l1.trans (l2.trans l3))) (by omega)).mono ?_,fun g V6 l6=>?_⟩
 ·have g:=of_decide_eq_true g
  rintro r V4 l4 rfl
  refine ⟨_,rfl,fun V5 l5=>?_⟩
  have e:digs x.den=digs y.den↔x=y:=⟨fun h=>Rat.ext g (by have:=congrArg val h; rwa [val_digs,val_digs] at this),fun h=>by rw [h]⟩
  rw [show decide (digs x.den=digs y.den)=decide (x=y) from by rw [decide_eq_decide]; exact e]
 ·have g:=of_decide_eq_false g
  rw [decide_eq_false (fun h=>g (by rw [h]))]
theorem c_ref04_SameP {V:View} {v w:Value} {x y x' y':Rat} (h:RAP V v x y) (h':RAP V w x' y') {k:Nat} (s1:Sz k x) (s2:Sz k y) (hk:k<=1099511627776) :
  Acts prog 18 #[v,w] V fun r V'=>r=.bool (decide (x=x'/\y=y')):=by
 obtain ⟨b,p,n,c,p',n',c',d,q,m,e,q',m',e',rfl,h1,h2⟩:=h
 obtain ⟨b1,p1,n1,c1,p1',n1',c1',d1,q1,m1,e1,q1',m1',e1',rfl,h3,h4⟩:=h'
 refine vc_ref04_SameP b p n c p' n' c' d q m e q' m' e' b1 p1 n1 c1 p1' n1' c1' d1 q1 m1 e1 q1' m1' e1' V _ fun V1 l1=>(c_ref01_SameQ (h1.le l1) (h3.le l1) s1 hk).mono ?_
 rintro r V2 l2 rfl
 refine ⟨_,rfl,fun g V3 l3=>(c_ref01_SameQ (h2.le (l1.trans (l2.trans l3))) (h4.le (l1.trans (l2.trans l3))) s2 hk).mono ?_,fun g V6 l6=>?_⟩
 ·have g:=of_decide_eq_true g
  rintro r V4 l4 rfl
  exact ⟨_,rfl,fun V5 l5=>by simp [g]⟩
 ·have g:=of_decide_eq_false g
  simp [g]
end Go.Proofs.Tryz
/- Trees and their lists of nodes: plain laws, no program in sight. -/
namespace Go.Proofs.Tryz
open Go.Eng Go.Big
/-- A line: its integer coefficients. -/
abbrev L3:=Int × Int × Int
def okL (x:L3):Bool:=decide (¬ (x.1=0/\x.2.1=0)) && decide (gcd3 x.1 x.2.1 x.2.2=1)
def Bd (x:L3):Prop:=x.1.natAbs < 2 ^ 1000/\x.2.1.natAbs < 2 ^ 1000/\x.2.2.natAbs < 2 ^ 1000
inductive Tr where
 | leaf (i:Bool) | node (l:L3) (a b:Tr)
 deriving DecidableEq
structure Nd where
 ln:L3
 left:Int
 right:Int
 deriving DecidableEq
def Tr.size:Tr->Nat
 | .leaf _=>0
 | .node _ a b=>a.size + b.size + 1
def Tr.All (p:L3->Prop):Tr->Prop
 | .leaf _=>True
 | .node l a b=>p l/\a.All p/\b.All p
theorem Tr.All.imp {p q:L3->Prop} (h:∀x,p x->q x):∀{t:Tr},t.All p->t.All q
 | .leaf _,_=>trivial
 | .node _ _ _,⟨h1,h2,h3⟩=>⟨h _ h1,Tr.All.imp h h2,Tr.All.imp h h3⟩
/-! reading a list of nodes -/
structure RS where
 seen:List Bool
 cnt:Nat
 bad:Bool
/-! the nodes in another order -/
def mvN (n by_ i:Nat):Nat:=n - 1 - (i + by_) % n
def mv (n by_:Nat) (i:Int):Int:=if i < 0 then i else (mvN n by_ i.toNat:Int)
end Go.Proofs.Tryz
/- Lines in normal form, in memory. -/
namespace Go.Proofs.Tryz
open Go.Eng Go.Big
theorem okLn_okL {a b c:Int}:okLn (decide (a < 0)) (digs a.natAbs) (decide (b < 0)) (digs b.natAbs) (decide (c < 0)) (digs c.natAbs)=okL (a,b,c):=by
 have hn:∀z:Int,NrmI (decide (z < 0)) (digs z.natAbs)=true:=by
  intro z
  unfold NrmI
  rw [val_digs]
  simp only [decide_true,Bool.true_and]
  by_cases h:z < 0
  ·simp only [h,decide_true,Bool.not_true,Bool.false_or,decide_eq_true_eq]
   intro e
   have:=digs_eq_nil.1 e
   omega
  ·simp [h]
 have hg:gcdQ (gcdQ (a:Rat) (b:Rat)) (c:Rat)=((gcd3 a b c:Nat):Int):=by
  have g2:∀x y:Int,gcdQ (x:Rat) (y:Rat)=((Nat.gcd x.natAbs y.natAbs:Nat):Int):=by
   intro x y
   unfold gcdQ
   have e1:((x:Rat)).num=x:=rfl
   have e2:((y:Rat)).num=y:=rfl
   have e3:((x:Rat)).den=1:=rfl
   have e4:((y:Rat)).den=1:=rfl
   rw [e1,e2,e3,e4]
   simp only [Nat.mul_one]
   exact Rat.mkRat_one _
  rw [g2,g2]
  rfl
 unfold okLn okL
 rw [hn,hn,hn,ival_digs,ival_digs,ival_digs,hg]
 have h0:∀z:Int,((z:Rat)=0)↔z=0:=fun z=>by exact Rat.intCast_eq_zero_iff
 simp only [Bool.true_and,h0]
 rw [Bool.eq_iff_iff]
 simp only [Bool.and_eq_true,Bool.not_eq_true',Bool.and_eq_false_iff,decide_eq_false_iff_not,decide_eq_true_eq]
 have h1:(((gcd3 a b c:Nat):Int):Rat)=((1:Int):Rat)↔gcd3 a b c=1:=by
  rw [Rat.intCast_inj]; omega
 rw [h1]
 constructor
 ·rintro ⟨h,h'⟩; exact ⟨fun e=>by rcases h with h | h; exact h e.1; exact h e.2,h'⟩
 ·rintro ⟨h,h'⟩
  refine ⟨?_,h'⟩
  by_cases ha:a=0
  ·exact .inr fun hb=>h ⟨ha,hb⟩
  ·exact .inl ha
theorem sz_int {z:Int} {k:Nat} (h:z.natAbs < 2 ^ k) (hk:0 < k):Sz k (z:Rat):=⟨h,Nat.one_lt_two_pow (by omega)⟩
theorem Bd.digs {x:L3} (h:Bd x):(digs x.1.natAbs).length<=1000/\(digs x.2.1.natAbs).length<=1000/\(digs x.2.2.natAbs).length<=1000:=⟨digs_len_bits h.1,digs_len_bits h.2.1,digs_len_bits h.2.2⟩
theorem Bd.sz {x:L3} (h:Bd x):Sz 1000 (x.1:Rat)/\Sz 1000 (x.2.1:Rat)/\Sz 1000 (x.2.2:Rat):=⟨sz_int h.1 (by omega),sz_int h.2.1 (by omega),sz_int h.2.2 (by omega)⟩
end Go.Proofs.Tryz
/- By program: the conditions of the functions, from their loaded code. -/
namespace Go.Proofs.Tryz
open Go.Eng
open Go.Value renaming int→I,pointer→P,slice→S,agg→A,bool→B,tuple→T
open Go.IntKind renaming i64→J,u64→U,u32→W
set_option maxRecDepth 100000
theorem vc_scene_New (d:OA) (a b:Nat) (V:View) (R:VR) (h:(0<=(minI (a:Int) (400))/\(minI (a:Int) (400))<=(b:Int))/\(∀c,V.Le c->∀e:Nat,(c.blk e (.cells #[S d ((minI (a:Int) (400)).toNat) b,I J 0] 105 (0,0)))->R (P (some ⟨e,0,none⟩)) c)):
 Acts prog 7 #[S d a b] V R:=
 fd (LF:=LF0) (RF:=[1000007]) [] [] func7 h
theorem vc_scene_Tape_Next (e:Nat) (f:OA) (b g:Nat) (a d:Int) (V:View) (R:VR) (hw100000:V.w.heap[e]?=some (.cells #[S f b g,I J a] 105 (0,0))) (hx100000:V.X e) (h:(((decide (a ≥ (b:Int)))=true->(∀k,V.Le k->k.w.heap[e]?=some (.cells #[S f b g,I J a] 105 (0,0))->R (I J 0) k))/\((decide (a ≥ (b:Int)))=false->(f.isSome=true)/\(0<=a/\a < (b:Int))/\(∃i,(∃n,addrAdd f (a.toNat * 1)=some n/\V.at n (I J i))/\(d≠0)/\(((decide ((i.tmod d) < (0:Int)))=true->(∀l,V.Le l->l.w.heap[e]?=some (.cells #[S f b g,I J (J.wrap (a + (1:Int)))] 105 (0,0))->R (I J (J.wrap ((i.tmod d) + d))) l))/\((decide ((i.tmod d) < (0:Int)))=false->(∀m,V.Le m->m.w.heap[e]?=some (.cells #[S f b g,I J (J.wrap (a + (1:Int)))] 105 (0,0))->R (I J (i.tmod d)) m))))))):
 Acts prog 33 #[P (some ⟨e,0,none⟩),I J d] V R:=
 fn_does (LF:=LF0) (RF:=[1000007]) (β0:=(upd1 (fun _=>0) 100000 e)) tab_ok mixed [] [] func33 (by kernel_rfl) [(0,.c (.ptr 100000 0)),(1,.c (.v (I J d)))] [(100000,⟨.lit [.v (S f b g),.v (I J a)],105⟩)] (by kernel_rfl) ⟨⟨hw100000,hx100000⟩,trivial,trivial⟩ h (by kernel_rfl)
theorem vc_scene_Tape_P (a:Nat) (g:OA) (i k:Nat) (l:Int) (V:View) (R:VR) (hw100000:V.w.heap[a]?=some (.cells #[S g i k,I J l] 105 (0,0))) (hx100000:V.X a) (h:(∀e,V.Le e->∀b:Nat,(e.w.heap[b]?=some (.cells #[S g i k,I J l] 105 (0,0)))->(e.H b)->Acts prog 33 #[P (some ⟨b,0,none⟩),I J 9] (e.lend [b]) fun b6 n=>∃o,b6=I J o/\∃p q r,∃s,n.w.heap[b]?=some (.cells #[S p q r,I J s] 105 (0,0))/\(∀f,n.shut.Le f->∀d:Nat,(f.w.heap[d]?=some (.cells #[S p q r,I J s] 105 (0,0)))->(f.H d)->Acts prog 33 #[P (some ⟨d,0,none⟩),I J 9] (f.lend [d]) fun b7 t=>∃u,b7=I J u/\∃x y z,∃a0,t.w.heap[d]?=some (.cells #[S x y z,I J a0] 105 (0,0))/\(∀a1,t.shut.Le a1->Acts prog 115 #[I J (J.wrap (o - (4:Int))),I J (J.wrap (u - (4:Int)))] a1 fun b8 b9=>∃a2,∃a3 a4 a5,∃a6 a7 a8,∃a9,∃b0 b1 b2,∃b3 b4 b5,b8=A #[B a2,S a3 a4 a5,S a6 a7 a8,B a9,S b0 b1 b2,S b3 b4 b5]/\(∀m,b9.Le m->m.w.heap[a]?=some (.cells #[S x y z,I J a0] 105 (0,0))->R (A #[B a2,S a3 a4 a5,S a6 a7 a8,B a9,S b0 b1 b2,S b3 b4 b5]) m))))):
 Acts prog 55 #[P (some ⟨a,0,none⟩)] V R:=
 fn_does (LF:=LF0) (RF:=[1000007]) (β0:=(upd1 (fun _=>0) 100000 a)) tab_ok mixed [] [] func55 (by kernel_rfl) [(0,.c (.ptr 100000 0))] [(100000,⟨.lit [.v (S g i k),.v (I J l)],105⟩)] (by kernel_rfl) ⟨⟨hw100000,hx100000⟩,trivial,trivial⟩ h (by kernel_rfl)
theorem vc_scene_Tape_V (a:Nat) (e:OA) (f g:Nat) (i:Int) (V:View) (R:VR) (hw100000:V.w.heap[a]?=some (.cells #[S e f g,I J i] 105 (0,0))) (hx100000:V.X a) (h:(∀d,V.Le d->∀b:Nat,(d.w.heap[b]?=some (.cells #[S e f g,I J i] 105 (0,0)))->(d.H b)->Acts prog 55 #[P (some ⟨b,0,none⟩)] (d.lend [b]) fun c4 a7=>∃k,∃l m n,∃o p q,∃r,∃s t u,∃x y z,c4=A #[B k,S l m n,S o p q,B r,S s t u,S x y z]/\∃a0 a1 a2,∃a3,a7.w.heap[b]?=some (.cells #[S a0 a1 a2,I J a3] 105 (0,0))/\(∀a8,a7.shut.Le a8->Acts prog 117 #[A #[B k,S l m n,S o p q,B r,S s t u,S x y z],A #[B false,S none 0 0,S none 0 0,B false,S none 0 0,S none 0 0]] a8 fun c5 a9=>∃a4,c5=B a4/\((a4=true->(Ca a9 115 #[I J 1,I J 0] fun c6 c7=>∃b0,∃b1 b2 b3,∃b4 b5 b6,∃b7,∃b8 b9 c0,∃c1 c2 c3,c6=A #[B b0,S b1 b2 b3,S b4 b5 b6,B b7,S b8 b9 c0,S c1 c2 c3]/\(∀a5,c7.Le a5->a5.w.heap[a]?=some (.cells #[S a0 a1 a2,I J a3] 105 (0,0))->R (A #[B b0,S b1 b2 b3,S b4 b5 b6,B b7,S b8 b9 c0,S c1 c2 c3]) a5)))/\(a4=false->(∀a6,a9.Le a6->a6.w.heap[a]?=some (.cells #[S a0 a1 a2,I J a3] 105 (0,0))->R (A #[B k,S l m n,S o p q,B r,S s t u,S x y z]) a6)))))):
 Acts prog 58 #[P (some ⟨a,0,none⟩)] V R:=
 fn_does (LF:=LF0) (RF:=[1000007]) (β0:=(upd1 (fun _=>0) 100000 a)) tab_ok mixed [] [] func58 (by kernel_rfl) [(0,.c (.ptr 100000 0))] [(100000,⟨.lit [.v (S e f g),.v (I J i)],105⟩)] (by kernel_rfl) ⟨⟨hw100000,hx100000⟩,trivial,trivial⟩ h (by kernel_rfl)
theorem vc_scene_Tape_L (a:Nat) (g:OA) (i k:Nat) (l:Int) (V:View) (R:VR) (hw100000:V.w.heap[a]?=some (.cells #[S g i k,I J l] 105 (0,0))) (hx100000:V.X a) (h:(∀e,V.Le e->∀b:Nat,(e.w.heap[b]?=some (.cells #[S g i k,I J l] 105 (0,0)))->(e.H b)->Acts prog 55 #[P (some ⟨b,0,none⟩)] (e.lend [b]) fun g2 a3=>∃m,∃n o p,∃q r s,∃t,∃u x y,∃z a0 a1,g2=A #[B m,S n o p,S q r s,B t,S u x y,S z a0 a1]/\∃a4 a5 a6,∃a7,a3.w.heap[b]?=some (.cells #[S a4 a5 a6,I J a7] 105 (0,0))/\(∀a8,a3.shut.Le a8->Acts prog 57 #[I J 1] a8 fun g3 g4=>∃a9,∃b0 b1 b2,∃b3 b4 b5,g3=A #[B a9,S b0 b1 b2,S b3 b4 b5]/\(∀f,g4.Le f->∀d:Nat,(f.w.heap[d]?=some (.cells #[S a4 a5 a6,I J a7] 105 (0,0)))->(f.H d)->Acts prog 58 #[P (some ⟨d,0,none⟩)] (f.lend [d]) fun g5 b6=>∃b7,∃b8 b9 c0,∃c1 c2 c3,∃c4,∃c5 c6 c7,∃c8 c9 d0,g5=A #[B b7,S b8 b9 c0,S c1 c2 c3,B c4,S c5 c6 c7,S c8 c9 d0]/\∃d1 d2 d3,∃d4,b6.w.heap[d]?=some (.cells #[S d1 d2 d3,I J d4] 105 (0,0))/\(∀d5,b6.shut.Le d5->Acts prog 56 #[A #[B m,S n o p,S q r s,B t,S u x y,S z a0 a1],A #[B a9,S b0 b1 b2,S b3 b4 b5],A #[B b7,S b8 b9 c0,S c1 c2 c3,B c4,S c5 c6 c7,S c8 c9 d0]] d5 fun g6 g7=>∃d6,∃d7 d8 d9,∃e0 e1 e2,∃e3,∃e4 e5 e6,∃e7 e8 e9,g6=A #[B d6,S d7 d8 d9,S e0 e1 e2,B e3,S e4 e5 e6,S e7 e8 e9]/\(Ca g7 51 #[A #[B m,S n o p,S q r s,B t,S u x y,S z a0 a1],A #[B d6,S d7 d8 d9,S e0 e1 e2,B e3,S e4 e5 e6,S e7 e8 e9]] fun g8 g9=>∃f0,∃f1 f2 f3,∃f4,∃f5 f6 f7,∃f8,∃f9 g0 g1,∃i0,g8=T #[A #[B f0,S f1 f2 f3,B f4,S f5 f6 f7,B f8,S f9 g0 g1],B i0]/\(∀a2,g9.Le a2->a2.w.heap[a]?=some (.cells #[S d1 d2 d3,I J d4] 105 (0,0))->R (A #[B f0,S f1 f2 f3,B f4,S f5 f6 f7,B f8,S f9 g0 g1]) a2))))))):
 Acts prog 39 #[P (some ⟨a,0,none⟩)] V R:=
 fn_does (LF:=LF0) (RF:=[1000007]) (β0:=(upd1 (fun _=>0) 100000 a)) tab_ok mixed [] [] func39 (by kernel_rfl) [(0,.c (.ptr 100000 0))] [(100000,⟨.lit [.v (S g i k),.v (I J l)],105⟩)] (by kernel_rfl) ⟨⟨hw100000,hx100000⟩,trivial,trivial⟩ h (by kernel_rfl)
end Go.Proofs.Tryz
/- The scene's tape: Next, P, V, L, Tree; lines and trees that it makes. -/
namespace Go.Proofs.Tryz
open Go.Eng Go.Big
/-! plain laws: the line through two points of the grid -/
theorem thr_int (x y u w:Int):thr (x:Rat) (y:Rat) ((x:Rat) + ((1:Int):Rat) * (u:Rat)) ((y:Rat) + ((1:Int):Rat) * (w:Rat))=(((-w:Int):Rat),((u:Int):Rat),((w * x - u * y:Int):Rat)):=by
 have e1:(x:Rat) + ((1:Int):Rat) * (u:Rat)=((x + u:Int):Rat):=by rw [← Rat.intCast_mul,← Rat.intCast_add,Int.one_mul]
 have e2:(y:Rat) + ((1:Int):Rat) * (w:Rat)=((y + w:Int):Rat):=by rw [← Rat.intCast_mul,← Rat.intCast_add,Int.one_mul]
 rw [e1,e2]
 have ha:-(((y + w:Int):Rat) - (y:Rat))=((-w:Int):Rat):=by rw [← Rat.intCast_sub,← Rat.intCast_neg]; congr 1; omega
 have hb:((x + u:Int):Rat) - (x:Rat)=((u:Int):Rat):=by rw [← Rat.intCast_sub]; congr 1; omega
 have hc:-(((-w:Int):Rat) * (x:Rat) + ((u:Int):Rat) * (y:Rat))=((w * x - u * y:Int):Rat):=by
  rw [← Rat.intCast_mul,← Rat.intCast_mul,← Rat.intCast_add,← Rat.intCast_neg]; congr 1; rw [Int.neg_mul]; omega
 have hf:(((((-w:Int):Rat).den * ((u:Int):Rat).den * ((w * x - u * y:Int):Rat).den:Nat):Int):Rat)=1:=rfl
 unfold thr
 dsimp only
 rw [ha,hb,hc,hf,Rat.mul_one,Rat.mul_one,Rat.mul_one]
/-- Divided by their common divisor. -/
def lnOf (a b c:Int):L3:=(a / (gcd3 a b c:Int),b / (gcd3 a b c:Int),c / (gcd3 a b c:Int))
def small (z:Int) (k:Nat):Bool:=decide (z.natAbs<=k)
theorem lnOf_fin:∀i:Fin 9,∀j:Fin 9,∀k:Fin 65,(i.1=4/\j.1=4) \/ (okL (lnOf ((i.1:Int) - 4) ((j.1:Int) - 4) ((k.1:Int) - 32)) && small (lnOf ((i.1:Int) - 4) ((j.1:Int) - 4) ((k.1:Int) - 32)).1 32 && small (lnOf ((i.1:Int) - 4) ((j.1:Int) - 4) ((k.1:Int) - 32)).2.1 32 && small (lnOf ((i.1:Int) - 4) ((j.1:Int) - 4) ((k.1:Int) - 32)).2.2 32)=true:=by decide +kernel
theorem bd32 (k:Nat) (hk:6<=k) {z:Int} (h:z.natAbs<=32):z.natAbs < 2 ^ k:=Nat.lt_of_le_of_lt h (Nat.lt_of_lt_of_le (by decide:32 < 2 ^ 6) (Nat.pow_le_pow_right (by decide) hk))
theorem bd32' (k:Nat) (hk:6<=k) {x:L3} (h1:x.1.natAbs<=32) (h2:x.2.1.natAbs<=32) (h3:x.2.2.natAbs<=32):x.1.natAbs < 2 ^ k/\x.2.1.natAbs < 2 ^ k/\x.2.2.natAbs < 2 ^ k:=⟨bd32 k hk h1,bd32 k hk h2,bd32 k hk h3⟩
theorem lnOf_ok {a b c:Int} (h1:-4<=a/\a<=4) (h2:-4<=b/\b<=4) (h3:-32<=c/\c<=32) (h:¬ (a=0/\b=0)):okL (lnOf a b c)=true/\Bd (lnOf a b c):=by
 have:=lnOf_fin ⟨(a + 4).toNat,by omega⟩ ⟨(b + 4).toNat,by omega⟩ ⟨(c + 32).toNat,by omega⟩
 dsimp only at this
 rw [show (((a + 4).toNat:Nat):Int) - 4=a from by omega,show (((b + 4).toNat:Nat):Int) - 4=b from by omega,show (((c + 32).toNat:Nat):Int) - 32=c from by omega] at this
 rcases this with h' | h'
 ·omega
 ·simp only [Bool.and_eq_true,small,decide_eq_true_eq] at h'
  exact ⟨h'.1.1.1,bd32' 1000 (by decide) h'.1.1.2 h'.1.2 h'.2⟩
theorem mul_bd {x y:Int} (h1:-4<=x/\x<=4) (h2:-4<=y/\y<=4):-16<=x * y/\x * y<=16:=by
 have:(x * y).natAbs<=4 * 4:=by rw [Int.natAbs_mul]; exact Nat.mul_le_mul (by omega) (by omega)
 omega
end Go.Proofs.Tryz
/- Plain laws: the line in normal form. -/
namespace Go.Proofs.Tryz
open Go.Eng Go.Big
theorem num_mul {r:Rat} {f:Nat} {a:Int} (hf:f≠0) (h:r * ((f:Nat):Int)=(a:Rat)):r.num * f=a * r.den:=by
 have hd:=r.den_nz
 rw [← Rat.mkRat_self r,← Rat.mkRat_one f,← Rat.mkRat_one a,Rat.mkRat_mul_mkRat,Rat.mkRat_eq_iff (by simpa using hd) (by omega)] at h
 simpa using h
/-- The divisor of two numbers with one denominator. -/
theorem gcdQ_scale {r s:Rat} {f:Nat} {a b:Int} (hf:f≠0) (hr:r * ((f:Nat):Int)=(a:Rat)) (hs:s * ((f:Nat):Int)=(b:Rat)):gcdQ r s * ((f:Nat):Int)=(((Nat.gcd a.natAbs b.natAbs:Nat):Int):Rat):=by
 have h1:=num_mul hf hr
 have h2:=num_mul hf hs
 have d1:=r.den_nz
 have d2:=s.den_nz
 have e1:r.num.natAbs * f=a.natAbs * r.den:=by have:=congrArg Int.natAbs h1; rwa [Int.natAbs_mul,Int.natAbs_mul,Int.natAbs_natCast,Int.natAbs_natCast] at this
 have e2:s.num.natAbs * f=b.natAbs * s.den:=by have:=congrArg Int.natAbs h2; rwa [Int.natAbs_mul,Int.natAbs_mul,Int.natAbs_natCast,Int.natAbs_natCast] at this
 have e3:Nat.gcd (r.num.natAbs * s.den) (s.num.natAbs * r.den) * f=Nat.gcd a.natAbs b.natAbs * (r.den * s.den):=by
  rw [← Nat.gcd_mul_right,← Nat.gcd_mul_right]
  congr 1
  ·rw [Nat.mul_right_comm,e1,Nat.mul_assoc]
  ·rw [Nat.mul_right_comm,e2,Nat.mul_assoc,Nat.mul_comm s.den]
 unfold gcdQ
 rw [← Rat.mkRat_one ((f:Nat):Int),Rat.mkRat_mul_mkRat,← Rat.mkRat_one (((Nat.gcd a.natAbs b.natAbs:Nat):Int)),Rat.mkRat_eq_iff (by simpa using Nat.mul_ne_zero d1 d2) (by omega)]
 simp only [Nat.mul_one]
 have:=congrArg (Nat.cast (R:=Int)) e3
 simpa using this
end Go.Proofs.Tryz
/- Plain laws: the line through two points: program and reference agree. -/
namespace Go.Proofs.Tryz
open Go.Eng Go.Big
theorem mul_den_num (q:Rat) (m:Nat):q * (((q.den * m:Nat):Int):Rat)=((q.num * m:Int):Rat):=by
 have e:q * (((q.den:Nat):Int):Rat)=((q.num:Int):Rat):=by
  have h:=q.den_nz
  have h1:mkRat q.num q.den * mkRat ((q.den:Nat):Int) 1=mkRat q.num 1:=by
   rw [Rat.mkRat_mul_mkRat,Rat.mkRat_eq_iff (by simpa using h) (by omega)]
   simp
  rwa [Rat.mkRat_self,Rat.mkRat_one,Rat.mkRat_one] at h1
 rw [Int.natCast_mul,Rat.intCast_mul,← Rat.mul_assoc,e,← Rat.intCast_mul]
theorem int_div_cast {a:Int} {g:Nat} (hg:g≠0) (h:(g:Int) ∣ a):((a / (g:Int):Int):Rat)=(a:Rat) / ((g:Int):Rat):=by
 obtain ⟨k,rfl⟩:=h
 have h0:((g:Int):Rat)≠0:=by exact_mod_cast hg
 rw [Int.mul_ediv_cancel_left _ (by omega),Rat.intCast_mul,Rat.div_def,Rat.mul_comm ((g:Int):Rat),Rat.mul_assoc,Rat.mul_inv_cancel _ h0,Rat.mul_one]
/-- The line of three rational coefficients, in lowest terms. -/
def mkLn (a b c:Rat):L3:=
 let f:Nat:=a.den * b.den * c.den
 lnOf (a * ((f:Int):Rat)).num (b * ((f:Int):Rat)).num (c * ((f:Int):Rat)).num
theorem mkLn_spec {a b c:Rat} (h:¬ (a=0/\b=0)):let g:=gcdQ (gcdQ a b) c
  g≠0/\a * g⁻¹=((mkLn a b c).1:Rat)/\b * g⁻¹=((mkLn a b c).2.1:Rat)/\c * g⁻¹=((mkLn a b c).2.2:Rat):=by
 intro g
 have hf:a.den * b.den * c.den≠0:=Nat.mul_ne_zero (Nat.mul_ne_zero a.den_nz b.den_nz) c.den_nz
 have ea:a * (((a.den * b.den * c.den:Nat):Int):Rat)=((a.num * (b.den * c.den:Nat):Int):Rat):=by rw [Nat.mul_assoc,mul_den_num]
 have eb:b * (((a.den * b.den * c.den:Nat):Int):Rat)=((b.num * (a.den * c.den:Nat):Int):Rat):=by rw [Nat.mul_comm a.den,Nat.mul_assoc,mul_den_num]
 have ec:c * (((a.den * b.den * c.den:Nat):Int):Rat)=((c.num * (a.den * b.den:Nat):Int):Rat):=by rw [Nat.mul_comm (a.den * b.den),mul_den_num]
 have hm:mkLn a b c=lnOf (a.num * (b.den * c.den:Nat)) (b.num * (a.den * c.den:Nat)) (c.num * (a.den * b.den:Nat)):=by
  unfold mkLn
  dsimp only
  rw [ea,eb,ec,Rat.num_intCast,Rat.num_intCast,Rat.num_intCast]
 have g1:=gcdQ_scale hf ea eb
 have g2:=gcdQ_scale hf g1 ec
 rw [hm]
 have hA:a.num * (b.den * c.den:Nat)=0↔a=0:=by
  rw [Int.mul_eq_zero,Rat.num_eq_zero]
  have:=Nat.mul_ne_zero b.den_nz c.den_nz
  constructor
  ·rintro (h | h)
   ·exact h
   ·omega
  ·exact .inl
 have hB:b.num * (a.den * c.den:Nat)=0↔b=0:=by
  rw [Int.mul_eq_zero,Rat.num_eq_zero]
  have:=Nat.mul_ne_zero a.den_nz c.den_nz
  constructor
  ·rintro (h | h)
   ·exact h
   ·omega
  ·exact .inl
 generalize a.num * (b.den * c.den:Nat)=A at *
 generalize b.num * (a.den * c.den:Nat)=B at *
 generalize c.num * (a.den * b.den:Nat)=C at *
 generalize a.den * b.den * c.den=f at *
 have e3:Nat.gcd (((Nat.gcd A.natAbs B.natAbs:Nat):Int)).natAbs C.natAbs=gcd3 A B C:=by unfold gcd3; rw [Int.natAbs_natCast]
 rw [e3] at g2
 change g * ((f:Int):Rat)=_ at g2
 have hG:gcd3 A B C≠0:=by
  intro e
  have:=Nat.gcd_eq_zero_iff.1 e
  have:=Nat.gcd_eq_zero_iff.1 this.1
  exact h ⟨hA.1 (by omega),hB.1 (by omega)⟩
 have hf':((f:Int):Rat)≠0:=by exact_mod_cast hf
 have hG':((gcd3 A B C:Int):Rat)≠0:=by exact_mod_cast hG
 have hg:g≠0:=by intro e; rw [e,Rat.zero_mul] at g2; exact hG' g2.symm
 have dA:((gcd3 A B C:Nat):Int) ∣ A:=Int.natAbs_dvd_natAbs.1 (by rw [Int.natAbs_natCast]; exact Nat.dvd_trans (Nat.gcd_dvd_left _ _) (Nat.gcd_dvd_left _ _))
 have dB:((gcd3 A B C:Nat):Int) ∣ B:=Int.natAbs_dvd_natAbs.1 (by rw [Int.natAbs_natCast]; exact Nat.dvd_trans (Nat.gcd_dvd_left _ _) (Nat.gcd_dvd_right _ _))
 have dC:((gcd3 A B C:Nat):Int) ∣ C:=Int.natAbs_dvd_natAbs.1 (by rw [Int.natAbs_natCast]; exact Nat.gcd_dvd_right _ _)
 have key:∀{x:Rat} {X:Int},x * ((f:Int):Rat)=(X:Rat)->((gcd3 A B C:Nat):Int) ∣ X->x * g⁻¹=((X / (gcd3 A B C:Int):Int):Rat):=by
  intro x X hx hd
  rw [int_div_cast hG hd,← hx,← g2]
  grind
 exact ⟨hg,key ea dA,key eb dB,key ec dC⟩
theorem mkLn_nz {a b c:Rat} (h:¬ (a=0/\b=0)):¬ ((mkLn a b c).1=0/\(mkLn a b c).2.1=0):=by
 obtain ⟨g0,g1,g2,-⟩:=mkLn_spec (c:=c) h
 rintro ⟨e1,e2⟩
 rw [e1] at g1
 rw [e2] at g2
 have hi:(gcdQ (gcdQ a b) c)⁻¹≠0:=fun e=>by
  have h1:=Rat.mul_inv_cancel _ g0
  rw [e,Rat.mul_zero] at h1
  exact absurd h1 (by decide)
 apply h
 constructor
 ·rcases Rat.mul_eq_zero.1 (by simpa using g1) with e | e
  ·exact e
  ·exact absurd e hi
 ·rcases Rat.mul_eq_zero.1 (by simpa using g2) with e | e
  ·exact e
  ·exact absurd e hi
end Go.Proofs.Tryz
/- Contracts of the scene's tape: Next, P, V, L; trees of the reference in memory: Code, Tree. -/
namespace Go.Proofs.Tryz
open Go.Eng Go.Big
theorem RL_shape' {V:View} {v:Value} {a b c:Int} (h:RL V v a b c):∃(b1:Bool) (p1:OA) (n1 c1:Nat) (b2:Bool) (p2:OA) (n2 c2:Nat) (b3:Bool) (p3:OA) (n3 c3:Nat),v=.agg #[.bool b1,.slice p1 n1 c1,.bool b2,.slice p2 n2 c2,.bool b3,.slice p3 n3 c3]:=by
 obtain ⟨p,n,s,p',n',s',q,m,e,rfl,-⟩:=h
 exact ⟨_,_,_,_,_,_,_,_,_,_,_,_,rfl⟩
/-- Ints that can be read. -/
def Rdl (V:View) (p:OA) (n:Nat):Prop:=∀i,i < n->∃(a:Addr) (x:Int),addrAdd p (i * 1)=some a/\V.at a (.int .i64 x)
theorem Rdl.le {V V':View} {p:OA} {n:Nat} (h:Rdl V p n) (l:V.Le V'):Rdl V' p n:=fun i hi=>by
 obtain ⟨a,x,e,hx⟩:=h i hi; exact ⟨a,x,e,l.at hx⟩
/-- The tape's block. -/
def TpAt (V:View) (tb:Nat) (p:OA) (n c:Nat) (at_:Int):Prop:=V.w.heap[tb]?=some (.cells #[.slice p n c,.int .i64 at_] 105 (0,0))
theorem c_Next {V:View} {tb:Nat} {p:OA} {n c:Nat} {at_:Int} (k:Int) (hr:Rdl V p n) (hn:n<=400) (hw:TpAt V tb p n c at_) (hx:V.X tb) (h0:0<=at_) (hk:0 < k) (hk2:k<=1000) :
  Acts prog 33 #[.pointer (some ⟨tb,0,none⟩),.int .i64 k] V fun r V'=>∃x at',r=.int .i64 x/\0<=x/\x < k/\0<=at'/\TpAt V' tb p n c at':=by
 refine vc_scene_Tape_Next tb p n c at_ k V _ hw hx ⟨fun g V1 l1 e=>⟨0,at_,rfl,by omega,hk,h0,e⟩,fun g=>?_⟩
 have g:at_ < n:=by have:=of_decide_eq_false g; omega
 obtain ⟨i,rfl⟩:∃i:Nat,at_=i:=⟨at_.toNat,by omega⟩
 obtain ⟨a,x,e1,e2⟩:=hr i (by omega)
 have hs:p.isSome=true:=by
  cases p with
  | none=>simp [addrAdd] at e1
  | some a=>rfl
 have m1:(x.tmod k).natAbs < k.natAbs:=by rw [Int.natAbs_tmod]; exact Nat.mod_lt _ (by omega)
 have w1:i64.wrap ((i:Int) + 1)=((i + 1:Nat):Int):=by rw [i64w (by omega)]; omega
 rw [Int.toNat_natCast,w1]
 have w2:i64.wrap (x.tmod k + k)=x.tmod k + k:=i64w (by omega)
 refine ⟨hs,⟨by omega,by omega⟩,x,⟨a,e1,e2⟩,by omega,fun g2 V2 l2 e=>⟨x.tmod k + k,_,by rw [w2],?_,?_,?_,e⟩,fun g2 V3 l3 e=>⟨_,_,rfl,?_,?_,?_,e⟩⟩
 ·omega
 ·have:=of_decide_eq_true g2; omega
 ·omega
 ·have:=of_decide_eq_false g2; omega
 ·omega
 ·omega
theorem c_P {V:View} {tb:Nat} {p:OA} {n c:Nat} {at_:Int} (hr:Rdl V p n) (hn:n<=400) (hw:TpAt V tb p n c at_) (hx:V.X tb) (h0:0<=at_) :
  Acts prog 55 #[.pointer (some ⟨tb,0,none⟩)] V fun r V'=>∃(x y at':Int),RP V' r (x:Rat) (y:Rat)/\(-4<=x/\x<=4)/\(-4<=y/\y<=4)/\0<=at'/\TpAt V' tb p n c at':=by
 refine vc_scene_Tape_P tb p n c at_ V _ hw hx fun V1 l1 bk1 e1 h1=>(c_Next (V:=V1.lend [bk1]) 9 (hr.le fun b o h=>l1 b o h) hn e1 ⟨by simp,h1⟩ h0 (by omega) (by omega)).mono ?_
 rintro r V2 l2 ⟨x,at1,rfl,x0,x1,t1,hw1⟩
 refine ⟨_,rfl,_,_,_,_,hw1,fun V3 l3 bk5 e3 h3=>(c_Next (V:=V3.lend [bk5]) 9 (hr.le fun b o h=>l3 b o (l2 b o (l1 b o h))) hn e3 ⟨by simp,h3⟩ t1 (by omega) (by omega)).mono ?_⟩
 rintro r V4 l4 ⟨y,at2,rfl,y0,y1,t2,hw2⟩
 refine ⟨_,rfl,_,_,_,_,hw2,fun V5 l5=>?_⟩
 rw [i64w (x:=x - 4) (by omega),i64w (x:=y - 4) (by omega)]
 refine (c_ref04_Xy (x - 4) (y - 4) (by omega) (by omega) (by omega) (by omega)).mono ?_
 rintro r V6 l6 hp
 have hp0:=hp
 obtain ⟨p1,n1,c1,p2,n2,c2,p3,n3,c3,p4,n4,c4,rfl,-⟩:=hp
 exact ⟨_,_,_,_,_,_,_,_,_,_,_,_,_,_,rfl,fun V7 l7 e7=>⟨x - 4,y - 4,at2,hp0.le l7,⟨by omega,by omega⟩,⟨by omega,by omega⟩,t2,e7⟩⟩
theorem RQ.zero {V:View}:RQ V (.agg #[.bool false,.slice none 0 0,.slice none 0 0]) ((0:Int):Rat):=⟨none,0,0,none,0,0,rfl,RD.nil,RD.nil⟩
theorem RP.zero {V:View}:RP V (.agg #[.bool false,.slice none 0 0,.slice none 0 0,.bool false,.slice none 0 0,.slice none 0 0]) ((0:Int):Rat) ((0:Int):Rat):=
 ⟨none,0,0,none,0,0,none,0,0,none,0,0,rfl,RQ.zero,RQ.zero⟩
theorem sz4 {z:Int} (h:-40<=z/\z<=40):Sz 10 (z:Rat):=sz_int (by omega) (by omega)
theorem c_V {V:View} {tb:Nat} {p:OA} {n c:Nat} {at_:Int} (hr:Rdl V p n) (hn:n<=400) (hw:TpAt V tb p n c at_) (hx:V.X tb) (h0:0<=at_) :
  Acts prog 58 #[.pointer (some ⟨tb,0,none⟩)] V fun r V'=>∃(x y at':Int),RP V' r (x:Rat) (y:Rat)/\(-4<=x/\x<=4)/\(-4<=y/\y<=4)/\¬ (x=0/\y=0)/\0<=at'/\TpAt V' tb p n c at':=by
 refine vc_scene_Tape_V tb p n c at_ V _ hw hx fun V1 l1 bk1 e1 h1=>(c_P (V:=V1.lend [bk1]) (hr.le fun b o h=>l1 b o h) hn e1 ⟨by simp,h1⟩ h0).mono ?_
 rintro r V2 l2 ⟨x,y,at1,hp,hx1,hy1,t1,hw1⟩
 have hp0:=hp
 obtain ⟨p1,n1,c1,p2,n2,c2,p3,n3,c3,p4,n4,c4,rfl,-⟩:=hp
 refine ⟨_,_,_,_,_,_,_,_,_,_,_,_,_,_,rfl,_,_,_,_,hw1,fun V3 l3=>(c_ref04_Same (hp0.le fun b o h=>l3 b o h) RP.zero (sz4 (by omega)) (sz4 (by omega)) (sz4 (by omega)) (sz4 (by omega)) (by omega)).mono ?_⟩
 rintro r V4 l4 rfl
 refine ⟨_,rfl,fun g V5 l5=>(c_ref04_Xy 1 0 (by omega) (by omega) (by omega) (by omega)).mono ?_,fun g V8 l8 e8=>⟨x,y,at1,hp0.le fun b o h=>l8 b o (l4 b o (l3 b o h)),hx1,hy1,?_,t1,e8⟩⟩
 ·rintro r V6 l6 hq
  have hq0:=hq
  obtain ⟨p1,n1,c1,p2,n2,c2,p3,n3,c3,p4,n4,c4,rfl,-⟩:=hq
  exact ⟨_,_,_,_,_,_,_,_,_,_,_,_,_,_,rfl,fun V7 l7 e7=>⟨1,0,at1,hq0.le l7,⟨by omega,by omega⟩,⟨by omega,by omega⟩,by omega,t1,e7⟩⟩
 ·rintro ⟨rfl,rfl⟩
  simp at g
theorem c_L {V:View} {tb:Nat} {p:OA} {n c:Nat} {at_:Int} (hr:Rdl V p n) (hn:n<=400) (hw:TpAt V tb p n c at_) (hx:V.X tb) (h0:0<=at_) :
  Acts prog 39 #[.pointer (some ⟨tb,0,none⟩)] V fun r V'=>∃(x:L3) (at':Int),RL V' r x.1 x.2.1 x.2.2/\okL x=true/\Bd x/\0<=at'/\TpAt V' tb p n c at':=by
 refine vc_scene_Tape_L tb p n c at_ V _ hw hx fun V1 l1 bk1 e1 h1=>(c_P (V:=V1.lend [bk1]) (hr.le fun b o h=>l1 b o h) hn e1 ⟨by simp,h1⟩ h0).mono ?_
 rintro r V2 l2 ⟨x,y,at1,hp,hx1,hy1,t1,hw1⟩
 have hp0:=hp
 obtain ⟨p1,n1,c1,p2,n2,c2,p3,n3,c3,p4,n4,c4,rfl,-⟩:=hp
 refine ⟨_,_,_,_,_,_,_,_,_,_,_,_,_,_,rfl,_,_,_,_,hw1,fun V3 l3=>(c_num_Of 1 (by omega) (by omega)).mono ?_⟩
 rintro r V4 l4 hq
 have hq0:=hq
 obtain ⟨p5,n5,c5,p6,n6,c6,rfl⟩:=hq.shape
 refine ⟨_,_,_,_,_,_,_,rfl,fun V5 l5 bk13 e5 h5=>(c_V (V:=V5.lend [bk13]) (hr.le fun b o h=>l5 b o (l4 b o (l3 b o (l2 b o (l1 b o h))))) hn e5 ⟨by simp,h5⟩ t1).mono ?_⟩
 rintro r V6 l6 ⟨u,w,at2,hv,hu1,hw1',hne,t2,hw2⟩
 have hv0:=hv
 obtain ⟨q1,m1,d1,q2,m2,d2,q3,m3,d3,q4,m4,d4,rfl,-⟩:=hv
 refine ⟨_,_,_,_,_,_,_,_,_,_,_,_,_,_,rfl,_,_,_,_,hw2,fun V7 l7=>?_⟩
 have l27:V2.Le V7:=fun b o h=>l7 b o (l6 b o (l5 b o (l4 b o (l3 b o h))))
 have l47:V4.Le V7:=fun b o h=>l7 b o (l6 b o (l5 b o h))
 have l67:V6.Le V7:=fun b o h=>l7 b o h
 refine (c_ref04_Add (hp0.le l27) (hq0.le l47) (hv0.le l67) (k:=10) (m:=10) (sz4 (by omega)) (sz4 (by omega)) (sz4 (by omega)) (sz4 (by omega)) (sz4 (by omega)) (by omega)).mono ?_
 rintro r V8 l8 hs
 have hs0:=hs
 obtain ⟨s1,i1,j1,s2,i2,j2,s3,i3,j3,s4,i4,j4,rfl,-⟩:=hs
 have f1:(x:Rat) + ((1:Int):Rat) * (u:Rat)=((x + u:Int):Rat):=by rw [← Rat.intCast_mul,← Rat.intCast_add,Int.one_mul]
 have f2:(y:Rat) + ((1:Int):Rat) * (w:Rat)=((y + w:Int):Rat):=by rw [← Rat.intCast_mul,← Rat.intCast_add,Int.one_mul]
 refine ⟨_,_,_,_,_,_,_,_,_,_,_,_,_,_,rfl,fun V9 l9=>(c_ref04_Through (hp0.le (l27.trans (l8.trans l9))) (hs0.le l9) (k:=10) (sz4 (by omega)) (sz4 (by omega)) (by rw [f1]; exact sz4 (by omega)) (by rw [f2]; exact sz4 (by omega)) (by omega) (by omega)).mono ?_⟩
 rintro r V10 l10 ⟨-,h⟩
 rw [thr_int] at h
 have n1:((-w:Int):Rat).num=-w:=rfl
 have n2:((u:Int):Rat).num=u:=rfl
 have n3:((w * x - u * y:Int):Rat).num=w * x - u * y:=rfl
 dsimp only at h
 rw [n1,n2,n3] at h
 obtain ⟨l,rfl,hl⟩:=h (by omega)
 have m1:=mul_bd hw1' hx1
 have m2:=mul_bd hu1 hy1
 obtain ⟨k1,k2⟩:=lnOf_ok (a:=-w) (b:=u) (c:=w * x - u * y) (by omega) (by omega) (by omega) (by omega)
 have hl0:=hl
 obtain ⟨b1,u1,v1,w1,b2,u2,v2,w2,b3,u3,v3,w3,rfl⟩:=(RL_shape' hl)
 exact ⟨_,_,_,_,_,_,_,_,_,_,_,_,_,rfl,fun V11 l11 e11=>⟨lnOf (-w) u (w * x - u * y),at2,hl0.le l11,k1,k2,t2,e11⟩⟩
end Go.Proofs.Tryz
/- By program: the conditions of the functions, from their loaded code. -/
namespace Go.Proofs.Tryz
open Go.Eng
open Go.Value renaming int→I,pointer→P,slice→S,agg→A,bool→B,tuple→T
open Go.IntKind renaming i64→J,u64→U,u32→W
set_option maxRecDepth 100000
theorem vc_scene_Tape_Q (a:Nat) (p:OA) (q r:Nat) (s:Int) (V:View) (R:VR) (hw100000:V.w.heap[a]?=some (.cells #[S p q r,I J s] 105 (0,0))) (hx100000:V.X a) (h:(∀f,V.Le f->∀b:Nat,(f.w.heap[b]?=some (.cells #[S p q r,I J s] 105 (0,0)))->(f.H b)->Acts prog 33 #[P (some ⟨b,0,none⟩),I J 9] (f.lend [b]) fun c7 y=>∃g,c7=I J g/\∃z a0 a1,∃a2,y.w.heap[b]?=some (.cells #[S z a0 a1,I J a2] 105 (0,0))/\(∀i,y.shut.Le i->∀d:Nat,(i.w.heap[d]?=some (.cells #[S z a0 a1,I J a2] 105 (0,0)))->(i.H d)->Acts prog 33 #[P (some ⟨d,0,none⟩),I J 6] (i.lend [d]) fun c8 k=>∃e,c8=I J e/\∃l m n,∃o,k.w.heap[d]?=some (.cells #[S l m n,I J o] 105 (0,0))/\(((e == (0:Int))=true->(∀a3,k.shut.Le a3->Acts prog 65 #[I J (J.wrap ((J.wrap ((2:Int) * (J.wrap (g - (4:Int)))))+1)),I J 2] a3 fun c9 d0=>∃a4,∃a5 a6 a7,∃a8 a9 b0,c9=A #[B a4,S a5 a6 a7,S a8 a9 b0]/\(∀t,d0.Le t->t.w.heap[a]?=some (.cells #[S l m n,I J o] 105 (0,0))->R (A #[B a4,S a5 a6 a7,S a8 a9 b0]) t)))/\((e == (0:Int))=false->(((e == (1:Int))=true->(∀b1,k.shut.Le b1->Acts prog 65 #[I J (J.wrap ((J.wrap ((3:Int) * (J.wrap (g - (4:Int)))))+1)),I J 3] b1 fun d1 d2=>∃b2,∃b3 b4 b5,∃b6 b7 b8,d1=A #[B b2,S b3 b4 b5,S b6 b7 b8]/\(∀u,d2.Le u->u.w.heap[a]?=some (.cells #[S l m n,I J o] 105 (0,0))->R (A #[B b2,S b3 b4 b5,S b6 b7 b8]) u)))/\((e == (1:Int))=false->(∀b9,k.shut.Le b9->Acts prog 57 #[I J (J.wrap (g - (4:Int)))] b9 fun d3 d4=>∃c0,∃c1 c2 c3,∃c4 c5 c6,d3=A #[B c0,S c1 c2 c3,S c4 c5 c6]/\(∀x,d4.Le x->x.w.heap[a]?=some (.cells #[S l m n,I J o] 105 (0,0))->R (A #[B c0,S c1 c2 c3,S c4 c5 c6]) x))))))))):
 Acts prog 20 #[P (some ⟨a,0,none⟩)] V R:=
 fn_does (LF:=LF0) (RF:=[1000007]) (β0:=(upd1 (fun _=>0) 100000 a)) tab_ok mixed [] [] func20 (by kernel_rfl) [(0,.c (.ptr 100000 0))] [(100000,⟨.lit [.v (S p q r),.v (I J s)],105⟩)] (by kernel_rfl) ⟨⟨hw100000,hx100000⟩,trivial,trivial⟩ h (by kernel_rfl)
theorem vc_scene_Tape_S (a:Nat) (a8:OA) (a9 b0:Nat) (b1:Int) (V:View) (R:VR) (hw100000:V.w.heap[a]?=some (.cells #[S a8 a9 b0,I J b1] 105 (0,0))) (hx100000:V.X a) (h:(∀x,V.Le x->∀d:Nat,(x.w.heap[d]?=some (.cells #[S a8 a9 b0,I J b1] 105 (0,0)))->(x.H d)->Acts prog 20 #[P (some ⟨d,0,none⟩)] (x.lend [d]) fun f9 c3=>∃e,∃f g i,∃k l m,f9=A #[B e,S f g i,S k l m]/\∃c4 c5 c6,∃c7,c3.w.heap[d]?=some (.cells #[S c4 c5 c6,I J c7] 105 (0,0))/\(∀y,c3.shut.Le y->∀n:Nat,(y.w.heap[n]?=some (.cells #[S c4 c5 c6,I J c7] 105 (0,0)))->(y.H n)->Acts prog 33 #[P (some ⟨n,0,none⟩),I J 6] (y.lend [n]) fun g0 c8=>∃c9,g0=I J c9/\∃d0 d1 d2,∃d3,c8.w.heap[n]?=some (.cells #[S d0 d1 d2,I J d3] 105 (0,0))/\(∀d4,c8.shut.Le d4->Acts prog 65 #[I J (J.wrap ((1:Int) + c9)),I J 2] d4 fun g1 g2=>∃d5,∃d6 d7 d8,∃d9 e0 e1,g1=A #[B d5,S d6 d7 d8,S d9 e0 e1]/\(Ca g2 80 #[A #[B e,S f g i,S k l m],A #[B d5,S d6 d7 d8,S d9 e0 e1]] fun g3 g4=>∃z,∃a0 a1 a2,∃a3 a4 a5,g3=A #[B z,S a0 a1 a2,S a3 a4 a5]/\(∀a6,g4.Le a6->∀o:Nat,(a6.w.heap[o]?=some (.cells #[S d0 d1 d2,I J d3] 105 (0,0)))->(a6.H o)->Acts prog 33 #[P (some ⟨o,0,none⟩),I J 8] (a6.lend [o]) fun g5 p=>∃b,g5=I J b/\∃q r s,∃t,p.w.heap[o]?=some (.cells #[S q r s,I J t] 105 (0,0))/\(((b == (0:Int))=true->(∀b2,p.shut.Le b2->b2.w.heap[a]?=some (.cells #[S q r s,I J t] 105 (0,0))->R (A #[B false,S none 0 0,S none 0 0,B z,S a0 a1 a2,S a3 a4 a5,B true,B false]) b2))/\((b == (0:Int))=false->(((b == (1:Int))=true->(∀b3,p.shut.Le b3->b3.w.heap[a]?=some (.cells #[S q r s,I J t] 105 (0,0))->R (A #[B e,S f g i,S k l m,B false,S none 0 0,S none 0 0,B false,B true]) b3))/\((b == (1:Int))=false->(((b == (2:Int))=true->(∀a7,p.shut.Le a7->∀u:Nat,(a7.w.heap[u]?=some (.cells #[S q r s,I J t] 105 (0,0)))->(a7.H u)->Acts prog 33 #[P (some ⟨u,0,none⟩),I J 4] (a7.lend [u]) fun g6 b4=>∃b5,g6=I J b5/\∃b6 b7 b8,∃b9,b4.w.heap[u]?=some (.cells #[S b6 b7 b8,I J b9] 105 (0,0))/\(((b5 == (0:Int))=true->(∀e2,b4.shut.Le e2->Acts prog 81 #[] e2 fun g7 g8=>∃e3,∃e4 e5 e6,∃e7 e8 e9,∃f0,∃f1 f2 f3,∃f4 f5 f6,∃f7,∃f8,g7=A #[B e3,S e4 e5 e6,S e7 e8 e9,B f0,S f1 f2 f3,S f4 f5 f6,B f7,B f8]/\(∀c0,g8.Le c0->c0.w.heap[a]?=some (.cells #[S b6 b7 b8,I J b9] 105 (0,0))->R (A #[B e3,S e4 e5 e6,S e7 e8 e9,B f0,S f1 f2 f3,S f4 f5 f6,B f7,B f8]) c0)))/\((b5 == (0:Int))=false->(∀c1,b4.shut.Le c1->c1.w.heap[a]?=some (.cells #[S b6 b7 b8,I J b9] 105 (0,0))->R (A #[B e,S f g i,S k l m,B z,S a0 a1 a2,S a3 a4 a5,B false,B false]) c1)))))/\((b == (2:Int))=false->(∀c2,p.shut.Le c2->c2.w.heap[a]?=some (.cells #[S q r s,I J t] 105 (0,0))->R (A #[B e,S f g i,S k l m,B z,S a0 a1 a2,S a3 a4 a5,B false,B false]) c2))))))))))))):
 Acts prog 34 #[P (some ⟨a,0,none⟩)] V R:=
 fn_does (LF:=LF0) (RF:=[1000007]) (β0:=(upd1 (fun _=>0) 100000 a)) tab_ok mixed [] [] func34 (by kernel_rfl) [(0,.c (.ptr 100000 0))] [(100000,⟨.lit [.v (S a8 a9 b0),.v (I J b1)],105⟩)] (by kernel_rfl) ⟨⟨hw100000,hx100000⟩,trivial,trivial⟩ h (by kernel_rfl)
theorem vc_scene_Tape_F (a:Nat) (o:OA) (p q:Nat) (r:Int) (V:View) (R:VR) (hw100000:V.w.heap[a]?=some (.cells #[S o p q,I J r] 105 (0,0))) (hx100000:V.X a) (h:(∀i,V.Le i->∀b:Nat,(i.w.heap[b]?=some (.cells #[S o p q,I J r] 105 (0,0)))->(i.H b)->Acts prog 33 #[P (some ⟨b,0,none⟩),I J 3] (i.lend [b]) fun o9 s=>∃t,o9=I J t/\∃u x y,∃z,s.w.heap[b]?=some (.cells #[S u x y,I J z] 105 (0,0))/\(((t == (0:Int))=true->(∀k,s.shut.Le k->∀d:Nat,(k.w.heap[d]?=some (.cells #[S u x y,I J z] 105 (0,0)))->(k.H d)->Acts prog 39 #[P (some ⟨d,0,none⟩)] (k.lend [d]) fun p0 b6=>∃b7,∃b8 b9 c0,∃c1,∃c2 c3 c4,∃c5,∃c6 c7 c8,p0=A #[B b7,S b8 b9 c0,B c1,S c2 c3 c4,B c5,S c6 c7 c8]/\∃c9 d0 d1,∃d2,b6.w.heap[d]?=some (.cells #[S c9 d0 d1,I J d2] 105 (0,0))/\(∀l,b6.shut.Le l->∀e:Nat,(l.w.heap[e]?=some (.cells #[S c9 d0 d1,I J d2] 105 (0,0)))->(l.H e)->Acts prog 34 #[P (some ⟨e,0,none⟩)] (l.lend [e]) fun p1 d3=>∃d4,∃d5 d6 d7,∃d8 d9 e0,∃e1,∃e2 e3 e4,∃e5 e6 e7,∃e8,∃e9,p1=A #[B d4,S d5 d6 d7,S d8 d9 e0,B e1,S e2 e3 e4,S e5 e6 e7,B e8,B e9]/\∃f0 f1 f2,∃f3,d3.w.heap[e]?=some (.cells #[S f0 f1 f2,I J f3] 105 (0,0))/\(∀a0,d3.shut.Le a0->a0.w.heap[a]?=some (.cells #[S f0 f1 f2,I J f3] 105 (0,0))->R (A #[B b7,S b8 b9 c0,B c1,S c2 c3 c4,B c5,S c6 c7 c8,B d4,S d5 d6 d7,S d8 d9 e0,B e1,S e2 e3 e4,S e5 e6 e7,B e8,B e9]) a0))))/\((t == (0:Int))=false->(∀m,s.shut.Le m->∀f:Nat,(m.w.heap[f]?=some (.cells #[S u x y,I J z] 105 (0,0)))->(m.H f)->Acts prog 55 #[P (some ⟨f,0,none⟩)] (m.lend [f]) fun p2 f4=>∃a1,∃a2 a3 a4,∃a5 a6 a7,∃a8,∃a9 b0 b1,∃b2 b3 b4,p2=A #[B a1,S a2 a3 a4,S a5 a6 a7,B a8,S a9 b0 b1,S b2 b3 b4]/\∃f5 f6 f7,∃f8,f4.w.heap[f]?=some (.cells #[S f5 f6 f7,I J f8] 105 (0,0))/\(∀f9,f4.shut.Le f9->Acts prog 57 #[I J 1] f9 fun p3 p4=>∃g0,∃g1 g2 g3,∃g4 g5 g6,p3=A #[B g0,S g1 g2 g3,S g4 g5 g6]/\(∀n,p4.Le n->∀g:Nat,(n.w.heap[g]?=some (.cells #[S f5 f6 f7,I J f8] 105 (0,0)))->(n.H g)->Acts prog 58 #[P (some ⟨g,0,none⟩)] (n.lend [g]) fun p5 g7=>∃g8,∃g9 i0 i1,∃i2 i3 i4,∃i5,∃i6 i7 i8,∃i9 k0 k1,p5=A #[B g8,S g9 i0 i1,S i2 i3 i4,B i5,S i6 i7 i8,S i9 k0 k1]/\∃k2 k3 k4,∃k5,g7.w.heap[g]?=some (.cells #[S k2 k3 k4,I J k5] 105 (0,0))/\(∀k6,g7.shut.Le k6->Acts prog 56 #[A #[B a1,S a2 a3 a4,S a5 a6 a7,B a8,S a9 b0 b1,S b2 b3 b4],A #[B g0,S g1 g2 g3,S g4 g5 g6],A #[B g8,S g9 i0 i1,S i2 i3 i4,B i5,S i6 i7 i8,S i9 k0 k1]] k6 fun p6 p7=>∃k7,∃k8 k9 l0,∃l1 l2 l3,∃l4,∃l5 l6 l7,∃l8 l9 m0,p6=A #[B k7,S k8 k9 l0,S l1 l2 l3,B l4,S l5 l6 l7,S l8 l9 m0]/\(Ca p7 11 #[A #[B a1,S a2 a3 a4,S a5 a6 a7,B a8,S a9 b0 b1,S b2 b3 b4],A #[B k7,S k8 k9 l0,S l1 l2 l3,B l4,S l5 l6 l7,S l8 l9 m0]] fun p8 p9=>∃m1,∃m2 m3 m4,∃m5,∃m6 m7 m8,∃m9,∃n0 n1 n2,∃n3,∃n4 n5 n6,∃n7 n8 n9,∃o0,∃o1 o2 o3,∃o4 o5 o6,∃o7,∃o8,∃q0,p8=T #[A #[B m1,S m2 m3 m4,B m5,S m6 m7 m8,B m9,S n0 n1 n2,B n3,S n4 n5 n6,S n7 n8 n9,B o0,S o1 o2 o3,S o4 o5 o6,B o7,B o8],B q0]/\(∀b5,p9.Le b5->b5.w.heap[a]?=some (.cells #[S k2 k3 k4,I J k5] 105 (0,0))->R (A #[B m1,S m2 m3 m4,B m5,S m6 m7 m8,B m9,S n0 n1 n2,B n3,S n4 n5 n6,S n7 n8 n9,B o0,S o1 o2 o3,S o4 o5 o6,B o7,B o8]) b5)))))))))):
 Acts prog 14 #[P (some ⟨a,0,none⟩)] V R:=
 fn_does (LF:=LF0) (RF:=[1000007]) (β0:=(upd1 (fun _=>0) 100000 a)) tab_ok mixed [] [] func14 (by kernel_rfl) [(0,.c (.ptr 100000 0))] [(100000,⟨.lit [.v (S o p q),.v (I J r)],105⟩)] (by kernel_rfl) ⟨⟨hw100000,hx100000⟩,trivial,trivial⟩ h (by kernel_rfl)
end Go.Proofs.Tryz
/- Contracts: num.Part; the tape's Q and Point. -/
namespace Go.Proofs.Tryz
open Go.Eng Go.Big
theorem c_num_Part {V:View} (n:Int) (d:Nat) (h0:-1000<=n) (h1:n<=1000) (hd0:d≠0) (hd:d<=1000) :
  Acts prog 65 #[.int .i64 n,.int .i64 (d:Int)] V fun r V'=>RQ V' r (mkRat n d):=by
 refine vc_num_Part n d V _ fun V1 l1=>(c_num_Int n (by omega) (by omega)).mono ?_
 rintro r V2 l2 ⟨p,m,c,rfl,g⟩
 rw [u64w (by omega)]
 refine ⟨_,_,_,_,rfl,fun V3 l3=>(c_num_Word d (by omega)).mono ?_⟩
 rintro r V4 l4 ⟨p2,m2,c2,rfl,g2⟩
 refine ⟨_,_,_,rfl,fun V5 l5=>(c_num_Frac n (g.le (l3.trans (l4.trans l5))) (g2.le l5) (Nat.le_trans (digs_len_bits (k:=10) (by omega)) (by omega)) (Nat.le_trans (digs_len_bits (k:=10) (by omega)) (by omega)) hd0).mono ?_⟩
 rintro r V6 l6 h
 have h':=h
 obtain ⟨_,_,_,_,_,_,rfl⟩:=h.shape
 exact ⟨_,_,_,_,_,_,_,rfl,fun V7 l7=>h'.le l7⟩
theorem sz_half:∀x:Fin 9,Sz 10 (mkRat (2 * ((x.1:Int) - 4) + 1) 2)/\Sz 10 (mkRat (3 * ((x.1:Int) - 4) + 1) 3):=by unfold Sz; decide +kernel
theorem c_Q {V:View} {tb:Nat} {p:OA} {n c:Nat} {at_:Int} (hr:Rdl V p n) (hn:n<=400) (hw:TpAt V tb p n c at_) (hx:V.X tb) (h0:0<=at_) :
  Acts prog 20 #[.pointer (some ⟨tb,0,none⟩)] V fun r V'=>∃(q:Rat) (at':Int),RQ V' r q/\Sz 10 q/\0<=at'/\TpAt V' tb p n c at':=by
 refine vc_scene_Tape_Q tb p n c at_ V _ hw hx fun V1 l1 bk1 e1 h1=>(c_Next (V:=V1.lend [bk1]) 9 (hr.le fun b o h=>l1 b o h) hn e1 ⟨by simp,h1⟩ h0 (by omega) (by omega)).mono ?_
 rintro r V2 l2 ⟨x,at1,rfl,x0,x1,t1,hw1⟩
 refine ⟨_,rfl,_,_,_,_,hw1,fun V3 l3 bk5 e3 h3=>(c_Next (V:=V3.lend [bk5]) 6 (hr.le fun b o h=>l3 b o (l2 b o (l1 b o h))) hn e3 ⟨by simp,h3⟩ t1 (by omega) (by omega)).mono ?_⟩
 rintro r V4 l4 ⟨y,at2,rfl,y0,y1,t2,hw2⟩
 obtain ⟨i,rfl⟩:∃i:Nat,x=i:=⟨x.toNat,by omega⟩
 obtain ⟨z1,z2⟩:=sz_half ⟨i,by omega⟩
 dsimp only at z1 z2
 have w1:i64.wrap ((i:Int) - 4)=(i:Int) - 4:=i64w (by omega)
 have w2:i64.wrap (i64.wrap (2 * ((i:Int) - 4)) + 1)=2 * ((i:Int) - 4) + 1:=by rw [i64w (x:=2 * ((i:Int) - 4)) (by omega),i64w (by omega)]
 have w3:i64.wrap (i64.wrap (3 * ((i:Int) - 4)) + 1)=3 * ((i:Int) - 4) + 1:=by rw [i64w (x:=3 * ((i:Int) - 4)) (by omega),i64w (by omega)]
 rw [w1,w2,w3]
 refine ⟨_,rfl,_,_,_,_,hw2,fun _ V5 l5=>(c_num_Part (2 * ((i:Int) - 4) + 1) 2 (by omega) (by omega) (by omega) (by omega)).mono ?_,fun _=>⟨fun _ V8 l8=>(c_num_Part (3 * ((i:Int) - 4) + 1) 3 (by omega) (by omega) (by omega) (by omega)).mono ?_,fun _ V11 l11=>(c_num_Of ((i:Int) - 4) (by omega) (by omega)).mono ?_⟩⟩
 ·rintro r V6 l6 h
  have h':=h
  obtain ⟨_,_,_,_,_,_,rfl⟩:=h.shape
  exact ⟨_,_,_,_,_,_,_,rfl,fun V7 l7 e7=>⟨_,at2,h'.le l7,z1,t2,e7⟩⟩
 ·rintro r V6 l6 h
  have h':=h
  obtain ⟨_,_,_,_,_,_,rfl⟩:=h.shape
  exact ⟨_,_,_,_,_,_,_,rfl,fun V7 l7 e7=>⟨_,at2,h'.le l7,z2,t2,e7⟩⟩
 ·rintro r V6 l6 h
  have h':=h
  obtain ⟨_,_,_,_,_,_,rfl⟩:=h.shape
  exact ⟨_,_,_,_,_,_,_,rfl,fun V7 l7 e7=>⟨_,at2,h'.le l7,sz4 (by omega),t2,e7⟩⟩
end Go.Proofs.Tryz
/- By program: the conditions of the functions, from their loaded code. -/
namespace Go.Proofs.Tryz
open Go.Eng
open Go.Value renaming int→I,pointer→P,slice→S,agg→A,bool→B,tuple→T
open Go.IntKind renaming i64→J,u64→U,u32→W
set_option maxRecDepth 100000
theorem vc_geo_end (a:Bool) (d:OA) (b e:Nat) (f:OA) (c g:Nat) (i:Bool) (V:View) (R:VR) (h:((i=true->(((!a)=true->((((b:Int) == (0:Int))=true->(Rt V R (T #[A #[I J 0,I J 0,P none],B ((c:Int) == (0:Int))])))/\(((b:Int) == (0:Int))=false->(Rt V R (T #[A #[I J 0,I J 0,P none],B false])))))/\((!a)=false->(Rt V R (T #[A #[I J 0,I J 0,P none],B false])))))/\(i=false->(Ca V 102 #[A #[B a,S d b e,S f c g]] fun s t=>∃n,∃o,∃p,s=A #[I J n,I J o,P p]/\(Ca t 209 #[A #[B a,S d b e,S f c g]] fun u w=>∃q,u=B q/\(Rt w R (T #[A #[I J n,I J o,P p],B q]))))))):
 Acts prog 171 #[A #[B a,S d b e,S f c g],B i] V R:=
 fd (LF:=LF0) (RF:=[1000007]) [] [] func171 h
theorem vc_geo_IvOf (n:Bool) (o:OA) (p q:Nat) (r:OA) (s t:Nat) (u:Bool) (w:OA) (x y:Nat) (z:OA) (a0 a1:Nat) (a b:Bool) (V:View) (R:VR) (h:(Ca V 171 #[A #[B n,S o p q,S r s t],B a] fun a6 a7=>∃c,∃d,∃e,∃k,a6=T #[A #[I J c,I J d,P e],B k]/\(Ca a7 171 #[A #[B u,S w x y,S z a0 a1],B b] fun a8 l=>∃f,∃g,∃i,∃m,a8=T #[A #[I J f,I J g,P i],B m]/\((k=true->((m=true->(Ca l 172 #[A #[I J c,I J d,P e,I J f,I J g,P i,B a,B b]] fun a9 b0=>∃a2,a9=B a2/\(Rt b0 R (T #[A #[I J c,I J d,P e,I J f,I J g,P i,B a,B b],B (!a2)]))))/\(m=false->(Rt l R (T #[A #[I J c,I J d,P e,I J f,I J g,P i,B a,B b],B false])))))/\(k=false->(Rt l R (T #[A #[I J c,I J d,P e,I J f,I J g,P i,B a,B b],B false]))))))):
 Acts prog 122 #[A #[B n,S o p q,S r s t,B u,S w x y,S z a0 a1,B a,B b]] V R:=
 fd (LF:=LF0) (RF:=[1000007]) [] [] func122 h
theorem vc_geo_Iv_API (o p:Int) (q:OA) (c d:Int) (e:OA) (b a:Bool) (V:View) (R:VR) (h:(((!b)=true->(Ca V 144 #[A #[I J o,I J p,P q]] fun b1 r=>∃f,∃g i k,∃l m n,b1=A #[B f,S g i k,S l m n]/\(((!a)=true->(Ca r 144 #[A #[I J c,I J d,P e]] fun b2 b3=>∃s,∃t u w,∃x y z,b2=A #[B s,S t u w,S x y z]/\(Rt b3 R (A #[B f,S g i k,S l m n,B s,S t u w,S x y z,B b,B a]))))/\((!a)=false->(Rt r R (A #[B f,S g i k,S l m n,B false,S none 0 0,S none 0 0,B b,B a]))))))/\((!b)=false->(((!a)=true->(Ca V 144 #[A #[I J c,I J d,P e]] fun b4 b5=>∃a2,∃a3 a4 a5,∃a6 a7 a8,b4=A #[B a2,S a3 a4 a5,S a6 a7 a8]/\(Rt b5 R (A #[B false,S none 0 0,S none 0 0,B a2,S a3 a4 a5,S a6 a7 a8,B b,B a]))))/\((!a)=false->(Rt V R (A #[B false,S none 0 0,S none 0 0,B false,S none 0 0,S none 0 0,B b,B a]))))))):
 Acts prog 104 #[A #[I J o,I J p,P q,I J c,I J d,P e,B b,B a]] V R:=
 fd (LF:=LF0) (RF:=[1000007]) [] [] func104 h
theorem vc_geo_Iv_empty (c d:Int) (e:OA) (f g:Int) (i:OA) (a b:Bool) (V:View) (R:VR) (h:(((!a)=true->(((!b)=true->(Ca V 175 #[A #[I J c,I J d,P e],A #[I J f,I J g,P i]] fun o p=>∃k,o=I J k/\(Rt p R (B (decide (k ≥ (0:Int)))))))/\((!b)=false->(Rt V R (B false)))))/\((!a)=false->(Rt V R (B false))))):
 Acts prog 172 #[A #[I J c,I J d,P e,I J f,I J g,P i,B a,B b]] V R:=
 fd (LF:=LF0) (RF:=[1000007]) [] [] func172 h
theorem vc_geo_Iv_Has (m n:Int) (o:OA) (e f:Int) (g:OA) (i a:Bool) (b c:Int) (d:OA) (V:View) (R:VR) (h:((i=true->((a=true->(Rt V R (B true)))/\(a=false->(Ca V 175 #[A #[I J e,I J f,P g],A #[I J b,I J c,P d]] fun x y=>∃q,x=I J q/\(Rt y R (B (decide (q ≥ (0:Int)))))))))/\(i=false->(Ca V 175 #[A #[I J m,I J n,P o],A #[I J b,I J c,P d]] fun z k=>∃l,z=I J l/\(((decide (l<=(0:Int)))=true->((a=true->(Rt k R (B true)))/\(a=false->(Ca k 175 #[A #[I J e,I J f,P g],A #[I J b,I J c,P d]] fun a0 a1=>∃t,a0=I J t/\(Rt a1 R (B (decide (t ≥ (0:Int)))))))))/\((decide (l<=(0:Int)))=false->(Rt k R (B false)))))))):
 Acts prog 124 #[A #[I J m,I J n,P o,I J e,I J f,P g,B i,B a],A #[I J b,I J c,P d]] V R:=
 fd (LF:=LF0) (RF:=[1000007]) [] [] func124 h
theorem vc_geo_Iv_Neg (c d:Int) (e:OA) (k l:Int) (m:OA) (a b:Bool) (V:View) (R:VR) (h:(((!b)=true->(Ca V 161 #[A #[I J k,I J l,P m]] fun z n=>∃f,∃g,∃i,z=A #[I J f,I J g,P i]/\(((!a)=true->(Ca n 161 #[A #[I J c,I J d,P e]] fun a0 a1=>∃o,∃p,∃q,a0=A #[I J o,I J p,P q]/\(Rt a1 R (A #[I J f,I J g,P i,I J o,I J p,P q,B b,B a]))))/\((!a)=false->(Rt n R (A #[I J f,I J g,P i,I J 0,I J 0,P none,B b,B a]))))))/\((!b)=false->(((!a)=true->(Ca V 161 #[A #[I J c,I J d,P e]] fun a2 a3=>∃t,∃u,∃w,a2=A #[I J t,I J u,P w]/\(Rt a3 R (A #[I J 0,I J 0,P none,I J t,I J u,P w,B b,B a]))))/\((!a)=false->(Rt V R (A #[I J 0,I J 0,P none,I J 0,I J 0,P none,B b,B a]))))))):
 Acts prog 126 #[A #[I J c,I J d,P e,I J k,I J l,P m,B a,B b]] V R:=
 fd (LF:=LF0) (RF:=[1000007]) [] [] func126 h
theorem vc_geo_FrOf (u:Bool) (w:OA) (x y:Nat) (z:Bool) (a0:OA) (a1 a2:Nat) (a3:Bool) (a4:OA) (a5 a6:Nat) (a7:Bool) (a8:OA) (a9 b0:Nat) (b1:OA) (b2 b3:Nat) (b4:Bool) (b5:OA) (b6 b7:Nat) (b8:OA) (b9 c0:Nat) (c1 c2:Bool) (V:View) (R:VR) (h:(Ca V 90 #[A #[B u,S w x y,B z,S a0 a1 a2,B a3,S a4 a5 a6]] fun c7 c8=>∃a,∃b,∃c,∃d,∃e,∃f,∃g,∃i,∃k,∃l,c7=T #[A #[I J a,I J b,P c,I J d,I J e,P f,I J g,I J i,P k],B l]/\(Ca c8 122 #[A #[B a7,S a8 a9 b0,S b1 b2 b3,B b4,S b5 b6 b7,S b8 b9 c0,B c1,B c2]] fun c9 c3=>∃m,∃n,∃o,∃p,∃q,∃r,∃s,∃t,∃c4,c9=T #[A #[I J m,I J n,P o,I J p,I J q,P r,B s,B t],B c4]/\((l=true->(Rt c3 R (T #[A #[I J a,I J b,P c,I J d,I J e,P f,I J g,I J i,P k,I J m,I J n,P o,I J p,I J q,P r,B s,B t],B c4])))/\(l=false->(Rt c3 R (T #[A #[I J a,I J b,P c,I J d,I J e,P f,I J g,I J i,P k,I J m,I J n,P o,I J p,I J q,P r,B s,B t],B false]))))))):
 Acts prog 66 #[A #[B u,S w x y,B z,S a0 a1 a2,B a3,S a4 a5 a6,B a7,S a8 a9 b0,S b1 b2 b3,B b4,S b5 b6 b7,S b8 b9 c0,B c1,B c2]] V R:=
 fd (LF:=LF0) (RF:=[1000007]) [] [] func66 h
theorem vc_geo_Fr_API (a b:Int) (c:OA) (d e:Int) (f:OA) (g i:Int) (k:OA) (l m:Int) (n:OA) (o p:Int) (q:OA) (r s:Bool) (V:View) (R:VR) (h:(Ca V 103 #[A #[I J a,I J b,P c,I J d,I J e,P f,I J g,I J i,P k]] fun c3 c4=>∃t,∃u w x,∃y,∃z a0 a1,∃a2,∃a3 a4 a5,c3=A #[B t,S u w x,B y,S z a0 a1,B a2,S a3 a4 a5]/\(Ca c4 104 #[A #[I J l,I J m,P n,I J o,I J p,P q,B r,B s]] fun c5 c6=>∃a6,∃a7 a8 a9,∃b0 b1 b2,∃b3,∃b4 b5 b6,∃b7 b8 b9,∃c0,∃c1,c5=A #[B a6,S a7 a8 a9,S b0 b1 b2,B b3,S b4 b5 b6,S b7 b8 b9,B c0,B c1]/\(Rt c6 R (A #[B t,S u w x,B y,S z a0 a1,B a2,S a3 a4 a5,B a6,S a7 a8 a9,S b0 b1 b2,B b3,S b4 b5 b6,S b7 b8 b9,B c0,B c1]))))):
 Acts prog 49 #[A #[I J a,I J b,P c,I J d,I J e,P f,I J g,I J i,P k,I J l,I J m,P n,I J o,I J p,P q,B r,B s]] V R:=
 fd (LF:=LF0) (RF:=[1000007]) [] [] func49 h
theorem vc_geo_Segment (l m:Int) (n:OA) (o p:Int) (q:OA) (r s:Int) (t:OA) (u w:Int) (x:OA) (V:View) (R:VR) (h:(Ca V 100 #[A #[I J l,I J m,P n,I J o,I J p,P q],A #[I J r,I J s,P t,I J u,I J w,P x]] fun a8 z=>∃a,∃b,∃c,∃d,∃e,∃f,∃g,∃i,∃k,∃y,a8=T #[A #[I J a,I J b,P c,I J d,I J e,P f,I J g,I J i,P k],B y]/\(((!y)=true->(Rt z R (T #[A #[I J 0,I J 0,P none,I J 0,I J 0,P none,I J 0,I J 0,P none,I J 0,I J 0,P none,I J 0,I J 0,P none,B false,B false],B false])))/\((!y)=false->(Ca z 101 #[A #[I J a,I J b,P c,I J d,I J e,P f,I J g,I J i,P k],A #[I J l,I J m,P n,I J o,I J p,P q]] fun a9 b0=>∃a1,∃a2,∃a3,a9=A #[I J a1,I J a2,P a3]/\(Ca b0 101 #[A #[I J a,I J b,P c,I J d,I J e,P f,I J g,I J i,P k],A #[I J r,I J s,P t,I J u,I J w,P x]] fun b1 b2=>∃a4,∃a5,∃a6,b1=A #[I J a4,I J a5,P a6]/\(Rt b2 R (T #[A #[I J a,I J b,P c,I J d,I J e,P f,I J g,I J i,P k,I J a1,I J a2,P a3,I J a4,I J a5,P a6,B false,B false],B true])))))))):
 Acts prog 47 #[A #[I J l,I J m,P n,I J o,I J p,P q],A #[I J r,I J s,P t,I J u,I J w,P x]] V R:=
 fd (LF:=LF0) (RF:=[1000007]) [] [] func47 h
theorem vc_geo_Fr_End (b c:Int) (d:OA) (e f:Int) (g:OA) (i k:Int) (l:OA) (y z:Int) (a0:OA) (m n:Int) (o:OA) (a1 a:Bool) (V:View) (R:VR) (h:((a=true->(Rt V R (T #[A #[I J 0,I J 0,P none,I J 0,I J 0,P none],B false])))/\(a=false->(Ca V 118 #[A #[I J b,I J c,P d,I J e,I J f,P g,I J i,I J k,P l],A #[I J m,I J n,P o]] fun a2 a3=>∃q,∃r,∃s,∃t,∃u,∃w,a2=A #[I J q,I J r,P s,I J t,I J u,P w]/\(Rt a3 R (T #[A #[I J q,I J r,P s,I J t,I J u,P w],B true])))))):
 Acts prog 62 #[A #[I J b,I J c,P d,I J e,I J f,P g,I J i,I J k,P l,I J y,I J z,P a0,I J m,I J n,P o,B a1,B a]] V R:=
 fd (LF:=LF0) (RF:=[1000007]) [] [] func62 h
theorem vc_fragment_Valid (a:Bool) (b:OA) (c d:Nat) (e:Bool) (f:OA) (g i:Nat) (k:Bool) (l:OA) (m n:Nat) (o:Bool) (p:OA) (q r:Nat) (s:OA) (t u:Nat) (w:Bool) (x:OA) (y z:Nat) (a0:OA) (a1 a2:Nat) (a3 a4:Bool) (V:View) (R:VR) (h:(Ca V 66 #[A #[B a,S b c d,B e,S f g i,B k,S l m n,B o,S p q r,S s t u,B w,S x y z,S a0 a1 a2,B a3,B a4]] fun a7 a8=>∃a9,∃b0,∃b1,∃b2,∃b3,∃b4,∃b5,∃b6,∃b7,∃b8,∃b9,∃c0,∃c1,∃c2,∃c3,∃c4,∃c5,∃a5,a7=T #[A #[I J a9,I J b0,P b1,I J b2,I J b3,P b4,I J b5,I J b6,P b7,I J b8,I J b9,P c0,I J c1,I J c2,P c3,B c4,B c5],B a5]/\(Rt a8 R (B a5)))):
 Acts prog 30 #[A #[B a,S b c d,B e,S f g i,B k,S l m n,B o,S p q r,S s t u,B w,S x y z,S a0 a1 a2,B a3,B a4]] V R:=
 fd (LF:=LF0) (RF:=[1000007]) [] [] func30 h
theorem vc_fragment_FromPoints (b:Bool) (c:OA) (d e:Nat) (f:OA) (g i:Nat) (k:Bool) (l:OA) (m n:Nat) (o:OA) (p q:Nat) (r:Bool) (s:OA) (t u:Nat) (w:OA) (x y:Nat) (z:Bool) (a0:OA) (a1 a2:Nat) (a3:OA) (a4 a5:Nat) (V:View) (R:VR) (h:(Ca V 48 #[A #[B b,S c d e,S f g i,B k,S l m n,S o p q]] fun g6 g7=>∃a6,∃a7,∃a8,∃a9,∃b0,∃b1,g6=A #[I J a6,I J a7,P a8,I J a9,I J b0,P b1]/\(Ca g7 48 #[A #[B r,S s t u,S w x y,B z,S a0 a1 a2,S a3 a4 a5]] fun g8 g9=>∃b2,∃b3,∃b4,∃b5,∃b6,∃b7,g8=A #[I J b2,I J b3,P b4,I J b5,I J b6,P b7]/\(Ca g9 47 #[A #[I J a6,I J a7,P a8,I J a9,I J b0,P b1],A #[I J b2,I J b3,P b4,I J b5,I J b6,P b7]] fun i0 b8=>∃b9,∃c0,∃c1,∃c2,∃c3,∃c4,∃c5,∃c6,∃c7,∃c8,∃c9,∃d0,∃d1,∃d2,∃d3,∃d4,∃d5,∃a,i0=T #[A #[I J b9,I J c0,P c1,I J c2,I J c3,P c4,I J c5,I J c6,P c7,I J c8,I J c9,P d0,I J d1,I J d2,P d3,B d4,B d5],B a]/\(((!a)=true->(Rt b8 R (T #[A #[B false,S none 0 0,B false,S none 0 0,B false,S none 0 0,B false,S none 0 0,S none 0 0,B false,S none 0 0,S none 0 0,B false,B false],B false])))/\((!a)=false->(Ca b8 49 #[A #[I J b9,I J c0,P c1,I J c2,I J c3,P c4,I J c5,I J c6,P c7,I J c8,I J c9,P d0,I J d1,I J d2,P d3,B d4,B d5]] fun i1 i2=>∃d7,∃d8 d9 e0,∃e1,∃e2 e3 e4,∃e5,∃e6 e7 e8,∃e9,∃f0 f1 f2,∃f3 f4 f5,∃f6,∃f7 f8 f9,∃g0 g1 g2,∃g3,∃g4,i1=A #[B d7,S d8 d9 e0,B e1,S e2 e3 e4,B e5,S e6 e7 e8,B e9,S f0 f1 f2,S f3 f4 f5,B f6,S f7 f8 f9,S g0 g1 g2,B g3,B g4]/\(Rt i2 R (T #[A #[B d7,S d8 d9 e0,B e1,S e2 e3 e4,B e5,S e6 e7 e8,B e9,S f0 f1 f2,S f3 f4 f5,B f6,S f7 f8 f9,S g0 g1 g2,B g3,B g4],B true]))))))))):
 Acts prog 9 #[A #[B b,S c d e,S f g i,B k,S l m n,S o p q],A #[B r,S s t u,S w x y,B z,S a0 a1 a2,S a3 a4 a5]] V R:=
 fd (LF:=LF0) (RF:=[1000007]) [] [] func9 h
theorem vc_fragment_end_End (a:Bool) (b:OA) (d e:Nat) (f:Bool) (g:OA) (i k:Nat) (l:Bool) (m:OA) (n o:Nat) (p:Bool) (q:OA) (r s:Nat) (t:OA) (u w:Nat) (x:Bool) (y:OA) (z a0:Nat) (a1:OA) (a2 a3:Nat) (a4 a5:Bool) (V:View) (R:VR) (h:(Ca V 66 #[A #[B a,S b d e,B f,S g i k,B l,S m n o,B p,S q r s,S t u w,B x,S y z a0,S a1 a2 a3,B a4,B a5]] fun f0 a8=>∃a9,∃b0,∃b1,∃b2,∃b3,∃b4,∃b5,∃b6,∃b7,∃b8,∃b9,∃c0,∃c1,∃c2,∃c3,∃c4,∃c5,∃a6,f0=T #[A #[I J a9,I J b0,P b1,I J b2,I J b3,P b4,I J b5,I J b6,P b7,I J b8,I J b9,P c0,I J c1,I J c2,P c3,B c4,B c5],B a6]/\(((!a6)=true->(Rt a8 R (T #[A #[B false,S none 0 0,S none 0 0,B false,S none 0 0,S none 0 0],B false])))/\((!a6)=false->(Ca a8 62 #[A #[I J a9,I J b0,P b1,I J b2,I J b3,P b4,I J b5,I J b6,P b7,I J b8,I J b9,P c0,I J c1,I J c2,P c3,B c4,B c5]] fun f1 c7=>∃c8,∃c9,∃d0,∃d1,∃d2,∃d3,∃a7,f1=T #[A #[I J c8,I J c9,P d0,I J d1,I J d2,P d3],B a7]/\(((!a7)=true->(Rt c7 R (T #[A #[B false,S none 0 0,S none 0 0,B false,S none 0 0,S none 0 0],B false])))/\((!a7)=false->(Ca c7 83 #[A #[I J c8,I J c9,P d0,I J d1,I J d2,P d3]] fun f2 f3=>∃d5,∃d6 d7 d8,∃d9 e0 e1,∃e2,∃e3 e4 e5,∃e6 e7 e8,f2=A #[B d5,S d6 d7 d8,S d9 e0 e1,B e2,S e3 e4 e5,S e6 e7 e8]/\(Rt f3 R (T #[A #[B d5,S d6 d7 d8,S d9 e0 e1,B e2,S e3 e4 e5,S e6 e7 e8],B true])))))))))):
 Acts prog 60 #[A #[B a,S b d e,B f,S g i k,B l,S m n o,B p,S q r s,S t u w,B x,S y z a0,S a1 a2 a3,B a4,B a5],.func (.func 62) #[] #[]] V R:=
 fn_does (LF:=LF0) (RF:=[1000007]) (β0:=(fun _=>0)) tab_ok mixed [] [] func60 (by kernel_rfl) [(0,.agg [.v (B a),.v (S b d e),.v (B f),.v (S g i k),.v (B l),.v (S m n o),.v (B p),.v (S q r s),.v (S t u w),.v (B x),.v (S y z a0),.v (S a1 a2 a3),.v (B a4),.v (B a5)]),(1,.c (.clo 62 []))] [] (by kernel_rfl) trivial h (by kernel_rfl)
theorem vc_fragment_End (a:Bool) (b:OA) (c d:Nat) (e:Bool) (f:OA) (g i:Nat) (k:Bool) (l:OA) (m n:Nat) (o:Bool) (p:OA) (q r:Nat) (s:OA) (t u:Nat) (w:Bool) (x:OA) (y z:Nat) (a0:OA) (a1 a2:Nat) (a3 a4:Bool) (V:View) (R:VR) (h:(Ca V 60 #[A #[B a,S b c d,B e,S f g i,B k,S l m n,B o,S p q r,S s t u,B w,S x y z,S a0 a1 a2,B a3,B a4],.func (.func 62) #[] #[]] fun c1 c2=>∃a5,∃a6 a7 a8,∃a9 b0 b1,∃b2,∃b3 b4 b5,∃b6 b7 b8,∃b9,c1=T #[A #[B a5,S a6 a7 a8,S a9 b0 b1,B b2,S b3 b4 b5,S b6 b7 b8],B b9]/\(Rt c2 R (T #[A #[B a5,S a6 a7 a8,S a9 b0 b1,B b2,S b3 b4 b5,S b6 b7 b8],B b9])))):
 Acts prog 17 #[A #[B a,S b c d,B e,S f g i,B k,S l m n,B o,S p q r,S s t u,B w,S x y z,S a0 a1 a2,B a3,B a4]] V R:=
 fd (LF:=LF0) (RF:=[1000007]) [] [] func17 h
theorem vc_point_FromInts (a b:Int) (V:View) (R:VR) (h:(Ca V 127 #[I J a] fun a0 a1=>∃c,∃d,∃e,a0=A #[I J c,I J d,P e]/\(Ca a1 127 #[I J b] fun a2 a3=>∃f,∃g,∃i,a2=A #[I J f,I J g,P i]/\(Ca a3 83 #[A #[I J c,I J d,P e,I J f,I J g,P i]] fun a4 a5=>∃k,∃l m n,∃o p q,∃r,∃s t u,∃w x y,a4=A #[B k,S l m n,S o p q,B r,S s t u,S w x y]/\(Rt a5 R (A #[B k,S l m n,S o p q,B r,S s t u,S w x y])))))):
 Acts prog 69 #[I J a,I J b] V R:=
 fd (LF:=LF0) (RF:=[1000007]) [] [] func69 h
theorem vc_point_Same (a:Bool) (b:OA) (c d:Nat) (e:OA) (f g:Nat) (i:Bool) (k:OA) (l m:Nat) (n:OA) (o p:Nat) (q:Bool) (r:OA) (s t:Nat) (u:OA) (w x:Nat) (y:Bool) (z:OA) (a0 a1:Nat) (a2:OA) (a3 a4:Nat) (V:View) (R:VR) (h:(Ca V 48 #[A #[B a,S b c d,S e f g,B i,S k l m,S n o p]] fun b9 c0=>∃a5,∃a6,∃a7,∃a8,∃a9,∃b0,b9=A #[I J a5,I J a6,P a7,I J a8,I J a9,P b0]/\(Ca c0 48 #[A #[B q,S r s t,S u w x,B y,S z a0 a1,S a2 a3 a4]] fun c1 c2=>∃b1,∃b2,∃b3,∃b4,∃b5,∃b6,c1=A #[I J b1,I J b2,P b3,I J b4,I J b5,P b6]/\(Ca c2 128 #[A #[I J a5,I J a6,P a7,I J a8,I J a9,P b0],A #[I J b1,I J b2,P b3,I J b4,I J b5,P b6]] fun c3 c4=>∃b7,c3=B b7/\(Rt c4 R (B b7)))))):
 Acts prog 70 #[A #[B a,S b c d,S e f g,B i,S k l m,S n o p],A #[B q,S r s t,S u w x,B y,S z a0 a1,S a2 a3 a4]] V R:=
 fd (LF:=LF0) (RF:=[1000007]) [] [] func70 h
end Go.Proofs.Tryz
/- Contracts: the reference's Side and Rev; the program's interval: Neg. -/
namespace Go.Proofs.Tryz
open Go.Eng Go.Big
theorem c_ref04_Side {V:View} {l p:Value} {l_0 l_1 l_2:Int} {p_0 p_1:Rat} (hl:RL V l l_0 l_1 l_2) (hp:RP V p p_0 p_1) {k:Nat} (s0:Sz k ((l_0:Int):Rat)) (s1:Sz k ((l_1:Int):Rat)) (s2:Sz k ((l_2:Int):Rat)) (s3:Sz k p_0) (s4:Sz k p_1) (hk:16 * k + 16 < 274877906944) :
  Acts prog 42 #[l,p] V fun r V'=>r=.int .i64 ((l_0:Rat) * p_0 + (l_1:Rat) * p_1 + (l_2:Rat)).num.sign:=by
 have hl0:=hl
 have hp0:=hp
 obtain ⟨a0,a1,a2,a3,a4,a5,a6,a7,a8,rfl,-,-,-⟩:=hl
 obtain ⟨p0,p1,p2,p3,p4,p5,p6,p7,p8,p9,p10,p11,rfl,-,-⟩:=hp
 refine vc_ref04_Side _ a0 a1 a2 _ a3 a4 a5 _ a6 a7 a8 _ p0 p1 p2 p3 p4 p5 _ p6 p7 p8 p9 p10 p11 V _ fun V1 l1=>(c_ref04_Value (hl0.le l1) (hp0.le l1) s0 s1 s2 s3 s4 (by omega)).mono ?_
 rintro r V2 l2 ⟨u0,u1,u2,u3,u4,u5,rfl,g1,g2⟩
 refine ⟨_,_,_,_,_,_,_,rfl,fun V3 l3=>(c_num_S _ (g1.le l3)).mono ?_⟩
 rintro r V4 l4 rfl
 exact ⟨_,rfl,fun V5 l5=>rfl⟩
theorem c_ref04_Rev {V:View} {l:Value} {a b c:Int} (hl:RL V l a b c):Acts prog 73 #[l] V fun r V'=>RL V' r (-a) (-b) (-c):=by
 obtain ⟨a0,a1,a2,a3,a4,a5,a6,a7,a8,rfl,h1,h2,h3⟩:=hl
 refine vc_ref04_Rev _ a0 a1 a2 _ a3 a4 a5 _ a6 a7 a8 V _ fun V1 l1=>(c_num_Minus a (h1.le l1)).mono ?_
 rintro r V2 l2 ⟨p1,n1,c1,rfl,g1⟩
 refine ⟨_,_,_,_,rfl,fun V3 l3=>(c_num_Minus b (h2.le (l1.trans (l2.trans l3)))).mono ?_⟩
 rintro r V4 l4 ⟨p2,n2,c2,rfl,g2⟩
 refine ⟨_,_,_,_,rfl,fun V5 l5=>(c_num_Minus c (h3.le (l1.trans (l2.trans (l3.trans (l4.trans l5)))))).mono ?_⟩
 rintro r V6 l6 ⟨p3,n3,c3,rfl,g3⟩
 exact ⟨_,_,_,_,rfl,fun V7 l7=>⟨_,_,_,_,_,_,_,_,_,rfl,g1.le (l3.trans (l4.trans (l5.trans (l6.trans l7)))),g2.le (l5.trans (l6.trans l7)),g3.le l7⟩⟩
end Go.Proofs.Tryz
