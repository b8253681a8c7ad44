/- A part of the proof (joined by program from: PtB, TreeP, LineA, VScene, SceneA, LineP, LineQ, SceneB, VSceneF, SceneD, VFrag, RefG, FrA). -/
import Derived.Test.YtalijajeenhebaaGreatDoorM13
import Derived.Test.YtalijajeenhebaaGreatDoorM12
import Derived.Test.YtalijajeenhebaaGreatDoorM5
import Derived.Test.YtalijajeenhebaaGreatDoorM10
set_option linter.unusedVariables false
open Go.IntKind (i64 u64 u32)
/- Contracts: points of package api, read, written and compared. -/
namespace Go.Proofs.Tryz
open Go.Eng Go.Big
theorem RA.shape {V:View} {v:Value} {q:Rat} (h:RA V v q):∃b p n c p' n' c',v=.agg #[.bool b,.slice p n c,.slice p' n' c']:=by
 obtain ⟨p,n,c,p',n',c',e,-⟩:=h; exact ⟨_,_,_,_,_,_,_,e⟩
/-- A point of package api in normal form. -/
def RAP (V:View) (v:Value) (x y:Rat):Prop:=∃b p n c p' n' c' d q m e q' m' e',v=.agg #[.bool b,.slice p n c,.slice p' n' c',.bool d,.slice q m e,.slice q' m' e'] /\
 RA V (.agg #[.bool b,.slice p n c,.slice p' n' c']) x/\RA V (.agg #[.bool d,.slice q m e,.slice q' m' e']) y
theorem RAP.le {V V':View} {v:Value} {x y:Rat} (h:RAP V v x y) (l:V.Le V'):RAP V' v x y:=by
 obtain ⟨b,p,n,c,p',n',c',d,q,m,e,q',m',e',rfl,h1,h2⟩:=h
 exact ⟨_,_,_,_,_,_,_,_,_,_,_,_,_,_,rfl,h1.le l,h2.le l⟩
theorem c_geo_PtOf {V:View} {v:Value} {x y:Rat} (h:RAP V v x y) {k:Nat} (s1:Sz k x) (s2:Sz k y) (hk:k<=1099511627776) :
  Acts prog 48 #[v] V fun r V'=>RPt V' r x y:=by
 obtain ⟨b,p,n,c,p',n',c',d,q,m,e,q',m',e',rfl,h1,h2⟩:=h
 refine vc_geo_PtOf b p n c p' n' c' d q m e q' m' e' V _ fun V1 l1=>(c_frac_Of (h1.le l1) s1 hk).mono ?_
 rintro r V2 l2 g1
 have g10:=g1
 obtain ⟨u,v,w,rfl⟩:=g1.shape
 refine ⟨_,_,_,rfl,fun V3 l3=>(c_frac_Of (h2.le (l1.trans (l2.trans l3))) s2 hk).mono ?_⟩
 rintro r V4 l4 g2
 have g20:=g2
 obtain ⟨u,v,w,rfl⟩:=g2.shape
 exact ⟨_,_,_,rfl,fun V5 l5=>⟨_,_,_,_,_,_,rfl,g10.le (l3.trans (l4.trans l5)),g20.le l5⟩⟩
theorem c_geo_Pt_API {V:View} {v:Value} {x y:Rat} (h:RPt V v x y) {k:Nat} (s1:Sz k x) (s2:Sz k y) (hk:k<=1099511627776) :
  Acts prog 83 #[v] V fun r V'=>RAP V' r x y:=by
 obtain ⟨p0,p1,p2,p3,p4,p5,rfl,h1,h2⟩:=h
 refine vc_geo_Pt_API p0 p1 p2 p3 p4 p5 V _ fun V1 l1=>(c_R_API (h1.le l1) s1 hk).mono ?_
 rintro r V2 l2 g1
 have g10:=g1
 obtain ⟨_,_,_,_,_,_,_,rfl⟩:=g1.shape
 refine ⟨_,_,_,_,_,_,_,rfl,fun V3 l3=>(c_R_API (h2.le (l1.trans (l2.trans l3))) s2 hk).mono ?_⟩
 rintro r V4 l4 g2
 have g20:=g2
 obtain ⟨_,_,_,_,_,_,_,rfl⟩:=g2.shape
 exact ⟨_,_,_,_,_,_,_,rfl,fun V5 l5=>⟨_,_,_,_,_,_,_,_,_,_,_,_,_,_,rfl,g10.le (l3.trans (l4.trans l5)),g20.le l5⟩⟩
theorem c_geo_Pt_Equal {V:View} {v w:Value} {x y x' y':Rat} (h:RPt V v x y) (h':RPt V w x' y') {k:Nat} (s1:Sz k x) (s2:Sz k y) (s3:Sz k x') (s4:Sz k y') (hk:2 * k < 1099511627776) :
  Acts prog 128 #[v,w] V fun r V'=>r=.bool (decide (x=x'/\y=y')):=by
 obtain ⟨p0,p1,p2,p3,p4,p5,rfl,h1,h2⟩:=h
 obtain ⟨q0,q1,q2,q3,q4,q5,rfl,h3,h4⟩:=h'
 refine vc_geo_Pt_Equal p0 p1 p2 p3 p4 p5 q0 q1 q2 q3 q4 q5 V _ fun V1 l1=>(c_R_Equal (h1.le l1) (h3.le l1) s1 s3 (by omega)).mono ?_
 rintro r V2 l2 rfl
 refine ⟨_,rfl,fun g V3 l3=>(c_R_Equal (h2.le (l1.trans (l2.trans l3))) (h4.le (l1.trans (l2.trans l3))) s2 s4 (by omega)).mono ?_,fun g V6 l6=>?_⟩
 ·have g:=of_decide_eq_true g
  rintro r V4 l4 rfl
  exact ⟨_,rfl,fun V5 l5=>by simp [g]⟩
 ·have g:=of_decide_eq_false g
  simp [g]
theorem c_geo_Ln_Side {V:View} {l p:Value} {l_0 l_1 l_2 p_0 p_1:Rat} (hl:RLn V l l_0 l_1 l_2) (hp:RPt V p p_0 p_1) {k:Nat} (s0:Sz k l_0) (s1:Sz k l_1) (s2:Sz k l_2) (s3:Sz k p_0) (s4:Sz k p_1) (hk:16 * k + 16 < 274877906944) :
  Acts prog 123 #[l,p] V fun r V'=>r=.int .i64 (l_0 * p_0 + l_1 * p_1 + l_2).num.sign:=by
 have hl0:=hl
 have hp0:=hp
 obtain ⟨a0,a1,a2,a3,a4,a5,a6,a7,a8,rfl,-,-,-⟩:=hl
 obtain ⟨p0,p1,p2,p3,p4,p5,rfl,-,-⟩:=hp
 refine vc_geo_Ln_Side a0 a1 a2 a3 a4 a5 a6 a7 a8 p0 p1 p2 p3 p4 p5 V _ fun V1 l1=>(c_geo_Ln_Value (hl0.le l1) (hp0.le l1) s0 s1 s2 s3 s4 (by omega)).mono ?_
 rintro r V2 l2 g
 have g0:=g
 obtain ⟨u,v,w,rfl⟩:=g.shape
 refine ⟨_,_,_,rfl,fun V3 l3=>(c_R_Sign (g0.le l3) (z_geo_Ln_Value_0 s0 s1 s2 s3 s4) (by omega)).mono ?_⟩
 rintro r V4 l4 rfl
 exact ⟨_,rfl,fun V5 l5=>rfl⟩
theorem c_ref01_ToQ {V:View} {v:Value} {q:Rat} (h:RQ V v q) {k:Nat} (s:Sz k q) (hk:k<=1099511627776):Acts prog 50 #[v] V fun r V'=>RA V' r q:=by
 obtain ⟨p,n,c,p',n',c',rfl,h1,h2⟩:=h
 have q1:=digs_len_bits s.1
 have q2:=digs_len_bits s.2
 refine vc_ref01_ToQ _ p n c p' n' c' V _ fun V1 l1=>(c_ref01_ToI ⟨_,_,_,rfl,h1.le l1⟩ (by omega)).mono ?_
 rintro r V2 l2 ⟨p1,n1,c1,rfl,g1⟩
 refine ⟨_,_,_,_,rfl,fun V3 l3=>(c_num_Den q _ (h2.le (l1.trans (l2.trans l3)))).mono ?_⟩
 rintro r V4 l4 ⟨p2,n2,c2,rfl,g2⟩
 refine ⟨_,_,_,rfl,fun V5 l5=>(c_ref01_ToN (g2.le l5) (by omega)).mono ?_⟩
 rintro r V6 l6 ⟨p3,n3,c3,rfl,g3⟩
 exact ⟨_,_,_,rfl,fun V7 l7=>⟨_,_,_,_,_,_,rfl,g1.le (l3.trans (l4.trans (l5.trans (l6.trans l7)))),g3.le l7⟩⟩
theorem c_ref01_SameQ {V:View} {v w:Value} {x y:Rat} (hx:RA V v x) (hy:RA V w y) {k:Nat} (s:Sz k x) (hk:k<=1099511627776) :
  Acts prog 63 #[v,w] V fun r V'=>r=.bool (decide (x=y)):=by
 obtain ⟨p,n,c,p',n',c',rfl,h1,h2⟩:=hx
 obtain ⟨q,m,e,q',m',e',rfl,h3,h4⟩:=hy
 have q1:=digs_len_bits s.1
 have q2:=digs_len_bits s.2
 refine vc_ref01_SameQ _ p n c p' n' c' _ q m e q' m' e' V _ fun V1 l1=>(c_ref01_SameI (h1.le l1) (h3.le l1) (by omega)).mono ?_
 rintro r V2 l2 rfl
 refine ⟨_,rfl,fun g V3 l3=>(c_ref01_SameN (h2.le (l1.trans (l2.trans l3))) (h4.le (l1.trans (l2.trans l3))) (by omega)).mono ?_,fun g V6 l6=>?_⟩
 ·have g:=of_decide_eq_true g
  rintro r V4 l4 rfl
  refine ⟨_,rfl,fun V5 l5=>?_⟩
  have e:digs x.den=digs y.den↔x=y:=⟨fun h=>Rat.ext g (by have:=congrArg val h; rwa [val_digs,val_digs] at this),fun h=>by rw [h]⟩
  rw [show decide (digs x.den=digs y.den)=decide (x=y) from by rw [decide_eq_decide]; exact e]
 ·have g:=of_decide_eq_false g
  rw [decide_eq_false (fun h=>g (by rw [h]))]
end Go.Proofs.Tryz
/- Trees and their lists of nodes: plain laws, no program in sight. -/
namespace Go.Proofs.Tryz
open Go.Eng Go.Big
/-- A line: its integer coefficients. -/
abbrev L3:=Int × Int × Int
def okL (x:L3):Bool:=decide (¬ (x.1=0/\x.2.1=0)) && decide (gcd3 x.1 x.2.1 x.2.2=1)
def Bd (x:L3):Prop:=x.1.natAbs < 2 ^ 1000/\x.2.1.natAbs < 2 ^ 1000/\x.2.2.natAbs < 2 ^ 1000
inductive Tr where
 | leaf (i:Bool) | node (l:L3) (a b:Tr)
 deriving DecidableEq
structure Nd where
 ln:L3
 left:Int
 right:Int
 deriving DecidableEq
def Tr.size:Tr->Nat
 | .leaf _=>0
 | .node _ a b=>a.size + b.size + 1
def Tr.All (p:L3->Prop):Tr->Prop
 | .leaf _=>True
 | .node l a b=>p l/\a.All p/\b.All p
theorem Tr.All.imp {p q:L3->Prop} (h:∀x,p x->q x):∀{t:Tr},t.All p->t.All q
 | .leaf _,_=>trivial
 | .node _ _ _,⟨h1,h2,h3⟩=>⟨h _ h1,Tr.All.imp h h2,Tr.All.imp h h3⟩
/-! reading a list of nodes -/
structure RS where
 seen:List Bool
 cnt:Nat
 bad:Bool
/-! the nodes in another order -/
def mvN (n by_ i:Nat):Nat:=n - 1 - (i + by_) % n
def mv (n by_:Nat) (i:Int):Int:=if i < 0 then i else (mvN n by_ i.toNat:Int)
end Go.Proofs.Tryz
/- Lines in normal form, in memory. -/
namespace Go.Proofs.Tryz
open Go.Eng Go.Big
theorem okLn_okL {a b c:Int}:okLn (decide (a < 0)) (digs a.natAbs) (decide (b < 0)) (digs b.natAbs) (decide (c < 0)) (digs c.natAbs)=okL (a,b,c):=by
 have hn:∀z:Int,NrmI (decide (z < 0)) (digs z.natAbs)=true:=by
  intro z
  unfold NrmI
  rw [val_digs]
  simp only [decide_true,Bool.true_and]
  by_cases h:z < 0
  ·simp only [h,decide_true,Bool.not_true,Bool.false_or,decide_eq_true_eq]
   intro e
   have:=digs_eq_nil.1 e
   omega
  ·simp [h]
 have hg:gcdQ (gcdQ (a:Rat) (b:Rat)) (c:Rat)=((gcd3 a b c:Nat):Int):=by
  have g2:∀x y:Int,gcdQ (x:Rat) (y:Rat)=((Nat.gcd x.natAbs y.natAbs:Nat):Int):=by
   intro x y
   unfold gcdQ
   have e1:((x:Rat)).num=x:=rfl
   have e2:((y:Rat)).num=y:=rfl
   have e3:((x:Rat)).den=1:=rfl
   have e4:((y:Rat)).den=1:=rfl
   rw [e1,e2,e3,e4]
   simp only [Nat.mul_one]
   exact Rat.mkRat_one _
  rw [g2,g2]
  rfl
 unfold okLn okL
 rw [hn,hn,hn,ival_digs,ival_digs,ival_digs,hg]
 have h0:∀z:Int,((z:Rat)=0)↔z=0:=fun z=>by exact Rat.intCast_eq_zero_iff
 simp only [Bool.true_and,h0]
 rw [Bool.eq_iff_iff]
 simp only [Bool.and_eq_true,Bool.not_eq_true',Bool.and_eq_false_iff,decide_eq_false_iff_not,decide_eq_true_eq]
 have h1:(((gcd3 a b c:Nat):Int):Rat)=((1:Int):Rat)↔gcd3 a b c=1:=by
  rw [Rat.intCast_inj]; omega
 rw [h1]
 constructor
 ·rintro ⟨h,h'⟩; exact ⟨fun e=>by rcases h with h | h; exact h e.1; exact h e.2,h'⟩
 ·rintro ⟨h,h'⟩
  refine ⟨?_,h'⟩
  by_cases ha:a=0
  ·exact .inr fun hb=>h ⟨ha,hb⟩
  ·exact .inl ha
theorem sz_int {z:Int} {k:Nat} (h:z.natAbs < 2 ^ k) (hk:0 < k):Sz k (z:Rat):=⟨h,Nat.one_lt_two_pow (by omega)⟩
theorem Bd.digs {x:L3} (h:Bd x):(digs x.1.natAbs).length<=1000/\(digs x.2.1.natAbs).length<=1000/\(digs x.2.2.natAbs).length<=1000:=⟨digs_len_bits h.1,digs_len_bits h.2.1,digs_len_bits h.2.2⟩
theorem Bd.sz {x:L3} (h:Bd x):Sz 1000 (x.1:Rat)/\Sz 1000 (x.2.1:Rat)/\Sz 1000 (x.2.2:Rat):=⟨sz_int h.1 (by omega),sz_int h.2.1 (by omega),sz_int h.2.2 (by omega)⟩
end Go.Proofs.Tryz
/- By program: the conditions of the functions, from their loaded code. -/
namespace Go.Proofs.Tryz
open Go.Eng
set_option maxRecDepth 100000
end Go.Proofs.Tryz
/- The scene's tape: Next, P, V, L, Tree; lines and trees that it makes. -/
namespace Go.Proofs.Tryz
open Go.Eng Go.Big
/-! plain laws: the line through two points of the grid -/
/-- Divided by their common divisor. -/
def lnOf (a b c:Int):L3:=(a / (gcd3 a b c:Int),b / (gcd3 a b c:Int),c / (gcd3 a b c:Int))
def small (z:Int) (k:Nat):Bool:=decide (z.natAbs<=k)
end Go.Proofs.Tryz
/- Plain laws: the line in normal form. -/
namespace Go.Proofs.Tryz
open Go.Eng Go.Big
theorem num_mul {r:Rat} {f:Nat} {a:Int} (hf:f≠0) (h:r * ((f:Nat):Int)=(a:Rat)):r.num * f=a * r.den:=by
 have hd:=r.den_nz
 rw [← Rat.mkRat_self r,← Rat.mkRat_one f,← Rat.mkRat_one a,Rat.mkRat_mul_mkRat,Rat.mkRat_eq_iff (by simpa using hd) (by omega)] at h
 simpa using h
/-- The divisor of two numbers with one denominator. -/
theorem gcdQ_scale {r s:Rat} {f:Nat} {a b:Int} (hf:f≠0) (hr:r * ((f:Nat):Int)=(a:Rat)) (hs:s * ((f:Nat):Int)=(b:Rat)):gcdQ r s * ((f:Nat):Int)=(((Nat.gcd a.natAbs b.natAbs:Nat):Int):Rat):=by
 have h1:=num_mul hf hr
 have h2:=num_mul hf hs
 have d1:=r.den_nz
 have d2:=s.den_nz
 have e1:r.num.natAbs * f=a.natAbs * r.den:=by have:=congrArg Int.natAbs h1; rwa [Int.natAbs_mul,Int.natAbs_mul,Int.natAbs_natCast,Int.natAbs_natCast] at this
 have e2:s.num.natAbs * f=b.natAbs * s.den:=by have:=congrArg Int.natAbs h2; rwa [Int.natAbs_mul,Int.natAbs_mul,Int.natAbs_natCast,Int.natAbs_natCast] at this
 have e3:Nat.gcd (r.num.natAbs * s.den) (s.num.natAbs * r.den) * f=Nat.gcd a.natAbs b.natAbs * (r.den * s.den):=by
  rw [← Nat.gcd_mul_right,← Nat.gcd_mul_right]
  congr 1
  ·rw [Nat.mul_right_comm,e1,Nat.mul_assoc]
  ·rw [Nat.mul_right_comm,e2,Nat.mul_assoc,Nat.mul_comm s.den]
 unfold gcdQ
 rw [← Rat.mkRat_one ((f:Nat):Int),Rat.mkRat_mul_mkRat,← Rat.mkRat_one (((Nat.gcd a.natAbs b.natAbs:Nat):Int)),Rat.mkRat_eq_iff (by simpa using Nat.mul_ne_zero d1 d2) (by omega)]
 simp only [Nat.mul_one]
 have:=congrArg (Nat.cast (R:=Int)) e3
 simpa using this
end Go.Proofs.Tryz
/- Plain laws: the line through two points: program and reference agree. -/
namespace Go.Proofs.Tryz
open Go.Eng Go.Big
theorem mul_den_num (q:Rat) (m:Nat):q * (((q.den * m:Nat):Int):Rat)=((q.num * m:Int):Rat):=by
 have e:q * (((q.den:Nat):Int):Rat)=((q.num:Int):Rat):=by
  have h:=q.den_nz
  have h1:mkRat q.num q.den * mkRat ((q.den:Nat):Int) 1=mkRat q.num 1:=by
   rw [Rat.mkRat_mul_mkRat,Rat.mkRat_eq_iff (by simpa using h) (by omega)]
   simp
  rwa [Rat.mkRat_self,Rat.mkRat_one,Rat.mkRat_one] at h1
 rw [Int.natCast_mul,Rat.intCast_mul,← Rat.mul_assoc,e,← Rat.intCast_mul]
theorem int_div_cast {a:Int} {g:Nat} (hg:g≠0) (h:(g:Int) ∣ a):((a / (g:Int):Int):Rat)=(a:Rat) / ((g:Int):Rat):=by
 obtain ⟨k,rfl⟩:=h
 have h0:((g:Int):Rat)≠0:=by exact_mod_cast hg
 rw [Int.mul_ediv_cancel_left _ (by omega),Rat.intCast_mul,Rat.div_def,Rat.mul_comm ((g:Int):Rat),Rat.mul_assoc,Rat.mul_inv_cancel _ h0,Rat.mul_one]
/-- The line of three rational coefficients, in lowest terms. -/
def mkLn (a b c:Rat):L3:=
 let f:Nat:=a.den * b.den * c.den
 lnOf (a * ((f:Int):Rat)).num (b * ((f:Int):Rat)).num (c * ((f:Int):Rat)).num
theorem mkLn_spec {a b c:Rat} (h:¬ (a=0/\b=0)):let g:=gcdQ (gcdQ a b) c
  g≠0/\a * g⁻¹=((mkLn a b c).1:Rat)/\b * g⁻¹=((mkLn a b c).2.1:Rat)/\c * g⁻¹=((mkLn a b c).2.2:Rat):=by
 intro g
 have hf:a.den * b.den * c.den≠0:=Nat.mul_ne_zero (Nat.mul_ne_zero a.den_nz b.den_nz) c.den_nz
 have ea:a * (((a.den * b.den * c.den:Nat):Int):Rat)=((a.num * (b.den * c.den:Nat):Int):Rat):=by rw [Nat.mul_assoc,mul_den_num]
 have eb:b * (((a.den * b.den * c.den:Nat):Int):Rat)=((b.num * (a.den * c.den:Nat):Int):Rat):=by rw [Nat.mul_comm a.den,Nat.mul_assoc,mul_den_num]
 have ec:c * (((a.den * b.den * c.den:Nat):Int):Rat)=((c.num * (a.den * b.den:Nat):Int):Rat):=by rw [Nat.mul_comm (a.den * b.den),mul_den_num]
 have hm:mkLn a b c=lnOf (a.num * (b.den * c.den:Nat)) (b.num * (a.den * c.den:Nat)) (c.num * (a.den * b.den:Nat)):=by
  unfold mkLn
  dsimp only
  rw [ea,eb,ec,Rat.num_intCast,Rat.num_intCast,Rat.num_intCast]
 have g1:=gcdQ_scale hf ea eb
 have g2:=gcdQ_scale hf g1 ec
 rw [hm]
 have hA:a.num * (b.den * c.den:Nat)=0↔a=0:=by
  rw [Int.mul_eq_zero,Rat.num_eq_zero]
  have:=Nat.mul_ne_zero b.den_nz c.den_nz
  constructor
  ·rintro (h | h)
   ·exact h
   ·omega
  ·exact .inl
 have hB:b.num * (a.den * c.den:Nat)=0↔b=0:=by
  rw [Int.mul_eq_zero,Rat.num_eq_zero]
  have:=Nat.mul_ne_zero a.den_nz c.den_nz
  constructor
  ·rintro (h | h)
   ·exact h
   ·omega
  ·exact .inl
 generalize a.num * (b.den * c.den:Nat)=A at *
 generalize b.num * (a.den * c.den:Nat)=B at *
 generalize c.num * (a.den * b.den:Nat)=C at *
 generalize a.den * b.den * c.den=f at *
 have e3:Nat.gcd (((Nat.gcd A.natAbs B.natAbs:Nat):Int)).natAbs C.natAbs=gcd3 A B C:=by unfold gcd3; rw [Int.natAbs_natCast]
 rw [e3] at g2
 change g * ((f:Int):Rat)=_ at g2
 have hG:gcd3 A B C≠0:=by
  intro e
  have:=Nat.gcd_eq_zero_iff.1 e
  have:=Nat.gcd_eq_zero_iff.1 this.1
  exact h ⟨hA.1 (by omega),hB.1 (by omega)⟩
 have hf':((f:Int):Rat)≠0:=by exact_mod_cast hf
 have hG':((gcd3 A B C:Int):Rat)≠0:=by exact_mod_cast hG
 have hg:g≠0:=by intro e; rw [e,Rat.zero_mul] at g2; exact hG' g2.symm
 have dA:((gcd3 A B C:Nat):Int) ∣ A:=Int.natAbs_dvd_natAbs.1 (by rw [Int.natAbs_natCast]; exact Nat.dvd_trans (Nat.gcd_dvd_left _ _) (Nat.gcd_dvd_left _ _))
 have dB:((gcd3 A B C:Nat):Int) ∣ B:=Int.natAbs_dvd_natAbs.1 (by rw [Int.natAbs_natCast]; exact Nat.dvd_trans (Nat.gcd_dvd_left _ _) (Nat.gcd_dvd_right _ _))
 have dC:((gcd3 A B C:Nat):Int) ∣ C:=Int.natAbs_dvd_natAbs.1 (by rw [Int.natAbs_natCast]; exact Nat.gcd_dvd_right _ _)
 have key:∀{x:Rat} {X:Int},x * ((f:Int):Rat)=(X:Rat)->((gcd3 A B C:Nat):Int) ∣ X->x * g⁻¹=((X / (gcd3 A B C:Int):Int):Rat):=by
  intro x X hx hd
  rw [int_div_cast hG hd,← hx,← g2]
  grind
 exact ⟨hg,key ea dA,key eb dB,key ec dC⟩
theorem mkLn_nz {a b c:Rat} (h:¬ (a=0/\b=0)):¬ ((mkLn a b c).1=0/\(mkLn a b c).2.1=0):=by
 obtain ⟨g0,g1,g2,-⟩:=mkLn_spec (c:=c) h
 rintro ⟨e1,e2⟩
 rw [e1] at g1
 rw [e2] at g2
 have hi:(gcdQ (gcdQ a b) c)⁻¹≠0:=fun e=>by
  have h1:=Rat.mul_inv_cancel _ g0
  rw [e,Rat.mul_zero] at h1
  exact absurd h1 (by decide)
 apply h
 constructor
 ·rcases Rat.mul_eq_zero.1 (by simpa using g1) with e | e
  ·exact e
  ·exact absurd e hi
 ·rcases Rat.mul_eq_zero.1 (by simpa using g2) with e | e
  ·exact e
  ·exact absurd e hi
end Go.Proofs.Tryz
/- Contracts of the scene's tape: Next, P, V, L; trees of the reference in memory: Code, Tree. -/
namespace Go.Proofs.Tryz
open Go.Eng Go.Big
/-- Ints that can be read. -/
def Rdl (V:View) (p:OA) (n:Nat):Prop:=∀i,i < n->∃(a:Addr) (x:Int),addrAdd p (i * 1)=some a/\V.at a (.int .i64 x)
theorem Rdl.le {V V':View} {p:OA} {n:Nat} (h:Rdl V p n) (l:V.Le V'):Rdl V' p n:=fun i hi=>by
 obtain ⟨a,x,e,hx⟩:=h i hi; exact ⟨a,x,e,l.at hx⟩
theorem RQ.zero {V:View}:RQ V (.agg #[.bool false,.slice none 0 0,.slice none 0 0]) ((0:Int):Rat):=⟨none,0,0,none,0,0,rfl,RD.nil,RD.nil⟩
theorem RP.zero {V:View}:RP V (.agg #[.bool false,.slice none 0 0,.slice none 0 0,.bool false,.slice none 0 0,.slice none 0 0]) ((0:Int):Rat) ((0:Int):Rat):=
 ⟨none,0,0,none,0,0,none,0,0,none,0,0,rfl,RQ.zero,RQ.zero⟩
theorem sz4 {z:Int} (h:-40<=z/\z<=40):Sz 10 (z:Rat):=sz_int (by omega) (by omega)
end Go.Proofs.Tryz
/- By program: the conditions of the functions, from their loaded code. -/
namespace Go.Proofs.Tryz
open Go.Eng
set_option maxRecDepth 100000
end Go.Proofs.Tryz
/- Contracts: num.Part; the tape's Q and Point. -/
namespace Go.Proofs.Tryz
open Go.Eng Go.Big
end Go.Proofs.Tryz
/- By program: the conditions of the functions, from their loaded code. -/
namespace Go.Proofs.Tryz
open Go.Eng
set_option maxRecDepth 100000
theorem vc_geo_end (a0:Bool) (a1p:OA) (a1n a1c:Nat) (a2p:OA) (a2n a2c:Nat) (none_:Bool) (V:View) (R:Value->View->Prop)
  (h:((none_=true->(((!a0)=true->(((((a1n:Nat):Int) == (0:Int))=true->(∀V1:View,V.Le V1->R (.tuple #[.agg #[.int .i64 0,.int .i64 0,.pointer none],.bool (((a2n:Nat):Int) == (0:Int))]) V1))/\((((a1n:Nat):Int) == (0:Int))=false->(∀V2:View,V.Le V2->R (.tuple #[.agg #[.int .i64 0,.int .i64 0,.pointer none],.bool false]) V2))))/\((!a0)=false->(∀V3:View,V.Le V3->R (.tuple #[.agg #[.int .i64 0,.int .i64 0,.pointer none],.bool false]) V3))))/\(none_=false->(∀V4:View,V.Le V4->Acts prog 102 #[.agg #[.bool a0,.slice a1p a1n a1c,.slice a2p a2n a2c]] V4 fun r4_ V5=>∃x1_:Int,∃x2_:Int,∃p3_:OA,r4_=.agg #[.int .i64 x1_,.int .i64 x2_,.pointer p3_]/\(∀V6:View,V5.Le V6->Acts prog 209 #[.agg #[.bool a0,.slice a1p a1n a1c,.slice a2p a2n a2c]] V6 fun r6_ V7=>∃b4_:Bool,r6_=.bool b4_/\(∀V8:View,V7.Le V8->R (.tuple #[.agg #[.int .i64 x1_,.int .i64 x2_,.pointer p3_],.bool b4_]) V8)))))) :
  Acts prog 171 #[.agg #[.bool a0,.slice a1p a1n a1c,.slice a2p a2n a2c],.bool none_] V R:=
 fn_does (LF:=LF0) (RF:=[1000007]) (β0:=(fun _=>0)) tab_ok mixed [] [] func171 (by kernel_rfl)
  [(0,.agg [.v (.bool a0),.v (.slice a1p a1n a1c),.v (.slice a2p a2n a2c)]),(1,.c (.v (.bool none_)))]
  [] (by kernel_rfl) trivial h (by kernel_rfl)
theorem vc_geo_IvOf (s0:Bool) (s1p:OA) (s1n s1c:Nat) (s2p:OA) (s2n s2c:Nat) (s3:Bool) (s4p:OA) (s4n s4c:Nat) (s5p:OA) (s5n s5c:Nat) (s6:Bool) (s7:Bool) (V:View) (R:Value->View->Prop)
  (h:(∀V1:View,V.Le V1->Acts prog 171 #[.agg #[.bool s0,.slice s1p s1n s1c,.slice s2p s2n s2c],.bool s6] V1 fun r1_ V2=>∃x1_:Int,∃x2_:Int,∃p3_:OA,∃b4_:Bool,r1_=.tuple #[.agg #[.int .i64 x1_,.int .i64 x2_,.pointer p3_],.bool b4_]/\(∀V3:View,V2.Le V3->Acts prog 171 #[.agg #[.bool s3,.slice s4p s4n s4c,.slice s5p s5n s5c],.bool s7] V3 fun r3_ V4=>∃x5_:Int,∃x6_:Int,∃p7_:OA,∃b8_:Bool,r3_=.tuple #[.agg #[.int .i64 x5_,.int .i64 x6_,.pointer p7_],.bool b8_]/\((b4_=true->((b8_=true->(∀V5:View,V4.Le V5->Acts prog 172 #[.agg #[.int .i64 x1_,.int .i64 x2_,.pointer p3_,.int .i64 x5_,.int .i64 x6_,.pointer p7_,.bool s6,.bool s7]] V5 fun r5_ V6=>∃b9_:Bool,r5_=.bool b9_/\(∀V7:View,V6.Le V7->R (.tuple #[.agg #[.int .i64 x1_,.int .i64 x2_,.pointer p3_,.int .i64 x5_,.int .i64 x6_,.pointer p7_,.bool s6,.bool s7],.bool (!b9_)]) V7)))/\(b8_=false->(∀V8:View,V4.Le V8->R (.tuple #[.agg #[.int .i64 x1_,.int .i64 x2_,.pointer p3_,.int .i64 x5_,.int .i64 x6_,.pointer p7_,.bool s6,.bool s7],.bool false]) V8))))/\(b4_=false->(∀V9:View,V4.Le V9->R (.tuple #[.agg #[.int .i64 x1_,.int .i64 x2_,.pointer p3_,.int .i64 x5_,.int .i64 x6_,.pointer p7_,.bool s6,.bool s7],.bool false]) V9)))))) :
  Acts prog 122 #[.agg #[.bool s0,.slice s1p s1n s1c,.slice s2p s2n s2c,.bool s3,.slice s4p s4n s4c,.slice s5p s5n s5c,.bool s6,.bool s7]] V R:=
 fn_does (LF:=LF0) (RF:=[1000007]) (β0:=(fun _=>0)) tab_ok mixed [] [] func122 (by kernel_rfl)
  [(0,.agg [.v (.bool s0),.v (.slice s1p s1n s1c),.v (.slice s2p s2n s2c),.v (.bool s3),.v (.slice s4p s4n s4c),.v (.slice s5p s5n s5c),.v (.bool s6),.v (.bool s7)])]
  [] (by kernel_rfl) trivial h (by kernel_rfl)
theorem vc_geo_Iv_API (v0:Int) (v1:Int) (v2:OA) (v3:Int) (v4:Int) (v5:OA) (v6:Bool) (v7:Bool) (V:View) (R:Value->View->Prop)
  (h:(((!v6)=true->(∀V1:View,V.Le V1->Acts prog 144 #[.agg #[.int .i64 v0,.int .i64 v1,.pointer v2]] V1 fun r1_ V2=>∃b1_:Bool,∃(p2_:OA) (n2_ c2_:Nat),∃(p3_:OA) (n3_ c3_:Nat),r1_=.agg #[.bool b1_,.slice p2_ n2_ c2_,.slice p3_ n3_ c3_]/\(((!v7)=true->(∀V3:View,V2.Le V3->Acts prog 144 #[.agg #[.int .i64 v3,.int .i64 v4,.pointer v5]] V3 fun r3_ V4=>∃b4_:Bool,∃(p5_:OA) (n5_ c5_:Nat),∃(p6_:OA) (n6_ c6_:Nat),r3_=.agg #[.bool b4_,.slice p5_ n5_ c5_,.slice p6_ n6_ c6_]/\(∀V5:View,V4.Le V5->R (.agg #[.bool b1_,.slice p2_ n2_ c2_,.slice p3_ n3_ c3_,.bool b4_,.slice p5_ n5_ c5_,.slice p6_ n6_ c6_,.bool v6,.bool v7]) V5)))/\((!v7)=false->(∀V6:View,V2.Le V6->R (.agg #[.bool b1_,.slice p2_ n2_ c2_,.slice p3_ n3_ c3_,.bool false,.slice none 0 0,.slice none 0 0,.bool v6,.bool v7]) V6)))))/\((!v6)=false->(((!v7)=true->(∀V7:View,V.Le V7->Acts prog 144 #[.agg #[.int .i64 v3,.int .i64 v4,.pointer v5]] V7 fun r7_ V8=>∃b7_:Bool,∃(p8_:OA) (n8_ c8_:Nat),∃(p9_:OA) (n9_ c9_:Nat),r7_=.agg #[.bool b7_,.slice p8_ n8_ c8_,.slice p9_ n9_ c9_]/\(∀V9:View,V8.Le V9->R (.agg #[.bool false,.slice none 0 0,.slice none 0 0,.bool b7_,.slice p8_ n8_ c8_,.slice p9_ n9_ c9_,.bool v6,.bool v7]) V9)))/\((!v7)=false->(∀V10:View,V.Le V10->R (.agg #[.bool false,.slice none 0 0,.slice none 0 0,.bool false,.slice none 0 0,.slice none 0 0,.bool v6,.bool v7]) V10)))))) :
  Acts prog 104 #[.agg #[.int .i64 v0,.int .i64 v1,.pointer v2,.int .i64 v3,.int .i64 v4,.pointer v5,.bool v6,.bool v7]] V R:=
 fn_does (LF:=LF0) (RF:=[1000007]) (β0:=(fun _=>0)) tab_ok mixed [] [] func104 (by kernel_rfl)
  [(0,.agg [.v (.int .i64 v0),.v (.int .i64 v1),.v (.pointer v2),.v (.int .i64 v3),.v (.int .i64 v4),.v (.pointer v5),.v (.bool v6),.v (.bool v7)])]
  [] (by kernel_rfl) trivial h (by kernel_rfl)
theorem vc_geo_Iv_empty (v0:Int) (v1:Int) (v2:OA) (v3:Int) (v4:Int) (v5:OA) (v6:Bool) (v7:Bool) (V:View) (R:Value->View->Prop)
  (h:(((!v6)=true->(((!v7)=true->(∀V1:View,V.Le V1->Acts prog 175 #[.agg #[.int .i64 v0,.int .i64 v1,.pointer v2],.agg #[.int .i64 v3,.int .i64 v4,.pointer v5]] V1 fun r1_ V2=>∃x1_:Int,r1_=.int .i64 x1_/\(∀V3:View,V2.Le V3->R (.bool (decide (x1_ ≥ (0:Int)))) V3)))/\((!v7)=false->(∀V4:View,V.Le V4->R (.bool false) V4))))/\((!v6)=false->(∀V5:View,V.Le V5->R (.bool false) V5)))) :
  Acts prog 172 #[.agg #[.int .i64 v0,.int .i64 v1,.pointer v2,.int .i64 v3,.int .i64 v4,.pointer v5,.bool v6,.bool v7]] V R:=
 fn_does (LF:=LF0) (RF:=[1000007]) (β0:=(fun _=>0)) tab_ok mixed [] [] func172 (by kernel_rfl)
  [(0,.agg [.v (.int .i64 v0),.v (.int .i64 v1),.v (.pointer v2),.v (.int .i64 v3),.v (.int .i64 v4),.v (.pointer v5),.v (.bool v6),.v (.bool v7)])]
  [] (by kernel_rfl) trivial h (by kernel_rfl)
theorem vc_geo_Iv_Has (v0:Int) (v1:Int) (v2:OA) (v3:Int) (v4:Int) (v5:OA) (v6:Bool) (v7:Bool) (t0:Int) (t1:Int) (t2:OA) (V:View) (R:Value->View->Prop)
  (h:((v6=true->((v7=true->(∀V1:View,V.Le V1->R (.bool true) V1))/\(v7=false->(∀V2:View,V.Le V2->Acts prog 175 #[.agg #[.int .i64 v3,.int .i64 v4,.pointer v5],.agg #[.int .i64 t0,.int .i64 t1,.pointer t2]] V2 fun r2_ V3=>∃x1_:Int,r2_=.int .i64 x1_/\(∀V4:View,V3.Le V4->R (.bool (decide (x1_ ≥ (0:Int)))) V4)))))/\(v6=false->(∀V5:View,V.Le V5->Acts prog 175 #[.agg #[.int .i64 v0,.int .i64 v1,.pointer v2],.agg #[.int .i64 t0,.int .i64 t1,.pointer t2]] V5 fun r5_ V6=>∃x2_:Int,r5_=.int .i64 x2_/\(((decide (x2_<=(0:Int)))=true->((v7=true->(∀V7:View,V6.Le V7->R (.bool true) V7))/\(v7=false->(∀V8:View,V6.Le V8->Acts prog 175 #[.agg #[.int .i64 v3,.int .i64 v4,.pointer v5],.agg #[.int .i64 t0,.int .i64 t1,.pointer t2]] V8 fun r8_ V9=>∃x3_:Int,r8_=.int .i64 x3_/\(∀V10:View,V9.Le V10->R (.bool (decide (x3_ ≥ (0:Int)))) V10)))))/\((decide (x2_<=(0:Int)))=false->(∀V11:View,V6.Le V11->R (.bool false) V11))))))) :
  Acts prog 124 #[.agg #[.int .i64 v0,.int .i64 v1,.pointer v2,.int .i64 v3,.int .i64 v4,.pointer v5,.bool v6,.bool v7],.agg #[.int .i64 t0,.int .i64 t1,.pointer t2]] V R:=
 fn_does (LF:=LF0) (RF:=[1000007]) (β0:=(fun _=>0)) tab_ok mixed [] [] func124 (by kernel_rfl)
  [(0,.agg [.v (.int .i64 v0),.v (.int .i64 v1),.v (.pointer v2),.v (.int .i64 v3),.v (.int .i64 v4),.v (.pointer v5),.v (.bool v6),.v (.bool v7)]),(1,.agg [.v (.int .i64 t0),.v (.int .i64 t1),.v (.pointer t2)])]
  [] (by kernel_rfl) trivial h (by kernel_rfl)
theorem vc_geo_Iv_Neg (v0:Int) (v1:Int) (v2:OA) (v3:Int) (v4:Int) (v5:OA) (v6:Bool) (v7:Bool) (V:View) (R:Value->View->Prop)
  (h:(((!v7)=true->(∀V1:View,V.Le V1->Acts prog 161 #[.agg #[.int .i64 v3,.int .i64 v4,.pointer v5]] V1 fun r1_ V2=>∃x1_:Int,∃x2_:Int,∃p3_:OA,r1_=.agg #[.int .i64 x1_,.int .i64 x2_,.pointer p3_]/\(((!v6)=true->(∀V3:View,V2.Le V3->Acts prog 161 #[.agg #[.int .i64 v0,.int .i64 v1,.pointer v2]] V3 fun r3_ V4=>∃x4_:Int,∃x5_:Int,∃p6_:OA,r3_=.agg #[.int .i64 x4_,.int .i64 x5_,.pointer p6_]/\(∀V5:View,V4.Le V5->R (.agg #[.int .i64 x1_,.int .i64 x2_,.pointer p3_,.int .i64 x4_,.int .i64 x5_,.pointer p6_,.bool v7,.bool v6]) V5)))/\((!v6)=false->(∀V6:View,V2.Le V6->R (.agg #[.int .i64 x1_,.int .i64 x2_,.pointer p3_,.int .i64 0,.int .i64 0,.pointer none,.bool v7,.bool v6]) V6)))))/\((!v7)=false->(((!v6)=true->(∀V7:View,V.Le V7->Acts prog 161 #[.agg #[.int .i64 v0,.int .i64 v1,.pointer v2]] V7 fun r7_ V8=>∃x7_:Int,∃x8_:Int,∃p9_:OA,r7_=.agg #[.int .i64 x7_,.int .i64 x8_,.pointer p9_]/\(∀V9:View,V8.Le V9->R (.agg #[.int .i64 0,.int .i64 0,.pointer none,.int .i64 x7_,.int .i64 x8_,.pointer p9_,.bool v7,.bool v6]) V9)))/\((!v6)=false->(∀V10:View,V.Le V10->R (.agg #[.int .i64 0,.int .i64 0,.pointer none,.int .i64 0,.int .i64 0,.pointer none,.bool v7,.bool v6]) V10)))))) :
  Acts prog 126 #[.agg #[.int .i64 v0,.int .i64 v1,.pointer v2,.int .i64 v3,.int .i64 v4,.pointer v5,.bool v6,.bool v7]] V R:=
 fn_does (LF:=LF0) (RF:=[1000007]) (β0:=(fun _=>0)) tab_ok mixed [] [] func126 (by kernel_rfl)
  [(0,.agg [.v (.int .i64 v0),.v (.int .i64 v1),.v (.pointer v2),.v (.int .i64 v3),.v (.int .i64 v4),.v (.pointer v5),.v (.bool v6),.v (.bool v7)])]
  [] (by kernel_rfl) trivial h (by kernel_rfl)
theorem vc_geo_FrOf (f0:Bool) (f1p:OA) (f1n f1c:Nat) (f2:Bool) (f3p:OA) (f3n f3c:Nat) (f4:Bool) (f5p:OA) (f5n f5c:Nat) (f6:Bool) (f7p:OA) (f7n f7c:Nat) (f8p:OA) (f8n f8c:Nat) (f9:Bool) (f10p:OA) (f10n f10c:Nat) (f11p:OA) (f11n f11c:Nat) (f12:Bool) (f13:Bool) (V:View) (R:Value->View->Prop)
  (h:(∀V1:View,V.Le V1->Acts prog 90 #[.agg #[.bool f0,.slice f1p f1n f1c,.bool f2,.slice f3p f3n f3c,.bool f4,.slice f5p f5n f5c]] V1 fun r1_ V2=>∃x1_:Int,∃x2_:Int,∃p3_:OA,∃x4_:Int,∃x5_:Int,∃p6_:OA,∃x7_:Int,∃x8_:Int,∃p9_:OA,∃b10_:Bool,r1_=.tuple #[.agg #[.int .i64 x1_,.int .i64 x2_,.pointer p3_,.int .i64 x4_,.int .i64 x5_,.pointer p6_,.int .i64 x7_,.int .i64 x8_,.pointer p9_],.bool b10_]/\(∀V3:View,V2.Le V3->Acts prog 122 #[.agg #[.bool f6,.slice f7p f7n f7c,.slice f8p f8n f8c,.bool f9,.slice f10p f10n f10c,.slice f11p f11n f11c,.bool f12,.bool f13]] V3 fun r3_ V4=>∃x11_:Int,∃x12_:Int,∃p13_:OA,∃x14_:Int,∃x15_:Int,∃p16_:OA,∃b17_:Bool,∃b18_:Bool,∃b19_:Bool,r3_=.tuple #[.agg #[.int .i64 x11_,.int .i64 x12_,.pointer p13_,.int .i64 x14_,.int .i64 x15_,.pointer p16_,.bool b17_,.bool b18_],.bool b19_]/\((b10_=true->(∀V5:View,V4.Le V5->R (.tuple #[.agg #[.int .i64 x1_,.int .i64 x2_,.pointer p3_,.int .i64 x4_,.int .i64 x5_,.pointer p6_,.int .i64 x7_,.int .i64 x8_,.pointer p9_,.int .i64 x11_,.int .i64 x12_,.pointer p13_,.int .i64 x14_,.int .i64 x15_,.pointer p16_,.bool b17_,.bool b18_],.bool b19_]) V5))/\(b10_=false->(∀V6:View,V4.Le V6->R (.tuple #[.agg #[.int .i64 x1_,.int .i64 x2_,.pointer p3_,.int .i64 x4_,.int .i64 x5_,.pointer p6_,.int .i64 x7_,.int .i64 x8_,.pointer p9_,.int .i64 x11_,.int .i64 x12_,.pointer p13_,.int .i64 x14_,.int .i64 x15_,.pointer p16_,.bool b17_,.bool b18_],.bool false]) V6)))))) :
  Acts prog 66 #[.agg #[.bool f0,.slice f1p f1n f1c,.bool f2,.slice f3p f3n f3c,.bool f4,.slice f5p f5n f5c,.bool f6,.slice f7p f7n f7c,.slice f8p f8n f8c,.bool f9,.slice f10p f10n f10c,.slice f11p f11n f11c,.bool f12,.bool f13]] V R:=
 fn_does (LF:=LF0) (RF:=[1000007]) (β0:=(fun _=>0)) tab_ok mixed [] [] func66 (by kernel_rfl)
  [(0,.agg [.v (.bool f0),.v (.slice f1p f1n f1c),.v (.bool f2),.v (.slice f3p f3n f3c),.v (.bool f4),.v (.slice f5p f5n f5c),.v (.bool f6),.v (.slice f7p f7n f7c),.v (.slice f8p f8n f8c),.v (.bool f9),.v (.slice f10p f10n f10c),.v (.slice f11p f11n f11c),.v (.bool f12),.v (.bool f13)])]
  [] (by kernel_rfl) trivial h (by kernel_rfl)
theorem vc_geo_Fr_API (f0:Int) (f1:Int) (f2:OA) (f3:Int) (f4:Int) (f5:OA) (f6:Int) (f7:Int) (f8:OA) (f9:Int) (f10:Int) (f11:OA) (f12:Int) (f13:Int) (f14:OA) (f15:Bool) (f16:Bool) (V:View) (R:Value->View->Prop)
  (h:(∀V1:View,V.Le V1->Acts prog 103 #[.agg #[.int .i64 f0,.int .i64 f1,.pointer f2,.int .i64 f3,.int .i64 f4,.pointer f5,.int .i64 f6,.int .i64 f7,.pointer f8]] V1 fun r1_ V2=>∃b1_:Bool,∃(p2_:OA) (n2_ c2_:Nat),∃b3_:Bool,∃(p4_:OA) (n4_ c4_:Nat),∃b5_:Bool,∃(p6_:OA) (n6_ c6_:Nat),r1_=.agg #[.bool b1_,.slice p2_ n2_ c2_,.bool b3_,.slice p4_ n4_ c4_,.bool b5_,.slice p6_ n6_ c6_]/\(∀V3:View,V2.Le V3->Acts prog 104 #[.agg #[.int .i64 f9,.int .i64 f10,.pointer f11,.int .i64 f12,.int .i64 f13,.pointer f14,.bool f15,.bool f16]] V3 fun r3_ V4=>∃b7_:Bool,∃(p8_:OA) (n8_ c8_:Nat),∃(p9_:OA) (n9_ c9_:Nat),∃b10_:Bool,∃(p11_:OA) (n11_ c11_:Nat),∃(p12_:OA) (n12_ c12_:Nat),∃b13_:Bool,∃b14_:Bool,r3_=.agg #[.bool b7_,.slice p8_ n8_ c8_,.slice p9_ n9_ c9_,.bool b10_,.slice p11_ n11_ c11_,.slice p12_ n12_ c12_,.bool b13_,.bool b14_]/\(∀V5:View,V4.Le V5->R (.agg #[.bool b1_,.slice p2_ n2_ c2_,.bool b3_,.slice p4_ n4_ c4_,.bool b5_,.slice p6_ n6_ c6_,.bool b7_,.slice p8_ n8_ c8_,.slice p9_ n9_ c9_,.bool b10_,.slice p11_ n11_ c11_,.slice p12_ n12_ c12_,.bool b13_,.bool b14_]) V5)))) :
  Acts prog 49 #[.agg #[.int .i64 f0,.int .i64 f1,.pointer f2,.int .i64 f3,.int .i64 f4,.pointer f5,.int .i64 f6,.int .i64 f7,.pointer f8,.int .i64 f9,.int .i64 f10,.pointer f11,.int .i64 f12,.int .i64 f13,.pointer f14,.bool f15,.bool f16]] V R:=
 fn_does (LF:=LF0) (RF:=[1000007]) (β0:=(fun _=>0)) tab_ok mixed [] [] func49 (by kernel_rfl)
  [(0,.agg [.v (.int .i64 f0),.v (.int .i64 f1),.v (.pointer f2),.v (.int .i64 f3),.v (.int .i64 f4),.v (.pointer f5),.v (.int .i64 f6),.v (.int .i64 f7),.v (.pointer f8),.v (.int .i64 f9),.v (.int .i64 f10),.v (.pointer f11),.v (.int .i64 f12),.v (.int .i64 f13),.v (.pointer f14),.v (.bool f15),.v (.bool f16)])]
  [] (by kernel_rfl) trivial h (by kernel_rfl)
theorem vc_geo_Segment (p0:Int) (p1:Int) (p2:OA) (p3:Int) (p4:Int) (p5:OA) (q0:Int) (q1:Int) (q2:OA) (q3:Int) (q4:Int) (q5:OA) (V:View) (R:Value->View->Prop)
  (h:(∀V1:View,V.Le V1->Acts prog 100 #[.agg #[.int .i64 p0,.int .i64 p1,.pointer p2,.int .i64 p3,.int .i64 p4,.pointer p5],.agg #[.int .i64 q0,.int .i64 q1,.pointer q2,.int .i64 q3,.int .i64 q4,.pointer q5]] V1 fun r1_ V2=>∃x1_:Int,∃x2_:Int,∃p3_:OA,∃x4_:Int,∃x5_:Int,∃p6_:OA,∃x7_:Int,∃x8_:Int,∃p9_:OA,∃b10_:Bool,r1_=.tuple #[.agg #[.int .i64 x1_,.int .i64 x2_,.pointer p3_,.int .i64 x4_,.int .i64 x5_,.pointer p6_,.int .i64 x7_,.int .i64 x8_,.pointer p9_],.bool b10_]/\(((!b10_)=true->(∀V3:View,V2.Le V3->R (.tuple #[.agg #[.int .i64 0,.int .i64 0,.pointer none,.int .i64 0,.int .i64 0,.pointer none,.int .i64 0,.int .i64 0,.pointer none,.int .i64 0,.int .i64 0,.pointer none,.int .i64 0,.int .i64 0,.pointer none,.bool false,.bool false],.bool false]) V3))/\((!b10_)=false->(∀V4:View,V2.Le V4->Acts prog 101 #[.agg #[.int .i64 x1_,.int .i64 x2_,.pointer p3_,.int .i64 x4_,.int .i64 x5_,.pointer p6_,.int .i64 x7_,.int .i64 x8_,.pointer p9_],.agg #[.int .i64 p0,.int .i64 p1,.pointer p2,.int .i64 p3,.int .i64 p4,.pointer p5]] V4 fun r4_ V5=>∃x11_:Int,∃x12_:Int,∃p13_:OA,r4_=.agg #[.int .i64 x11_,.int .i64 x12_,.pointer p13_]/\(∀V6:View,V5.Le V6->Acts prog 101 #[.agg #[.int .i64 x1_,.int .i64 x2_,.pointer p3_,.int .i64 x4_,.int .i64 x5_,.pointer p6_,.int .i64 x7_,.int .i64 x8_,.pointer p9_],.agg #[.int .i64 q0,.int .i64 q1,.pointer q2,.int .i64 q3,.int .i64 q4,.pointer q5]] V6 fun r6_ V7=>∃x14_:Int,∃x15_:Int,∃p16_:OA,r6_=.agg #[.int .i64 x14_,.int .i64 x15_,.pointer p16_]/\(∀V8:View,V7.Le V8->R (.tuple #[.agg #[.int .i64 x1_,.int .i64 x2_,.pointer p3_,.int .i64 x4_,.int .i64 x5_,.pointer p6_,.int .i64 x7_,.int .i64 x8_,.pointer p9_,.int .i64 x11_,.int .i64 x12_,.pointer p13_,.int .i64 x14_,.int .i64 x15_,.pointer p16_,.bool false,.bool false],.bool true]) V8))))))) :
  Acts prog 47 #[.agg #[.int .i64 p0,.int .i64 p1,.pointer p2,.int .i64 p3,.int .i64 p4,.pointer p5],.agg #[.int .i64 q0,.int .i64 q1,.pointer q2,.int .i64 q3,.int .i64 q4,.pointer q5]] V R:=
 fn_does (LF:=LF0) (RF:=[1000007]) (β0:=(fun _=>0)) tab_ok mixed [] [] func47 (by kernel_rfl)
  [(0,.agg [.v (.int .i64 p0),.v (.int .i64 p1),.v (.pointer p2),.v (.int .i64 p3),.v (.int .i64 p4),.v (.pointer p5)]),(1,.agg [.v (.int .i64 q0),.v (.int .i64 q1),.v (.pointer q2),.v (.int .i64 q3),.v (.int .i64 q4),.v (.pointer q5)])]
  [] (by kernel_rfl) trivial h (by kernel_rfl)
theorem vc_geo_Fr_Start (f0:Int) (f1:Int) (f2:OA) (f3:Int) (f4:Int) (f5:OA) (f6:Int) (f7:Int) (f8:OA) (f9:Int) (f10:Int) (f11:OA) (f12:Int) (f13:Int) (f14:OA) (f15:Bool) (f16:Bool) (V:View) (R:Value->View->Prop)
  (h:((f15=true->(∀V1:View,V.Le V1->R (.tuple #[.agg #[.int .i64 0,.int .i64 0,.pointer none,.int .i64 0,.int .i64 0,.pointer none],.bool false]) V1))/\(f15=false->(∀V2:View,V.Le V2->Acts prog 118 #[.agg #[.int .i64 f0,.int .i64 f1,.pointer f2,.int .i64 f3,.int .i64 f4,.pointer f5,.int .i64 f6,.int .i64 f7,.pointer f8],.agg #[.int .i64 f9,.int .i64 f10,.pointer f11]] V2 fun r2_ V3=>∃x1_:Int,∃x2_:Int,∃p3_:OA,∃x4_:Int,∃x5_:Int,∃p6_:OA,r2_=.agg #[.int .i64 x1_,.int .i64 x2_,.pointer p3_,.int .i64 x4_,.int .i64 x5_,.pointer p6_]/\(∀V4:View,V3.Le V4->R (.tuple #[.agg #[.int .i64 x1_,.int .i64 x2_,.pointer p3_,.int .i64 x4_,.int .i64 x5_,.pointer p6_],.bool true]) V4))))) :
  Acts prog 61 #[.agg #[.int .i64 f0,.int .i64 f1,.pointer f2,.int .i64 f3,.int .i64 f4,.pointer f5,.int .i64 f6,.int .i64 f7,.pointer f8,.int .i64 f9,.int .i64 f10,.pointer f11,.int .i64 f12,.int .i64 f13,.pointer f14,.bool f15,.bool f16]] V R:=
 fn_does (LF:=LF0) (RF:=[1000007]) (β0:=(fun _=>0)) tab_ok mixed [] [] func61 (by kernel_rfl)
  [(0,.agg [.v (.int .i64 f0),.v (.int .i64 f1),.v (.pointer f2),.v (.int .i64 f3),.v (.int .i64 f4),.v (.pointer f5),.v (.int .i64 f6),.v (.int .i64 f7),.v (.pointer f8),.v (.int .i64 f9),.v (.int .i64 f10),.v (.pointer f11),.v (.int .i64 f12),.v (.int .i64 f13),.v (.pointer f14),.v (.bool f15),.v (.bool f16)])]
  [] (by kernel_rfl) trivial h (by kernel_rfl)
theorem vc_geo_Fr_End (f0:Int) (f1:Int) (f2:OA) (f3:Int) (f4:Int) (f5:OA) (f6:Int) (f7:Int) (f8:OA) (f9:Int) (f10:Int) (f11:OA) (f12:Int) (f13:Int) (f14:OA) (f15:Bool) (f16:Bool) (V:View) (R:Value->View->Prop)
  (h:((f16=true->(∀V1:View,V.Le V1->R (.tuple #[.agg #[.int .i64 0,.int .i64 0,.pointer none,.int .i64 0,.int .i64 0,.pointer none],.bool false]) V1))/\(f16=false->(∀V2:View,V.Le V2->Acts prog 118 #[.agg #[.int .i64 f0,.int .i64 f1,.pointer f2,.int .i64 f3,.int .i64 f4,.pointer f5,.int .i64 f6,.int .i64 f7,.pointer f8],.agg #[.int .i64 f12,.int .i64 f13,.pointer f14]] V2 fun r2_ V3=>∃x1_:Int,∃x2_:Int,∃p3_:OA,∃x4_:Int,∃x5_:Int,∃p6_:OA,r2_=.agg #[.int .i64 x1_,.int .i64 x2_,.pointer p3_,.int .i64 x4_,.int .i64 x5_,.pointer p6_]/\(∀V4:View,V3.Le V4->R (.tuple #[.agg #[.int .i64 x1_,.int .i64 x2_,.pointer p3_,.int .i64 x4_,.int .i64 x5_,.pointer p6_],.bool true]) V4))))) :
  Acts prog 62 #[.agg #[.int .i64 f0,.int .i64 f1,.pointer f2,.int .i64 f3,.int .i64 f4,.pointer f5,.int .i64 f6,.int .i64 f7,.pointer f8,.int .i64 f9,.int .i64 f10,.pointer f11,.int .i64 f12,.int .i64 f13,.pointer f14,.bool f15,.bool f16]] V R:=
 fn_does (LF:=LF0) (RF:=[1000007]) (β0:=(fun _=>0)) tab_ok mixed [] [] func62 (by kernel_rfl)
  [(0,.agg [.v (.int .i64 f0),.v (.int .i64 f1),.v (.pointer f2),.v (.int .i64 f3),.v (.int .i64 f4),.v (.pointer f5),.v (.int .i64 f6),.v (.int .i64 f7),.v (.pointer f8),.v (.int .i64 f9),.v (.int .i64 f10),.v (.pointer f11),.v (.int .i64 f12),.v (.int .i64 f13),.v (.pointer f14),.v (.bool f15),.v (.bool f16)])]
  [] (by kernel_rfl) trivial h (by kernel_rfl)
theorem vc_geo_Fr_Reverse (f0:Int) (f1:Int) (f2:OA) (f3:Int) (f4:Int) (f5:OA) (f6:Int) (f7:Int) (f8:OA) (f9:Int) (f10:Int) (f11:OA) (f12:Int) (f13:Int) (f14:OA) (f15:Bool) (f16:Bool) (V:View) (R:Value->View->Prop)
  (h:(∀V1:View,V.Le V1->Acts prog 125 #[.agg #[.int .i64 f0,.int .i64 f1,.pointer f2,.int .i64 f3,.int .i64 f4,.pointer f5,.int .i64 f6,.int .i64 f7,.pointer f8]] V1 fun r1_ V2=>∃x1_:Int,∃x2_:Int,∃p3_:OA,∃x4_:Int,∃x5_:Int,∃p6_:OA,∃x7_:Int,∃x8_:Int,∃p9_:OA,r1_=.agg #[.int .i64 x1_,.int .i64 x2_,.pointer p3_,.int .i64 x4_,.int .i64 x5_,.pointer p6_,.int .i64 x7_,.int .i64 x8_,.pointer p9_]/\(∀V3:View,V2.Le V3->Acts prog 126 #[.agg #[.int .i64 f9,.int .i64 f10,.pointer f11,.int .i64 f12,.int .i64 f13,.pointer f14,.bool f15,.bool f16]] V3 fun r3_ V4=>∃x10_:Int,∃x11_:Int,∃p12_:OA,∃x13_:Int,∃x14_:Int,∃p15_:OA,∃b16_:Bool,∃b17_:Bool,r3_=.agg #[.int .i64 x10_,.int .i64 x11_,.pointer p12_,.int .i64 x13_,.int .i64 x14_,.pointer p15_,.bool b16_,.bool b17_]/\(∀V5:View,V4.Le V5->R (.agg #[.int .i64 x1_,.int .i64 x2_,.pointer p3_,.int .i64 x4_,.int .i64 x5_,.pointer p6_,.int .i64 x7_,.int .i64 x8_,.pointer p9_,.int .i64 x10_,.int .i64 x11_,.pointer p12_,.int .i64 x13_,.int .i64 x14_,.pointer p15_,.bool b16_,.bool b17_]) V5)))) :
  Acts prog 68 #[.agg #[.int .i64 f0,.int .i64 f1,.pointer f2,.int .i64 f3,.int .i64 f4,.pointer f5,.int .i64 f6,.int .i64 f7,.pointer f8,.int .i64 f9,.int .i64 f10,.pointer f11,.int .i64 f12,.int .i64 f13,.pointer f14,.bool f15,.bool f16]] V R:=
 fn_does (LF:=LF0) (RF:=[1000007]) (β0:=(fun _=>0)) tab_ok mixed [] [] func68 (by kernel_rfl)
  [(0,.agg [.v (.int .i64 f0),.v (.int .i64 f1),.v (.pointer f2),.v (.int .i64 f3),.v (.int .i64 f4),.v (.pointer f5),.v (.int .i64 f6),.v (.int .i64 f7),.v (.pointer f8),.v (.int .i64 f9),.v (.int .i64 f10),.v (.pointer f11),.v (.int .i64 f12),.v (.int .i64 f13),.v (.pointer f14),.v (.bool f15),.v (.bool f16)])]
  [] (by kernel_rfl) trivial h (by kernel_rfl)
theorem vc_geo_Fr_Has (f0:Int) (f1:Int) (f2:OA) (f3:Int) (f4:Int) (f5:OA) (f6:Int) (f7:Int) (f8:OA) (f9:Int) (f10:Int) (f11:OA) (f12:Int) (f13:Int) (f14:OA) (f15:Bool) (f16:Bool) (p0:Int) (p1:Int) (p2:OA) (p3:Int) (p4:Int) (p5:OA) (V:View) (R:Value->View->Prop)
  (h:(∀V1:View,V.Le V1->Acts prog 123 #[.agg #[.int .i64 f0,.int .i64 f1,.pointer f2,.int .i64 f3,.int .i64 f4,.pointer f5,.int .i64 f6,.int .i64 f7,.pointer f8],.agg #[.int .i64 p0,.int .i64 p1,.pointer p2,.int .i64 p3,.int .i64 p4,.pointer p5]] V1 fun r1_ V2=>∃x1_:Int,r1_=.int .i64 x1_/\(((x1_ == (0:Int))=true->(∀V3:View,V2.Le V3->Acts prog 101 #[.agg #[.int .i64 f0,.int .i64 f1,.pointer f2,.int .i64 f3,.int .i64 f4,.pointer f5,.int .i64 f6,.int .i64 f7,.pointer f8],.agg #[.int .i64 p0,.int .i64 p1,.pointer p2,.int .i64 p3,.int .i64 p4,.pointer p5]] V3 fun r3_ V4=>∃x2_:Int,∃x3_:Int,∃p4_:OA,r3_=.agg #[.int .i64 x2_,.int .i64 x3_,.pointer p4_]/\(∀V5:View,V4.Le V5->Acts prog 124 #[.agg #[.int .i64 f9,.int .i64 f10,.pointer f11,.int .i64 f12,.int .i64 f13,.pointer f14,.bool f15,.bool f16],.agg #[.int .i64 x2_,.int .i64 x3_,.pointer p4_]] V5 fun r5_ V6=>∃b5_:Bool,r5_=.bool b5_/\(∀V7:View,V6.Le V7->R (.bool b5_) V7))))/\((x1_ == (0:Int))=false->(∀V8:View,V2.Le V8->R (.bool false) V8))))) :
  Acts prog 67 #[.agg #[.int .i64 f0,.int .i64 f1,.pointer f2,.int .i64 f3,.int .i64 f4,.pointer f5,.int .i64 f6,.int .i64 f7,.pointer f8,.int .i64 f9,.int .i64 f10,.pointer f11,.int .i64 f12,.int .i64 f13,.pointer f14,.bool f15,.bool f16],.agg #[.int .i64 p0,.int .i64 p1,.pointer p2,.int .i64 p3,.int .i64 p4,.pointer p5]] V R:=
 fn_does (LF:=LF0) (RF:=[1000007]) (β0:=(fun _=>0)) tab_ok mixed [] [] func67 (by kernel_rfl)
  [(0,.agg [.v (.int .i64 f0),.v (.int .i64 f1),.v (.pointer f2),.v (.int .i64 f3),.v (.int .i64 f4),.v (.pointer f5),.v (.int .i64 f6),.v (.int .i64 f7),.v (.pointer f8),.v (.int .i64 f9),.v (.int .i64 f10),.v (.pointer f11),.v (.int .i64 f12),.v (.int .i64 f13),.v (.pointer f14),.v (.bool f15),.v (.bool f16)]),(1,.agg [.v (.int .i64 p0),.v (.int .i64 p1),.v (.pointer p2),.v (.int .i64 p3),.v (.int .i64 p4),.v (.pointer p5)])]
  [] (by kernel_rfl) trivial h (by kernel_rfl)
theorem vc_fragment_Valid (f0:Bool) (f1p:OA) (f1n f1c:Nat) (f2:Bool) (f3p:OA) (f3n f3c:Nat) (f4:Bool) (f5p:OA) (f5n f5c:Nat) (f6:Bool) (f7p:OA) (f7n f7c:Nat) (f8p:OA) (f8n f8c:Nat) (f9:Bool) (f10p:OA) (f10n f10c:Nat) (f11p:OA) (f11n f11c:Nat) (f12:Bool) (f13:Bool) (V:View) (R:Value->View->Prop)
  (h:(∀V1:View,V.Le V1->Acts prog 66 #[.agg #[.bool f0,.slice f1p f1n f1c,.bool f2,.slice f3p f3n f3c,.bool f4,.slice f5p f5n f5c,.bool f6,.slice f7p f7n f7c,.slice f8p f8n f8c,.bool f9,.slice f10p f10n f10c,.slice f11p f11n f11c,.bool f12,.bool f13]] V1 fun r1_ V2=>∃x1_:Int,∃x2_:Int,∃p3_:OA,∃x4_:Int,∃x5_:Int,∃p6_:OA,∃x7_:Int,∃x8_:Int,∃p9_:OA,∃x10_:Int,∃x11_:Int,∃p12_:OA,∃x13_:Int,∃x14_:Int,∃p15_:OA,∃b16_:Bool,∃b17_:Bool,∃b18_:Bool,r1_=.tuple #[.agg #[.int .i64 x1_,.int .i64 x2_,.pointer p3_,.int .i64 x4_,.int .i64 x5_,.pointer p6_,.int .i64 x7_,.int .i64 x8_,.pointer p9_,.int .i64 x10_,.int .i64 x11_,.pointer p12_,.int .i64 x13_,.int .i64 x14_,.pointer p15_,.bool b16_,.bool b17_],.bool b18_]/\(∀V3:View,V2.Le V3->R (.bool b18_) V3))) :
  Acts prog 30 #[.agg #[.bool f0,.slice f1p f1n f1c,.bool f2,.slice f3p f3n f3c,.bool f4,.slice f5p f5n f5c,.bool f6,.slice f7p f7n f7c,.slice f8p f8n f8c,.bool f9,.slice f10p f10n f10c,.slice f11p f11n f11c,.bool f12,.bool f13]] V R:=
 fn_does (LF:=LF0) (RF:=[1000007]) (β0:=(fun _=>0)) tab_ok mixed [] [] func30 (by kernel_rfl)
  [(0,.agg [.v (.bool f0),.v (.slice f1p f1n f1c),.v (.bool f2),.v (.slice f3p f3n f3c),.v (.bool f4),.v (.slice f5p f5n f5c),.v (.bool f6),.v (.slice f7p f7n f7c),.v (.slice f8p f8n f8c),.v (.bool f9),.v (.slice f10p f10n f10c),.v (.slice f11p f11n f11c),.v (.bool f12),.v (.bool f13)])]
  [] (by kernel_rfl) trivial h (by kernel_rfl)
theorem vc_fragment_FromPoints (p0:Bool) (p1p:OA) (p1n p1c:Nat) (p2p:OA) (p2n p2c:Nat) (p3:Bool) (p4p:OA) (p4n p4c:Nat) (p5p:OA) (p5n p5c:Nat) (q0:Bool) (q1p:OA) (q1n q1c:Nat) (q2p:OA) (q2n q2c:Nat) (q3:Bool) (q4p:OA) (q4n q4c:Nat) (q5p:OA) (q5n q5c:Nat) (V:View) (R:Value->View->Prop)
  (h:(∀V1:View,V.Le V1->Acts prog 48 #[.agg #[.bool p0,.slice p1p p1n p1c,.slice p2p p2n p2c,.bool p3,.slice p4p p4n p4c,.slice p5p p5n p5c]] V1 fun r1_ V2=>∃x1_:Int,∃x2_:Int,∃p3_:OA,∃x4_:Int,∃x5_:Int,∃p6_:OA,r1_=.agg #[.int .i64 x1_,.int .i64 x2_,.pointer p3_,.int .i64 x4_,.int .i64 x5_,.pointer p6_]/\(∀V3:View,V2.Le V3->Acts prog 48 #[.agg #[.bool q0,.slice q1p q1n q1c,.slice q2p q2n q2c,.bool q3,.slice q4p q4n q4c,.slice q5p q5n q5c]] V3 fun r3_ V4=>∃x7_:Int,∃x8_:Int,∃p9_:OA,∃x10_:Int,∃x11_:Int,∃p12_:OA,r3_=.agg #[.int .i64 x7_,.int .i64 x8_,.pointer p9_,.int .i64 x10_,.int .i64 x11_,.pointer p12_]/\(∀V5:View,V4.Le V5->Acts prog 47 #[.agg #[.int .i64 x1_,.int .i64 x2_,.pointer p3_,.int .i64 x4_,.int .i64 x5_,.pointer p6_],.agg #[.int .i64 x7_,.int .i64 x8_,.pointer p9_,.int .i64 x10_,.int .i64 x11_,.pointer p12_]] V5 fun r5_ V6=>∃x13_:Int,∃x14_:Int,∃p15_:OA,∃x16_:Int,∃x17_:Int,∃p18_:OA,∃x19_:Int,∃x20_:Int,∃p21_:OA,∃x22_:Int,∃x23_:Int,∃p24_:OA,∃x25_:Int,∃x26_:Int,∃p27_:OA,∃b28_:Bool,∃b29_:Bool,∃b30_:Bool,r5_=.tuple #[.agg #[.int .i64 x13_,.int .i64 x14_,.pointer p15_,.int .i64 x16_,.int .i64 x17_,.pointer p18_,.int .i64 x19_,.int .i64 x20_,.pointer p21_,.int .i64 x22_,.int .i64 x23_,.pointer p24_,.int .i64 x25_,.int .i64 x26_,.pointer p27_,.bool b28_,.bool b29_],.bool b30_]/\(((!b30_)=true->(∀V7:View,V6.Le V7->R (.tuple #[.agg #[.bool false,.slice none 0 0,.bool false,.slice none 0 0,.bool false,.slice none 0 0,.bool false,.slice none 0 0,.slice none 0 0,.bool false,.slice none 0 0,.slice none 0 0,.bool false,.bool false],.bool false]) V7))/\((!b30_)=false->(∀V8:View,V6.Le V8->Acts prog 49 #[.agg #[.int .i64 x13_,.int .i64 x14_,.pointer p15_,.int .i64 x16_,.int .i64 x17_,.pointer p18_,.int .i64 x19_,.int .i64 x20_,.pointer p21_,.int .i64 x22_,.int .i64 x23_,.pointer p24_,.int .i64 x25_,.int .i64 x26_,.pointer p27_,.bool b28_,.bool b29_]] V8 fun r8_ V9=>∃b31_:Bool,∃(p32_:OA) (n32_ c32_:Nat),∃b33_:Bool,∃(p34_:OA) (n34_ c34_:Nat),∃b35_:Bool,∃(p36_:OA) (n36_ c36_:Nat),∃b37_:Bool,∃(p38_:OA) (n38_ c38_:Nat),∃(p39_:OA) (n39_ c39_:Nat),∃b40_:Bool,∃(p41_:OA) (n41_ c41_:Nat),∃(p42_:OA) (n42_ c42_:Nat),∃b43_:Bool,∃b44_:Bool,r8_=.agg #[.bool b31_,.slice p32_ n32_ c32_,.bool b33_,.slice p34_ n34_ c34_,.bool b35_,.slice p36_ n36_ c36_,.bool b37_,.slice p38_ n38_ c38_,.slice p39_ n39_ c39_,.bool b40_,.slice p41_ n41_ c41_,.slice p42_ n42_ c42_,.bool b43_,.bool b44_]/\(∀V10:View,V9.Le V10->R (.tuple #[.agg #[.bool b31_,.slice p32_ n32_ c32_,.bool b33_,.slice p34_ n34_ c34_,.bool b35_,.slice p36_ n36_ c36_,.bool b37_,.slice p38_ n38_ c38_,.slice p39_ n39_ c39_,.bool b40_,.slice p41_ n41_ c41_,.slice p42_ n42_ c42_,.bool b43_,.bool b44_],.bool true]) V10)))))))) :
  Acts prog 9 #[.agg #[.bool p0,.slice p1p p1n p1c,.slice p2p p2n p2c,.bool p3,.slice p4p p4n p4c,.slice p5p p5n p5c],.agg #[.bool q0,.slice q1p q1n q1c,.slice q2p q2n q2c,.bool q3,.slice q4p q4n q4c,.slice q5p q5n q5c]] V R:=
 fn_does (LF:=LF0) (RF:=[1000007]) (β0:=(fun _=>0)) tab_ok mixed [] [] func9 (by kernel_rfl)
  [(0,.agg [.v (.bool p0),.v (.slice p1p p1n p1c),.v (.slice p2p p2n p2c),.v (.bool p3),.v (.slice p4p p4n p4c),.v (.slice p5p p5n p5c)]),(1,.agg [.v (.bool q0),.v (.slice q1p q1n q1c),.v (.slice q2p q2n q2c),.v (.bool q3),.v (.slice q4p q4n q4c),.v (.slice q5p q5n q5c)])]
  [] (by kernel_rfl) trivial h (by kernel_rfl)
theorem vc_fragment_end_Start (f0:Bool) (f1p:OA) (f1n f1c:Nat) (f2:Bool) (f3p:OA) (f3n f3c:Nat) (f4:Bool) (f5p:OA) (f5n f5c:Nat) (f6:Bool) (f7p:OA) (f7n f7c:Nat) (f8p:OA) (f8n f8c:Nat) (f9:Bool) (f10p:OA) (f10n f10c:Nat) (f11p:OA) (f11n f11c:Nat) (f12:Bool) (f13:Bool) (V:View) (R:Value->View->Prop)
  (h:(∀V1:View,V.Le V1->Acts prog 66 #[.agg #[.bool f0,.slice f1p f1n f1c,.bool f2,.slice f3p f3n f3c,.bool f4,.slice f5p f5n f5c,.bool f6,.slice f7p f7n f7c,.slice f8p f8n f8c,.bool f9,.slice f10p f10n f10c,.slice f11p f11n f11c,.bool f12,.bool f13]] V1 fun r1_ V2=>∃x1_:Int,∃x2_:Int,∃p3_:OA,∃x4_:Int,∃x5_:Int,∃p6_:OA,∃x7_:Int,∃x8_:Int,∃p9_:OA,∃x10_:Int,∃x11_:Int,∃p12_:OA,∃x13_:Int,∃x14_:Int,∃p15_:OA,∃b16_:Bool,∃b17_:Bool,∃b18_:Bool,r1_=.tuple #[.agg #[.int .i64 x1_,.int .i64 x2_,.pointer p3_,.int .i64 x4_,.int .i64 x5_,.pointer p6_,.int .i64 x7_,.int .i64 x8_,.pointer p9_,.int .i64 x10_,.int .i64 x11_,.pointer p12_,.int .i64 x13_,.int .i64 x14_,.pointer p15_,.bool b16_,.bool b17_],.bool b18_]/\(((!b18_)=true->(∀V3:View,V2.Le V3->R (.tuple #[.agg #[.bool false,.slice none 0 0,.slice none 0 0,.bool false,.slice none 0 0,.slice none 0 0],.bool false]) V3))/\((!b18_)=false->(∀V4:View,V2.Le V4->Acts prog 61 #[.agg #[.int .i64 x1_,.int .i64 x2_,.pointer p3_,.int .i64 x4_,.int .i64 x5_,.pointer p6_,.int .i64 x7_,.int .i64 x8_,.pointer p9_,.int .i64 x10_,.int .i64 x11_,.pointer p12_,.int .i64 x13_,.int .i64 x14_,.pointer p15_,.bool b16_,.bool b17_]] V4 fun r4_ V5=>∃x19_:Int,∃x20_:Int,∃p21_:OA,∃x22_:Int,∃x23_:Int,∃p24_:OA,∃b25_:Bool,r4_=.tuple #[.agg #[.int .i64 x19_,.int .i64 x20_,.pointer p21_,.int .i64 x22_,.int .i64 x23_,.pointer p24_],.bool b25_]/\(((!b25_)=true->(∀V6:View,V5.Le V6->R (.tuple #[.agg #[.bool false,.slice none 0 0,.slice none 0 0,.bool false,.slice none 0 0,.slice none 0 0],.bool false]) V6))/\((!b25_)=false->(∀V7:View,V5.Le V7->Acts prog 83 #[.agg #[.int .i64 x19_,.int .i64 x20_,.pointer p21_,.int .i64 x22_,.int .i64 x23_,.pointer p24_]] V7 fun r7_ V8=>∃b26_:Bool,∃(p27_:OA) (n27_ c27_:Nat),∃(p28_:OA) (n28_ c28_:Nat),∃b29_:Bool,∃(p30_:OA) (n30_ c30_:Nat),∃(p31_:OA) (n31_ c31_:Nat),r7_=.agg #[.bool b26_,.slice p27_ n27_ c27_,.slice p28_ n28_ c28_,.bool b29_,.slice p30_ n30_ c30_,.slice p31_ n31_ c31_]/\(∀V9:View,V8.Le V9->R (.tuple #[.agg #[.bool b26_,.slice p27_ n27_ c27_,.slice p28_ n28_ c28_,.bool b29_,.slice p30_ n30_ c30_,.slice p31_ n31_ c31_],.bool true]) V9))))))))) :
  Acts prog 60 #[.agg #[.bool f0,.slice f1p f1n f1c,.bool f2,.slice f3p f3n f3c,.bool f4,.slice f5p f5n f5c,.bool f6,.slice f7p f7n f7c,.slice f8p f8n f8c,.bool f9,.slice f10p f10n f10c,.slice f11p f11n f11c,.bool f12,.bool f13],.func (.func 61) #[] #[]] V R:=
 fn_does (LF:=LF0) (RF:=[1000007]) (β0:=(fun _=>0)) tab_ok mixed [] [] func60 (by kernel_rfl)
  [(0,.agg [.v (.bool f0),.v (.slice f1p f1n f1c),.v (.bool f2),.v (.slice f3p f3n f3c),.v (.bool f4),.v (.slice f5p f5n f5c),.v (.bool f6),.v (.slice f7p f7n f7c),.v (.slice f8p f8n f8c),.v (.bool f9),.v (.slice f10p f10n f10c),.v (.slice f11p f11n f11c),.v (.bool f12),.v (.bool f13)]),(1,.c (.clo 61 []))]
  [] (by kernel_rfl) trivial h (by kernel_rfl)
theorem vc_fragment_end_End (f0:Bool) (f1p:OA) (f1n f1c:Nat) (f2:Bool) (f3p:OA) (f3n f3c:Nat) (f4:Bool) (f5p:OA) (f5n f5c:Nat) (f6:Bool) (f7p:OA) (f7n f7c:Nat) (f8p:OA) (f8n f8c:Nat) (f9:Bool) (f10p:OA) (f10n f10c:Nat) (f11p:OA) (f11n f11c:Nat) (f12:Bool) (f13:Bool) (V:View) (R:Value->View->Prop)
  (h:(∀V1:View,V.Le V1->Acts prog 66 #[.agg #[.bool f0,.slice f1p f1n f1c,.bool f2,.slice f3p f3n f3c,.bool f4,.slice f5p f5n f5c,.bool f6,.slice f7p f7n f7c,.slice f8p f8n f8c,.bool f9,.slice f10p f10n f10c,.slice f11p f11n f11c,.bool f12,.bool f13]] V1 fun r1_ V2=>∃x1_:Int,∃x2_:Int,∃p3_:OA,∃x4_:Int,∃x5_:Int,∃p6_:OA,∃x7_:Int,∃x8_:Int,∃p9_:OA,∃x10_:Int,∃x11_:Int,∃p12_:OA,∃x13_:Int,∃x14_:Int,∃p15_:OA,∃b16_:Bool,∃b17_:Bool,∃b18_:Bool,r1_=.tuple #[.agg #[.int .i64 x1_,.int .i64 x2_,.pointer p3_,.int .i64 x4_,.int .i64 x5_,.pointer p6_,.int .i64 x7_,.int .i64 x8_,.pointer p9_,.int .i64 x10_,.int .i64 x11_,.pointer p12_,.int .i64 x13_,.int .i64 x14_,.pointer p15_,.bool b16_,.bool b17_],.bool b18_]/\(((!b18_)=true->(∀V3:View,V2.Le V3->R (.tuple #[.agg #[.bool false,.slice none 0 0,.slice none 0 0,.bool false,.slice none 0 0,.slice none 0 0],.bool false]) V3))/\((!b18_)=false->(∀V4:View,V2.Le V4->Acts prog 62 #[.agg #[.int .i64 x1_,.int .i64 x2_,.pointer p3_,.int .i64 x4_,.int .i64 x5_,.pointer p6_,.int .i64 x7_,.int .i64 x8_,.pointer p9_,.int .i64 x10_,.int .i64 x11_,.pointer p12_,.int .i64 x13_,.int .i64 x14_,.pointer p15_,.bool b16_,.bool b17_]] V4 fun r4_ V5=>∃x19_:Int,∃x20_:Int,∃p21_:OA,∃x22_:Int,∃x23_:Int,∃p24_:OA,∃b25_:Bool,r4_=.tuple #[.agg #[.int .i64 x19_,.int .i64 x20_,.pointer p21_,.int .i64 x22_,.int .i64 x23_,.pointer p24_],.bool b25_]/\(((!b25_)=true->(∀V6:View,V5.Le V6->R (.tuple #[.agg #[.bool false,.slice none 0 0,.slice none 0 0,.bool false,.slice none 0 0,.slice none 0 0],.bool false]) V6))/\((!b25_)=false->(∀V7:View,V5.Le V7->Acts prog 83 #[.agg #[.int .i64 x19_,.int .i64 x20_,.pointer p21_,.int .i64 x22_,.int .i64 x23_,.pointer p24_]] V7 fun r7_ V8=>∃b26_:Bool,∃(p27_:OA) (n27_ c27_:Nat),∃(p28_:OA) (n28_ c28_:Nat),∃b29_:Bool,∃(p30_:OA) (n30_ c30_:Nat),∃(p31_:OA) (n31_ c31_:Nat),r7_=.agg #[.bool b26_,.slice p27_ n27_ c27_,.slice p28_ n28_ c28_,.bool b29_,.slice p30_ n30_ c30_,.slice p31_ n31_ c31_]/\(∀V9:View,V8.Le V9->R (.tuple #[.agg #[.bool b26_,.slice p27_ n27_ c27_,.slice p28_ n28_ c28_,.bool b29_,.slice p30_ n30_ c30_,.slice p31_ n31_ c31_],.bool true]) V9))))))))) :
  Acts prog 60 #[.agg #[.bool f0,.slice f1p f1n f1c,.bool f2,.slice f3p f3n f3c,.bool f4,.slice f5p f5n f5c,.bool f6,.slice f7p f7n f7c,.slice f8p f8n f8c,.bool f9,.slice f10p f10n f10c,.slice f11p f11n f11c,.bool f12,.bool f13],.func (.func 62) #[] #[]] V R:=
 fn_does (LF:=LF0) (RF:=[1000007]) (β0:=(fun _=>0)) tab_ok mixed [] [] func60 (by kernel_rfl)
  [(0,.agg [.v (.bool f0),.v (.slice f1p f1n f1c),.v (.bool f2),.v (.slice f3p f3n f3c),.v (.bool f4),.v (.slice f5p f5n f5c),.v (.bool f6),.v (.slice f7p f7n f7c),.v (.slice f8p f8n f8c),.v (.bool f9),.v (.slice f10p f10n f10c),.v (.slice f11p f11n f11c),.v (.bool f12),.v (.bool f13)]),(1,.c (.clo 62 []))]
  [] (by kernel_rfl) trivial h (by kernel_rfl)
theorem vc_fragment_Start (f0:Bool) (f1p:OA) (f1n f1c:Nat) (f2:Bool) (f3p:OA) (f3n f3c:Nat) (f4:Bool) (f5p:OA) (f5n f5c:Nat) (f6:Bool) (f7p:OA) (f7n f7c:Nat) (f8p:OA) (f8n f8c:Nat) (f9:Bool) (f10p:OA) (f10n f10c:Nat) (f11p:OA) (f11n f11c:Nat) (f12:Bool) (f13:Bool) (V:View) (R:Value->View->Prop)
  (h:(∀V1:View,V.Le V1->Acts prog 60 #[.agg #[.bool f0,.slice f1p f1n f1c,.bool f2,.slice f3p f3n f3c,.bool f4,.slice f5p f5n f5c,.bool f6,.slice f7p f7n f7c,.slice f8p f8n f8c,.bool f9,.slice f10p f10n f10c,.slice f11p f11n f11c,.bool f12,.bool f13],.func (.func 61) #[] #[]] V1 fun r1_ V2=>∃b1_:Bool,∃(p2_:OA) (n2_ c2_:Nat),∃(p3_:OA) (n3_ c3_:Nat),∃b4_:Bool,∃(p5_:OA) (n5_ c5_:Nat),∃(p6_:OA) (n6_ c6_:Nat),∃b7_:Bool,r1_=.tuple #[.agg #[.bool b1_,.slice p2_ n2_ c2_,.slice p3_ n3_ c3_,.bool b4_,.slice p5_ n5_ c5_,.slice p6_ n6_ c6_],.bool b7_]/\(∀V3:View,V2.Le V3->R (.tuple #[.agg #[.bool b1_,.slice p2_ n2_ c2_,.slice p3_ n3_ c3_,.bool b4_,.slice p5_ n5_ c5_,.slice p6_ n6_ c6_],.bool b7_]) V3))) :
  Acts prog 16 #[.agg #[.bool f0,.slice f1p f1n f1c,.bool f2,.slice f3p f3n f3c,.bool f4,.slice f5p f5n f5c,.bool f6,.slice f7p f7n f7c,.slice f8p f8n f8c,.bool f9,.slice f10p f10n f10c,.slice f11p f11n f11c,.bool f12,.bool f13]] V R:=
 fn_does (LF:=LF0) (RF:=[1000007]) (β0:=(fun _=>0)) tab_ok mixed [] [] func16 (by kernel_rfl)
  [(0,.agg [.v (.bool f0),.v (.slice f1p f1n f1c),.v (.bool f2),.v (.slice f3p f3n f3c),.v (.bool f4),.v (.slice f5p f5n f5c),.v (.bool f6),.v (.slice f7p f7n f7c),.v (.slice f8p f8n f8c),.v (.bool f9),.v (.slice f10p f10n f10c),.v (.slice f11p f11n f11c),.v (.bool f12),.v (.bool f13)])]
  [] (by kernel_rfl) trivial h (by kernel_rfl)
theorem vc_fragment_End (f0:Bool) (f1p:OA) (f1n f1c:Nat) (f2:Bool) (f3p:OA) (f3n f3c:Nat) (f4:Bool) (f5p:OA) (f5n f5c:Nat) (f6:Bool) (f7p:OA) (f7n f7c:Nat) (f8p:OA) (f8n f8c:Nat) (f9:Bool) (f10p:OA) (f10n f10c:Nat) (f11p:OA) (f11n f11c:Nat) (f12:Bool) (f13:Bool) (V:View) (R:Value->View->Prop)
  (h:(∀V1:View,V.Le V1->Acts prog 60 #[.agg #[.bool f0,.slice f1p f1n f1c,.bool f2,.slice f3p f3n f3c,.bool f4,.slice f5p f5n f5c,.bool f6,.slice f7p f7n f7c,.slice f8p f8n f8c,.bool f9,.slice f10p f10n f10c,.slice f11p f11n f11c,.bool f12,.bool f13],.func (.func 62) #[] #[]] V1 fun r1_ V2=>∃b1_:Bool,∃(p2_:OA) (n2_ c2_:Nat),∃(p3_:OA) (n3_ c3_:Nat),∃b4_:Bool,∃(p5_:OA) (n5_ c5_:Nat),∃(p6_:OA) (n6_ c6_:Nat),∃b7_:Bool,r1_=.tuple #[.agg #[.bool b1_,.slice p2_ n2_ c2_,.slice p3_ n3_ c3_,.bool b4_,.slice p5_ n5_ c5_,.slice p6_ n6_ c6_],.bool b7_]/\(∀V3:View,V2.Le V3->R (.tuple #[.agg #[.bool b1_,.slice p2_ n2_ c2_,.slice p3_ n3_ c3_,.bool b4_,.slice p5_ n5_ c5_,.slice p6_ n6_ c6_],.bool b7_]) V3))) :
  Acts prog 17 #[.agg #[.bool f0,.slice f1p f1n f1c,.bool f2,.slice f3p f3n f3c,.bool f4,.slice f5p f5n f5c,.bool f6,.slice f7p f7n f7c,.slice f8p f8n f8c,.bool f9,.slice f10p f10n f10c,.slice f11p f11n f11c,.bool f12,.bool f13]] V R:=
 fn_does (LF:=LF0) (RF:=[1000007]) (β0:=(fun _=>0)) tab_ok mixed [] [] func17 (by kernel_rfl)
  [(0,.agg [.v (.bool f0),.v (.slice f1p f1n f1c),.v (.bool f2),.v (.slice f3p f3n f3c),.v (.bool f4),.v (.slice f5p f5n f5c),.v (.bool f6),.v (.slice f7p f7n f7c),.v (.slice f8p f8n f8c),.v (.bool f9),.v (.slice f10p f10n f10c),.v (.slice f11p f11n f11c),.v (.bool f12),.v (.bool f13)])]
  [] (by kernel_rfl) trivial h (by kernel_rfl)
theorem vc_fragment_Reverse (f0:Bool) (f1p:OA) (f1n f1c:Nat) (f2:Bool) (f3p:OA) (f3n f3c:Nat) (f4:Bool) (f5p:OA) (f5n f5c:Nat) (f6:Bool) (f7p:OA) (f7n f7c:Nat) (f8p:OA) (f8n f8c:Nat) (f9:Bool) (f10p:OA) (f10n f10c:Nat) (f11p:OA) (f11n f11c:Nat) (f12:Bool) (f13:Bool) (V:View) (R:Value->View->Prop)
  (h:(∀V1:View,V.Le V1->Acts prog 66 #[.agg #[.bool f0,.slice f1p f1n f1c,.bool f2,.slice f3p f3n f3c,.bool f4,.slice f5p f5n f5c,.bool f6,.slice f7p f7n f7c,.slice f8p f8n f8c,.bool f9,.slice f10p f10n f10c,.slice f11p f11n f11c,.bool f12,.bool f13]] V1 fun r1_ V2=>∃x1_:Int,∃x2_:Int,∃p3_:OA,∃x4_:Int,∃x5_:Int,∃p6_:OA,∃x7_:Int,∃x8_:Int,∃p9_:OA,∃x10_:Int,∃x11_:Int,∃p12_:OA,∃x13_:Int,∃x14_:Int,∃p15_:OA,∃b16_:Bool,∃b17_:Bool,∃b18_:Bool,r1_=.tuple #[.agg #[.int .i64 x1_,.int .i64 x2_,.pointer p3_,.int .i64 x4_,.int .i64 x5_,.pointer p6_,.int .i64 x7_,.int .i64 x8_,.pointer p9_,.int .i64 x10_,.int .i64 x11_,.pointer p12_,.int .i64 x13_,.int .i64 x14_,.pointer p15_,.bool b16_,.bool b17_],.bool b18_]/\(((!b18_)=true->(∃y19_:Value,(∃a20_,(some ⟨0,0,none⟩:OA)=some a20_/\V2.at a20_ (y19_))/\(∀V3:View,V2.Le V3->R (.tuple #[.agg #[.bool false,.slice none 0 0,.bool false,.slice none 0 0,.bool false,.slice none 0 0,.bool false,.slice none 0 0,.slice none 0 0,.bool false,.slice none 0 0,.slice none 0 0,.bool false,.bool false],y19_]) V3)))/\((!b18_)=false->(∀V4:View,V2.Le V4->Acts prog 68 #[.agg #[.int .i64 x1_,.int .i64 x2_,.pointer p3_,.int .i64 x4_,.int .i64 x5_,.pointer p6_,.int .i64 x7_,.int .i64 x8_,.pointer p9_,.int .i64 x10_,.int .i64 x11_,.pointer p12_,.int .i64 x13_,.int .i64 x14_,.pointer p15_,.bool b16_,.bool b17_]] V4 fun r4_ V5=>∃x21_:Int,∃x22_:Int,∃p23_:OA,∃x24_:Int,∃x25_:Int,∃p26_:OA,∃x27_:Int,∃x28_:Int,∃p29_:OA,∃x30_:Int,∃x31_:Int,∃p32_:OA,∃x33_:Int,∃x34_:Int,∃p35_:OA,∃b36_:Bool,∃b37_:Bool,r4_=.agg #[.int .i64 x21_,.int .i64 x22_,.pointer p23_,.int .i64 x24_,.int .i64 x25_,.pointer p26_,.int .i64 x27_,.int .i64 x28_,.pointer p29_,.int .i64 x30_,.int .i64 x31_,.pointer p32_,.int .i64 x33_,.int .i64 x34_,.pointer p35_,.bool b36_,.bool b37_]/\(∀V6:View,V5.Le V6->Acts prog 49 #[.agg #[.int .i64 x21_,.int .i64 x22_,.pointer p23_,.int .i64 x24_,.int .i64 x25_,.pointer p26_,.int .i64 x27_,.int .i64 x28_,.pointer p29_,.int .i64 x30_,.int .i64 x31_,.pointer p32_,.int .i64 x33_,.int .i64 x34_,.pointer p35_,.bool b36_,.bool b37_]] V6 fun r6_ V7=>∃b38_:Bool,∃(p39_:OA) (n39_ c39_:Nat),∃b40_:Bool,∃(p41_:OA) (n41_ c41_:Nat),∃b42_:Bool,∃(p43_:OA) (n43_ c43_:Nat),∃b44_:Bool,∃(p45_:OA) (n45_ c45_:Nat),∃(p46_:OA) (n46_ c46_:Nat),∃b47_:Bool,∃(p48_:OA) (n48_ c48_:Nat),∃(p49_:OA) (n49_ c49_:Nat),∃b50_:Bool,∃b51_:Bool,r6_=.agg #[.bool b38_,.slice p39_ n39_ c39_,.bool b40_,.slice p41_ n41_ c41_,.bool b42_,.slice p43_ n43_ c43_,.bool b44_,.slice p45_ n45_ c45_,.slice p46_ n46_ c46_,.bool b47_,.slice p48_ n48_ c48_,.slice p49_ n49_ c49_,.bool b50_,.bool b51_]/\(∀V8:View,V7.Le V8->R (.tuple #[.agg #[.bool b38_,.slice p39_ n39_ c39_,.bool b40_,.slice p41_ n41_ c41_,.bool b42_,.slice p43_ n43_ c43_,.bool b44_,.slice p45_ n45_ c45_,.slice p46_ n46_ c46_,.bool b47_,.slice p48_ n48_ c48_,.slice p49_ n49_ c49_,.bool b50_,.bool b51_],.nilIface]) V8))))))) :
  Acts prog 22 #[.agg #[.bool f0,.slice f1p f1n f1c,.bool f2,.slice f3p f3n f3c,.bool f4,.slice f5p f5n f5c,.bool f6,.slice f7p f7n f7c,.slice f8p f8n f8c,.bool f9,.slice f10p f10n f10c,.slice f11p f11n f11c,.bool f12,.bool f13]] V R:=
 fn_does (LF:=LF0) (RF:=[1000007]) (β0:=(fun _=>0)) tab_ok mixed [] [] func22 (by kernel_rfl)
  [(0,.agg [.v (.bool f0),.v (.slice f1p f1n f1c),.v (.bool f2),.v (.slice f3p f3n f3c),.v (.bool f4),.v (.slice f5p f5n f5c),.v (.bool f6),.v (.slice f7p f7n f7c),.v (.slice f8p f8n f8c),.v (.bool f9),.v (.slice f10p f10n f10c),.v (.slice f11p f11n f11c),.v (.bool f12),.v (.bool f13)])]
  [] (by kernel_rfl) trivial h (by kernel_rfl)
theorem vc_fragment_Contains (f0:Bool) (f1p:OA) (f1n f1c:Nat) (f2:Bool) (f3p:OA) (f3n f3c:Nat) (f4:Bool) (f5p:OA) (f5n f5c:Nat) (f6:Bool) (f7p:OA) (f7n f7c:Nat) (f8p:OA) (f8n f8c:Nat) (f9:Bool) (f10p:OA) (f10n f10c:Nat) (f11p:OA) (f11n f11c:Nat) (f12:Bool) (f13:Bool) (p0:Bool) (p1p:OA) (p1n p1c:Nat) (p2p:OA) (p2n p2c:Nat) (p3:Bool) (p4p:OA) (p4n p4c:Nat) (p5p:OA) (p5n p5c:Nat) (V:View) (R:Value->View->Prop)
  (h:(∀V1:View,V.Le V1->Acts prog 66 #[.agg #[.bool f0,.slice f1p f1n f1c,.bool f2,.slice f3p f3n f3c,.bool f4,.slice f5p f5n f5c,.bool f6,.slice f7p f7n f7c,.slice f8p f8n f8c,.bool f9,.slice f10p f10n f10c,.slice f11p f11n f11c,.bool f12,.bool f13]] V1 fun r1_ V2=>∃x1_:Int,∃x2_:Int,∃p3_:OA,∃x4_:Int,∃x5_:Int,∃p6_:OA,∃x7_:Int,∃x8_:Int,∃p9_:OA,∃x10_:Int,∃x11_:Int,∃p12_:OA,∃x13_:Int,∃x14_:Int,∃p15_:OA,∃b16_:Bool,∃b17_:Bool,∃b18_:Bool,r1_=.tuple #[.agg #[.int .i64 x1_,.int .i64 x2_,.pointer p3_,.int .i64 x4_,.int .i64 x5_,.pointer p6_,.int .i64 x7_,.int .i64 x8_,.pointer p9_,.int .i64 x10_,.int .i64 x11_,.pointer p12_,.int .i64 x13_,.int .i64 x14_,.pointer p15_,.bool b16_,.bool b17_],.bool b18_]/\(((!b18_)=true->(∃y19_:Value,(∃a20_,(some ⟨0,0,none⟩:OA)=some a20_/\V2.at a20_ (y19_))/\(∀V3:View,V2.Le V3->R (.tuple #[.bool false,y19_]) V3)))/\((!b18_)=false->(∀V4:View,V2.Le V4->Acts prog 48 #[.agg #[.bool p0,.slice p1p p1n p1c,.slice p2p p2n p2c,.bool p3,.slice p4p p4n p4c,.slice p5p p5n p5c]] V4 fun r4_ V5=>∃x21_:Int,∃x22_:Int,∃p23_:OA,∃x24_:Int,∃x25_:Int,∃p26_:OA,r4_=.agg #[.int .i64 x21_,.int .i64 x22_,.pointer p23_,.int .i64 x24_,.int .i64 x25_,.pointer p26_]/\(∀V6:View,V5.Le V6->Acts prog 67 #[.agg #[.int .i64 x1_,.int .i64 x2_,.pointer p3_,.int .i64 x4_,.int .i64 x5_,.pointer p6_,.int .i64 x7_,.int .i64 x8_,.pointer p9_,.int .i64 x10_,.int .i64 x11_,.pointer p12_,.int .i64 x13_,.int .i64 x14_,.pointer p15_,.bool b16_,.bool b17_],.agg #[.int .i64 x21_,.int .i64 x22_,.pointer p23_,.int .i64 x24_,.int .i64 x25_,.pointer p26_]] V6 fun r6_ V7=>∃b27_:Bool,r6_=.bool b27_/\(∀V8:View,V7.Le V8->R (.tuple #[.bool b27_,.nilIface]) V8))))))) :
  Acts prog 21 #[.agg #[.bool f0,.slice f1p f1n f1c,.bool f2,.slice f3p f3n f3c,.bool f4,.slice f5p f5n f5c,.bool f6,.slice f7p f7n f7c,.slice f8p f8n f8c,.bool f9,.slice f10p f10n f10c,.slice f11p f11n f11c,.bool f12,.bool f13],.agg #[.bool p0,.slice p1p p1n p1c,.slice p2p p2n p2c,.bool p3,.slice p4p p4n p4c,.slice p5p p5n p5c]] V R:=
 fn_does (LF:=LF0) (RF:=[1000007]) (β0:=(fun _=>0)) tab_ok mixed [] [] func21 (by kernel_rfl)
  [(0,.agg [.v (.bool f0),.v (.slice f1p f1n f1c),.v (.bool f2),.v (.slice f3p f3n f3c),.v (.bool f4),.v (.slice f5p f5n f5c),.v (.bool f6),.v (.slice f7p f7n f7c),.v (.slice f8p f8n f8c),.v (.bool f9),.v (.slice f10p f10n f10c),.v (.slice f11p f11n f11c),.v (.bool f12),.v (.bool f13)]),(1,.agg [.v (.bool p0),.v (.slice p1p p1n p1c),.v (.slice p2p p2n p2c),.v (.bool p3),.v (.slice p4p p4n p4c),.v (.slice p5p p5n p5c)])]
  [] (by kernel_rfl) trivial h (by kernel_rfl)
theorem vc_point_FromInts (x:Int) (y:Int) (V:View) (R:Value->View->Prop)
  (h:(∀V1:View,V.Le V1->Acts prog 127 #[.int .i64 x] V1 fun r1_ V2=>∃x1_:Int,∃x2_:Int,∃p3_:OA,r1_=.agg #[.int .i64 x1_,.int .i64 x2_,.pointer p3_]/\(∀V3:View,V2.Le V3->Acts prog 127 #[.int .i64 y] V3 fun r3_ V4=>∃x4_:Int,∃x5_:Int,∃p6_:OA,r3_=.agg #[.int .i64 x4_,.int .i64 x5_,.pointer p6_]/\(∀V5:View,V4.Le V5->Acts prog 83 #[.agg #[.int .i64 x1_,.int .i64 x2_,.pointer p3_,.int .i64 x4_,.int .i64 x5_,.pointer p6_]] V5 fun r5_ V6=>∃b7_:Bool,∃(p8_:OA) (n8_ c8_:Nat),∃(p9_:OA) (n9_ c9_:Nat),∃b10_:Bool,∃(p11_:OA) (n11_ c11_:Nat),∃(p12_:OA) (n12_ c12_:Nat),r5_=.agg #[.bool b7_,.slice p8_ n8_ c8_,.slice p9_ n9_ c9_,.bool b10_,.slice p11_ n11_ c11_,.slice p12_ n12_ c12_]/\(∀V7:View,V6.Le V7->R (.agg #[.bool b7_,.slice p8_ n8_ c8_,.slice p9_ n9_ c9_,.bool b10_,.slice p11_ n11_ c11_,.slice p12_ n12_ c12_]) V7))))) :
  Acts prog 69 #[.int .i64 x,.int .i64 y] V R:=
 fn_does (LF:=LF0) (RF:=[1000007]) (β0:=(fun _=>0)) tab_ok mixed [] [] func69 (by kernel_rfl)
  [(0,.c (.v (.int .i64 x))),(1,.c (.v (.int .i64 y)))]
  [] (by kernel_rfl) trivial h (by kernel_rfl)
theorem vc_point_Same (p0:Bool) (p1p:OA) (p1n p1c:Nat) (p2p:OA) (p2n p2c:Nat) (p3:Bool) (p4p:OA) (p4n p4c:Nat) (p5p:OA) (p5n p5c:Nat) (q0:Bool) (q1p:OA) (q1n q1c:Nat) (q2p:OA) (q2n q2c:Nat) (q3:Bool) (q4p:OA) (q4n q4c:Nat) (q5p:OA) (q5n q5c:Nat) (V:View) (R:Value->View->Prop)
  (h:(∀V1:View,V.Le V1->Acts prog 48 #[.agg #[.bool p0,.slice p1p p1n p1c,.slice p2p p2n p2c,.bool p3,.slice p4p p4n p4c,.slice p5p p5n p5c]] V1 fun r1_ V2=>∃x1_:Int,∃x2_:Int,∃p3_:OA,∃x4_:Int,∃x5_:Int,∃p6_:OA,r1_=.agg #[.int .i64 x1_,.int .i64 x2_,.pointer p3_,.int .i64 x4_,.int .i64 x5_,.pointer p6_]/\(∀V3:View,V2.Le V3->Acts prog 48 #[.agg #[.bool q0,.slice q1p q1n q1c,.slice q2p q2n q2c,.bool q3,.slice q4p q4n q4c,.slice q5p q5n q5c]] V3 fun r3_ V4=>∃x7_:Int,∃x8_:Int,∃p9_:OA,∃x10_:Int,∃x11_:Int,∃p12_:OA,r3_=.agg #[.int .i64 x7_,.int .i64 x8_,.pointer p9_,.int .i64 x10_,.int .i64 x11_,.pointer p12_]/\(∀V5:View,V4.Le V5->Acts prog 128 #[.agg #[.int .i64 x1_,.int .i64 x2_,.pointer p3_,.int .i64 x4_,.int .i64 x5_,.pointer p6_],.agg #[.int .i64 x7_,.int .i64 x8_,.pointer p9_,.int .i64 x10_,.int .i64 x11_,.pointer p12_]] V5 fun r5_ V6=>∃b13_:Bool,r5_=.bool b13_/\(∀V7:View,V6.Le V7->R (.bool b13_) V7))))) :
  Acts prog 70 #[.agg #[.bool p0,.slice p1p p1n p1c,.slice p2p p2n p2c,.bool p3,.slice p4p p4n p4c,.slice p5p p5n p5c],.agg #[.bool q0,.slice q1p q1n q1c,.slice q2p q2n q2c,.bool q3,.slice q4p q4n q4c,.slice q5p q5n q5c]] V R:=
 fn_does (LF:=LF0) (RF:=[1000007]) (β0:=(fun _=>0)) tab_ok mixed [] [] func70 (by kernel_rfl)
  [(0,.agg [.v (.bool p0),.v (.slice p1p p1n p1c),.v (.slice p2p p2n p2c),.v (.bool p3),.v (.slice p4p p4n p4c),.v (.slice p5p p5n p5c)]),(1,.agg [.v (.bool q0),.v (.slice q1p q1n q1c),.v (.slice q2p q2n q2c),.v (.bool q3),.v (.slice q4p q4n q4c),.v (.slice q5p q5n q5c)])]
  [] (by kernel_rfl) trivial h (by kernel_rfl)
end Go.Proofs.Tryz
/- Contracts: the reference's Side and Rev; the program's interval: Neg. -/
namespace Go.Proofs.Tryz
open Go.Eng Go.Big
theorem c_ref04_Side {V:View} {l p:Value} {l_0 l_1 l_2:Int} {p_0 p_1:Rat} (hl:RL V l l_0 l_1 l_2) (hp:RP V p p_0 p_1) {k:Nat} (s0:Sz k ((l_0:Int):Rat)) (s1:Sz k ((l_1:Int):Rat)) (s2:Sz k ((l_2:Int):Rat)) (s3:Sz k p_0) (s4:Sz k p_1) (hk:16 * k + 16 < 274877906944) :
  Acts prog 42 #[l,p] V fun r V'=>r=.int .i64 ((l_0:Rat) * p_0 + (l_1:Rat) * p_1 + (l_2:Rat)).num.sign:=by
 have hl0:=hl
 have hp0:=hp
 obtain ⟨a0,a1,a2,a3,a4,a5,a6,a7,a8,rfl,-,-,-⟩:=hl
 obtain ⟨p0,p1,p2,p3,p4,p5,p6,p7,p8,p9,p10,p11,rfl,-,-⟩:=hp
 refine vc_ref04_Side _ a0 a1 a2 _ a3 a4 a5 _ a6 a7 a8 _ p0 p1 p2 p3 p4 p5 _ p6 p7 p8 p9 p10 p11 V _ fun V1 l1=>(c_ref04_Value (hl0.le l1) (hp0.le l1) s0 s1 s2 s3 s4 (by omega)).mono ?_
 rintro r V2 l2 ⟨u0,u1,u2,u3,u4,u5,rfl,g1,g2⟩
 refine ⟨_,_,_,_,_,_,_,rfl,fun V3 l3=>(c_num_S _ (g1.le l3)).mono ?_⟩
 rintro r V4 l4 rfl
 exact ⟨_,rfl,fun V5 l5=>rfl⟩
theorem c_ref04_Rev {V:View} {l:Value} {a b c:Int} (hl:RL V l a b c):Acts prog 73 #[l] V fun r V'=>RL V' r (-a) (-b) (-c):=by
 obtain ⟨a0,a1,a2,a3,a4,a5,a6,a7,a8,rfl,h1,h2,h3⟩:=hl
 refine vc_ref04_Rev _ a0 a1 a2 _ a3 a4 a5 _ a6 a7 a8 V _ fun V1 l1=>(c_num_Minus a (h1.le l1)).mono ?_
 rintro r V2 l2 ⟨p1,n1,c1,rfl,g1⟩
 refine ⟨_,_,_,_,rfl,fun V3 l3=>(c_num_Minus b (h2.le (l1.trans (l2.trans l3)))).mono ?_⟩
 rintro r V4 l4 ⟨p2,n2,c2,rfl,g2⟩
 refine ⟨_,_,_,_,rfl,fun V5 l5=>(c_num_Minus c (h3.le (l1.trans (l2.trans (l3.trans (l4.trans l5)))))).mono ?_⟩
 rintro r V6 l6 ⟨p3,n3,c3,rfl,g3⟩
 exact ⟨_,_,_,_,rfl,fun V7 l7=>⟨_,_,_,_,_,_,_,_,_,rfl,g1.le (l3.trans (l4.trans (l5.trans (l6.trans l7)))),g2.le (l5.trans (l6.trans l7)),g3.le l7⟩⟩
end Go.Proofs.Tryz
/- Intervals and fragments: how they lie in memory; the values at a line. -/
namespace Go.Eng
open Go.Big
theorem RR.zero (V:View):RR V (.agg #[.int .i64 0,.int .i64 0,.pointer none]) 0:=.inl ⟨rfl,by unfold Wd; decide⟩
end Go.Eng
namespace Go.Proofs.Tryz
open Go.Eng Go.Big
/-- A span: its ends, and whether they are missing. -/
structure Sp where
 lo:Rat
 hi:Rat
 a:Bool
 b:Bool
/-- An end that is missing is 0. -/
def Sp.can (s:Sp):Prop:=(s.a=true->s.lo=0)/\(s.b=true->s.hi=0)
def Sp.sz (k:Nat) (s:Sp):Prop:=Sz k s.lo/\Sz k s.hi
def Sp.zero:Sp:=⟨0,0,false,false⟩
def SzL (k:Nat) (l:L3):Prop:=Sz k (l.1:Rat)/\Sz k (l.2.1:Rat)/\Sz k (l.2.2:Rat)
/-- An interval of package geo. -/
def RIv (V:View) (v:Value) (s:Sp):Prop:=∃(x1 x2:Int) (p:OA) (y1 y2:Int) (q:OA),v=.agg #[.int .i64 x1,.int .i64 x2,.pointer p,.int .i64 y1,.int .i64 y2,.pointer q,.bool s.a,.bool s.b] /\
 RR V (.agg #[.int .i64 x1,.int .i64 x2,.pointer p]) s.lo/\RR V (.agg #[.int .i64 y1,.int .i64 y2,.pointer q]) s.hi
theorem RIv.le {V V':View} {v:Value} {s:Sp} (h:RIv V v s) (l:V.Le V'):RIv V' v s:=by
 obtain ⟨x1,x2,p,y1,y2,q,e,h1,h2⟩:=h
 exact ⟨x1,x2,p,y1,y2,q,e,h1.le l,h2.le l⟩
/-- A line of package geo with integer coefficients. -/
def RLi (V:View) (v:Value) (l:L3):Prop:=RLn V v (l.1:Rat) (l.2.1:Rat) (l.2.2:Rat)
theorem RLi.le {V V':View} {v:Value} {l:L3} (h:RLi V v l) (e:V.Le V'):RLi V' v l:=RLn.le h e
/-- A fragment of package geo. -/
def RFr (V:View) (v:Value) (l:L3) (s:Sp):Prop:=∃(x1 x2:Int) (p:OA) (y1 y2:Int) (q:OA) (z1 z2:Int) (r:OA) (u1 u2:Int) (t:OA) (w1 w2:Int) (o:OA),
 v=.agg #[.int .i64 x1,.int .i64 x2,.pointer p,.int .i64 y1,.int .i64 y2,.pointer q,.int .i64 z1,.int .i64 z2,.pointer r,.int .i64 u1,.int .i64 u2,.pointer t,.int .i64 w1,.int .i64 w2,.pointer o,.bool s.a,.bool s.b] /\
 RLi V (.agg #[.int .i64 x1,.int .i64 x2,.pointer p,.int .i64 y1,.int .i64 y2,.pointer q,.int .i64 z1,.int .i64 z2,.pointer r]) l /\
 RIv V (.agg #[.int .i64 u1,.int .i64 u2,.pointer t,.int .i64 w1,.int .i64 w2,.pointer o,.bool s.a,.bool s.b]) s
theorem RFr.le {V V':View} {v:Value} {l:L3} {s:Sp} (h:RFr V v l s) (e:V.Le V'):RFr V' v l s:=by
 obtain ⟨x1,x2,p,y1,y2,q,z1,z2,r,u1,u2,t,w1,w2,o,rfl,h1,h2⟩:=h
 exact ⟨x1,x2,p,y1,y2,q,z1,z2,r,u1,u2,t,w1,w2,o,rfl,h1.le e,h2.le e⟩
/-- A number of package api in any form. -/
def RRw (V:View) (v:Value) (b:Bool) (xs ys:List Nat):Prop:=∃p n c p' n' c',v=.agg #[.bool b,.slice p n c,.slice p' n' c']/\RD V p n c xs/\RD V p' n' c' ys
theorem RRw.le {V V':View} {v:Value} {b:Bool} {xs ys:List Nat} (h:RRw V v b xs ys) (l:V.Le V'):RRw V' v b xs ys:=by
 obtain ⟨p,n,c,p',n',c',e,h1,h2⟩:=h; exact ⟨p,n,c,p',n',c',e,h1.le l,h2.le l⟩
theorem RRw.nil {V:View}:RRw V (.agg #[.bool false,.slice none 0 0,.slice none 0 0]) false [] []:=⟨_,_,_,_,_,_,rfl,RD.nil,RD.nil⟩
/-- An end of a span of package api. -/
def RE (V:View) (v:Value) (q:Rat) (no:Bool):Prop:=(no=true->RRw V v false [] [])/\(no=false->RA V v q)
theorem RE.le {V V':View} {v:Value} {q:Rat} {no:Bool} (h:RE V v q no) (l:V.Le V'):RE V' v q no:=⟨fun e=>(h.1 e).le l,fun e=>(h.2 e).le l⟩
theorem RE.shape {V:View} {v:Value} {q:Rat} {no:Bool} (h:RE V v q no):∃b p n c p' n' c',v=.agg #[.bool b,.slice p n c,.slice p' n' c']:=by
 cases no with
 | true=>obtain ⟨_,_,_,_,_,_,e,-⟩:=h.1 rfl; exact ⟨_,_,_,_,_,_,_,e⟩
 | false=>exact (h.2 rfl).shape
/-- A span of package api. -/
def RSp (V:View) (v:Value) (s:Sp):Prop:=∃b p n c p' n' c' d q m e q' m' e',v=.agg #[.bool b,.slice p n c,.slice p' n' c',.bool d,.slice q m e,.slice q' m' e',.bool s.a,.bool s.b] /\
 RE V (.agg #[.bool b,.slice p n c,.slice p' n' c']) s.lo s.a/\RE V (.agg #[.bool d,.slice q m e,.slice q' m' e']) s.hi s.b
theorem RSp.le {V V':View} {v:Value} {s:Sp} (h:RSp V v s) (l:V.Le V'):RSp V' v s:=by
 obtain ⟨b,p,n,c,p',n',c',d,q,m,e,q',m',e',rfl,h1,h2⟩:=h
 exact ⟨_,_,_,_,_,_,_,_,_,_,_,_,_,_,rfl,h1.le l,h2.le l⟩
/-- A fragment of package api. -/
def RFa (V:View) (v:Value) (l:L3) (s:Sp):Prop:=∃b1 p1 n1 c1 b2 p2 n2 c2 b3 p3 n3 c3 b p n c p' n' c' d q m e q' m' e',
 v=.agg #[.bool b1,.slice p1 n1 c1,.bool b2,.slice p2 n2 c2,.bool b3,.slice p3 n3 c3,.bool b,.slice p n c,.slice p' n' c',.bool d,.slice q m e,.slice q' m' e',.bool s.a,.bool s.b] /\
 RL V (.agg #[.bool b1,.slice p1 n1 c1,.bool b2,.slice p2 n2 c2,.bool b3,.slice p3 n3 c3]) l.1 l.2.1 l.2.2/\RSp V (.agg #[.bool b,.slice p n c,.slice p' n' c',.bool d,.slice q m e,.slice q' m' e',.bool s.a,.bool s.b]) s
theorem RFa.le {V V':View} {v:Value} {l:L3} {s:Sp} (h:RFa V v l s) (e:V.Le V'):RFa V' v l s:=by
 obtain ⟨b1,p1,n1,c1,b2,p2,n2,c2,b3,p3,n3,c3,b,p,n,c,p',n',c',d,q,m,f,q',m',f',rfl,h1,h2⟩:=h
 exact ⟨_,_,_,_,_,_,_,_,_,_,_,_,_,_,_,_,_,_,_,_,_,_,_,_,_,_,rfl,h1.le e,h2.le e⟩
/-- A span of the reference. -/
def RSs (V:View) (v:Value) (s:Sp):Prop:=∃b p n c p' n' c' d q m e q' m' e',v=.agg #[.bool b,.slice p n c,.slice p' n' c',.bool d,.slice q m e,.slice q' m' e',.bool s.a,.bool s.b] /\
 RQ V (.agg #[.bool b,.slice p n c,.slice p' n' c']) s.lo/\RQ V (.agg #[.bool d,.slice q m e,.slice q' m' e']) s.hi
theorem RSs.le {V V':View} {v:Value} {s:Sp} (h:RSs V v s) (l:V.Le V'):RSs V' v s:=by
 obtain ⟨b,p,n,c,p',n',c',d,q,m,e,q',m',e',rfl,h1,h2⟩:=h
 exact ⟨_,_,_,_,_,_,_,_,_,_,_,_,_,_,rfl,h1.le l,h2.le l⟩
/-- A fragment of the reference. -/
def RF (V:View) (v:Value) (l:L3) (s:Sp):Prop:=∃b1 p1 n1 c1 b2 p2 n2 c2 b3 p3 n3 c3 b p n c p' n' c' d q m e q' m' e',
 v=.agg #[.bool b1,.slice p1 n1 c1,.bool b2,.slice p2 n2 c2,.bool b3,.slice p3 n3 c3,.bool b,.slice p n c,.slice p' n' c',.bool d,.slice q m e,.slice q' m' e',.bool s.a,.bool s.b] /\
 RL V (.agg #[.bool b1,.slice p1 n1 c1,.bool b2,.slice p2 n2 c2,.bool b3,.slice p3 n3 c3]) l.1 l.2.1 l.2.2/\RSs V (.agg #[.bool b,.slice p n c,.slice p' n' c',.bool d,.slice q m e,.slice q' m' e',.bool s.a,.bool s.b]) s
theorem RF.le {V V':View} {v:Value} {l:L3} {s:Sp} (h:RF V v l s) (e:V.Le V'):RF V' v l s:=by
 obtain ⟨b1,p1,n1,c1,b2,p2,n2,c2,b3,p3,n3,c3,b,p,n,c,p',n',c',d,q,m,f,q',m',f',rfl,h1,h2⟩:=h
 exact ⟨_,_,_,_,_,_,_,_,_,_,_,_,_,_,_,_,_,_,_,_,_,_,_,_,_,_,rfl,h1.le e,h2.le e⟩
theorem rl_shape {V:View} {v:Value} {a b c:Int} (h:RL V v a b c):∃b1 p1 n1 c1 b2 p2 n2 c2 b3 p3 n3 c3,v=.agg #[.bool b1,.slice p1 n1 c1,.bool b2,.slice p2 n2 c2,.bool b3,.slice p3 n3 c3]:=by
 obtain ⟨_,_,_,_,_,_,_,_,_,e,-⟩:=h; exact ⟨_,_,_,_,_,_,_,_,_,_,_,_,e⟩
theorem rp_shape {V:View} {v:Value} {x y:Rat} (h:RP V v x y):∃b1 p1 n1 c1 p2 n2 c2 b3 p3 n3 c3 p4 n4 c4,v=.agg #[.bool b1,.slice p1 n1 c1,.slice p2 n2 c2,.bool b3,.slice p3 n3 c3,.slice p4 n4 c4]:=by
 obtain ⟨_,_,_,_,_,_,_,_,_,_,_,_,e,-⟩:=h; exact ⟨_,_,_,_,_,_,_,_,_,_,_,_,_,_,e⟩
/-! the values at a line -/
def valL (l:L3) (x y:Rat):Rat:=(l.1:Rat) * x + (l.2.1:Rat) * y + (l.2.2:Rat)
def normL (l:L3):Rat:=(l.1:Rat) * (l.1:Rat) + (l.2.1:Rat) * (l.2.1:Rat)
def parL (l:L3) (x y:Rat):Rat:=((l.2.1:Rat) * x - (l.1:Rat) * y) * (normL l)⁻¹
def atX (l:L3) (t:Rat):Rat:=(l.2.1:Rat) * t - (l.1:Rat) * (l.2.2:Rat) * (normL l)⁻¹
def atY (l:L3) (t:Rat):Rat:=-((l.1:Rat) * t) - (l.2.1:Rat) * (l.2.2:Rat) * (normL l)⁻¹
def revL (l:L3):L3:=(-l.1,-l.2.1,-l.2.2)
def Sp.neg (s:Sp):Sp:=⟨if s.b then 0 else -s.hi,if s.a then 0 else -s.lo,s.b,s.a⟩
def Sp.has (s:Sp) (t:Rat):Bool:=(s.a || decide (cmpQ s.lo t<=0)) && (s.b || decide (cmpQ s.hi t ≥ 0))
def Sp.emp (s:Sp):Bool:=!s.a && !s.b && decide (cmpQ s.lo s.hi ≥ 0)
def hasF (l:L3) (s:Sp) (x y:Rat):Bool:=decide (valL l x y=0) && s.has (parL l x y)
def Nz (l:L3):Prop:=¬ (l.1=0/\l.2.1=0)
theorem sq_nonneg (x:Int):0<=x * x:=by
 rw [← Int.natAbs_mul_self]; exact Int.natCast_nonneg _
theorem normL_eq (l:L3):normL l=((l.1 * l.1 + l.2.1 * l.2.1:Int):Rat):=by unfold normL; simp
theorem Nz.norm {l:L3} (h:Nz l):normL l≠0:=by
 rw [normL_eq]
 have h1:=sq_nonneg l.1
 have h2:=sq_nonneg l.2.1
 have h3:l.1 * l.1 + l.2.1 * l.2.1≠0:=by
  intro e
  have e1:l.1 * l.1=0:=by omega
  have e2:l.2.1 * l.2.1=0:=by omega
  exact h ⟨(Int.mul_eq_zero.1 e1).elim id id,(Int.mul_eq_zero.1 e2).elim id id⟩
 exact_mod_cast h3
theorem num_zero {q:Rat} (h:q≠0):q.num≠0:=fun e=>h (Rat.num_eq_zero.1 e)
theorem k_Param {V:View} {l p:Value} {L:L3} {x y:Rat} (hl:RLi V l L) (hp:RPt V p x y) {k:Nat} (sl:SzL k L) (s1:Sz k x) (s2:Sz k y) (hk:8 * k + 7 < 274877906944) :
  Acts prog 101 #[l,p] V fun r V'=>RR V' r (parL L x y):=by
 refine (c_geo_Ln_Param hl hp sl.1 sl.2.1 sl.2.2 s1 s2 hk).mono ?_
 rintro r V2 l2 g
 have e:parL L x y=((((L.2.1:Rat)) * x + (-(L.1:Rat)) * y) * (((L.2.1:Rat)) * ((L.2.1:Rat)) + (-(L.1:Rat)) * (-(L.1:Rat)))⁻¹):=by
  unfold parL normL; grind
 rw [e]; exact g
theorem sz_parL {L:L3} {x y:Rat} {k:Nat} (sl:SzL k L) (s1:Sz k x) (s2:Sz k y):Sz (8 * k + 7) (parL L x y):=by
 have e:parL L x y=((((L.2.1:Rat)) * x + (-(L.1:Rat)) * y) * (((L.2.1:Rat)) * ((L.2.1:Rat)) + (-(L.1:Rat)) * (-(L.1:Rat)))⁻¹):=by
  unfold parL normL; grind
 rw [e]; exact z_geo_Ln_Param_0 sl.1 sl.2.1 sl.2.2 s1 s2
theorem k_At {V:View} {l t:Value} {L:L3} {x:Rat} (hl:RLi V l L) (ht:RR V t x) {k:Nat} (sl:SzL k L) (s1:Sz k x) (hk:20 * k + 19 < 274877906944) :
  Acts prog 118 #[l,t] V fun r V'=>RPt V' r (atX L x) (atY L x):=by
 refine (c_geo_Ln_At hl ht sl.1 sl.2.1 sl.2.2 s1 hk).mono ?_
 rintro r V2 l2 g
 have e1:atX L x=((L.1:Rat) * ((-(L.2.2:Rat)) * ((L.1:Rat) * (L.1:Rat) + (L.2.1:Rat) * (L.2.1:Rat))⁻¹)) + ((L.2.1:Rat) * x):=by unfold atX normL; grind
 have e2:atY L x=((L.2.1:Rat) * ((-(L.2.2:Rat)) * ((L.1:Rat) * (L.1:Rat) + (L.2.1:Rat) * (L.2.1:Rat))⁻¹)) + ((-(L.1:Rat)) * x):=by unfold atY normL; grind
 rw [e1,e2]; exact g
theorem sz_atX {L:L3} {x:Rat} {k:Nat} (sl:SzL k L) (s1:Sz k x):Sz (20 * k + 19) (atX L x):=by
 have e1:atX L x=((L.1:Rat) * ((-(L.2.2:Rat)) * ((L.1:Rat) * (L.1:Rat) + (L.2.1:Rat) * (L.2.1:Rat))⁻¹)) + ((L.2.1:Rat) * x):=by unfold atX normL; grind
 rw [e1]; exact z_geo_Ln_At_0 sl.1 sl.2.1 sl.2.2 s1
theorem sz_atY {L:L3} {x:Rat} {k:Nat} (sl:SzL k L) (s1:Sz k x):Sz (20 * k + 19) (atY L x):=by
 have e2:atY L x=((L.2.1:Rat) * ((-(L.2.2:Rat)) * ((L.1:Rat) * (L.1:Rat) + (L.2.1:Rat) * (L.2.1:Rat))⁻¹)) + ((-(L.1:Rat)) * x):=by unfold atY normL; grind
 rw [e2]; exact z_geo_Ln_At_1 sl.1 sl.2.1 sl.2.2 s1
theorem sign_eq_zero (q:Rat):q.num.sign=0↔q=0:=by rw [Int.sign_eq_zero_iff_zero,Rat.num_eq_zero]
theorem k_Side {V:View} {l p:Value} {L:L3} {x y:Rat} (hl:RLi V l L) (hp:RPt V p x y) {k:Nat} (sl:SzL k L) (s1:Sz k x) (s2:Sz k y) (hk:16 * k + 16 < 274877906944) :
  Acts prog 123 #[l,p] V fun r V'=>r=.int .i64 (valL L x y).num.sign:=c_geo_Ln_Side hl hp sl.1 sl.2.1 sl.2.2 s1 s2 hk
theorem k_Reverse {V:View} {l:Value} {L:L3} (hl:RLi V l L) {k:Nat} (sl:SzL k L) (hk:1 * k + 1 < 274877906944) :
  Acts prog 125 #[l] V fun r V'=>RLi V' r (revL L):=by
 refine (c_geo_Ln_Reverse hl sl.1 sl.2.1 sl.2.2 hk).mono ?_
 rintro r V2 l2 g
 unfold RLi revL
 simpa using g
theorem SzL.rev {k:Nat} {L:L3} (h:SzL k L):SzL k (revL L):=by
 unfold SzL revL
 simp only [Rat.intCast_neg]
 exact ⟨h.1.neg,h.2.1.neg,h.2.2.neg⟩
/-! the same for the reference -/
theorem r_norm {L:L3} (h:Nz L):((((((L.2.1:Int):Rat))) * ((((L.2.1:Int):Rat)))) + (((-(((L.1:Int):Rat)))) * ((-(((L.1:Int):Rat)))))).num≠0:=by
 have:(((((L.2.1:Int):Rat))) * ((((L.2.1:Int):Rat)))) + (((-(((L.1:Int):Rat)))) * ((-(((L.1:Int):Rat)))))=normL L:=by unfold normL; grind
 rw [this]
 exact num_zero h.norm
theorem r_Param {V:View} {l p:Value} {L:L3} {x y:Rat} (hl:RL V l L.1 L.2.1 L.2.2) (hp:RP V p x y) (hz:Nz L) {k:Nat} (sl:SzL k L) (s1:Sz k x) (s2:Sz k y) (hk:8 * k + 7 < 274877906944) :
  Acts prog 52 #[l,p] V fun r V'=>RQ V' r (parL L x y):=by
 refine (c_ref04_Param hl hp (r_norm hz) sl.1 sl.2.1 sl.2.2 s1 s2 hk).mono ?_
 rintro r V2 l2 g
 have e:parL L x y=((((x) * ((((L.2.1:Int):Rat)))) + ((y) * ((-(((L.1:Int):Rat)))))) * ((((((L.2.1:Int):Rat))) * ((((L.2.1:Int):Rat)))) + (((-(((L.1:Int):Rat)))) * ((-(((L.1:Int):Rat))))))⁻¹):=by
  unfold parL normL; grind
 rw [e]; exact g
theorem r_Side {V:View} {l p:Value} {L:L3} {x y:Rat} (hl:RL V l L.1 L.2.1 L.2.2) (hp:RP V p x y) {k:Nat} (sl:SzL k L) (s1:Sz k x) (s2:Sz k y) (hk:16 * k + 16 < 274877906944) :
  Acts prog 42 #[l,p] V fun r V'=>r=.int .i64 (valL L x y).num.sign:=c_ref04_Side hl hp sl.1 sl.2.1 sl.2.2 s1 s2 hk
end Go.Proofs.Tryz
