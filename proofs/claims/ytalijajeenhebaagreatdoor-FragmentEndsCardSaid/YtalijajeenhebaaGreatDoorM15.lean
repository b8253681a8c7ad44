/- A part of the proof (joined by program from: PtB, TreeP, LineA, VScene, SceneA, LineP, LineQ, SceneB, VSceneF, SceneD). -/
import Derived.Test.YtalijajeenhebaaGreatDoorM13
import Derived.Test.YtalijajeenhebaaGreatDoorM14
import Derived.Test.YtalijajeenhebaaGreatDoorM12
import Derived.Test.YtalijajeenhebaaGreatDoorM5
import Derived.Test.YtalijajeenhebaaGreatDoorM10
set_option linter.unusedVariables false
open Go.IntKind (i64 u64 u32)
/- Contracts: points of package api, read, written and compared. -/
namespace Go.Proofs.Tryz
open Go.Eng Go.Big
theorem RA.shape {V:View} {v:Value} {q:Rat} (h:RA V v q):∃b p n c p' n' c',v=.agg #[.bool b,.slice p n c,.slice p' n' c']:=by
  obtain ⟨p,n,c,p',n',c',e,-⟩:=h; exact ⟨_,_,_,_,_,_,_,e⟩
/-- A point of package api in normal form. -/
def RAP (V:View) (v:Value) (x y:Rat):Prop:=∃b p n c p' n' c' d q m e q' m' e',v=.agg #[.bool b,.slice p n c,.slice p' n' c',.bool d,.slice q m e,.slice q' m' e'] ∧
  RA V (.agg #[.bool b,.slice p n c,.slice p' n' c']) x∧RA V (.agg #[.bool d,.slice q m e,.slice q' m' e']) y
theorem RAP.le {V V':View} {v:Value} {x y:Rat} (h:RAP V v x y) (l:V.Le V'):RAP V' v x y:=by
  obtain ⟨b,p,n,c,p',n',c',d,q,m,e,q',m',e',rfl,h1,h2⟩:=h
  exact ⟨_,_,_,_,_,_,_,_,_,_,_,_,_,_,rfl,h1.le l,h2.le l⟩
theorem c_geo_PtOf {V:View} {v:Value} {x y:Rat} (h:RAP V v x y) {k:Nat} (s1:Sz k x) (s2:Sz k y) (hk:k≤1099511627776) :
    Acts prog 48 #[v] V fun r V'=>RPt V' r x y:=by
  obtain ⟨b,p,n,c,p',n',c',d,q,m,e,q',m',e',rfl,h1,h2⟩:=h
  refine vc_geo_PtOf b p n c p' n' c' d q m e q' m' e' V _ fun V1 l1=>(c_frac_Of (h1.le l1) s1 hk).mono ?_
  rintro r V2 l2 g1
  have g10:=g1
  obtain ⟨u,v,w,rfl⟩:=g1.shape
  refine ⟨_,_,_,rfl,fun V3 l3=>(c_frac_Of (h2.le (l1.trans (l2.trans l3))) s2 hk).mono ?_⟩
  rintro r V4 l4 g2
  have g20:=g2
  obtain ⟨u,v,w,rfl⟩:=g2.shape
  exact ⟨_,_,_,rfl,fun V5 l5=>⟨_,_,_,_,_,_,rfl,g10.le (l3.trans (l4.trans l5)),g20.le l5⟩⟩
theorem c_geo_Pt_API {V:View} {v:Value} {x y:Rat} (h:RPt V v x y) {k:Nat} (s1:Sz k x) (s2:Sz k y) (hk:k≤1099511627776) :
    Acts prog 83 #[v] V fun r V'=>RAP V' r x y:=by
  obtain ⟨p0,p1,p2,p3,p4,p5,rfl,h1,h2⟩:=h
  refine vc_geo_Pt_API p0 p1 p2 p3 p4 p5 V _ fun V1 l1=>(c_R_API (h1.le l1) s1 hk).mono ?_
  rintro r V2 l2 g1
  have g10:=g1
  obtain ⟨_,_,_,_,_,_,_,rfl⟩:=g1.shape
  refine ⟨_,_,_,_,_,_,_,rfl,fun V3 l3=>(c_R_API (h2.le (l1.trans (l2.trans l3))) s2 hk).mono ?_⟩
  rintro r V4 l4 g2
  have g20:=g2
  obtain ⟨_,_,_,_,_,_,_,rfl⟩:=g2.shape
  exact ⟨_,_,_,_,_,_,_,rfl,fun V5 l5=>⟨_,_,_,_,_,_,_,_,_,_,_,_,_,_,rfl,g10.le (l3.trans (l4.trans l5)),g20.le l5⟩⟩
theorem c_geo_Pt_Equal {V:View} {v w:Value} {x y x' y':Rat} (h:RPt V v x y) (h':RPt V w x' y') {k:Nat} (s1:Sz k x) (s2:Sz k y) (s3:Sz k x') (s4:Sz k y') (hk:2 * k < 1099511627776) :
    Acts prog 128 #[v,w] V fun r V'=>r=.bool (decide (x=x'∧y=y')):=by
  obtain ⟨p0,p1,p2,p3,p4,p5,rfl,h1,h2⟩:=h
  obtain ⟨q0,q1,q2,q3,q4,q5,rfl,h3,h4⟩:=h'
  refine vc_geo_Pt_Equal p0 p1 p2 p3 p4 p5 q0 q1 q2 q3 q4 q5 V _ fun V1 l1=>(c_R_Equal (h1.le l1) (h3.le l1) s1 s3 (by omega)).mono ?_
  rintro r V2 l2 rfl
  refine ⟨_,rfl,fun g V3 l3=>(c_R_Equal (h2.le (l1.trans (l2.trans l3))) (h4.le (l1.trans (l2.trans l3))) s2 s4 (by omega)).mono ?_,fun g V6 l6=>?_⟩
  · have g:=of_decide_eq_true g
    rintro r V4 l4 rfl
    exact ⟨_,rfl,fun V5 l5=>by simp [g]⟩
  · have g:=of_decide_eq_false g
    simp [g]
theorem c_geo_Ln_Side {V:View} {l p:Value} {l_0 l_1 l_2 p_0 p_1:Rat} (hl:RLn V l l_0 l_1 l_2) (hp:RPt V p p_0 p_1) {k:Nat} (s0:Sz k l_0) (s1:Sz k l_1) (s2:Sz k l_2) (s3:Sz k p_0) (s4:Sz k p_1) (hk:16 * k + 16 < 274877906944) :
    Acts prog 123 #[l,p] V fun r V'=>r=.int .i64 (l_0 * p_0 + l_1 * p_1 + l_2).num.sign:=by
  have hl0:=hl
  have hp0:=hp
  obtain ⟨a0,a1,a2,a3,a4,a5,a6,a7,a8,rfl,-,-,-⟩:=hl
  obtain ⟨p0,p1,p2,p3,p4,p5,rfl,-,-⟩:=hp
  refine vc_geo_Ln_Side a0 a1 a2 a3 a4 a5 a6 a7 a8 p0 p1 p2 p3 p4 p5 V _ fun V1 l1=>(c_geo_Ln_Value (hl0.le l1) (hp0.le l1) s0 s1 s2 s3 s4 (by omega)).mono ?_
  rintro r V2 l2 g
  have g0:=g
  obtain ⟨u,v,w,rfl⟩:=g.shape
  refine ⟨_,_,_,rfl,fun V3 l3=>(c_R_Sign (g0.le l3) (z_geo_Ln_Value_0 s0 s1 s2 s3 s4) (by omega)).mono ?_⟩
  rintro r V4 l4 rfl
  exact ⟨_,rfl,fun V5 l5=>rfl⟩
theorem c_ref01_ToQ {V:View} {v:Value} {q:Rat} (h:RQ V v q) {k:Nat} (s:Sz k q) (hk:k≤1099511627776):Acts prog 50 #[v] V fun r V'=>RA V' r q:=by
  obtain ⟨p,n,c,p',n',c',rfl,h1,h2⟩:=h
  have q1:=digs_len_bits s.1
  have q2:=digs_len_bits s.2
  refine vc_ref01_ToQ _ p n c p' n' c' V _ fun V1 l1=>(c_ref01_ToI ⟨_,_,_,rfl,h1.le l1⟩ (by omega)).mono ?_
  rintro r V2 l2 ⟨p1,n1,c1,rfl,g1⟩
  refine ⟨_,_,_,_,rfl,fun V3 l3=>(c_num_Den q _ (h2.le (l1.trans (l2.trans l3)))).mono ?_⟩
  rintro r V4 l4 ⟨p2,n2,c2,rfl,g2⟩
  refine ⟨_,_,_,rfl,fun V5 l5=>(c_ref01_ToN (g2.le l5) (by omega)).mono ?_⟩
  rintro r V6 l6 ⟨p3,n3,c3,rfl,g3⟩
  exact ⟨_,_,_,rfl,fun V7 l7=>⟨_,_,_,_,_,_,rfl,g1.le (l3.trans (l4.trans (l5.trans (l6.trans l7)))),g3.le l7⟩⟩
theorem c_ref04_ToP {V:View} {v:Value} {x y:Rat} (h:RP V v x y) {k:Nat} (s1:Sz k x) (s2:Sz k y) (hk:k≤1099511627776):Acts prog 10 #[v] V fun r V'=>RAP V' r x y:=by
  obtain ⟨p1,n1,c1,p2,n2,c2,p3,n3,c3,p4,n4,c4,rfl,h1,h2⟩:=h
  refine vc_ref04_ToP _ p1 n1 c1 p2 n2 c2 _ p3 n3 c3 p4 n4 c4 V _ fun V1 l1=>(c_ref01_ToQ (h1.le l1) s1 hk).mono ?_
  rintro r V2 l2 g1
  have g10:=g1
  obtain ⟨_,_,_,_,_,_,_,rfl⟩:=g1.shape
  refine ⟨_,_,_,_,_,_,_,rfl,fun V3 l3=>(c_ref01_ToQ (h2.le (l1.trans (l2.trans l3))) s2 hk).mono ?_⟩
  rintro r V4 l4 g2
  have g20:=g2
  obtain ⟨_,_,_,_,_,_,_,rfl⟩:=g2.shape
  exact ⟨_,_,_,_,_,_,_,rfl,fun V5 l5=>⟨_,_,_,_,_,_,_,_,_,_,_,_,_,_,rfl,g10.le (l3.trans (l4.trans l5)),g20.le l5⟩⟩
theorem c_ref01_SameQ {V:View} {v w:Value} {x y:Rat} (hx:RA V v x) (hy:RA V w y) {k:Nat} (s:Sz k x) (hk:k≤1099511627776) :
    Acts prog 63 #[v,w] V fun r V'=>r=.bool (decide (x=y)):=by
  obtain ⟨p,n,c,p',n',c',rfl,h1,h2⟩:=hx
  obtain ⟨q,m,e,q',m',e',rfl,h3,h4⟩:=hy
  have q1:=digs_len_bits s.1
  have q2:=digs_len_bits s.2
  refine vc_ref01_SameQ _ p n c p' n' c' _ q m e q' m' e' V _ fun V1 l1=>(c_ref01_SameI (h1.le l1) (h3.le l1) (by omega)).mono ?_
  rintro r V2 l2 rfl
  refine ⟨_,rfl,fun g V3 l3=>(c_ref01_SameN (h2.le (l1.trans (l2.trans l3))) (h4.le (l1.trans (l2.trans l3))) (by omega)).mono ?_,fun g V6 l6=>?_⟩
  · have g:=of_decide_eq_true g
    rintro r V4 l4 rfl
    refine ⟨_,rfl,fun V5 l5=>?_⟩
    have e:digs x.den=digs y.den↔x=y:=⟨fun h=>Rat.ext g (by have:=congrArg val h; rwa [val_digs,val_digs] at this),fun h=>by rw [h]⟩
    rw [show decide (digs x.den=digs y.den)=decide (x=y) from by rw [decide_eq_decide]; exact e]
  · have g:=of_decide_eq_false g
    rw [decide_eq_false (fun h=>g (by rw [h]))]
theorem c_ref04_SameP {V:View} {v w:Value} {x y x' y':Rat} (h:RAP V v x y) (h':RAP V w x' y') {k:Nat} (s1:Sz k x) (s2:Sz k y) (hk:k≤1099511627776) :
    Acts prog 18 #[v,w] V fun r V'=>r=.bool (decide (x=x'∧y=y')):=by
  obtain ⟨b,p,n,c,p',n',c',d,q,m,e,q',m',e',rfl,h1,h2⟩:=h
  obtain ⟨b1,p1,n1,c1,p1',n1',c1',d1,q1,m1,e1,q1',m1',e1',rfl,h3,h4⟩:=h'
  refine vc_ref04_SameP b p n c p' n' c' d q m e q' m' e' b1 p1 n1 c1 p1' n1' c1' d1 q1 m1 e1 q1' m1' e1' V _ fun V1 l1=>(c_ref01_SameQ (h1.le l1) (h3.le l1) s1 hk).mono ?_
  rintro r V2 l2 rfl
  refine ⟨_,rfl,fun g V3 l3=>(c_ref01_SameQ (h2.le (l1.trans (l2.trans l3))) (h4.le (l1.trans (l2.trans l3))) s2 hk).mono ?_,fun g V6 l6=>?_⟩
  · have g:=of_decide_eq_true g
    rintro r V4 l4 rfl
    exact ⟨_,rfl,fun V5 l5=>by simp [g]⟩
  · have g:=of_decide_eq_false g
    simp [g]
end Go.Proofs.Tryz
/- Trees and their lists of nodes: plain laws, no program in sight. -/
namespace Go.Proofs.Tryz
open Go.Eng Go.Big
/-- A line: its integer coefficients. -/
abbrev L3:=Int × Int × Int
def okL (x:L3):Bool:=decide (¬ (x.1=0∧x.2.1=0)) && decide (gcd3 x.1 x.2.1 x.2.2=1)
def Bd (x:L3):Prop:=x.1.natAbs < 2 ^ 1000∧x.2.1.natAbs < 2 ^ 1000∧x.2.2.natAbs < 2 ^ 1000
inductive Tr where
  | leaf (i:Bool) | node (l:L3) (a b:Tr)
  deriving DecidableEq
structure Nd where
  ln:L3
  left:Int
  right:Int
  deriving DecidableEq
def Tr.size:Tr→Nat
  | .leaf _=>0
  | .node _ a b=>a.size + b.size + 1
def Tr.All (p:L3→Prop):Tr→Prop
  | .leaf _=>True
  | .node l a b=>p l∧a.All p∧b.All p
theorem Tr.All.imp {p q:L3→Prop} (h:∀x,p x→q x):∀{t:Tr},t.All p→t.All q
  | .leaf _,_=>trivial
  | .node _ _ _,⟨h1,h2,h3⟩=>⟨h _ h1,Tr.All.imp h h2,Tr.All.imp h h3⟩
/-! reading a list of nodes -/
structure RS where
  seen:List Bool
  cnt:Nat
  bad:Bool
/-! the nodes in another order -/
def mvN (n by_ i:Nat):Nat:=n - 1 - (i + by_) % n
def mv (n by_:Nat) (i:Int):Int:=if i < 0 then i else (mvN n by_ i.toNat:Int)
end Go.Proofs.Tryz
/- Lines in normal form, in memory. -/
namespace Go.Proofs.Tryz
open Go.Eng Go.Big
theorem okLn_okL {a b c:Int}:okLn (decide (a < 0)) (digs a.natAbs) (decide (b < 0)) (digs b.natAbs) (decide (c < 0)) (digs c.natAbs)=okL (a,b,c):=by
  have hn:∀z:Int,NrmI (decide (z < 0)) (digs z.natAbs)=true:=by
    intro z
    unfold NrmI
    rw [val_digs]
    simp only [decide_true,Bool.true_and]
    by_cases h:z < 0
    · simp only [h,decide_true,Bool.not_true,Bool.false_or,decide_eq_true_eq]
      intro e
      have:=digs_eq_nil.1 e
      omega
    · simp [h]
  have hg:gcdQ (gcdQ (a:Rat) (b:Rat)) (c:Rat)=((gcd3 a b c:Nat):Int):=by
    have g2:∀x y:Int,gcdQ (x:Rat) (y:Rat)=((Nat.gcd x.natAbs y.natAbs:Nat):Int):=by
      intro x y
      unfold gcdQ
      have e1:((x:Rat)).num=x:=rfl
      have e2:((y:Rat)).num=y:=rfl
      have e3:((x:Rat)).den=1:=rfl
      have e4:((y:Rat)).den=1:=rfl
      rw [e1,e2,e3,e4]
      simp only [Nat.mul_one]
      exact Rat.mkRat_one _
    rw [g2,g2]
    rfl
  unfold okLn okL
  rw [hn,hn,hn,ival_digs,ival_digs,ival_digs,hg]
  have h0:∀z:Int,((z:Rat)=0)↔z=0:=fun z=>by exact Rat.intCast_eq_zero_iff
  simp only [Bool.true_and,h0]
  rw [Bool.eq_iff_iff]
  simp only [Bool.and_eq_true,Bool.not_eq_true',Bool.and_eq_false_iff,decide_eq_false_iff_not,decide_eq_true_eq]
  have h1:(((gcd3 a b c:Nat):Int):Rat)=((1:Int):Rat)↔gcd3 a b c=1:=by
    rw [Rat.intCast_inj]; omega
  rw [h1]
  constructor
  · rintro ⟨h,h'⟩; exact ⟨fun e=>by rcases h with h | h; exact h e.1; exact h e.2,h'⟩
  · rintro ⟨h,h'⟩
    refine ⟨?_,h'⟩
    by_cases ha:a=0
    · exact .inr fun hb=>h ⟨ha,hb⟩
    · exact .inl ha
theorem sz_int {z:Int} {k:Nat} (h:z.natAbs < 2 ^ k) (hk:0 < k):Sz k (z:Rat):=⟨h,Nat.one_lt_two_pow (by omega)⟩
theorem Bd.digs {x:L3} (h:Bd x):(digs x.1.natAbs).length≤1000∧(digs x.2.1.natAbs).length≤1000∧(digs x.2.2.natAbs).length≤1000:=⟨digs_len_bits h.1,digs_len_bits h.2.1,digs_len_bits h.2.2⟩
theorem Bd.sz {x:L3} (h:Bd x):Sz 1000 (x.1:Rat)∧Sz 1000 (x.2.1:Rat)∧Sz 1000 (x.2.2:Rat):=⟨sz_int h.1 (by omega),sz_int h.2.1 (by omega),sz_int h.2.2 (by omega)⟩
end Go.Proofs.Tryz
/- By program: the conditions of the functions, from their loaded code. -/
namespace Go.Proofs.Tryz
open Go.Eng
set_option maxRecDepth 100000
theorem vc_scene_New (lp:OA) (ln lc:Nat) (V:View) (R:Value→View→Prop)
    (h:(0≤(minI ((ln:Nat):Int) (400))∧(minI ((ln:Nat):Int) (400))≤((lc:Nat):Int))∧(∀V1:View,V.Le V1→∀bk1_:Nat,(V1.blk bk1_ (.cells #[.slice lp ((minI ((ln:Nat):Int) (400)).toNat) lc,.int .i64 0] 105 (0,0)))→R (.pointer (some ⟨bk1_,0,none⟩)) V1)) :
    Acts prog 7 #[.slice lp ln lc] V R:=
  fn_does (LF:=LF0) (RF:=[1000007]) (β0:=(fun _=>0)) tab_ok mixed [] [] func7 (by kernel_rfl)
    [(0,.c (.v (.slice lp ln lc)))]
    [] (by kernel_rfl) trivial h (by kernel_rfl)
theorem vc_scene_Tape_Next (tb:Nat) (lp:OA) (ln lc:Nat) (at_:Int) (a1:Int) (V:View) (R:Value→View→Prop) (hw100000:V.w.heap[tb]?=some (.cells #[.slice lp ln lc,.int .i64 at_] 105 (0,0))) (hx100000:V.X tb)
    (h:(((decide (at_ ≥ ((ln:Nat):Int)))=true→(∀V1:View,V.Le V1→V1.w.heap[tb]?=some (.cells #[.slice lp ln lc,.int .i64 at_] 105 (0,0))→R (.int .i64 0) V1))∧((decide (at_ ≥ ((ln:Nat):Int)))=false→(lp.isSome=true)∧(0≤at_∧at_ < ((ln:Nat):Int))∧(∃x1_:Int,(∃a2_,addrAdd lp (at_.toNat * 1)=some a2_∧V.at a2_ (.int .i64 x1_))∧(a1≠0)∧(((decide ((x1_.tmod a1) < (0:Int)))=true→(∀V2:View,V.Le V2→V2.w.heap[tb]?=some (.cells #[.slice lp ln lc,.int .i64 (i64.wrap (at_ + (1:Int)))] 105 (0,0))→R (.int .i64 (i64.wrap ((x1_.tmod a1) + a1))) V2))∧((decide ((x1_.tmod a1) < (0:Int)))=false→(∀V3:View,V.Le V3→V3.w.heap[tb]?=some (.cells #[.slice lp ln lc,.int .i64 (i64.wrap (at_ + (1:Int)))] 105 (0,0))→R (.int .i64 (x1_.tmod a1)) V3))))))) :
    Acts prog 33 #[.pointer (some ⟨tb,0,none⟩),.int .i64 a1] V R:=
  fn_does (LF:=LF0) (RF:=[1000007]) (β0:=(upd1 (fun _=>0) 100000 tb)) tab_ok mixed [] [] func33 (by kernel_rfl)
    [(0,.c (.ptr 100000 0)),(1,.c (.v (.int .i64 a1)))]
    [(100000,⟨.lit [.v (.slice lp ln lc),.v (.int .i64 at_)],105⟩)] (by kernel_rfl) ⟨⟨hw100000,hx100000⟩,trivial,trivial⟩ h (by kernel_rfl)
theorem vc_scene_Tape_P (tb:Nat) (lp:OA) (ln lc:Nat) (at_:Int) (V:View) (R:Value→View→Prop) (hw100000:V.w.heap[tb]?=some (.cells #[.slice lp ln lc,.int .i64 at_] 105 (0,0))) (hx100000:V.X tb)
    (h:(∀V1:View,V.Le V1→∀bk1_:Nat,(V1.w.heap[bk1_]?=some (.cells #[.slice lp ln lc,.int .i64 at_] 105 (0,0)))→(V1.H bk1_)→Acts prog 33 #[.pointer (some ⟨bk1_,0,none⟩),.int .i64 9] (V1.lend [bk1_]) fun r1_ V2=>∃x2_:Int,r1_=.int .i64 x2_∧∃(p3_:OA) (n3_ c3_:Nat),∃x4_:Int,V2.w.heap[bk1_]?=some (.cells #[.slice p3_ n3_ c3_,.int .i64 x4_] 105 (0,0))∧(∀V3:View,V2.shut.Le V3→∀bk5_:Nat,(V3.w.heap[bk5_]?=some (.cells #[.slice p3_ n3_ c3_,.int .i64 x4_] 105 (0,0)))→(V3.H bk5_)→Acts prog 33 #[.pointer (some ⟨bk5_,0,none⟩),.int .i64 9] (V3.lend [bk5_]) fun r3_ V4=>∃x6_:Int,r3_=.int .i64 x6_∧∃(p7_:OA) (n7_ c7_:Nat),∃x8_:Int,V4.w.heap[bk5_]?=some (.cells #[.slice p7_ n7_ c7_,.int .i64 x8_] 105 (0,0))∧(∀V5:View,V4.shut.Le V5→Acts prog 115 #[.int .i64 (i64.wrap (x2_ - (4:Int))),.int .i64 (i64.wrap (x6_ - (4:Int)))] V5 fun r5_ V6=>∃b9_:Bool,∃(p10_:OA) (n10_ c10_:Nat),∃(p11_:OA) (n11_ c11_:Nat),∃b12_:Bool,∃(p13_:OA) (n13_ c13_:Nat),∃(p14_:OA) (n14_ c14_:Nat),r5_=.agg #[.bool b9_,.slice p10_ n10_ c10_,.slice p11_ n11_ c11_,.bool b12_,.slice p13_ n13_ c13_,.slice p14_ n14_ c14_]∧(∀V7:View,V6.Le V7→V7.w.heap[tb]?=some (.cells #[.slice p7_ n7_ c7_,.int .i64 x8_] 105 (0,0))→R (.agg #[.bool b9_,.slice p10_ n10_ c10_,.slice p11_ n11_ c11_,.bool b12_,.slice p13_ n13_ c13_,.slice p14_ n14_ c14_]) V7))))) :
    Acts prog 55 #[.pointer (some ⟨tb,0,none⟩)] V R:=
  fn_does (LF:=LF0) (RF:=[1000007]) (β0:=(upd1 (fun _=>0) 100000 tb)) tab_ok mixed [] [] func55 (by kernel_rfl)
    [(0,.c (.ptr 100000 0))]
    [(100000,⟨.lit [.v (.slice lp ln lc),.v (.int .i64 at_)],105⟩)] (by kernel_rfl) ⟨⟨hw100000,hx100000⟩,trivial,trivial⟩ h (by kernel_rfl)
theorem vc_scene_Tape_V (tb:Nat) (lp:OA) (ln lc:Nat) (at_:Int) (V:View) (R:Value→View→Prop) (hw100000:V.w.heap[tb]?=some (.cells #[.slice lp ln lc,.int .i64 at_] 105 (0,0))) (hx100000:V.X tb)
    (h:(∀V1:View,V.Le V1→∀bk1_:Nat,(V1.w.heap[bk1_]?=some (.cells #[.slice lp ln lc,.int .i64 at_] 105 (0,0)))→(V1.H bk1_)→Acts prog 55 #[.pointer (some ⟨bk1_,0,none⟩)] (V1.lend [bk1_]) fun r1_ V2=>∃b2_:Bool,∃(p3_:OA) (n3_ c3_:Nat),∃(p4_:OA) (n4_ c4_:Nat),∃b5_:Bool,∃(p6_:OA) (n6_ c6_:Nat),∃(p7_:OA) (n7_ c7_:Nat),r1_=.agg #[.bool b2_,.slice p3_ n3_ c3_,.slice p4_ n4_ c4_,.bool b5_,.slice p6_ n6_ c6_,.slice p7_ n7_ c7_]∧∃(p8_:OA) (n8_ c8_:Nat),∃x9_:Int,V2.w.heap[bk1_]?=some (.cells #[.slice p8_ n8_ c8_,.int .i64 x9_] 105 (0,0))∧(∀V3:View,V2.shut.Le V3→Acts prog 117 #[.agg #[.bool b2_,.slice p3_ n3_ c3_,.slice p4_ n4_ c4_,.bool b5_,.slice p6_ n6_ c6_,.slice p7_ n7_ c7_],.agg #[.bool false,.slice none 0 0,.slice none 0 0,.bool false,.slice none 0 0,.slice none 0 0]] V3 fun r3_ V4=>∃b10_:Bool,r3_=.bool b10_∧((b10_=true→(∀V5:View,V4.Le V5→Acts prog 115 #[.int .i64 1,.int .i64 0] V5 fun r5_ V6=>∃b11_:Bool,∃(p12_:OA) (n12_ c12_:Nat),∃(p13_:OA) (n13_ c13_:Nat),∃b14_:Bool,∃(p15_:OA) (n15_ c15_:Nat),∃(p16_:OA) (n16_ c16_:Nat),r5_=.agg #[.bool b11_,.slice p12_ n12_ c12_,.slice p13_ n13_ c13_,.bool b14_,.slice p15_ n15_ c15_,.slice p16_ n16_ c16_]∧(∀V7:View,V6.Le V7→V7.w.heap[tb]?=some (.cells #[.slice p8_ n8_ c8_,.int .i64 x9_] 105 (0,0))→R (.agg #[.bool b11_,.slice p12_ n12_ c12_,.slice p13_ n13_ c13_,.bool b14_,.slice p15_ n15_ c15_,.slice p16_ n16_ c16_]) V7)))∧(b10_=false→(∀V8:View,V4.Le V8→V8.w.heap[tb]?=some (.cells #[.slice p8_ n8_ c8_,.int .i64 x9_] 105 (0,0))→R (.agg #[.bool b2_,.slice p3_ n3_ c3_,.slice p4_ n4_ c4_,.bool b5_,.slice p6_ n6_ c6_,.slice p7_ n7_ c7_]) V8)))))) :
    Acts prog 58 #[.pointer (some ⟨tb,0,none⟩)] V R:=
  fn_does (LF:=LF0) (RF:=[1000007]) (β0:=(upd1 (fun _=>0) 100000 tb)) tab_ok mixed [] [] func58 (by kernel_rfl)
    [(0,.c (.ptr 100000 0))]
    [(100000,⟨.lit [.v (.slice lp ln lc),.v (.int .i64 at_)],105⟩)] (by kernel_rfl) ⟨⟨hw100000,hx100000⟩,trivial,trivial⟩ h (by kernel_rfl)
theorem vc_scene_Tape_L (tb:Nat) (lp:OA) (ln lc:Nat) (at_:Int) (V:View) (R:Value→View→Prop) (hw100000:V.w.heap[tb]?=some (.cells #[.slice lp ln lc,.int .i64 at_] 105 (0,0))) (hx100000:V.X tb)
    (h:(∀V1:View,V.Le V1→∀bk1_:Nat,(V1.w.heap[bk1_]?=some (.cells #[.slice lp ln lc,.int .i64 at_] 105 (0,0)))→(V1.H bk1_)→Acts prog 55 #[.pointer (some ⟨bk1_,0,none⟩)] (V1.lend [bk1_]) fun r1_ V2=>∃b2_:Bool,∃(p3_:OA) (n3_ c3_:Nat),∃(p4_:OA) (n4_ c4_:Nat),∃b5_:Bool,∃(p6_:OA) (n6_ c6_:Nat),∃(p7_:OA) (n7_ c7_:Nat),r1_=.agg #[.bool b2_,.slice p3_ n3_ c3_,.slice p4_ n4_ c4_,.bool b5_,.slice p6_ n6_ c6_,.slice p7_ n7_ c7_]∧∃(p8_:OA) (n8_ c8_:Nat),∃x9_:Int,V2.w.heap[bk1_]?=some (.cells #[.slice p8_ n8_ c8_,.int .i64 x9_] 105 (0,0))∧(∀V3:View,V2.shut.Le V3→Acts prog 57 #[.int .i64 1] V3 fun r3_ V4=>∃b10_:Bool,∃(p11_:OA) (n11_ c11_:Nat),∃(p12_:OA) (n12_ c12_:Nat),r3_=.agg #[.bool b10_,.slice p11_ n11_ c11_,.slice p12_ n12_ c12_]∧(∀V5:View,V4.Le V5→∀bk13_:Nat,(V5.w.heap[bk13_]?=some (.cells #[.slice p8_ n8_ c8_,.int .i64 x9_] 105 (0,0)))→(V5.H bk13_)→Acts prog 58 #[.pointer (some ⟨bk13_,0,none⟩)] (V5.lend [bk13_]) fun r5_ V6=>∃b14_:Bool,∃(p15_:OA) (n15_ c15_:Nat),∃(p16_:OA) (n16_ c16_:Nat),∃b17_:Bool,∃(p18_:OA) (n18_ c18_:Nat),∃(p19_:OA) (n19_ c19_:Nat),r5_=.agg #[.bool b14_,.slice p15_ n15_ c15_,.slice p16_ n16_ c16_,.bool b17_,.slice p18_ n18_ c18_,.slice p19_ n19_ c19_]∧∃(p20_:OA) (n20_ c20_:Nat),∃x21_:Int,V6.w.heap[bk13_]?=some (.cells #[.slice p20_ n20_ c20_,.int .i64 x21_] 105 (0,0))∧(∀V7:View,V6.shut.Le V7→Acts prog 56 #[.agg #[.bool b2_,.slice p3_ n3_ c3_,.slice p4_ n4_ c4_,.bool b5_,.slice p6_ n6_ c6_,.slice p7_ n7_ c7_],.agg #[.bool b10_,.slice p11_ n11_ c11_,.slice p12_ n12_ c12_],.agg #[.bool b14_,.slice p15_ n15_ c15_,.slice p16_ n16_ c16_,.bool b17_,.slice p18_ n18_ c18_,.slice p19_ n19_ c19_]] V7 fun r7_ V8=>∃b22_:Bool,∃(p23_:OA) (n23_ c23_:Nat),∃(p24_:OA) (n24_ c24_:Nat),∃b25_:Bool,∃(p26_:OA) (n26_ c26_:Nat),∃(p27_:OA) (n27_ c27_:Nat),r7_=.agg #[.bool b22_,.slice p23_ n23_ c23_,.slice p24_ n24_ c24_,.bool b25_,.slice p26_ n26_ c26_,.slice p27_ n27_ c27_]∧(∀V9:View,V8.Le V9→Acts prog 51 #[.agg #[.bool b2_,.slice p3_ n3_ c3_,.slice p4_ n4_ c4_,.bool b5_,.slice p6_ n6_ c6_,.slice p7_ n7_ c7_],.agg #[.bool b22_,.slice p23_ n23_ c23_,.slice p24_ n24_ c24_,.bool b25_,.slice p26_ n26_ c26_,.slice p27_ n27_ c27_]] V9 fun r9_ V10=>∃b28_:Bool,∃(p29_:OA) (n29_ c29_:Nat),∃b30_:Bool,∃(p31_:OA) (n31_ c31_:Nat),∃b32_:Bool,∃(p33_:OA) (n33_ c33_:Nat),∃b34_:Bool,r9_=.tuple #[.agg #[.bool b28_,.slice p29_ n29_ c29_,.bool b30_,.slice p31_ n31_ c31_,.bool b32_,.slice p33_ n33_ c33_],.bool b34_]∧(∀V11:View,V10.Le V11→V11.w.heap[tb]?=some (.cells #[.slice p20_ n20_ c20_,.int .i64 x21_] 105 (0,0))→R (.agg #[.bool b28_,.slice p29_ n29_ c29_,.bool b30_,.slice p31_ n31_ c31_,.bool b32_,.slice p33_ n33_ c33_]) V11))))))) :
    Acts prog 39 #[.pointer (some ⟨tb,0,none⟩)] V R:=
  fn_does (LF:=LF0) (RF:=[1000007]) (β0:=(upd1 (fun _=>0) 100000 tb)) tab_ok mixed [] [] func39 (by kernel_rfl)
    [(0,.c (.ptr 100000 0))]
    [(100000,⟨.lit [.v (.slice lp ln lc),.v (.int .i64 at_)],105⟩)] (by kernel_rfl) ⟨⟨hw100000,hx100000⟩,trivial,trivial⟩ h (by kernel_rfl)
end Go.Proofs.Tryz
/- The scene's tape: Next, P, V, L, Tree; lines and trees that it makes. -/
namespace Go.Proofs.Tryz
open Go.Eng Go.Big
/-! plain laws: the line through two points of the grid -/
theorem thr_int (x y u w:Int):thr (x:Rat) (y:Rat) ((x:Rat) + ((1:Int):Rat) * (u:Rat)) ((y:Rat) + ((1:Int):Rat) * (w:Rat))=(((-w:Int):Rat),((u:Int):Rat),((w * x - u * y:Int):Rat)):=by
  have e1:(x:Rat) + ((1:Int):Rat) * (u:Rat)=((x + u:Int):Rat):=by rw [← Rat.intCast_mul,← Rat.intCast_add,Int.one_mul]
  have e2:(y:Rat) + ((1:Int):Rat) * (w:Rat)=((y + w:Int):Rat):=by rw [← Rat.intCast_mul,← Rat.intCast_add,Int.one_mul]
  rw [e1,e2]
  have ha:-(((y + w:Int):Rat) - (y:Rat))=((-w:Int):Rat):=by rw [← Rat.intCast_sub,← Rat.intCast_neg]; congr 1; omega
  have hb:((x + u:Int):Rat) - (x:Rat)=((u:Int):Rat):=by rw [← Rat.intCast_sub]; congr 1; omega
  have hc:-(((-w:Int):Rat) * (x:Rat) + ((u:Int):Rat) * (y:Rat))=((w * x - u * y:Int):Rat):=by
    rw [← Rat.intCast_mul,← Rat.intCast_mul,← Rat.intCast_add,← Rat.intCast_neg]; congr 1; rw [Int.neg_mul]; omega
  have hf:(((((-w:Int):Rat).den * ((u:Int):Rat).den * ((w * x - u * y:Int):Rat).den:Nat):Int):Rat)=1:=rfl
  unfold thr
  dsimp only
  rw [ha,hb,hc,hf,Rat.mul_one,Rat.mul_one,Rat.mul_one]
/-- Divided by their common divisor. -/
def lnOf (a b c:Int):L3:=(a / (gcd3 a b c:Int),b / (gcd3 a b c:Int),c / (gcd3 a b c:Int))
def small (z:Int) (k:Nat):Bool:=decide (z.natAbs≤k)
theorem lnOf_fin:∀i:Fin 9,∀j:Fin 9,∀k:Fin 65,(i.1=4∧j.1=4) ∨ (okL (lnOf ((i.1:Int) - 4) ((j.1:Int) - 4) ((k.1:Int) - 32)) && small (lnOf ((i.1:Int) - 4) ((j.1:Int) - 4) ((k.1:Int) - 32)).1 32 && small (lnOf ((i.1:Int) - 4) ((j.1:Int) - 4) ((k.1:Int) - 32)).2.1 32 && small (lnOf ((i.1:Int) - 4) ((j.1:Int) - 4) ((k.1:Int) - 32)).2.2 32)=true:=by decide +kernel
theorem bd32 (k:Nat) (hk:6≤k) {z:Int} (h:z.natAbs≤32):z.natAbs < 2 ^ k:=Nat.lt_of_le_of_lt h (Nat.lt_of_lt_of_le (by decide:32 < 2 ^ 6) (Nat.pow_le_pow_right (by decide) hk))
theorem bd32' (k:Nat) (hk:6≤k) {x:L3} (h1:x.1.natAbs≤32) (h2:x.2.1.natAbs≤32) (h3:x.2.2.natAbs≤32):x.1.natAbs < 2 ^ k∧x.2.1.natAbs < 2 ^ k∧x.2.2.natAbs < 2 ^ k:=⟨bd32 k hk h1,bd32 k hk h2,bd32 k hk h3⟩
theorem lnOf_ok {a b c:Int} (h1:-4≤a∧a≤4) (h2:-4≤b∧b≤4) (h3:-32≤c∧c≤32) (h:¬ (a=0∧b=0)):okL (lnOf a b c)=true∧Bd (lnOf a b c):=by
  have:=lnOf_fin ⟨(a + 4).toNat,by omega⟩ ⟨(b + 4).toNat,by omega⟩ ⟨(c + 32).toNat,by omega⟩
  dsimp only at this
  rw [show (((a + 4).toNat:Nat):Int) - 4=a from by omega,show (((b + 4).toNat:Nat):Int) - 4=b from by omega,show (((c + 32).toNat:Nat):Int) - 32=c from by omega] at this
  rcases this with h' | h'
  · omega
  · simp only [Bool.and_eq_true,small,decide_eq_true_eq] at h'
    exact ⟨h'.1.1.1,bd32' 1000 (by decide) h'.1.1.2 h'.1.2 h'.2⟩
theorem mul_bd {x y:Int} (h1:-4≤x∧x≤4) (h2:-4≤y∧y≤4):-16≤x * y∧x * y≤16:=by
  have:(x * y).natAbs≤4 * 4:=by rw [Int.natAbs_mul]; exact Nat.mul_le_mul (by omega) (by omega)
  omega
end Go.Proofs.Tryz
/- Plain laws: the line in normal form. -/
namespace Go.Proofs.Tryz
open Go.Eng Go.Big
theorem num_mul {r:Rat} {f:Nat} {a:Int} (hf:f≠0) (h:r * ((f:Nat):Int)=(a:Rat)):r.num * f=a * r.den:=by
  have hd:=r.den_nz
  rw [← Rat.mkRat_self r,← Rat.mkRat_one f,← Rat.mkRat_one a,Rat.mkRat_mul_mkRat,Rat.mkRat_eq_iff (by simpa using hd) (by omega)] at h
  simpa using h
/-- The divisor of two numbers with one denominator. -/
theorem gcdQ_scale {r s:Rat} {f:Nat} {a b:Int} (hf:f≠0) (hr:r * ((f:Nat):Int)=(a:Rat)) (hs:s * ((f:Nat):Int)=(b:Rat)):gcdQ r s * ((f:Nat):Int)=(((Nat.gcd a.natAbs b.natAbs:Nat):Int):Rat):=by
  have h1:=num_mul hf hr
  have h2:=num_mul hf hs
  have d1:=r.den_nz
  have d2:=s.den_nz
  have e1:r.num.natAbs * f=a.natAbs * r.den:=by have:=congrArg Int.natAbs h1; rwa [Int.natAbs_mul,Int.natAbs_mul,Int.natAbs_natCast,Int.natAbs_natCast] at this
  have e2:s.num.natAbs * f=b.natAbs * s.den:=by have:=congrArg Int.natAbs h2; rwa [Int.natAbs_mul,Int.natAbs_mul,Int.natAbs_natCast,Int.natAbs_natCast] at this
  have e3:Nat.gcd (r.num.natAbs * s.den) (s.num.natAbs * r.den) * f=Nat.gcd a.natAbs b.natAbs * (r.den * s.den):=by
    rw [← Nat.gcd_mul_right,← Nat.gcd_mul_right]
    congr 1
    · rw [Nat.mul_right_comm,e1,Nat.mul_assoc]
    · rw [Nat.mul_right_comm,e2,Nat.mul_assoc,Nat.mul_comm s.den]
  unfold gcdQ
  rw [← Rat.mkRat_one ((f:Nat):Int),Rat.mkRat_mul_mkRat,← Rat.mkRat_one (((Nat.gcd a.natAbs b.natAbs:Nat):Int)),Rat.mkRat_eq_iff (by simpa using Nat.mul_ne_zero d1 d2) (by omega)]
  simp only [Nat.mul_one]
  have:=congrArg (Nat.cast (R:=Int)) e3
  simpa using this
end Go.Proofs.Tryz
/- Plain laws: the line through two points: program and reference agree. -/
namespace Go.Proofs.Tryz
open Go.Eng Go.Big
theorem mul_den_num (q:Rat) (m:Nat):q * (((q.den * m:Nat):Int):Rat)=((q.num * m:Int):Rat):=by
  have e:q * (((q.den:Nat):Int):Rat)=((q.num:Int):Rat):=by
    have h:=q.den_nz
    have h1:mkRat q.num q.den * mkRat ((q.den:Nat):Int) 1=mkRat q.num 1:=by
      rw [Rat.mkRat_mul_mkRat,Rat.mkRat_eq_iff (by simpa using h) (by omega)]
      simp
    rwa [Rat.mkRat_self,Rat.mkRat_one,Rat.mkRat_one] at h1
  rw [Int.natCast_mul,Rat.intCast_mul,← Rat.mul_assoc,e,← Rat.intCast_mul]
theorem int_div_cast {a:Int} {g:Nat} (hg:g≠0) (h:(g:Int) ∣ a):((a / (g:Int):Int):Rat)=(a:Rat) / ((g:Int):Rat):=by
  obtain ⟨k,rfl⟩:=h
  have h0:((g:Int):Rat)≠0:=by exact_mod_cast hg
  rw [Int.mul_ediv_cancel_left _ (by omega),Rat.intCast_mul,Rat.div_def,Rat.mul_comm ((g:Int):Rat),Rat.mul_assoc,Rat.mul_inv_cancel _ h0,Rat.mul_one]
/-- The line of three rational coefficients, in lowest terms. -/
def mkLn (a b c:Rat):L3:=
  let f:Nat:=a.den * b.den * c.den
  lnOf (a * ((f:Int):Rat)).num (b * ((f:Int):Rat)).num (c * ((f:Int):Rat)).num
theorem mkLn_spec {a b c:Rat} (h:¬ (a=0∧b=0)):let g:=gcdQ (gcdQ a b) c
    g≠0∧a * g⁻¹=((mkLn a b c).1:Rat)∧b * g⁻¹=((mkLn a b c).2.1:Rat)∧c * g⁻¹=((mkLn a b c).2.2:Rat):=by
  intro g
  have hf:a.den * b.den * c.den≠0:=Nat.mul_ne_zero (Nat.mul_ne_zero a.den_nz b.den_nz) c.den_nz
  have ea:a * (((a.den * b.den * c.den:Nat):Int):Rat)=((a.num * (b.den * c.den:Nat):Int):Rat):=by rw [Nat.mul_assoc,mul_den_num]
  have eb:b * (((a.den * b.den * c.den:Nat):Int):Rat)=((b.num * (a.den * c.den:Nat):Int):Rat):=by rw [Nat.mul_comm a.den,Nat.mul_assoc,mul_den_num]
  have ec:c * (((a.den * b.den * c.den:Nat):Int):Rat)=((c.num * (a.den * b.den:Nat):Int):Rat):=by rw [Nat.mul_comm (a.den * b.den),mul_den_num]
  have hm:mkLn a b c=lnOf (a.num * (b.den * c.den:Nat)) (b.num * (a.den * c.den:Nat)) (c.num * (a.den * b.den:Nat)):=by
    unfold mkLn
    dsimp only
    rw [ea,eb,ec,Rat.num_intCast,Rat.num_intCast,Rat.num_intCast]
  have g1:=gcdQ_scale hf ea eb
  have g2:=gcdQ_scale hf g1 ec
  rw [hm]
  have hA:a.num * (b.den * c.den:Nat)=0↔a=0:=by
    rw [Int.mul_eq_zero,Rat.num_eq_zero]
    have:=Nat.mul_ne_zero b.den_nz c.den_nz
    constructor
    · rintro (h | h)
      · exact h
      · omega
    · exact .inl
  have hB:b.num * (a.den * c.den:Nat)=0↔b=0:=by
    rw [Int.mul_eq_zero,Rat.num_eq_zero]
    have:=Nat.mul_ne_zero a.den_nz c.den_nz
    constructor
    · rintro (h | h)
      · exact h
      · omega
    · exact .inl
  generalize a.num * (b.den * c.den:Nat)=A at *
  generalize b.num * (a.den * c.den:Nat)=B at *
  generalize c.num * (a.den * b.den:Nat)=C at *
  generalize a.den * b.den * c.den=f at *
  have e3:Nat.gcd (((Nat.gcd A.natAbs B.natAbs:Nat):Int)).natAbs C.natAbs=gcd3 A B C:=by unfold gcd3; rw [Int.natAbs_natCast]
  rw [e3] at g2
  change g * ((f:Int):Rat)=_ at g2
  have hG:gcd3 A B C≠0:=by
    intro e
    have:=Nat.gcd_eq_zero_iff.1 e
    have:=Nat.gcd_eq_zero_iff.1 this.1
    exact h ⟨hA.1 (by omega),hB.1 (by omega)⟩
  have hf':((f:Int):Rat)≠0:=by exact_mod_cast hf
  have hG':((gcd3 A B C:Int):Rat)≠0:=by exact_mod_cast hG
  have hg:g≠0:=by intro e; rw [e,Rat.zero_mul] at g2; exact hG' g2.symm
  have dA:((gcd3 A B C:Nat):Int) ∣ A:=Int.natAbs_dvd_natAbs.1 (by rw [Int.natAbs_natCast]; exact Nat.dvd_trans (Nat.gcd_dvd_left _ _) (Nat.gcd_dvd_left _ _))
  have dB:((gcd3 A B C:Nat):Int) ∣ B:=Int.natAbs_dvd_natAbs.1 (by rw [Int.natAbs_natCast]; exact Nat.dvd_trans (Nat.gcd_dvd_left _ _) (Nat.gcd_dvd_right _ _))
  have dC:((gcd3 A B C:Nat):Int) ∣ C:=Int.natAbs_dvd_natAbs.1 (by rw [Int.natAbs_natCast]; exact Nat.gcd_dvd_right _ _)
  have key:∀{x:Rat} {X:Int},x * ((f:Int):Rat)=(X:Rat)→((gcd3 A B C:Nat):Int) ∣ X→x * g⁻¹=((X / (gcd3 A B C:Int):Int):Rat):=by
    intro x X hx hd
    rw [int_div_cast hG hd,← hx,← g2]
    grind
  exact ⟨hg,key ea dA,key eb dB,key ec dC⟩
theorem mkLn_nz {a b c:Rat} (h:¬ (a=0∧b=0)):¬ ((mkLn a b c).1=0∧(mkLn a b c).2.1=0):=by
  obtain ⟨g0,g1,g2,-⟩:=mkLn_spec (c:=c) h
  rintro ⟨e1,e2⟩
  rw [e1] at g1
  rw [e2] at g2
  have hi:(gcdQ (gcdQ a b) c)⁻¹≠0:=fun e=>by
    have h1:=Rat.mul_inv_cancel _ g0
    rw [e,Rat.mul_zero] at h1
    exact absurd h1 (by decide)
  apply h
  constructor
  · rcases Rat.mul_eq_zero.1 (by simpa using g1) with e | e
    · exact e
    · exact absurd e hi
  · rcases Rat.mul_eq_zero.1 (by simpa using g2) with e | e
    · exact e
    · exact absurd e hi
end Go.Proofs.Tryz
/- Contracts of the scene's tape: Next, P, V, L; trees of the reference in memory: Code, Tree. -/
namespace Go.Proofs.Tryz
open Go.Eng Go.Big
theorem RL_shape' {V:View} {v:Value} {a b c:Int} (h:RL V v a b c):∃(b1:Bool) (p1:OA) (n1 c1:Nat) (b2:Bool) (p2:OA) (n2 c2:Nat) (b3:Bool) (p3:OA) (n3 c3:Nat),v=.agg #[.bool b1,.slice p1 n1 c1,.bool b2,.slice p2 n2 c2,.bool b3,.slice p3 n3 c3]:=by
  obtain ⟨p,n,s,p',n',s',q,m,e,rfl,-⟩:=h
  exact ⟨_,_,_,_,_,_,_,_,_,_,_,_,rfl⟩
/-- Ints that can be read. -/
def Rdl (V:View) (p:OA) (n:Nat):Prop:=∀i,i < n→∃(a:Addr) (x:Int),addrAdd p (i * 1)=some a∧V.at a (.int .i64 x)
theorem Rdl.le {V V':View} {p:OA} {n:Nat} (h:Rdl V p n) (l:V.Le V'):Rdl V' p n:=fun i hi=>by
  obtain ⟨a,x,e,hx⟩:=h i hi; exact ⟨a,x,e,l.at hx⟩
/-- The tape's block. -/
def TpAt (V:View) (tb:Nat) (p:OA) (n c:Nat) (at_:Int):Prop:=V.w.heap[tb]?=some (.cells #[.slice p n c,.int .i64 at_] 105 (0,0))
theorem c_Next {V:View} {tb:Nat} {p:OA} {n c:Nat} {at_:Int} (k:Int) (hr:Rdl V p n) (hn:n≤400) (hw:TpAt V tb p n c at_) (hx:V.X tb) (h0:0≤at_) (hk:0 < k) (hk2:k≤1000) :
    Acts prog 33 #[.pointer (some ⟨tb,0,none⟩),.int .i64 k] V fun r V'=>∃x at',r=.int .i64 x∧0≤x∧x < k∧0≤at'∧TpAt V' tb p n c at':=by
  refine vc_scene_Tape_Next tb p n c at_ k V _ hw hx ⟨fun g V1 l1 e=>⟨0,at_,rfl,by omega,hk,h0,e⟩,fun g=>?_⟩
  have g:at_ < n:=by have:=of_decide_eq_false g; omega
  obtain ⟨i,rfl⟩:∃i:Nat,at_=i:=⟨at_.toNat,by omega⟩
  obtain ⟨a,x,e1,e2⟩:=hr i (by omega)
  have hs:p.isSome=true:=by
    cases p with
    | none=>simp [addrAdd] at e1
    | some a=>rfl
  have m1:(x.tmod k).natAbs < k.natAbs:=by rw [Int.natAbs_tmod]; exact Nat.mod_lt _ (by omega)
  have w1:i64.wrap ((i:Int) + 1)=((i + 1:Nat):Int):=by rw [i64w (by omega)]; omega
  rw [Int.toNat_natCast,w1]
  have w2:i64.wrap (x.tmod k + k)=x.tmod k + k:=i64w (by omega)
  refine ⟨hs,⟨by omega,by omega⟩,x,⟨a,e1,e2⟩,by omega,fun g2 V2 l2 e=>⟨x.tmod k + k,_,by rw [w2],?_,?_,?_,e⟩,fun g2 V3 l3 e=>⟨_,_,rfl,?_,?_,?_,e⟩⟩
  · omega
  · have:=of_decide_eq_true g2; omega
  · omega
  · have:=of_decide_eq_false g2; omega
  · omega
  · omega
theorem c_P {V:View} {tb:Nat} {p:OA} {n c:Nat} {at_:Int} (hr:Rdl V p n) (hn:n≤400) (hw:TpAt V tb p n c at_) (hx:V.X tb) (h0:0≤at_) :
    Acts prog 55 #[.pointer (some ⟨tb,0,none⟩)] V fun r V'=>∃(x y at':Int),RP V' r (x:Rat) (y:Rat)∧(-4≤x∧x≤4)∧(-4≤y∧y≤4)∧0≤at'∧TpAt V' tb p n c at':=by
  refine vc_scene_Tape_P tb p n c at_ V _ hw hx fun V1 l1 bk1 e1 h1=>(c_Next (V:=V1.lend [bk1]) 9 (hr.le fun b o h=>l1 b o h) hn e1 ⟨by simp,h1⟩ h0 (by omega) (by omega)).mono ?_
  rintro r V2 l2 ⟨x,at1,rfl,x0,x1,t1,hw1⟩
  refine ⟨_,rfl,_,_,_,_,hw1,fun V3 l3 bk5 e3 h3=>(c_Next (V:=V3.lend [bk5]) 9 (hr.le fun b o h=>l3 b o (l2 b o (l1 b o h))) hn e3 ⟨by simp,h3⟩ t1 (by omega) (by omega)).mono ?_⟩
  rintro r V4 l4 ⟨y,at2,rfl,y0,y1,t2,hw2⟩
  refine ⟨_,rfl,_,_,_,_,hw2,fun V5 l5=>?_⟩
  rw [i64w (x:=x - 4) (by omega),i64w (x:=y - 4) (by omega)]
  refine (c_ref04_Xy (x - 4) (y - 4) (by omega) (by omega) (by omega) (by omega)).mono ?_
  rintro r V6 l6 hp
  have hp0:=hp
  obtain ⟨p1,n1,c1,p2,n2,c2,p3,n3,c3,p4,n4,c4,rfl,-⟩:=hp
  exact ⟨_,_,_,_,_,_,_,_,_,_,_,_,_,_,rfl,fun V7 l7 e7=>⟨x - 4,y - 4,at2,hp0.le l7,⟨by omega,by omega⟩,⟨by omega,by omega⟩,t2,e7⟩⟩
theorem RQ.zero {V:View}:RQ V (.agg #[.bool false,.slice none 0 0,.slice none 0 0]) ((0:Int):Rat):=⟨none,0,0,none,0,0,rfl,RD.nil,RD.nil⟩
theorem RP.zero {V:View}:RP V (.agg #[.bool false,.slice none 0 0,.slice none 0 0,.bool false,.slice none 0 0,.slice none 0 0]) ((0:Int):Rat) ((0:Int):Rat):=
  ⟨none,0,0,none,0,0,none,0,0,none,0,0,rfl,RQ.zero,RQ.zero⟩
theorem sz4 {z:Int} (h:-40≤z∧z≤40):Sz 10 (z:Rat):=sz_int (by omega) (by omega)
theorem c_V {V:View} {tb:Nat} {p:OA} {n c:Nat} {at_:Int} (hr:Rdl V p n) (hn:n≤400) (hw:TpAt V tb p n c at_) (hx:V.X tb) (h0:0≤at_) :
    Acts prog 58 #[.pointer (some ⟨tb,0,none⟩)] V fun r V'=>∃(x y at':Int),RP V' r (x:Rat) (y:Rat)∧(-4≤x∧x≤4)∧(-4≤y∧y≤4)∧¬ (x=0∧y=0)∧0≤at'∧TpAt V' tb p n c at':=by
  refine vc_scene_Tape_V tb p n c at_ V _ hw hx fun V1 l1 bk1 e1 h1=>(c_P (V:=V1.lend [bk1]) (hr.le fun b o h=>l1 b o h) hn e1 ⟨by simp,h1⟩ h0).mono ?_
  rintro r V2 l2 ⟨x,y,at1,hp,hx1,hy1,t1,hw1⟩
  have hp0:=hp
  obtain ⟨p1,n1,c1,p2,n2,c2,p3,n3,c3,p4,n4,c4,rfl,-⟩:=hp
  refine ⟨_,_,_,_,_,_,_,_,_,_,_,_,_,_,rfl,_,_,_,_,hw1,fun V3 l3=>(c_ref04_Same (hp0.le fun b o h=>l3 b o h) RP.zero (sz4 (by omega)) (sz4 (by omega)) (sz4 (by omega)) (sz4 (by omega)) (by omega)).mono ?_⟩
  rintro r V4 l4 rfl
  refine ⟨_,rfl,fun g V5 l5=>(c_ref04_Xy 1 0 (by omega) (by omega) (by omega) (by omega)).mono ?_,fun g V8 l8 e8=>⟨x,y,at1,hp0.le fun b o h=>l8 b o (l4 b o (l3 b o h)),hx1,hy1,?_,t1,e8⟩⟩
  · rintro r V6 l6 hq
    have hq0:=hq
    obtain ⟨p1,n1,c1,p2,n2,c2,p3,n3,c3,p4,n4,c4,rfl,-⟩:=hq
    exact ⟨_,_,_,_,_,_,_,_,_,_,_,_,_,_,rfl,fun V7 l7 e7=>⟨1,0,at1,hq0.le l7,⟨by omega,by omega⟩,⟨by omega,by omega⟩,by omega,t1,e7⟩⟩
  · rintro ⟨rfl,rfl⟩
    simp at g
theorem c_L {V:View} {tb:Nat} {p:OA} {n c:Nat} {at_:Int} (hr:Rdl V p n) (hn:n≤400) (hw:TpAt V tb p n c at_) (hx:V.X tb) (h0:0≤at_) :
    Acts prog 39 #[.pointer (some ⟨tb,0,none⟩)] V fun r V'=>∃(x:L3) (at':Int),RL V' r x.1 x.2.1 x.2.2∧okL x=true∧Bd x∧0≤at'∧TpAt V' tb p n c at':=by
  refine vc_scene_Tape_L tb p n c at_ V _ hw hx fun V1 l1 bk1 e1 h1=>(c_P (V:=V1.lend [bk1]) (hr.le fun b o h=>l1 b o h) hn e1 ⟨by simp,h1⟩ h0).mono ?_
  rintro r V2 l2 ⟨x,y,at1,hp,hx1,hy1,t1,hw1⟩
  have hp0:=hp
  obtain ⟨p1,n1,c1,p2,n2,c2,p3,n3,c3,p4,n4,c4,rfl,-⟩:=hp
  refine ⟨_,_,_,_,_,_,_,_,_,_,_,_,_,_,rfl,_,_,_,_,hw1,fun V3 l3=>(c_num_Of 1 (by omega) (by omega)).mono ?_⟩
  rintro r V4 l4 hq
  have hq0:=hq
  obtain ⟨p5,n5,c5,p6,n6,c6,rfl⟩:=hq.shape
  refine ⟨_,_,_,_,_,_,_,rfl,fun V5 l5 bk13 e5 h5=>(c_V (V:=V5.lend [bk13]) (hr.le fun b o h=>l5 b o (l4 b o (l3 b o (l2 b o (l1 b o h))))) hn e5 ⟨by simp,h5⟩ t1).mono ?_⟩
  rintro r V6 l6 ⟨u,w,at2,hv,hu1,hw1',hne,t2,hw2⟩
  have hv0:=hv
  obtain ⟨q1,m1,d1,q2,m2,d2,q3,m3,d3,q4,m4,d4,rfl,-⟩:=hv
  refine ⟨_,_,_,_,_,_,_,_,_,_,_,_,_,_,rfl,_,_,_,_,hw2,fun V7 l7=>?_⟩
  have l27:V2.Le V7:=fun b o h=>l7 b o (l6 b o (l5 b o (l4 b o (l3 b o h))))
  have l47:V4.Le V7:=fun b o h=>l7 b o (l6 b o (l5 b o h))
  have l67:V6.Le V7:=fun b o h=>l7 b o h
  refine (c_ref04_Add (hp0.le l27) (hq0.le l47) (hv0.le l67) (k:=10) (m:=10) (sz4 (by omega)) (sz4 (by omega)) (sz4 (by omega)) (sz4 (by omega)) (sz4 (by omega)) (by omega)).mono ?_
  rintro r V8 l8 hs
  have hs0:=hs
  obtain ⟨s1,i1,j1,s2,i2,j2,s3,i3,j3,s4,i4,j4,rfl,-⟩:=hs
  have f1:(x:Rat) + ((1:Int):Rat) * (u:Rat)=((x + u:Int):Rat):=by rw [← Rat.intCast_mul,← Rat.intCast_add,Int.one_mul]
  have f2:(y:Rat) + ((1:Int):Rat) * (w:Rat)=((y + w:Int):Rat):=by rw [← Rat.intCast_mul,← Rat.intCast_add,Int.one_mul]
  refine ⟨_,_,_,_,_,_,_,_,_,_,_,_,_,_,rfl,fun V9 l9=>(c_ref04_Through (hp0.le (l27.trans (l8.trans l9))) (hs0.le l9) (k:=10) (sz4 (by omega)) (sz4 (by omega)) (by rw [f1]; exact sz4 (by omega)) (by rw [f2]; exact sz4 (by omega)) (by omega) (by omega)).mono ?_⟩
  rintro r V10 l10 ⟨-,h⟩
  rw [thr_int] at h
  have n1:((-w:Int):Rat).num=-w:=rfl
  have n2:((u:Int):Rat).num=u:=rfl
  have n3:((w * x - u * y:Int):Rat).num=w * x - u * y:=rfl
  dsimp only at h
  rw [n1,n2,n3] at h
  obtain ⟨l,rfl,hl⟩:=h (by omega)
  have m1:=mul_bd hw1' hx1
  have m2:=mul_bd hu1 hy1
  obtain ⟨k1,k2⟩:=lnOf_ok (a:=-w) (b:=u) (c:=w * x - u * y) (by omega) (by omega) (by omega) (by omega)
  have hl0:=hl
  obtain ⟨b1,u1,v1,w1,b2,u2,v2,w2,b3,u3,v3,w3,rfl⟩:=(RL_shape' hl)
  exact ⟨_,_,_,_,_,_,_,_,_,_,_,_,_,rfl,fun V11 l11 e11=>⟨lnOf (-w) u (w * x - u * y),at2,hl0.le l11,k1,k2,t2,e11⟩⟩
end Go.Proofs.Tryz
/- By program: the conditions of the functions, from their loaded code. -/
namespace Go.Proofs.Tryz
open Go.Eng
set_option maxRecDepth 100000
theorem vc_scene_Tape_Q (tb:Nat) (lp:OA) (ln lc:Nat) (at_:Int) (V:View) (R:Value→View→Prop) (hw100000:V.w.heap[tb]?=some (.cells #[.slice lp ln lc,.int .i64 at_] 105 (0,0))) (hx100000:V.X tb)
    (h:(∀V1:View,V.Le V1→∀bk1_:Nat,(V1.w.heap[bk1_]?=some (.cells #[.slice lp ln lc,.int .i64 at_] 105 (0,0)))→(V1.H bk1_)→Acts prog 33 #[.pointer (some ⟨bk1_,0,none⟩),.int .i64 9] (V1.lend [bk1_]) fun r1_ V2=>∃x2_:Int,r1_=.int .i64 x2_∧∃(p3_:OA) (n3_ c3_:Nat),∃x4_:Int,V2.w.heap[bk1_]?=some (.cells #[.slice p3_ n3_ c3_,.int .i64 x4_] 105 (0,0))∧(∀V3:View,V2.shut.Le V3→∀bk5_:Nat,(V3.w.heap[bk5_]?=some (.cells #[.slice p3_ n3_ c3_,.int .i64 x4_] 105 (0,0)))→(V3.H bk5_)→Acts prog 33 #[.pointer (some ⟨bk5_,0,none⟩),.int .i64 6] (V3.lend [bk5_]) fun r3_ V4=>∃x6_:Int,r3_=.int .i64 x6_∧∃(p7_:OA) (n7_ c7_:Nat),∃x8_:Int,V4.w.heap[bk5_]?=some (.cells #[.slice p7_ n7_ c7_,.int .i64 x8_] 105 (0,0))∧(((x6_ == (0:Int))=true→(∀V5:View,V4.shut.Le V5→Acts prog 65 #[.int .i64 (i64.wrap ((i64.wrap ((2:Int) * (i64.wrap (x2_ - (4:Int))))) + (1:Int))),.int .i64 2] V5 fun r5_ V6=>∃b9_:Bool,∃(p10_:OA) (n10_ c10_:Nat),∃(p11_:OA) (n11_ c11_:Nat),r5_=.agg #[.bool b9_,.slice p10_ n10_ c10_,.slice p11_ n11_ c11_]∧(∀V7:View,V6.Le V7→V7.w.heap[tb]?=some (.cells #[.slice p7_ n7_ c7_,.int .i64 x8_] 105 (0,0))→R (.agg #[.bool b9_,.slice p10_ n10_ c10_,.slice p11_ n11_ c11_]) V7)))∧((x6_ == (0:Int))=false→(((x6_ == (1:Int))=true→(∀V8:View,V4.shut.Le V8→Acts prog 65 #[.int .i64 (i64.wrap ((i64.wrap ((3:Int) * (i64.wrap (x2_ - (4:Int))))) + (1:Int))),.int .i64 3] V8 fun r8_ V9=>∃b12_:Bool,∃(p13_:OA) (n13_ c13_:Nat),∃(p14_:OA) (n14_ c14_:Nat),r8_=.agg #[.bool b12_,.slice p13_ n13_ c13_,.slice p14_ n14_ c14_]∧(∀V10:View,V9.Le V10→V10.w.heap[tb]?=some (.cells #[.slice p7_ n7_ c7_,.int .i64 x8_] 105 (0,0))→R (.agg #[.bool b12_,.slice p13_ n13_ c13_,.slice p14_ n14_ c14_]) V10)))∧((x6_ == (1:Int))=false→(∀V11:View,V4.shut.Le V11→Acts prog 57 #[.int .i64 (i64.wrap (x2_ - (4:Int)))] V11 fun r11_ V12=>∃b15_:Bool,∃(p16_:OA) (n16_ c16_:Nat),∃(p17_:OA) (n17_ c17_:Nat),r11_=.agg #[.bool b15_,.slice p16_ n16_ c16_,.slice p17_ n17_ c17_]∧(∀V13:View,V12.Le V13→V13.w.heap[tb]?=some (.cells #[.slice p7_ n7_ c7_,.int .i64 x8_] 105 (0,0))→R (.agg #[.bool b15_,.slice p16_ n16_ c16_,.slice p17_ n17_ c17_]) V13))))))))) :
    Acts prog 20 #[.pointer (some ⟨tb,0,none⟩)] V R:=
  fn_does (LF:=LF0) (RF:=[1000007]) (β0:=(upd1 (fun _=>0) 100000 tb)) tab_ok mixed [] [] func20 (by kernel_rfl)
    [(0,.c (.ptr 100000 0))]
    [(100000,⟨.lit [.v (.slice lp ln lc),.v (.int .i64 at_)],105⟩)] (by kernel_rfl) ⟨⟨hw100000,hx100000⟩,trivial,trivial⟩ h (by kernel_rfl)
theorem vc_scene_Tape_Point (tb:Nat) (lp:OA) (ln lc:Nat) (at_:Int) (V:View) (R:Value→View→Prop) (hw100000:V.w.heap[tb]?=some (.cells #[.slice lp ln lc,.int .i64 at_] 105 (0,0))) (hx100000:V.X tb)
    (h:(∀V1:View,V.Le V1→∀bk1_:Nat,(V1.w.heap[bk1_]?=some (.cells #[.slice lp ln lc,.int .i64 at_] 105 (0,0)))→(V1.H bk1_)→Acts prog 20 #[.pointer (some ⟨bk1_,0,none⟩)] (V1.lend [bk1_]) fun r1_ V2=>∃b2_:Bool,∃(p3_:OA) (n3_ c3_:Nat),∃(p4_:OA) (n4_ c4_:Nat),r1_=.agg #[.bool b2_,.slice p3_ n3_ c3_,.slice p4_ n4_ c4_]∧∃(p5_:OA) (n5_ c5_:Nat),∃x6_:Int,V2.w.heap[bk1_]?=some (.cells #[.slice p5_ n5_ c5_,.int .i64 x6_] 105 (0,0))∧(∀V3:View,V2.shut.Le V3→∀bk7_:Nat,(V3.w.heap[bk7_]?=some (.cells #[.slice p5_ n5_ c5_,.int .i64 x6_] 105 (0,0)))→(V3.H bk7_)→Acts prog 20 #[.pointer (some ⟨bk7_,0,none⟩)] (V3.lend [bk7_]) fun r3_ V4=>∃b8_:Bool,∃(p9_:OA) (n9_ c9_:Nat),∃(p10_:OA) (n10_ c10_:Nat),r3_=.agg #[.bool b8_,.slice p9_ n9_ c9_,.slice p10_ n10_ c10_]∧∃(p11_:OA) (n11_ c11_:Nat),∃x12_:Int,V4.w.heap[bk7_]?=some (.cells #[.slice p11_ n11_ c11_,.int .i64 x12_] 105 (0,0))∧(∀V5:View,V4.shut.Le V5→V5.w.heap[tb]?=some (.cells #[.slice p11_ n11_ c11_,.int .i64 x12_] 105 (0,0))→R (.agg #[.bool b2_,.slice p3_ n3_ c3_,.slice p4_ n4_ c4_,.bool b8_,.slice p9_ n9_ c9_,.slice p10_ n10_ c10_]) V5)))) :
    Acts prog 8 #[.pointer (some ⟨tb,0,none⟩)] V R:=
  fn_does (LF:=LF0) (RF:=[1000007]) (β0:=(upd1 (fun _=>0) 100000 tb)) tab_ok mixed [] [] func8 (by kernel_rfl)
    [(0,.c (.ptr 100000 0))]
    [(100000,⟨.lit [.v (.slice lp ln lc),.v (.int .i64 at_)],105⟩)] (by kernel_rfl) ⟨⟨hw100000,hx100000⟩,trivial,trivial⟩ h (by kernel_rfl)
theorem vc_scene_Tape_S (tb:Nat) (lp:OA) (ln lc:Nat) (at_:Int) (V:View) (R:Value→View→Prop) (hw100000:V.w.heap[tb]?=some (.cells #[.slice lp ln lc,.int .i64 at_] 105 (0,0))) (hx100000:V.X tb)
    (h:(∀V1:View,V.Le V1→∀bk1_:Nat,(V1.w.heap[bk1_]?=some (.cells #[.slice lp ln lc,.int .i64 at_] 105 (0,0)))→(V1.H bk1_)→Acts prog 20 #[.pointer (some ⟨bk1_,0,none⟩)] (V1.lend [bk1_]) fun r1_ V2=>∃b2_:Bool,∃(p3_:OA) (n3_ c3_:Nat),∃(p4_:OA) (n4_ c4_:Nat),r1_=.agg #[.bool b2_,.slice p3_ n3_ c3_,.slice p4_ n4_ c4_]∧∃(p5_:OA) (n5_ c5_:Nat),∃x6_:Int,V2.w.heap[bk1_]?=some (.cells #[.slice p5_ n5_ c5_,.int .i64 x6_] 105 (0,0))∧(∀V3:View,V2.shut.Le V3→∀bk7_:Nat,(V3.w.heap[bk7_]?=some (.cells #[.slice p5_ n5_ c5_,.int .i64 x6_] 105 (0,0)))→(V3.H bk7_)→Acts prog 33 #[.pointer (some ⟨bk7_,0,none⟩),.int .i64 6] (V3.lend [bk7_]) fun r3_ V4=>∃x8_:Int,r3_=.int .i64 x8_∧∃(p9_:OA) (n9_ c9_:Nat),∃x10_:Int,V4.w.heap[bk7_]?=some (.cells #[.slice p9_ n9_ c9_,.int .i64 x10_] 105 (0,0))∧(∀V5:View,V4.shut.Le V5→Acts prog 65 #[.int .i64 (i64.wrap ((1:Int) + x8_)),.int .i64 2] V5 fun r5_ V6=>∃b11_:Bool,∃(p12_:OA) (n12_ c12_:Nat),∃(p13_:OA) (n13_ c13_:Nat),r5_=.agg #[.bool b11_,.slice p12_ n12_ c12_,.slice p13_ n13_ c13_]∧(∀V7:View,V6.Le V7→Acts prog 80 #[.agg #[.bool b2_,.slice p3_ n3_ c3_,.slice p4_ n4_ c4_],.agg #[.bool b11_,.slice p12_ n12_ c12_,.slice p13_ n13_ c13_]] V7 fun r7_ V8=>∃b14_:Bool,∃(p15_:OA) (n15_ c15_:Nat),∃(p16_:OA) (n16_ c16_:Nat),r7_=.agg #[.bool b14_,.slice p15_ n15_ c15_,.slice p16_ n16_ c16_]∧(∀V9:View,V8.Le V9→∀bk17_:Nat,(V9.w.heap[bk17_]?=some (.cells #[.slice p9_ n9_ c9_,.int .i64 x10_] 105 (0,0)))→(V9.H bk17_)→Acts prog 33 #[.pointer (some ⟨bk17_,0,none⟩),.int .i64 8] (V9.lend [bk17_]) fun r9_ V10=>∃x18_:Int,r9_=.int .i64 x18_∧∃(p19_:OA) (n19_ c19_:Nat),∃x20_:Int,V10.w.heap[bk17_]?=some (.cells #[.slice p19_ n19_ c19_,.int .i64 x20_] 105 (0,0))∧(((x18_ == (0:Int))=true→(∀V11:View,V10.shut.Le V11→V11.w.heap[tb]?=some (.cells #[.slice p19_ n19_ c19_,.int .i64 x20_] 105 (0,0))→R (.agg #[.bool false,.slice none 0 0,.slice none 0 0,.bool b14_,.slice p15_ n15_ c15_,.slice p16_ n16_ c16_,.bool true,.bool false]) V11))∧((x18_ == (0:Int))=false→(((x18_ == (1:Int))=true→(∀V12:View,V10.shut.Le V12→V12.w.heap[tb]?=some (.cells #[.slice p19_ n19_ c19_,.int .i64 x20_] 105 (0,0))→R (.agg #[.bool b2_,.slice p3_ n3_ c3_,.slice p4_ n4_ c4_,.bool false,.slice none 0 0,.slice none 0 0,.bool false,.bool true]) V12))∧((x18_ == (1:Int))=false→(((x18_ == (2:Int))=true→(∀V13:View,V10.shut.Le V13→∀bk21_:Nat,(V13.w.heap[bk21_]?=some (.cells #[.slice p19_ n19_ c19_,.int .i64 x20_] 105 (0,0)))→(V13.H bk21_)→Acts prog 33 #[.pointer (some ⟨bk21_,0,none⟩),.int .i64 4] (V13.lend [bk21_]) fun r13_ V14=>∃x22_:Int,r13_=.int .i64 x22_∧∃(p23_:OA) (n23_ c23_:Nat),∃x24_:Int,V14.w.heap[bk21_]?=some (.cells #[.slice p23_ n23_ c23_,.int .i64 x24_] 105 (0,0))∧(((x22_ == (0:Int))=true→(∀V15:View,V14.shut.Le V15→Acts prog 81 #[] V15 fun r15_ V16=>∃b25_:Bool,∃(p26_:OA) (n26_ c26_:Nat),∃(p27_:OA) (n27_ c27_:Nat),∃b28_:Bool,∃(p29_:OA) (n29_ c29_:Nat),∃(p30_:OA) (n30_ c30_:Nat),∃b31_:Bool,∃b32_:Bool,r15_=.agg #[.bool b25_,.slice p26_ n26_ c26_,.slice p27_ n27_ c27_,.bool b28_,.slice p29_ n29_ c29_,.slice p30_ n30_ c30_,.bool b31_,.bool b32_]∧(∀V17:View,V16.Le V17→V17.w.heap[tb]?=some (.cells #[.slice p23_ n23_ c23_,.int .i64 x24_] 105 (0,0))→R (.agg #[.bool b25_,.slice p26_ n26_ c26_,.slice p27_ n27_ c27_,.bool b28_,.slice p29_ n29_ c29_,.slice p30_ n30_ c30_,.bool b31_,.bool b32_]) V17)))∧((x22_ == (0:Int))=false→(∀V18:View,V14.shut.Le V18→V18.w.heap[tb]?=some (.cells #[.slice p23_ n23_ c23_,.int .i64 x24_] 105 (0,0))→R (.agg #[.bool b2_,.slice p3_ n3_ c3_,.slice p4_ n4_ c4_,.bool b14_,.slice p15_ n15_ c15_,.slice p16_ n16_ c16_,.bool false,.bool false]) V18)))))∧((x18_ == (2:Int))=false→(∀V19:View,V10.shut.Le V19→V19.w.heap[tb]?=some (.cells #[.slice p19_ n19_ c19_,.int .i64 x20_] 105 (0,0))→R (.agg #[.bool b2_,.slice p3_ n3_ c3_,.slice p4_ n4_ c4_,.bool b14_,.slice p15_ n15_ c15_,.slice p16_ n16_ c16_,.bool false,.bool false]) V19))))))))))))) :
    Acts prog 34 #[.pointer (some ⟨tb,0,none⟩)] V R:=
  fn_does (LF:=LF0) (RF:=[1000007]) (β0:=(upd1 (fun _=>0) 100000 tb)) tab_ok mixed [] [] func34 (by kernel_rfl)
    [(0,.c (.ptr 100000 0))]
    [(100000,⟨.lit [.v (.slice lp ln lc),.v (.int .i64 at_)],105⟩)] (by kernel_rfl) ⟨⟨hw100000,hx100000⟩,trivial,trivial⟩ h (by kernel_rfl)
theorem vc_scene_Tape_F (tb:Nat) (lp:OA) (ln lc:Nat) (at_:Int) (V:View) (R:Value→View→Prop) (hw100000:V.w.heap[tb]?=some (.cells #[.slice lp ln lc,.int .i64 at_] 105 (0,0))) (hx100000:V.X tb)
    (h:(∀V1:View,V.Le V1→∀bk1_:Nat,(V1.w.heap[bk1_]?=some (.cells #[.slice lp ln lc,.int .i64 at_] 105 (0,0)))→(V1.H bk1_)→Acts prog 33 #[.pointer (some ⟨bk1_,0,none⟩),.int .i64 3] (V1.lend [bk1_]) fun r1_ V2=>∃x2_:Int,r1_=.int .i64 x2_∧∃(p3_:OA) (n3_ c3_:Nat),∃x4_:Int,V2.w.heap[bk1_]?=some (.cells #[.slice p3_ n3_ c3_,.int .i64 x4_] 105 (0,0))∧(((x2_ == (0:Int))=true→(∀V3:View,V2.shut.Le V3→∀bk5_:Nat,(V3.w.heap[bk5_]?=some (.cells #[.slice p3_ n3_ c3_,.int .i64 x4_] 105 (0,0)))→(V3.H bk5_)→Acts prog 39 #[.pointer (some ⟨bk5_,0,none⟩)] (V3.lend [bk5_]) fun r3_ V4=>∃b6_:Bool,∃(p7_:OA) (n7_ c7_:Nat),∃b8_:Bool,∃(p9_:OA) (n9_ c9_:Nat),∃b10_:Bool,∃(p11_:OA) (n11_ c11_:Nat),r3_=.agg #[.bool b6_,.slice p7_ n7_ c7_,.bool b8_,.slice p9_ n9_ c9_,.bool b10_,.slice p11_ n11_ c11_]∧∃(p12_:OA) (n12_ c12_:Nat),∃x13_:Int,V4.w.heap[bk5_]?=some (.cells #[.slice p12_ n12_ c12_,.int .i64 x13_] 105 (0,0))∧(∀V5:View,V4.shut.Le V5→∀bk14_:Nat,(V5.w.heap[bk14_]?=some (.cells #[.slice p12_ n12_ c12_,.int .i64 x13_] 105 (0,0)))→(V5.H bk14_)→Acts prog 34 #[.pointer (some ⟨bk14_,0,none⟩)] (V5.lend [bk14_]) fun r5_ V6=>∃b15_:Bool,∃(p16_:OA) (n16_ c16_:Nat),∃(p17_:OA) (n17_ c17_:Nat),∃b18_:Bool,∃(p19_:OA) (n19_ c19_:Nat),∃(p20_:OA) (n20_ c20_:Nat),∃b21_:Bool,∃b22_:Bool,r5_=.agg #[.bool b15_,.slice p16_ n16_ c16_,.slice p17_ n17_ c17_,.bool b18_,.slice p19_ n19_ c19_,.slice p20_ n20_ c20_,.bool b21_,.bool b22_]∧∃(p23_:OA) (n23_ c23_:Nat),∃x24_:Int,V6.w.heap[bk14_]?=some (.cells #[.slice p23_ n23_ c23_,.int .i64 x24_] 105 (0,0))∧(∀V7:View,V6.shut.Le V7→V7.w.heap[tb]?=some (.cells #[.slice p23_ n23_ c23_,.int .i64 x24_] 105 (0,0))→R (.agg #[.bool b6_,.slice p7_ n7_ c7_,.bool b8_,.slice p9_ n9_ c9_,.bool b10_,.slice p11_ n11_ c11_,.bool b15_,.slice p16_ n16_ c16_,.slice p17_ n17_ c17_,.bool b18_,.slice p19_ n19_ c19_,.slice p20_ n20_ c20_,.bool b21_,.bool b22_]) V7))))∧((x2_ == (0:Int))=false→(∀V8:View,V2.shut.Le V8→∀bk25_:Nat,(V8.w.heap[bk25_]?=some (.cells #[.slice p3_ n3_ c3_,.int .i64 x4_] 105 (0,0)))→(V8.H bk25_)→Acts prog 55 #[.pointer (some ⟨bk25_,0,none⟩)] (V8.lend [bk25_]) fun r8_ V9=>∃b26_:Bool,∃(p27_:OA) (n27_ c27_:Nat),∃(p28_:OA) (n28_ c28_:Nat),∃b29_:Bool,∃(p30_:OA) (n30_ c30_:Nat),∃(p31_:OA) (n31_ c31_:Nat),r8_=.agg #[.bool b26_,.slice p27_ n27_ c27_,.slice p28_ n28_ c28_,.bool b29_,.slice p30_ n30_ c30_,.slice p31_ n31_ c31_]∧∃(p32_:OA) (n32_ c32_:Nat),∃x33_:Int,V9.w.heap[bk25_]?=some (.cells #[.slice p32_ n32_ c32_,.int .i64 x33_] 105 (0,0))∧(∀V10:View,V9.shut.Le V10→Acts prog 57 #[.int .i64 1] V10 fun r10_ V11=>∃b34_:Bool,∃(p35_:OA) (n35_ c35_:Nat),∃(p36_:OA) (n36_ c36_:Nat),r10_=.agg #[.bool b34_,.slice p35_ n35_ c35_,.slice p36_ n36_ c36_]∧(∀V12:View,V11.Le V12→∀bk37_:Nat,(V12.w.heap[bk37_]?=some (.cells #[.slice p32_ n32_ c32_,.int .i64 x33_] 105 (0,0)))→(V12.H bk37_)→Acts prog 58 #[.pointer (some ⟨bk37_,0,none⟩)] (V12.lend [bk37_]) fun r12_ V13=>∃b38_:Bool,∃(p39_:OA) (n39_ c39_:Nat),∃(p40_:OA) (n40_ c40_:Nat),∃b41_:Bool,∃(p42_:OA) (n42_ c42_:Nat),∃(p43_:OA) (n43_ c43_:Nat),r12_=.agg #[.bool b38_,.slice p39_ n39_ c39_,.slice p40_ n40_ c40_,.bool b41_,.slice p42_ n42_ c42_,.slice p43_ n43_ c43_]∧∃(p44_:OA) (n44_ c44_:Nat),∃x45_:Int,V13.w.heap[bk37_]?=some (.cells #[.slice p44_ n44_ c44_,.int .i64 x45_] 105 (0,0))∧(∀V14:View,V13.shut.Le V14→Acts prog 56 #[.agg #[.bool b26_,.slice p27_ n27_ c27_,.slice p28_ n28_ c28_,.bool b29_,.slice p30_ n30_ c30_,.slice p31_ n31_ c31_],.agg #[.bool b34_,.slice p35_ n35_ c35_,.slice p36_ n36_ c36_],.agg #[.bool b38_,.slice p39_ n39_ c39_,.slice p40_ n40_ c40_,.bool b41_,.slice p42_ n42_ c42_,.slice p43_ n43_ c43_]] V14 fun r14_ V15=>∃b46_:Bool,∃(p47_:OA) (n47_ c47_:Nat),∃(p48_:OA) (n48_ c48_:Nat),∃b49_:Bool,∃(p50_:OA) (n50_ c50_:Nat),∃(p51_:OA) (n51_ c51_:Nat),r14_=.agg #[.bool b46_,.slice p47_ n47_ c47_,.slice p48_ n48_ c48_,.bool b49_,.slice p50_ n50_ c50_,.slice p51_ n51_ c51_]∧(∀V16:View,V15.Le V16→Acts prog 11 #[.agg #[.bool b26_,.slice p27_ n27_ c27_,.slice p28_ n28_ c28_,.bool b29_,.slice p30_ n30_ c30_,.slice p31_ n31_ c31_],.agg #[.bool b46_,.slice p47_ n47_ c47_,.slice p48_ n48_ c48_,.bool b49_,.slice p50_ n50_ c50_,.slice p51_ n51_ c51_]] V16 fun r16_ V17=>∃b52_:Bool,∃(p53_:OA) (n53_ c53_:Nat),∃b54_:Bool,∃(p55_:OA) (n55_ c55_:Nat),∃b56_:Bool,∃(p57_:OA) (n57_ c57_:Nat),∃b58_:Bool,∃(p59_:OA) (n59_ c59_:Nat),∃(p60_:OA) (n60_ c60_:Nat),∃b61_:Bool,∃(p62_:OA) (n62_ c62_:Nat),∃(p63_:OA) (n63_ c63_:Nat),∃b64_:Bool,∃b65_:Bool,∃b66_:Bool,r16_=.tuple #[.agg #[.bool b52_,.slice p53_ n53_ c53_,.bool b54_,.slice p55_ n55_ c55_,.bool b56_,.slice p57_ n57_ c57_,.bool b58_,.slice p59_ n59_ c59_,.slice p60_ n60_ c60_,.bool b61_,.slice p62_ n62_ c62_,.slice p63_ n63_ c63_,.bool b64_,.bool b65_],.bool b66_]∧(∀V18:View,V17.Le V18→V18.w.heap[tb]?=some (.cells #[.slice p44_ n44_ c44_,.int .i64 x45_] 105 (0,0))→R (.agg #[.bool b52_,.slice p53_ n53_ c53_,.bool b54_,.slice p55_ n55_ c55_,.bool b56_,.slice p57_ n57_ c57_,.bool b58_,.slice p59_ n59_ c59_,.slice p60_ n60_ c60_,.bool b61_,.slice p62_ n62_ c62_,.slice p63_ n63_ c63_,.bool b64_,.bool b65_]) V18)))))))))) :
    Acts prog 14 #[.pointer (some ⟨tb,0,none⟩)] V R:=
  fn_does (LF:=LF0) (RF:=[1000007]) (β0:=(upd1 (fun _=>0) 100000 tb)) tab_ok mixed [] [] func14 (by kernel_rfl)
    [(0,.c (.ptr 100000 0))]
    [(100000,⟨.lit [.v (.slice lp ln lc),.v (.int .i64 at_)],105⟩)] (by kernel_rfl) ⟨⟨hw100000,hx100000⟩,trivial,trivial⟩ h (by kernel_rfl)
end Go.Proofs.Tryz
/- Contracts: num.Part; the tape's Q and Point. -/
namespace Go.Proofs.Tryz
open Go.Eng Go.Big
theorem c_num_Part {V:View} (n:Int) (d:Nat) (h0:-1000≤n) (h1:n≤1000) (hd0:d≠0) (hd:d≤1000) :
    Acts prog 65 #[.int .i64 n,.int .i64 (d:Int)] V fun r V'=>RQ V' r (mkRat n d):=by
  refine vc_num_Part n d V _ fun V1 l1=>(c_num_Int n (by omega) (by omega)).mono ?_
  rintro r V2 l2 ⟨p,m,c,rfl,g⟩
  rw [u64w (by omega)]
  refine ⟨_,_,_,_,rfl,fun V3 l3=>(c_num_Word d (by omega)).mono ?_⟩
  rintro r V4 l4 ⟨p2,m2,c2,rfl,g2⟩
  refine ⟨_,_,_,rfl,fun V5 l5=>(c_num_Frac n (g.le (l3.trans (l4.trans l5))) (g2.le l5) (Nat.le_trans (digs_len_bits (k:=10) (by omega)) (by omega)) (Nat.le_trans (digs_len_bits (k:=10) (by omega)) (by omega)) hd0).mono ?_⟩
  rintro r V6 l6 h
  have h':=h
  obtain ⟨_,_,_,_,_,_,rfl⟩:=h.shape
  exact ⟨_,_,_,_,_,_,_,rfl,fun V7 l7=>h'.le l7⟩
theorem sz_half:∀x:Fin 9,Sz 10 (mkRat (2 * ((x.1:Int) - 4) + 1) 2)∧Sz 10 (mkRat (3 * ((x.1:Int) - 4) + 1) 3):=by unfold Sz; decide +kernel
theorem c_Q {V:View} {tb:Nat} {p:OA} {n c:Nat} {at_:Int} (hr:Rdl V p n) (hn:n≤400) (hw:TpAt V tb p n c at_) (hx:V.X tb) (h0:0≤at_) :
    Acts prog 20 #[.pointer (some ⟨tb,0,none⟩)] V fun r V'=>∃(q:Rat) (at':Int),RQ V' r q∧Sz 10 q∧0≤at'∧TpAt V' tb p n c at':=by
  refine vc_scene_Tape_Q tb p n c at_ V _ hw hx fun V1 l1 bk1 e1 h1=>(c_Next (V:=V1.lend [bk1]) 9 (hr.le fun b o h=>l1 b o h) hn e1 ⟨by simp,h1⟩ h0 (by omega) (by omega)).mono ?_
  rintro r V2 l2 ⟨x,at1,rfl,x0,x1,t1,hw1⟩
  refine ⟨_,rfl,_,_,_,_,hw1,fun V3 l3 bk5 e3 h3=>(c_Next (V:=V3.lend [bk5]) 6 (hr.le fun b o h=>l3 b o (l2 b o (l1 b o h))) hn e3 ⟨by simp,h3⟩ t1 (by omega) (by omega)).mono ?_⟩
  rintro r V4 l4 ⟨y,at2,rfl,y0,y1,t2,hw2⟩
  obtain ⟨i,rfl⟩:∃i:Nat,x=i:=⟨x.toNat,by omega⟩
  obtain ⟨z1,z2⟩:=sz_half ⟨i,by omega⟩
  dsimp only at z1 z2
  have w1:i64.wrap ((i:Int) - 4)=(i:Int) - 4:=i64w (by omega)
  have w2:i64.wrap (i64.wrap (2 * ((i:Int) - 4)) + 1)=2 * ((i:Int) - 4) + 1:=by rw [i64w (x:=2 * ((i:Int) - 4)) (by omega),i64w (by omega)]
  have w3:i64.wrap (i64.wrap (3 * ((i:Int) - 4)) + 1)=3 * ((i:Int) - 4) + 1:=by rw [i64w (x:=3 * ((i:Int) - 4)) (by omega),i64w (by omega)]
  rw [w1,w2,w3]
  refine ⟨_,rfl,_,_,_,_,hw2,fun _ V5 l5=>(c_num_Part (2 * ((i:Int) - 4) + 1) 2 (by omega) (by omega) (by omega) (by omega)).mono ?_,fun _=>⟨fun _ V8 l8=>(c_num_Part (3 * ((i:Int) - 4) + 1) 3 (by omega) (by omega) (by omega) (by omega)).mono ?_,fun _ V11 l11=>(c_num_Of ((i:Int) - 4) (by omega) (by omega)).mono ?_⟩⟩
  · rintro r V6 l6 h
    have h':=h
    obtain ⟨_,_,_,_,_,_,rfl⟩:=h.shape
    exact ⟨_,_,_,_,_,_,_,rfl,fun V7 l7 e7=>⟨_,at2,h'.le l7,z1,t2,e7⟩⟩
  · rintro r V6 l6 h
    have h':=h
    obtain ⟨_,_,_,_,_,_,rfl⟩:=h.shape
    exact ⟨_,_,_,_,_,_,_,rfl,fun V7 l7 e7=>⟨_,at2,h'.le l7,z2,t2,e7⟩⟩
  · rintro r V6 l6 h
    have h':=h
    obtain ⟨_,_,_,_,_,_,rfl⟩:=h.shape
    exact ⟨_,_,_,_,_,_,_,rfl,fun V7 l7 e7=>⟨_,at2,h'.le l7,sz4 (by omega),t2,e7⟩⟩
theorem c_Point {V:View} {tb:Nat} {p:OA} {n c:Nat} {at_:Int} (hr:Rdl V p n) (hn:n≤400) (hw:TpAt V tb p n c at_) (hx:V.X tb) (h0:0≤at_) :
    Acts prog 8 #[.pointer (some ⟨tb,0,none⟩)] V fun r V'=>∃(x y:Rat) (at':Int),RP V' r x y∧Sz 10 x∧Sz 10 y∧0≤at'∧TpAt V' tb p n c at':=by
  refine vc_scene_Tape_Point tb p n c at_ V _ hw hx fun V1 l1 bk1 e1 h1=>(c_Q (V:=V1.lend [bk1]) (hr.le fun b o h=>l1 b o h) hn e1 ⟨by simp,h1⟩ h0).mono ?_
  rintro r V2 l2 ⟨x,at1,hq,sx,t1,hw1⟩
  obtain ⟨p1,n1,c1,p2,n2,c2,rfl,hq1,hq2⟩:=hq
  refine ⟨_,_,_,_,_,_,_,rfl,_,_,_,_,hw1,fun V3 l3 bk7 e3 h3=>(c_Q (V:=V3.lend [bk7]) (hr.le fun b o h=>l3 b o (l2 b o (l1 b o h))) hn e3 ⟨by simp,h3⟩ t1).mono ?_⟩
  rintro r V4 l4 ⟨y,at2,hq',sy,t2,hw2⟩
  obtain ⟨p3,n3,c3,p4,n4,c4,rfl,hq3,hq4⟩:=hq'
  have l25:∀{V5:View},V4.shut.Le V5→V2.Le V5:=fun l5 b o h=>l5 b o (l4 b o (l3 b o h))
  exact ⟨_,_,_,_,_,_,_,rfl,_,_,_,_,hw2,fun V5 l5 e5=>⟨x,y,at2,⟨_,_,_,_,_,_,_,_,_,_,_,_,rfl,⟨_,_,_,_,_,_,rfl,hq1.le (l25 l5),hq2.le (l25 l5)⟩,⟨_,_,_,_,_,_,rfl,hq3.le fun b o h=>l5 b o h,hq4.le fun b o h=>l5 b o h⟩⟩,sx,sy,t2,e5⟩⟩
end Go.Proofs.Tryz
