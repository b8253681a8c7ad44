/- A part of the proof (joined by program from: FracB, FracC, FracD, FracE). -/
import Derived.Test.YtimkdinmcbepnaaGreatDoorS8
set_option linter.unusedVariables false
open Go.IntKind (i64 u64 u32)
/- Contracts of package frac: Num, Den, words, Int, Whole, Neg, Sign. -/
namespace Go.Eng
open Go.Big
theorem RI.inv {V:View} {b:Bool} {p:OA} {n c:Nat} {z:Int} (h:RI V (.agg #[.bool b,.slice p n c]) z):b=decide (z < 0)/\RD V p n c (digs z.natAbs):=by
 obtain ⟨p1,n1,c1,e,hn⟩:=h
 simp at e
 obtain ⟨rfl,rfl,rfl,rfl⟩:=e
 exact ⟨rfl,hn⟩
end Go.Eng
namespace Go.Proofs.Tryz
open Go.Eng Go.Big
theorem c_R_Num {V:View} {v:Value} {q:Rat} (h:RR V v q) {k:Nat} (hs:Sz k q) (hk:k<=1099511627776) :
  Acts prog 138 #[v] V fun r V'=>RI V' r q.num:=by
 rcases h with ⟨rfl,hw⟩ | ⟨a,b,p,n,c,p',n',c',rfl,h1,h2,h3,h4,h5,hw⟩
 ·have:=hw.1
  refine vc_frac_R_Num _ _ _ V _ ⟨(fun h0=>nomatch h0),fun _ V1 l1=>(c_integer_FromInt _ (by omega) (by omega)).mono ?_⟩
  rintro r V2 l2 ⟨p,n,c,rfl,g⟩
  exact ⟨_,_,_,_,rfl,fun V3 l3=>⟨_,_,_,rfl,g.le l3⟩⟩
 ·obtain ⟨rfl,hn⟩:=h4.inv
  refine vc_frac_R_Num _ _ _ V _ ⟨fun _=>⟨rfl,rfl,decide (q.num < 0),p,n,c,a.add 0,rfl,?_,?_,fun V1 l1=>(c_integer_Norm _ (hn.le l1) (Nat.le_trans (digs_len_bits hs.1) hk)).mono ?_⟩,fun h0=>nomatch h0⟩
  ·exact h1
  ·simpa [Addr.add] using h2
  ·rintro r V2 l2 ⟨p,n,c,rfl,g⟩
   rw [ival_digs] at g ⊢
   exact ⟨_,_,_,_,rfl,fun V3 l3=>⟨_,_,_,rfl,g.le l3⟩⟩
theorem c_R_Den {V:View} {v:Value} {q:Rat} (h:RR V v q) {k:Nat} (hs:Sz k q) (hk:k<=1099511627776) :
  Acts prog 139 #[v] V fun r V'=>∃p n c,r=.slice p n c/\RN V' p n c q.den:=by
 rcases h with ⟨rfl,hw⟩ | ⟨a,b,p,n,c,p',n',c',rfl,h1,h2,h3,h4,h5,hw⟩
 ·have:=hw.2
  have hd:=q.den_nz
  refine vc_frac_R_Den _ _ _ V _ ⟨(fun h0=>nomatch h0),fun _ V1 l1=>?_⟩
  rw [i64w (by omega),u64w (by omega)]
  refine (c_nat_FromUint _ (by omega) (by omega)).mono ?_
  rintro r V2 l2 ⟨p,n,c,rfl,g⟩
  rw [show ((q.den:Int) - 1 + 1).toNat=q.den from by omega] at g
  exact ⟨_,_,_,rfl,fun V3 l3=>⟨_,_,_,rfl,g.le l3⟩⟩
 ·refine vc_frac_R_Den _ _ _ V _ ⟨fun _=>⟨rfl,rfl,_,_,_,⟨_,rfl,h3⟩,fun V1 l1=>(c_nat_Norm (h5.le l1) (Nat.le_trans (digs_len_bits hs.2) hk)).mono ?_⟩,fun h0=>nomatch h0⟩
  rintro r V2 l2 ⟨p,n,c,rfl,g⟩
  rw [val_digs] at g
  exact ⟨_,_,_,rfl,fun V3 l3=>⟨_,_,_,rfl,g.le l3⟩⟩
theorem c_frac_abs {V:View} (n:Int) (h0:-9223372036854775808 < n) (h1:n<=9223372036854775807) :
  Acts prog 182 #[.int .i64 n] V fun r V'=>r=.int .u64 (n.natAbs:Int):=by
 refine vc_frac_abs n V _ ⟨fun h2 V1 l1=>?_,fun h2 V1 l1=>?_⟩
 ·have h2:n < 0:=by simpa using h2
  rw [i64w (by omega),u64w (by omega)]; congr 1; omega
 ·have h2:0<=n:=by simpa using h2
  rw [u64w (by omega)]; congr 1; omega
theorem c_frac_gcd {V:View} (x y:Nat) (hx:x < 18446744073709551616) (hy:y < 18446744073709551616) :
  Acts prog 183 #[.int .u64 (x:Int),.int .u64 (y:Int)] V fun r V'=>r=.int .u64 (Nat.gcd x y:Int):=by
 refine vc_frac_gcd _ _ V _ ⟨fun z V'=>∃a b:Nat,z=((a:Int),(b:Int))/\Nat.gcd a b=Nat.gcd x y,fun z=>z.2.toNat,
  ⟨((x:Int),(y:Int)),by (try dsimp only); and_intros <;> trivial,x,y,rfl,rfl⟩,?_⟩
 rintro _ V16 l16 ⟨a,b,rfl,hab⟩
 dsimp only
 refine ⟨by trivial,fun h3=>?_,fun h3 V17 l17=>?_⟩
 ·have h3:b≠0:=by rw [bne_iff_ne] at h3; omega
  have hlt:a % b < b:=Nat.mod_lt _ (by omega)
  have e4:(a:Int).tmod (b:Int)=((a % b:Nat):Int):=by rw [Int.tmod_eq_emod_of_nonneg (by omega),← Int.natCast_emod]
  rw [e4]
  exact ⟨by omega,((b:Int),((a % b:Nat):Int)),by (try dsimp only); rw [Int.toNat_natCast,Int.toNat_natCast]; exact hlt,by (try dsimp only); and_intros <;> trivial,b,a % b,rfl,by rw [gcd_step,hab]⟩
 ·have h3:b=0:=by rw [bne_eq_false_iff_eq] at h3; omega
  subst h3
  rw [Nat.gcd_zero_right] at hab
  rw [hab]
theorem c_frac_times {V:View} (a b:Int) (ha:a.natAbs < 4611686018427387904) (hb:b.natAbs < 4611686018427387904) :
  Acts prog 134 #[.int .i64 a,.int .i64 b] V fun r V'=>∃z:Int,r=.tuple #[.int .i64 z,.bool (decide ((a * b).natAbs < 4611686018427387904))]/\((a * b).natAbs < 4611686018427387904->z=a * b):=by
 refine vc_frac_times a b V _ fun V1 l1=>(c_frac_abs a (by omega) (by omega)).mono ?_
 rintro r V2 l2 rfl
 refine ⟨_,rfl,fun V3 l3=>(c_frac_abs b (by omega) (by omega)).mono ?_⟩
 rintro r V4 l4 rfl
 refine ⟨_,rfl,fun V5 l5=>(c_Mul64 _ _ (by omega) (by omega)).mono ?_⟩
 rintro r V6 l6 rfl
 have hab:(a * b).natAbs=a.natAbs * b.natAbs:=Int.natAbs_mul a b
 have hsg:a * b=if (decide (a < 0) == decide (b < 0)) then ((a.natAbs * b.natAbs:Nat):Int) else -((a.natAbs * b.natAbs:Nat):Int):=by
  rw [Int.natCast_mul]
  by_cases h1:a < 0 <;> by_cases h2:b < 0
  ·rw [decide_eq_true h1,decide_eq_true h2,show (a.natAbs:Int)=-a from by omega,show (b.natAbs:Int)=-b from by omega]; simp [Int.neg_mul,Int.mul_neg]
  ·rw [decide_eq_true h1,decide_eq_false h2,if_neg (by decide),show (a.natAbs:Int)=-a from by omega,show (b.natAbs:Int)=b from by omega]; simp [Int.neg_mul]
  ·rw [decide_eq_false h1,decide_eq_true h2,if_neg (by decide),show (a.natAbs:Int)=a from by omega,show (b.natAbs:Int)=-b from by omega]; simp [Int.mul_neg]
  ·rw [decide_eq_false h1,decide_eq_false h2,show (a.natAbs:Int)=a from by omega,show (b.natAbs:Int)=b from by omega]; simp
 rw [hab]
 generalize a.natAbs * b.natAbs=p at *
 refine ⟨_,_,rfl,fun h0 V7 l7=>?_,fun h0=>⟨fun h1 V7 l7=>?_,fun h1=>⟨fun h2 V7 l7=>?_,fun h2 V7 l7=>?_⟩⟩⟩
 ·have h0:18446744073709551616<=p:=by rw [bne_iff_ne] at h0; omega
  rw [decide_eq_false (by omega)]
  exact ⟨_,rfl,fun h=>by omega⟩
 ·have h1:4611686018427387904<=p:=by
   rw [decide_eq_true_eq] at h1; omega
  rw [decide_eq_false (by omega)]
  exact ⟨_,rfl,fun h=>by omega⟩
 ·have h0:p / 18446744073709551616=0:=by rw [bne_eq_false_iff_eq] at h0; omega
  have h1:p < 4611686018427387904:=by rw [decide_eq_false_iff_not] at h1; omega
  rw [decide_eq_true h1,i64w (x:=((p % 18446744073709551616:Nat):Int)) (by omega),i64w (by omega)]
  refine ⟨_,rfl,fun _=>?_⟩
  have h2:(decide (a < 0) == decide (b < 0))=false:=by simpa using h2
  rw [hsg,h2,if_neg (by decide)]; omega
 ·have h0:p / 18446744073709551616=0:=by rw [bne_eq_false_iff_eq] at h0; omega
  have h1:p < 4611686018427387904:=by rw [decide_eq_false_iff_not] at h1; omega
  rw [decide_eq_true h1,i64w (x:=((p % 18446744073709551616:Nat):Int)) (by omega)]
  refine ⟨_,rfl,fun _=>?_⟩
  have h2:(decide (a < 0) == decide (b < 0))=true:=by simpa using h2
  rw [hsg,h2,if_pos rfl]; omega
theorem c_frac_lowest {V:View} (n:Int) (d:Nat) (hn:n.natAbs < 4611686018427387904) (hd:d < 4611686018427387904) (hd0:d≠0) :
  Acts prog 135 #[.int .i64 n,.int .i64 (d:Int)] V fun r V'=>RR V' r (mkRat n d):=by
 refine vc_frac_lowest n _ V _ fun V1 l1=>(c_frac_abs n (by omega) (by omega)).mono ?_
 rintro r V2 l2 rfl
 rw [u64w (x:=(d:Int)) (by omega)]
 refine ⟨_,rfl,fun V3 l3=>(c_frac_gcd _ _ (by omega) (by omega)).mono ?_⟩
 rintro r V4 l4 rfl
 have hgl:Nat.gcd n.natAbs d<=d:=Nat.le_of_dvd (by omega) (Nat.gcd_dvd_right _ _)
 have hgp:0 < Nat.gcd n.natAbs d:=Nat.gcd_pos_of_pos_right _ (by omega)
 have hnum:=Rat.num_mkRat n d
 have hden:=Rat.den_mkRat n d
 rw [if_neg hd0,Nat.gcd_comm] at hnum hden
 have hdvd:(Nat.gcd n.natAbs d:Int) ∣ n:=Int.ofNat_dvd_left.2 (Nat.gcd_dvd_left _ _)
 have hdl:d / Nat.gcd n.natAbs d<=d:=Nat.div_le_self _ _
 have hnl:(n / (Nat.gcd n.natAbs d:Int)).natAbs<=n.natAbs:=by
  rw [Int.natAbs_ediv_of_dvd hdvd,Int.natAbs_natCast]; exact Nat.div_le_self _ _
 have hW:Wd (mkRat n d):=by unfold Wd; rw [hnum,hden]; omega
 refine ⟨_,rfl,?_⟩
 rw [i64w (x:=((Nat.gcd n.natAbs d:Nat):Int)) (by omega)]
 refine ⟨fun h0=>⟨by omega,by omega,fun V5 l5=>.inl ⟨?_,hW⟩⟩,fun h0 V5 l5=>.inl ⟨?_,hW⟩⟩
 ·rw [hnum,hden]
  have e1:n.tdiv (Nat.gcd n.natAbs d:Int)=n / (Nat.gcd n.natAbs d:Int):=Int.tdiv_eq_ediv_of_dvd hdvd
  have e2:(d:Int).tdiv (Nat.gcd n.natAbs d:Int)=((d / Nat.gcd n.natAbs d:Nat):Int):=by rw [Int.tdiv_eq_ediv_of_nonneg (by omega),← Int.natCast_ediv]
  rw [e1,e2]
  generalize n / (Nat.gcd n.natAbs d:Int)=nn at *
  generalize d / Nat.gcd n.natAbs d=dd at *
  rw [i64w (by omega),i64w (x:=(dd:Int)) (by omega),i64w (by omega)]
 ·have h0:Nat.gcd n.natAbs d=1:=by rw [decide_eq_false_iff_not] at h0; omega
  rw [hnum,hden,h0,i64w (by omega)]
  simp
end Go.Proofs.Tryz
/- Contracts of package frac: Int, Whole, Neg, Sign, Add, Cmp, Gcd. -/
namespace Go.Proofs.Tryz
open Go.Eng Go.Big
theorem mkRat_one (z:Int):mkRat z 1=(z:Rat):=by
 apply Rat.ext
 ·rw [Rat.num_mkRat]; simp
 ·rw [Rat.den_mkRat]; simp
theorem RD.one {V:View} {bk:Nat} {ty:TypeId} {m:Nat × Nat} (h:V.blk bk (.cells #[.int .u32 1] ty m)):RD V (some ⟨bk,0,none⟩) 1 1 [1]:=
 RD.blk (ds:=[1]) h (by simp [Dig]) rfl (Nat.le_refl _)
theorem intCast_wd {z:Int} (h:z.natAbs < 4611686018427387904):Wd (z:Rat):=⟨h,by show (1:Nat) < _; decide⟩
theorem c_frac_Int {V:View} (n:Int) (h0:-9223372036854775808<=n) (h1:n<=9223372036854775807) :
  Acts prog 133 #[.int .i64 n] V fun r V'=>RR V' r (n:Rat):=by
 have big:∀V1:View,V.Le V1->Acts prog 180 #[.int .i64 n] V1 fun r1_ V2=>∃b1_:Bool,∃(p2_:OA) (n2_ c2_:Nat),r1_=.agg #[.bool b1_,.slice p2_ n2_ c2_]/\(∀V3:View,V2.Le V3->∀bk3_:Nat,V3.blk bk3_ (.cells #[.int .u32 1] 221 (0,0))->Acts prog 140 #[.agg #[.bool b1_,.slice p2_ n2_ c2_],.slice (some ⟨bk3_,0,none⟩) 1 1] V3 fun r3_ V4=>∃x4_:Int,∃x5_:Int,∃p6_:OA,r3_=.agg #[.int .i64 x4_,.int .i64 x5_,.pointer p6_]/\∀J7_:C->Value,(∀V5:View,V4.Le V5->RR V5 (.agg #[.int .i64 x4_,.int .i64 x5_,.pointer p6_]) (n:Rat))):=by
  intro V1 l1
  refine (c_integer_FromInt n h0 h1).mono ?_
  rintro r V2 l2 ⟨p,m,c,rfl,g⟩
  refine ⟨_,_,_,_,rfl,fun V3 l3 bk hb=>(c_frac_reduce _ (g.le l3) (RD.one hb) (Nat.le_trans (digs_len_bits (k:=64) (by omega)) (by omega)) (by simp)).mono ?_⟩
  rintro r V4 l4 hr
  have e:mkRat (ival (decide (n < 0)) (digs n.natAbs)) (val [1])=(n:Rat):=by rw [ival_digs]; exact mkRat_one _
  rw [e] at hr
  obtain ⟨n,d,p,rfl⟩:=hr.shape
  exact ⟨_,_,_,rfl,fun _ V3 l3=>hr.le l3⟩
 refine vc_frac_Int n V _ ⟨fun _=>big,fun h2=>⟨fun _=>big,fun h3 V1 l1=>.inl ⟨rfl,intCast_wd ?_⟩⟩⟩
 rw [decide_eq_false_iff_not] at h2 h3
 omega
theorem c_R_Sign {V:View} {v:Value} {q:Rat} (h:RR V v q) {k:Nat} (hs:Sz k q) (hk:k<=1099511627776) :
  Acts prog 179 #[v] V fun r V'=>r=.int .i64 q.num.sign:=by
 rcases h with ⟨rfl,hw⟩ | ⟨a,b,p,n,c,p',n',c',rfl,h1,h2,h3,h4,h5,hw⟩
 ·refine vc_frac_R_Sign _ _ _ V _ ⟨(fun h0=>nomatch h0),fun _=>⟨fun h V1 l1=>?_,fun h=>⟨fun h' V1 l1=>?_,fun h' V1 l1=>?_⟩⟩⟩
  ·rw [Int.sign_eq_neg_one_of_neg (by simpa using h)]
  ·rw [Int.sign_eq_one_of_pos (by simpa using h')]
  ·have:q.num=0:=by rw [decide_eq_false_iff_not] at h h'; omega
   rw [this]; rfl
 ·obtain ⟨rfl,hn⟩:=h4.inv
  refine vc_frac_R_Sign _ _ _ V _ ⟨fun _=>⟨rfl,rfl,decide (q.num < 0),p,n,c,a.add 0,rfl,?_,?_,fun V1 l1=>(c_integer_Sign _ (hn.le l1) (Nat.le_trans (digs_len_bits hs.1) hk)).mono ?_⟩,(fun h0=>nomatch h0)⟩
  ·exact h1
  ·simpa [Addr.add] using h2
  ·rintro r V2 l2 rfl
   rw [ival_digs]
   exact ⟨_,rfl,fun V3 l3=>rfl⟩
theorem c_R_Neg {V:View} {v:Value} {q:Rat} (h:RR V v q) {k:Nat} (hs:Sz k q) (hk:k<=1099511627776) :
  Acts prog 142 #[v] V fun r V'=>RR V' r (-q):=by
 rcases h with ⟨rfl,hw⟩ | ⟨a,b,p,n,c,p',n',c',rfl,h1,h2,h3,h4,h5,hw⟩
 ·have:=hw.1
  refine vc_frac_R_Neg _ _ _ V _ ⟨(fun h0=>nomatch h0),fun _ V1 l1=>.inl ⟨?_,by unfold Wd; rw [Rat.neg_num,Rat.neg_den,Int.natAbs_neg]; exact hw⟩⟩
  rw [i64w (by omega),Rat.neg_num,Rat.neg_den,Int.zero_sub]
 ·obtain ⟨rfl,hn⟩:=h4.inv
  refine vc_frac_R_Neg _ _ _ V _ ⟨fun _=>⟨rfl,rfl,decide (q.num < 0),p,n,c,a.add 0,rfl,?_,?_,rfl,rfl,p',n',c',⟨_,rfl,h3⟩,fun V1 l1=>(c_integer_Neg _ (hn.le l1) (Nat.le_trans (digs_len_bits hs.1) hk)).mono ?_⟩,(fun h0=>nomatch h0)⟩
  ·exact h1
  ·simpa [Addr.add] using h2
  ·rintro r V2 l2 hri
   rw [ival_digs] at hri
   obtain ⟨p2,n2,c2,rfl,g⟩:=hri
   refine ⟨_,_,_,_,rfl,fun V3 l3 bk hb=>.inr ⟨⟨bk,0,none⟩,decide (-q.num < 0),p2,n2,c2,p',n',c',rfl,?_,?_,?_,?_,?_,?_⟩⟩
   ·rw [add_zero']; exact blk_at (xs:=[_,_,_]) hb rfl
   ·rw [add_zero']; exact blk_at (xs:=[_,_,_]) hb rfl
   ·rw [add_zero']; exact blk_at (xs:=[_,_,_]) hb rfl
   ·exact ⟨_,_,_,rfl,g.le l3⟩
   ·exact h5.le (l1.trans (l2.trans l3))
   ·unfold Wd; rw [Rat.neg_num,Rat.neg_den,Int.natAbs_neg]; exact hw
theorem _root_.Go.Eng.Sz.neg {k:Nat} {q:Rat} (h:Sz k q):Sz k (-q):=by unfold Sz; rw [Rat.neg_num,Rat.neg_den,Int.natAbs_neg]; exact h
theorem natAbs_ediv_le (z:Int) (g:Nat) (h:(g:Int) ∣ z):(z / g).natAbs<=z.natAbs:=by
 rw [Int.natAbs_ediv_of_dvd h,Int.natAbs_natCast]; exact Nat.div_le_self _ _
theorem _root_.Go.Eng.Sz.mkRat {k:Nat} {z:Int} {d:Nat} (h1:z.natAbs < 2 ^ k) (h2:d < 2 ^ k) (hk:0 < k):Sz k (mkRat z d):=by
 have h3:1 < 2 ^ k:=Nat.one_lt_two_pow (by omega)
 unfold Sz
 rw [Rat.num_mkRat,Rat.den_mkRat]
 split
 ·exact ⟨Nat.two_pow_pos k,h3⟩
 ·refine ⟨Nat.lt_of_le_of_lt (natAbs_ediv_le _ _ (Int.ofNat_dvd_left.2 (Nat.gcd_dvd_right _ _))) h1,Nat.lt_of_le_of_lt (Nat.div_le_self _ _) h2⟩
theorem pow_mul_lt {a b k m:Nat} (h1:a < 2 ^ k) (h2:b < 2 ^ m):a * b < 2 ^ (k + m):=by rw [Nat.pow_add]; exact Nat.mul_lt_mul'' h1 h2
theorem add_bits {x y:Rat} {k m:Nat} (hx:Sz k x) (hy:Sz m y):(x.num * y.den).natAbs < 2 ^ (k + m)/\(y.num * x.den).natAbs < 2 ^ (k + m)/\(x.num * y.den + y.num * x.den).natAbs < 2 ^ (k + m + 1)/\x.den * y.den < 2 ^ (k + m):=by
 have h1:(x.num * y.den).natAbs < 2 ^ (k + m):=by rw [Int.natAbs_mul,Int.natAbs_natCast]; exact pow_mul_lt hx.1 hy.2
 have h2:(y.num * x.den).natAbs < 2 ^ (k + m):=by rw [Int.natAbs_mul,Int.natAbs_natCast,Nat.add_comm]; exact pow_mul_lt hy.1 hx.2
 refine ⟨h1,h2,?_,pow_mul_lt hx.2 hy.2⟩
 rw [Nat.pow_succ]; omega
theorem _root_.Go.Eng.Sz.add {x y:Rat} {k m:Nat} (hx:Sz k x) (hy:Sz m y):Sz (k + m + 1) (x + y):=by
 obtain ⟨-,-,h3,h4⟩:=add_bits hx hy
 rw [Rat.add_def']
 exact Go.Eng.Sz.mkRat h3 (Nat.lt_of_lt_of_le h4 (Nat.pow_le_pow_right (by omega) (by omega))) (by omega)
theorem _root_.Go.Eng.Sz.sub {x y:Rat} {k m:Nat} (hx:Sz k x) (hy:Sz m y):Sz (k + m + 1) (x - y):=by
 rw [Rat.sub_eq_add_neg]; exact hx.add hy.neg
theorem _root_.Go.Eng.Sz.mul {x y:Rat} {k m:Nat} (hx:Sz k x) (hy:Sz m y):Sz (k + m + 1) (x * y):=by
 rw [Rat.mul_def']
 refine (Go.Eng.Sz.mkRat (k:=k + m + 1) ?_ ?_ (by omega))
 ·rw [Int.natAbs_mul]; exact Nat.lt_of_lt_of_le (pow_mul_lt hx.1 hy.1) (Nat.pow_le_pow_right (by omega) (by omega))
 ·exact Nat.lt_of_lt_of_le (pow_mul_lt hx.2 hy.2) (Nat.pow_le_pow_right (by omega) (by omega))
theorem c_R_Add {V:View} {v w:Value} {x y:Rat} (hx:RR V v x) (hy:RR V w y) {k m:Nat} (hk:Sz k x) (hm:Sz m y) (hkm:k + m < 1099511627776) :
  Acts prog 74 #[v,w] V fun r V'=>RR V' r (x + y):=by
 obtain ⟨r0,r1,r2,rfl⟩:=hx.shape
 obtain ⟨s0,s1,s2,rfl⟩:=hy.shape
 have hxy:x + y=mkRat (x.num * y.den + y.num * x.den) (x.den * y.den):=Rat.add_def' x y
 obtain ⟨b1,b2,b3,b4⟩:=add_bits hk hm
 have gen:(∀V46:View,V.Le V46->Acts prog 138 #[.agg #[.int .i64 r0,.int .i64 r1,.pointer r2]] V46 fun r46_ V47=>∃b53_:Bool,∃(p54_:OA) (n54_ c54_:Nat),r46_=.agg #[.bool b53_,.slice p54_ n54_ c54_]/\(∀V48:View,V47.Le V48->Acts prog 139 #[.agg #[.int .i64 s0,.int .i64 s1,.pointer s2]] V48 fun r48_ V49=>∃(p55_:OA) (n55_ c55_:Nat),r48_=.slice p55_ n55_ c55_/\(∀V50:View,V49.Le V50->Acts prog 137 #[.agg #[.bool b53_,.slice p54_ n54_ c54_],.agg #[.bool false,.slice p55_ n55_ c55_]] V50 fun r50_ V51=>∃b56_:Bool,∃(p57_:OA) (n57_ c57_:Nat),r50_=.agg #[.bool b56_,.slice p57_ n57_ c57_]/\(∀V52:View,V51.Le V52->Acts prog 138 #[.agg #[.int .i64 s0,.int .i64 s1,.pointer s2]] V52 fun r52_ V53=>∃b58_:Bool,∃(p59_:OA) (n59_ c59_:Nat),r52_=.agg #[.bool b58_,.slice p59_ n59_ c59_]/\(∀V54:View,V53.Le V54->Acts prog 139 #[.agg #[.int .i64 r0,.int .i64 r1,.pointer r2]] V54 fun r54_ V55=>∃(p60_:OA) (n60_ c60_:Nat),r54_=.slice p60_ n60_ c60_/\(∀V56:View,V55.Le V56->Acts prog 137 #[.agg #[.bool b58_,.slice p59_ n59_ c59_],.agg #[.bool false,.slice p60_ n60_ c60_]] V56 fun r56_ V57=>∃b61_:Bool,∃(p62_:OA) (n62_ c62_:Nat),r56_=.agg #[.bool b61_,.slice p62_ n62_ c62_]/\(∀V58:View,V57.Le V58->Acts prog 136 #[.agg #[.bool b56_,.slice p57_ n57_ c57_],.agg #[.bool b61_,.slice p62_ n62_ c62_]] V58 fun r58_ V59=>∃b63_:Bool,∃(p64_:OA) (n64_ c64_:Nat),r58_=.agg #[.bool b63_,.slice p64_ n64_ c64_]/\(∀V60:View,V59.Le V60->Acts prog 139 #[.agg #[.int .i64 r0,.int .i64 r1,.pointer r2]] V60 fun r60_ V61=>∃(p65_:OA) (n65_ c65_:Nat),r60_=.slice p65_ n65_ c65_/\(∀V62:View,V61.Le V62->Acts prog 139 #[.agg #[.int .i64 s0,.int .i64 s1,.pointer s2]] V62 fun r62_ V63=>∃(p66_:OA) (n66_ c66_:Nat),r62_=.slice p66_ n66_ c66_/\(∀V64:View,V63.Le V64->Acts prog 141 #[.slice p65_ n65_ c65_,.slice p66_ n66_ c66_] V64 fun r64_ V65=>∃(p67_:OA) (n67_ c67_:Nat),r64_=.slice p67_ n67_ c67_/\(∀V66:View,V65.Le V66->Acts prog 140 #[.agg #[.bool b63_,.slice p64_ n64_ c64_],.slice p67_ n67_ c67_] V66 fun r66_ V67=>∃x68_:Int,∃x69_:Int,∃p70_:OA,r66_=.agg #[.int .i64 x68_,.int .i64 x69_,.pointer p70_]/\(∀V68:View,V67.Le V68->RR V68 (.agg #[.int .i64 x68_,.int .i64 x69_,.pointer p70_]) (x + y))))))))))))):=by
  intro V1 l1
  refine (c_R_Num (hx.le l1) hk (by omega)).mono ?_
  rintro r V2 l2 ⟨p1,n1,c1,rfl,g1⟩
  refine ⟨_,_,_,_,rfl,fun V3 l3=>(c_R_Den (hy.le (l1.trans (l2.trans l3))) hm (by omega)).mono ?_⟩
  rintro r V4 l4 ⟨p2,n2,c2,rfl,g2⟩
  have q1:=digs_len_bits hk.1
  have q2:=digs_len_bits hk.2
  have q3:=digs_len_bits hm.1
  have q4:=digs_len_bits hm.2
  refine ⟨_,_,_,rfl,fun V5 l5=>(c_integer_Mul _ false (g1.le (l3.trans (l4.trans l5))) (g2.le l5) (by omega)).mono ?_⟩
  rintro r V6 l6 h6
  rw [ival_digs,ival_false,val_digs] at h6
  obtain ⟨p3,n3,c3,rfl,g3⟩:=h6
  refine ⟨_,_,_,_,rfl,fun V7 l7=>(c_R_Num (hy.le (l1.trans (l2.trans (l3.trans (l4.trans (l5.trans (l6.trans l7))))))) hm (by omega)).mono ?_⟩
  rintro r V8 l8 ⟨p4,n4,c4,rfl,g4⟩
  refine ⟨_,_,_,_,rfl,fun V9 l9=>(c_R_Den (hx.le (l1.trans (l2.trans (l3.trans (l4.trans (l5.trans (l6.trans (l7.trans (l8.trans l9))))))))) hk (by omega)).mono ?_⟩
  rintro r V10 l10 ⟨p5,n5,c5,rfl,g5⟩
  refine ⟨_,_,_,rfl,fun V11 l11=>(c_integer_Mul _ false (g4.le (l9.trans (l10.trans l11))) (g5.le l11) (by omega)).mono ?_⟩
  rintro r V12 l12 h12
  rw [ival_digs,ival_false,val_digs] at h12
  obtain ⟨p6,n6,c6,rfl,g6⟩:=h12
  have q5:=digs_len_bits b1
  have q6:=digs_len_bits b2
  refine ⟨_,_,_,_,rfl,fun V13 l13=>(c_integer_Add _ _ (g3.le (l7.trans (l8.trans (l9.trans (l10.trans (l11.trans (l12.trans l13))))))) (g6.le l13) (by omega) (by omega)).mono ?_⟩
  rintro r V14 l14 h14
  rw [ival_digs,ival_digs] at h14
  obtain ⟨p7,n7,c7,rfl,g7⟩:=h14
  have L14:=l1.trans (l2.trans (l3.trans (l4.trans (l5.trans (l6.trans (l7.trans (l8.trans (l9.trans (l10.trans (l11.trans (l12.trans (l13.trans l14))))))))))))
  refine ⟨_,_,_,_,rfl,fun V15 l15=>(c_R_Den (hx.le (L14.trans l15)) hk (by omega)).mono ?_⟩
  rintro r V16 l16 ⟨p8,n8,c8,rfl,g8⟩
  refine ⟨_,_,_,rfl,fun V17 l17=>(c_R_Den (hy.le (L14.trans (l15.trans (l16.trans l17)))) hm (by omega)).mono ?_⟩
  rintro r V18 l18 ⟨p9,n9,c9,rfl,g9⟩
  refine ⟨_,_,_,rfl,fun V19 l19=>(c_nat_Mul (g8.le (l17.trans (l18.trans l19))) (g9.le l19) (by omega)).mono ?_⟩
  rintro r V20 l20 ⟨p10,n10,c10,rfl,g10⟩
  rw [val_digs,val_digs] at g10
  have q7:=digs_len_bits b3
  have q8:=digs_len_bits b4
  refine ⟨_,_,_,rfl,fun V21 l21=>(c_frac_reduce _ (g7.le (l15.trans (l16.trans (l17.trans (l18.trans (l19.trans (l20.trans l21))))))) (g10.le l21) (by omega) (by omega)).mono ?_⟩
  rintro r V22 l22 h22
  rw [ival_digs,val_digs,← hxy] at h22
  obtain ⟨n,d,p,rfl⟩:=h22.shape
  exact ⟨_,_,_,rfl,fun V23 l23=>h22.le l23⟩
 have lift:∀V1:View,V.Le V1->∀V2:View,V1.Le V2->V.Le V2:=fun _ h _ h'=>h.trans h'
 rcases hx with ⟨ex,wx⟩ | ⟨a,b,p,n,c,p',n',c',ex,-,-,-,-,-,wx⟩
 ·rcases hy with ⟨ey,wy⟩ | ⟨a,b,p,n,c,p',n',c',ey,-,-,-,-,-,wy⟩
  ·simp only [Value.agg.injEq,Array.mk.injEq,List.cons.injEq,Value.int.injEq,Value.pointer.injEq,true_and,and_true] at ex ey
   obtain ⟨rfl,rfl,rfl⟩:=ex
   obtain ⟨rfl,rfl,rfl⟩:=ey
   obtain ⟨wx1,wx2⟩:=wx
   obtain ⟨wy1,wy2⟩:=wy
   have dx:=x.den_nz
   have dy:=y.den_nz
   have e1:i64.wrap ((x.den:Int) - 1 + 1)=x.den:=by rw [i64w (by omega)]; omega
   have e2:i64.wrap ((y.den:Int) - 1 + 1)=y.den:=by rw [i64w (by omega)]; omega
   refine vc_frac_R_Add _ _ _ _ _ _ V _ ⟨fun _=>⟨fun _ _=>True,⟨fun _=>⟨fun h1=>⟨fun h2 V1 l1=>?_,fun h2=>?_⟩,fun h1=>?_⟩,(fun h=>nomatch h)⟩,fun _ V1 l1 _=>⟨by trivial,fun V2 l2=>gen V2 (l1.trans l2)⟩⟩,(fun h=>nomatch h)⟩
   ·have h1:x.den=1:=by rw [beq_iff_eq] at h1; omega
    have h2:y.den=1:=by rw [beq_iff_eq] at h2; omega
    rw [i64w (by omega)]
    refine (c_frac_Int _ (by omega) (by omega)).mono ?_
    rintro r V2 l2 hr
    have e:((x.num + y.num:Int):Rat)=x + y:=by
     rw [hxy,h1,h2]
     simp only [Nat.mul_one,Int.natCast_one,Int.mul_one]
     exact (mkRat_one _).symm
    rw [e] at hr
    obtain ⟨n,d,p,rfl⟩:=hr.shape
    exact ⟨_,_,_,rfl,fun V3 l3=>hr.le l3⟩
   all_goals
    rw [e1,e2]
    refine fun V4 l4=>(c_frac_times _ _ wx1 (by omega)).mono ?_
    rintro r V5 l5 ⟨z1,rfl,hz1⟩
    refine ⟨_,_,rfl,fun V6 l6=>(c_frac_times _ _ wy1 (by omega)).mono ?_⟩
    rintro r V7 l7 ⟨z2,rfl,hz2⟩
    refine ⟨_,_,rfl,fun V8 l8=>(c_frac_times _ _ (by omega) (by omega)).mono ?_⟩
    rintro r V9 l9 ⟨z3,rfl,hz3⟩
    refine ⟨_,_,rfl,fun g1=>⟨fun g2=>⟨fun g3=>⟨fun g4=>⟨fun g5 V10 l10=>?_,fun _=>⟨(),by and_intros <;> rfl,trivial⟩⟩,fun _=>⟨(),by and_intros <;> rfl,trivial⟩⟩,fun _=>⟨(),by and_intros <;> rfl,trivial⟩⟩,fun _=>⟨(),by and_intros <;> rfl,trivial⟩⟩,fun _=>⟨(),by and_intros <;> rfl,trivial⟩⟩
    rw [decide_eq_true_eq] at g1 g2 g3 g4 g5
    have k1:=hz1 g1
    have k2:=hz2 g2
    have k3:=hz3 g3
    rw [← k1] at g1
    rw [← k2] at g2
    rw [← Int.natCast_mul,Int.natAbs_natCast] at g3
    rw [← Int.natCast_mul] at k3
    rw [i64w (by omega)] at g4 g5 ⊢
    rw [k3]
    refine (c_frac_lowest _ _ (by omega) g3 (Nat.mul_ne_zero dx dy)).mono ?_
    rintro r V11 l11 hr
    rw [k1,k2,← hxy] at hr
    obtain ⟨n,d,p,rfl⟩:=hr.shape
    exact ⟨_,_,_,rfl,fun V3 l3=>hr.le l3⟩
  ·simp only [Value.agg.injEq,Array.mk.injEq,List.cons.injEq,Value.int.injEq,Value.pointer.injEq,true_and,and_true] at ex ey
   obtain ⟨rfl,rfl,rfl⟩:=ex
   obtain ⟨rfl,rfl,rfl⟩:=ey
   exact vc_frac_R_Add _ _ _ _ _ _ V _ ⟨fun _=>⟨fun _ _=>True,⟨(fun h=>nomatch h),fun _=>⟨(),by and_intros <;> rfl,trivial⟩⟩,fun _ V1 l1 _=>⟨by trivial,fun V2 l2=>gen V2 (l1.trans l2)⟩⟩,(fun h=>nomatch h)⟩
 ·simp only [Value.agg.injEq,Array.mk.injEq,List.cons.injEq,Value.int.injEq,Value.pointer.injEq,true_and,and_true] at ex
  obtain ⟨rfl,rfl,rfl⟩:=ex
  exact vc_frac_R_Add _ _ _ _ _ _ V _ ⟨(fun h=>nomatch h),fun _=>gen⟩
end Go.Proofs.Tryz
/- Contracts of package frac: Sub, Cmp, Equal, Gcd. -/
namespace Go.Big
/-- The order of two numbers. -/
def cmpQ (x y:Rat):Int:=(x - y).num.sign
/-- The greatest number of which both are integer multiples. -/
def gcdQ (x y:Rat):Rat:=mkRat (Nat.gcd (x.num.natAbs * y.den) (y.num.natAbs * x.den):Nat) (x.den * y.den)
theorem num_neg' {q:Rat}:q.num < 0↔q < 0:=by
 have:=@Rat.num_nonneg q
 rw [← Rat.not_le,← this]; omega
theorem num_pos' {q:Rat}:0 < q.num↔0 < q:=by
 have h1:=@Rat.num_nonneg q
 have h2:=@Rat.num_eq_zero q
 rw [Rat.lt_iff_le_and_ne,← h1]
 constructor
 ·intro h; exact ⟨by omega,fun e=>by rw [← e] at h; simp at h⟩
 ·rintro ⟨h,hne⟩
  have:q.num≠0:=fun e=>hne (h2.1 e).symm
  omega
theorem cmpQ_lt {x y:Rat}:x < y↔cmpQ x y=-1:=by
 unfold cmpQ
 rw [Int.sign_eq_neg_one_iff_neg,num_neg',Rat.lt_iff_sub_pos x y,← Rat.neg_sub y x]
 constructor
 ·intro h; have:=Rat.neg_lt_neg h; simpa using this
 ·intro h; have:=Rat.neg_lt_neg h; rw [Rat.neg_neg] at this; simpa using this
theorem cmpQ_gt {x y:Rat}:y < x↔cmpQ x y=1:=by
 unfold cmpQ
 rw [Int.sign_eq_one_iff_pos,num_pos',Rat.lt_iff_sub_pos y x]
theorem cmpQ_eq {x y:Rat}:x=y↔cmpQ x y=0:=by
 unfold cmpQ
 rw [Int.sign_eq_zero_iff_zero,Rat.num_eq_zero]
 constructor
 ·intro h; subst h; exact Rat.sub_self
 ·intro h
  have:=congrArg (· + y) h
  simpa [Rat.sub_add_cancel,Rat.zero_add] using this
end Go.Big
namespace Go.Proofs.Tryz
open Go.Eng Go.Big
theorem c_R_Sub {V:View} {v w:Value} {x y:Rat} (hx:RR V v x) (hy:RR V w y) {k m:Nat} (hk:Sz k x) (hm:Sz m y) (hkm:k + m < 1099511627776) :
  Acts prog 75 #[v,w] V fun r V'=>RR V' r (x - y):=by
 obtain ⟨r0,r1,r2,rfl⟩:=hx.shape
 obtain ⟨s0,s1,s2,rfl⟩:=hy.shape
 refine vc_frac_R_Sub _ _ _ _ _ _ V _ fun V1 l1=>(c_R_Neg (hy.le l1) hm (by omega)).mono ?_
 rintro r V2 l2 h2
 obtain ⟨n,d,p,rfl⟩:=h2.shape
 refine ⟨_,_,_,rfl,fun V3 l3=>(c_R_Add (hx.le (l1.trans (l2.trans l3))) (h2.le l3) hk hm.neg hkm).mono ?_⟩
 rintro r V4 l4 h4
 rw [← Rat.sub_eq_add_neg] at h4
 obtain ⟨n,d,p,rfl⟩:=h4.shape
 exact ⟨_,_,_,rfl,fun V5 l5=>h4.le l5⟩
theorem c_R_Cmp {V:View} {v w:Value} {x y:Rat} (hx:RR V v x) (hy:RR V w y) {k m:Nat} (hk:Sz k x) (hm:Sz m y) (hkm:k + m < 1099511627776) :
  Acts prog 129 #[v,w] V fun r V'=>r=.int .i64 (cmpQ x y):=by
 obtain ⟨r0,r1,r2,rfl⟩:=hx.shape
 obtain ⟨s0,s1,s2,rfl⟩:=hy.shape
 have gen:∀V14:View,V.Le V14->Acts prog 75 #[.agg #[.int .i64 r0,.int .i64 r1,.pointer r2],.agg #[.int .i64 s0,.int .i64 s1,.pointer s2]] V14 fun r14_ V15=>∃x9_:Int,∃x10_:Int,∃p11_:OA,r14_=.agg #[.int .i64 x9_,.int .i64 x10_,.pointer p11_]/\(∀V16:View,V15.Le V16->Acts prog 179 #[.agg #[.int .i64 x9_,.int .i64 x10_,.pointer p11_]] V16 fun r16_ V17=>∃x12_:Int,r16_=.int .i64 x12_/\(∀V18:View,V17.Le V18->Value.int .i64 x12_=.int .i64 (cmpQ x y))):=by
  intro V1 l1
  refine (c_R_Sub (hx.le l1) (hy.le l1) hk hm hkm).mono ?_
  rintro r V2 l2 h2
  obtain ⟨n,d,p,rfl⟩:=h2.shape
  refine ⟨_,_,_,rfl,fun V3 l3=>(c_R_Sign (h2.le l3) (hk.sub hm) (by omega)).mono ?_⟩
  rintro r V4 l4 rfl
  exact ⟨_,rfl,fun _ _=>rfl⟩
 rcases hx with ⟨ex,wx⟩ | ⟨a,b,p,n,c,p',n',c',ex,-,-,-,-,-,wx⟩
 ·rcases hy with ⟨ey,wy⟩ | ⟨a,b,p,n,c,p',n',c',ey,-,-,-,-,-,wy⟩
  ·simp only [Value.agg.injEq,Array.mk.injEq,List.cons.injEq,Value.int.injEq,Value.pointer.injEq,true_and,and_true] at ex ey
   obtain ⟨rfl,rfl,rfl⟩:=ex
   obtain ⟨rfl,rfl,rfl⟩:=ey
   have hlt:x.den=y.den->((x < y↔x.num < y.num)/\(y < x↔y.num < x.num)/\(x=y↔x.num=y.num)):=by
    intro e
    have hd:(0:Int) < y.den:=by have:=y.den_nz; omega
    refine ⟨?_,?_,fun h=>by rw [h],fun h=>Rat.ext h e⟩
    ·rw [Rat.lt_iff,e]; exact ⟨fun h=>Int.lt_of_mul_lt_mul_right h (by omega),fun h=>Int.mul_lt_mul_of_pos_right h hd⟩
    ·rw [Rat.lt_iff,e]; exact ⟨fun h=>Int.lt_of_mul_lt_mul_right h (by omega),fun h=>Int.mul_lt_mul_of_pos_right h hd⟩
   refine vc_frac_R_Cmp _ _ _ _ _ _ V _ ⟨fun _=>⟨fun _=>⟨fun h1=>?_,fun _=>gen⟩,(fun h=>nomatch h)⟩,(fun h=>nomatch h)⟩
   have h1:x.den=y.den:=by rw [beq_iff_eq] at h1; omega
   obtain ⟨g1,g2,g3⟩:=hlt h1
   refine ⟨fun h V1 l1=>?_,fun h=>⟨fun h' V1 l1=>?_,fun h' V1 l1=>?_⟩⟩
   ·rw [cmpQ_lt.1 (g1.2 (by simpa using h))]
   ·rw [cmpQ_gt.1 (g2.2 (by simpa using h'))]
   ·rw [cmpQ_eq.1 (g3.2 (by rw [decide_eq_false_iff_not] at h h'; omega))]
  ·simp only [Value.agg.injEq,Array.mk.injEq,List.cons.injEq,Value.int.injEq,Value.pointer.injEq,true_and,and_true] at ex ey
   obtain ⟨rfl,rfl,rfl⟩:=ex
   obtain ⟨rfl,rfl,rfl⟩:=ey
   exact vc_frac_R_Cmp _ _ _ _ _ _ V _ ⟨fun _=>⟨(fun h=>nomatch h),fun _=>gen⟩,(fun h=>nomatch h)⟩
 ·simp only [Value.agg.injEq,Array.mk.injEq,List.cons.injEq,Value.int.injEq,Value.pointer.injEq,true_and,and_true] at ex
  obtain ⟨rfl,rfl,rfl⟩:=ex
  exact vc_frac_R_Cmp _ _ _ _ _ _ V _ ⟨(fun h=>nomatch h),fun _=>gen⟩
theorem c_R_Equal {V:View} {v w:Value} {x y:Rat} (hx:RR V v x) (hy:RR V w y) {k m:Nat} (hk:Sz k x) (hm:Sz m y) (hkm:k + m < 1099511627776) :
  Acts prog 178 #[v,w] V fun r V'=>r=.bool (decide (x=y)):=by
 obtain ⟨r0,r1,r2,rfl⟩:=hx.shape
 obtain ⟨s0,s1,s2,rfl⟩:=hy.shape
 refine vc_frac_R_Equal _ _ _ _ _ _ V _ fun V1 l1=>(c_R_Cmp (hx.le l1) (hy.le l1) hk hm hkm).mono ?_
 rintro r V2 l2 rfl
 refine ⟨_,rfl,fun V3 l3=>?_⟩
 congr 1
 rw [Bool.eq_iff_iff,beq_iff_eq,decide_eq_true_eq,cmpQ_eq]
end Go.Proofs.Tryz
/- Contracts of the rational numbers: Of, API, Mul, Inv, Quo. -/
namespace Go.Proofs.Tryz
open Go.Eng Go.Big
/-- A number of package api in normal form. -/
def RA (V:View) (v:Value) (q:Rat):Prop:=∃p n c p' n' c',v=.agg #[.bool (decide (q.num < 0)),.slice p n c,.slice p' n' c']/\RD V p n c (digs q.num.natAbs)/\RD V p' n' c' (digs q.den)
theorem RA.le {V V':View} {v:Value} {q:Rat} (h:RA V v q) (l:V.Le V'):RA V' v q:=by
 obtain ⟨p,n,c,p',n',c',e,h1,h2⟩:=h
 exact ⟨p,n,c,p',n',c',e,h1.le l,h2.le l⟩
theorem c_frac_Of' {V:View} (b:Bool) {p q:OA} {n c m e:Nat} {xs ys:List Nat} (hx:RD V p n c xs) (hy:RD V q m e ys) (hm:xs.length<=1099511627776) (hn:ys.length<=1099511627776) :
  Acts prog 93 #[.agg #[.bool b,.slice p n c,.slice q m e]] V fun r V'=>RR V' r (mkRat (ival b xs) (val ys)):=by
 refine vc_frac_Of b p n c q m e V _ fun V1 l1=>(c_frac_reduce b (hx.le l1) (hy.le l1) hm hn).mono ?_
 rintro r V2 l2 h
 obtain ⟨u,v,w,rfl⟩:=h.shape
 exact ⟨_,_,_,rfl,fun V3 l3=>h.le l3⟩
theorem c_R_API {V:View} {v:Value} {q:Rat} (h:RR V v q) {k:Nat} (hs:Sz k q) (hk:k<=1099511627776):Acts prog 76 #[v] V fun r V'=>RA V' r q:=by
 have h0:=h
 obtain ⟨r0,r1,r2,rfl⟩:=h.shape
 refine vc_frac_R_API r0 r1 r2 V _ fun V1 l1=>(c_R_Num (h0.le l1) hs hk).mono ?_
 rintro r V2 l2 ⟨p1,n1,c1,rfl,g1⟩
 refine ⟨_,_,_,_,rfl,fun V3 l3=>(c_R_Den (h0.le (l1.trans (l2.trans l3))) hs hk).mono ?_⟩
 rintro r V4 l4 ⟨p2,n2,c2,rfl,g2⟩
 exact ⟨_,_,_,rfl,fun V5 l5=>⟨_,_,_,_,_,_,rfl,g1.le (l3.trans (l4.trans l5)),g2.le l5⟩⟩
end Go.Proofs.Tryz
