/- A part of the proof (joined by program from: FracA, NumH, NumI, FracB, FracC, FracD, NumJ, VRef, RefA). -/
import Derived.Test.YtimkdinmcbepnaaGreatDoorT10
import Derived.Test.YtimkdinmcbepnaaGreatDoorT9
import Derived.Test.YtimkdinmcbepnaaGreatDoorT5
set_option linter.unusedVariables false
open Go.IntKind (i64 u64 u32)
/- Contracts of package frac: reduce, Num, Den, words. -/
namespace Go.Eng
open Go.Big
/-- A number that fits machine words. -/
def Wd (q:Rat):Prop:=q.num.natAbs < 4611686018427387904/\q.den < 4611686018427387904
/-- A rational number of package frac. -/
def RR (V:View) (v:Value) (q:Rat):Prop:=
 (v=.agg #[.int .i64 q.num,.int .i64 ((q.den:Int) - 1),.pointer none]/\Wd q) \/
 (∃a b p n c p' n' c',v=.agg #[.int .i64 0,.int .i64 0,.pointer (some a)]/\V.at (a.add 0) (.bool b)/\V.at (a.add 1) (.slice p n c)/\V.at (a.add 2) (.slice p' n' c') /\
  RI V (.agg #[.bool b,.slice p n c]) q.num/\RD V p' n' c' (digs q.den)/\¬ Wd q)
theorem RR.le {V V':View} {v:Value} {q:Rat} (h:RR V v q) (l:V.Le V'):RR V' v q:=by
 rcases h with h | ⟨a,b,p,n,c,p',n',c',e,h1,h2,h3,h4,h5,h6⟩
 ·exact .inl h
 ·exact .inr ⟨a,b,p,n,c,p',n',c',e,l.at h1,l.at h2,l.at h3,h4.le l,h5.le l,h6⟩
/-- Its size: binary digits. -/
def Sz (k:Nat) (q:Rat):Prop:=q.num.natAbs < 2 ^ k/\q.den < 2 ^ k
theorem Sz.mono {k m:Nat} {q:Rat} (h:Sz k q) (hm:k<=m):Sz m q:=
 ⟨Nat.lt_of_lt_of_le h.1 (Nat.pow_le_pow_right (by omega) hm),Nat.lt_of_lt_of_le h.2 (Nat.pow_le_pow_right (by omega) hm)⟩
theorem digs_len_bits {n k:Nat} (h:n < 2 ^ k):(digs n).length<=k:=by
 rw [digs_len_le]
 exact Nat.lt_of_lt_of_le h (Nat.pow_le_pow_left (by omega) k)
theorem Wd.sz {q:Rat} (h:Wd q):Sz 62 q:=h
theorem RR.shape {V:View} {v:Value} {q:Rat} (h:RR V v q):∃(n d:Int) (p:OA),v=.agg #[.int .i64 n,.int .i64 d,.pointer p]:=by
 rcases h with ⟨e,-⟩ | ⟨a,b,p,n,c,p',n',c',e,-⟩
 ·exact ⟨_,_,_,e⟩
 ·exact ⟨_,_,_,e⟩
end Go.Eng
namespace Go.Proofs.Tryz
open Go.Eng Go.Big
theorem blen62 (n:Nat):decide ((blen n:Int)<=62)=decide (n < 4611686018427387904):=by
 have:=@blen_le n 62
 rw [Bool.eq_iff_iff,decide_eq_true_eq,decide_eq_true_eq]
 omega
/-- num / den in lowest terms. -/
theorem mkRat_low {z:Int} {d:Nat} (hd:d≠0) (hg:Nat.gcd z.natAbs d=1):(mkRat z d).num=z/\(mkRat z d).den=d:=by
 have:Nat.gcd d z.natAbs=1:=by rw [Nat.gcd_comm]; exact hg
 rw [Rat.num_mkRat,Rat.den_mkRat,if_neg hd,if_neg hd,this]
 simp
theorem c_frac_reduce {V:View} (b:Bool) {p q:OA} {n c m e:Nat} {xs ys:List Nat} (hx:RD V p n c xs) (hy:RD V q m e ys) (hm:xs.length<=1099511627776) (hn:ys.length<=1099511627776) :
  Acts prog 140 #[.agg #[.bool b,.slice p n c],.slice q m e] V fun r V'=>RR V' r (mkRat (ival b xs) (val ys)):=by
 have zero:∀V':View,RR V' (.agg #[.int .i64 0,.int .i64 0,.pointer none]) 0:=fun V'=>.inl ⟨rfl,by unfold Wd; decide⟩
 refine vc_frac_reduce b p n c q m e V _ fun V1 l1=>(c_nat_Bits (hy.le l1) hn).mono ?_
 rintro r V2 l2 rfl
 refine ⟨_,rfl,fun h0 V3 l3=>?_,fun h0 V4 l4=>(c_integer_Sign b (hx.le (l1.trans (l2.trans l4))) hm).mono ?_⟩
 ·have:val ys=0:=blen_zero.1 (by simp at h0; omega)
  rw [this,Rat.mkRat_zero]; exact zero _
 rintro r V5 l5 rfl
 have hy0:val ys≠0:=fun e=>by simp [blen_zero.2 e] at h0
 refine ⟨_,rfl,fun h1 V6 l6=>?_,fun h1 V7 l7=>?_⟩
 ·have:ival b xs=0:=Int.sign_eq_zero_iff_zero.1 (by simpa using h1)
  rw [this,Rat.zero_mkRat]; exact zero _
 have hx0:ival b xs≠0:=fun e=>by simp [e] at h1
 have hx0':val xs≠0:=by rw [← ival_natAbs b xs]; omega
 replace hx:=hx.le (l1.trans (l2.trans (l4.trans (l5.trans l7))))
 replace hy:=hy.le (l1.trans (l2.trans (l4.trans (l5.trans l7))))
 refine (c_nat_Gcd hx hy hm hn).mono ?_
 rintro r V8 l8 ⟨p3,n3,c3,rfl,hg⟩
 replace hx:=hx.le l8
 replace hy:=hy.le l8
 have hgl:Nat.gcd (val xs) (val ys)<=val ys:=Nat.le_of_dvd (by omega) (Nat.gcd_dvd_right _ _)
 have hgd:(digs (Nat.gcd (val xs) (val ys))).length<=1099511627776:=Nat.le_trans (digs_len_mono hgl) (by have:=digs_val_len hy.dig; omega)
 have hgp:Nat.gcd (val xs) (val ys)≠0:=by
  intro e0; exact hx0' (Nat.eq_zero_of_gcd_eq_zero_left e0)
 refine ⟨_,_,_,rfl,fun V9 l9=>(c_nat_Bits (hg.le l9) hgd).mono ?_⟩
 rintro r V10 l10 rfl
 rw [val_digs]
 replace hx:=hx.le (l9.trans l10)
 replace hy:=hy.le (l9.trans l10)
 replace hg:=hg.le (l9.trans l10)
 refine ⟨_,rfl,fun z V'=>∃(us vs:List Nat),z.2.2.2.1=b/\RD V' z.2.2.2.2.1 z.2.2.2.2.2.1 z.2.2.2.2.2.2 us/\RD V' z.1 z.2.1 z.2.2.1 vs/\us.length<=1099511627776/\vs.length<=1099511627776/\val vs≠0 /\
  Nat.gcd (val us) (val vs)=1/\mkRat (ival b xs) (val ys)=mkRat (ival b us) (val vs),⟨fun h2 V11 l11=>?_,fun h2=>?_⟩,?_⟩
 ·refine (c_nat_DivMod (hx.le l11) (hg.le l11) hm hgd (by rw [val_digs]; exact hgp)).mono ?_
  rintro r V12 l12 ⟨p4,n4,c4,p5,n5,c5,rfl,g1,g2⟩
  refine ⟨_,_,_,_,_,_,_,rfl,fun V13 l13=>(c_nat_DivMod (hy.le (l11.trans (l12.trans l13))) (hg.le (l11.trans (l12.trans l13))) hn hgd (by rw [val_digs]; exact hgp)).mono ?_⟩
  rintro r V14 l14 ⟨p6,n6,c6,p7,n7,c7,rfl,g3,g4⟩
  rw [val_digs] at g1 g3
  have e1:val (digs (val xs / Nat.gcd (val xs) (val ys)))=val xs / Nat.gcd (val xs) (val ys):=val_digs _
  have e2:val (digs (val ys / Nat.gcd (val xs) (val ys)))=val ys / Nat.gcd (val xs) (val ys):=val_digs _
  have d1:=Nat.gcd_dvd_left (val xs) (val ys)
  have d2:=Nat.gcd_dvd_right (val xs) (val ys)
  have hdy:val ys / Nat.gcd (val xs) (val ys)≠0:=by
   intro e0
   have:=Nat.div_mul_cancel d2
   rw [e0,Nat.zero_mul] at this
   exact hy0 this.symm
  refine ⟨_,_,_,_,_,_,_,rfl,(p6,n6,c6,b,p4,n4,c4),by (try dsimp only); and_intros <;> trivial,_,_,rfl,g1.le (l13.trans l14),g3,?_,?_,?_,?_,?_⟩
  ·exact Nat.le_trans (digs_len_mono (Nat.div_le_self _ _)) (by have:=digs_val_len hx.dig; omega)
  ·exact Nat.le_trans (digs_len_mono (Nat.div_le_self _ _)) (by have:=digs_val_len hy.dig; omega)
  ·rw [e2]; exact hdy
  ·rw [e1,e2]; exact Nat.gcd_div_gcd_div_gcd_of_pos_left (by omega)
  ·rw [e2]
   have k1:val ys=val ys / Nat.gcd (val xs) (val ys) * Nat.gcd (val xs) (val ys):=(Nat.div_mul_cancel d2).symm
   have k2:ival b xs=ival b (digs (val xs / Nat.gcd (val xs) (val ys))) * (Nat.gcd (val xs) (val ys):Nat):=by
    have k3:(val xs:Int)=((val xs / Nat.gcd (val xs) (val ys):Nat):Int) * (Nat.gcd (val xs) (val ys):Nat):=by
     rw [← Int.natCast_mul,Nat.div_mul_cancel d1]
    unfold ival
    rw [e1]
    cases b
    ·simpa using k3
    ·simp only [if_true]; rw [Int.neg_mul,← k3]
   conv=>lhs; rw [k1,k2]
   exact Rat.mkRat_mul_right hgp
 ·have hg1:Nat.gcd (val xs) (val ys)=1:=by
   have h3:¬ (1 < blen (Nat.gcd (val xs) (val ys))):=by simp at h2; omega
   have:=@blen_le (Nat.gcd (val xs) (val ys)) 1
   omega
  exact ⟨(q,m,e,b,p,n,c),by (try dsimp only); and_intros <;> trivial,xs,ys,rfl,hx,hy,hm,hn,hy0,hg1,rfl⟩
 ·rintro ⟨q,m,e,b',p,n,c⟩ V15 l15 ⟨us,vs,hbb,hu,hv,hul,hvl,hv0,hgc,hq⟩
  dsimp only at hbb hu hv ⊢
  subst hbb
  rw [hq]
  obtain ⟨hnum,hden⟩:=mkRat_low (z:=ival b' us) hv0 (by rw [ival_natAbs]; exact hgc)
  generalize mkRat (ival b' us) (val vs)=w at *
  have hW:Wd w↔val us < 4611686018427387904/\val vs < 4611686018427387904:=by
   unfold Wd; rw [hnum,hden,ival_natAbs]
  have big:∀V1:View,V15.Le V1->¬ Wd w->Acts prog 187 #[.agg #[.bool b',.slice p n c]] V1 fun r V2=>∃(b1_:Bool) (p2_:OA) (n2_ c2_:Nat),r=.agg #[.bool b1_,.slice p2_ n2_ c2_] /\
    (∀V3:View,V2.Le V3->Acts prog 188 #[.slice q m e] V3 fun r V4=>∃(p3_:OA) (n3_ c3_:Nat),r=.slice p3_ n3_ c3_ /\
    (∀V5:View,V4.Le V5->∀bk:Nat,V5.blk bk (.cells #[.bool b1_,.slice p2_ n2_ c2_,.slice p3_ n3_ c3_] 274 (0,0))->RR V5 (.agg #[.int .i64 0,.int .i64 0,.pointer (some ⟨bk,0,none⟩)]) w)):=by
   intro V1 l1 hw
   refine (c_integer_Norm b' (hu.le l1) hul).mono ?_
   rintro r V2 l2 hri
   obtain ⟨p2,n2,c2,rfl,h2⟩:=hri
   have hri:RI V2 (.agg #[.bool (decide (ival b' us < 0)),.slice p2 n2 c2]) (ival b' us):=⟨_,_,_,rfl,h2⟩
   refine ⟨_,_,_,_,rfl,fun V3 l3=>(c_nat_Norm (hv.le (l1.trans (l2.trans l3))) hvl).mono ?_⟩
   rintro r V4 l4 ⟨p3,n3,c3,rfl,h3⟩
   refine ⟨_,_,_,rfl,fun V5 l5 bk hb=>.inr ⟨⟨bk,0,none⟩,decide (ival b' us < 0),p2,n2,c2,p3,n3,c3,rfl,?_,?_,?_,?_,?_,hw⟩⟩
   ·rw [add_zero']; exact blk_at (xs:=[_,_,_]) hb rfl
   ·rw [add_zero']; exact blk_at (xs:=[_,_,_]) hb rfl
   ·rw [add_zero']; exact blk_at (xs:=[_,_,_]) hb rfl
   ·rw [hnum]; exact hri.le (l3.trans (l4.trans l5))
   ·rw [hden]; exact h3.le l5
  refine ⟨by trivial,fun V16 l16=>(c_nat_Bits (hu.le l16) hul).mono ?_⟩
  rintro r V17 l17 rfl
  refine ⟨_,rfl,fun h3 V18 l18=>(c_nat_Bits (hv.le (l16.trans (l17.trans l18))) hvl).mono ?_,fun h3 V30 l30=>big V30 (l16.trans (l17.trans l30)) ?_⟩
  ·rintro r V19 l19 rfl
   rw [blen62,decide_eq_true_eq] at h3
   refine ⟨_,rfl,fun h4 V20 l20=>?_,fun h4 V25 l25=>big V25 (l16.trans (l17.trans (l18.trans (l19.trans l25)))) ?_⟩
   ·rw [blen62,decide_eq_true_eq] at h4
    refine (c_integer_Int64 b' (hu.le (l16.trans (l17.trans (l18.trans (l19.trans l20))))) hul h3).mono ?_
    rintro r V21 l21 rfl
    refine ⟨_,_,rfl,fun V22 l22=>(c_nat_Uint (hv.le (l16.trans (l17.trans (l18.trans (l19.trans (l20.trans (l21.trans l22))))))) hvl).mono ?_⟩
    rintro r V23 l23 rfl
    rw [if_pos (by omega)]
    refine ⟨_,_,rfl,fun V24 l24=>.inl ⟨?_,hW.2 ⟨h3,h4⟩⟩⟩
    rw [i64w (x:=((val vs:Nat):Int)) (by omega),i64w (by omega),hnum,hden]
   ·rw [blen62,decide_eq_false_iff_not] at h4
    rw [hW]; omega
  ·rw [blen62,decide_eq_false_iff_not] at h3
   rw [hW]; omega
end Go.Proofs.Tryz
/- Contracts of the reference's integers: Make, Int, Sign, Minus, Add, Mul. -/
namespace Go.Proofs.Tryz
open Go.Eng Go.Big
theorem c_num_Make {V:View} (b:Bool) {p:OA} {n c x:Nat} (h:RN V p n c x) :
  Acts prog 82 #[.bool b,.slice p n c] V fun r V'=>RI V' r (if b then -(x:Int) else x):=by
 have hp:=len_pos_digs h.len
 refine vc_num_Make b p n c V _ ⟨fun h0 V1 l1=>?_,fun h0 V1 l1=>?_⟩
 ·rw [if_pos h0]
  refine RI.mk ?_ ?_
  ·rw [Bool.eq_iff_iff,decide_eq_true_eq,decide_eq_true_eq]
   omega
  ·rw [Int.natAbs_neg,Int.natAbs_natCast]; exact h.le l1
 ·rw [h0,if_neg (by decide)]
  refine RI.mk ?_ ?_
  ·symm; rw [decide_eq_false_iff_not]; omega
  ·rw [Int.natAbs_natCast]; exact h.le l1
theorem make_fin {V:View} {b:Bool} {p:OA} {n c x:Nat} {z:Int} (h:RN V p n c x) (hz:(if b then -(x:Int) else x)=z) :
  Acts prog 82 #[.bool b,.slice p n c] V fun r V'=>∃(b1_:Bool) (p2_:OA) (n2_ c2_:Nat),r=.agg #[.bool b1_,.slice p2_ n2_ c2_]/\∀V3:View,V'.Le V3->RI V3 (.agg #[.bool b1_,.slice p2_ n2_ c2_]) z:=by
 refine (c_num_Make b h).mono ?_
 rintro r V2 l2 ⟨p1,n1,c1,rfl,g⟩
 rw [hz] at g ⊢
 exact ⟨_,_,_,_,rfl,fun V3 l3=>⟨_,_,_,rfl,g.le l3⟩⟩
theorem c_num_Int {V:View} (n:Int) (h0:-9223372036854775808<=n) (h1:n<=9223372036854775807) :
  Acts prog 69 #[.int .i64 n] V fun r V'=>RI V' r n:=by
 refine vc_num_Int n V _ ⟨fun h2 V1 l1=>?_,fun h2 V1 l1=>?_⟩
 ·have h2:n < 0:=by simpa using h2
  have e:u64.wrap (0 - u64.wrap n)=((-n).toNat:Int):=by rw [u64m,u64m]; omega
  rw [e]
  refine (c_num_Word _ (by omega)).mono ?_
  rintro r V2 l2 ⟨p1,n1,c1,rfl,g1⟩
  exact ⟨_,_,_,rfl,fun V3 l3=>make_fin (g1.le l3) (by simp; omega)⟩
 ·have h2:0<=n:=by simpa using h2
  have e:u64.wrap n=(n.toNat:Int):=by rw [u64w (by omega)]; omega
  rw [e]
  refine (c_num_Word _ (by omega)).mono ?_
  rintro r V2 l2 ⟨p1,n1,c1,rfl,g1⟩
  exact ⟨_,_,_,rfl,fun V3 l3=>make_fin (g1.le l3) (by simp; omega)⟩
theorem c_num_Sign {V:View} (z:Int) {p:OA} {n c:Nat} (h:RN V p n c z.natAbs) :
  Acts prog 143 #[.agg #[.bool (decide (z < 0)),.slice p n c]] V fun r V'=>r=.int .i64 z.sign:=by
 have hp:=len_pos_digs h.len
 refine vc_num_Sign _ p n c V _ ⟨fun h0 V1 l1=>?_,fun h0=>⟨fun h1 V1 l1=>?_,fun h1 V1 l1=>?_⟩⟩
 ·have:z=0:=by simp at h0; omega
  rw [this]; rfl
 ·rw [decide_eq_true_eq] at h1
  rw [Int.sign_eq_neg_one_of_neg h1]
 ·rw [decide_eq_false_iff_not] at h1
  have:0 < z:=by simp at h0; omega
  rw [Int.sign_eq_one_of_pos this]
theorem c_num_Minus {V:View} (z:Int) {p:OA} {n c:Nat} (h:RN V p n c z.natAbs) :
  Acts prog 198 #[.agg #[.bool (decide (z < 0)),.slice p n c]] V fun r V'=>RI V' r (-z):=by
 refine vc_num_Minus _ p n c V _ fun V1 l1=>make_fin (h.le l1) ?_
 by_cases hz:z < 0 <;> simp [hz] <;> omega
theorem c_num_Mul {V:View} (z w:Int) {p q:OA} {n c m e:Nat} (ha:RN V p n c z.natAbs) (hb:RN V q m e w.natAbs) (hm:(digs z.natAbs).length + (digs w.natAbs).length<=1099511627776) :
  Acts prog 81 #[.agg #[.bool (decide (z < 0)),.slice p n c],.agg #[.bool (decide (w < 0)),.slice q m e]] V fun r V'=>RI V' r (z * w):=by
 refine vc_num_Mul _ p n c _ q m e V _ fun V1 l1=>(c_num_Product (ha.le l1) (hb.le l1) hm).mono ?_
 rintro r V2 l2 ⟨p1,n1,c1,rfl,g1⟩
 rw [val_digs,val_digs] at g1
 refine ⟨_,_,_,rfl,fun V3 l3=>make_fin (g1.le l3) ?_⟩
 have e1:z=ival (decide (z < 0)) (digs z.natAbs):=(ival_digs z).symm
 have e2:w=ival (decide (w < 0)) (digs w.natAbs):=(ival_digs w).symm
 conv=>rhs; rw [e1,e2]
 unfold ival
 rw [val_digs,val_digs]
 cases decide (z < 0) <;> cases decide (w < 0) <;> simp [Int.neg_mul,Int.mul_neg]
theorem c_num_Add {V:View} (z w:Int) {p q:OA} {n c m e:Nat} (ha:RN V p n c z.natAbs) (hb:RN V q m e w.natAbs) (hm:(digs z.natAbs).length<=1099511627776) (hn:(digs w.natAbs).length<=1099511627776) :
  Acts prog 79 #[.agg #[.bool (decide (z < 0)),.slice p n c],.agg #[.bool (decide (w < 0)),.slice q m e]] V fun r V'=>RI V' r (z + w):=by
 refine vc_num_Add _ p n c _ q m e V _ ⟨fun h0 V1 l1=>(c_num_Sum (ha.le l1) (hb.le l1) hm hn).mono ?_,fun h0 V1 l1=>(c_num_Cmp (ha.le l1) (hb.le l1) hm hn).mono ?_⟩
 ·rintro r V2 l2 ⟨p1,n1,c1,rfl,g1⟩
  rw [val_digs,val_digs] at g1
  refine ⟨_,_,_,rfl,fun V3 l3=>make_fin (g1.le l3) ?_⟩
  by_cases hz:z < 0 <;> by_cases hw:w < 0 <;> simp [hz,hw] at h0 ⊢ <;> omega
 ·rintro r V2 l2 rfl
  refine ⟨_,rfl,fun h2 V3 l3=>?_,fun h2 V3 l3=>?_⟩
  ·have h2:z.natAbs < w.natAbs:=by simpa [cmpN_neg] using h2
   refine (c_num_Less (hb.le (l1.trans (l2.trans l3))) (ha.le (l1.trans (l2.trans l3))) hn (digs_len_mono (Nat.le_of_lt h2)) (by rw [val_digs,val_digs]; omega)).mono ?_
   rintro r V4 l4 ⟨p1,n1,c1,rfl,g1⟩
   rw [val_digs,val_digs] at g1
   refine ⟨_,_,_,rfl,fun V5 l5=>make_fin (g1.le l5) ?_⟩
   by_cases hz:z < 0 <;> by_cases hw:w < 0 <;> simp [hz,hw] at h0 ⊢ <;> omega
  ·have h2:w.natAbs<=z.natAbs:=by simpa [← Int.not_lt,cmpN_neg] using h2
   refine (c_num_Less (ha.le (l1.trans (l2.trans l3))) (hb.le (l1.trans (l2.trans l3))) hm (digs_len_mono h2) (by rw [val_digs,val_digs]; omega)).mono ?_
   rintro r V4 l4 ⟨p1,n1,c1,rfl,g1⟩
   rw [val_digs,val_digs] at g1
   refine ⟨_,_,_,rfl,fun V5 l5=>make_fin (g1.le l5) ?_⟩
   by_cases hz:z < 0 <;> by_cases hw:w < 0 <;> simp [hz,hw] at h0 ⊢ <;> omega
end Go.Proofs.Tryz
/- Contracts of the reference's rational numbers: Den, Frac, Of, S, Opp. -/
namespace Go.Eng
open Go.Big
/-- The digits of a denominator; none stands for 1. -/
def dend (d:Nat):List Nat:=if d=1 then [] else digs d
/-- A rational number of the reference. -/
def RQ (V:View) (v:Value) (q:Rat):Prop:=∃p n c p' n' c',v=.agg #[.bool (decide (q.num < 0)),.slice p n c,.slice p' n' c'] /\
 RD V p n c (digs q.num.natAbs)/\RD V p' n' c' (dend q.den)
theorem RQ.le {V V':View} {v:Value} {q:Rat} (h:RQ V v q) (l:V.Le V'):RQ V' v q:=by
 obtain ⟨p,n,c,p',n',c',e,h1,h2⟩:=h
 exact ⟨p,n,c,p',n',c',e,h1.le l,h2.le l⟩
theorem dend_nil {q:Rat}:dend q.den=[]↔q.den=1:=by
 unfold dend
 split
 ·rename_i h; simp [h]
 ·rename_i h
  rw [digs_eq_nil]
  have:=q.den_nz
  omega
end Go.Eng
namespace Go.Proofs.Tryz
open Go.Eng Go.Big
theorem dend_len {V:View} {q:Rat} {p:OA} {n c:Nat} (h:RD V p n c (dend q.den)):n=0↔q.den=1:=by
 rw [← dend_nil,h.len,List.length_eq_zero_iff]
theorem c_num_Den {V:View} (q:Rat) {p p':OA} {n c n' c':Nat} (b:Bool) (h2:RD V p' n' c' (dend q.den)) :
  Acts prog 83 #[.agg #[.bool b,.slice p n c,.slice p' n' c']] V fun r V'=>∃p1 n1 c1,r=.slice p1 n1 c1/\RN V' p1 n1 c1 q.den:=by
 have hl:=dend_len h2
 refine vc_num_Den b p n c p' n' c' V _ ⟨fun h0 V1 l1=>c_num_One.mono ?_,fun h0 V1 l1=>⟨_,_,_,rfl,?_⟩⟩
 ·rintro r V2 l2 ⟨p1,n1,c1,rfl,g⟩
  have:q.den=1:=hl.1 (by simp at h0; omega)
  rw [this]
  exact ⟨_,_,_,rfl,fun V3 l3=>⟨_,_,_,rfl,g.le l3⟩⟩
 ·have:q.den≠1:=fun e=>by have:=hl.2 e; simp at h0; omega
  unfold dend at h2
  rw [if_neg this] at h2
  exact h2.le l1
theorem rq_of {V:View} {q:Rat} {z:Int} {d:Nat} {p p':OA} {n c n' c':Nat} (hn:q.num=z) (hd:q.den=d) (h1:RD V p n c (digs z.natAbs)) (h2:RD V p' n' c' (dend d)) {b:Bool} (hb:b=decide (z < 0)) :
  RQ V (.agg #[.bool b,.slice p n c,.slice p' n' c']) q:=by
 subst hn hd hb
 exact ⟨_,_,_,_,_,_,rfl,h1,h2⟩
theorem c_num_Frac {V:View} (z:Int) {d:Nat} {p q:OA} {n c m e:Nat} (hx:RN V p n c z.natAbs) (hy:RN V q m e d) (hm:(digs z.natAbs).length<=274877906944) (hn:(digs d).length<=274877906944) (hd:d≠0) :
  Acts prog 80 #[.agg #[.bool (decide (z < 0)),.slice p n c],.slice q m e] V fun r V'=>RQ V' r (mkRat z d):=by
 refine vc_num_Frac _ p n c q m e V _ fun V1 l1=>(c_num_Common (hx.le l1) (hy.le l1) hm hn).mono ?_
 rintro r V2 l2 ⟨p1,n1,c1,rfl,hg⟩
 have hgd:=Nat.gcd_dvd_right z.natAbs d
 have hgx:=Nat.gcd_dvd_left z.natAbs d
 have hgp:0 < Nat.gcd z.natAbs d:=Nat.gcd_pos_of_pos_right _ (by omega)
 have hgl:(digs (Nat.gcd z.natAbs d)).length<=274877906944:=Nat.le_trans (digs_len_mono (Nat.le_of_dvd (by omega) hgd)) hn
 have hnum:(mkRat z d).num=z / (Nat.gcd d z.natAbs:Nat):=by rw [Rat.num_mkRat,if_neg hd]
 have hden:(mkRat z d).den=d / Nat.gcd d z.natAbs:=by rw [Rat.den_mkRat,if_neg hd]
 rw [Nat.gcd_comm d] at hnum hden
 generalize hG:Nat.gcd z.natAbs d=g at *
 generalize mkRat z d=w at *
 refine ⟨_,_,_,rfl,fun V3 l3=>c_num_One.mono ?_⟩
 rintro r V4 l4 ⟨p2,n2,c2,rfl,h1⟩
 refine ⟨_,_,_,rfl,fun V5 l5=>(c_num_Cmp (hg.le (l3.trans (l4.trans l5))) (h1.le l5) (by omega) (by decide)).mono ?_⟩
 rintro r V6 l6 rfl
 replace hx:=hx.le (l1.trans (l2.trans (l3.trans (l4.trans (l5.trans l6)))))
 replace hy:=hy.le (l1.trans (l2.trans (l3.trans (l4.trans (l5.trans l6)))))
 replace hg:=hg.le (l3.trans (l4.trans (l5.trans l6)))
 refine ⟨_,rfl,fun h0 V7 l7=>(c_num_Divide (hx.le l7) (hg.le l7) hm hgl hgp).mono ?_,fun h0 V19 l19=>c_num_One.mono ?_⟩
 ·rintro r V8 l8 ⟨p4,n4,c4,p5,n5,c5,rfl,g1,-⟩
  have hnd:(mkRat z d).num.natAbs=(mkRat z d).num.natAbs:=rfl
  obtain ⟨k,hk⟩:=hgx
  have hk1:z.natAbs / g=k:=by rw [hk,Nat.mul_div_cancel_left _ hgp]
  rw [hk1] at g1
  have hz:z=(g:Int) * (if z < 0 then -(k:Int) else k):=by
   split
   ·rw [Int.mul_neg,← Int.natCast_mul,← hk]; omega
   ·rw [← Int.natCast_mul,← hk]; omega
  have hwn:w.num=(if z < 0 then -(k:Int) else k):=by
   rw [hnum]
   generalize (if z < 0 then -(k:Int) else k)=t at *
   rw [hz,Int.mul_ediv_cancel_left _ (by omega)]
  refine ⟨_,_,_,_,_,_,rfl,fun V9 l9=>(c_num_Make _ (g1.le l9)).mono ?_⟩
  have hite:(if decide (z < 0)=true then -(k:Int) else k)=w.num:=by
   rw [hwn]; simp
  rw [hite]
  rintro r V10 l10 ⟨p7,n7,c7,rfl,g2⟩
  refine ⟨_,_,_,_,rfl,fun V11 l11=>(c_num_Divide (hy.le (l7.trans (l8.trans (l9.trans (l10.trans l11))))) (hg.le (l7.trans (l8.trans (l9.trans (l10.trans l11))))) hn hgl hgp).mono ?_⟩
  rintro r V12 l12 ⟨p8,n8,c8,p9,n9,c9,rfl,g3,-⟩
  rw [← hden] at g3
  refine ⟨_,_,_,_,_,_,rfl,fun V13 l13=>c_num_One.mono ?_⟩
  rintro r V14 l14 ⟨p10,n10,c10,rfl,g4⟩
  have hdl:(digs w.den).length<=274877906944:=by rw [hden]; exact Nat.le_trans (digs_len_mono (Nat.div_le_self _ _)) hn
  refine ⟨_,_,_,rfl,fun V15 l15=>(c_num_Cmp (g3.le (l13.trans (l14.trans l15))) (g4.le l15) (by omega) (by decide)).mono ?_⟩
  rintro r V16 l16 rfl
  refine ⟨_,rfl,fun h9 V17 l17=>rq_of rfl rfl (g2.le (l11.trans (l12.trans (l13.trans (l14.trans (l15.trans (l16.trans l17))))))) ?_ rfl,fun h9 V18 l18=>rq_of rfl rfl (g2.le (l11.trans (l12.trans (l13.trans (l14.trans (l15.trans (l16.trans l18))))))) ?_ rfl⟩
  ·have:w.den=1:=cmpN_zero.1 (by simpa using h9)
   rw [dend_nil.2 this]; exact RD.nil
  ·have:w.den≠1:=fun e=>by rw [cmpN_zero.2 e] at h9; simp at h9
   unfold dend
   rw [if_neg this]
   exact g3.le (l13.trans (l14.trans (l15.trans (l16.trans l18))))
 ·have hg1:g=1:=cmpN_zero.1 (by simpa using h0)
  have hwn:w.num=z:=by rw [hnum,hg1]; simp
  have hwd:w.den=d:=by rw [hden,hg1]; simp
  rintro r V20 l20 ⟨p12,n12,c12,rfl,g4⟩
  refine ⟨_,_,_,rfl,fun V21 l21=>(c_num_Cmp (hy.le (l19.trans (l20.trans l21))) (g4.le l21) (by omega) (by decide)).mono ?_⟩
  rintro r V22 l22 rfl
  refine ⟨_,rfl,fun h9 V17 l17=>rq_of hwn hwd (hx.le (l19.trans (l20.trans (l21.trans (l22.trans l17))))) ?_ rfl,fun h9 V18 l18=>rq_of hwn hwd (hx.le (l19.trans (l20.trans (l21.trans (l22.trans l18))))) ?_ rfl⟩
  ·have:d=1:=cmpN_zero.1 (by simpa using h9)
   unfold dend
   rw [if_pos this]; exact RD.nil
  ·have:d≠1:=fun e=>by rw [cmpN_zero.2 e] at h9; simp at h9
   unfold dend
   rw [if_neg this]
   exact hy.le (l19.trans (l20.trans (l21.trans (l22.trans l18))))
theorem c_num_Of {V:View} (n:Int) (h0:-9223372036854775808<=n) (h1:n<=9223372036854775807) :
  Acts prog 19 #[.int .i64 n] V fun r V'=>RQ V' r (n:Rat):=by
 refine vc_num_Of n V _ fun V1 l1=>(c_num_Int n h0 h1).mono ?_
 rintro r V2 l2 ⟨p,m,c,rfl,g⟩
 exact ⟨_,_,_,_,rfl,fun V3 l3=>rq_of (z:=n) (d:=1) rfl rfl (g.le l3) RD.nil rfl⟩
theorem c_num_S {V:View} (q:Rat) {p p':OA} {n c n' c':Nat} (h1:RD V p n c (digs q.num.natAbs)) :
  Acts prog 77 #[.agg #[.bool (decide (q.num < 0)),.slice p n c,.slice p' n' c']] V fun r V'=>r=.int .i64 q.num.sign:=by
 refine vc_num_S _ p n c p' n' c' V _ fun V1 l1=>(c_num_Sign q.num (h1.le l1)).mono ?_
 rintro r V2 l2 rfl
 exact ⟨_,rfl,fun V3 l3=>rfl⟩
theorem c_num_Opp {V:View} (q:Rat) {p p':OA} {n c n' c':Nat} (h1:RD V p n c (digs q.num.natAbs)) (h2:RD V p' n' c' (dend q.den)) :
  Acts prog 144 #[.agg #[.bool (decide (q.num < 0)),.slice p n c,.slice p' n' c']] V fun r V'=>RQ V' r (-q):=by
 refine vc_num_Opp _ p n c p' n' c' V _ fun V1 l1=>(c_num_Minus q.num (h1.le l1)).mono ?_
 rintro r V2 l2 ⟨p1,n1,c1,rfl,g⟩
 exact ⟨_,_,_,_,rfl,fun V3 l3=>rq_of (q:=-q) (z:=-q.num) (d:=q.den) (by rfl) (by rfl) (g.le l3) ((h2.le l1).le (l2.trans l3)) rfl⟩
end Go.Proofs.Tryz
/- Contracts of package frac: Num, Den, words, Int, Whole, Neg, Sign. -/
namespace Go.Eng
open Go.Big
theorem RI.inv {V:View} {b:Bool} {p:OA} {n c:Nat} {z:Int} (h:RI V (.agg #[.bool b,.slice p n c]) z):b=decide (z < 0)/\RD V p n c (digs z.natAbs):=by
 obtain ⟨p1,n1,c1,e,hn⟩:=h
 simp at e
 obtain ⟨rfl,rfl,rfl,rfl⟩:=e
 exact ⟨rfl,hn⟩
end Go.Eng
namespace Go.Proofs.Tryz
open Go.Eng Go.Big
theorem c_R_Num {V:View} {v:Value} {q:Rat} (h:RR V v q) {k:Nat} (hs:Sz k q) (hk:k<=1099511627776) :
  Acts prog 138 #[v] V fun r V'=>RI V' r q.num:=by
 rcases h with ⟨rfl,hw⟩ | ⟨a,b,p,n,c,p',n',c',rfl,h1,h2,h3,h4,h5,hw⟩
 ·have:=hw.1
  refine vc_frac_R_Num _ _ _ V _ ⟨(fun h0=>nomatch h0),fun _ V1 l1=>(c_integer_FromInt _ (by omega) (by omega)).mono ?_⟩
  rintro r V2 l2 ⟨p,n,c,rfl,g⟩
  exact ⟨_,_,_,_,rfl,fun V3 l3=>⟨_,_,_,rfl,g.le l3⟩⟩
 ·obtain ⟨rfl,hn⟩:=h4.inv
  refine vc_frac_R_Num _ _ _ V _ ⟨fun _=>⟨rfl,rfl,decide (q.num < 0),p,n,c,a.add 0,rfl,?_,?_,fun V1 l1=>(c_integer_Norm _ (hn.le l1) (Nat.le_trans (digs_len_bits hs.1) hk)).mono ?_⟩,fun h0=>nomatch h0⟩
  ·exact h1
  ·simpa [Addr.add] using h2
  ·rintro r V2 l2 ⟨p,n,c,rfl,g⟩
   rw [ival_digs] at g ⊢
   exact ⟨_,_,_,_,rfl,fun V3 l3=>⟨_,_,_,rfl,g.le l3⟩⟩
theorem c_R_Den {V:View} {v:Value} {q:Rat} (h:RR V v q) {k:Nat} (hs:Sz k q) (hk:k<=1099511627776) :
  Acts prog 139 #[v] V fun r V'=>∃p n c,r=.slice p n c/\RN V' p n c q.den:=by
 rcases h with ⟨rfl,hw⟩ | ⟨a,b,p,n,c,p',n',c',rfl,h1,h2,h3,h4,h5,hw⟩
 ·have:=hw.2
  have hd:=q.den_nz
  refine vc_frac_R_Den _ _ _ V _ ⟨(fun h0=>nomatch h0),fun _ V1 l1=>?_⟩
  rw [i64w (by omega),u64w (by omega)]
  refine (c_nat_FromUint _ (by omega) (by omega)).mono ?_
  rintro r V2 l2 ⟨p,n,c,rfl,g⟩
  rw [show ((q.den:Int) - 1 + 1).toNat=q.den from by omega] at g
  exact ⟨_,_,_,rfl,fun V3 l3=>⟨_,_,_,rfl,g.le l3⟩⟩
 ·refine vc_frac_R_Den _ _ _ V _ ⟨fun _=>⟨rfl,rfl,_,_,_,⟨_,rfl,h3⟩,fun V1 l1=>(c_nat_Norm (h5.le l1) (Nat.le_trans (digs_len_bits hs.2) hk)).mono ?_⟩,fun h0=>nomatch h0⟩
  rintro r V2 l2 ⟨p,n,c,rfl,g⟩
  rw [val_digs] at g
  exact ⟨_,_,_,rfl,fun V3 l3=>⟨_,_,_,rfl,g.le l3⟩⟩
theorem c_frac_abs {V:View} (n:Int) (h0:-9223372036854775808 < n) (h1:n<=9223372036854775807) :
  Acts prog 182 #[.int .i64 n] V fun r V'=>r=.int .u64 (n.natAbs:Int):=by
 refine vc_frac_abs n V _ ⟨fun h2 V1 l1=>?_,fun h2 V1 l1=>?_⟩
 ·have h2:n < 0:=by simpa using h2
  rw [i64w (by omega),u64w (by omega)]; congr 1; omega
 ·have h2:0<=n:=by simpa using h2
  rw [u64w (by omega)]; congr 1; omega
theorem c_frac_gcd {V:View} (x y:Nat) (hx:x < 18446744073709551616) (hy:y < 18446744073709551616) :
  Acts prog 183 #[.int .u64 (x:Int),.int .u64 (y:Int)] V fun r V'=>r=.int .u64 (Nat.gcd x y:Int):=by
 refine vc_frac_gcd _ _ V _ ⟨fun z V'=>∃a b:Nat,z=((a:Int),(b:Int))/\Nat.gcd a b=Nat.gcd x y,fun z=>z.2.toNat,
  ⟨((x:Int),(y:Int)),by (try dsimp only); and_intros <;> trivial,x,y,rfl,rfl⟩,?_⟩
 rintro _ V16 l16 ⟨a,b,rfl,hab⟩
 dsimp only
 refine ⟨by trivial,fun h3=>?_,fun h3 V17 l17=>?_⟩
 ·have h3:b≠0:=by rw [bne_iff_ne] at h3; omega
  have hlt:a % b < b:=Nat.mod_lt _ (by omega)
  have e4:(a:Int).tmod (b:Int)=((a % b:Nat):Int):=by rw [Int.tmod_eq_emod_of_nonneg (by omega),← Int.natCast_emod]
  rw [e4]
  exact ⟨by omega,((b:Int),((a % b:Nat):Int)),by (try dsimp only); rw [Int.toNat_natCast,Int.toNat_natCast]; exact hlt,by (try dsimp only); and_intros <;> trivial,b,a % b,rfl,by rw [gcd_step,hab]⟩
 ·have h3:b=0:=by rw [bne_eq_false_iff_eq] at h3; omega
  subst h3
  rw [Nat.gcd_zero_right] at hab
  rw [hab]
theorem c_frac_times {V:View} (a b:Int) (ha:a.natAbs < 4611686018427387904) (hb:b.natAbs < 4611686018427387904) :
  Acts prog 134 #[.int .i64 a,.int .i64 b] V fun r V'=>∃z:Int,r=.tuple #[.int .i64 z,.bool (decide ((a * b).natAbs < 4611686018427387904))]/\((a * b).natAbs < 4611686018427387904->z=a * b):=by
 refine vc_frac_times a b V _ fun V1 l1=>(c_frac_abs a (by omega) (by omega)).mono ?_
 rintro r V2 l2 rfl
 refine ⟨_,rfl,fun V3 l3=>(c_frac_abs b (by omega) (by omega)).mono ?_⟩
 rintro r V4 l4 rfl
 refine ⟨_,rfl,fun V5 l5=>(c_Mul64 _ _ (by omega) (by omega)).mono ?_⟩
 rintro r V6 l6 rfl
 have hab:(a * b).natAbs=a.natAbs * b.natAbs:=Int.natAbs_mul a b
 have hsg:a * b=if (decide (a < 0) == decide (b < 0)) then ((a.natAbs * b.natAbs:Nat):Int) else -((a.natAbs * b.natAbs:Nat):Int):=by
  rw [Int.natCast_mul]
  by_cases h1:a < 0 <;> by_cases h2:b < 0
  ·rw [decide_eq_true h1,decide_eq_true h2,show (a.natAbs:Int)=-a from by omega,show (b.natAbs:Int)=-b from by omega]; simp [Int.neg_mul,Int.mul_neg]
  ·rw [decide_eq_true h1,decide_eq_false h2,if_neg (by decide),show (a.natAbs:Int)=-a from by omega,show (b.natAbs:Int)=b from by omega]; simp [Int.neg_mul]
  ·rw [decide_eq_false h1,decide_eq_true h2,if_neg (by decide),show (a.natAbs:Int)=a from by omega,show (b.natAbs:Int)=-b from by omega]; simp [Int.mul_neg]
  ·rw [decide_eq_false h1,decide_eq_false h2,show (a.natAbs:Int)=a from by omega,show (b.natAbs:Int)=b from by omega]; simp
 rw [hab]
 generalize a.natAbs * b.natAbs=p at *
 refine ⟨_,_,rfl,fun h0 V7 l7=>?_,fun h0=>⟨fun h1 V7 l7=>?_,fun h1=>⟨fun h2 V7 l7=>?_,fun h2 V7 l7=>?_⟩⟩⟩
 ·have h0:18446744073709551616<=p:=by rw [bne_iff_ne] at h0; omega
  rw [decide_eq_false (by omega)]
  exact ⟨_,rfl,fun h=>by omega⟩
 ·have h1:4611686018427387904<=p:=by
   rw [decide_eq_true_eq] at h1; omega
  rw [decide_eq_false (by omega)]
  exact ⟨_,rfl,fun h=>by omega⟩
 ·have h0:p / 18446744073709551616=0:=by rw [bne_eq_false_iff_eq] at h0; omega
  have h1:p < 4611686018427387904:=by rw [decide_eq_false_iff_not] at h1; omega
  rw [decide_eq_true h1,i64w (x:=((p % 18446744073709551616:Nat):Int)) (by omega),i64w (by omega)]
  refine ⟨_,rfl,fun _=>?_⟩
  have h2:(decide (a < 0) == decide (b < 0))=false:=by simpa using h2
  rw [hsg,h2,if_neg (by decide)]; omega
 ·have h0:p / 18446744073709551616=0:=by rw [bne_eq_false_iff_eq] at h0; omega
  have h1:p < 4611686018427387904:=by rw [decide_eq_false_iff_not] at h1; omega
  rw [decide_eq_true h1,i64w (x:=((p % 18446744073709551616:Nat):Int)) (by omega)]
  refine ⟨_,rfl,fun _=>?_⟩
  have h2:(decide (a < 0) == decide (b < 0))=true:=by simpa using h2
  rw [hsg,h2,if_pos rfl]; omega
theorem c_frac_lowest {V:View} (n:Int) (d:Nat) (hn:n.natAbs < 4611686018427387904) (hd:d < 4611686018427387904) (hd0:d≠0) :
  Acts prog 135 #[.int .i64 n,.int .i64 (d:Int)] V fun r V'=>RR V' r (mkRat n d):=by
 refine vc_frac_lowest n _ V _ fun V1 l1=>(c_frac_abs n (by omega) (by omega)).mono ?_
 rintro r V2 l2 rfl
 rw [u64w (x:=(d:Int)) (by omega)]
 refine ⟨_,rfl,fun V3 l3=>(c_frac_gcd _ _ (by omega) (by omega)).mono ?_⟩
 rintro r V4 l4 rfl
 have hgl:Nat.gcd n.natAbs d<=d:=Nat.le_of_dvd (by omega) (Nat.gcd_dvd_right _ _)
 have hgp:0 < Nat.gcd n.natAbs d:=Nat.gcd_pos_of_pos_right _ (by omega)
 have hnum:=Rat.num_mkRat n d
 have hden:=Rat.den_mkRat n d
 rw [if_neg hd0,Nat.gcd_comm] at hnum hden
 have hdvd:(Nat.gcd n.natAbs d:Int) ∣ n:=Int.ofNat_dvd_left.2 (Nat.gcd_dvd_left _ _)
 have hdl:d / Nat.gcd n.natAbs d<=d:=Nat.div_le_self _ _
 have hnl:(n / (Nat.gcd n.natAbs d:Int)).natAbs<=n.natAbs:=by
  rw [Int.natAbs_ediv_of_dvd hdvd,Int.natAbs_natCast]; exact Nat.div_le_self _ _
 have hW:Wd (mkRat n d):=by unfold Wd; rw [hnum,hden]; omega
 refine ⟨_,rfl,?_⟩
 rw [i64w (x:=((Nat.gcd n.natAbs d:Nat):Int)) (by omega)]
 refine ⟨fun h0=>⟨by omega,by omega,fun V5 l5=>.inl ⟨?_,hW⟩⟩,fun h0 V5 l5=>.inl ⟨?_,hW⟩⟩
 ·rw [hnum,hden]
  have e1:n.tdiv (Nat.gcd n.natAbs d:Int)=n / (Nat.gcd n.natAbs d:Int):=Int.tdiv_eq_ediv_of_dvd hdvd
  have e2:(d:Int).tdiv (Nat.gcd n.natAbs d:Int)=((d / Nat.gcd n.natAbs d:Nat):Int):=by rw [Int.tdiv_eq_ediv_of_nonneg (by omega),← Int.natCast_ediv]
  rw [e1,e2]
  generalize n / (Nat.gcd n.natAbs d:Int)=nn at *
  generalize d / Nat.gcd n.natAbs d=dd at *
  rw [i64w (by omega),i64w (x:=(dd:Int)) (by omega),i64w (by omega)]
 ·have h0:Nat.gcd n.natAbs d=1:=by rw [decide_eq_false_iff_not] at h0; omega
  rw [hnum,hden,h0,i64w (by omega)]
  simp
end Go.Proofs.Tryz
/- Contracts of package frac: Int, Whole, Neg, Sign, Add, Cmp, Gcd. -/
namespace Go.Proofs.Tryz
open Go.Eng Go.Big
theorem mkRat_one (z:Int):mkRat z 1=(z:Rat):=by
 apply Rat.ext
 ·rw [Rat.num_mkRat]; simp
 ·rw [Rat.den_mkRat]; simp
theorem RD.one {V:View} {bk:Nat} {ty:TypeId} {m:Nat × Nat} (h:V.blk bk (.cells #[.int .u32 1] ty m)):RD V (some ⟨bk,0,none⟩) 1 1 [1]:=
 RD.blk (ds:=[1]) h (by simp [Dig]) rfl (Nat.le_refl _)
theorem c_frac_Whole {V:View} (b:Bool) {p:OA} {n c:Nat} {ds:List Nat} (h:RD V p n c ds) (hm:ds.length<=1099511627776) :
  Acts prog 215 #[.agg #[.bool b,.slice p n c]] V fun r V'=>RR V' r (ival b ds:Rat):=by
 refine vc_frac_Whole b p n c V _ fun V1 l1 bk hb=>(c_frac_reduce b (h.le l1) (RD.one hb) hm (by simp)).mono ?_
 rintro r V2 l2 hr
 have e:mkRat (ival b ds) (val [1])=(ival b ds:Rat):=mkRat_one _
 rw [e] at hr
 obtain ⟨n,d,p,rfl⟩:=hr.shape
 exact ⟨_,_,_,rfl,fun _ V3 l3=>hr.le l3⟩
theorem intCast_wd {z:Int} (h:z.natAbs < 4611686018427387904):Wd (z:Rat):=⟨h,by show (1:Nat) < _; decide⟩
theorem c_frac_Int {V:View} (n:Int) (h0:-9223372036854775808<=n) (h1:n<=9223372036854775807) :
  Acts prog 133 #[.int .i64 n] V fun r V'=>RR V' r (n:Rat):=by
 have big:∀V1:View,V.Le V1->Acts prog 180 #[.int .i64 n] V1 fun r1_ V2=>∃b1_:Bool,∃(p2_:OA) (n2_ c2_:Nat),r1_=.agg #[.bool b1_,.slice p2_ n2_ c2_]/\(∀V3:View,V2.Le V3->∀bk3_:Nat,V3.blk bk3_ (.cells #[.int .u32 1] 221 (0,0))->Acts prog 140 #[.agg #[.bool b1_,.slice p2_ n2_ c2_],.slice (some ⟨bk3_,0,none⟩) 1 1] V3 fun r3_ V4=>∃x4_:Int,∃x5_:Int,∃p6_:OA,r3_=.agg #[.int .i64 x4_,.int .i64 x5_,.pointer p6_]/\∀J7_:C->Value,(∀V5:View,V4.Le V5->RR V5 (.agg #[.int .i64 x4_,.int .i64 x5_,.pointer p6_]) (n:Rat))):=by
  intro V1 l1
  refine (c_integer_FromInt n h0 h1).mono ?_
  rintro r V2 l2 ⟨p,m,c,rfl,g⟩
  refine ⟨_,_,_,_,rfl,fun V3 l3 bk hb=>(c_frac_reduce _ (g.le l3) (RD.one hb) (Nat.le_trans (digs_len_bits (k:=64) (by omega)) (by omega)) (by simp)).mono ?_⟩
  rintro r V4 l4 hr
  have e:mkRat (ival (decide (n < 0)) (digs n.natAbs)) (val [1])=(n:Rat):=by rw [ival_digs]; exact mkRat_one _
  rw [e] at hr
  obtain ⟨n,d,p,rfl⟩:=hr.shape
  exact ⟨_,_,_,rfl,fun _ V3 l3=>hr.le l3⟩
 refine vc_frac_Int n V _ ⟨fun _=>big,fun h2=>⟨fun _=>big,fun h3 V1 l1=>.inl ⟨rfl,intCast_wd ?_⟩⟩⟩
 rw [decide_eq_false_iff_not] at h2 h3
 omega
theorem c_R_Sign {V:View} {v:Value} {q:Rat} (h:RR V v q) {k:Nat} (hs:Sz k q) (hk:k<=1099511627776) :
  Acts prog 179 #[v] V fun r V'=>r=.int .i64 q.num.sign:=by
 rcases h with ⟨rfl,hw⟩ | ⟨a,b,p,n,c,p',n',c',rfl,h1,h2,h3,h4,h5,hw⟩
 ·refine vc_frac_R_Sign _ _ _ V _ ⟨(fun h0=>nomatch h0),fun _=>⟨fun h V1 l1=>?_,fun h=>⟨fun h' V1 l1=>?_,fun h' V1 l1=>?_⟩⟩⟩
  ·rw [Int.sign_eq_neg_one_of_neg (by simpa using h)]
  ·rw [Int.sign_eq_one_of_pos (by simpa using h')]
  ·have:q.num=0:=by rw [decide_eq_false_iff_not] at h h'; omega
   rw [this]; rfl
 ·obtain ⟨rfl,hn⟩:=h4.inv
  refine vc_frac_R_Sign _ _ _ V _ ⟨fun _=>⟨rfl,rfl,decide (q.num < 0),p,n,c,a.add 0,rfl,?_,?_,fun V1 l1=>(c_integer_Sign _ (hn.le l1) (Nat.le_trans (digs_len_bits hs.1) hk)).mono ?_⟩,(fun h0=>nomatch h0)⟩
  ·exact h1
  ·simpa [Addr.add] using h2
  ·rintro r V2 l2 rfl
   rw [ival_digs]
   exact ⟨_,rfl,fun V3 l3=>rfl⟩
theorem c_R_Zero {V:View} {v:Value} {q:Rat} (h:RR V v q):Acts prog 216 #[v] V fun r V'=>r=.bool (decide (q=0)):=by
 rcases h with ⟨rfl,hw⟩ | ⟨a,b,p,n,c,p',n',c',rfl,h1,h2,h3,h4,h5,hw⟩
 ·refine vc_frac_R_Zero _ _ _ V _ ⟨fun _ V1 l1=>?_,(fun h0=>nomatch h0)⟩
  congr 1
  rw [Bool.eq_iff_iff,beq_iff_eq,decide_eq_true_eq]
  exact Rat.num_eq_zero
 ·refine vc_frac_R_Zero _ _ _ V _ ⟨(fun h0=>nomatch h0),fun _ V1 l1=>?_⟩
  congr 1
  symm; rw [decide_eq_false_iff_not]
  intro e; subst e; exact hw ⟨by decide,by decide⟩
theorem c_R_Neg {V:View} {v:Value} {q:Rat} (h:RR V v q) {k:Nat} (hs:Sz k q) (hk:k<=1099511627776) :
  Acts prog 142 #[v] V fun r V'=>RR V' r (-q):=by
 rcases h with ⟨rfl,hw⟩ | ⟨a,b,p,n,c,p',n',c',rfl,h1,h2,h3,h4,h5,hw⟩
 ·have:=hw.1
  refine vc_frac_R_Neg _ _ _ V _ ⟨(fun h0=>nomatch h0),fun _ V1 l1=>.inl ⟨?_,by unfold Wd; rw [Rat.neg_num,Rat.neg_den,Int.natAbs_neg]; exact hw⟩⟩
  rw [i64w (by omega),Rat.neg_num,Rat.neg_den,Int.zero_sub]
 ·obtain ⟨rfl,hn⟩:=h4.inv
  refine vc_frac_R_Neg _ _ _ V _ ⟨fun _=>⟨rfl,rfl,decide (q.num < 0),p,n,c,a.add 0,rfl,?_,?_,rfl,rfl,p',n',c',⟨_,rfl,h3⟩,fun V1 l1=>(c_integer_Neg _ (hn.le l1) (Nat.le_trans (digs_len_bits hs.1) hk)).mono ?_⟩,(fun h0=>nomatch h0)⟩
  ·exact h1
  ·simpa [Addr.add] using h2
  ·rintro r V2 l2 hri
   rw [ival_digs] at hri
   obtain ⟨p2,n2,c2,rfl,g⟩:=hri
   refine ⟨_,_,_,_,rfl,fun V3 l3 bk hb=>.inr ⟨⟨bk,0,none⟩,decide (-q.num < 0),p2,n2,c2,p',n',c',rfl,?_,?_,?_,?_,?_,?_⟩⟩
   ·rw [add_zero']; exact blk_at (xs:=[_,_,_]) hb rfl
   ·rw [add_zero']; exact blk_at (xs:=[_,_,_]) hb rfl
   ·rw [add_zero']; exact blk_at (xs:=[_,_,_]) hb rfl
   ·exact ⟨_,_,_,rfl,g.le l3⟩
   ·exact h5.le (l1.trans (l2.trans l3))
   ·unfold Wd; rw [Rat.neg_num,Rat.neg_den,Int.natAbs_neg]; exact hw
theorem _root_.Go.Eng.Sz.neg {k:Nat} {q:Rat} (h:Sz k q):Sz k (-q):=by unfold Sz; rw [Rat.neg_num,Rat.neg_den,Int.natAbs_neg]; exact h
theorem natAbs_ediv_le (z:Int) (g:Nat) (h:(g:Int) ∣ z):(z / g).natAbs<=z.natAbs:=by
 rw [Int.natAbs_ediv_of_dvd h,Int.natAbs_natCast]; exact Nat.div_le_self _ _
theorem _root_.Go.Eng.Sz.mkRat {k:Nat} {z:Int} {d:Nat} (h1:z.natAbs < 2 ^ k) (h2:d < 2 ^ k) (hk:0 < k):Sz k (mkRat z d):=by
 have h3:1 < 2 ^ k:=Nat.one_lt_two_pow (by omega)
 unfold Sz
 rw [Rat.num_mkRat,Rat.den_mkRat]
 split
 ·exact ⟨Nat.two_pow_pos k,h3⟩
 ·refine ⟨Nat.lt_of_le_of_lt (natAbs_ediv_le _ _ (Int.ofNat_dvd_left.2 (Nat.gcd_dvd_right _ _))) h1,Nat.lt_of_le_of_lt (Nat.div_le_self _ _) h2⟩
theorem pow_mul_lt {a b k m:Nat} (h1:a < 2 ^ k) (h2:b < 2 ^ m):a * b < 2 ^ (k + m):=by rw [Nat.pow_add]; exact Nat.mul_lt_mul'' h1 h2
theorem add_bits {x y:Rat} {k m:Nat} (hx:Sz k x) (hy:Sz m y):(x.num * y.den).natAbs < 2 ^ (k + m)/\(y.num * x.den).natAbs < 2 ^ (k + m)/\(x.num * y.den + y.num * x.den).natAbs < 2 ^ (k + m + 1)/\x.den * y.den < 2 ^ (k + m):=by
 have h1:(x.num * y.den).natAbs < 2 ^ (k + m):=by rw [Int.natAbs_mul,Int.natAbs_natCast]; exact pow_mul_lt hx.1 hy.2
 have h2:(y.num * x.den).natAbs < 2 ^ (k + m):=by rw [Int.natAbs_mul,Int.natAbs_natCast,Nat.add_comm]; exact pow_mul_lt hy.1 hx.2
 refine ⟨h1,h2,?_,pow_mul_lt hx.2 hy.2⟩
 rw [Nat.pow_succ]; omega
theorem _root_.Go.Eng.Sz.add {x y:Rat} {k m:Nat} (hx:Sz k x) (hy:Sz m y):Sz (k + m + 1) (x + y):=by
 obtain ⟨-,-,h3,h4⟩:=add_bits hx hy
 rw [Rat.add_def']
 exact Go.Eng.Sz.mkRat h3 (Nat.lt_of_lt_of_le h4 (Nat.pow_le_pow_right (by omega) (by omega))) (by omega)
theorem _root_.Go.Eng.Sz.sub {x y:Rat} {k m:Nat} (hx:Sz k x) (hy:Sz m y):Sz (k + m + 1) (x - y):=by
 rw [Rat.sub_eq_add_neg]; exact hx.add hy.neg
theorem _root_.Go.Eng.Sz.mul {x y:Rat} {k m:Nat} (hx:Sz k x) (hy:Sz m y):Sz (k + m + 1) (x * y):=by
 rw [Rat.mul_def']
 refine (Go.Eng.Sz.mkRat (k:=k + m + 1) ?_ ?_ (by omega))
 ·rw [Int.natAbs_mul]; exact Nat.lt_of_lt_of_le (pow_mul_lt hx.1 hy.1) (Nat.pow_le_pow_right (by omega) (by omega))
 ·exact Nat.lt_of_lt_of_le (pow_mul_lt hx.2 hy.2) (Nat.pow_le_pow_right (by omega) (by omega))
theorem c_R_Add {V:View} {v w:Value} {x y:Rat} (hx:RR V v x) (hy:RR V w y) {k m:Nat} (hk:Sz k x) (hm:Sz m y) (hkm:k + m < 1099511627776) :
  Acts prog 74 #[v,w] V fun r V'=>RR V' r (x + y):=by
 obtain ⟨r0,r1,r2,rfl⟩:=hx.shape
 obtain ⟨s0,s1,s2,rfl⟩:=hy.shape
 have hxy:x + y=mkRat (x.num * y.den + y.num * x.den) (x.den * y.den):=Rat.add_def' x y
 obtain ⟨b1,b2,b3,b4⟩:=add_bits hk hm
 have gen:(∀V46:View,V.Le V46->Acts prog 138 #[.agg #[.int .i64 r0,.int .i64 r1,.pointer r2]] V46 fun r46_ V47=>∃b53_:Bool,∃(p54_:OA) (n54_ c54_:Nat),r46_=.agg #[.bool b53_,.slice p54_ n54_ c54_]/\(∀V48:View,V47.Le V48->Acts prog 139 #[.agg #[.int .i64 s0,.int .i64 s1,.pointer s2]] V48 fun r48_ V49=>∃(p55_:OA) (n55_ c55_:Nat),r48_=.slice p55_ n55_ c55_/\(∀V50:View,V49.Le V50->Acts prog 137 #[.agg #[.bool b53_,.slice p54_ n54_ c54_],.agg #[.bool false,.slice p55_ n55_ c55_]] V50 fun r50_ V51=>∃b56_:Bool,∃(p57_:OA) (n57_ c57_:Nat),r50_=.agg #[.bool b56_,.slice p57_ n57_ c57_]/\(∀V52:View,V51.Le V52->Acts prog 138 #[.agg #[.int .i64 s0,.int .i64 s1,.pointer s2]] V52 fun r52_ V53=>∃b58_:Bool,∃(p59_:OA) (n59_ c59_:Nat),r52_=.agg #[.bool b58_,.slice p59_ n59_ c59_]/\(∀V54:View,V53.Le V54->Acts prog 139 #[.agg #[.int .i64 r0,.int .i64 r1,.pointer r2]] V54 fun r54_ V55=>∃(p60_:OA) (n60_ c60_:Nat),r54_=.slice p60_ n60_ c60_/\(∀V56:View,V55.Le V56->Acts prog 137 #[.agg #[.bool b58_,.slice p59_ n59_ c59_],.agg #[.bool false,.slice p60_ n60_ c60_]] V56 fun r56_ V57=>∃b61_:Bool,∃(p62_:OA) (n62_ c62_:Nat),r56_=.agg #[.bool b61_,.slice p62_ n62_ c62_]/\(∀V58:View,V57.Le V58->Acts prog 136 #[.agg #[.bool b56_,.slice p57_ n57_ c57_],.agg #[.bool b61_,.slice p62_ n62_ c62_]] V58 fun r58_ V59=>∃b63_:Bool,∃(p64_:OA) (n64_ c64_:Nat),r58_=.agg #[.bool b63_,.slice p64_ n64_ c64_]/\(∀V60:View,V59.Le V60->Acts prog 139 #[.agg #[.int .i64 r0,.int .i64 r1,.pointer r2]] V60 fun r60_ V61=>∃(p65_:OA) (n65_ c65_:Nat),r60_=.slice p65_ n65_ c65_/\(∀V62:View,V61.Le V62->Acts prog 139 #[.agg #[.int .i64 s0,.int .i64 s1,.pointer s2]] V62 fun r62_ V63=>∃(p66_:OA) (n66_ c66_:Nat),r62_=.slice p66_ n66_ c66_/\(∀V64:View,V63.Le V64->Acts prog 141 #[.slice p65_ n65_ c65_,.slice p66_ n66_ c66_] V64 fun r64_ V65=>∃(p67_:OA) (n67_ c67_:Nat),r64_=.slice p67_ n67_ c67_/\(∀V66:View,V65.Le V66->Acts prog 140 #[.agg #[.bool b63_,.slice p64_ n64_ c64_],.slice p67_ n67_ c67_] V66 fun r66_ V67=>∃x68_:Int,∃x69_:Int,∃p70_:OA,r66_=.agg #[.int .i64 x68_,.int .i64 x69_,.pointer p70_]/\(∀V68:View,V67.Le V68->RR V68 (.agg #[.int .i64 x68_,.int .i64 x69_,.pointer p70_]) (x + y))))))))))))):=by
  intro V1 l1
  refine (c_R_Num (hx.le l1) hk (by omega)).mono ?_
  rintro r V2 l2 ⟨p1,n1,c1,rfl,g1⟩
  refine ⟨_,_,_,_,rfl,fun V3 l3=>(c_R_Den (hy.le (l1.trans (l2.trans l3))) hm (by omega)).mono ?_⟩
  rintro r V4 l4 ⟨p2,n2,c2,rfl,g2⟩
  have q1:=digs_len_bits hk.1
  have q2:=digs_len_bits hk.2
  have q3:=digs_len_bits hm.1
  have q4:=digs_len_bits hm.2
  refine ⟨_,_,_,rfl,fun V5 l5=>(c_integer_Mul _ false (g1.le (l3.trans (l4.trans l5))) (g2.le l5) (by omega)).mono ?_⟩
  rintro r V6 l6 h6
  rw [ival_digs,ival_false,val_digs] at h6
  obtain ⟨p3,n3,c3,rfl,g3⟩:=h6
  refine ⟨_,_,_,_,rfl,fun V7 l7=>(c_R_Num (hy.le (l1.trans (l2.trans (l3.trans (l4.trans (l5.trans (l6.trans l7))))))) hm (by omega)).mono ?_⟩
  rintro r V8 l8 ⟨p4,n4,c4,rfl,g4⟩
  refine ⟨_,_,_,_,rfl,fun V9 l9=>(c_R_Den (hx.le (l1.trans (l2.trans (l3.trans (l4.trans (l5.trans (l6.trans (l7.trans (l8.trans l9))))))))) hk (by omega)).mono ?_⟩
  rintro r V10 l10 ⟨p5,n5,c5,rfl,g5⟩
  refine ⟨_,_,_,rfl,fun V11 l11=>(c_integer_Mul _ false (g4.le (l9.trans (l10.trans l11))) (g5.le l11) (by omega)).mono ?_⟩
  rintro r V12 l12 h12
  rw [ival_digs,ival_false,val_digs] at h12
  obtain ⟨p6,n6,c6,rfl,g6⟩:=h12
  have q5:=digs_len_bits b1
  have q6:=digs_len_bits b2
  refine ⟨_,_,_,_,rfl,fun V13 l13=>(c_integer_Add _ _ (g3.le (l7.trans (l8.trans (l9.trans (l10.trans (l11.trans (l12.trans l13))))))) (g6.le l13) (by omega) (by omega)).mono ?_⟩
  rintro r V14 l14 h14
  rw [ival_digs,ival_digs] at h14
  obtain ⟨p7,n7,c7,rfl,g7⟩:=h14
  have L14:=l1.trans (l2.trans (l3.trans (l4.trans (l5.trans (l6.trans (l7.trans (l8.trans (l9.trans (l10.trans (l11.trans (l12.trans (l13.trans l14))))))))))))
  refine ⟨_,_,_,_,rfl,fun V15 l15=>(c_R_Den (hx.le (L14.trans l15)) hk (by omega)).mono ?_⟩
  rintro r V16 l16 ⟨p8,n8,c8,rfl,g8⟩
  refine ⟨_,_,_,rfl,fun V17 l17=>(c_R_Den (hy.le (L14.trans (l15.trans (l16.trans l17)))) hm (by omega)).mono ?_⟩
  rintro r V18 l18 ⟨p9,n9,c9,rfl,g9⟩
  refine ⟨_,_,_,rfl,fun V19 l19=>(c_nat_Mul (g8.le (l17.trans (l18.trans l19))) (g9.le l19) (by omega)).mono ?_⟩
  rintro r V20 l20 ⟨p10,n10,c10,rfl,g10⟩
  rw [val_digs,val_digs] at g10
  have q7:=digs_len_bits b3
  have q8:=digs_len_bits b4
  refine ⟨_,_,_,rfl,fun V21 l21=>(c_frac_reduce _ (g7.le (l15.trans (l16.trans (l17.trans (l18.trans (l19.trans (l20.trans l21))))))) (g10.le l21) (by omega) (by omega)).mono ?_⟩
  rintro r V22 l22 h22
  rw [ival_digs,val_digs,← hxy] at h22
  obtain ⟨n,d,p,rfl⟩:=h22.shape
  exact ⟨_,_,_,rfl,fun V23 l23=>h22.le l23⟩
 have lift:∀V1:View,V.Le V1->∀V2:View,V1.Le V2->V.Le V2:=fun _ h _ h'=>h.trans h'
 rcases hx with ⟨ex,wx⟩ | ⟨a,b,p,n,c,p',n',c',ex,-,-,-,-,-,wx⟩
 ·rcases hy with ⟨ey,wy⟩ | ⟨a,b,p,n,c,p',n',c',ey,-,-,-,-,-,wy⟩
  ·simp only [Value.agg.injEq,Array.mk.injEq,List.cons.injEq,Value.int.injEq,Value.pointer.injEq,true_and,and_true] at ex ey
   obtain ⟨rfl,rfl,rfl⟩:=ex
   obtain ⟨rfl,rfl,rfl⟩:=ey
   obtain ⟨wx1,wx2⟩:=wx
   obtain ⟨wy1,wy2⟩:=wy
   have dx:=x.den_nz
   have dy:=y.den_nz
   have e1:i64.wrap ((x.den:Int) - 1 + 1)=x.den:=by rw [i64w (by omega)]; omega
   have e2:i64.wrap ((y.den:Int) - 1 + 1)=y.den:=by rw [i64w (by omega)]; omega
   refine vc_frac_R_Add _ _ _ _ _ _ V _ ⟨fun _=>⟨fun _ _=>True,⟨fun _=>⟨fun h1=>⟨fun h2 V1 l1=>?_,fun h2=>?_⟩,fun h1=>?_⟩,(fun h=>nomatch h)⟩,fun _ V1 l1 _=>⟨by trivial,fun V2 l2=>gen V2 (l1.trans l2)⟩⟩,(fun h=>nomatch h)⟩
   ·have h1:x.den=1:=by rw [beq_iff_eq] at h1; omega
    have h2:y.den=1:=by rw [beq_iff_eq] at h2; omega
    rw [i64w (by omega)]
    refine (c_frac_Int _ (by omega) (by omega)).mono ?_
    rintro r V2 l2 hr
    have e:((x.num + y.num:Int):Rat)=x + y:=by
     rw [hxy,h1,h2]
     simp only [Nat.mul_one,Int.natCast_one,Int.mul_one]
     exact (mkRat_one _).symm
    rw [e] at hr
    obtain ⟨n,d,p,rfl⟩:=hr.shape
    exact ⟨_,_,_,rfl,fun V3 l3=>hr.le l3⟩
   all_goals
    rw [e1,e2]
    refine fun V4 l4=>(c_frac_times _ _ wx1 (by omega)).mono ?_
    rintro r V5 l5 ⟨z1,rfl,hz1⟩
    refine ⟨_,_,rfl,fun V6 l6=>(c_frac_times _ _ wy1 (by omega)).mono ?_⟩
    rintro r V7 l7 ⟨z2,rfl,hz2⟩
    refine ⟨_,_,rfl,fun V8 l8=>(c_frac_times _ _ (by omega) (by omega)).mono ?_⟩
    rintro r V9 l9 ⟨z3,rfl,hz3⟩
    refine ⟨_,_,rfl,fun g1=>⟨fun g2=>⟨fun g3=>⟨fun g4=>⟨fun g5 V10 l10=>?_,fun _=>⟨(),by and_intros <;> rfl,trivial⟩⟩,fun _=>⟨(),by and_intros <;> rfl,trivial⟩⟩,fun _=>⟨(),by and_intros <;> rfl,trivial⟩⟩,fun _=>⟨(),by and_intros <;> rfl,trivial⟩⟩,fun _=>⟨(),by and_intros <;> rfl,trivial⟩⟩
    rw [decide_eq_true_eq] at g1 g2 g3 g4 g5
    have k1:=hz1 g1
    have k2:=hz2 g2
    have k3:=hz3 g3
    rw [← k1] at g1
    rw [← k2] at g2
    rw [← Int.natCast_mul,Int.natAbs_natCast] at g3
    rw [← Int.natCast_mul] at k3
    rw [i64w (by omega)] at g4 g5 ⊢
    rw [k3]
    refine (c_frac_lowest _ _ (by omega) g3 (Nat.mul_ne_zero dx dy)).mono ?_
    rintro r V11 l11 hr
    rw [k1,k2,← hxy] at hr
    obtain ⟨n,d,p,rfl⟩:=hr.shape
    exact ⟨_,_,_,rfl,fun V3 l3=>hr.le l3⟩
  ·simp only [Value.agg.injEq,Array.mk.injEq,List.cons.injEq,Value.int.injEq,Value.pointer.injEq,true_and,and_true] at ex ey
   obtain ⟨rfl,rfl,rfl⟩:=ex
   obtain ⟨rfl,rfl,rfl⟩:=ey
   exact vc_frac_R_Add _ _ _ _ _ _ V _ ⟨fun _=>⟨fun _ _=>True,⟨(fun h=>nomatch h),fun _=>⟨(),by and_intros <;> rfl,trivial⟩⟩,fun _ V1 l1 _=>⟨by trivial,fun V2 l2=>gen V2 (l1.trans l2)⟩⟩,(fun h=>nomatch h)⟩
 ·simp only [Value.agg.injEq,Array.mk.injEq,List.cons.injEq,Value.int.injEq,Value.pointer.injEq,true_and,and_true] at ex
  obtain ⟨rfl,rfl,rfl⟩:=ex
  exact vc_frac_R_Add _ _ _ _ _ _ V _ ⟨(fun h=>nomatch h),fun _=>gen⟩
end Go.Proofs.Tryz
/- Contracts of package frac: Sub, Cmp, Equal, Gcd. -/
namespace Go.Big
/-- The order of two numbers. -/
def cmpQ (x y:Rat):Int:=(x - y).num.sign
/-- The greatest number of which both are integer multiples. -/
def gcdQ (x y:Rat):Rat:=mkRat (Nat.gcd (x.num.natAbs * y.den) (y.num.natAbs * x.den):Nat) (x.den * y.den)
theorem num_neg' {q:Rat}:q.num < 0↔q < 0:=by
 have:=@Rat.num_nonneg q
 rw [← Rat.not_le,← this]; omega
theorem num_pos' {q:Rat}:0 < q.num↔0 < q:=by
 have h1:=@Rat.num_nonneg q
 have h2:=@Rat.num_eq_zero q
 rw [Rat.lt_iff_le_and_ne,← h1]
 constructor
 ·intro h; exact ⟨by omega,fun e=>by rw [← e] at h; simp at h⟩
 ·rintro ⟨h,hne⟩
  have:q.num≠0:=fun e=>hne (h2.1 e).symm
  omega
theorem cmpQ_lt {x y:Rat}:x < y↔cmpQ x y=-1:=by
 unfold cmpQ
 rw [Int.sign_eq_neg_one_iff_neg,num_neg',Rat.lt_iff_sub_pos x y,← Rat.neg_sub y x]
 constructor
 ·intro h; have:=Rat.neg_lt_neg h; simpa using this
 ·intro h; have:=Rat.neg_lt_neg h; rw [Rat.neg_neg] at this; simpa using this
theorem cmpQ_gt {x y:Rat}:y < x↔cmpQ x y=1:=by
 unfold cmpQ
 rw [Int.sign_eq_one_iff_pos,num_pos',Rat.lt_iff_sub_pos y x]
theorem cmpQ_eq {x y:Rat}:x=y↔cmpQ x y=0:=by
 unfold cmpQ
 rw [Int.sign_eq_zero_iff_zero,Rat.num_eq_zero]
 constructor
 ·intro h; subst h; exact Rat.sub_self
 ·intro h
  have:=congrArg (· + y) h
  simpa [Rat.sub_add_cancel,Rat.zero_add] using this
end Go.Big
namespace Go.Proofs.Tryz
open Go.Eng Go.Big
theorem c_R_Sub {V:View} {v w:Value} {x y:Rat} (hx:RR V v x) (hy:RR V w y) {k m:Nat} (hk:Sz k x) (hm:Sz m y) (hkm:k + m < 1099511627776) :
  Acts prog 75 #[v,w] V fun r V'=>RR V' r (x - y):=by
 obtain ⟨r0,r1,r2,rfl⟩:=hx.shape
 obtain ⟨s0,s1,s2,rfl⟩:=hy.shape
 refine vc_frac_R_Sub _ _ _ _ _ _ V _ fun V1 l1=>(c_R_Neg (hy.le l1) hm (by omega)).mono ?_
 rintro r V2 l2 h2
 obtain ⟨n,d,p,rfl⟩:=h2.shape
 refine ⟨_,_,_,rfl,fun V3 l3=>(c_R_Add (hx.le (l1.trans (l2.trans l3))) (h2.le l3) hk hm.neg hkm).mono ?_⟩
 rintro r V4 l4 h4
 rw [← Rat.sub_eq_add_neg] at h4
 obtain ⟨n,d,p,rfl⟩:=h4.shape
 exact ⟨_,_,_,rfl,fun V5 l5=>h4.le l5⟩
theorem c_R_Cmp {V:View} {v w:Value} {x y:Rat} (hx:RR V v x) (hy:RR V w y) {k m:Nat} (hk:Sz k x) (hm:Sz m y) (hkm:k + m < 1099511627776) :
  Acts prog 129 #[v,w] V fun r V'=>r=.int .i64 (cmpQ x y):=by
 obtain ⟨r0,r1,r2,rfl⟩:=hx.shape
 obtain ⟨s0,s1,s2,rfl⟩:=hy.shape
 have gen:∀V14:View,V.Le V14->Acts prog 75 #[.agg #[.int .i64 r0,.int .i64 r1,.pointer r2],.agg #[.int .i64 s0,.int .i64 s1,.pointer s2]] V14 fun r14_ V15=>∃x9_:Int,∃x10_:Int,∃p11_:OA,r14_=.agg #[.int .i64 x9_,.int .i64 x10_,.pointer p11_]/\(∀V16:View,V15.Le V16->Acts prog 179 #[.agg #[.int .i64 x9_,.int .i64 x10_,.pointer p11_]] V16 fun r16_ V17=>∃x12_:Int,r16_=.int .i64 x12_/\(∀V18:View,V17.Le V18->Value.int .i64 x12_=.int .i64 (cmpQ x y))):=by
  intro V1 l1
  refine (c_R_Sub (hx.le l1) (hy.le l1) hk hm hkm).mono ?_
  rintro r V2 l2 h2
  obtain ⟨n,d,p,rfl⟩:=h2.shape
  refine ⟨_,_,_,rfl,fun V3 l3=>(c_R_Sign (h2.le l3) (hk.sub hm) (by omega)).mono ?_⟩
  rintro r V4 l4 rfl
  exact ⟨_,rfl,fun _ _=>rfl⟩
 rcases hx with ⟨ex,wx⟩ | ⟨a,b,p,n,c,p',n',c',ex,-,-,-,-,-,wx⟩
 ·rcases hy with ⟨ey,wy⟩ | ⟨a,b,p,n,c,p',n',c',ey,-,-,-,-,-,wy⟩
  ·simp only [Value.agg.injEq,Array.mk.injEq,List.cons.injEq,Value.int.injEq,Value.pointer.injEq,true_and,and_true] at ex ey
   obtain ⟨rfl,rfl,rfl⟩:=ex
   obtain ⟨rfl,rfl,rfl⟩:=ey
   have hlt:x.den=y.den->((x < y↔x.num < y.num)/\(y < x↔y.num < x.num)/\(x=y↔x.num=y.num)):=by
    intro e
    have hd:(0:Int) < y.den:=by have:=y.den_nz; omega
    refine ⟨?_,?_,fun h=>by rw [h],fun h=>Rat.ext h e⟩
    ·rw [Rat.lt_iff,e]; exact ⟨fun h=>Int.lt_of_mul_lt_mul_right h (by omega),fun h=>Int.mul_lt_mul_of_pos_right h hd⟩
    ·rw [Rat.lt_iff,e]; exact ⟨fun h=>Int.lt_of_mul_lt_mul_right h (by omega),fun h=>Int.mul_lt_mul_of_pos_right h hd⟩
   refine vc_frac_R_Cmp _ _ _ _ _ _ V _ ⟨fun _=>⟨fun _=>⟨fun h1=>?_,fun _=>gen⟩,(fun h=>nomatch h)⟩,(fun h=>nomatch h)⟩
   have h1:x.den=y.den:=by rw [beq_iff_eq] at h1; omega
   obtain ⟨g1,g2,g3⟩:=hlt h1
   refine ⟨fun h V1 l1=>?_,fun h=>⟨fun h' V1 l1=>?_,fun h' V1 l1=>?_⟩⟩
   ·rw [cmpQ_lt.1 (g1.2 (by simpa using h))]
   ·rw [cmpQ_gt.1 (g2.2 (by simpa using h'))]
   ·rw [cmpQ_eq.1 (g3.2 (by rw [decide_eq_false_iff_not] at h h'; omega))]
  ·simp only [Value.agg.injEq,Array.mk.injEq,List.cons.injEq,Value.int.injEq,Value.pointer.injEq,true_and,and_true] at ex ey
   obtain ⟨rfl,rfl,rfl⟩:=ex
   obtain ⟨rfl,rfl,rfl⟩:=ey
   exact vc_frac_R_Cmp _ _ _ _ _ _ V _ ⟨fun _=>⟨(fun h=>nomatch h),fun _=>gen⟩,(fun h=>nomatch h)⟩
 ·simp only [Value.agg.injEq,Array.mk.injEq,List.cons.injEq,Value.int.injEq,Value.pointer.injEq,true_and,and_true] at ex
  obtain ⟨rfl,rfl,rfl⟩:=ex
  exact vc_frac_R_Cmp _ _ _ _ _ _ V _ ⟨(fun h=>nomatch h),fun _=>gen⟩
theorem c_R_Equal {V:View} {v w:Value} {x y:Rat} (hx:RR V v x) (hy:RR V w y) {k m:Nat} (hk:Sz k x) (hm:Sz m y) (hkm:k + m < 1099511627776) :
  Acts prog 178 #[v,w] V fun r V'=>r=.bool (decide (x=y)):=by
 obtain ⟨r0,r1,r2,rfl⟩:=hx.shape
 obtain ⟨s0,s1,s2,rfl⟩:=hy.shape
 refine vc_frac_R_Equal _ _ _ _ _ _ V _ fun V1 l1=>(c_R_Cmp (hx.le l1) (hy.le l1) hk hm hkm).mono ?_
 rintro r V2 l2 rfl
 refine ⟨_,rfl,fun V3 l3=>?_⟩
 congr 1
 rw [Bool.eq_iff_iff,beq_iff_eq,decide_eq_true_eq,cmpQ_eq]
theorem gcd_bits {x y:Rat} {k m:Nat} (hx:Sz k x) (hy:Sz m y):x.num.natAbs * y.den < 2 ^ (k + m)/\y.num.natAbs * x.den < 2 ^ (k + m)/\Nat.gcd (x.num.natAbs * y.den) (y.num.natAbs * x.den) < 2 ^ (k + m)/\x.den * y.den < 2 ^ (k + m):=by
 have h1:x.num.natAbs * y.den < 2 ^ (k + m):=pow_mul_lt hx.1 hy.2
 have h2:y.num.natAbs * x.den < 2 ^ (k + m):=by rw [Nat.add_comm]; exact pow_mul_lt hy.1 hx.2
 refine ⟨h1,h2,?_,pow_mul_lt hx.2 hy.2⟩
 rcases Nat.eq_zero_or_pos (x.num.natAbs * y.den) with e | e
 ·rw [e,Nat.gcd_zero_left]; exact h2
 ·exact Nat.lt_of_le_of_lt (Nat.le_of_dvd e (Nat.gcd_dvd_left _ _)) h1
theorem Sz_gcdQ {x y:Rat} {k m:Nat} (hx:Sz k x) (hy:Sz m y):Sz (k + m + 1) (gcdQ x y):=by
 obtain ⟨-,-,h3,h4⟩:=gcd_bits hx hy
 have h5:2 ^ (k + m)<=2 ^ (k + m + 1):=Nat.pow_le_pow_right (by omega) (by omega)
 exact Go.Eng.Sz.mkRat (by rw [Int.natAbs_natCast]; omega) (by omega) (by omega)
theorem c_frac_Gcd {V:View} {v w:Value} {x y:Rat} (hx:RR V v x) (hy:RR V w y) {k m:Nat} (hk:Sz k x) (hm:Sz m y) (hkm:k + m < 1099511627776) :
  Acts prog 217 #[v,w] V fun r V'=>RR V' r (gcdQ x y):=by
 obtain ⟨r0,r1,r2,rfl⟩:=hx.shape
 obtain ⟨s0,s1,s2,rfl⟩:=hy.shape
 obtain ⟨b1,b2,b3,b4⟩:=gcd_bits hk hm
 have q1:=digs_len_bits hk.1
 have q2:=digs_len_bits hk.2
 have q3:=digs_len_bits hm.1
 have q4:=digs_len_bits hm.2
 have q5:=digs_len_bits b1
 have q6:=digs_len_bits b2
 have q7:=digs_len_bits b3
 have q8:=digs_len_bits b4
 have gen:(∀V78:View,V.Le V78->Acts prog 139 #[.agg #[.int .i64 r0,.int .i64 r1,.pointer r2]] V78 fun r78_ V79=>∃(p52_:OA) (n52_ c52_:Nat),r78_=.slice p52_ n52_ c52_/\(∀V80:View,V79.Le V80->Acts prog 139 #[.agg #[.int .i64 s0,.int .i64 s1,.pointer s2]] V80 fun r80_ V81=>∃(p53_:OA) (n53_ c53_:Nat),r80_=.slice p53_ n53_ c53_/\(∀V82:View,V81.Le V82->Acts prog 141 #[.slice p52_ n52_ c52_,.slice p53_ n53_ c53_] V82 fun r82_ V83=>∃(p54_:OA) (n54_ c54_:Nat),r82_=.slice p54_ n54_ c54_/\(∀V84:View,V83.Le V84->Acts prog 138 #[.agg #[.int .i64 r0,.int .i64 r1,.pointer r2]] V84 fun r84_ V85=>∃b55_:Bool,∃(p56_:OA) (n56_ c56_:Nat),r84_=.agg #[.bool b55_,.slice p56_ n56_ c56_]/\(∀V86:View,V85.Le V86->Acts prog 139 #[.agg #[.int .i64 s0,.int .i64 s1,.pointer s2]] V86 fun r86_ V87=>∃(p57_:OA) (n57_ c57_:Nat),r86_=.slice p57_ n57_ c57_/\(∀V88:View,V87.Le V88->Acts prog 141 #[.slice p56_ n56_ c56_,.slice p57_ n57_ c57_] V88 fun r88_ V89=>∃(p58_:OA) (n58_ c58_:Nat),r88_=.slice p58_ n58_ c58_/\(∀V90:View,V89.Le V90->Acts prog 138 #[.agg #[.int .i64 s0,.int .i64 s1,.pointer s2]] V90 fun r90_ V91=>∃b59_:Bool,∃(p60_:OA) (n60_ c60_:Nat),r90_=.agg #[.bool b59_,.slice p60_ n60_ c60_]/\(∀V92:View,V91.Le V92->Acts prog 139 #[.agg #[.int .i64 r0,.int .i64 r1,.pointer r2]] V92 fun r92_ V93=>∃(p61_:OA) (n61_ c61_:Nat),r92_=.slice p61_ n61_ c61_/\(∀V94:View,V93.Le V94->Acts prog 141 #[.slice p60_ n60_ c60_,.slice p61_ n61_ c61_] V94 fun r94_ V95=>∃(p62_:OA) (n62_ c62_:Nat),r94_=.slice p62_ n62_ c62_/\(∀V96:View,V95.Le V96->Acts prog 192 #[.slice p58_ n58_ c58_,.slice p62_ n62_ c62_] V96 fun r96_ V97=>∃(p63_:OA) (n63_ c63_:Nat),r96_=.slice p63_ n63_ c63_/\(∀V98:View,V97.Le V98->Acts prog 140 #[.agg #[.bool false,.slice p63_ n63_ c63_],.slice p54_ n54_ c54_] V98 fun r98_ V99=>∃x64_:Int,∃x65_:Int,∃p66_:OA,r98_=.agg #[.int .i64 x64_,.int .i64 x65_,.pointer p66_]/\(∀V100:View,V99.Le V100->RR V100 (.agg #[.int .i64 x64_,.int .i64 x65_,.pointer p66_]) (gcdQ x y))))))))))))):=by
  intro V1 l1
  refine (c_R_Den (hx.le l1) hk (by omega)).mono ?_
  rintro r V2 l2 ⟨p1,n1,c1,rfl,g1⟩
  refine ⟨_,_,_,rfl,fun V3 l3=>(c_R_Den (hy.le (l1.trans (l2.trans l3))) hm (by omega)).mono ?_⟩
  rintro r V4 l4 ⟨p2,n2,c2,rfl,g2⟩
  refine ⟨_,_,_,rfl,fun V5 l5=>(c_nat_Mul (g1.le (l3.trans (l4.trans l5))) (g2.le l5) (by omega)).mono ?_⟩
  rintro r V6 l6 ⟨p3,n3,c3,rfl,g3⟩
  rw [val_digs,val_digs] at g3
  have L6:=l1.trans (l2.trans (l3.trans (l4.trans (l5.trans l6))))
  refine ⟨_,_,_,rfl,fun V7 l7=>(c_R_Num (hx.le (L6.trans l7)) hk (by omega)).mono ?_⟩
  rintro r V8 l8 ⟨p4,n4,c4,rfl,g4⟩
  refine ⟨_,_,_,_,rfl,fun V9 l9=>(c_R_Den (hy.le (L6.trans (l7.trans (l8.trans l9)))) hm (by omega)).mono ?_⟩
  rintro r V10 l10 ⟨p5,n5,c5,rfl,g5⟩
  refine ⟨_,_,_,rfl,fun V11 l11=>(c_nat_Mul (g4.le (l9.trans (l10.trans l11))) (g5.le l11) (by omega)).mono ?_⟩
  rintro r V12 l12 ⟨p6,n6,c6,rfl,g6⟩
  rw [val_digs,val_digs] at g6
  have L12:=L6.trans (l7.trans (l8.trans (l9.trans (l10.trans (l11.trans l12)))))
  refine ⟨_,_,_,rfl,fun V13 l13=>(c_R_Num (hy.le (L12.trans l13)) hm (by omega)).mono ?_⟩
  rintro r V14 l14 ⟨p7,n7,c7,rfl,g7⟩
  refine ⟨_,_,_,_,rfl,fun V15 l15=>(c_R_Den (hx.le (L12.trans (l13.trans (l14.trans l15)))) hk (by omega)).mono ?_⟩
  rintro r V16 l16 ⟨p8,n8,c8,rfl,g8⟩
  refine ⟨_,_,_,rfl,fun V17 l17=>(c_nat_Mul (g7.le (l15.trans (l16.trans l17))) (g8.le l17) (by omega)).mono ?_⟩
  rintro r V18 l18 ⟨p9,n9,c9,rfl,g9⟩
  rw [val_digs,val_digs] at g9
  have L18:=l13.trans (l14.trans (l15.trans (l16.trans (l17.trans l18))))
  refine ⟨_,_,_,rfl,fun V19 l19=>(c_nat_Gcd (g6.le (L18.trans l19)) (g9.le l19) (by omega) (by omega)).mono ?_⟩
  rintro r V20 l20 ⟨p10,n10,c10,rfl,g10⟩
  rw [val_digs,val_digs] at g10
  refine ⟨_,_,_,rfl,fun V21 l21=>(c_frac_reduce false (g10.le l21) (g3.le (l7.trans (l8.trans (l9.trans (l10.trans (l11.trans (l12.trans (L18.trans (l19.trans (l20.trans l21)))))))))) (by omega) (by omega)).mono ?_⟩
  rintro r V22 l22 h22
  rw [ival_false,val_digs,val_digs] at h22
  obtain ⟨n,d,p,rfl⟩:=h22.shape
  exact ⟨_,_,_,rfl,fun V23 l23=>h22.le l23⟩
 rcases hx with ⟨ex,wx⟩ | ⟨a,b,p,n,c,p',n',c',ex,-,-,-,-,-,wx⟩
 ·rcases hy with ⟨ey,wy⟩ | ⟨a,b,p,n,c,p',n',c',ey,-,-,-,-,-,wy⟩
  ·simp only [Value.agg.injEq,Array.mk.injEq,List.cons.injEq,Value.int.injEq,Value.pointer.injEq,true_and,and_true] at ex ey
   obtain ⟨rfl,rfl,rfl⟩:=ex
   obtain ⟨rfl,rfl,rfl⟩:=ey
   obtain ⟨wx1,wx2⟩:=wx
   obtain ⟨wy1,wy2⟩:=wy
   refine vc_frac_Gcd _ _ _ _ _ _ V _ ⟨fun _=>⟨fun _=>⟨fun h1=>⟨fun _ _=>True,⟨fun h2 V1 l1=>?_,fun _=>⟨(),by and_intros <;> rfl,trivial⟩⟩,fun _ V1 l1 _=>⟨by trivial,fun V2 l2=>gen V2 (l1.trans l2)⟩⟩,fun _=>gen⟩,(fun h=>nomatch h)⟩,(fun h=>nomatch h)⟩
   have h1:x.den=1:=by rw [beq_iff_eq] at h1; omega
   have h2:y.den=1:=by rw [beq_iff_eq] at h2; omega
   refine (c_frac_abs _ (by omega) (by omega)).mono ?_
   rintro r V2 l2 rfl
   refine ⟨_,rfl,fun V3 l3=>(c_frac_abs _ (by omega) (by omega)).mono ?_⟩
   rintro r V4 l4 rfl
   refine ⟨_,rfl,fun V5 l5=>(c_frac_gcd _ _ (by omega) (by omega)).mono ?_⟩
   rintro r V6 l6 rfl
   refine ⟨_,rfl,fun V7 l7=>.inl ?_⟩
   have e:gcdQ x y=((Nat.gcd x.num.natAbs y.num.natAbs:Nat):Int):=by
    unfold gcdQ
    rw [h1,h2,Nat.mul_one,Nat.mul_one,Nat.mul_one]
    exact mkRat_one _
   have hl:Nat.gcd x.num.natAbs y.num.natAbs < 4611686018427387904:=by
    rcases Nat.eq_zero_or_pos x.num.natAbs with e | e
    ·rw [e,Nat.gcd_zero_left]; exact wy1
    ·exact Nat.lt_of_le_of_lt (Nat.le_of_dvd e (Nat.gcd_dvd_left _ _)) wx1
   rw [e,i64w (by omega)]
   exact ⟨rfl,intCast_wd (by rw [Int.natAbs_natCast]; exact hl)⟩
  ·simp only [Value.agg.injEq,Array.mk.injEq,List.cons.injEq,Value.int.injEq,Value.pointer.injEq,true_and,and_true] at ex ey
   obtain ⟨rfl,rfl,rfl⟩:=ex
   obtain ⟨rfl,rfl,rfl⟩:=ey
   exact vc_frac_Gcd _ _ _ _ _ _ V _ ⟨fun _=>⟨(fun h=>nomatch h),fun _=>gen⟩,(fun h=>nomatch h)⟩
 ·simp only [Value.agg.injEq,Array.mk.injEq,List.cons.injEq,Value.int.injEq,Value.pointer.injEq,true_and,and_true] at ex
  obtain ⟨rfl,rfl,rfl⟩:=ex
  exact vc_frac_Gcd _ _ _ _ _ _ V _ ⟨(fun h=>nomatch h),fun _=>gen⟩
end Go.Proofs.Tryz
/- Contracts of the reference's rational numbers: Plus, Sub, Times, C. -/
namespace Go.Proofs.Tryz
open Go.Eng Go.Big
theorem c_num_pos {V:View} {p:OA} {n c x:Nat} (h:RN V p n c x) :
  Acts prog 82 #[.bool false,.slice p n c] V fun r V'=>RI V' r (x:Int):=by
 have:=c_num_Make false h
 rwa [if_neg (by decide)] at this
theorem den_one_len {x:Rat} {k:Nat} (h:Sz k x):(digs x.num.natAbs).length<=k/\(digs x.den).length<=k/\(digs (x.den:Int).natAbs).length<=k:=⟨digs_len_bits h.1,digs_len_bits h.2,digs_len_bits h.2⟩
theorem c_num_Plus {V:View} {v w:Value} {x y:Rat} (hx:RQ V v x) (hy:RQ V w y) {k m:Nat} (hk:Sz k x) (hm:Sz m y) (hkm:k + m < 274877906944) :
  Acts prog 23 #[v,w] V fun r V'=>RQ V' r (x + y):=by
 obtain ⟨p,n,c,p',n',c',rfl,hx1,hx2⟩:=hx
 obtain ⟨q,i,e,q',i',e',rfl,hy1,hy2⟩:=hy
 have hlx:=dend_len hx2
 have hly:=dend_len hy2
 obtain ⟨b1,b2,b3,b4⟩:=add_bits hk hm
 obtain ⟨d1,d2,d3⟩:=den_one_len hk
 obtain ⟨d4,d5,d6⟩:=den_one_len hm
 have hxy:x + y=mkRat (x.num * y.den + y.num * x.den) (x.den * y.den):=Rat.add_def' x y
 refine (fun tail=>vc_num_Plus _ p n c p' n' c' _ q i e q' i' e' V _ ⟨fun h0=>⟨fun h1 V1 l1=>?_,fun _=>tail⟩,fun _=>tail⟩) ?_
 ·clear tail
  have h0:x.den=1:=hlx.1 (by simp at h0; omega)
  have h1:y.den=1:=hly.1 (by simp at h1; omega)
  refine (c_num_Add x.num y.num (hx1.le l1) (hy1.le l1) (by omega) (by omega)).mono ?_
  rintro r V2 l2 ⟨p2,n2,c2,rfl,g⟩
  have e1:x + y=((x.num + y.num:Int):Rat):=by
   rw [hxy,h0,h1]; simp [Rat.mkRat_one]
  rw [e1]
  exact ⟨_,_,_,_,rfl,fun V3 l3=>rq_of (z:=x.num + y.num) (d:=1) rfl rfl (g.le l3) RD.nil rfl⟩
 ·intro V1 l1
  refine (c_num_Den y _ (hy2.le l1)).mono ?_
  rintro r V2 l2 ⟨p1,n1,c1,rfl,g1⟩
  refine ⟨_,_,_,rfl,fun V3 l3=>(c_num_pos (g1.le l3)).mono ?_⟩
  rintro r V4 l4 ⟨p3,n3,c3,rfl,g3⟩
  have l04:=l1.trans (l2.trans (l3.trans l4))
  refine ⟨_,_,_,_,rfl,fun V5 l5=>(c_num_Mul x.num y.den (hx1.le (l04.trans l5)) (g3.le l5) (by omega)).mono ?_⟩
  rintro r V6 l6 ⟨p5,n5,c5,rfl,g5⟩
  have l06:=l04.trans (l5.trans l6)
  refine ⟨_,_,_,_,rfl,fun V7 l7=>(c_num_Den x _ (hx2.le (l06.trans l7))).mono ?_⟩
  rintro r V8 l8 ⟨p7,n7,c7,rfl,g7⟩
  have l08:=l06.trans (l7.trans l8)
  refine ⟨_,_,_,rfl,fun V9 l9=>(c_num_pos (g7.le l9)).mono ?_⟩
  rintro r V10 l10 ⟨p9,n9,c9,rfl,g9⟩
  have l10':=l08.trans (l9.trans l10)
  refine ⟨_,_,_,_,rfl,fun V11 l11=>(c_num_Mul y.num x.den (hy1.le (l10'.trans l11)) (g9.le l11) (by omega)).mono ?_⟩
  rintro r V12 l12 ⟨p11,n11,c11,rfl,g11⟩
  have l012:=l10'.trans (l11.trans l12)
  refine ⟨_,_,_,_,rfl,fun V13 l13=>(c_num_Add _ _ (g5.le (l7.trans (l8.trans (l9.trans (l10.trans (l11.trans (l12.trans l13))))))) (g11.le l13) (Nat.le_trans (digs_len_bits b1) (by omega)) (Nat.le_trans (digs_len_bits b2) (by omega))).mono ?_⟩
  rintro r V14 l14 ⟨p13,n13,c13,rfl,g13⟩
  have l014:=l012.trans (l13.trans l14)
  refine ⟨_,_,_,_,rfl,fun V15 l15=>(c_num_Den x _ (hx2.le (l014.trans l15))).mono ?_⟩
  rintro r V16 l16 ⟨p15,n15,c15,rfl,g15⟩
  have l016:=l014.trans (l15.trans l16)
  refine ⟨_,_,_,rfl,fun V17 l17=>(c_num_Den y _ (hy2.le (l016.trans l17))).mono ?_⟩
  rintro r V18 l18 ⟨p17,n17,c17,rfl,g17⟩
  refine ⟨_,_,_,rfl,fun V19 l19=>(c_num_Product (g15.le (l17.trans (l18.trans l19))) (g17.le l19) (by omega)).mono ?_⟩
  rintro r V20 l20 ⟨p19,n19,c19,rfl,g19⟩
  rw [val_digs,val_digs] at g19
  refine ⟨_,_,_,rfl,fun V21 l21=>(c_num_Frac _ (g13.le (l15.trans (l16.trans (l17.trans (l18.trans (l19.trans (l20.trans l21))))))) (g19.le l21) (Nat.le_trans (digs_len_bits b3) (by omega)) (Nat.le_trans (digs_len_bits b4) (by omega)) (Nat.mul_ne_zero x.den_nz y.den_nz)).mono ?_⟩
  rw [hxy]
  rintro r V22 l22 ⟨p21,n21,c21,p22,n22,c22,rfl,g21,g22⟩
  exact ⟨_,_,_,_,_,_,_,rfl,fun V23 l23=>⟨_,_,_,_,_,_,rfl,g21.le l23,g22.le l23⟩⟩
theorem c_num_Sub {V:View} {v w:Value} {x y:Rat} (hx:RQ V v x) (hy:RQ V w y) {k m:Nat} (hk:Sz k x) (hm:Sz m y) (hkm:k + m < 274877906944) :
  Acts prog 78 #[v,w] V fun r V'=>RQ V' r (x - y):=by
 have hx0:=hx
 obtain ⟨p,n,c,p',n',c',rfl,hx1,hx2⟩:=hx
 obtain ⟨q,i,e,q',i',e',rfl,hy1,hy2⟩:=hy
 refine vc_num_Sub _ p n c p' n' c' _ q i e q' i' e' V _ fun V1 l1=>(c_num_Opp y (hy1.le l1) (hy2.le l1)).mono ?_
 rintro r V2 l2 h2
 obtain ⟨p1,n1,c1,p2,n2,c2,rfl,g1,g2⟩:=id h2
 refine ⟨_,_,_,_,_,_,_,rfl,fun V3 l3=>(c_num_Plus (hx0.le (l1.trans (l2.trans l3))) (h2.le l3) hk hm.neg hkm).mono ?_⟩
 rw [← Rat.sub_eq_add_neg]
 rintro r V4 l4 ⟨p3,n3,c3,p4,n4,c4,rfl,g3,g4⟩
 exact ⟨_,_,_,_,_,_,_,rfl,fun V5 l5=>⟨_,_,_,_,_,_,rfl,g3.le l5,g4.le l5⟩⟩
theorem c_num_C {V:View} {v w:Value} {x y:Rat} (hx:RQ V v x) (hy:RQ V w y) {k m:Nat} (hk:Sz k x) (hm:Sz m y) (hkm:k + m < 274877906944) :
  Acts prog 22 #[v,w] V fun r V'=>r=.int .i64 (cmpQ x y):=by
 have hx0:=hx
 have hy0:=hy
 obtain ⟨p,n,c,p',n',c',rfl,hx1,hx2⟩:=hx
 obtain ⟨q,i,e,q',i',e',rfl,hy1,hy2⟩:=hy
 refine vc_num_C _ p n c p' n' c' _ q i e q' i' e' V _ fun V1 l1=>(c_num_Sub (hx0.le l1) (hy0.le l1) hk hm hkm).mono ?_
 rintro r V2 l2 ⟨p1,n1,c1,p2,n2,c2,rfl,g1,g2⟩
 refine ⟨_,_,_,_,_,_,_,rfl,fun V3 l3=>(c_num_S (x - y) (g1.le l3)).mono ?_⟩
 rintro r V4 l4 rfl
 exact ⟨_,rfl,fun V5 l5=>rfl⟩
theorem c_num_Times {V:View} {v w:Value} {x y:Rat} (hx:RQ V v x) (hy:RQ V w y) {k m:Nat} (hk:Sz k x) (hm:Sz m y) (hkm:k + m < 274877906944) :
  Acts prog 168 #[v,w] V fun r V'=>RQ V' r (x * y):=by
 obtain ⟨p,n,c,p',n',c',rfl,hx1,hx2⟩:=hx
 obtain ⟨q,i,e,q',i',e',rfl,hy1,hy2⟩:=hy
 have hlx:=dend_len hx2
 have hly:=dend_len hy2
 obtain ⟨d1,d2,d3⟩:=den_one_len hk
 obtain ⟨d4,d5,d6⟩:=den_one_len hm
 have hxy:x * y=mkRat (x.num * y.num) (x.den * y.den):=Rat.mul_def' x y
 have b1:(x.num * y.num).natAbs < 2 ^ (k + m):=by rw [Int.natAbs_mul]; exact pow_mul_lt hk.1 hm.1
 have b2:x.den * y.den < 2 ^ (k + m):=pow_mul_lt hk.2 hm.2
 refine (fun tail=>vc_num_Times _ p n c p' n' c' _ q i e q' i' e' V _ ⟨fun h0=>⟨fun h1 V1 l1=>?_,fun _=>tail⟩,fun _=>tail⟩) ?_
 ·clear tail
  have h0:x.den=1:=hlx.1 (by simp at h0; omega)
  have h1:y.den=1:=hly.1 (by simp at h1; omega)
  refine (c_num_Mul x.num y.num (hx1.le l1) (hy1.le l1) (by omega)).mono ?_
  rintro r V2 l2 ⟨p2,n2,c2,rfl,g⟩
  have e1:x * y=((x.num * y.num:Int):Rat):=by
   rw [hxy,h0,h1]; simp [Rat.mkRat_one]
  rw [e1]
  exact ⟨_,_,_,_,rfl,fun V3 l3=>rq_of (z:=x.num * y.num) (d:=1) rfl rfl (g.le l3) RD.nil rfl⟩
 ·intro V1 l1
  refine (c_num_Mul x.num y.num (hx1.le l1) (hy1.le l1) (by omega)).mono ?_
  rintro r V2 l2 ⟨p2,n2,c2,rfl,g2⟩
  refine ⟨_,_,_,_,rfl,fun V3 l3=>(c_num_Den x _ (hx2.le (l1.trans (l2.trans l3)))).mono ?_⟩
  rintro r V4 l4 ⟨p4,n4,c4,rfl,g4⟩
  refine ⟨_,_,_,rfl,fun V5 l5=>(c_num_Den y _ (hy2.le (l1.trans (l2.trans (l3.trans (l4.trans l5)))))).mono ?_⟩
  rintro r V6 l6 ⟨p6,n6,c6,rfl,g6⟩
  refine ⟨_,_,_,rfl,fun V7 l7=>(c_num_Product (g4.le (l5.trans (l6.trans l7))) (g6.le l7) (by omega)).mono ?_⟩
  rintro r V8 l8 ⟨p8,n8,c8,rfl,g8⟩
  rw [val_digs,val_digs] at g8
  refine ⟨_,_,_,rfl,fun V9 l9=>(c_num_Frac _ (g2.le (l3.trans (l4.trans (l5.trans (l6.trans (l7.trans (l8.trans l9))))))) (g8.le l9) (Nat.le_trans (digs_len_bits b1) (by omega)) (Nat.le_trans (digs_len_bits b2) (by omega)) (Nat.mul_ne_zero x.den_nz y.den_nz)).mono ?_⟩
  rw [hxy]
  rintro r V22 l22 ⟨p21,n21,c21,p22,n22,c22,rfl,g21,g22⟩
  exact ⟨_,_,_,_,_,_,_,rfl,fun V23 l23=>⟨_,_,_,_,_,_,rfl,g21.le l23,g22.le l23⟩⟩
end Go.Proofs.Tryz
/- By program: the conditions of the functions, from their loaded code. -/
namespace Go.Proofs.Tryz
open Go.Eng
open Go.Value renaming int→I,pointer→P,slice→S,agg→A,bool→B,tuple→T
open Go.IntKind renaming i64→J,u64→U,u32→W
set_option maxRecDepth 100000
theorem vc_ref01_ToN (e:OA) (a i:Nat) (V:View) (R:VR) (h:(∃b:List Value,V.sl e b/\b.length=a * 1/\((0 + a) * 4<=140737488355328/\0<=0/\0 * 1<=([]:List Value).length/\b.length=a * 1/\(∀k ∈ b,k.oneCell'=true)/\∀(l:Nat) (m:C->Value) (f:List Value) (c:Nat),0 + a<=c->c * 1<=(0 + a) * 1 + f.length->(∀d,V.Le d->∀g:Nat,(d.blk g (.cells (([]:List Value).take (0 * 1)++b++f).toArray 221 (0,0)))->R (S (some ⟨g,0,none⟩) (0 + a) c) d)))):
 Acts prog 91 #[S e a i] V R:=
 fd (LF:=LF0) (RF:=[1000010]) [] [] func91 h
theorem vc_ref01_ToI (a:Bool) (b:OA) (c d:Nat) (V:View) (R:VR) (h:(Ca V 91 #[S b c d] fun k l=>∃e f g,k=S e f g/\(Rt l R (A #[B a,S e f g])))):
 Acts prog 90 #[A #[B a,S b c d]] V R:=
 fd (LF:=LF0) (RF:=[1000010]) [] [] func90 h
theorem vc_ref01_SameN (f:OA) (b i:Nat) (g:OA) (e k:Nat) (V:View) (R:VR) (h:((((b:Int) != (e:Int))=true->(Rt V R (B false)))/\(((b:Int) != (e:Int))=false->(∃(l:Int->VP) (q:Int->Nat),(∃r:Int,(s7 f b i g e k (b:Int) (((0:Int)=r)))/\l r V)/\∀(a:Int) (d:View),V.Le d->l a d->(true=true/\(((decide (a < (b:Int)))=true->(f.isSome=true)/\(0<=a/\a < (b:Int))/\(∃m,(∃s,addrAdd f (a.toNat * 1)=some s/\d.at s (I W m))/\(g.isSome=true)/\(0<=a/\a < (e:Int))/\(∃n,(∃t,addrAdd g (a.toNat * 1)=some t/\d.at t (I W n))/\(((m != n)=true->(Rt d R (B false)))/\((m != n)=false->(∃o:Int,q o < q a/\(s7 f b i g e k (b:Int) (((J.wrap (a + (1:Int)))=o)))/\l o d))))))/\((decide (a < (b:Int)))=false->(Rt d R (B true))))))))):
 Acts prog 98 #[S f b i,S g e k] V R:=
 fd (LF:=LF0) (RF:=[1000010]) [(4,⟨Int,false,[0,1,12],[],fun x=>[(13,.c (.v (I J x)))],fun x=>[]⟩)] [] func98 h
theorem vc_ref01_SameI (a:Bool) (c:OA) (d e:Nat) (b:Bool) (f:OA) (g i:Nat) (V:View) (R:VR) (h:(((a == b)=true->(Ca V 98 #[S c d e,S f g i] fun n o=>∃k,n=B k/\(Rt o R (B k))))/\((a == b)=false->(Rt V R (B false))))):
 Acts prog 97 #[A #[B a,S c d e],A #[B b,S f g i]] V R:=
 fd (LF:=LF0) (RF:=[1000010]) [] [] func97 h
theorem vc_ref04_Xy (a b:Int) (V:View) (R:VR) (h:(Ca V 19 #[I J a] fun t u=>∃c,∃d e f,∃g i k,t=A #[B c,S d e f,S g i k]/\(Ca u 19 #[I J b] fun w x=>∃l,∃m n o,∃p q r,w=A #[B l,S m n o,S p q r]/\(Rt x R (A #[B c,S d e f,S g i k,B l,S m n o,S p q r]))))):
 Acts prog 119 #[I J a,I J b] V R:=
 fd (LF:=LF0) (RF:=[1000010]) [] [] func119 h
theorem vc_ref04_Add (i:Bool) (k:OA) (l m:Nat) (n:OA) (o p:Nat) (q:Bool) (r:OA) (s t:Nat) (u:OA) (w x:Nat) (a:Bool) (b:OA) (c d:Nat) (e:OA) (f g:Nat) (y:Bool) (z:OA) (a0 a1:Nat) (a2:OA) (a3 a4:Nat) (a5:Bool) (a6:OA) (a7 a8:Nat) (a9:OA) (b0 b1:Nat) (V:View) (R:VR) (h:(Ca V 168 #[A #[B a,S b c d,S e f g],A #[B y,S z a0 a1,S a2 a3 a4]] fun e1 e2=>∃b2,∃b3 b4 b5,∃b6 b7 b8,e1=A #[B b2,S b3 b4 b5,S b6 b7 b8]/\(Ca e2 23 #[A #[B i,S k l m,S n o p],A #[B b2,S b3 b4 b5,S b6 b7 b8]] fun e3 e4=>∃b9,∃c0 c1 c2,∃c3 c4 c5,e3=A #[B b9,S c0 c1 c2,S c3 c4 c5]/\(Ca e4 168 #[A #[B a,S b c d,S e f g],A #[B a5,S a6 a7 a8,S a9 b0 b1]] fun e5 e6=>∃c6,∃c7 c8 c9,∃d0 d1 d2,e5=A #[B c6,S c7 c8 c9,S d0 d1 d2]/\(Ca e6 23 #[A #[B q,S r s t,S u w x],A #[B c6,S c7 c8 c9,S d0 d1 d2]] fun e7 e8=>∃d3,∃d4 d5 d6,∃d7 d8 d9,e7=A #[B d3,S d4 d5 d6,S d7 d8 d9]/\(Rt e8 R (A #[B b9,S c0 c1 c2,S c3 c4 c5,B d3,S d4 d5 d6,S d7 d8 d9]))))))):
 Acts prog 158 #[A #[B i,S k l m,S n o p,B q,S r s t,S u w x],A #[B a,S b c d,S e f g],A #[B y,S z a0 a1,S a2 a3 a4,B a5,S a6 a7 a8,S a9 b0 b1]] V R:=
 fd (LF:=LF0) (RF:=[1000010]) [] [] func158 h
theorem vc_ref04_Sub (a:Bool) (b:OA) (c d:Nat) (e:OA) (f g:Nat) (i:Bool) (k:OA) (l m:Nat) (n:OA) (o p:Nat) (q:Bool) (r:OA) (s t:Nat) (u:OA) (w x:Nat) (y:Bool) (z:OA) (a0 a1:Nat) (a2:OA) (a3 a4:Nat) (V:View) (R:VR) (h:(Ca V 19 #[I J (-1)] fun c7 c8=>∃a5,∃a6 a7 a8,∃a9 b0 b1,c7=A #[B a5,S a6 a7 a8,S a9 b0 b1]/\(Ca c8 158 #[A #[B a,S b c d,S e f g,B i,S k l m,S n o p],A #[B a5,S a6 a7 a8,S a9 b0 b1],A #[B q,S r s t,S u w x,B y,S z a0 a1,S a2 a3 a4]] fun c9 d0=>∃b2,∃b3 b4 b5,∃b6 b7 b8,∃b9,∃c0 c1 c2,∃c3 c4 c5,c9=A #[B b2,S b3 b4 b5,S b6 b7 b8,B b9,S c0 c1 c2,S c3 c4 c5]/\(Rt d0 R (A #[B b2,S b3 b4 b5,S b6 b7 b8,B b9,S c0 c1 c2,S c3 c4 c5]))))):
 Acts prog 167 #[A #[B a,S b c d,S e f g,B i,S k l m,S n o p],A #[B q,S r s t,S u w x,B y,S z a0 a1,S a2 a3 a4]] V R:=
 fd (LF:=LF0) (RF:=[1000010]) [] [] func167 h
theorem vc_ref04_Same (b:Bool) (c:OA) (d e:Nat) (f:OA) (g i:Nat) (k:Bool) (l:OA) (m n:Nat) (o:OA) (p q:Nat) (r:Bool) (s:OA) (t u:Nat) (w:OA) (x y:Nat) (z:Bool) (a0:OA) (a1 a2:Nat) (a3:OA) (a4 a5:Nat) (V:View) (R:VR) (h:(Ca V 22 #[A #[B b,S c d e,S f g i],A #[B r,S s t u,S w x y]] fun b0 a6=>∃a,b0=I J a/\(((a == (0:Int))=true->(Ca a6 22 #[A #[B k,S l m n,S o p q],A #[B z,S a0 a1 a2,S a3 a4 a5]] fun b1 b2=>∃a7,b1=I J a7/\(Rt b2 R (B (a7 == (0:Int))))))/\((a == (0:Int))=false->(Rt a6 R (B false)))))):
 Acts prog 208 #[A #[B b,S c d e,S f g i,B k,S l m n,S o p q],A #[B r,S s t u,S w x y,B z,S a0 a1 a2,S a3 a4 a5]] V R:=
 fd (LF:=LF0) (RF:=[1000010]) [] [] func208 h
theorem vc_ref04_MakeL (p:Bool) (e:OA) (f g:Nat) (q:Bool) (i:OA) (k l:Nat) (r:Bool) (m:OA) (n o:Nat) (V:View) (R:VR) (h:(Ca V 148 #[S e f g,S i k l] fun b9 s=>∃t a u,b9=S t a u/\((((a:Int) == (0:Int))=true->(Rt s R (T #[A #[B false,S none 0 0,B false,S none 0 0,B false,S none 0 0],B false])))/\(((a:Int) == (0:Int))=false->(Ca s 148 #[S t a u,S m n o] fun c0 c1=>∃b c d,c0=S b c d/\(Ca c1 150 #[S e f g,S b c d] fun c2 c3=>∃x y z,∃c4 c5 c6,c2=T #[S x y z,S c4 c5 c6]/\(Ca c3 150 #[S i k l,S b c d] fun c7 c8=>∃a0 a1 a2,∃c9 d0 d1,c7=T #[S a0 a1 a2,S c9 d0 d1]/\(Ca c8 150 #[S m n o,S b c d] fun d2 d3=>∃a3 a4 a5,∃d4 d5 d6,d2=T #[S a3 a4 a5,S d4 d5 d6]/\(Ca d3 82 #[B p,S x y z] fun d7 d8=>∃a6,∃a7 a8 a9,d7=A #[B a6,S a7 a8 a9]/\(Ca d8 82 #[B q,S a0 a1 a2] fun d9 e0=>∃b0,∃b1 b2 b3,d9=A #[B b0,S b1 b2 b3]/\(Ca e0 82 #[B r,S a3 a4 a5] fun e1 e2=>∃b4,∃b5 b6 b7,e1=A #[B b4,S b5 b6 b7]/\(Rt e2 R (T #[A #[B a6,S a7 a8 a9,B b0,S b1 b2 b3,B b4,S b5 b6 b7],B true]))))))))))))):
 Acts prog 169 #[A #[B p,S e f g],A #[B q,S i k l],A #[B r,S m n o]] V R:=
 fd (LF:=LF0) (RF:=[1000010]) [] [] func169 h
theorem vc_ref04_Through (u:Bool) (w:OA) (x y:Nat) (z:OA) (a0 a1:Nat) (a2:Bool) (a3:OA) (a4 a5:Nat) (a6:OA) (a7 a8:Nat) (b6:Bool) (b7:OA) (b8 b9:Nat) (c0:OA) (c1 c2:Nat) (c3:Bool) (c4:OA) (c5 c6:Nat) (c7:OA) (c8 c9:Nat) (V:View) (R:VR) (h:(Ca V 167 #[A #[B b6,S b7 b8 b9,S c0 c1 c2,B c3,S c4 c5 c6,S c7 c8 c9],A #[B u,S w x y,S z a0 a1,B a2,S a3 a4 a5,S a6 a7 a8]] fun l9 m0=>∃a,∃b c d,∃e f g,∃d0,∃d1 d2 d3,∃d4 d5 d6,l9=A #[B a,S b c d,S e f g,B d0,S d1 d2 d3,S d4 d5 d6]/\(Ca m0 144 #[A #[B d0,S d1 d2 d3,S d4 d5 d6]] fun m1 m2=>∃i,∃k l m,∃n o p,m1=A #[B i,S k l m,S n o p]/\(Ca m2 168 #[A #[B i,S k l m,S n o p],A #[B u,S w x y,S z a0 a1]] fun m3 m4=>∃d7,∃d8 d9 e0,∃e1 e2 e3,m3=A #[B d7,S d8 d9 e0,S e1 e2 e3]/\(Ca m4 168 #[A #[B a,S b c d,S e f g],A #[B a2,S a3 a4 a5,S a6 a7 a8]] fun m5 m6=>∃e4,∃e5 e6 e7,∃e8 e9 f0,m5=A #[B e4,S e5 e6 e7,S e8 e9 f0]/\(Ca m6 23 #[A #[B d7,S d8 d9 e0,S e1 e2 e3],A #[B e4,S e5 e6 e7,S e8 e9 f0]] fun m7 m8=>∃f1,∃f2 f3 f4,∃f5 f6 f7,m7=A #[B f1,S f2 f3 f4,S f5 f6 f7]/\(Ca m8 144 #[A #[B f1,S f2 f3 f4,S f5 f6 f7]] fun m9 n0=>∃a9,∃b0 b1 b2,∃b3 b4 b5,m9=A #[B a9,S b0 b1 b2,S b3 b4 b5]/\(Ca n0 83 #[A #[B i,S k l m,S n o p]] fun n1 n2=>∃f8 f9 g0,n1=S f8 f9 g0/\(Ca n2 83 #[A #[B a,S b c d,S e f g]] fun n3 n4=>∃g1 g2 g3,n3=S g1 g2 g3/\(Ca n4 84 #[S f8 f9 g0,S g1 g2 g3] fun n5 n6=>∃g4 g5 g6,n5=S g4 g5 g6/\(Ca n6 83 #[A #[B a9,S b0 b1 b2,S b3 b4 b5]] fun n7 n8=>∃g7 g8 g9,n7=S g7 g8 g9/\(Ca n8 84 #[S g4 g5 g6,S g7 g8 g9] fun n9 o0=>∃i0 i1 i2,n9=S i0 i1 i2/\(Ca o0 82 #[B false,S i0 i1 i2] fun o1 o2=>∃q,∃r s t,o1=A #[B q,S r s t]/\(Ca o2 168 #[A #[B i,S k l m,S n o p],A #[B q,S r s t,S none 0 0]] fun o3 o4=>∃i3,∃i4 i5 i6,∃o5 o6 o7,o3=A #[B i3,S i4 i5 i6,S o5 o6 o7]/\(Ca o4 168 #[A #[B a,S b c d,S e f g],A #[B q,S r s t,S none 0 0]] fun o8 o9=>∃i7,∃i8 i9 k0,∃p0 p1 p2,o8=A #[B i7,S i8 i9 k0,S p0 p1 p2]/\(Ca o9 168 #[A #[B a9,S b0 b1 b2,S b3 b4 b5],A #[B q,S r s t,S none 0 0]] fun p3 p4=>∃k1,∃k2 k3 k4,∃p5 p6 p7,p3=A #[B k1,S k2 k3 k4,S p5 p6 p7]/\(Ca p4 169 #[A #[B i3,S i4 i5 i6],A #[B i7,S i8 i9 k0],A #[B k1,S k2 k3 k4]] fun p8 p9=>∃k5,∃k6 k7 k8,∃k9,∃l0 l1 l2,∃l3,∃l4 l5 l6,∃l7,p8=T #[A #[B k5,S k6 k7 k8,B k9,S l0 l1 l2,B l3,S l4 l5 l6],B l7]/\(Rt p9 R (T #[A #[B k5,S k6 k7 k8,B k9,S l0 l1 l2,B l3,S l4 l5 l6],B l7]))))))))))))))))))):
 Acts prog 118 #[A #[B u,S w x y,S z a0 a1,B a2,S a3 a4 a5,S a6 a7 a8],A #[B b6,S b7 b8 b9,S c0 c1 c2,B c3,S c4 c5 c6,S c7 c8 c9]] V R:=
 fd (LF:=LF0) (RF:=[1000010]) [] [] func118 h
theorem vc_ref04_ToL (a:Bool) (b:OA) (c d:Nat) (e:Bool) (f:OA) (g i:Nat) (k:Bool) (l:OA) (m n:Nat) (V:View) (R:VR) (h:(Ca V 90 #[A #[B a,S b c d]] fun a2 a3=>∃o,∃p q r,a2=A #[B o,S p q r]/\(Ca a3 90 #[A #[B e,S f g i]] fun a4 a5=>∃s,∃t u w,a4=A #[B s,S t u w]/\(Ca a5 90 #[A #[B k,S l m n]] fun a6 a7=>∃x,∃y z a0,a6=A #[B x,S y z a0]/\(Rt a7 R (A #[B o,S p q r,B s,S t u w,B x,S y z a0])))))):
 Acts prog 122 #[A #[B a,S b c d,B e,S f g i,B k,S l m n]] V R:=
 fd (LF:=LF0) (RF:=[1000010]) [] [] func122 h
theorem vc_ref04_SameL (c:Bool) (d:OA) (e f:Nat) (g:Bool) (i:OA) (k l:Nat) (m:Bool) (n:OA) (o p:Nat) (q:Bool) (r:OA) (s t:Nat) (u:Bool) (w:OA) (x y:Nat) (z:Bool) (a0:OA) (a1 a2:Nat) (V:View) (R:VR) (h:(Ca V 97 #[A #[B c,S d e f],A #[B q,S r s t]] fun a9 a3=>∃a,a9=B a/\((a=true->(Ca a3 97 #[A #[B g,S i k l],A #[B u,S w x y]] fun b0 a4=>∃b,b0=B b/\((b=true->(Ca a4 97 #[A #[B m,S n o p],A #[B z,S a0 a1 a2]] fun b1 b2=>∃a5,b1=B a5/\(Rt b2 R (B a5))))/\(b=false->(Rt a4 R (B false))))))/\(a=false->(Rt a3 R (B false)))))):
 Acts prog 123 #[A #[B c,S d e f,B g,S i k l,B m,S n o p],A #[B q,S r s t,B u,S w x y,B z,S a0 a1 a2]] V R:=
 fd (LF:=LF0) (RF:=[1000010]) [] [] func123 h
end Go.Proofs.Tryz
/- Contracts of the references 01 and 04: ToN, ToI, SameN, SameI, points. -/
namespace Go.Eng
open Go.Big
/-- A point of the reference. -/
def RP (V:View) (v:Value) (x y:Rat):Prop:=∃p n c p' n' c' q m e q' m' e',v=.agg #[.bool (decide (x.num < 0)),.slice p n c,.slice p' n' c',.bool (decide (y.num < 0)),.slice q m e,.slice q' m' e'] /\
 RQ V (.agg #[.bool (decide (x.num < 0)),.slice p n c,.slice p' n' c']) x/\RQ V (.agg #[.bool (decide (y.num < 0)),.slice q m e,.slice q' m' e']) y
theorem RP.le {V V':View} {v:Value} {x y:Rat} (h:RP V v x y) (l:V.Le V'):RP V' v x y:=by
 obtain ⟨p,n,c,p',n',c',q,m,e,q',m',e',rfl,h1,h2⟩:=h
 exact ⟨p,n,c,p',n',c',q,m,e,q',m',e',rfl,h1.le l,h2.le l⟩
theorem RQ.shape {V:View} {v:Value} {q:Rat} (h:RQ V v q):∃p n c p' n' c',v=.agg #[.bool (decide (q.num < 0)),.slice p n c,.slice p' n' c']:=by
 obtain ⟨p,n,c,p',n',c',e,-⟩:=h; exact ⟨_,_,_,_,_,_,e⟩
end Go.Eng
namespace Go.Proofs.Tryz
open Go.Eng Go.Big
theorem c_ref01_ToN {V:View} {p:OA} {n c:Nat} {ds:List Nat} (h:RD V p n c ds) (hm:ds.length<=1099511627776) :
  Acts prog 91 #[.slice p n c] V fun r V'=>∃p1 n1 c1,r=.slice p1 n1 c1/\RD V' p1 n1 c1 ds:=by
 have hl:=h.len
 refine vc_ref01_ToN p n c V _ ⟨u32s ds,h.sl,by simp [hl],by omega,by omega,by simp,by simp [hl],?_,?_⟩
 ·intro v hv
  simp only [u32s,List.mem_map] at hv
  obtain ⟨d,-,rfl⟩:=hv
  rfl
 ·intro bk J sp c' h1 h2 V1 l1 b hb
  refine ⟨_,_,_,rfl,?_⟩
  simp only [Nat.zero_add,Nat.zero_mul,List.take_zero,List.nil_append] at hb h1 ⊢
  exact copied h.dig hl h1 hb
theorem c_ref01_ToI {V:View} {v:Value} {z:Int} (h:RI V v z) (hm:(digs z.natAbs).length<=1099511627776) :
  Acts prog 90 #[v] V fun r V'=>RI V' r z:=by
 obtain ⟨p,n,c,rfl,h⟩:=h
 refine vc_ref01_ToI _ p n c V _ fun V1 l1=>(c_ref01_ToN (h.le l1) hm).mono ?_
 rintro r V2 l2 ⟨p1,n1,c1,rfl,g⟩
 exact ⟨_,_,_,rfl,fun V3 l3=>⟨_,_,_,rfl,g.le l3⟩⟩
theorem c_ref04_Xy {V:View} (x y:Int) (h0:-9223372036854775808<=x) (h1:x<=9223372036854775807) (h2:-9223372036854775808<=y) (h3:y<=9223372036854775807) :
  Acts prog 119 #[.int .i64 x,.int .i64 y] V fun r V'=>RP V' r (x:Rat) (y:Rat):=by
 refine vc_ref04_Xy x y V _ fun V1 l1=>(c_num_Of x h0 h1).mono ?_
 rintro r V2 l2 hx
 obtain ⟨p,n,c,p',n',c',rfl⟩:=hx.shape
 refine ⟨_,_,_,_,_,_,_,rfl,fun V3 l3=>(c_num_Of y h2 h3).mono ?_⟩
 rintro r V4 l4 hy
 obtain ⟨q,m,e,q',m',e',rfl⟩:=hy.shape
 exact ⟨_,_,_,_,_,_,_,rfl,fun V5 l5=>⟨_,_,_,_,_,_,_,_,_,_,_,_,rfl,hx.le (l3.trans (l4.trans l5)),hy.le l5⟩⟩
theorem c_ref04_Add {V:View} {u v w:Value} {px py c qx qy:Rat} (hp:RP V u px py) (hc:RQ V v c) (hq:RP V w qx qy) {k m:Nat} (s1:Sz k px) (s2:Sz k py) (s3:Sz m c) (s4:Sz m qx) (s5:Sz m qy) (hkm:k + (m + m + 1) < 274877906944) :
  Acts prog 158 #[u,v,w] V fun r V'=>RP V' r (px + c * qx) (py + c * qy):=by
 obtain ⟨p1,n1,c1,p2,n2,c2,p3,n3,c3,p4,n4,c4,rfl,hp1,hp2⟩:=hp
 obtain ⟨p5,n5,c5,p6,n6,c6,rfl⟩:=hc.shape
 obtain ⟨q1,m1,e1,q2,m2,e2,q3,m3,e3,q4,m4,e4,rfl,hq1,hq2⟩:=hq
 refine vc_ref04_Add _ p1 n1 c1 p2 n2 c2 _ p3 n3 c3 p4 n4 c4 _ p5 n5 c5 p6 n6 c6 _ q1 m1 e1 q2 m2 e2 _ q3 m3 e3 q4 m4 e4 V _ fun V1 l1=>(c_num_Times (hc.le l1) (hq1.le l1) s3 s4 (by omega)).mono ?_
 rintro r V2 l2 g1
 obtain ⟨a1,a2,a3,a4,a5,a6,rfl⟩:=g1.shape
 refine ⟨_,_,_,_,_,_,_,rfl,fun V3 l3=>(c_num_Plus (hp1.le (l1.trans (l2.trans l3))) (g1.le l3) s1 (s3.mul s4) (by omega)).mono ?_⟩
 rintro r V4 l4 g2
 obtain ⟨b1,b2,b3,b4,b5,b6,rfl⟩:=g2.shape
 have l04:=l1.trans (l2.trans (l3.trans l4))
 refine ⟨_,_,_,_,_,_,_,rfl,fun V5 l5=>(c_num_Times (hc.le (l04.trans l5)) (hq2.le (l04.trans l5)) s3 s5 (by omega)).mono ?_⟩
 rintro r V6 l6 g3
 obtain ⟨d1,d2,d3,d4,d5,d6,rfl⟩:=g3.shape
 refine ⟨_,_,_,_,_,_,_,rfl,fun V7 l7=>(c_num_Plus (hp2.le (l04.trans (l5.trans (l6.trans l7)))) (g3.le l7) s2 (s3.mul s5) (by omega)).mono ?_⟩
 rintro r V8 l8 g4
 obtain ⟨f1,f2,f3,f4,f5,f6,rfl⟩:=g4.shape
 exact ⟨_,_,_,_,_,_,_,rfl,fun V9 l9=>⟨_,_,_,_,_,_,_,_,_,_,_,_,rfl,g2.le (l5.trans (l6.trans (l7.trans (l8.trans l9)))),g4.le l9⟩⟩
theorem sz_neg1:Sz 1 ((-1:Int):Rat):=by unfold Sz; decide
theorem c_ref04_Sub {V:View} {u w:Value} {px py qx qy:Rat} (hp:RP V u px py) (hq:RP V w qx qy) {k m:Nat} (s1:Sz k px) (s2:Sz k py) (s4:Sz m qx) (s5:Sz m qy) (hm:1<=m) (hkm:k + (m + m + 1) < 274877906944) :
  Acts prog 167 #[u,w] V fun r V'=>RP V' r (px - qx) (py - qy):=by
 have hp0:=hp
 have hq0:=hq
 obtain ⟨p1,n1,c1,p2,n2,c2,p3,n3,c3,p4,n4,c4,rfl,-,-⟩:=hp
 obtain ⟨q1,m1,e1,q2,m2,e2,q3,m3,e3,q4,m4,e4,rfl,-,-⟩:=hq
 refine vc_ref04_Sub _ p1 n1 c1 p2 n2 c2 _ p3 n3 c3 p4 n4 c4 _ q1 m1 e1 q2 m2 e2 _ q3 m3 e3 q4 m4 e4 V _ fun V1 l1=>(c_num_Of (-1) (by omega) (by omega)).mono ?_
 rintro r V2 l2 g1
 obtain ⟨a1,a2,a3,a4,a5,a6,rfl⟩:=g1.shape
 have l02:=l1.trans l2
 refine ⟨_,_,_,_,_,_,_,rfl,fun V3 l3=>(c_ref04_Add (hp0.le (l02.trans l3)) (g1.le l3) (hq0.le (l02.trans l3)) s1 s2 (sz_neg1.mono hm) s4 s5 hkm).mono ?_⟩
 have e1:∀a b:Rat,a + ((-1:Int):Rat) * b=a - b:=by
  intro a b
  have:((-1:Int):Rat)=-1:=rfl
  rw [this,Rat.neg_mul,Rat.one_mul,Rat.sub_eq_add_neg]
 rw [e1,e1]
 rintro r V4 l4 ⟨b1,b2,b3,b4,b5,b6,b7,b8,b9,b10,b11,b12,rfl,g2,g3⟩
 exact ⟨_,_,_,_,_,_,_,_,_,_,_,_,_,_,rfl,fun V5 l5=>⟨_,_,_,_,_,_,_,_,_,_,_,_,rfl,g2.le l5,g3.le l5⟩⟩
theorem c_ref04_Same {V:View} {u w:Value} {px py qx qy:Rat} (hp:RP V u px py) (hq:RP V w qx qy) {k m:Nat} (s1:Sz k px) (s2:Sz k py) (s4:Sz m qx) (s5:Sz m qy) (hkm:k + m < 274877906944) :
  Acts prog 208 #[u,w] V fun r V'=>r=.bool (decide (px=qx/\py=qy)):=by
 obtain ⟨p1,n1,c1,p2,n2,c2,p3,n3,c3,p4,n4,c4,rfl,hp1,hp2⟩:=hp
 obtain ⟨q1,m1,e1,q2,m2,e2,q3,m3,e3,q4,m4,e4,rfl,hq1,hq2⟩:=hq
 refine vc_ref04_Same _ p1 n1 c1 p2 n2 c2 _ p3 n3 c3 p4 n4 c4 _ q1 m1 e1 q2 m2 e2 _ q3 m3 e3 q4 m4 e4 V _ fun V1 l1=>(c_num_C (hp1.le l1) (hq1.le l1) s1 s4 hkm).mono ?_
 rintro r V2 l2 rfl
 refine ⟨_,rfl,fun h0 V3 l3=>(c_num_C (hp2.le (l1.trans (l2.trans l3))) (hq2.le (l1.trans (l2.trans l3))) s2 s5 hkm).mono ?_,fun h0 V3 l3=>?_⟩
 ·have h0:px=qx:=cmpQ_eq.2 (by simpa using h0)
  rintro r V4 l4 rfl
  refine ⟨_,rfl,fun V5 l5=>?_⟩
  congr 1
  rw [Bool.eq_iff_iff,decide_eq_true_eq,beq_iff_eq,← cmpQ_eq]
  exact ⟨fun h=>⟨h0,h⟩,fun h=>h.2⟩
 ·have h0:¬ px=qx:=fun e=>by rw [cmpQ_eq.1 e] at h0; simp at h0
  rw [decide_eq_false fun h=>h0 h.1]
end Go.Proofs.Tryz
