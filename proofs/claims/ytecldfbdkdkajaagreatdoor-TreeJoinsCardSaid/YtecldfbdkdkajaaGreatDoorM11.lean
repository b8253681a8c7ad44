/- A part of the proof (joined by program from: NumH, NumI, FracB, FracC, FracD, NumJ, VRef, RefA, RefB, RefC). -/
import Derived.Test.YtecldfbdkdkajaaGreatDoorM10
import Derived.Test.YtecldfbdkdkajaaGreatDoorM5
set_option linter.unusedVariables false
/- Contracts of the reference's integers: Make, Int, Sign, Minus, Add, Mul. -/
namespace Go.Proofs.Tryz
open Go.Eng Go.Big

theorem c_num_Make {V : View} (b : Bool) {p : Option Addr} {n c x : Nat} (h : RN V p n c x) :
    Acts prog 37 #[.bool b, .slice p n c] V fun r V' => RI V' r (if b then -(x : Int) else x) := by
  have hp := len_pos_digs h.len
  refine vc_num_Make b p n c V _ ⟨fun h0 V1 l1 => ?_, fun h0 V1 l1 => ?_⟩
  · rw [if_pos h0]
    refine RI.mk ?_ ?_
    · rw [Bool.eq_iff_iff, decide_eq_true_eq, decide_eq_true_eq]
      omega
    · rw [Int.natAbs_neg, Int.natAbs_natCast]; exact h.le l1
  · rw [h0, if_neg (by decide)]
    refine RI.mk ?_ ?_
    · symm; rw [decide_eq_false_iff_not]; omega
    · rw [Int.natAbs_natCast]; exact h.le l1

theorem make_fin {V : View} {b : Bool} {p : Option Addr} {n c x : Nat} {z : Int} (h : RN V p n c x) (hz : (if b then -(x : Int) else x) = z) :
    Acts prog 37 #[.bool b, .slice p n c] V fun r V' => ∃ (b1_ : Bool) (p2_ : Option Addr) (n2_ c2_ : Nat), r = .agg #[.bool b1_, .slice p2_ n2_ c2_] ∧ ∀ V3 : View, V'.Le V3 → RI V3 (.agg #[.bool b1_, .slice p2_ n2_ c2_]) z := by
  refine (c_num_Make b h).mono ?_
  rintro r V2 l2 ⟨p1, n1, c1, rfl, g⟩
  rw [hz] at g ⊢
  exact ⟨_, _, _, _, rfl, fun V3 l3 => ⟨_, _, _, rfl, g.le l3⟩⟩

theorem c_num_Int {V : View} (n : Int) (h0 : -9223372036854775808 ≤ n) (h1 : n ≤ 9223372036854775807) :
    Acts prog 64 #[.int .i64 n] V fun r V' => RI V' r n := by
  refine vc_num_Int n V _ ⟨fun h2 V1 l1 => ?_, fun h2 V1 l1 => ?_⟩
  · have h2 : n < 0 := by simpa using h2
    have e : IntKind.u64.wrap (0 - IntKind.u64.wrap n) = ((-n).toNat : Int) := by rw [u64m, u64m]; omega
    rw [e]
    refine (c_num_Word _ (by omega)).mono ?_
    rintro r V2 l2 ⟨p1, n1, c1, rfl, g1⟩
    exact ⟨_, _, _, rfl, fun V3 l3 => make_fin (g1.le l3) (by simp; omega)⟩
  · have h2 : 0 ≤ n := by simpa using h2
    have e : IntKind.u64.wrap n = (n.toNat : Int) := by rw [u64w (by omega)]; omega
    rw [e]
    refine (c_num_Word _ (by omega)).mono ?_
    rintro r V2 l2 ⟨p1, n1, c1, rfl, g1⟩
    exact ⟨_, _, _, rfl, fun V3 l3 => make_fin (g1.le l3) (by simp; omega)⟩

theorem c_num_Sign {V : View} (z : Int) {p : Option Addr} {n c : Nat} (h : RN V p n c z.natAbs) :
    Acts prog 123 #[.agg #[.bool (decide (z < 0)), .slice p n c]] V fun r V' => r = .int .i64 z.sign := by
  have hp := len_pos_digs h.len
  refine vc_num_Sign _ p n c V _ ⟨fun h0 V1 l1 => ?_, fun h0 => ⟨fun h1 V1 l1 => ?_, fun h1 V1 l1 => ?_⟩⟩
  · have : z = 0 := by simp at h0; omega
    rw [this]; rfl
  · rw [decide_eq_true_eq] at h1
    rw [Int.sign_eq_neg_one_of_neg h1]
  · rw [decide_eq_false_iff_not] at h1
    have : 0 < z := by simp at h0; omega
    rw [Int.sign_eq_one_of_pos this]

theorem c_num_Minus {V : View} (z : Int) {p : Option Addr} {n c : Nat} (h : RN V p n c z.natAbs) :
    Acts prog 55 #[.agg #[.bool (decide (z < 0)), .slice p n c]] V fun r V' => RI V' r (-z) := by
  refine vc_num_Minus _ p n c V _ fun V1 l1 => make_fin (h.le l1) ?_
  by_cases hz : z < 0 <;> simp [hz] <;> omega

theorem c_num_Mul {V : View} (z w : Int) {p q : Option Addr} {n c m e : Nat} (ha : RN V p n c z.natAbs) (hb : RN V q m e w.natAbs) (hm : (digs z.natAbs).length + (digs w.natAbs).length ≤ 1099511627776) :
    Acts prog 58 #[.agg #[.bool (decide (z < 0)), .slice p n c], .agg #[.bool (decide (w < 0)), .slice q m e]] V fun r V' => RI V' r (z * w) := by
  refine vc_num_Mul _ p n c _ q m e V _ fun V1 l1 => (c_num_Product (ha.le l1) (hb.le l1) hm).mono ?_
  rintro r V2 l2 ⟨p1, n1, c1, rfl, g1⟩
  rw [val_digs, val_digs] at g1
  refine ⟨_, _, _, rfl, fun V3 l3 => make_fin (g1.le l3) ?_⟩
  have e1 : z = ival (decide (z < 0)) (digs z.natAbs) := (ival_digs z).symm
  have e2 : w = ival (decide (w < 0)) (digs w.natAbs) := (ival_digs w).symm
  conv => rhs; rw [e1, e2]
  unfold ival
  rw [val_digs, val_digs]
  cases decide (z < 0) <;> cases decide (w < 0) <;> simp [Int.neg_mul, Int.mul_neg]

theorem c_num_Add {V : View} (z w : Int) {p q : Option Addr} {n c m e : Nat} (ha : RN V p n c z.natAbs) (hb : RN V q m e w.natAbs) (hm : (digs z.natAbs).length ≤ 1099511627776) (hn : (digs w.natAbs).length ≤ 1099511627776) :
    Acts prog 56 #[.agg #[.bool (decide (z < 0)), .slice p n c], .agg #[.bool (decide (w < 0)), .slice q m e]] V fun r V' => RI V' r (z + w) := by
  refine vc_num_Add _ p n c _ q m e V _ ⟨fun h0 V1 l1 => (c_num_Sum (ha.le l1) (hb.le l1) hm hn).mono ?_, fun h0 V1 l1 => (c_num_Cmp (ha.le l1) (hb.le l1) hm hn).mono ?_⟩
  · rintro r V2 l2 ⟨p1, n1, c1, rfl, g1⟩
    rw [val_digs, val_digs] at g1
    refine ⟨_, _, _, rfl, fun V3 l3 => make_fin (g1.le l3) ?_⟩
    by_cases hz : z < 0 <;> by_cases hw : w < 0 <;> simp [hz, hw] at h0 ⊢ <;> omega
  · rintro r V2 l2 rfl
    refine ⟨_, rfl, fun h2 V3 l3 => ?_, fun h2 V3 l3 => ?_⟩
    · have h2 : z.natAbs < w.natAbs := by simpa [cmpN_neg] using h2
      refine (c_num_Less (hb.le (l1.trans (l2.trans l3))) (ha.le (l1.trans (l2.trans l3))) hn (digs_len_mono (Nat.le_of_lt h2)) (by rw [val_digs, val_digs]; omega)).mono ?_
      rintro r V4 l4 ⟨p1, n1, c1, rfl, g1⟩
      rw [val_digs, val_digs] at g1
      refine ⟨_, _, _, rfl, fun V5 l5 => make_fin (g1.le l5) ?_⟩
      by_cases hz : z < 0 <;> by_cases hw : w < 0 <;> simp [hz, hw] at h0 ⊢ <;> omega
    · have h2 : w.natAbs ≤ z.natAbs := by simpa [← Int.not_lt, cmpN_neg] using h2
      refine (c_num_Less (ha.le (l1.trans (l2.trans l3))) (hb.le (l1.trans (l2.trans l3))) hm (digs_len_mono h2) (by rw [val_digs, val_digs]; omega)).mono ?_
      rintro r V4 l4 ⟨p1, n1, c1, rfl, g1⟩
      rw [val_digs, val_digs] at g1
      refine ⟨_, _, _, rfl, fun V5 l5 => make_fin (g1.le l5) ?_⟩
      by_cases hz : z < 0 <;> by_cases hw : w < 0 <;> simp [hz, hw] at h0 ⊢ <;> omega
end Go.Proofs.Tryz
/- Contracts of the reference's rational numbers: Den, Frac, Of, S, Opp. -/
namespace Go.Eng
open Go.Big
/-- The digits of a denominator; none stands for 1. -/
def dend (d : Nat) : List Nat := if d = 1 then [] else digs d
/-- A rational number of the reference. -/
def RQ (V : View) (v : Value) (q : Rat) : Prop := ∃ p n c p' n' c', v = .agg #[.bool (decide (q.num < 0)), .slice p n c, .slice p' n' c'] ∧
  RD V p n c (digs q.num.natAbs) ∧ RD V p' n' c' (dend q.den)
theorem RQ.le {V V' : View} {v : Value} {q : Rat} (h : RQ V v q) (l : V.Le V') : RQ V' v q := by
  obtain ⟨p, n, c, p', n', c', e, h1, h2⟩ := h
  exact ⟨p, n, c, p', n', c', e, h1.le l, h2.le l⟩
theorem dend_nil {q : Rat} : dend q.den = [] ↔ q.den = 1 := by
  unfold dend
  split
  · rename_i h; simp [h]
  · rename_i h
    rw [digs_eq_nil]
    have := q.den_nz
    omega
end Go.Eng
namespace Go.Proofs.Tryz
open Go.Eng Go.Big

theorem dend_len {V : View} {q : Rat} {p : Option Addr} {n c : Nat} (h : RD V p n c (dend q.den)) : n = 0 ↔ q.den = 1 := by
  rw [← dend_nil, h.len, List.length_eq_zero_iff]

theorem c_num_Den {V : View} (q : Rat) {p p' : Option Addr} {n c n' c' : Nat} (b : Bool) (h2 : RD V p' n' c' (dend q.den)) :
    Acts prog 36 #[.agg #[.bool b, .slice p n c, .slice p' n' c']] V fun r V' => ∃ p1 n1 c1, r = .slice p1 n1 c1 ∧ RN V' p1 n1 c1 q.den := by
  have hl := dend_len h2
  refine vc_num_Den b p n c p' n' c' V _ ⟨fun h0 V1 l1 => c_num_One.mono ?_, fun h0 V1 l1 => ⟨_, _, _, rfl, ?_⟩⟩
  · rintro r V2 l2 ⟨p1, n1, c1, rfl, g⟩
    have : q.den = 1 := hl.1 (by simp at h0; omega)
    rw [this]
    exact ⟨_, _, _, rfl, fun V3 l3 => ⟨_, _, _, rfl, g.le l3⟩⟩
  · have : q.den ≠ 1 := fun e => by have := hl.2 e; simp at h0; omega
    unfold dend at h2
    rw [if_neg this] at h2
    exact h2.le l1

theorem rq_of {V : View} {q : Rat} {z : Int} {d : Nat} {p p' : Option Addr} {n c n' c' : Nat} (hn : q.num = z) (hd : q.den = d) (h1 : RD V p n c (digs z.natAbs)) (h2 : RD V p' n' c' (dend d)) {b : Bool} (hb : b = decide (z < 0)) :
    RQ V (.agg #[.bool b, .slice p n c, .slice p' n' c']) q := by
  subst hn hd hb
  exact ⟨_, _, _, _, _, _, rfl, h1, h2⟩

theorem c_num_Frac {V : View} (z : Int) {d : Nat} {p q : Option Addr} {n c m e : Nat} (hx : RN V p n c z.natAbs) (hy : RN V q m e d) (hm : (digs z.natAbs).length ≤ 274877906944) (hn : (digs d).length ≤ 274877906944) (hd : d ≠ 0) :
    Acts prog 57 #[.agg #[.bool (decide (z < 0)), .slice p n c], .slice q m e] V fun r V' => RQ V' r (mkRat z d) := by
  refine vc_num_Frac _ p n c q m e V _ fun V1 l1 => (c_num_Common (hx.le l1) (hy.le l1) hm hn).mono ?_
  rintro r V2 l2 ⟨p1, n1, c1, rfl, hg⟩
  have hgd := Nat.gcd_dvd_right z.natAbs d
  have hgx := Nat.gcd_dvd_left z.natAbs d
  have hgp : 0 < Nat.gcd z.natAbs d := Nat.gcd_pos_of_pos_right _ (by omega)
  have hgl : (digs (Nat.gcd z.natAbs d)).length ≤ 274877906944 := Nat.le_trans (digs_len_mono (Nat.le_of_dvd (by omega) hgd)) hn
  have hnum : (mkRat z d).num = z / (Nat.gcd d z.natAbs : Nat) := by rw [Rat.num_mkRat, if_neg hd]
  have hden : (mkRat z d).den = d / Nat.gcd d z.natAbs := by rw [Rat.den_mkRat, if_neg hd]
  rw [Nat.gcd_comm d] at hnum hden
  generalize hG : Nat.gcd z.natAbs d = g at *
  generalize mkRat z d = w at *
  refine ⟨_, _, _, rfl, fun V3 l3 => c_num_One.mono ?_⟩
  rintro r V4 l4 ⟨p2, n2, c2, rfl, h1⟩
  refine ⟨_, _, _, rfl, fun V5 l5 => (c_num_Cmp (hg.le (l3.trans (l4.trans l5))) (h1.le l5) (by omega) (by decide)).mono ?_⟩
  rintro r V6 l6 rfl
  replace hx := hx.le (l1.trans (l2.trans (l3.trans (l4.trans (l5.trans l6)))))
  replace hy := hy.le (l1.trans (l2.trans (l3.trans (l4.trans (l5.trans l6)))))
  replace hg := hg.le (l3.trans (l4.trans (l5.trans l6)))
  refine ⟨_, rfl, fun h0 V7 l7 => (c_num_Divide (hx.le l7) (hg.le l7) hm hgl hgp).mono ?_, fun h0 V19 l19 => c_num_One.mono ?_⟩
  · rintro r V8 l8 ⟨p4, n4, c4, p5, n5, c5, rfl, g1, -⟩
    have hnd : (mkRat z d).num.natAbs = (mkRat z d).num.natAbs := rfl
    obtain ⟨k, hk⟩ := hgx
    have hk1 : z.natAbs / g = k := by rw [hk, Nat.mul_div_cancel_left _ hgp]
    rw [hk1] at g1
    have hz : z = (g : Int) * (if z < 0 then -(k : Int) else k) := by
      split
      · rw [Int.mul_neg, ← Int.natCast_mul, ← hk]; omega
      · rw [← Int.natCast_mul, ← hk]; omega
    have hwn : w.num = (if z < 0 then -(k : Int) else k) := by
      rw [hnum]
      generalize (if z < 0 then -(k : Int) else k) = t at *
      rw [hz, Int.mul_ediv_cancel_left _ (by omega)]
    refine ⟨_, _, _, _, _, _, rfl, fun V9 l9 => (c_num_Make _ (g1.le l9)).mono ?_⟩
    have hite : (if decide (z < 0) = true then -(k : Int) else k) = w.num := by
      rw [hwn]; simp
    rw [hite]
    rintro r V10 l10 ⟨p7, n7, c7, rfl, g2⟩
    refine ⟨_, _, _, _, rfl, fun V11 l11 => (c_num_Divide (hy.le (l7.trans (l8.trans (l9.trans (l10.trans l11))))) (hg.le (l7.trans (l8.trans (l9.trans (l10.trans l11))))) hn hgl hgp).mono ?_⟩
    rintro r V12 l12 ⟨p8, n8, c8, p9, n9, c9, rfl, g3, -⟩
    rw [← hden] at g3
    refine ⟨_, _, _, _, _, _, rfl, fun V13 l13 => c_num_One.mono ?_⟩
    rintro r V14 l14 ⟨p10, n10, c10, rfl, g4⟩
    have hdl : (digs w.den).length ≤ 274877906944 := by rw [hden]; exact Nat.le_trans (digs_len_mono (Nat.div_le_self _ _)) hn
    refine ⟨_, _, _, rfl, fun V15 l15 => (c_num_Cmp (g3.le (l13.trans (l14.trans l15))) (g4.le l15) (by omega) (by decide)).mono ?_⟩
    rintro r V16 l16 rfl
    refine ⟨_, rfl, fun h9 V17 l17 => rq_of rfl rfl (g2.le (l11.trans (l12.trans (l13.trans (l14.trans (l15.trans (l16.trans l17))))))) ?_ rfl, fun h9 V18 l18 => rq_of rfl rfl (g2.le (l11.trans (l12.trans (l13.trans (l14.trans (l15.trans (l16.trans l18))))))) ?_ rfl⟩
    · have : w.den = 1 := cmpN_zero.1 (by simpa using h9)
      rw [dend_nil.2 this]; exact RD.nil
    · have : w.den ≠ 1 := fun e => by rw [cmpN_zero.2 e] at h9; simp at h9
      unfold dend
      rw [if_neg this]
      exact g3.le (l13.trans (l14.trans (l15.trans (l16.trans l18))))
  · have hg1 : g = 1 := cmpN_zero.1 (by simpa using h0)
    have hwn : w.num = z := by rw [hnum, hg1]; simp
    have hwd : w.den = d := by rw [hden, hg1]; simp
    rintro r V20 l20 ⟨p12, n12, c12, rfl, g4⟩
    refine ⟨_, _, _, rfl, fun V21 l21 => (c_num_Cmp (hy.le (l19.trans (l20.trans l21))) (g4.le l21) (by omega) (by decide)).mono ?_⟩
    rintro r V22 l22 rfl
    refine ⟨_, rfl, fun h9 V17 l17 => rq_of hwn hwd (hx.le (l19.trans (l20.trans (l21.trans (l22.trans l17))))) ?_ rfl, fun h9 V18 l18 => rq_of hwn hwd (hx.le (l19.trans (l20.trans (l21.trans (l22.trans l18))))) ?_ rfl⟩
    · have : d = 1 := cmpN_zero.1 (by simpa using h9)
      unfold dend
      rw [if_pos this]; exact RD.nil
    · have : d ≠ 1 := fun e => by rw [cmpN_zero.2 e] at h9; simp at h9
      unfold dend
      rw [if_neg this]
      exact hy.le (l19.trans (l20.trans (l21.trans (l22.trans l18))))

theorem c_num_Of {V : View} (n : Int) (h0 : -9223372036854775808 ≤ n) (h1 : n ≤ 9223372036854775807) :
    Acts prog 39 #[.int .i64 n] V fun r V' => RQ V' r (n : Rat) := by
  refine vc_num_Of n V _ fun V1 l1 => (c_num_Int n h0 h1).mono ?_
  rintro r V2 l2 ⟨p, m, c, rfl, g⟩
  exact ⟨_, _, _, _, rfl, fun V3 l3 => rq_of (z := n) (d := 1) rfl rfl (g.le l3) RD.nil rfl⟩

theorem c_num_S {V : View} (q : Rat) {p p' : Option Addr} {n c n' c' : Nat} (h1 : RD V p n c (digs q.num.natAbs)) :
    Acts prog 114 #[.agg #[.bool (decide (q.num < 0)), .slice p n c, .slice p' n' c']] V fun r V' => r = .int .i64 q.num.sign := by
  refine vc_num_S _ p n c p' n' c' V _ fun V1 l1 => (c_num_Sign q.num (h1.le l1)).mono ?_
  rintro r V2 l2 rfl
  exact ⟨_, rfl, fun V3 l3 => rfl⟩

theorem c_num_Opp {V : View} (q : Rat) {p p' : Option Addr} {n c n' c' : Nat} (h1 : RD V p n c (digs q.num.natAbs)) (h2 : RD V p' n' c' (dend q.den)) :
    Acts prog 32 #[.agg #[.bool (decide (q.num < 0)), .slice p n c, .slice p' n' c']] V fun r V' => RQ V' r (-q) := by
  refine vc_num_Opp _ p n c p' n' c' V _ fun V1 l1 => (c_num_Minus q.num (h1.le l1)).mono ?_
  rintro r V2 l2 ⟨p1, n1, c1, rfl, g⟩
  exact ⟨_, _, _, _, rfl, fun V3 l3 => rq_of (q := -q) (z := -q.num) (d := q.den) (by rfl) (by rfl) (g.le l3) ((h2.le l1).le (l2.trans l3)) rfl⟩
end Go.Proofs.Tryz
/- Contracts of package frac: Num, Den, words, Int, Whole, Neg, Sign. -/
namespace Go.Eng
open Go.Big
theorem RI.inv {V : View} {b : Bool} {p : Option Addr} {n c : Nat} {z : Int} (h : RI V (.agg #[.bool b, .slice p n c]) z) : b = decide (z < 0) ∧ RD V p n c (digs z.natAbs) := by
  obtain ⟨p1, n1, c1, e, hn⟩ := h
  simp at e
  obtain ⟨rfl, rfl, rfl, rfl⟩ := e
  exact ⟨rfl, hn⟩
end Go.Eng
namespace Go.Proofs.Tryz
open Go.Eng Go.Big

theorem c_R_Num {V : View} {v : Value} {q : Rat} (h : RR V v q) {k : Nat} (hs : Sz k q) (hk : k ≤ 1099511627776) :
    Acts prog 74 #[v] V fun r V' => RI V' r q.num := by
  rcases h with ⟨rfl, hw⟩ | ⟨a, b, p, n, c, p', n', c', rfl, h1, h2, h3, h4, h5, hw⟩
  · have := hw.1
    refine vc_frac_R_Num _ _ _ V _ ⟨(fun h0 => nomatch h0), fun _ V1 l1 => (c_integer_FromInt _ (by omega) (by omega)).mono ?_⟩
    rintro r V2 l2 ⟨p, n, c, rfl, g⟩
    exact ⟨_, _, _, _, rfl, fun V3 l3 => ⟨_, _, _, rfl, g.le l3⟩⟩
  · obtain ⟨rfl, hn⟩ := h4.inv
    refine vc_frac_R_Num _ _ _ V _ ⟨fun _ => ⟨rfl, rfl, decide (q.num < 0), p, n, c, a.add 0, rfl, ?_, ?_, fun V1 l1 => (c_integer_Norm _ (hn.le l1) (Nat.le_trans (digs_len_bits hs.1) hk)).mono ?_⟩, fun h0 => nomatch h0⟩
    · exact h1
    · simpa [Addr.add] using h2
    · rintro r V2 l2 ⟨p, n, c, rfl, g⟩
      rw [ival_digs] at g ⊢
      exact ⟨_, _, _, _, rfl, fun V3 l3 => ⟨_, _, _, rfl, g.le l3⟩⟩

theorem c_R_Den {V : View} {v : Value} {q : Rat} (h : RR V v q) {k : Nat} (hs : Sz k q) (hk : k ≤ 1099511627776) :
    Acts prog 89 #[v] V fun r V' => ∃ p n c, r = .slice p n c ∧ RN V' p n c q.den := by
  rcases h with ⟨rfl, hw⟩ | ⟨a, b, p, n, c, p', n', c', rfl, h1, h2, h3, h4, h5, hw⟩
  · have := hw.2
    have hd := q.den_nz
    refine vc_frac_R_Den _ _ _ V _ ⟨(fun h0 => nomatch h0), fun _ V1 l1 => ?_⟩
    rw [i64w (by omega), u64w (by omega)]
    refine (c_nat_FromUint _ (by omega) (by omega)).mono ?_
    rintro r V2 l2 ⟨p, n, c, rfl, g⟩
    rw [show ((q.den : Int) - 1 + 1).toNat = q.den from by omega] at g
    exact ⟨_, _, _, rfl, fun V3 l3 => ⟨_, _, _, rfl, g.le l3⟩⟩
  · refine vc_frac_R_Den _ _ _ V _ ⟨fun _ => ⟨rfl, rfl, _, _, _, ⟨_, rfl, h3⟩, fun V1 l1 => (c_nat_Norm (h5.le l1) (Nat.le_trans (digs_len_bits hs.2) hk)).mono ?_⟩, fun h0 => nomatch h0⟩
    rintro r V2 l2 ⟨p, n, c, rfl, g⟩
    rw [val_digs] at g
    exact ⟨_, _, _, rfl, fun V3 l3 => ⟨_, _, _, rfl, g.le l3⟩⟩

theorem c_frac_abs {V : View} (n : Int) (h0 : -9223372036854775808 < n) (h1 : n ≤ 9223372036854775807) :
    Acts prog 87 #[.int .i64 n] V fun r V' => r = .int .u64 (n.natAbs : Int) := by
  refine vc_frac_abs n V _ ⟨fun h2 V1 l1 => ?_, fun h2 V1 l1 => ?_⟩
  · have h2 : n < 0 := by simpa using h2
    rw [i64w (by omega), u64w (by omega)]; congr 1; omega
  · have h2 : 0 ≤ n := by simpa using h2
    rw [u64w (by omega)]; congr 1; omega

theorem c_frac_gcd {V : View} (x y : Nat) (hx : x < 18446744073709551616) (hy : y < 18446744073709551616) :
    Acts prog 86 #[.int .u64 (x : Int), .int .u64 (y : Int)] V fun r V' => r = .int .u64 (Nat.gcd x y : Int) := by
  refine vc_frac_gcd _ _ V _ ⟨fun z V' => ∃ a b : Nat, z = ((a : Int), (b : Int)) ∧ Nat.gcd a b = Nat.gcd x y, fun z => z.2.toNat,
    ⟨((x : Int), (y : Int)), by (try dsimp only); and_intros <;> trivial, x, y, rfl, rfl⟩, ?_⟩
  rintro _ V16 l16 ⟨a, b, rfl, hab⟩
  dsimp only
  refine ⟨by trivial, fun h3 => ?_, fun h3 V17 l17 => ?_⟩
  · have h3 : b ≠ 0 := by rw [bne_iff_ne] at h3; omega
    have hlt : a % b < b := Nat.mod_lt _ (by omega)
    have e4 : (a : Int).tmod (b : Int) = ((a % b : Nat) : Int) := by rw [Int.tmod_eq_emod_of_nonneg (by omega), ← Int.natCast_emod]
    rw [e4]
    exact ⟨by omega, ((b : Int), ((a % b : Nat) : Int)), by (try dsimp only); rw [Int.toNat_natCast, Int.toNat_natCast]; exact hlt, by (try dsimp only); and_intros <;> trivial, b, a % b, rfl, by rw [gcd_step, hab]⟩
  · have h3 : b = 0 := by rw [bne_eq_false_iff_eq] at h3; omega
    subst h3
    rw [Nat.gcd_zero_right] at hab
    rw [hab]

theorem c_frac_times {V : View} (a b : Int) (ha : a.natAbs < 4611686018427387904) (hb : b.natAbs < 4611686018427387904) :
    Acts prog 126 #[.int .i64 a, .int .i64 b] V fun r V' => ∃ z : Int, r = .tuple #[.int .i64 z, .bool (decide ((a * b).natAbs < 4611686018427387904))] ∧ ((a * b).natAbs < 4611686018427387904 → z = a * b) := by
  refine vc_frac_times a b V _ fun V1 l1 => (c_frac_abs a (by omega) (by omega)).mono ?_
  rintro r V2 l2 rfl
  refine ⟨_, rfl, fun V3 l3 => (c_frac_abs b (by omega) (by omega)).mono ?_⟩
  rintro r V4 l4 rfl
  refine ⟨_, rfl, fun V5 l5 => (c_Mul64 _ _ (by omega) (by omega)).mono ?_⟩
  rintro r V6 l6 rfl
  have hab : (a * b).natAbs = a.natAbs * b.natAbs := Int.natAbs_mul a b
  have hsg : a * b = if (decide (a < 0) == decide (b < 0)) then ((a.natAbs * b.natAbs : Nat) : Int) else -((a.natAbs * b.natAbs : Nat) : Int) := by
    rw [Int.natCast_mul]
    by_cases h1 : a < 0 <;> by_cases h2 : b < 0
    · rw [decide_eq_true h1, decide_eq_true h2, show (a.natAbs : Int) = -a from by omega, show (b.natAbs : Int) = -b from by omega]; simp [Int.neg_mul, Int.mul_neg]
    · rw [decide_eq_true h1, decide_eq_false h2, if_neg (by decide), show (a.natAbs : Int) = -a from by omega, show (b.natAbs : Int) = b from by omega]; simp [Int.neg_mul]
    · rw [decide_eq_false h1, decide_eq_true h2, if_neg (by decide), show (a.natAbs : Int) = a from by omega, show (b.natAbs : Int) = -b from by omega]; simp [Int.mul_neg]
    · rw [decide_eq_false h1, decide_eq_false h2, show (a.natAbs : Int) = a from by omega, show (b.natAbs : Int) = b from by omega]; simp
  rw [hab]
  generalize a.natAbs * b.natAbs = p at *
  refine ⟨_, _, rfl, fun h0 V7 l7 => ?_, fun h0 => ⟨fun h1 V7 l7 => ?_, fun h1 => ⟨fun h2 V7 l7 => ?_, fun h2 V7 l7 => ?_⟩⟩⟩
  · have h0 : 18446744073709551616 ≤ p := by rw [bne_iff_ne] at h0; omega
    rw [decide_eq_false (by omega)]
    exact ⟨_, rfl, fun h => by omega⟩
  · have h1 : 4611686018427387904 ≤ p := by
      rw [decide_eq_true_eq] at h1; omega
    rw [decide_eq_false (by omega)]
    exact ⟨_, rfl, fun h => by omega⟩
  · have h0 : p / 18446744073709551616 = 0 := by rw [bne_eq_false_iff_eq] at h0; omega
    have h1 : p < 4611686018427387904 := by rw [decide_eq_false_iff_not] at h1; omega
    rw [decide_eq_true h1, i64w (x := ((p % 18446744073709551616 : Nat) : Int)) (by omega), i64w (by omega)]
    refine ⟨_, rfl, fun _ => ?_⟩
    have h2 : (decide (a < 0) == decide (b < 0)) = false := by simpa using h2
    rw [hsg, h2, if_neg (by decide)]; omega
  · have h0 : p / 18446744073709551616 = 0 := by rw [bne_eq_false_iff_eq] at h0; omega
    have h1 : p < 4611686018427387904 := by rw [decide_eq_false_iff_not] at h1; omega
    rw [decide_eq_true h1, i64w (x := ((p % 18446744073709551616 : Nat) : Int)) (by omega)]
    refine ⟨_, rfl, fun _ => ?_⟩
    have h2 : (decide (a < 0) == decide (b < 0)) = true := by simpa using h2
    rw [hsg, h2, if_pos rfl]; omega

theorem c_frac_lowest {V : View} (n : Int) (d : Nat) (hn : n.natAbs < 4611686018427387904) (hd : d < 4611686018427387904) (hd0 : d ≠ 0) :
    Acts prog 127 #[.int .i64 n, .int .i64 (d : Int)] V fun r V' => RR V' r (mkRat n d) := by
  refine vc_frac_lowest n _ V _ fun V1 l1 => (c_frac_abs n (by omega) (by omega)).mono ?_
  rintro r V2 l2 rfl
  rw [u64w (x := (d : Int)) (by omega)]
  refine ⟨_, rfl, fun V3 l3 => (c_frac_gcd _ _ (by omega) (by omega)).mono ?_⟩
  rintro r V4 l4 rfl
  have hgl : Nat.gcd n.natAbs d ≤ d := Nat.le_of_dvd (by omega) (Nat.gcd_dvd_right _ _)
  have hgp : 0 < Nat.gcd n.natAbs d := Nat.gcd_pos_of_pos_right _ (by omega)
  have hnum := Rat.num_mkRat n d
  have hden := Rat.den_mkRat n d
  rw [if_neg hd0, Nat.gcd_comm] at hnum hden
  have hdvd : (Nat.gcd n.natAbs d : Int) ∣ n := Int.ofNat_dvd_left.2 (Nat.gcd_dvd_left _ _)
  have hdl : d / Nat.gcd n.natAbs d ≤ d := Nat.div_le_self _ _
  have hnl : (n / (Nat.gcd n.natAbs d : Int)).natAbs ≤ n.natAbs := by
    rw [Int.natAbs_ediv_of_dvd hdvd, Int.natAbs_natCast]; exact Nat.div_le_self _ _
  have hW : Wd (mkRat n d) := by unfold Wd; rw [hnum, hden]; omega
  refine ⟨_, rfl, ?_⟩
  rw [i64w (x := ((Nat.gcd n.natAbs d : Nat) : Int)) (by omega)]
  refine ⟨fun h0 => ⟨by omega, by omega, fun V5 l5 => .inl ⟨?_, hW⟩⟩, fun h0 V5 l5 => .inl ⟨?_, hW⟩⟩
  · rw [hnum, hden]
    have e1 : n.tdiv (Nat.gcd n.natAbs d : Int) = n / (Nat.gcd n.natAbs d : Int) := Int.tdiv_eq_ediv_of_dvd hdvd
    have e2 : (d : Int).tdiv (Nat.gcd n.natAbs d : Int) = ((d / Nat.gcd n.natAbs d : Nat) : Int) := by rw [Int.tdiv_eq_ediv_of_nonneg (by omega), ← Int.natCast_ediv]
    rw [e1, e2]
    generalize n / (Nat.gcd n.natAbs d : Int) = nn at *
    generalize d / Nat.gcd n.natAbs d = dd at *
    rw [i64w (by omega), i64w (x := (dd : Int)) (by omega), i64w (by omega)]
  · have h0 : Nat.gcd n.natAbs d = 1 := by rw [decide_eq_false_iff_not] at h0; omega
    rw [hnum, hden, h0, i64w (by omega)]
    simp
end Go.Proofs.Tryz
/- Contracts of package frac: Int, Whole, Neg, Sign, Add, Cmp, Gcd. -/
namespace Go.Proofs.Tryz
open Go.Eng Go.Big

theorem mkRat_one (z : Int) : mkRat z 1 = (z : Rat) := by
  apply Rat.ext
  · rw [Rat.num_mkRat]; simp
  · rw [Rat.den_mkRat]; simp
theorem RD.one {V : View} {bk : Nat} {ty : TypeId} {m : Nat × Nat} (h : V.blk bk (.cells #[.int .u32 1] ty m)) : RD V (some ⟨bk, 0, none⟩) 1 1 [1] :=
  RD.blk (ds := [1]) h (by simp [Dig]) rfl (Nat.le_refl _)

theorem c_frac_Whole {V : View} (b : Bool) {p : Option Addr} {n c : Nat} {ds : List Nat} (h : RD V p n c ds) (hm : ds.length ≤ 1099511627776) :
    Acts prog 67 #[.agg #[.bool b, .slice p n c]] V fun r V' => RR V' r (ival b ds : Rat) := by
  refine vc_frac_Whole b p n c V _ fun V1 l1 bk hb => (c_frac_reduce b (h.le l1) (RD.one hb) hm (by simp)).mono ?_
  rintro r V2 l2 hr
  have e : mkRat (ival b ds) (val [1]) = (ival b ds : Rat) := mkRat_one _
  rw [e] at hr
  obtain ⟨n, d, p, rfl⟩ := hr.shape
  exact ⟨_, _, _, rfl, fun _ V3 l3 => hr.le l3⟩

theorem intCast_wd {z : Int} (h : z.natAbs < 4611686018427387904) : Wd (z : Rat) := ⟨h, by show (1 : Nat) < _; decide⟩

theorem c_frac_Int {V : View} (n : Int) (h0 : -9223372036854775808 ≤ n) (h1 : n ≤ 9223372036854775807) :
    Acts prog 71 #[.int .i64 n] V fun r V' => RR V' r (n : Rat) := by
  have big : ∀ V1 : View, V.Le V1 → Acts prog 92 #[.int .i64 n] V1 fun r1_ V2 => ∃ b1_ : Bool, ∃ (p2_ : Option Addr) (n2_ c2_ : Nat), r1_ = .agg #[.bool b1_, .slice p2_ n2_ c2_] ∧ (∀ V3 : View, V2.Le V3 → ∀ bk3_ : Nat, V3.blk bk3_ (.cells #[.int .u32 1] 124 (0, 0)) → Acts prog 85 #[.agg #[.bool b1_, .slice p2_ n2_ c2_], .slice (some ⟨bk3_, 0, none⟩) 1 1] V3 fun r3_ V4 => ∃ x4_ : Int, ∃ x5_ : Int, ∃ p6_ : Option Addr, r3_ = .agg #[.int .i64 x4_, .int .i64 x5_, .pointer p6_] ∧ ∀ J7_ : C → Value, (∀ V5 : View, V4.Le V5 → RR V5 (.agg #[.int .i64 x4_, .int .i64 x5_, .pointer p6_]) (n : Rat))) := by
    intro V1 l1
    refine (c_integer_FromInt n h0 h1).mono ?_
    rintro r V2 l2 ⟨p, m, c, rfl, g⟩
    refine ⟨_, _, _, _, rfl, fun V3 l3 bk hb => (c_frac_reduce _ (g.le l3) (RD.one hb) (Nat.le_trans (digs_len_bits (k := 64) (by omega)) (by omega)) (by simp)).mono ?_⟩
    rintro r V4 l4 hr
    have e : mkRat (ival (decide (n < 0)) (digs n.natAbs)) (val [1]) = (n : Rat) := by rw [ival_digs]; exact mkRat_one _
    rw [e] at hr
    obtain ⟨n, d, p, rfl⟩ := hr.shape
    exact ⟨_, _, _, rfl, fun _ V3 l3 => hr.le l3⟩
  refine vc_frac_Int n V _ ⟨fun _ => big, fun h2 => ⟨fun _ => big, fun h3 V1 l1 => .inl ⟨rfl, intCast_wd ?_⟩⟩⟩
  rw [decide_eq_false_iff_not] at h2 h3
  omega

theorem c_R_Sign {V : View} {v : Value} {q : Rat} (h : RR V v q) {k : Nat} (hs : Sz k q) (hk : k ≤ 1099511627776) :
    Acts prog 113 #[v] V fun r V' => r = .int .i64 q.num.sign := by
  rcases h with ⟨rfl, hw⟩ | ⟨a, b, p, n, c, p', n', c', rfl, h1, h2, h3, h4, h5, hw⟩
  · refine vc_frac_R_Sign _ _ _ V _ ⟨(fun h0 => nomatch h0), fun _ => ⟨fun h V1 l1 => ?_, fun h => ⟨fun h' V1 l1 => ?_, fun h' V1 l1 => ?_⟩⟩⟩
    · rw [Int.sign_eq_neg_one_of_neg (by simpa using h)]
    · rw [Int.sign_eq_one_of_pos (by simpa using h')]
    · have : q.num = 0 := by rw [decide_eq_false_iff_not] at h h'; omega
      rw [this]; rfl
  · obtain ⟨rfl, hn⟩ := h4.inv
    refine vc_frac_R_Sign _ _ _ V _ ⟨fun _ => ⟨rfl, rfl, decide (q.num < 0), p, n, c, a.add 0, rfl, ?_, ?_, fun V1 l1 => (c_integer_Sign _ (hn.le l1) (Nat.le_trans (digs_len_bits hs.1) hk)).mono ?_⟩, (fun h0 => nomatch h0)⟩
    · exact h1
    · simpa [Addr.add] using h2
    · rintro r V2 l2 rfl
      rw [ival_digs]
      exact ⟨_, rfl, fun V3 l3 => rfl⟩

theorem c_R_Zero {V : View} {v : Value} {q : Rat} (h : RR V v q) : Acts prog 68 #[v] V fun r V' => r = .bool (decide (q = 0)) := by
  rcases h with ⟨rfl, hw⟩ | ⟨a, b, p, n, c, p', n', c', rfl, h1, h2, h3, h4, h5, hw⟩
  · refine vc_frac_R_Zero _ _ _ V _ ⟨fun _ V1 l1 => ?_, (fun h0 => nomatch h0)⟩
    congr 1
    rw [Bool.eq_iff_iff, beq_iff_eq, decide_eq_true_eq]
    exact Rat.num_eq_zero
  · refine vc_frac_R_Zero _ _ _ V _ ⟨(fun h0 => nomatch h0), fun _ V1 l1 => ?_⟩
    congr 1
    symm; rw [decide_eq_false_iff_not]
    intro e; subst e; exact hw ⟨by decide, by decide⟩

theorem c_R_Neg {V : View} {v : Value} {q : Rat} (h : RR V v q) {k : Nat} (hs : Sz k q) (hk : k ≤ 1099511627776) :
    Acts prog 122 #[v] V fun r V' => RR V' r (-q) := by
  rcases h with ⟨rfl, hw⟩ | ⟨a, b, p, n, c, p', n', c', rfl, h1, h2, h3, h4, h5, hw⟩
  · have := hw.1
    refine vc_frac_R_Neg _ _ _ V _ ⟨(fun h0 => nomatch h0), fun _ V1 l1 => .inl ⟨?_, by unfold Wd; rw [Rat.neg_num, Rat.neg_den, Int.natAbs_neg]; exact hw⟩⟩
    rw [i64w (by omega), Rat.neg_num, Rat.neg_den, Int.zero_sub]
  · obtain ⟨rfl, hn⟩ := h4.inv
    refine vc_frac_R_Neg _ _ _ V _ ⟨fun _ => ⟨rfl, rfl, decide (q.num < 0), p, n, c, a.add 0, rfl, ?_, ?_, rfl, rfl, p', n', c', ⟨_, rfl, h3⟩, fun V1 l1 => (c_integer_Neg _ (hn.le l1) (Nat.le_trans (digs_len_bits hs.1) hk)).mono ?_⟩, (fun h0 => nomatch h0)⟩
    · exact h1
    · simpa [Addr.add] using h2
    · rintro r V2 l2 hri
      rw [ival_digs] at hri
      obtain ⟨p2, n2, c2, rfl, g⟩ := hri
      refine ⟨_, _, _, _, rfl, fun V3 l3 bk hb => .inr ⟨⟨bk, 0, none⟩, decide (-q.num < 0), p2, n2, c2, p', n', c', rfl, ?_, ?_, ?_, ?_, ?_, ?_⟩⟩
      · rw [add_zero']; exact blk_at (xs := [_, _, _]) hb rfl
      · rw [add_zero']; exact blk_at (xs := [_, _, _]) hb rfl
      · rw [add_zero']; exact blk_at (xs := [_, _, _]) hb rfl
      · exact ⟨_, _, _, rfl, g.le l3⟩
      · exact h5.le (l1.trans (l2.trans l3))
      · unfold Wd; rw [Rat.neg_num, Rat.neg_den, Int.natAbs_neg]; exact hw

theorem _root_.Go.Eng.Sz.neg {k : Nat} {q : Rat} (h : Sz k q) : Sz k (-q) := by unfold Sz; rw [Rat.neg_num, Rat.neg_den, Int.natAbs_neg]; exact h
theorem natAbs_ediv_le (z : Int) (g : Nat) (h : (g : Int) ∣ z) : (z / g).natAbs ≤ z.natAbs := by
  rw [Int.natAbs_ediv_of_dvd h, Int.natAbs_natCast]; exact Nat.div_le_self _ _
theorem _root_.Go.Eng.Sz.mkRat {k : Nat} {z : Int} {d : Nat} (h1 : z.natAbs < 2 ^ k) (h2 : d < 2 ^ k) (hk : 0 < k) : Sz k (mkRat z d) := by
  have h3 : 1 < 2 ^ k := Nat.one_lt_two_pow (by omega)
  unfold Sz
  rw [Rat.num_mkRat, Rat.den_mkRat]
  split
  · exact ⟨Nat.two_pow_pos k, h3⟩
  · refine ⟨Nat.lt_of_le_of_lt (natAbs_ediv_le _ _ (Int.ofNat_dvd_left.2 (Nat.gcd_dvd_right _ _))) h1, Nat.lt_of_le_of_lt (Nat.div_le_self _ _) h2⟩
theorem pow_mul_lt {a b k m : Nat} (h1 : a < 2 ^ k) (h2 : b < 2 ^ m) : a * b < 2 ^ (k + m) := by rw [Nat.pow_add]; exact Nat.mul_lt_mul'' h1 h2
theorem add_bits {x y : Rat} {k m : Nat} (hx : Sz k x) (hy : Sz m y) : (x.num * y.den).natAbs < 2 ^ (k + m) ∧ (y.num * x.den).natAbs < 2 ^ (k + m) ∧ (x.num * y.den + y.num * x.den).natAbs < 2 ^ (k + m + 1) ∧ x.den * y.den < 2 ^ (k + m) := by
  have h1 : (x.num * y.den).natAbs < 2 ^ (k + m) := by rw [Int.natAbs_mul, Int.natAbs_natCast]; exact pow_mul_lt hx.1 hy.2
  have h2 : (y.num * x.den).natAbs < 2 ^ (k + m) := by rw [Int.natAbs_mul, Int.natAbs_natCast, Nat.add_comm]; exact pow_mul_lt hy.1 hx.2
  refine ⟨h1, h2, ?_, pow_mul_lt hx.2 hy.2⟩
  rw [Nat.pow_succ]; omega
theorem _root_.Go.Eng.Sz.add {x y : Rat} {k m : Nat} (hx : Sz k x) (hy : Sz m y) : Sz (k + m + 1) (x + y) := by
  obtain ⟨-, -, h3, h4⟩ := add_bits hx hy
  rw [Rat.add_def']
  exact Go.Eng.Sz.mkRat h3 (Nat.lt_of_lt_of_le h4 (Nat.pow_le_pow_right (by omega) (by omega))) (by omega)
theorem _root_.Go.Eng.Sz.sub {x y : Rat} {k m : Nat} (hx : Sz k x) (hy : Sz m y) : Sz (k + m + 1) (x - y) := by
  rw [Rat.sub_eq_add_neg]; exact hx.add hy.neg
theorem _root_.Go.Eng.Sz.mul {x y : Rat} {k m : Nat} (hx : Sz k x) (hy : Sz m y) : Sz (k + m + 1) (x * y) := by
  rw [Rat.mul_def']
  refine (Go.Eng.Sz.mkRat (k := k + m + 1) ?_ ?_ (by omega))
  · rw [Int.natAbs_mul]; exact Nat.lt_of_lt_of_le (pow_mul_lt hx.1 hy.1) (Nat.pow_le_pow_right (by omega) (by omega))
  · exact Nat.lt_of_lt_of_le (pow_mul_lt hx.2 hy.2) (Nat.pow_le_pow_right (by omega) (by omega))

theorem c_R_Add {V : View} {v w : Value} {x y : Rat} (hx : RR V v x) (hy : RR V w y) {k m : Nat} (hk : Sz k x) (hm : Sz m y) (hkm : k + m < 1099511627776) :
    Acts prog 121 #[v, w] V fun r V' => RR V' r (x + y) := by
  obtain ⟨r0, r1, r2, rfl⟩ := hx.shape
  obtain ⟨s0, s1, s2, rfl⟩ := hy.shape
  have hxy : x + y = mkRat (x.num * y.den + y.num * x.den) (x.den * y.den) := Rat.add_def' x y
  obtain ⟨b1, b2, b3, b4⟩ := add_bits hk hm
  have gen : (∀ V46 : View, V.Le V46 → Acts prog 74 #[.agg #[.int .i64 r0, .int .i64 r1, .pointer r2]] V46 fun r46_ V47 => ∃ b53_ : Bool, ∃ (p54_ : Option Addr) (n54_ c54_ : Nat), r46_ = .agg #[.bool b53_, .slice p54_ n54_ c54_] ∧ (∀ V48 : View, V47.Le V48 → Acts prog 89 #[.agg #[.int .i64 s0, .int .i64 s1, .pointer s2]] V48 fun r48_ V49 => ∃ (p55_ : Option Addr) (n55_ c55_ : Nat), r48_ = .slice p55_ n55_ c55_ ∧ (∀ V50 : View, V49.Le V50 → Acts prog 129 #[.agg #[.bool b53_, .slice p54_ n54_ c54_], .agg #[.bool false, .slice p55_ n55_ c55_]] V50 fun r50_ V51 => ∃ b56_ : Bool, ∃ (p57_ : Option Addr) (n57_ c57_ : Nat), r50_ = .agg #[.bool b56_, .slice p57_ n57_ c57_] ∧ (∀ V52 : View, V51.Le V52 → Acts prog 74 #[.agg #[.int .i64 s0, .int .i64 s1, .pointer s2]] V52 fun r52_ V53 => ∃ b58_ : Bool, ∃ (p59_ : Option Addr) (n59_ c59_ : Nat), r52_ = .agg #[.bool b58_, .slice p59_ n59_ c59_] ∧ (∀ V54 : View, V53.Le V54 → Acts prog 89 #[.agg #[.int .i64 r0, .int .i64 r1, .pointer r2]] V54 fun r54_ V55 => ∃ (p60_ : Option Addr) (n60_ c60_ : Nat), r54_ = .slice p60_ n60_ c60_ ∧ (∀ V56 : View, V55.Le V56 → Acts prog 129 #[.agg #[.bool b58_, .slice p59_ n59_ c59_], .agg #[.bool false, .slice p60_ n60_ c60_]] V56 fun r56_ V57 => ∃ b61_ : Bool, ∃ (p62_ : Option Addr) (n62_ c62_ : Nat), r56_ = .agg #[.bool b61_, .slice p62_ n62_ c62_] ∧ (∀ V58 : View, V57.Le V58 → Acts prog 128 #[.agg #[.bool b56_, .slice p57_ n57_ c57_], .agg #[.bool b61_, .slice p62_ n62_ c62_]] V58 fun r58_ V59 => ∃ b63_ : Bool, ∃ (p64_ : Option Addr) (n64_ c64_ : Nat), r58_ = .agg #[.bool b63_, .slice p64_ n64_ c64_] ∧ (∀ V60 : View, V59.Le V60 → Acts prog 89 #[.agg #[.int .i64 r0, .int .i64 r1, .pointer r2]] V60 fun r60_ V61 => ∃ (p65_ : Option Addr) (n65_ c65_ : Nat), r60_ = .slice p65_ n65_ c65_ ∧ (∀ V62 : View, V61.Le V62 → Acts prog 89 #[.agg #[.int .i64 s0, .int .i64 s1, .pointer s2]] V62 fun r62_ V63 => ∃ (p66_ : Option Addr) (n66_ c66_ : Nat), r62_ = .slice p66_ n66_ c66_ ∧ (∀ V64 : View, V63.Le V64 → Acts prog 88 #[.slice p65_ n65_ c65_, .slice p66_ n66_ c66_] V64 fun r64_ V65 => ∃ (p67_ : Option Addr) (n67_ c67_ : Nat), r64_ = .slice p67_ n67_ c67_ ∧ (∀ V66 : View, V65.Le V66 → Acts prog 85 #[.agg #[.bool b63_, .slice p64_ n64_ c64_], .slice p67_ n67_ c67_] V66 fun r66_ V67 => ∃ x68_ : Int, ∃ x69_ : Int, ∃ p70_ : Option Addr, r66_ = .agg #[.int .i64 x68_, .int .i64 x69_, .pointer p70_] ∧ (∀ V68 : View, V67.Le V68 → RR V68 (.agg #[.int .i64 x68_, .int .i64 x69_, .pointer p70_]) (x + y))))))))))))) := by
    intro V1 l1
    refine (c_R_Num (hx.le l1) hk (by omega)).mono ?_
    rintro r V2 l2 ⟨p1, n1, c1, rfl, g1⟩
    refine ⟨_, _, _, _, rfl, fun V3 l3 => (c_R_Den (hy.le (l1.trans (l2.trans l3))) hm (by omega)).mono ?_⟩
    rintro r V4 l4 ⟨p2, n2, c2, rfl, g2⟩
    have q1 := digs_len_bits hk.1
    have q2 := digs_len_bits hk.2
    have q3 := digs_len_bits hm.1
    have q4 := digs_len_bits hm.2
    refine ⟨_, _, _, rfl, fun V5 l5 => (c_integer_Mul _ false (g1.le (l3.trans (l4.trans l5))) (g2.le l5) (by omega)).mono ?_⟩
    rintro r V6 l6 h6
    rw [ival_digs, ival_false, val_digs] at h6
    obtain ⟨p3, n3, c3, rfl, g3⟩ := h6
    refine ⟨_, _, _, _, rfl, fun V7 l7 => (c_R_Num (hy.le (l1.trans (l2.trans (l3.trans (l4.trans (l5.trans (l6.trans l7))))))) hm (by omega)).mono ?_⟩
    rintro r V8 l8 ⟨p4, n4, c4, rfl, g4⟩
    refine ⟨_, _, _, _, rfl, fun V9 l9 => (c_R_Den (hx.le (l1.trans (l2.trans (l3.trans (l4.trans (l5.trans (l6.trans (l7.trans (l8.trans l9))))))))) hk (by omega)).mono ?_⟩
    rintro r V10 l10 ⟨p5, n5, c5, rfl, g5⟩
    refine ⟨_, _, _, rfl, fun V11 l11 => (c_integer_Mul _ false (g4.le (l9.trans (l10.trans l11))) (g5.le l11) (by omega)).mono ?_⟩
    rintro r V12 l12 h12
    rw [ival_digs, ival_false, val_digs] at h12
    obtain ⟨p6, n6, c6, rfl, g6⟩ := h12
    have q5 := digs_len_bits b1
    have q6 := digs_len_bits b2
    refine ⟨_, _, _, _, rfl, fun V13 l13 => (c_integer_Add _ _ (g3.le (l7.trans (l8.trans (l9.trans (l10.trans (l11.trans (l12.trans l13))))))) (g6.le l13) (by omega) (by omega)).mono ?_⟩
    rintro r V14 l14 h14
    rw [ival_digs, ival_digs] at h14
    obtain ⟨p7, n7, c7, rfl, g7⟩ := h14
    have L14 := l1.trans (l2.trans (l3.trans (l4.trans (l5.trans (l6.trans (l7.trans (l8.trans (l9.trans (l10.trans (l11.trans (l12.trans (l13.trans l14))))))))))))
    refine ⟨_, _, _, _, rfl, fun V15 l15 => (c_R_Den (hx.le (L14.trans l15)) hk (by omega)).mono ?_⟩
    rintro r V16 l16 ⟨p8, n8, c8, rfl, g8⟩
    refine ⟨_, _, _, rfl, fun V17 l17 => (c_R_Den (hy.le (L14.trans (l15.trans (l16.trans l17)))) hm (by omega)).mono ?_⟩
    rintro r V18 l18 ⟨p9, n9, c9, rfl, g9⟩
    refine ⟨_, _, _, rfl, fun V19 l19 => (c_nat_Mul (g8.le (l17.trans (l18.trans l19))) (g9.le l19) (by omega)).mono ?_⟩
    rintro r V20 l20 ⟨p10, n10, c10, rfl, g10⟩
    rw [val_digs, val_digs] at g10
    have q7 := digs_len_bits b3
    have q8 := digs_len_bits b4
    refine ⟨_, _, _, rfl, fun V21 l21 => (c_frac_reduce _ (g7.le (l15.trans (l16.trans (l17.trans (l18.trans (l19.trans (l20.trans l21))))))) (g10.le l21) (by omega) (by omega)).mono ?_⟩
    rintro r V22 l22 h22
    rw [ival_digs, val_digs, ← hxy] at h22
    obtain ⟨n, d, p, rfl⟩ := h22.shape
    exact ⟨_, _, _, rfl, fun V23 l23 => h22.le l23⟩
  have lift : ∀ V1 : View, V.Le V1 → ∀ V2 : View, V1.Le V2 → V.Le V2 := fun _ h _ h' => h.trans h'
  rcases hx with ⟨ex, wx⟩ | ⟨a, b, p, n, c, p', n', c', ex, -, -, -, -, -, wx⟩
  · rcases hy with ⟨ey, wy⟩ | ⟨a, b, p, n, c, p', n', c', ey, -, -, -, -, -, wy⟩
    · simp only [Value.agg.injEq, Array.mk.injEq, List.cons.injEq, Value.int.injEq, Value.pointer.injEq, true_and, and_true] at ex ey
      obtain ⟨rfl, rfl, rfl⟩ := ex
      obtain ⟨rfl, rfl, rfl⟩ := ey
      obtain ⟨wx1, wx2⟩ := wx
      obtain ⟨wy1, wy2⟩ := wy
      have dx := x.den_nz
      have dy := y.den_nz
      have e1 : IntKind.i64.wrap ((x.den : Int) - 1 + 1) = x.den := by rw [i64w (by omega)]; omega
      have e2 : IntKind.i64.wrap ((y.den : Int) - 1 + 1) = y.den := by rw [i64w (by omega)]; omega
      refine vc_frac_R_Add _ _ _ _ _ _ V _ ⟨fun _ => ⟨fun _ _ => True, ⟨fun _ => ⟨fun h1 => ⟨fun h2 V1 l1 => ?_, fun h2 => ?_⟩, fun h1 => ?_⟩, (fun h => nomatch h)⟩, fun _ V1 l1 _ => ⟨by trivial, fun V2 l2 => gen V2 (l1.trans l2)⟩⟩, (fun h => nomatch h)⟩
      · have h1 : x.den = 1 := by rw [beq_iff_eq] at h1; omega
        have h2 : y.den = 1 := by rw [beq_iff_eq] at h2; omega
        rw [i64w (by omega)]
        refine (c_frac_Int _ (by omega) (by omega)).mono ?_
        rintro r V2 l2 hr
        have e : ((x.num + y.num : Int) : Rat) = x + y := by
          rw [hxy, h1, h2]
          simp only [Nat.mul_one, Int.natCast_one, Int.mul_one]
          exact (mkRat_one _).symm
        rw [e] at hr
        obtain ⟨n, d, p, rfl⟩ := hr.shape
        exact ⟨_, _, _, rfl, fun V3 l3 => hr.le l3⟩
      all_goals
        rw [e1, e2]
        refine fun V4 l4 => (c_frac_times _ _ wx1 (by omega)).mono ?_
        rintro r V5 l5 ⟨z1, rfl, hz1⟩
        refine ⟨_, _, rfl, fun V6 l6 => (c_frac_times _ _ wy1 (by omega)).mono ?_⟩
        rintro r V7 l7 ⟨z2, rfl, hz2⟩
        refine ⟨_, _, rfl, fun V8 l8 => (c_frac_times _ _ (by omega) (by omega)).mono ?_⟩
        rintro r V9 l9 ⟨z3, rfl, hz3⟩
        refine ⟨_, _, rfl, fun g1 => ⟨fun g2 => ⟨fun g3 => ⟨fun g4 => ⟨fun g5 V10 l10 => ?_, fun _ => ⟨(), by and_intros <;> rfl, trivial⟩⟩, fun _ => ⟨(), by and_intros <;> rfl, trivial⟩⟩, fun _ => ⟨(), by and_intros <;> rfl, trivial⟩⟩, fun _ => ⟨(), by and_intros <;> rfl, trivial⟩⟩, fun _ => ⟨(), by and_intros <;> rfl, trivial⟩⟩
        rw [decide_eq_true_eq] at g1 g2 g3 g4 g5
        have k1 := hz1 g1
        have k2 := hz2 g2
        have k3 := hz3 g3
        rw [← k1] at g1
        rw [← k2] at g2
        rw [← Int.natCast_mul, Int.natAbs_natCast] at g3
        rw [← Int.natCast_mul] at k3
        rw [i64w (by omega)] at g4 g5 ⊢
        rw [k3]
        refine (c_frac_lowest _ _ (by omega) g3 (Nat.mul_ne_zero dx dy)).mono ?_
        rintro r V11 l11 hr
        rw [k1, k2, ← hxy] at hr
        obtain ⟨n, d, p, rfl⟩ := hr.shape
        exact ⟨_, _, _, rfl, fun V3 l3 => hr.le l3⟩
    · simp only [Value.agg.injEq, Array.mk.injEq, List.cons.injEq, Value.int.injEq, Value.pointer.injEq, true_and, and_true] at ex ey
      obtain ⟨rfl, rfl, rfl⟩ := ex
      obtain ⟨rfl, rfl, rfl⟩ := ey
      exact vc_frac_R_Add _ _ _ _ _ _ V _ ⟨fun _ => ⟨fun _ _ => True, ⟨(fun h => nomatch h), fun _ => ⟨(), by and_intros <;> rfl, trivial⟩⟩, fun _ V1 l1 _ => ⟨by trivial, fun V2 l2 => gen V2 (l1.trans l2)⟩⟩, (fun h => nomatch h)⟩
  · simp only [Value.agg.injEq, Array.mk.injEq, List.cons.injEq, Value.int.injEq, Value.pointer.injEq, true_and, and_true] at ex
    obtain ⟨rfl, rfl, rfl⟩ := ex
    exact vc_frac_R_Add _ _ _ _ _ _ V _ ⟨(fun h => nomatch h), fun _ => gen⟩
end Go.Proofs.Tryz
/- Contracts of package frac: Sub, Cmp, Equal, Gcd. -/
namespace Go.Big
/-- The order of two numbers. -/
def cmpQ (x y : Rat) : Int := (x - y).num.sign
/-- The greatest number of which both are integer multiples. -/
def gcdQ (x y : Rat) : Rat := mkRat (Nat.gcd (x.num.natAbs * y.den) (y.num.natAbs * x.den) : Nat) (x.den * y.den)
theorem num_neg' {q : Rat} : q.num < 0 ↔ q < 0 := by
  have := @Rat.num_nonneg q
  rw [← Rat.not_le, ← this]; omega
theorem num_pos' {q : Rat} : 0 < q.num ↔ 0 < q := by
  have h1 := @Rat.num_nonneg q
  have h2 := @Rat.num_eq_zero q
  rw [Rat.lt_iff_le_and_ne, ← h1]
  constructor
  · intro h; exact ⟨by omega, fun e => by rw [← e] at h; simp at h⟩
  · rintro ⟨h, hne⟩
    have : q.num ≠ 0 := fun e => hne (h2.1 e).symm
    omega
theorem cmpQ_lt {x y : Rat} : x < y ↔ cmpQ x y = -1 := by
  unfold cmpQ
  rw [Int.sign_eq_neg_one_iff_neg, num_neg', Rat.lt_iff_sub_pos x y, ← Rat.neg_sub y x]
  constructor
  · intro h; have := Rat.neg_lt_neg h; simpa using this
  · intro h; have := Rat.neg_lt_neg h; rw [Rat.neg_neg] at this; simpa using this
theorem cmpQ_gt {x y : Rat} : y < x ↔ cmpQ x y = 1 := by
  unfold cmpQ
  rw [Int.sign_eq_one_iff_pos, num_pos', Rat.lt_iff_sub_pos y x]
theorem cmpQ_eq {x y : Rat} : x = y ↔ cmpQ x y = 0 := by
  unfold cmpQ
  rw [Int.sign_eq_zero_iff_zero, Rat.num_eq_zero]
  constructor
  · intro h; subst h; exact Rat.sub_self
  · intro h
    have := congrArg (· + y) h
    simpa [Rat.sub_add_cancel, Rat.zero_add] using this
end Go.Big
namespace Go.Proofs.Tryz
open Go.Eng Go.Big

theorem c_R_Sub {V : View} {v w : Value} {x y : Rat} (hx : RR V v x) (hy : RR V w y) {k m : Nat} (hk : Sz k x) (hm : Sz m y) (hkm : k + m < 1099511627776) :
    Acts prog 112 #[v, w] V fun r V' => RR V' r (x - y) := by
  obtain ⟨r0, r1, r2, rfl⟩ := hx.shape
  obtain ⟨s0, s1, s2, rfl⟩ := hy.shape
  refine vc_frac_R_Sub _ _ _ _ _ _ V _ fun V1 l1 => (c_R_Neg (hy.le l1) hm (by omega)).mono ?_
  rintro r V2 l2 h2
  obtain ⟨n, d, p, rfl⟩ := h2.shape
  refine ⟨_, _, _, rfl, fun V3 l3 => (c_R_Add (hx.le (l1.trans (l2.trans l3))) (h2.le l3) hk hm.neg hkm).mono ?_⟩
  rintro r V4 l4 h4
  rw [← Rat.sub_eq_add_neg] at h4
  obtain ⟨n, d, p, rfl⟩ := h4.shape
  exact ⟨_, _, _, rfl, fun V5 l5 => h4.le l5⟩

theorem c_R_Cmp {V : View} {v w : Value} {x y : Rat} (hx : RR V v x) (hy : RR V w y) {k m : Nat} (hk : Sz k x) (hm : Sz m y) (hkm : k + m < 1099511627776) :
    Acts prog 91 #[v, w] V fun r V' => r = .int .i64 (cmpQ x y) := by
  obtain ⟨r0, r1, r2, rfl⟩ := hx.shape
  obtain ⟨s0, s1, s2, rfl⟩ := hy.shape
  have gen : ∀ V14 : View, V.Le V14 → Acts prog 112 #[.agg #[.int .i64 r0, .int .i64 r1, .pointer r2], .agg #[.int .i64 s0, .int .i64 s1, .pointer s2]] V14 fun r14_ V15 => ∃ x9_ : Int, ∃ x10_ : Int, ∃ p11_ : Option Addr, r14_ = .agg #[.int .i64 x9_, .int .i64 x10_, .pointer p11_] ∧ (∀ V16 : View, V15.Le V16 → Acts prog 113 #[.agg #[.int .i64 x9_, .int .i64 x10_, .pointer p11_]] V16 fun r16_ V17 => ∃ x12_ : Int, r16_ = .int .i64 x12_ ∧ (∀ V18 : View, V17.Le V18 → Value.int .i64 x12_ = .int .i64 (cmpQ x y))) := by
    intro V1 l1
    refine (c_R_Sub (hx.le l1) (hy.le l1) hk hm hkm).mono ?_
    rintro r V2 l2 h2
    obtain ⟨n, d, p, rfl⟩ := h2.shape
    refine ⟨_, _, _, rfl, fun V3 l3 => (c_R_Sign (h2.le l3) (hk.sub hm) (by omega)).mono ?_⟩
    rintro r V4 l4 rfl
    exact ⟨_, rfl, fun _ _ => rfl⟩
  rcases hx with ⟨ex, wx⟩ | ⟨a, b, p, n, c, p', n', c', ex, -, -, -, -, -, wx⟩
  · rcases hy with ⟨ey, wy⟩ | ⟨a, b, p, n, c, p', n', c', ey, -, -, -, -, -, wy⟩
    · simp only [Value.agg.injEq, Array.mk.injEq, List.cons.injEq, Value.int.injEq, Value.pointer.injEq, true_and, and_true] at ex ey
      obtain ⟨rfl, rfl, rfl⟩ := ex
      obtain ⟨rfl, rfl, rfl⟩ := ey
      have hlt : x.den = y.den → ((x < y ↔ x.num < y.num) ∧ (y < x ↔ y.num < x.num) ∧ (x = y ↔ x.num = y.num)) := by
        intro e
        have hd : (0 : Int) < y.den := by have := y.den_nz; omega
        refine ⟨?_, ?_, fun h => by rw [h], fun h => Rat.ext h e⟩
        · rw [Rat.lt_iff, e]; exact ⟨fun h => Int.lt_of_mul_lt_mul_right h (by omega), fun h => Int.mul_lt_mul_of_pos_right h hd⟩
        · rw [Rat.lt_iff, e]; exact ⟨fun h => Int.lt_of_mul_lt_mul_right h (by omega), fun h => Int.mul_lt_mul_of_pos_right h hd⟩
      refine vc_frac_R_Cmp _ _ _ _ _ _ V _ ⟨fun _ => ⟨fun _ => ⟨fun h1 => ?_, fun _ => gen⟩, (fun h => nomatch h)⟩, (fun h => nomatch h)⟩
      have h1 : x.den = y.den := by rw [beq_iff_eq] at h1; omega
      obtain ⟨g1, g2, g3⟩ := hlt h1
      refine ⟨fun h V1 l1 => ?_, fun h => ⟨fun h' V1 l1 => ?_, fun h' V1 l1 => ?_⟩⟩
      · rw [cmpQ_lt.1 (g1.2 (by simpa using h))]
      · rw [cmpQ_gt.1 (g2.2 (by simpa using h'))]
      · rw [cmpQ_eq.1 (g3.2 (by rw [decide_eq_false_iff_not] at h h'; omega))]
    · simp only [Value.agg.injEq, Array.mk.injEq, List.cons.injEq, Value.int.injEq, Value.pointer.injEq, true_and, and_true] at ex ey
      obtain ⟨rfl, rfl, rfl⟩ := ex
      obtain ⟨rfl, rfl, rfl⟩ := ey
      exact vc_frac_R_Cmp _ _ _ _ _ _ V _ ⟨fun _ => ⟨(fun h => nomatch h), fun _ => gen⟩, (fun h => nomatch h)⟩
  · simp only [Value.agg.injEq, Array.mk.injEq, List.cons.injEq, Value.int.injEq, Value.pointer.injEq, true_and, and_true] at ex
    obtain ⟨rfl, rfl, rfl⟩ := ex
    exact vc_frac_R_Cmp _ _ _ _ _ _ V _ ⟨(fun h => nomatch h), fun _ => gen⟩

theorem c_R_Equal {V : View} {v w : Value} {x y : Rat} (hx : RR V v x) (hy : RR V w y) {k m : Nat} (hk : Sz k x) (hm : Sz m y) (hkm : k + m < 1099511627776) :
    Acts prog 70 #[v, w] V fun r V' => r = .bool (decide (x = y)) := by
  obtain ⟨r0, r1, r2, rfl⟩ := hx.shape
  obtain ⟨s0, s1, s2, rfl⟩ := hy.shape
  refine vc_frac_R_Equal _ _ _ _ _ _ V _ fun V1 l1 => (c_R_Cmp (hx.le l1) (hy.le l1) hk hm hkm).mono ?_
  rintro r V2 l2 rfl
  refine ⟨_, rfl, fun V3 l3 => ?_⟩
  congr 1
  rw [Bool.eq_iff_iff, beq_iff_eq, decide_eq_true_eq, cmpQ_eq]

theorem gcd_bits {x y : Rat} {k m : Nat} (hx : Sz k x) (hy : Sz m y) : x.num.natAbs * y.den < 2 ^ (k + m) ∧ y.num.natAbs * x.den < 2 ^ (k + m) ∧ Nat.gcd (x.num.natAbs * y.den) (y.num.natAbs * x.den) < 2 ^ (k + m) ∧ x.den * y.den < 2 ^ (k + m) := by
  have h1 : x.num.natAbs * y.den < 2 ^ (k + m) := pow_mul_lt hx.1 hy.2
  have h2 : y.num.natAbs * x.den < 2 ^ (k + m) := by rw [Nat.add_comm]; exact pow_mul_lt hy.1 hx.2
  refine ⟨h1, h2, ?_, pow_mul_lt hx.2 hy.2⟩
  rcases Nat.eq_zero_or_pos (x.num.natAbs * y.den) with e | e
  · rw [e, Nat.gcd_zero_left]; exact h2
  · exact Nat.lt_of_le_of_lt (Nat.le_of_dvd e (Nat.gcd_dvd_left _ _)) h1
theorem Sz_gcdQ {x y : Rat} {k m : Nat} (hx : Sz k x) (hy : Sz m y) : Sz (k + m + 1) (gcdQ x y) := by
  obtain ⟨-, -, h3, h4⟩ := gcd_bits hx hy
  have h5 : 2 ^ (k + m) ≤ 2 ^ (k + m + 1) := Nat.pow_le_pow_right (by omega) (by omega)
  exact Go.Eng.Sz.mkRat (by rw [Int.natAbs_natCast]; omega) (by omega) (by omega)

theorem c_frac_Gcd {V : View} {v w : Value} {x y : Rat} (hx : RR V v x) (hy : RR V w y) {k m : Nat} (hk : Sz k x) (hm : Sz m y) (hkm : k + m < 1099511627776) :
    Acts prog 69 #[v, w] V fun r V' => RR V' r (gcdQ x y) := by
  obtain ⟨r0, r1, r2, rfl⟩ := hx.shape
  obtain ⟨s0, s1, s2, rfl⟩ := hy.shape
  obtain ⟨b1, b2, b3, b4⟩ := gcd_bits hk hm
  have q1 := digs_len_bits hk.1
  have q2 := digs_len_bits hk.2
  have q3 := digs_len_bits hm.1
  have q4 := digs_len_bits hm.2
  have q5 := digs_len_bits b1
  have q6 := digs_len_bits b2
  have q7 := digs_len_bits b3
  have q8 := digs_len_bits b4
  have gen : (∀ V78 : View, V.Le V78 → Acts prog 89 #[.agg #[.int .i64 r0, .int .i64 r1, .pointer r2]] V78 fun r78_ V79 => ∃ (p52_ : Option Addr) (n52_ c52_ : Nat), r78_ = .slice p52_ n52_ c52_ ∧ (∀ V80 : View, V79.Le V80 → Acts prog 89 #[.agg #[.int .i64 s0, .int .i64 s1, .pointer s2]] V80 fun r80_ V81 => ∃ (p53_ : Option Addr) (n53_ c53_ : Nat), r80_ = .slice p53_ n53_ c53_ ∧ (∀ V82 : View, V81.Le V82 → Acts prog 88 #[.slice p52_ n52_ c52_, .slice p53_ n53_ c53_] V82 fun r82_ V83 => ∃ (p54_ : Option Addr) (n54_ c54_ : Nat), r82_ = .slice p54_ n54_ c54_ ∧ (∀ V84 : View, V83.Le V84 → Acts prog 74 #[.agg #[.int .i64 r0, .int .i64 r1, .pointer r2]] V84 fun r84_ V85 => ∃ b55_ : Bool, ∃ (p56_ : Option Addr) (n56_ c56_ : Nat), r84_ = .agg #[.bool b55_, .slice p56_ n56_ c56_] ∧ (∀ V86 : View, V85.Le V86 → Acts prog 89 #[.agg #[.int .i64 s0, .int .i64 s1, .pointer s2]] V86 fun r86_ V87 => ∃ (p57_ : Option Addr) (n57_ c57_ : Nat), r86_ = .slice p57_ n57_ c57_ ∧ (∀ V88 : View, V87.Le V88 → Acts prog 88 #[.slice p56_ n56_ c56_, .slice p57_ n57_ c57_] V88 fun r88_ V89 => ∃ (p58_ : Option Addr) (n58_ c58_ : Nat), r88_ = .slice p58_ n58_ c58_ ∧ (∀ V90 : View, V89.Le V90 → Acts prog 74 #[.agg #[.int .i64 s0, .int .i64 s1, .pointer s2]] V90 fun r90_ V91 => ∃ b59_ : Bool, ∃ (p60_ : Option Addr) (n60_ c60_ : Nat), r90_ = .agg #[.bool b59_, .slice p60_ n60_ c60_] ∧ (∀ V92 : View, V91.Le V92 → Acts prog 89 #[.agg #[.int .i64 r0, .int .i64 r1, .pointer r2]] V92 fun r92_ V93 => ∃ (p61_ : Option Addr) (n61_ c61_ : Nat), r92_ = .slice p61_ n61_ c61_ ∧ (∀ V94 : View, V93.Le V94 → Acts prog 88 #[.slice p60_ n60_ c60_, .slice p61_ n61_ c61_] V94 fun r94_ V95 => ∃ (p62_ : Option Addr) (n62_ c62_ : Nat), r94_ = .slice p62_ n62_ c62_ ∧ (∀ V96 : View, V95.Le V96 → Acts prog 90 #[.slice p58_ n58_ c58_, .slice p62_ n62_ c62_] V96 fun r96_ V97 => ∃ (p63_ : Option Addr) (n63_ c63_ : Nat), r96_ = .slice p63_ n63_ c63_ ∧ (∀ V98 : View, V97.Le V98 → Acts prog 85 #[.agg #[.bool false, .slice p63_ n63_ c63_], .slice p54_ n54_ c54_] V98 fun r98_ V99 => ∃ x64_ : Int, ∃ x65_ : Int, ∃ p66_ : Option Addr, r98_ = .agg #[.int .i64 x64_, .int .i64 x65_, .pointer p66_] ∧ (∀ V100 : View, V99.Le V100 → RR V100 (.agg #[.int .i64 x64_, .int .i64 x65_, .pointer p66_]) (gcdQ x y))))))))))))) := by
    intro V1 l1
    refine (c_R_Den (hx.le l1) hk (by omega)).mono ?_
    rintro r V2 l2 ⟨p1, n1, c1, rfl, g1⟩
    refine ⟨_, _, _, rfl, fun V3 l3 => (c_R_Den (hy.le (l1.trans (l2.trans l3))) hm (by omega)).mono ?_⟩
    rintro r V4 l4 ⟨p2, n2, c2, rfl, g2⟩
    refine ⟨_, _, _, rfl, fun V5 l5 => (c_nat_Mul (g1.le (l3.trans (l4.trans l5))) (g2.le l5) (by omega)).mono ?_⟩
    rintro r V6 l6 ⟨p3, n3, c3, rfl, g3⟩
    rw [val_digs, val_digs] at g3
    have L6 := l1.trans (l2.trans (l3.trans (l4.trans (l5.trans l6))))
    refine ⟨_, _, _, rfl, fun V7 l7 => (c_R_Num (hx.le (L6.trans l7)) hk (by omega)).mono ?_⟩
    rintro r V8 l8 ⟨p4, n4, c4, rfl, g4⟩
    refine ⟨_, _, _, _, rfl, fun V9 l9 => (c_R_Den (hy.le (L6.trans (l7.trans (l8.trans l9)))) hm (by omega)).mono ?_⟩
    rintro r V10 l10 ⟨p5, n5, c5, rfl, g5⟩
    refine ⟨_, _, _, rfl, fun V11 l11 => (c_nat_Mul (g4.le (l9.trans (l10.trans l11))) (g5.le l11) (by omega)).mono ?_⟩
    rintro r V12 l12 ⟨p6, n6, c6, rfl, g6⟩
    rw [val_digs, val_digs] at g6
    have L12 := L6.trans (l7.trans (l8.trans (l9.trans (l10.trans (l11.trans l12)))))
    refine ⟨_, _, _, rfl, fun V13 l13 => (c_R_Num (hy.le (L12.trans l13)) hm (by omega)).mono ?_⟩
    rintro r V14 l14 ⟨p7, n7, c7, rfl, g7⟩
    refine ⟨_, _, _, _, rfl, fun V15 l15 => (c_R_Den (hx.le (L12.trans (l13.trans (l14.trans l15)))) hk (by omega)).mono ?_⟩
    rintro r V16 l16 ⟨p8, n8, c8, rfl, g8⟩
    refine ⟨_, _, _, rfl, fun V17 l17 => (c_nat_Mul (g7.le (l15.trans (l16.trans l17))) (g8.le l17) (by omega)).mono ?_⟩
    rintro r V18 l18 ⟨p9, n9, c9, rfl, g9⟩
    rw [val_digs, val_digs] at g9
    have L18 := l13.trans (l14.trans (l15.trans (l16.trans (l17.trans l18))))
    refine ⟨_, _, _, rfl, fun V19 l19 => (c_nat_Gcd (g6.le (L18.trans l19)) (g9.le l19) (by omega) (by omega)).mono ?_⟩
    rintro r V20 l20 ⟨p10, n10, c10, rfl, g10⟩
    rw [val_digs, val_digs] at g10
    refine ⟨_, _, _, rfl, fun V21 l21 => (c_frac_reduce false (g10.le l21) (g3.le (l7.trans (l8.trans (l9.trans (l10.trans (l11.trans (l12.trans (L18.trans (l19.trans (l20.trans l21)))))))))) (by omega) (by omega)).mono ?_⟩
    rintro r V22 l22 h22
    rw [ival_false, val_digs, val_digs] at h22
    obtain ⟨n, d, p, rfl⟩ := h22.shape
    exact ⟨_, _, _, rfl, fun V23 l23 => h22.le l23⟩
  rcases hx with ⟨ex, wx⟩ | ⟨a, b, p, n, c, p', n', c', ex, -, -, -, -, -, wx⟩
  · rcases hy with ⟨ey, wy⟩ | ⟨a, b, p, n, c, p', n', c', ey, -, -, -, -, -, wy⟩
    · simp only [Value.agg.injEq, Array.mk.injEq, List.cons.injEq, Value.int.injEq, Value.pointer.injEq, true_and, and_true] at ex ey
      obtain ⟨rfl, rfl, rfl⟩ := ex
      obtain ⟨rfl, rfl, rfl⟩ := ey
      obtain ⟨wx1, wx2⟩ := wx
      obtain ⟨wy1, wy2⟩ := wy
      refine vc_frac_Gcd _ _ _ _ _ _ V _ ⟨fun _ => ⟨fun _ => ⟨fun h1 => ⟨fun _ _ => True, ⟨fun h2 V1 l1 => ?_, fun _ => ⟨(), by and_intros <;> rfl, trivial⟩⟩, fun _ V1 l1 _ => ⟨by trivial, fun V2 l2 => gen V2 (l1.trans l2)⟩⟩, fun _ => gen⟩, (fun h => nomatch h)⟩, (fun h => nomatch h)⟩
      have h1 : x.den = 1 := by rw [beq_iff_eq] at h1; omega
      have h2 : y.den = 1 := by rw [beq_iff_eq] at h2; omega
      refine (c_frac_abs _ (by omega) (by omega)).mono ?_
      rintro r V2 l2 rfl
      refine ⟨_, rfl, fun V3 l3 => (c_frac_abs _ (by omega) (by omega)).mono ?_⟩
      rintro r V4 l4 rfl
      refine ⟨_, rfl, fun V5 l5 => (c_frac_gcd _ _ (by omega) (by omega)).mono ?_⟩
      rintro r V6 l6 rfl
      refine ⟨_, rfl, fun V7 l7 => .inl ?_⟩
      have e : gcdQ x y = ((Nat.gcd x.num.natAbs y.num.natAbs : Nat) : Int) := by
        unfold gcdQ
        rw [h1, h2, Nat.mul_one, Nat.mul_one, Nat.mul_one]
        exact mkRat_one _
      have hl : Nat.gcd x.num.natAbs y.num.natAbs < 4611686018427387904 := by
        rcases Nat.eq_zero_or_pos x.num.natAbs with e | e
        · rw [e, Nat.gcd_zero_left]; exact wy1
        · exact Nat.lt_of_le_of_lt (Nat.le_of_dvd e (Nat.gcd_dvd_left _ _)) wx1
      rw [e, i64w (by omega)]
      exact ⟨rfl, intCast_wd (by rw [Int.natAbs_natCast]; exact hl)⟩
    · simp only [Value.agg.injEq, Array.mk.injEq, List.cons.injEq, Value.int.injEq, Value.pointer.injEq, true_and, and_true] at ex ey
      obtain ⟨rfl, rfl, rfl⟩ := ex
      obtain ⟨rfl, rfl, rfl⟩ := ey
      exact vc_frac_Gcd _ _ _ _ _ _ V _ ⟨fun _ => ⟨(fun h => nomatch h), fun _ => gen⟩, (fun h => nomatch h)⟩
  · simp only [Value.agg.injEq, Array.mk.injEq, List.cons.injEq, Value.int.injEq, Value.pointer.injEq, true_and, and_true] at ex
    obtain ⟨rfl, rfl, rfl⟩ := ex
    exact vc_frac_Gcd _ _ _ _ _ _ V _ ⟨(fun h => nomatch h), fun _ => gen⟩
end Go.Proofs.Tryz
/- Contracts of the reference's rational numbers: Plus, Sub, Times, C. -/
namespace Go.Proofs.Tryz
open Go.Eng Go.Big

theorem c_num_pos {V : View} {p : Option Addr} {n c x : Nat} (h : RN V p n c x) :
    Acts prog 37 #[.bool false, .slice p n c] V fun r V' => RI V' r (x : Int) := by
  have := c_num_Make false h
  rwa [if_neg (by decide)] at this

theorem den_one_len {x : Rat} {k : Nat} (h : Sz k x) : (digs x.num.natAbs).length ≤ k ∧ (digs x.den).length ≤ k ∧ (digs (x.den : Int).natAbs).length ≤ k := ⟨digs_len_bits h.1, digs_len_bits h.2, digs_len_bits h.2⟩

theorem c_num_Plus {V : View} {v w : Value} {x y : Rat} (hx : RQ V v x) (hy : RQ V w y) {k m : Nat} (hk : Sz k x) (hm : Sz m y) (hkm : k + m < 274877906944) :
    Acts prog 33 #[v, w] V fun r V' => RQ V' r (x + y) := by
  obtain ⟨p, n, c, p', n', c', rfl, hx1, hx2⟩ := hx
  obtain ⟨q, i, e, q', i', e', rfl, hy1, hy2⟩ := hy
  have hlx := dend_len hx2
  have hly := dend_len hy2
  obtain ⟨b1, b2, b3, b4⟩ := add_bits hk hm
  obtain ⟨d1, d2, d3⟩ := den_one_len hk
  obtain ⟨d4, d5, d6⟩ := den_one_len hm
  have hxy : x + y = mkRat (x.num * y.den + y.num * x.den) (x.den * y.den) := Rat.add_def' x y
  refine (fun tail => vc_num_Plus _ p n c p' n' c' _ q i e q' i' e' V _ ⟨fun h0 => ⟨fun h1 V1 l1 => ?_, fun _ => tail⟩, fun _ => tail⟩) ?_
  · clear tail
    have h0 : x.den = 1 := hlx.1 (by simp at h0; omega)
    have h1 : y.den = 1 := hly.1 (by simp at h1; omega)
    refine (c_num_Add x.num y.num (hx1.le l1) (hy1.le l1) (by omega) (by omega)).mono ?_
    rintro r V2 l2 ⟨p2, n2, c2, rfl, g⟩
    have e1 : x + y = ((x.num + y.num : Int) : Rat) := by
      rw [hxy, h0, h1]; simp [Rat.mkRat_one]
    rw [e1]
    exact ⟨_, _, _, _, rfl, fun V3 l3 => rq_of (z := x.num + y.num) (d := 1) rfl rfl (g.le l3) RD.nil rfl⟩
  · intro V1 l1
    refine (c_num_Den y _ (hy2.le l1)).mono ?_
    rintro r V2 l2 ⟨p1, n1, c1, rfl, g1⟩
    refine ⟨_, _, _, rfl, fun V3 l3 => (c_num_pos (g1.le l3)).mono ?_⟩
    rintro r V4 l4 ⟨p3, n3, c3, rfl, g3⟩
    have l04 := l1.trans (l2.trans (l3.trans l4))
    refine ⟨_, _, _, _, rfl, fun V5 l5 => (c_num_Mul x.num y.den (hx1.le (l04.trans l5)) (g3.le l5) (by omega)).mono ?_⟩
    rintro r V6 l6 ⟨p5, n5, c5, rfl, g5⟩
    have l06 := l04.trans (l5.trans l6)
    refine ⟨_, _, _, _, rfl, fun V7 l7 => (c_num_Den x _ (hx2.le (l06.trans l7))).mono ?_⟩
    rintro r V8 l8 ⟨p7, n7, c7, rfl, g7⟩
    have l08 := l06.trans (l7.trans l8)
    refine ⟨_, _, _, rfl, fun V9 l9 => (c_num_pos (g7.le l9)).mono ?_⟩
    rintro r V10 l10 ⟨p9, n9, c9, rfl, g9⟩
    have l10' := l08.trans (l9.trans l10)
    refine ⟨_, _, _, _, rfl, fun V11 l11 => (c_num_Mul y.num x.den (hy1.le (l10'.trans l11)) (g9.le l11) (by omega)).mono ?_⟩
    rintro r V12 l12 ⟨p11, n11, c11, rfl, g11⟩
    have l012 := l10'.trans (l11.trans l12)
    refine ⟨_, _, _, _, rfl, fun V13 l13 => (c_num_Add _ _ (g5.le (l7.trans (l8.trans (l9.trans (l10.trans (l11.trans (l12.trans l13))))))) (g11.le l13) (Nat.le_trans (digs_len_bits b1) (by omega)) (Nat.le_trans (digs_len_bits b2) (by omega))).mono ?_⟩
    rintro r V14 l14 ⟨p13, n13, c13, rfl, g13⟩
    have l014 := l012.trans (l13.trans l14)
    refine ⟨_, _, _, _, rfl, fun V15 l15 => (c_num_Den x _ (hx2.le (l014.trans l15))).mono ?_⟩
    rintro r V16 l16 ⟨p15, n15, c15, rfl, g15⟩
    have l016 := l014.trans (l15.trans l16)
    refine ⟨_, _, _, rfl, fun V17 l17 => (c_num_Den y _ (hy2.le (l016.trans l17))).mono ?_⟩
    rintro r V18 l18 ⟨p17, n17, c17, rfl, g17⟩
    refine ⟨_, _, _, rfl, fun V19 l19 => (c_num_Product (g15.le (l17.trans (l18.trans l19))) (g17.le l19) (by omega)).mono ?_⟩
    rintro r V20 l20 ⟨p19, n19, c19, rfl, g19⟩
    rw [val_digs, val_digs] at g19
    refine ⟨_, _, _, rfl, fun V21 l21 => (c_num_Frac _ (g13.le (l15.trans (l16.trans (l17.trans (l18.trans (l19.trans (l20.trans l21))))))) (g19.le l21) (Nat.le_trans (digs_len_bits b3) (by omega)) (Nat.le_trans (digs_len_bits b4) (by omega)) (Nat.mul_ne_zero x.den_nz y.den_nz)).mono ?_⟩
    rw [hxy]
    rintro r V22 l22 ⟨p21, n21, c21, p22, n22, c22, rfl, g21, g22⟩
    exact ⟨_, _, _, _, _, _, _, rfl, fun V23 l23 => ⟨_, _, _, _, _, _, rfl, g21.le l23, g22.le l23⟩⟩

theorem c_num_Sub {V : View} {v w : Value} {x y : Rat} (hx : RQ V v x) (hy : RQ V w y) {k m : Nat} (hk : Sz k x) (hm : Sz m y) (hkm : k + m < 274877906944) :
    Acts prog 115 #[v, w] V fun r V' => RQ V' r (x - y) := by
  have hx0 := hx
  obtain ⟨p, n, c, p', n', c', rfl, hx1, hx2⟩ := hx
  obtain ⟨q, i, e, q', i', e', rfl, hy1, hy2⟩ := hy
  refine vc_num_Sub _ p n c p' n' c' _ q i e q' i' e' V _ fun V1 l1 => (c_num_Opp y (hy1.le l1) (hy2.le l1)).mono ?_
  rintro r V2 l2 h2
  obtain ⟨p1, n1, c1, p2, n2, c2, rfl, g1, g2⟩ := id h2
  refine ⟨_, _, _, _, _, _, _, rfl, fun V3 l3 => (c_num_Plus (hx0.le (l1.trans (l2.trans l3))) (h2.le l3) hk hm.neg hkm).mono ?_⟩
  rw [← Rat.sub_eq_add_neg]
  rintro r V4 l4 ⟨p3, n3, c3, p4, n4, c4, rfl, g3, g4⟩
  exact ⟨_, _, _, _, _, _, _, rfl, fun V5 l5 => ⟨_, _, _, _, _, _, rfl, g3.le l5, g4.le l5⟩⟩

theorem c_num_C {V : View} {v w : Value} {x y : Rat} (hx : RQ V v x) (hy : RQ V w y) {k m : Nat} (hk : Sz k x) (hm : Sz m y) (hkm : k + m < 274877906944) :
    Acts prog 95 #[v, w] V fun r V' => r = .int .i64 (cmpQ x y) := by
  have hx0 := hx
  have hy0 := hy
  obtain ⟨p, n, c, p', n', c', rfl, hx1, hx2⟩ := hx
  obtain ⟨q, i, e, q', i', e', rfl, hy1, hy2⟩ := hy
  refine vc_num_C _ p n c p' n' c' _ q i e q' i' e' V _ fun V1 l1 => (c_num_Sub (hx0.le l1) (hy0.le l1) hk hm hkm).mono ?_
  rintro r V2 l2 ⟨p1, n1, c1, p2, n2, c2, rfl, g1, g2⟩
  refine ⟨_, _, _, _, _, _, _, rfl, fun V3 l3 => (c_num_S (x - y) (g1.le l3)).mono ?_⟩
  rintro r V4 l4 rfl
  exact ⟨_, rfl, fun V5 l5 => rfl⟩

theorem c_num_Times {V : View} {v w : Value} {x y : Rat} (hx : RQ V v x) (hy : RQ V w y) {k m : Nat} (hk : Sz k x) (hm : Sz m y) (hkm : k + m < 274877906944) :
    Acts prog 34 #[v, w] V fun r V' => RQ V' r (x * y) := by
  obtain ⟨p, n, c, p', n', c', rfl, hx1, hx2⟩ := hx
  obtain ⟨q, i, e, q', i', e', rfl, hy1, hy2⟩ := hy
  have hlx := dend_len hx2
  have hly := dend_len hy2
  obtain ⟨d1, d2, d3⟩ := den_one_len hk
  obtain ⟨d4, d5, d6⟩ := den_one_len hm
  have hxy : x * y = mkRat (x.num * y.num) (x.den * y.den) := Rat.mul_def' x y
  have b1 : (x.num * y.num).natAbs < 2 ^ (k + m) := by rw [Int.natAbs_mul]; exact pow_mul_lt hk.1 hm.1
  have b2 : x.den * y.den < 2 ^ (k + m) := pow_mul_lt hk.2 hm.2
  refine (fun tail => vc_num_Times _ p n c p' n' c' _ q i e q' i' e' V _ ⟨fun h0 => ⟨fun h1 V1 l1 => ?_, fun _ => tail⟩, fun _ => tail⟩) ?_
  · clear tail
    have h0 : x.den = 1 := hlx.1 (by simp at h0; omega)
    have h1 : y.den = 1 := hly.1 (by simp at h1; omega)
    refine (c_num_Mul x.num y.num (hx1.le l1) (hy1.le l1) (by omega)).mono ?_
    rintro r V2 l2 ⟨p2, n2, c2, rfl, g⟩
    have e1 : x * y = ((x.num * y.num : Int) : Rat) := by
      rw [hxy, h0, h1]; simp [Rat.mkRat_one]
    rw [e1]
    exact ⟨_, _, _, _, rfl, fun V3 l3 => rq_of (z := x.num * y.num) (d := 1) rfl rfl (g.le l3) RD.nil rfl⟩
  · intro V1 l1
    refine (c_num_Mul x.num y.num (hx1.le l1) (hy1.le l1) (by omega)).mono ?_
    rintro r V2 l2 ⟨p2, n2, c2, rfl, g2⟩
    refine ⟨_, _, _, _, rfl, fun V3 l3 => (c_num_Den x _ (hx2.le (l1.trans (l2.trans l3)))).mono ?_⟩
    rintro r V4 l4 ⟨p4, n4, c4, rfl, g4⟩
    refine ⟨_, _, _, rfl, fun V5 l5 => (c_num_Den y _ (hy2.le (l1.trans (l2.trans (l3.trans (l4.trans l5)))))).mono ?_⟩
    rintro r V6 l6 ⟨p6, n6, c6, rfl, g6⟩
    refine ⟨_, _, _, rfl, fun V7 l7 => (c_num_Product (g4.le (l5.trans (l6.trans l7))) (g6.le l7) (by omega)).mono ?_⟩
    rintro r V8 l8 ⟨p8, n8, c8, rfl, g8⟩
    rw [val_digs, val_digs] at g8
    refine ⟨_, _, _, rfl, fun V9 l9 => (c_num_Frac _ (g2.le (l3.trans (l4.trans (l5.trans (l6.trans (l7.trans (l8.trans l9))))))) (g8.le l9) (Nat.le_trans (digs_len_bits b1) (by omega)) (Nat.le_trans (digs_len_bits b2) (by omega)) (Nat.mul_ne_zero x.den_nz y.den_nz)).mono ?_⟩
    rw [hxy]
    rintro r V22 l22 ⟨p21, n21, c21, p22, n22, c22, rfl, g21, g22⟩
    exact ⟨_, _, _, _, _, _, _, rfl, fun V23 l23 => ⟨_, _, _, _, _, _, rfl, g21.le l23, g22.le l23⟩⟩
end Go.Proofs.Tryz
/- By program: the conditions of the functions, from their loaded code. -/
namespace Go.Proofs.Tryz
open Go.Eng
set_option maxRecDepth 100000

theorem vc_ref01_ToN (ap : Option Addr) (an ac : Nat) (V : View) (R : Value → View → Prop)
    (h : (∃ xs1_ : List Value, V.sl ap xs1_ ∧ xs1_.length = an * 1 ∧ ((0 + an) * 4 ≤ 140737488355328 ∧ 0 ≤ 0 ∧ 0 * 1 ≤ ([] : List Value).length ∧ xs1_.length = an * 1 ∧ (∀ v ∈ xs1_, v.oneCell' = true) ∧ ∀ (bk4_ : Nat) (J5_ : C → Value) (sp2_ : List Value) (c3_ : Nat), 0 + an ≤ c3_ → c3_ * 1 ≤ (0 + an) * 1 + sp2_.length → (∀ V1 : View, V.Le V1 → ∀ bk6_ : Nat, (V1.blk bk6_ (.cells (([] : List Value).take (0 * 1) ++ xs1_ ++ sp2_).toArray 124 (0, 0))) → R (.slice (some ⟨bk6_, 0, none⟩) (0 + an) c3_) V1)))) :
    Acts prog 65 #[.slice ap an ac] V R :=
  fn_does (LF := [8, 20, 25, 46, 48, 52, 93, 24, 1000024]) (RF := [1000006]) (β0 := (fun _ => 0)) tab_ok mixed [] [] func65 (by kernel_rfl)
    [(0, .c (.v (.slice ap an ac)))]
    [] (by kernel_rfl) trivial h (by kernel_rfl)

theorem vc_ref01_ToI (a0 : Bool) (a1p : Option Addr) (a1n a1c : Nat) (V : View) (R : Value → View → Prop)
    (h : (∀ V1 : View, V.Le V1 → Acts prog 65 #[.slice a1p a1n a1c] V1 fun r1_ V2 => ∃ (p1_ : Option Addr) (n1_ c1_ : Nat), r1_ = .slice p1_ n1_ c1_ ∧ (∀ V3 : View, V2.Le V3 → R (.agg #[.bool a0, .slice p1_ n1_ c1_]) V3))) :
    Acts prog 40 #[.agg #[.bool a0, .slice a1p a1n a1c]] V R :=
  fn_does (LF := [8, 20, 25, 46, 48, 52, 93, 24, 1000024]) (RF := [1000006]) (β0 := (fun _ => 0)) tab_ok mixed [] [] func40 (by kernel_rfl)
    [(0, .agg [.v (.bool a0), .v (.slice a1p a1n a1c)])]
    [] (by kernel_rfl) trivial h (by kernel_rfl)

theorem vc_ref01_SameN (ap : Option Addr) (an ac : Nat) (bp : Option Addr) (bn bc : Nat) (V : View) (R : Value → View → Prop)
    (h : (((((an : Nat) : Int) != ((bn : Nat) : Int)) = true → (∀ V1 : View, V.Le V1 → R (.bool false) V1)) ∧ ((((an : Nat) : Int) != ((bn : Nat) : Int)) = false → (∃ (I1_ : Int → View → Prop) (m2_ : Int → Nat), (∃ z3_ : Int, (((ap : Option Addr) = ap) ∧ ((an : Nat) = an) ∧ ((ac : Nat) = ac) ∧ ((bp : Option Addr) = bp) ∧ ((bn : Nat) = bn) ∧ ((bc : Nat) = bc) ∧ (((an : Nat) : Int) = ((an : Nat) : Int)) ∧ ((0 : Int) = z3_)) ∧ I1_ z3_ V) ∧ ∀ (z4_ : Int) (V2 : View), V.Le V2 → I1_ z4_ V2 → (true = true ∧ (((decide (z4_ < ((an : Nat) : Int))) = true → (ap.isSome = true) ∧ (0 ≤ z4_ ∧ z4_ < ((an : Nat) : Int)) ∧ (∃ x5_ : Int, (∃ a6_, addrAdd ap (z4_.toNat * 1) = some a6_ ∧ V2.at a6_ (.int .u32 x5_)) ∧ (bp.isSome = true) ∧ (0 ≤ z4_ ∧ z4_ < ((bn : Nat) : Int)) ∧ (∃ x7_ : Int, (∃ a8_, addrAdd bp (z4_.toNat * 1) = some a8_ ∧ V2.at a8_ (.int .u32 x7_)) ∧ (((x5_ != x7_) = true → (∀ V3 : View, V2.Le V3 → R (.bool false) V3)) ∧ ((x5_ != x7_) = false → (∃ z9_ : Int, m2_ z9_ < m2_ z4_ ∧ (((ap : Option Addr) = ap) ∧ ((an : Nat) = an) ∧ ((ac : Nat) = ac) ∧ ((bp : Option Addr) = bp) ∧ ((bn : Nat) = bn) ∧ ((bc : Nat) = bc) ∧ (((an : Nat) : Int) = ((an : Nat) : Int)) ∧ ((IntKind.i64.wrap (z4_ + (1 : Int))) = z9_)) ∧ I1_ z9_ V2)))))) ∧ ((decide (z4_ < ((an : Nat) : Int))) = false → (∀ V4 : View, V2.Le V4 → R (.bool true) V4)))))))) :
    Acts prog 75 #[.slice ap an ac, .slice bp bn bc] V R :=
  fn_does (LF := [8, 20, 25, 46, 48, 52, 93, 24, 1000024]) (RF := [1000006]) (β0 := (fun _ => 0)) tab_ok mixed [(4, { τ := Int, keep := [0, 1, 12], keepB := [], slots := fun z => [(13, .c (.v (.int .i64 z)))], boxes := fun z => [] })] [] func75 (by kernel_rfl)
    [(0, .c (.v (.slice ap an ac))), (1, .c (.v (.slice bp bn bc)))]
    [] (by kernel_rfl) trivial h (by kernel_rfl)

theorem vc_ref01_SameI (a0 : Bool) (a1p : Option Addr) (a1n a1c : Nat) (b0 : Bool) (b1p : Option Addr) (b1n b1c : Nat) (V : View) (R : Value → View → Prop)
    (h : (((a0 == b0) = true → (∀ V1 : View, V.Le V1 → Acts prog 75 #[.slice a1p a1n a1c, .slice b1p b1n b1c] V1 fun r1_ V2 => ∃ b1_ : Bool, r1_ = .bool b1_ ∧ (∀ V3 : View, V2.Le V3 → R (.bool b1_) V3))) ∧ ((a0 == b0) = false → (∀ V4 : View, V.Le V4 → R (.bool false) V4)))) :
    Acts prog 51 #[.agg #[.bool a0, .slice a1p a1n a1c], .agg #[.bool b0, .slice b1p b1n b1c]] V R :=
  fn_does (LF := [8, 20, 25, 46, 48, 52, 93, 24, 1000024]) (RF := [1000006]) (β0 := (fun _ => 0)) tab_ok mixed [] [] func51 (by kernel_rfl)
    [(0, .agg [.v (.bool a0), .v (.slice a1p a1n a1c)]), (1, .agg [.v (.bool b0), .v (.slice b1p b1n b1c)])]
    [] (by kernel_rfl) trivial h (by kernel_rfl)

theorem vc_ref04_Xy (x : Int) (y : Int) (V : View) (R : Value → View → Prop)
    (h : (∀ V1 : View, V.Le V1 → Acts prog 39 #[.int .i64 x] V1 fun r1_ V2 => ∃ b1_ : Bool, ∃ (p2_ : Option Addr) (n2_ c2_ : Nat), ∃ (p3_ : Option Addr) (n3_ c3_ : Nat), r1_ = .agg #[.bool b1_, .slice p2_ n2_ c2_, .slice p3_ n3_ c3_] ∧ (∀ V3 : View, V2.Le V3 → Acts prog 39 #[.int .i64 y] V3 fun r3_ V4 => ∃ b4_ : Bool, ∃ (p5_ : Option Addr) (n5_ c5_ : Nat), ∃ (p6_ : Option Addr) (n6_ c6_ : Nat), r3_ = .agg #[.bool b4_, .slice p5_ n5_ c5_, .slice p6_ n6_ c6_] ∧ (∀ V5 : View, V4.Le V5 → R (.agg #[.bool b1_, .slice p2_ n2_ c2_, .slice p3_ n3_ c3_, .bool b4_, .slice p5_ n5_ c5_, .slice p6_ n6_ c6_]) V5)))) :
    Acts prog 16 #[.int .i64 x, .int .i64 y] V R :=
  fn_does (LF := [8, 20, 25, 46, 48, 52, 93, 24, 1000024]) (RF := [1000006]) (β0 := (fun _ => 0)) tab_ok mixed [] [] func16 (by kernel_rfl)
    [(0, .c (.v (.int .i64 x))), (1, .c (.v (.int .i64 y)))]
    [] (by kernel_rfl) trivial h (by kernel_rfl)

theorem vc_ref04_Add (p0 : Bool) (p1p : Option Addr) (p1n p1c : Nat) (p2p : Option Addr) (p2n p2c : Nat) (p3 : Bool) (p4p : Option Addr) (p4n p4c : Nat) (p5p : Option Addr) (p5n p5c : Nat) (c0 : Bool) (c1p : Option Addr) (c1n c1c : Nat) (c2p : Option Addr) (c2n c2c : Nat) (q0 : Bool) (q1p : Option Addr) (q1n q1c : Nat) (q2p : Option Addr) (q2n q2c : Nat) (q3 : Bool) (q4p : Option Addr) (q4n q4c : Nat) (q5p : Option Addr) (q5n q5c : Nat) (V : View) (R : Value → View → Prop)
    (h : (∀ V1 : View, V.Le V1 → Acts prog 34 #[.agg #[.bool c0, .slice c1p c1n c1c, .slice c2p c2n c2c], .agg #[.bool q0, .slice q1p q1n q1c, .slice q2p q2n q2c]] V1 fun r1_ V2 => ∃ b1_ : Bool, ∃ (p2_ : Option Addr) (n2_ c2_ : Nat), ∃ (p3_ : Option Addr) (n3_ c3_ : Nat), r1_ = .agg #[.bool b1_, .slice p2_ n2_ c2_, .slice p3_ n3_ c3_] ∧ (∀ V3 : View, V2.Le V3 → Acts prog 33 #[.agg #[.bool p0, .slice p1p p1n p1c, .slice p2p p2n p2c], .agg #[.bool b1_, .slice p2_ n2_ c2_, .slice p3_ n3_ c3_]] V3 fun r3_ V4 => ∃ b4_ : Bool, ∃ (p5_ : Option Addr) (n5_ c5_ : Nat), ∃ (p6_ : Option Addr) (n6_ c6_ : Nat), r3_ = .agg #[.bool b4_, .slice p5_ n5_ c5_, .slice p6_ n6_ c6_] ∧ (∀ V5 : View, V4.Le V5 → Acts prog 34 #[.agg #[.bool c0, .slice c1p c1n c1c, .slice c2p c2n c2c], .agg #[.bool q3, .slice q4p q4n q4c, .slice q5p q5n q5c]] V5 fun r5_ V6 => ∃ b7_ : Bool, ∃ (p8_ : Option Addr) (n8_ c8_ : Nat), ∃ (p9_ : Option Addr) (n9_ c9_ : Nat), r5_ = .agg #[.bool b7_, .slice p8_ n8_ c8_, .slice p9_ n9_ c9_] ∧ (∀ V7 : View, V6.Le V7 → Acts prog 33 #[.agg #[.bool p3, .slice p4p p4n p4c, .slice p5p p5n p5c], .agg #[.bool b7_, .slice p8_ n8_ c8_, .slice p9_ n9_ c9_]] V7 fun r7_ V8 => ∃ b10_ : Bool, ∃ (p11_ : Option Addr) (n11_ c11_ : Nat), ∃ (p12_ : Option Addr) (n12_ c12_ : Nat), r7_ = .agg #[.bool b10_, .slice p11_ n11_ c11_, .slice p12_ n12_ c12_] ∧ (∀ V9 : View, V8.Le V9 → R (.agg #[.bool b4_, .slice p5_ n5_ c5_, .slice p6_ n6_ c6_, .bool b10_, .slice p11_ n11_ c11_, .slice p12_ n12_ c12_]) V9)))))) :
    Acts prog 47 #[.agg #[.bool p0, .slice p1p p1n p1c, .slice p2p p2n p2c, .bool p3, .slice p4p p4n p4c, .slice p5p p5n p5c], .agg #[.bool c0, .slice c1p c1n c1c, .slice c2p c2n c2c], .agg #[.bool q0, .slice q1p q1n q1c, .slice q2p q2n q2c, .bool q3, .slice q4p q4n q4c, .slice q5p q5n q5c]] V R :=
  fn_does (LF := [8, 20, 25, 46, 48, 52, 93, 24, 1000024]) (RF := [1000006]) (β0 := (fun _ => 0)) tab_ok mixed [] [] func47 (by kernel_rfl)
    [(0, .agg [.v (.bool p0), .v (.slice p1p p1n p1c), .v (.slice p2p p2n p2c), .v (.bool p3), .v (.slice p4p p4n p4c), .v (.slice p5p p5n p5c)]), (1, .agg [.v (.bool c0), .v (.slice c1p c1n c1c), .v (.slice c2p c2n c2c)]), (2, .agg [.v (.bool q0), .v (.slice q1p q1n q1c), .v (.slice q2p q2n q2c), .v (.bool q3), .v (.slice q4p q4n q4c), .v (.slice q5p q5n q5c)])]
    [] (by kernel_rfl) trivial h (by kernel_rfl)

theorem vc_ref04_Sub (p0 : Bool) (p1p : Option Addr) (p1n p1c : Nat) (p2p : Option Addr) (p2n p2c : Nat) (p3 : Bool) (p4p : Option Addr) (p4n p4c : Nat) (p5p : Option Addr) (p5n p5c : Nat) (q0 : Bool) (q1p : Option Addr) (q1n q1c : Nat) (q2p : Option Addr) (q2n q2c : Nat) (q3 : Bool) (q4p : Option Addr) (q4n q4c : Nat) (q5p : Option Addr) (q5n q5c : Nat) (V : View) (R : Value → View → Prop)
    (h : (∀ V1 : View, V.Le V1 → Acts prog 39 #[.int .i64 (-1)] V1 fun r1_ V2 => ∃ b1_ : Bool, ∃ (p2_ : Option Addr) (n2_ c2_ : Nat), ∃ (p3_ : Option Addr) (n3_ c3_ : Nat), r1_ = .agg #[.bool b1_, .slice p2_ n2_ c2_, .slice p3_ n3_ c3_] ∧ (∀ V3 : View, V2.Le V3 → Acts prog 47 #[.agg #[.bool p0, .slice p1p p1n p1c, .slice p2p p2n p2c, .bool p3, .slice p4p p4n p4c, .slice p5p p5n p5c], .agg #[.bool b1_, .slice p2_ n2_ c2_, .slice p3_ n3_ c3_], .agg #[.bool q0, .slice q1p q1n q1c, .slice q2p q2n q2c, .bool q3, .slice q4p q4n q4c, .slice q5p q5n q5c]] V3 fun r3_ V4 => ∃ b4_ : Bool, ∃ (p5_ : Option Addr) (n5_ c5_ : Nat), ∃ (p6_ : Option Addr) (n6_ c6_ : Nat), ∃ b7_ : Bool, ∃ (p8_ : Option Addr) (n8_ c8_ : Nat), ∃ (p9_ : Option Addr) (n9_ c9_ : Nat), r3_ = .agg #[.bool b4_, .slice p5_ n5_ c5_, .slice p6_ n6_ c6_, .bool b7_, .slice p8_ n8_ c8_, .slice p9_ n9_ c9_] ∧ (∀ V5 : View, V4.Le V5 → R (.agg #[.bool b4_, .slice p5_ n5_ c5_, .slice p6_ n6_ c6_, .bool b7_, .slice p8_ n8_ c8_, .slice p9_ n9_ c9_]) V5)))) :
    Acts prog 31 #[.agg #[.bool p0, .slice p1p p1n p1c, .slice p2p p2n p2c, .bool p3, .slice p4p p4n p4c, .slice p5p p5n p5c], .agg #[.bool q0, .slice q1p q1n q1c, .slice q2p q2n q2c, .bool q3, .slice q4p q4n q4c, .slice q5p q5n q5c]] V R :=
  fn_does (LF := [8, 20, 25, 46, 48, 52, 93, 24, 1000024]) (RF := [1000006]) (β0 := (fun _ => 0)) tab_ok mixed [] [] func31 (by kernel_rfl)
    [(0, .agg [.v (.bool p0), .v (.slice p1p p1n p1c), .v (.slice p2p p2n p2c), .v (.bool p3), .v (.slice p4p p4n p4c), .v (.slice p5p p5n p5c)]), (1, .agg [.v (.bool q0), .v (.slice q1p q1n q1c), .v (.slice q2p q2n q2c), .v (.bool q3), .v (.slice q4p q4n q4c), .v (.slice q5p q5n q5c)])]
    [] (by kernel_rfl) trivial h (by kernel_rfl)

theorem vc_ref04_Same (p0 : Bool) (p1p : Option Addr) (p1n p1c : Nat) (p2p : Option Addr) (p2n p2c : Nat) (p3 : Bool) (p4p : Option Addr) (p4n p4c : Nat) (p5p : Option Addr) (p5n p5c : Nat) (q0 : Bool) (q1p : Option Addr) (q1n q1c : Nat) (q2p : Option Addr) (q2n q2c : Nat) (q3 : Bool) (q4p : Option Addr) (q4n q4c : Nat) (q5p : Option Addr) (q5n q5c : Nat) (V : View) (R : Value → View → Prop)
    (h : (∀ V1 : View, V.Le V1 → Acts prog 95 #[.agg #[.bool p0, .slice p1p p1n p1c, .slice p2p p2n p2c], .agg #[.bool q0, .slice q1p q1n q1c, .slice q2p q2n q2c]] V1 fun r1_ V2 => ∃ x1_ : Int, r1_ = .int .i64 x1_ ∧ (((x1_ == (0 : Int)) = true → (∀ V3 : View, V2.Le V3 → Acts prog 95 #[.agg #[.bool p3, .slice p4p p4n p4c, .slice p5p p5n p5c], .agg #[.bool q3, .slice q4p q4n q4c, .slice q5p q5n q5c]] V3 fun r3_ V4 => ∃ x2_ : Int, r3_ = .int .i64 x2_ ∧ (∀ V5 : View, V4.Le V5 → R (.bool (x2_ == (0 : Int))) V5))) ∧ ((x1_ == (0 : Int)) = false → (∀ V6 : View, V2.Le V6 → R (.bool false) V6))))) :
    Acts prog 73 #[.agg #[.bool p0, .slice p1p p1n p1c, .slice p2p p2n p2c, .bool p3, .slice p4p p4n p4c, .slice p5p p5n p5c], .agg #[.bool q0, .slice q1p q1n q1c, .slice q2p q2n q2c, .bool q3, .slice q4p q4n q4c, .slice q5p q5n q5c]] V R :=
  fn_does (LF := [8, 20, 25, 46, 48, 52, 93, 24, 1000024]) (RF := [1000006]) (β0 := (fun _ => 0)) tab_ok mixed [] [] func73 (by kernel_rfl)
    [(0, .agg [.v (.bool p0), .v (.slice p1p p1n p1c), .v (.slice p2p p2n p2c), .v (.bool p3), .v (.slice p4p p4n p4c), .v (.slice p5p p5n p5c)]), (1, .agg [.v (.bool q0), .v (.slice q1p q1n q1c), .v (.slice q2p q2n q2c), .v (.bool q3), .v (.slice q4p q4n q4c), .v (.slice q5p q5n q5c)])]
    [] (by kernel_rfl) trivial h (by kernel_rfl)

theorem vc_ref04_MakeL (a0 : Bool) (a1p : Option Addr) (a1n a1c : Nat) (b0 : Bool) (b1p : Option Addr) (b1n b1c : Nat) (c0 : Bool) (c1p : Option Addr) (c1n c1c : Nat) (V : View) (R : Value → View → Prop)
    (h : (∀ V1 : View, V.Le V1 → Acts prog 62 #[.slice a1p a1n a1c, .slice b1p b1n b1c] V1 fun r1_ V2 => ∃ (p1_ : Option Addr) (n1_ c1_ : Nat), r1_ = .slice p1_ n1_ c1_ ∧ (((((n1_ : Nat) : Int) == (0 : Int)) = true → (∀ V3 : View, V2.Le V3 → R (.tuple #[.agg #[.bool false, .slice none 0 0, .bool false, .slice none 0 0, .bool false, .slice none 0 0], .bool false]) V3)) ∧ ((((n1_ : Nat) : Int) == (0 : Int)) = false → (∀ V4 : View, V2.Le V4 → Acts prog 62 #[.slice p1_ n1_ c1_, .slice c1p c1n c1c] V4 fun r4_ V5 => ∃ (p2_ : Option Addr) (n2_ c2_ : Nat), r4_ = .slice p2_ n2_ c2_ ∧ (∀ V6 : View, V5.Le V6 → Acts prog 63 #[.slice a1p a1n a1c, .slice p2_ n2_ c2_] V6 fun r6_ V7 => ∃ (p3_ : Option Addr) (n3_ c3_ : Nat), ∃ (p4_ : Option Addr) (n4_ c4_ : Nat), r6_ = .tuple #[.slice p3_ n3_ c3_, .slice p4_ n4_ c4_] ∧ (∀ V8 : View, V7.Le V8 → Acts prog 63 #[.slice b1p b1n b1c, .slice p2_ n2_ c2_] V8 fun r8_ V9 => ∃ (p5_ : Option Addr) (n5_ c5_ : Nat), ∃ (p6_ : Option Addr) (n6_ c6_ : Nat), r8_ = .tuple #[.slice p5_ n5_ c5_, .slice p6_ n6_ c6_] ∧ (∀ V10 : View, V9.Le V10 → Acts prog 63 #[.slice c1p c1n c1c, .slice p2_ n2_ c2_] V10 fun r10_ V11 => ∃ (p7_ : Option Addr) (n7_ c7_ : Nat), ∃ (p8_ : Option Addr) (n8_ c8_ : Nat), r10_ = .tuple #[.slice p7_ n7_ c7_, .slice p8_ n8_ c8_] ∧ (∀ V12 : View, V11.Le V12 → Acts prog 37 #[.bool a0, .slice p3_ n3_ c3_] V12 fun r12_ V13 => ∃ b9_ : Bool, ∃ (p10_ : Option Addr) (n10_ c10_ : Nat), r12_ = .agg #[.bool b9_, .slice p10_ n10_ c10_] ∧ (∀ V14 : View, V13.Le V14 → Acts prog 37 #[.bool b0, .slice p5_ n5_ c5_] V14 fun r14_ V15 => ∃ b11_ : Bool, ∃ (p12_ : Option Addr) (n12_ c12_ : Nat), r14_ = .agg #[.bool b11_, .slice p12_ n12_ c12_] ∧ (∀ V16 : View, V15.Le V16 → Acts prog 37 #[.bool c0, .slice p7_ n7_ c7_] V16 fun r16_ V17 => ∃ b13_ : Bool, ∃ (p14_ : Option Addr) (n14_ c14_ : Nat), r16_ = .agg #[.bool b13_, .slice p14_ n14_ c14_] ∧ (∀ V18 : View, V17.Le V18 → R (.tuple #[.agg #[.bool b9_, .slice p10_ n10_ c10_, .bool b11_, .slice p12_ n12_ c12_, .bool b13_, .slice p14_ n14_ c14_], .bool true]) V18)))))))))))) :
    Acts prog 38 #[.agg #[.bool a0, .slice a1p a1n a1c], .agg #[.bool b0, .slice b1p b1n b1c], .agg #[.bool c0, .slice c1p c1n c1c]] V R :=
  fn_does (LF := [8, 20, 25, 46, 48, 52, 93, 24, 1000024]) (RF := [1000006]) (β0 := (fun _ => 0)) tab_ok mixed [] [] func38 (by kernel_rfl)
    [(0, .agg [.v (.bool a0), .v (.slice a1p a1n a1c)]), (1, .agg [.v (.bool b0), .v (.slice b1p b1n b1c)]), (2, .agg [.v (.bool c0), .v (.slice c1p c1n c1c)])]
    [] (by kernel_rfl) trivial h (by kernel_rfl)

theorem vc_ref04_Through (p0 : Bool) (p1p : Option Addr) (p1n p1c : Nat) (p2p : Option Addr) (p2n p2c : Nat) (p3 : Bool) (p4p : Option Addr) (p4n p4c : Nat) (p5p : Option Addr) (p5n p5c : Nat) (q0 : Bool) (q1p : Option Addr) (q1n q1c : Nat) (q2p : Option Addr) (q2n q2c : Nat) (q3 : Bool) (q4p : Option Addr) (q4n q4c : Nat) (q5p : Option Addr) (q5n q5c : Nat) (V : View) (R : Value → View → Prop)
    (h : (∀ V1 : View, V.Le V1 → Acts prog 31 #[.agg #[.bool q0, .slice q1p q1n q1c, .slice q2p q2n q2c, .bool q3, .slice q4p q4n q4c, .slice q5p q5n q5c], .agg #[.bool p0, .slice p1p p1n p1c, .slice p2p p2n p2c, .bool p3, .slice p4p p4n p4c, .slice p5p p5n p5c]] V1 fun r1_ V2 => ∃ b1_ : Bool, ∃ (p2_ : Option Addr) (n2_ c2_ : Nat), ∃ (p3_ : Option Addr) (n3_ c3_ : Nat), ∃ b4_ : Bool, ∃ (p5_ : Option Addr) (n5_ c5_ : Nat), ∃ (p6_ : Option Addr) (n6_ c6_ : Nat), r1_ = .agg #[.bool b1_, .slice p2_ n2_ c2_, .slice p3_ n3_ c3_, .bool b4_, .slice p5_ n5_ c5_, .slice p6_ n6_ c6_] ∧ (∀ V3 : View, V2.Le V3 → Acts prog 32 #[.agg #[.bool b4_, .slice p5_ n5_ c5_, .slice p6_ n6_ c6_]] V3 fun r3_ V4 => ∃ b7_ : Bool, ∃ (p8_ : Option Addr) (n8_ c8_ : Nat), ∃ (p9_ : Option Addr) (n9_ c9_ : Nat), r3_ = .agg #[.bool b7_, .slice p8_ n8_ c8_, .slice p9_ n9_ c9_] ∧ (∀ V5 : View, V4.Le V5 → Acts prog 34 #[.agg #[.bool b7_, .slice p8_ n8_ c8_, .slice p9_ n9_ c9_], .agg #[.bool p0, .slice p1p p1n p1c, .slice p2p p2n p2c]] V5 fun r5_ V6 => ∃ b10_ : Bool, ∃ (p11_ : Option Addr) (n11_ c11_ : Nat), ∃ (p12_ : Option Addr) (n12_ c12_ : Nat), r5_ = .agg #[.bool b10_, .slice p11_ n11_ c11_, .slice p12_ n12_ c12_] ∧ (∀ V7 : View, V6.Le V7 → Acts prog 34 #[.agg #[.bool b1_, .slice p2_ n2_ c2_, .slice p3_ n3_ c3_], .agg #[.bool p3, .slice p4p p4n p4c, .slice p5p p5n p5c]] V7 fun r7_ V8 => ∃ b13_ : Bool, ∃ (p14_ : Option Addr) (n14_ c14_ : Nat), ∃ (p15_ : Option Addr) (n15_ c15_ : Nat), r7_ = .agg #[.bool b13_, .slice p14_ n14_ c14_, .slice p15_ n15_ c15_] ∧ (∀ V9 : View, V8.Le V9 → Acts prog 33 #[.agg #[.bool b10_, .slice p11_ n11_ c11_, .slice p12_ n12_ c12_], .agg #[.bool b13_, .slice p14_ n14_ c14_, .slice p15_ n15_ c15_]] V9 fun r9_ V10 => ∃ b16_ : Bool, ∃ (p17_ : Option Addr) (n17_ c17_ : Nat), ∃ (p18_ : Option Addr) (n18_ c18_ : Nat), r9_ = .agg #[.bool b16_, .slice p17_ n17_ c17_, .slice p18_ n18_ c18_] ∧ (∀ V11 : View, V10.Le V11 → Acts prog 32 #[.agg #[.bool b16_, .slice p17_ n17_ c17_, .slice p18_ n18_ c18_]] V11 fun r11_ V12 => ∃ b19_ : Bool, ∃ (p20_ : Option Addr) (n20_ c20_ : Nat), ∃ (p21_ : Option Addr) (n21_ c21_ : Nat), r11_ = .agg #[.bool b19_, .slice p20_ n20_ c20_, .slice p21_ n21_ c21_] ∧ (∀ V13 : View, V12.Le V13 → Acts prog 36 #[.agg #[.bool b7_, .slice p8_ n8_ c8_, .slice p9_ n9_ c9_]] V13 fun r13_ V14 => ∃ (p22_ : Option Addr) (n22_ c22_ : Nat), r13_ = .slice p22_ n22_ c22_ ∧ (∀ V15 : View, V14.Le V15 → Acts prog 36 #[.agg #[.bool b1_, .slice p2_ n2_ c2_, .slice p3_ n3_ c3_]] V15 fun r15_ V16 => ∃ (p23_ : Option Addr) (n23_ c23_ : Nat), r15_ = .slice p23_ n23_ c23_ ∧ (∀ V17 : View, V16.Le V17 → Acts prog 35 #[.slice p22_ n22_ c22_, .slice p23_ n23_ c23_] V17 fun r17_ V18 => ∃ (p24_ : Option Addr) (n24_ c24_ : Nat), r17_ = .slice p24_ n24_ c24_ ∧ (∀ V19 : View, V18.Le V19 → Acts prog 36 #[.agg #[.bool b19_, .slice p20_ n20_ c20_, .slice p21_ n21_ c21_]] V19 fun r19_ V20 => ∃ (p25_ : Option Addr) (n25_ c25_ : Nat), r19_ = .slice p25_ n25_ c25_ ∧ (∀ V21 : View, V20.Le V21 → Acts prog 35 #[.slice p24_ n24_ c24_, .slice p25_ n25_ c25_] V21 fun r21_ V22 => ∃ (p26_ : Option Addr) (n26_ c26_ : Nat), r21_ = .slice p26_ n26_ c26_ ∧ (∀ V23 : View, V22.Le V23 → Acts prog 37 #[.bool false, .slice p26_ n26_ c26_] V23 fun r23_ V24 => ∃ b27_ : Bool, ∃ (p28_ : Option Addr) (n28_ c28_ : Nat), r23_ = .agg #[.bool b27_, .slice p28_ n28_ c28_] ∧ (∀ V25 : View, V24.Le V25 → Acts prog 34 #[.agg #[.bool b7_, .slice p8_ n8_ c8_, .slice p9_ n9_ c9_], .agg #[.bool b27_, .slice p28_ n28_ c28_, .slice none 0 0]] V25 fun r25_ V26 => ∃ b29_ : Bool, ∃ (p30_ : Option Addr) (n30_ c30_ : Nat), ∃ (p31_ : Option Addr) (n31_ c31_ : Nat), r25_ = .agg #[.bool b29_, .slice p30_ n30_ c30_, .slice p31_ n31_ c31_] ∧ (∀ V27 : View, V26.Le V27 → Acts prog 34 #[.agg #[.bool b1_, .slice p2_ n2_ c2_, .slice p3_ n3_ c3_], .agg #[.bool b27_, .slice p28_ n28_ c28_, .slice none 0 0]] V27 fun r27_ V28 => ∃ b32_ : Bool, ∃ (p33_ : Option Addr) (n33_ c33_ : Nat), ∃ (p34_ : Option Addr) (n34_ c34_ : Nat), r27_ = .agg #[.bool b32_, .slice p33_ n33_ c33_, .slice p34_ n34_ c34_] ∧ (∀ V29 : View, V28.Le V29 → Acts prog 34 #[.agg #[.bool b19_, .slice p20_ n20_ c20_, .slice p21_ n21_ c21_], .agg #[.bool b27_, .slice p28_ n28_ c28_, .slice none 0 0]] V29 fun r29_ V30 => ∃ b35_ : Bool, ∃ (p36_ : Option Addr) (n36_ c36_ : Nat), ∃ (p37_ : Option Addr) (n37_ c37_ : Nat), r29_ = .agg #[.bool b35_, .slice p36_ n36_ c36_, .slice p37_ n37_ c37_] ∧ (∀ V31 : View, V30.Le V31 → Acts prog 38 #[.agg #[.bool b29_, .slice p30_ n30_ c30_], .agg #[.bool b32_, .slice p33_ n33_ c33_], .agg #[.bool b35_, .slice p36_ n36_ c36_]] V31 fun r31_ V32 => ∃ b38_ : Bool, ∃ (p39_ : Option Addr) (n39_ c39_ : Nat), ∃ b40_ : Bool, ∃ (p41_ : Option Addr) (n41_ c41_ : Nat), ∃ b42_ : Bool, ∃ (p43_ : Option Addr) (n43_ c43_ : Nat), ∃ b44_ : Bool, r31_ = .tuple #[.agg #[.bool b38_, .slice p39_ n39_ c39_, .bool b40_, .slice p41_ n41_ c41_, .bool b42_, .slice p43_ n43_ c43_], .bool b44_] ∧ (∀ V33 : View, V32.Le V33 → R (.tuple #[.agg #[.bool b38_, .slice p39_ n39_ c39_, .bool b40_, .slice p41_ n41_ c41_, .bool b42_, .slice p43_ n43_ c43_], .bool b44_]) V33)))))))))))))))))) :
    Acts prog 15 #[.agg #[.bool p0, .slice p1p p1n p1c, .slice p2p p2n p2c, .bool p3, .slice p4p p4n p4c, .slice p5p p5n p5c], .agg #[.bool q0, .slice q1p q1n q1c, .slice q2p q2n q2c, .bool q3, .slice q4p q4n q4c, .slice q5p q5n q5c]] V R :=
  fn_does (LF := [8, 20, 25, 46, 48, 52, 93, 24, 1000024]) (RF := [1000006]) (β0 := (fun _ => 0)) tab_ok mixed [] [] func15 (by kernel_rfl)
    [(0, .agg [.v (.bool p0), .v (.slice p1p p1n p1c), .v (.slice p2p p2n p2c), .v (.bool p3), .v (.slice p4p p4n p4c), .v (.slice p5p p5n p5c)]), (1, .agg [.v (.bool q0), .v (.slice q1p q1n q1c), .v (.slice q2p q2n q2c), .v (.bool q3), .v (.slice q4p q4n q4c), .v (.slice q5p q5n q5c)])]
    [] (by kernel_rfl) trivial h (by kernel_rfl)

theorem vc_ref04_ToL (l0 : Bool) (l1p : Option Addr) (l1n l1c : Nat) (l2 : Bool) (l3p : Option Addr) (l3n l3c : Nat) (l4 : Bool) (l5p : Option Addr) (l5n l5c : Nat) (V : View) (R : Value → View → Prop)
    (h : (∀ V1 : View, V.Le V1 → Acts prog 40 #[.agg #[.bool l0, .slice l1p l1n l1c]] V1 fun r1_ V2 => ∃ b1_ : Bool, ∃ (p2_ : Option Addr) (n2_ c2_ : Nat), r1_ = .agg #[.bool b1_, .slice p2_ n2_ c2_] ∧ (∀ V3 : View, V2.Le V3 → Acts prog 40 #[.agg #[.bool l2, .slice l3p l3n l3c]] V3 fun r3_ V4 => ∃ b3_ : Bool, ∃ (p4_ : Option Addr) (n4_ c4_ : Nat), r3_ = .agg #[.bool b3_, .slice p4_ n4_ c4_] ∧ (∀ V5 : View, V4.Le V5 → Acts prog 40 #[.agg #[.bool l4, .slice l5p l5n l5c]] V5 fun r5_ V6 => ∃ b5_ : Bool, ∃ (p6_ : Option Addr) (n6_ c6_ : Nat), r5_ = .agg #[.bool b5_, .slice p6_ n6_ c6_] ∧ (∀ V7 : View, V6.Le V7 → R (.agg #[.bool b1_, .slice p2_ n2_ c2_, .bool b3_, .slice p4_ n4_ c4_, .bool b5_, .slice p6_ n6_ c6_]) V7))))) :
    Acts prog 17 #[.agg #[.bool l0, .slice l1p l1n l1c, .bool l2, .slice l3p l3n l3c, .bool l4, .slice l5p l5n l5c]] V R :=
  fn_does (LF := [8, 20, 25, 46, 48, 52, 93, 24, 1000024]) (RF := [1000006]) (β0 := (fun _ => 0)) tab_ok mixed [] [] func17 (by kernel_rfl)
    [(0, .agg [.v (.bool l0), .v (.slice l1p l1n l1c), .v (.bool l2), .v (.slice l3p l3n l3c), .v (.bool l4), .v (.slice l5p l5n l5c)])]
    [] (by kernel_rfl) trivial h (by kernel_rfl)

theorem vc_ref04_SameL (a0 : Bool) (a1p : Option Addr) (a1n a1c : Nat) (a2 : Bool) (a3p : Option Addr) (a3n a3c : Nat) (a4 : Bool) (a5p : Option Addr) (a5n a5c : Nat) (b0 : Bool) (b1p : Option Addr) (b1n b1c : Nat) (b2 : Bool) (b3p : Option Addr) (b3n b3c : Nat) (b4 : Bool) (b5p : Option Addr) (b5n b5c : Nat) (V : View) (R : Value → View → Prop)
    (h : (∀ V1 : View, V.Le V1 → Acts prog 51 #[.agg #[.bool a0, .slice a1p a1n a1c], .agg #[.bool b0, .slice b1p b1n b1c]] V1 fun r1_ V2 => ∃ b1_ : Bool, r1_ = .bool b1_ ∧ ((b1_ = true → (∀ V3 : View, V2.Le V3 → Acts prog 51 #[.agg #[.bool a2, .slice a3p a3n a3c], .agg #[.bool b2, .slice b3p b3n b3c]] V3 fun r3_ V4 => ∃ b2_ : Bool, r3_ = .bool b2_ ∧ ((b2_ = true → (∀ V5 : View, V4.Le V5 → Acts prog 51 #[.agg #[.bool a4, .slice a5p a5n a5c], .agg #[.bool b4, .slice b5p b5n b5c]] V5 fun r5_ V6 => ∃ b3_ : Bool, r5_ = .bool b3_ ∧ (∀ V7 : View, V6.Le V7 → R (.bool b3_) V7))) ∧ (b2_ = false → (∀ V8 : View, V4.Le V8 → R (.bool false) V8))))) ∧ (b1_ = false → (∀ V9 : View, V2.Le V9 → R (.bool false) V9))))) :
    Acts prog 22 #[.agg #[.bool a0, .slice a1p a1n a1c, .bool a2, .slice a3p a3n a3c, .bool a4, .slice a5p a5n a5c], .agg #[.bool b0, .slice b1p b1n b1c, .bool b2, .slice b3p b3n b3c, .bool b4, .slice b5p b5n b5c]] V R :=
  fn_does (LF := [8, 20, 25, 46, 48, 52, 93, 24, 1000024]) (RF := [1000006]) (β0 := (fun _ => 0)) tab_ok mixed [] [] func22 (by kernel_rfl)
    [(0, .agg [.v (.bool a0), .v (.slice a1p a1n a1c), .v (.bool a2), .v (.slice a3p a3n a3c), .v (.bool a4), .v (.slice a5p a5n a5c)]), (1, .agg [.v (.bool b0), .v (.slice b1p b1n b1c), .v (.bool b2), .v (.slice b3p b3n b3c), .v (.bool b4), .v (.slice b5p b5n b5c)])]
    [] (by kernel_rfl) trivial h (by kernel_rfl)

end Go.Proofs.Tryz
/- Contracts of the references 01 and 04: ToN, ToI, SameN, SameI, points. -/
namespace Go.Eng
open Go.Big
/-- A point of the reference. -/
def RP (V : View) (v : Value) (x y : Rat) : Prop := ∃ p n c p' n' c' q m e q' m' e', v = .agg #[.bool (decide (x.num < 0)), .slice p n c, .slice p' n' c', .bool (decide (y.num < 0)), .slice q m e, .slice q' m' e'] ∧
  RQ V (.agg #[.bool (decide (x.num < 0)), .slice p n c, .slice p' n' c']) x ∧ RQ V (.agg #[.bool (decide (y.num < 0)), .slice q m e, .slice q' m' e']) y
theorem RP.le {V V' : View} {v : Value} {x y : Rat} (h : RP V v x y) (l : V.Le V') : RP V' v x y := by
  obtain ⟨p, n, c, p', n', c', q, m, e, q', m', e', rfl, h1, h2⟩ := h
  exact ⟨p, n, c, p', n', c', q, m, e, q', m', e', rfl, h1.le l, h2.le l⟩
theorem RQ.shape {V : View} {v : Value} {q : Rat} (h : RQ V v q) : ∃ p n c p' n' c', v = .agg #[.bool (decide (q.num < 0)), .slice p n c, .slice p' n' c'] := by
  obtain ⟨p, n, c, p', n', c', e, -⟩ := h; exact ⟨_, _, _, _, _, _, e⟩
end Go.Eng
namespace Go.Proofs.Tryz
open Go.Eng Go.Big

theorem c_ref01_ToN {V : View} {p : Option Addr} {n c : Nat} {ds : List Nat} (h : RD V p n c ds) (hm : ds.length ≤ 1099511627776) :
    Acts prog 65 #[.slice p n c] V fun r V' => ∃ p1 n1 c1, r = .slice p1 n1 c1 ∧ RD V' p1 n1 c1 ds := by
  have hl := h.len
  refine vc_ref01_ToN p n c V _ ⟨u32s ds, h.sl, by simp [hl], by omega, by omega, by simp, by simp [hl], ?_, ?_⟩
  · intro v hv
    simp only [u32s, List.mem_map] at hv
    obtain ⟨d, -, rfl⟩ := hv
    rfl
  · intro bk J sp c' h1 h2 V1 l1 b hb
    refine ⟨_, _, _, rfl, ?_⟩
    simp only [Nat.zero_add, Nat.zero_mul, List.take_zero, List.nil_append] at hb h1 ⊢
    exact copied h.dig hl h1 hb

theorem c_ref01_ToI {V : View} {v : Value} {z : Int} (h : RI V v z) (hm : (digs z.natAbs).length ≤ 1099511627776) :
    Acts prog 40 #[v] V fun r V' => RI V' r z := by
  obtain ⟨p, n, c, rfl, h⟩ := h
  refine vc_ref01_ToI _ p n c V _ fun V1 l1 => (c_ref01_ToN (h.le l1) hm).mono ?_
  rintro r V2 l2 ⟨p1, n1, c1, rfl, g⟩
  exact ⟨_, _, _, rfl, fun V3 l3 => ⟨_, _, _, rfl, g.le l3⟩⟩

theorem c_ref04_Xy {V : View} (x y : Int) (h0 : -9223372036854775808 ≤ x) (h1 : x ≤ 9223372036854775807) (h2 : -9223372036854775808 ≤ y) (h3 : y ≤ 9223372036854775807) :
    Acts prog 16 #[.int .i64 x, .int .i64 y] V fun r V' => RP V' r (x : Rat) (y : Rat) := by
  refine vc_ref04_Xy x y V _ fun V1 l1 => (c_num_Of x h0 h1).mono ?_
  rintro r V2 l2 hx
  obtain ⟨p, n, c, p', n', c', rfl⟩ := hx.shape
  refine ⟨_, _, _, _, _, _, _, rfl, fun V3 l3 => (c_num_Of y h2 h3).mono ?_⟩
  rintro r V4 l4 hy
  obtain ⟨q, m, e, q', m', e', rfl⟩ := hy.shape
  exact ⟨_, _, _, _, _, _, _, rfl, fun V5 l5 => ⟨_, _, _, _, _, _, _, _, _, _, _, _, rfl, hx.le (l3.trans (l4.trans l5)), hy.le l5⟩⟩

theorem c_ref04_Add {V : View} {u v w : Value} {px py c qx qy : Rat} (hp : RP V u px py) (hc : RQ V v c) (hq : RP V w qx qy) {k m : Nat} (s1 : Sz k px) (s2 : Sz k py) (s3 : Sz m c) (s4 : Sz m qx) (s5 : Sz m qy) (hkm : k + (m + m + 1) < 274877906944) :
    Acts prog 47 #[u, v, w] V fun r V' => RP V' r (px + c * qx) (py + c * qy) := by
  obtain ⟨p1, n1, c1, p2, n2, c2, p3, n3, c3, p4, n4, c4, rfl, hp1, hp2⟩ := hp
  obtain ⟨p5, n5, c5, p6, n6, c6, rfl⟩ := hc.shape
  obtain ⟨q1, m1, e1, q2, m2, e2, q3, m3, e3, q4, m4, e4, rfl, hq1, hq2⟩ := hq
  refine vc_ref04_Add _ p1 n1 c1 p2 n2 c2 _ p3 n3 c3 p4 n4 c4 _ p5 n5 c5 p6 n6 c6 _ q1 m1 e1 q2 m2 e2 _ q3 m3 e3 q4 m4 e4 V _ fun V1 l1 => (c_num_Times (hc.le l1) (hq1.le l1) s3 s4 (by omega)).mono ?_
  rintro r V2 l2 g1
  obtain ⟨a1, a2, a3, a4, a5, a6, rfl⟩ := g1.shape
  refine ⟨_, _, _, _, _, _, _, rfl, fun V3 l3 => (c_num_Plus (hp1.le (l1.trans (l2.trans l3))) (g1.le l3) s1 (s3.mul s4) (by omega)).mono ?_⟩
  rintro r V4 l4 g2
  obtain ⟨b1, b2, b3, b4, b5, b6, rfl⟩ := g2.shape
  have l04 := l1.trans (l2.trans (l3.trans l4))
  refine ⟨_, _, _, _, _, _, _, rfl, fun V5 l5 => (c_num_Times (hc.le (l04.trans l5)) (hq2.le (l04.trans l5)) s3 s5 (by omega)).mono ?_⟩
  rintro r V6 l6 g3
  obtain ⟨d1, d2, d3, d4, d5, d6, rfl⟩ := g3.shape
  refine ⟨_, _, _, _, _, _, _, rfl, fun V7 l7 => (c_num_Plus (hp2.le (l04.trans (l5.trans (l6.trans l7)))) (g3.le l7) s2 (s3.mul s5) (by omega)).mono ?_⟩
  rintro r V8 l8 g4
  obtain ⟨f1, f2, f3, f4, f5, f6, rfl⟩ := g4.shape
  exact ⟨_, _, _, _, _, _, _, rfl, fun V9 l9 => ⟨_, _, _, _, _, _, _, _, _, _, _, _, rfl, g2.le (l5.trans (l6.trans (l7.trans (l8.trans l9)))), g4.le l9⟩⟩

theorem sz_neg1 : Sz 1 ((-1 : Int) : Rat) := by unfold Sz; decide
theorem c_ref04_Sub {V : View} {u w : Value} {px py qx qy : Rat} (hp : RP V u px py) (hq : RP V w qx qy) {k m : Nat} (s1 : Sz k px) (s2 : Sz k py) (s4 : Sz m qx) (s5 : Sz m qy) (hm : 1 ≤ m) (hkm : k + (m + m + 1) < 274877906944) :
    Acts prog 31 #[u, w] V fun r V' => RP V' r (px - qx) (py - qy) := by
  have hp0 := hp
  have hq0 := hq
  obtain ⟨p1, n1, c1, p2, n2, c2, p3, n3, c3, p4, n4, c4, rfl, -, -⟩ := hp
  obtain ⟨q1, m1, e1, q2, m2, e2, q3, m3, e3, q4, m4, e4, rfl, -, -⟩ := hq
  refine vc_ref04_Sub _ p1 n1 c1 p2 n2 c2 _ p3 n3 c3 p4 n4 c4 _ q1 m1 e1 q2 m2 e2 _ q3 m3 e3 q4 m4 e4 V _ fun V1 l1 => (c_num_Of (-1) (by omega) (by omega)).mono ?_
  rintro r V2 l2 g1
  obtain ⟨a1, a2, a3, a4, a5, a6, rfl⟩ := g1.shape
  have l02 := l1.trans l2
  refine ⟨_, _, _, _, _, _, _, rfl, fun V3 l3 => (c_ref04_Add (hp0.le (l02.trans l3)) (g1.le l3) (hq0.le (l02.trans l3)) s1 s2 (sz_neg1.mono hm) s4 s5 hkm).mono ?_⟩
  have e1 : ∀ a b : Rat, a + ((-1 : Int) : Rat) * b = a - b := by
    intro a b
    have : ((-1 : Int) : Rat) = -1 := rfl
    rw [this, Rat.neg_mul, Rat.one_mul, Rat.sub_eq_add_neg]
  rw [e1, e1]
  rintro r V4 l4 ⟨b1, b2, b3, b4, b5, b6, b7, b8, b9, b10, b11, b12, rfl, g2, g3⟩
  exact ⟨_, _, _, _, _, _, _, _, _, _, _, _, _, _, rfl, fun V5 l5 => ⟨_, _, _, _, _, _, _, _, _, _, _, _, rfl, g2.le l5, g3.le l5⟩⟩

theorem c_ref04_Same {V : View} {u w : Value} {px py qx qy : Rat} (hp : RP V u px py) (hq : RP V w qx qy) {k m : Nat} (s1 : Sz k px) (s2 : Sz k py) (s4 : Sz m qx) (s5 : Sz m qy) (hkm : k + m < 274877906944) :
    Acts prog 73 #[u, w] V fun r V' => r = .bool (decide (px = qx ∧ py = qy)) := by
  obtain ⟨p1, n1, c1, p2, n2, c2, p3, n3, c3, p4, n4, c4, rfl, hp1, hp2⟩ := hp
  obtain ⟨q1, m1, e1, q2, m2, e2, q3, m3, e3, q4, m4, e4, rfl, hq1, hq2⟩ := hq
  refine vc_ref04_Same _ p1 n1 c1 p2 n2 c2 _ p3 n3 c3 p4 n4 c4 _ q1 m1 e1 q2 m2 e2 _ q3 m3 e3 q4 m4 e4 V _ fun V1 l1 => (c_num_C (hp1.le l1) (hq1.le l1) s1 s4 hkm).mono ?_
  rintro r V2 l2 rfl
  refine ⟨_, rfl, fun h0 V3 l3 => (c_num_C (hp2.le (l1.trans (l2.trans l3))) (hq2.le (l1.trans (l2.trans l3))) s2 s5 hkm).mono ?_, fun h0 V3 l3 => ?_⟩
  · have h0 : px = qx := cmpQ_eq.2 (by simpa using h0)
    rintro r V4 l4 rfl
    refine ⟨_, rfl, fun V5 l5 => ?_⟩
    congr 1
    rw [Bool.eq_iff_iff, decide_eq_true_eq, beq_iff_eq, ← cmpQ_eq]
    exact ⟨fun h => ⟨h0, h⟩, fun h => h.2⟩
  · have h0 : ¬ px = qx := fun e => by rw [cmpQ_eq.1 e] at h0; simp at h0
    rw [decide_eq_false fun h => h0 h.1]
end Go.Proofs.Tryz
/- Contracts of the references 01 and 04: SameN, SameI, lines. -/
namespace Go.Eng
open Go.Big
/-- A line with integer coefficients, of the reference or of package api. -/
def RL (V : View) (v : Value) (a b c : Int) : Prop := ∃ p n s p' n' s' q m e, v = .agg #[.bool (decide (a < 0)), .slice p n s, .bool (decide (b < 0)), .slice p' n' s', .bool (decide (c < 0)), .slice q m e] ∧
  RD V p n s (digs a.natAbs) ∧ RD V p' n' s' (digs b.natAbs) ∧ RD V q m e (digs c.natAbs)
theorem RL.le {V V' : View} {v : Value} {a b c : Int} (h : RL V v a b c) (l : V.Le V') : RL V' v a b c := by
  obtain ⟨p, n, s, p', n', s', q, m, e, rfl, h1, h2, h3⟩ := h
  exact ⟨p, n, s, p', n', s', q, m, e, rfl, h1.le l, h2.le l, h3.le l⟩
end Go.Eng
namespace Go.Proofs.Tryz
open Go.Eng Go.Big

theorem c_ref01_SameN {V : View} {p q : Option Addr} {n c m e : Nat} {xs ys : List Nat} (hx : RD V p n c xs) (hy : RD V q m e ys) (hm : xs.length ≤ 1099511627776) :
    Acts prog 75 #[.slice p n c, .slice q m e] V fun r V' => r = .bool (decide (xs = ys)) := by
  have hlx := hx.len
  have hly := hy.len
  refine vc_ref01_SameN p n c q m e V _ ⟨fun h0 V1 l1 => ?_, fun h0 => ?_⟩
  · have h0 : n ≠ m := by simp at h0; omega
    rw [decide_eq_false fun h => h0 (by rw [hlx, hly, h])]
  · have h0 : n = m := by simp at h0; omega
    refine ⟨fun z V' => 0 ≤ z ∧ z ≤ n ∧ xs.take z.toNat = ys.take z.toNat, fun z => n - z.toNat, ⟨0, by (try dsimp only); and_intros <;> first | exact True.intro | rfl, by (try dsimp only); omega, by (try dsimp only); omega, rfl⟩, ?_⟩
    rintro i V2 l2 ⟨hi0, hi1, ht⟩
    dsimp only at hi1 ht ⊢
    obtain ⟨i, rfl⟩ := Int.eq_ofNat_of_zero_le hi0
    simp only [Int.toNat_natCast] at ht
    refine ⟨by trivial, fun h3 => ?_, fun h3 V4 l4 => ?_⟩
    · have h3 : i < n := by simpa using h3
      refine (hx.le l2).rd i rfl (by omega) ((hy.le l2).rd i rfl (by omega) ⟨fun h4 V8 l8 => ?_, fun h4 => ?_⟩)
      · have h4 : xs[i] ≠ ys[i] := by simp at h4; omega
        rw [decide_eq_false fun h => h4 (by subst h; rfl)]
      · have h4 : xs[i] = ys[i] := by simp at h4; omega
        have w : IntKind.i64.wrap ((i : Int) + 1) = ((i + 1 : Nat) : Int) := by rw [i64w (by omega)]; omega
        simp only [w]
        refine ⟨((i + 1 : Nat) : Int), ?_, by (try dsimp only); and_intros <;> first | exact True.intro | rfl, by (try dsimp only); omega, by (try dsimp only); omega, ?_⟩
        · (try dsimp only); omega
        · (try dsimp only)
          simp only [Int.toNat_natCast]
          rw [List.take_succ_eq_append_getElem (by omega), List.take_succ_eq_append_getElem (l := ys) (by omega), ht, h4]
    · have h3 : i = n := by simp at h3; omega
      rw [List.take_of_length_le (by omega), List.take_of_length_le (by omega)] at ht
      rw [decide_eq_true ht]

theorem same_int {z w : Int} : (decide (z < 0) == decide (w < 0)) = true → (decide (digs z.natAbs = digs w.natAbs) = decide (z = w)) := by
  intro h
  have h1 : (z < 0 ↔ w < 0) := by simpa using h
  rw [Bool.eq_iff_iff, decide_eq_true_eq, decide_eq_true_eq]
  constructor
  · intro h2
    have := digs_inj h2
    omega
  · intro h2; rw [h2]

theorem c_ref01_SameI {V : View} {z w : Int} {p q : Option Addr} {n c m e : Nat} (hx : RD V p n c (digs z.natAbs)) (hy : RD V q m e (digs w.natAbs)) (hm : (digs z.natAbs).length ≤ 1099511627776) :
    Acts prog 51 #[.agg #[.bool (decide (z < 0)), .slice p n c], .agg #[.bool (decide (w < 0)), .slice q m e]] V fun r V' => r = .bool (decide (z = w)) := by
  refine vc_ref01_SameI _ p n c _ q m e V _ ⟨fun h0 V1 l1 => (c_ref01_SameN (hx.le l1) (hy.le l1) hm).mono ?_, fun h0 V1 l1 => ?_⟩
  · rintro r V2 l2 rfl
    refine ⟨_, rfl, fun V3 l3 => ?_⟩
    rw [same_int h0]
  · rw [decide_eq_false fun h => by subst h; simp at h0]

theorem c_ref04_SameL {V : View} {v w : Value} {a b c a' b' c' : Int} (hx : RL V v a b c) (hy : RL V w a' b' c') (h1 : (digs a.natAbs).length ≤ 1099511627776) (h2 : (digs b.natAbs).length ≤ 1099511627776) (h3 : (digs c.natAbs).length ≤ 1099511627776) :
    Acts prog 22 #[v, w] V fun r V' => r = .bool (decide (a = a' ∧ b = b' ∧ c = c')) := by
  obtain ⟨p, n, s, p', n', s', q, m, e, rfl, x1, x2, x3⟩ := hx
  obtain ⟨i, j, k, i', j', k', i2, j2, k2, rfl, y1, y2, y3⟩ := hy
  refine vc_ref04_SameL _ p n s _ p' n' s' _ q m e _ i j k _ i' j' k' _ i2 j2 k2 V _ fun V1 l1 => (c_ref01_SameI (x1.le l1) (y1.le l1) h1).mono ?_
  rintro r V2 l2 rfl
  refine ⟨_, rfl, fun g1 V3 l3 => (c_ref01_SameI (x2.le (l1.trans (l2.trans l3))) (y2.le (l1.trans (l2.trans l3))) h2).mono ?_, fun g1 V9 l9 => ?_⟩
  · rintro r V4 l4 rfl
    rw [decide_eq_true_eq] at g1
    refine ⟨_, rfl, fun g2 V5 l5 => (c_ref01_SameI (x3.le (l1.trans (l2.trans (l3.trans (l4.trans l5))))) (y3.le (l1.trans (l2.trans (l3.trans (l4.trans l5))))) h3).mono ?_, fun g2 V8 l8 => ?_⟩
    · rintro r V6 l6 rfl
      rw [decide_eq_true_eq] at g2
      refine ⟨_, rfl, fun V7 l7 => ?_⟩
      congr 1
      rw [Bool.eq_iff_iff, decide_eq_true_eq, decide_eq_true_eq]
      exact ⟨fun h => ⟨g1, g2, h⟩, fun h => h.2.2⟩
    · rw [decide_eq_false_iff_not] at g2
      rw [decide_eq_false fun h => g2 h.2.1]
  · rw [decide_eq_false_iff_not] at g1
    rw [decide_eq_false fun h => g1 h.1]

theorem c_ref04_ToL {V : View} {v : Value} {a b c : Int} (hx : RL V v a b c) (h1 : (digs a.natAbs).length ≤ 1099511627776) (h2 : (digs b.natAbs).length ≤ 1099511627776) (h3 : (digs c.natAbs).length ≤ 1099511627776) :
    Acts prog 17 #[v] V fun r V' => RL V' r a b c := by
  obtain ⟨p, n, s, p', n', s', q, m, e, rfl, x1, x2, x3⟩ := hx
  refine vc_ref04_ToL _ p n s _ p' n' s' _ q m e V _ fun V1 l1 => (c_ref01_ToI ⟨_, _, _, rfl, x1.le l1⟩ h1).mono ?_
  rintro r V2 l2 ⟨p1, n1, c1, rfl, g1⟩
  refine ⟨_, _, _, _, rfl, fun V3 l3 => (c_ref01_ToI ⟨_, _, _, rfl, x2.le (l1.trans (l2.trans l3))⟩ h2).mono ?_⟩
  rintro r V4 l4 ⟨p2, n2, c2, rfl, g2⟩
  refine ⟨_, _, _, _, rfl, fun V5 l5 => (c_ref01_ToI ⟨_, _, _, rfl, x3.le (l1.trans (l2.trans (l3.trans (l4.trans l5))))⟩ h3).mono ?_⟩
  rintro r V6 l6 ⟨p3, n3, c3, rfl, g3⟩
  exact ⟨_, _, _, _, rfl, fun V7 l7 => ⟨_, _, _, _, _, _, _, _, _, rfl, g1.le (l3.trans (l4.trans (l5.trans (l6.trans l7)))), g2.le (l5.trans (l6.trans l7)), g3.le l7⟩⟩
end Go.Proofs.Tryz
/- Contracts of the reference 04: MakeL. -/
namespace Go.Proofs.Tryz
open Go.Eng Go.Big

theorem div_sign {z : Int} {g : Nat} (hg : 0 < g) (hd : g ∣ z.natAbs) : (if decide (z < 0) = true then -((z.natAbs / g : Nat) : Int) else ((z.natAbs / g : Nat) : Int)) = z / (g : Int) := by
  obtain ⟨k, hk⟩ := hd
  have hk1 : z.natAbs / g = k := by rw [hk, Nat.mul_div_cancel_left _ hg]
  rw [hk1]
  have hz : z = (g : Int) * (if decide (z < 0) = true then -(k : Int) else k) := by
    split
    · rename_i h
      rw [decide_eq_true_eq] at h
      rw [Int.mul_neg, ← Int.natCast_mul, ← hk]; omega
    · rename_i h
      rw [decide_eq_true_eq] at h
      rw [← Int.natCast_mul, ← hk]; omega
  generalize (if decide (z < 0) = true then -(k : Int) else k) = t at *
  rw [hz, Int.mul_ediv_cancel_left _ (by omega)]

/-- The greatest common divisor of three coefficients. -/
def gcd3 (a b c : Int) : Nat := Nat.gcd (Nat.gcd a.natAbs b.natAbs) c.natAbs

theorem c_ref04_MakeL {V : View} {u v w : Value} {a b c : Int} (ha : RI V u a) (hb : RI V v b) (hc : RI V w c) (h1 : (digs a.natAbs).length ≤ 274877906944) (h2 : (digs b.natAbs).length ≤ 274877906944) (h3 : (digs c.natAbs).length ≤ 274877906944) :
    Acts prog 38 #[u, v, w] V fun r V' => (a = 0 ∧ b = 0 → ∃ l, r = .tuple #[l, .bool false] ∧ RL V' l 0 0 0) ∧
      (¬ (a = 0 ∧ b = 0) → ∃ l, r = .tuple #[l, .bool true] ∧ RL V' l (a / (gcd3 a b c : Int)) (b / (gcd3 a b c : Int)) (c / (gcd3 a b c : Int))) := by
  obtain ⟨p, n, s, rfl, ha⟩ := ha
  obtain ⟨p', n', s', rfl, hb⟩ := hb
  obtain ⟨q, m, e, rfl, hc⟩ := hc
  refine vc_ref04_MakeL _ p n s _ p' n' s' _ q m e V _ fun V1 l1 => (c_num_Common (ha.le l1) (hb.le l1) h1 h2).mono ?_
  rintro r V2 l2 ⟨p1, n1, c1, rfl, g1⟩
  have hp := len_pos_digs g1.len
  have hab : Nat.gcd a.natAbs b.natAbs = 0 ↔ a = 0 ∧ b = 0 := by rw [Nat.gcd_eq_zero_iff]; omega
  refine ⟨_, _, _, rfl, fun h0 V3 l3 => ⟨fun _ => ⟨_, rfl, _, _, _, _, _, _, _, _, _, rfl, RD.nil, RD.nil, RD.nil⟩, fun h => ?_⟩, fun h0 V4 l4 => ?_⟩
  · exact absurd (hab.1 (by simp at h0; omega)) h
  have hne : ¬ (a = 0 ∧ b = 0) := fun h => by have := hab.2 h; simp at h0; omega
  have hg0 : 0 < Nat.gcd a.natAbs b.natAbs := by have := hab; omega
  have hgl : (digs (Nat.gcd a.natAbs b.natAbs)).length ≤ 274877906944 := by
    rcases Nat.eq_zero_or_pos a.natAbs with h | h
    · rw [h, Nat.gcd_zero_left]; exact h2
    · exact Nat.le_trans (digs_len_mono (Nat.gcd_le_left _ h)) h1
  refine (c_num_Common (g1.le l4) (hc.le (l1.trans (l2.trans l4))) hgl h3).mono ?_
  rintro r V5 l5 ⟨p2, n2, c2, rfl, g2⟩
  have l05 := l1.trans (l2.trans (l4.trans l5))
  have e3 : Nat.gcd (Nat.gcd a.natAbs b.natAbs) c.natAbs = gcd3 a b c := rfl
  have hG0 : 0 < gcd3 a b c := Nat.gcd_pos_of_pos_left _ hg0
  have hGl : (digs (gcd3 a b c)).length ≤ 274877906944 := Nat.le_trans (digs_len_mono (Nat.gcd_le_left _ hg0)) hgl
  have da : gcd3 a b c ∣ a.natAbs := Nat.dvd_trans (Nat.gcd_dvd_left _ _) (Nat.gcd_dvd_left _ _)
  have db : gcd3 a b c ∣ b.natAbs := Nat.dvd_trans (Nat.gcd_dvd_left _ _) (Nat.gcd_dvd_right _ _)
  have dc : gcd3 a b c ∣ c.natAbs := Nat.gcd_dvd_right _ _
  have sa := div_sign hG0 da
  have sb := div_sign hG0 db
  have sc := div_sign hG0 dc
  rw [e3] at g2
  generalize gcd3 a b c = G at *
  refine ⟨_, _, _, rfl, fun V6 l6 => (c_num_Divide (ha.le (l05.trans l6)) (g2.le l6) h1 hGl hG0).mono ?_⟩
  rintro r V7 l7 ⟨p3, n3, c3, p4, n4, c4, rfl, g3, -⟩
  have l07 := l6.trans l7
  refine ⟨_, _, _, _, _, _, rfl, fun V8 l8 => (c_num_Divide (hb.le (l05.trans (l07.trans l8))) (g2.le (l07.trans l8)) h2 hGl hG0).mono ?_⟩
  rintro r V9 l9 ⟨p5, n5, c5, p6, n6, c6, rfl, g5, -⟩
  have l09 := l07.trans (l8.trans l9)
  refine ⟨_, _, _, _, _, _, rfl, fun V10 l10 => (c_num_Divide (hc.le (l05.trans (l09.trans l10))) (g2.le (l09.trans l10)) h3 hGl hG0).mono ?_⟩
  rintro r V11 l11 ⟨p7, n7, c7, p8, n8, c8, rfl, g7, -⟩
  refine ⟨_, _, _, _, _, _, rfl, fun V12 l12 => (c_num_Make _ (g3.le (l8.trans (l9.trans (l10.trans (l11.trans l12)))))).mono ?_⟩
  rw [sa]
  rintro r V13 l13 ⟨p9, n9, c9, rfl, g9⟩
  refine ⟨_, _, _, _, rfl, fun V14 l14 => (c_num_Make _ (g5.le (l10.trans (l11.trans (l12.trans (l13.trans l14)))))).mono ?_⟩
  rw [sb]
  rintro r V15 l15 ⟨p10, n10, c10, rfl, g10⟩
  refine ⟨_, _, _, _, rfl, fun V16 l16 => (c_num_Make _ (g7.le (l12.trans (l13.trans (l14.trans (l15.trans l16)))))).mono ?_⟩
  rw [sc]
  rintro r V17 l17 ⟨p11, n11, c11, rfl, g11⟩
  refine ⟨_, _, _, _, rfl, fun V18 l18 => ⟨fun h => absurd h hne, fun _ => ⟨_, rfl, _, _, _, _, _, _, _, _, _, rfl, ?_, ?_, ?_⟩⟩⟩
  · exact g9.le (l14.trans (l15.trans (l16.trans (l17.trans l18))))
  · exact g10.le (l16.trans (l17.trans l18))
  · exact g11.le l18
end Go.Proofs.Tryz
