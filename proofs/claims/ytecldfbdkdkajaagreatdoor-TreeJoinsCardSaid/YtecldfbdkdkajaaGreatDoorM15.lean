/- The law TreeJoins, in views. -/
import Derived.Test.YtecldfbdkdkajaaGreatDoorM14
set_option linter.unusedVariables false
namespace Go.Proofs.Tryz
open Go.Eng Go.Big

theorem c_tree_Parts {V : View} {v : Value} {root : Int} {l : List Nd} (h : AT V v root l) (hb : ∀ x ∈ l, Bd x.ln) {y w : Value} (hy : Sent V 1 y) (hw : Sent V 2 w) :
    Acts prog 21 #[v] V fun r V' => ∃ m a b e, r = .tuple #[m, a, b, e] ∧ (∃ (b1 : Bool) (p1 : Option Addr) (n1 c1 : Nat) (b2 : Bool) (p2 : Option Addr) (n2 c2 : Nat) (b3 : Bool) (p3 : Option Addr) (n3 c3 : Nat), m = .agg #[.bool b1, .slice p1 n1 c1, .bool b2, .slice p2 n2 c2, .bool b3, .slice p3 n3 c3]) ∧
      (∃ x p n c, a = .agg #[.int .i64 x, .slice p n c]) ∧ (∃ x p n c, b = .agg #[.int .i64 x, .slice p n c]) ∧ (ofT l root = none → e = y) ∧ (∀ i, ofT l root = some (.leaf i) → e = w) ∧
      (∀ x s t, ofT l root = some (.node x s t) → RL V' m x.1 x.2.1 x.2.2 ∧ AT V' a (rt 0 s) (wr 0 s) ∧ AT V' b (rt 0 t) (wr 0 t) ∧ e = .nilIface) := by
  have h0 := h
  obtain ⟨q1, m1, d1, rfl, -⟩ := h
  refine vc_tree_Parts root q1 m1 d1 V _ fun V1 l1 => (c_bsp_Of' hb (h0.le l1)).mono ?_
  rintro r V2 l2 ⟨a, rfl, ha⟩
  refine ⟨_, _, rfl, fun g1 => ⟨y, ⟨_, rfl, hy.le (l1.trans l2)⟩, fun V3 l3 => ⟨_, _, _, _, rfl, ⟨_, _, _, _, _, _, _, _, _, _, _, _, rfl⟩, ⟨_, _, _, _, rfl⟩, ⟨_, _, _, _, rfl⟩, fun _ => rfl, fun i h => ?_, fun x s t h => ?_⟩⟩, fun g1 V4 l4 => ?_⟩
  · rw [h] at g1; cases g1
  · rw [h] at g1; cases g1
  have g1 : (ofT l root).isSome = true := by simpa using g1
  obtain ⟨T, hT⟩ := Option.isSome_iff_exists.1 g1
  refine (c_bsp_IsLeaf ((ha T hT).le l4)).mono ?_
  rintro r V5 l5 rfl
  have hall := ofT_all hb hT
  have hsz := ofT_size hT
  have hRT := (ha T hT).le (l4.trans l5)
  refine ⟨_, rfl, fun g2 => ⟨w, ⟨_, rfl, hw.le (l1.trans (l2.trans (l4.trans l5)))⟩, fun V6 l6 => ⟨_, _, _, _, rfl, ⟨_, _, _, _, _, _, _, _, _, _, _, _, rfl⟩, ⟨_, _, _, _, rfl⟩, ⟨_, _, _, _, rfl⟩, fun h => ?_, fun i h => rfl, fun x s t h => ?_⟩⟩, fun g2 => ?_⟩
  · rw [h] at hT; cases hT
  · rw [h] at hT; cases hT; cases g2
  cases T with
  | leaf i => cases g2
  | node x s t =>
    have hs := hRT.isS
    obtain ⟨b, x1, x2, x3, y1, y2, y3, z1, z2, z3, pl, pr, i, rfl, hbk, hl, hx, hy'⟩ := hRT
    obtain ⟨hbd, has, hat⟩ := hall
    simp only [Tr.size] at hsz
    have hat' : ∀ j v, ([.int .i64 x1, .int .i64 x2, .pointer x3, .int .i64 y1, .int .i64 y2, .pointer y3, .int .i64 z1, .int .i64 z2, .pointer z3, .pointer pl, .pointer pr, .bool i] : List Value)[j]? = some v → V5.at ((⟨b, 0, none⟩ : Addr).add j) v := by
      intro j v hv; rw [add_zero']; exact blk_at (xs := [_, _, _, _, _, _, _, _, _, _, _, _]) hbk hv
    obtain ⟨s1, s2, s3⟩ := hbd.sz
    refine ⟨hs, hs, x1, x2, x3, y1, y2, y3, z1, z2, z3, ⟨b, 0, none⟩, rfl, hat' 0 _ rfl, hat' 1 _ rfl, hat' 2 _ rfl, hat' 3 _ rfl, hat' 4 _ rfl, hat' 5 _ rfl, hat' 6 _ rfl, hat' 7 _ rfl, hat' 8 _ rfl, hs, hs, pl, rdc hbk 9 rfl, hs, hs, pr, rdc hbk 10 rfl, fun V7 l7 => (c_geo_API (hl.le l7) s1 s2 s3 (by omega)).mono ?_⟩
    rintro r V8 l8 hRL
    have hRL0 := hRL
    obtain ⟨b1, p1, n1, c1, b2, p2, n2, c2, b3, p3, n3, c3, rfl⟩ := RL_shape' hRL
    refine ⟨_, _, _, _, _, _, _, _, _, _, _, _, rfl, fun V9 l9 => (c_bsp_API (hx.le (l7.trans (l8.trans l9))) has (by omega)).mono ?_⟩
    rintro r V10 l10 ⟨u1, u2, u3, rfl, hu⟩
    refine ⟨_, _, _, _, rfl, fun V11 l11 => (c_bsp_API (hy'.le (l7.trans (l8.trans (l9.trans (l10.trans l11))))) hat (by omega)).mono ?_⟩
    rintro r V12 l12 ⟨k1, k2, k3, rfl, hk⟩
    refine ⟨_, _, _, _, rfl, fun V13 l13 => ⟨_, _, _, _, rfl, ⟨_, _, _, _, _, _, _, _, _, _, _, _, rfl⟩, ⟨_, _, _, _, rfl⟩, ⟨_, _, _, _, rfl⟩, fun h => ?_, fun i h => ?_, fun x' s' t' h => ?_⟩⟩
    · rw [h] at hT; cases hT
    · rw [h] at hT; cases hT
    · rw [hT] at h
      cases h
      exact ⟨hRL0.le (l9.trans (l10.trans (l11.trans (l12.trans l13)))), ⟨_, _, _, rfl, hu.le (l11.trans (l12.trans l13))⟩, ⟨_, _, _, rfl, hk.le l13⟩, rfl⟩

theorem RL_zero {V : View} : RL V (.agg #[.bool false, .slice none 0 0, .bool false, .slice none 0 0, .bool false, .slice none 0 0]) ((0, 0, 0) : L3).1 ((0, 0, 0) : L3).2.1 ((0, 0, 0) : L3).2.2 := ⟨none, 0, 0, none, 0, 0, none, 0, 0, rfl, RD.nil, RD.nil, RD.nil⟩
theorem zero_bd : Bd (0, 0, 0) := bd32' 1000 (by decide) (by decide) (by decide) (by decide)

/-- What a block of the reference's tree lets read. -/
theorem c_law14_TreeJoins {V : View} {y z w : Value} (hs : Snt V y z) (hw : Sent V 2 w) (hwE : SErr w) {lp : Option Addr} {ln lc : Nat} (hr : Rdl V lp ln) (hc : ln ≤ lc) (code by_ : Int) :
    Acts prog 5 #[.slice lp ln lc, .int .i64 code, .int .i64 by_] V fun r V' => r = .bool true := by
  refine vc_law14_TreeJoins lp ln lc code by_ V _ fun V1 l1 => (c_scene_New hc).mono ?_
  rintro r V2 l2 ⟨bk1, rfl, hfr, hb⟩
  refine ⟨bk1, _, _, _, _, rfl, hfr, hb, fun V3 l3 bk4 e4 h4 => ?_⟩
  have l13 : V1.Le V3 := fun b o h => l3 b o ⟨fun hh => hh.elim (l2 b o h).1 fun e => by
    have hlt : b < V1.w.heap.size := by
      rcases Nat.lt_or_ge b V1.w.heap.size with h' | h'
      · exact h'
      · have := h.2; rw [Array.getElem?_eq_none h'] at this; cases this
    have := e.1
    omega, (l2 b o h).2⟩
  have hmin : min ln 400 ≤ 400 := Nat.min_le_right _ _
  have hr : Rdl V lp (min ln 400) := fun i hi => hr i (Nat.lt_of_lt_of_le hi (Nat.min_le_left _ _))
  generalize min ln 400 = n at *
  have l03 : V.Le V3 := l1.trans l13
  refine (c_L (V := V3.lend [bk4]) (hr.le fun b o h => l03 b o h) hmin e4 ⟨by simp, h4⟩ (Int.le_refl 0)).mono ?_
  rintro r V4 l4 ⟨x, at1, hx, hxo, hxb, t1, hw1⟩
  obtain ⟨x1, x2, x3, x4, x5, x6, x7, x8, x9, x10, x11, x12, rfl⟩ := RL_shape' hx
  have l04 : V.Le V4 := fun b o h => l4 b o (l03 b o h)
  refine ⟨_, _, _, _, _, _, _, _, _, _, _, _, rfl, _, _, _, _, hw1, fun V5 l5 bk13 e5 h5 => (c_Tree 3 (V := V5.lend [bk13]) (by omega) (hr.le fun b o h => l5 b o (l04 b o h)) hmin e5 ⟨by simp, h5⟩ t1).mono ?_⟩
  rintro r V6 l6 ⟨qa, ta, at2, rfl, hqa, hta, hsa, t2, hw2⟩
  have l46 : V4.Le V6 := fun b o h => l6 b o (l5 b o h)
  refine ⟨_, rfl, _, _, _, _, hw2, fun V7 l7 bk17 e7 h7 => (c_Tree 3 (V := V7.lend [bk17]) (by omega) (hr.le fun b o h => l7 b o (l46 b o (l04 b o h))) hmin e7 ⟨by simp, h7⟩ t2).mono ?_⟩
  rintro r V8 l8 ⟨qb, tb', at3, rfl, hqb, htb, hsb, t3, hw3⟩
  refine ⟨_, rfl, _, _, _, _, hw3, fun V9 l9 bk21 hbk J22 => ?_⟩
  have l69 : V6.Le V9 := fun b o h => l9 b o (l8 b o (l7 b o h))
  have l09 : V.Le V9 := fun b o h => l69 b o (l46 b o (l04 b o h))
  have hL9 : RL V9 _ x.1 x.2.1 x.2.2 := hx.le fun b o h => l69 b o (l46 b o h)
  have hA9 : RW V9 qa ta := RW.le (V := V6) (V' := V9) l69 hqa
  have hB9 : RW V9 qb tb' := RW.le (V := V8) (V' := V9) (fun b o h => l9 b o h) hqb
  have hT9 : RW V9 (some ⟨bk21, 0, none⟩) (.node x ta tb') := ⟨bk21, _, _, _, _, _, _, _, _, _, _, _, _, _, _, _, rfl, hbk, hL9, hA9, hB9⟩
  have hs9 : Snt V9 y z := hs.le l09
  have hw9 : Sent V9 2 w := hw.le l09
  clear hs hw hqa hqb hx l04 l46 l69 l09 l03 l13 hb e4 h4 e5 h5 e7 h7 hw1 hw2 hw3 l1 l2 l3 l4 l5 l6 l7 l8 l9 hr
  have hat : ∀ j v, ([.bool x1, .slice x2 x3 x4, .bool x5, .slice x6 x7 x8, .bool x9, .slice x10 x11 x12] : List Value)[j]? = some v → V9.at (((⟨bk21, 2, none⟩ : Addr)).add j) v := by
    intro j v hv
    have hj : j < 6 := by
      rcases Nat.lt_or_ge j 6 with hj | hj
      · exact hj
      · rw [List.getElem?_eq_none (by simpa using hj)] at hv; cases hv
    have h2 : (⟨bk21, 2, none⟩ : Addr) = (⟨bk21, 0, none⟩ : Addr).add 2 := by rw [add_zero']
    rw [h2, addadd, add_zero']
    refine blk_at (xs := [_, _, _, _, _, _, _, _, _, _]) hbk ?_
    match j, hj, hv with
    | 0, _, hv => exact hv
    | 1, _, hv => exact hv
    | 2, _, hv => exact hv
    | 3, _, hv => exact hv
    | 4, _, hv => exact hv
    | 5, _, hv => exact hv
  have ha2 : addrAdd (some ⟨bk21, 0, none⟩) 2 = some (⟨bk21, 2, none⟩ : Addr) := by simp [addrAdd, add_zero']
  obtain ⟨d1, d2, d3⟩ := hxb.digs
  have hTall : (Tr.node x ta tb').All Okb := ⟨⟨hxo, hxb⟩, hta, htb⟩
  have hTsz : (Tr.node x ta tb').size ≤ 15 := by simp only [Tr.size]; omega
  have hla := wr_length ta 0
  have hlb := wr_length tb' 0
  have hlT := wr_length (.node x ta tb') 0
  have hba : ∀ x ∈ wr 0 ta, Bd x.ln := lines_wr (okb_bd hta)
  have hbb : ∀ x ∈ wr 0 tb', Bd x.ln := lines_wr (okb_bd htb)
  have hbT : ∀ x_1 ∈ wr 0 (.node x ta tb'), Bd x_1.ln := lines_wr (okb_bd hTall)
  have hoa : ofT (wr 0 ta) (rt 0 ta) = some ta := ofT_wr (okb_okL hta) (by omega)
  have hob : ofT (wr 0 tb') (rt 0 tb') = some tb' := ofT_wr (okb_okL htb) (by omega)
  refine ⟨rfl, x1, x2, x3, x4, x5, x6, x7, x8, x9, x10, x11, x12, ⟨bk21, 2, none⟩, ha2, hat 0 _ rfl, hat 1 _ rfl, hat 2 _ rfl, hat 3 _ rfl, hat 4 _ rfl, hat 5 _ rfl, rfl, qa, rdc hbk 8 rfl, rfl, qb, rdc hbk 9 rfl, fun V10 l10 => (c_ref04_ToL (hL9.le l10) (by omega) (by omega) (by omega)).mono ?_⟩
  rintro r V11 l11 hM
  have hM0 := hM
  obtain ⟨m1, m2, m3, m4, m5, m6, m7, m8, m9, m10, m11, m12, rfl⟩ := RL_shape' hM
  refine ⟨_, _, _, _, _, _, _, _, _, _, _, _, rfl, fun V12 l12 => (c_ref14_Write (hA9.le (l10.trans (l11.trans (l12)))) hta (by omega)).mono ?_⟩
  rintro r V13 l13 hWA
  have hWA0 := hWA
  obtain ⟨q13, n13, c13, rfl, -⟩ := hWA
  refine ⟨_, _, _, _, rfl, fun V14 l14 => (c_Shuf (hWA0.le (l14)) hta (by omega) by_).mono ?_⟩
  rintro r V15 l15 ⟨ra, la, hSA, hofA, hbdA⟩
  have hSA0 := hSA
  obtain ⟨q15, n15, c15, rfl, -⟩ := hSA
  refine ⟨_, _, _, _, rfl, fun V16 l16 => (c_ref14_Write (hB9.le (l10.trans (l11.trans (l12.trans (l13.trans (l14.trans (l15.trans (l16)))))))) htb (by omega)).mono ?_⟩
  rintro r V17 l17 hWB
  have hWB0 := hWB
  obtain ⟨q17, n17, c17, rfl, -⟩ := hWB
  refine ⟨_, _, _, _, rfl, fun V18 l18 => (c_Shuf (hWB0.le (l18)) htb (by omega) by_).mono ?_⟩
  rintro r V19 l19 ⟨rb, lb, hSB, hofB, hbdB⟩
  have hSB0 := hSB
  obtain ⟨q19, n19, c19, rfl, -⟩ := hSB
  refine ⟨_, _, _, _, rfl, fun V20 l20 => (c_tree_Join (x := x) (hM0.le (l12.trans (l13.trans (l14.trans (l15.trans (l16.trans (l17.trans (l18.trans (l19.trans (l20)))))))))) hxb (hSA0.le (l16.trans (l17.trans (l18.trans (l19.trans (l20)))))) (hSB0.le (l20)) hbdA hbdB (hs9.inv.le (l10.trans (l11.trans (l12.trans (l13.trans (l14.trans (l15.trans (l16.trans (l17.trans (l18.trans (l19.trans (l20)))))))))))) (hs9.lim.le (l10.trans (l11.trans (l12.trans (l13.trans (l14.trans (l15.trans (l16.trans (l17.trans (l18.trans (l19.trans (l20))))))))))))).mono ?_⟩
  rintro r V21 l21 ⟨o, e, rfl, -, hJ⟩
  rw [hofA, hofB] at hJ
  have hJ1 := hJ (.node x ta tb') (by unfold joinT; dsimp only; rw [hxo]; rfl)
  clear hJ
  rw [if_neg (by omega)] at hJ1
  obtain ⟨hJA, he⟩ := hJ1
  subst he
  have hJA0 := hJA
  obtain ⟨q21, n21, c21, rfl, -⟩ := hJA
  refine ⟨_, _, _, _, _, rfl, nilI.1, (fun h => by rw [nilI.2] at h; cases h), fun _ V23 l23 => (c_ref14_Write (RW.le (l10.trans (l11.trans (l12.trans (l13.trans (l14.trans (l15.trans (l16.trans (l17.trans (l18.trans (l19.trans (l20.trans (l21.trans (l23))))))))))))) hT9) hTall (by omega)).mono ?_⟩
  rintro r V24 l24 hWT
  have hWT0 := hWT
  obtain ⟨q24, n24, c24, rfl, -⟩ := hWT
  refine ⟨_, _, _, _, rfl, fun V25 l25 => (c_ref14_Same (hJA0.le (l23.trans (l24.trans (l25)))) (hWT0.le (l25)) hbT (by omega)).mono ?_⟩
  rintro r V26 l26 rfl
  rw [decide_eq_true ⟨rfl, rfl⟩]
  refine ⟨_, rfl, (fun h => by cases h), fun _ V28 l28 => (c_Shuf (hJA0.le (l23.trans (l24.trans (l25.trans (l26.trans (l28)))))) hTall (by omega) by_).mono ?_⟩
  rintro r V29 l29 ⟨rj, lj, hSJ, hofJ, hbdJ⟩
  have hSJ0 := hSJ
  obtain ⟨q29, n29, c29, rfl, -⟩ := hSJ
  refine ⟨_, _, _, _, rfl, fun V30 l30 => (c_tree_Parts (hSJ0.le (l30)) hbdJ (hs9.inv.le (l10.trans (l11.trans (l12.trans (l13.trans (l14.trans (l15.trans (l16.trans (l17.trans (l18.trans (l19.trans (l20.trans (l21.trans (l23.trans (l24.trans (l25.trans (l26.trans (l28.trans (l29.trans (l30)))))))))))))))))))) (hw9.le (l10.trans (l11.trans (l12.trans (l13.trans (l14.trans (l15.trans (l16.trans (l17.trans (l18.trans (l19.trans (l20.trans (l21.trans (l23.trans (l24.trans (l25.trans (l26.trans (l28.trans (l29.trans (l30))))))))))))))))))))).mono ?_⟩
  rintro r V31 l31 ⟨pm, pa, pb, pe, rfl, -, -, -, -, -, hP⟩
  obtain ⟨hPm, hPa, hPb, he⟩ := hP x ta tb' hofJ
  subst he
  have hPm0 := hPm
  have hPa0 := hPa
  have hPb0 := hPb
  obtain ⟨k1, k2, k3, k4, k5, k6, k7, k8, k9, k10, k11, k12, rfl⟩ := RL_shape' hPm
  obtain ⟨qpa, npa, cpa, rfl, -⟩ := hPa
  obtain ⟨qpb, npb, cpb, rfl, -⟩ := hPb
  refine ⟨_, _, _, _, _, _, _, _, _, _, _, _, _, _, _, _, _, _, _, _, _, rfl, nilI.1, (fun h => by rw [nilI.2] at h; cases h), fun _ => ⟨rfl, x1, x2, x3, x4, x5, x6, x7, x8, x9, x10, x11, x12, ⟨bk21, 2, none⟩, ha2, (l10.trans (l11.trans (l12.trans (l13.trans (l14.trans (l15.trans (l16.trans (l17.trans (l18.trans (l19.trans (l20.trans (l21.trans (l23.trans (l24.trans (l25.trans (l26.trans (l28.trans (l29.trans (l30.trans (l31)))))))))))))))))))).at (hat 0 _ rfl), (l10.trans (l11.trans (l12.trans (l13.trans (l14.trans (l15.trans (l16.trans (l17.trans (l18.trans (l19.trans (l20.trans (l21.trans (l23.trans (l24.trans (l25.trans (l26.trans (l28.trans (l29.trans (l30.trans (l31)))))))))))))))))))).at (hat 1 _ rfl), (l10.trans (l11.trans (l12.trans (l13.trans (l14.trans (l15.trans (l16.trans (l17.trans (l18.trans (l19.trans (l20.trans (l21.trans (l23.trans (l24.trans (l25.trans (l26.trans (l28.trans (l29.trans (l30.trans (l31)))))))))))))))))))).at (hat 2 _ rfl), (l10.trans (l11.trans (l12.trans (l13.trans (l14.trans (l15.trans (l16.trans (l17.trans (l18.trans (l19.trans (l20.trans (l21.trans (l23.trans (l24.trans (l25.trans (l26.trans (l28.trans (l29.trans (l30.trans (l31)))))))))))))))))))).at (hat 3 _ rfl), (l10.trans (l11.trans (l12.trans (l13.trans (l14.trans (l15.trans (l16.trans (l17.trans (l18.trans (l19.trans (l20.trans (l21.trans (l23.trans (l24.trans (l25.trans (l26.trans (l28.trans (l29.trans (l30.trans (l31)))))))))))))))))))).at (hat 4 _ rfl), (l10.trans (l11.trans (l12.trans (l13.trans (l14.trans (l15.trans (l16.trans (l17.trans (l18.trans (l19.trans (l20.trans (l21.trans (l23.trans (l24.trans (l25.trans (l26.trans (l28.trans (l29.trans (l30.trans (l31)))))))))))))))))))).at (hat 5 _ rfl), fun V33 l33 => (c_ref04_ToL (hL9.le (l10.trans (l11.trans (l12.trans (l13.trans (l14.trans (l15.trans (l16.trans (l17.trans (l18.trans (l19.trans (l20.trans (l21.trans (l23.trans (l24.trans (l25.trans (l26.trans (l28.trans (l29.trans (l30.trans (l31.trans (l33)))))))))))))))))))))) (by omega) (by omega) (by omega)).mono ?_⟩⟩
  rintro r V34 l34 hN
  have hN0 := hN
  obtain ⟨i1, i2, i3, i4, i5, i6, i7, i8, i9, i10, i11, i12, rfl⟩ := RL_shape' hN
  refine ⟨_, _, _, _, _, _, _, _, _, _, _, _, rfl, fun V35 l35 => (c_ref04_SameL (hPm0.le (l33.trans (l34.trans (l35)))) (hN0.le (l35)) (by omega) (by omega) (by omega)).mono ?_⟩
  rintro r V36 l36 rfl
  rw [decide_eq_true ⟨rfl, rfl, rfl⟩]
  refine ⟨_, rfl, (fun h => by cases h), fun _ => ⟨rfl, qa, rdc ((l10.trans (l11.trans (l12.trans (l13.trans (l14.trans (l15.trans (l16.trans (l17.trans (l18.trans (l19.trans (l20.trans (l21.trans (l23.trans (l24.trans (l25.trans (l26.trans (l28.trans (l29.trans (l30.trans (l31.trans (l33.trans (l34.trans (l35.trans (l36)))))))))))))))))))))))) _ _ hbk) 8 rfl, fun V38 l38 => (c_ref14_Write (hA9.le (l10.trans (l11.trans (l12.trans (l13.trans (l14.trans (l15.trans (l16.trans (l17.trans (l18.trans (l19.trans (l20.trans (l21.trans (l23.trans (l24.trans (l25.trans (l26.trans (l28.trans (l29.trans (l30.trans (l31.trans (l33.trans (l34.trans (l35.trans (l36.trans (l38)))))))))))))))))))))))))) hta (by omega)).mono ?_⟩⟩
  rintro r V39 l39 hXA
  have hXA0 := hXA
  obtain ⟨q39, n39, c39, rfl, -⟩ := hXA
  refine ⟨_, _, _, _, rfl, fun V40 l40 => (c_ref14_Same (hPa0.le (l33.trans (l34.trans (l35.trans (l36.trans (l38.trans (l39.trans (l40)))))))) (hXA0.le (l40)) hba (by omega)).mono ?_⟩
  rintro r V41 l41 rfl
  rw [decide_eq_true ⟨rfl, rfl⟩]
  refine ⟨_, rfl, (fun h => by cases h), fun _ => ⟨rfl, qb, rdc ((l10.trans (l11.trans (l12.trans (l13.trans (l14.trans (l15.trans (l16.trans (l17.trans (l18.trans (l19.trans (l20.trans (l21.trans (l23.trans (l24.trans (l25.trans (l26.trans (l28.trans (l29.trans (l30.trans (l31.trans (l33.trans (l34.trans (l35.trans (l36.trans (l38.trans (l39.trans (l40.trans (l41)))))))))))))))))))))))))))) _ _ hbk) 9 rfl, fun V43 l43 => (c_ref14_Write (hB9.le (l10.trans (l11.trans (l12.trans (l13.trans (l14.trans (l15.trans (l16.trans (l17.trans (l18.trans (l19.trans (l20.trans (l21.trans (l23.trans (l24.trans (l25.trans (l26.trans (l28.trans (l29.trans (l30.trans (l31.trans (l33.trans (l34.trans (l35.trans (l36.trans (l38.trans (l39.trans (l40.trans (l41.trans (l43)))))))))))))))))))))))))))))) htb (by omega)).mono ?_⟩⟩
  rintro r V44 l44 hXB
  have hXB0 := hXB
  obtain ⟨q44, n44, c44, rfl, -⟩ := hXB
  refine ⟨_, _, _, _, rfl, fun V45 l45 => (c_ref14_Same (hPb0.le (l33.trans (l34.trans (l35.trans (l36.trans (l38.trans (l39.trans (l40.trans (l41.trans (l43.trans (l44.trans (l45)))))))))))) (hXB0.le (l45)) hbb (by omega)).mono ?_⟩
  rintro r V46 l46 rfl
  rw [decide_eq_true ⟨rfl, rfl⟩]
  refine ⟨_, rfl, (fun h => by cases h), fun _ V48 l48 => (c_tree_Join (x := (0, 0, 0)) RL_zero zero_bd (hPa0.le (l33.trans (l34.trans (l35.trans (l36.trans (l38.trans (l39.trans (l40.trans (l41.trans (l43.trans (l44.trans (l45.trans (l46.trans (l48)))))))))))))) (hPb0.le (l33.trans (l34.trans (l35.trans (l36.trans (l38.trans (l39.trans (l40.trans (l41.trans (l43.trans (l44.trans (l45.trans (l46.trans (l48)))))))))))))) hba hbb (hs9.inv.le (l10.trans (l11.trans (l12.trans (l13.trans (l14.trans (l15.trans (l16.trans (l17.trans (l18.trans (l19.trans (l20.trans (l21.trans (l23.trans (l24.trans (l25.trans (l26.trans (l28.trans (l29.trans (l30.trans (l31.trans (l33.trans (l34.trans (l35.trans (l36.trans (l38.trans (l39.trans (l40.trans (l41.trans (l43.trans (l44.trans (l45.trans (l46.trans (l48)))))))))))))))))))))))))))))))))) (hs9.lim.le (l10.trans (l11.trans (l12.trans (l13.trans (l14.trans (l15.trans (l16.trans (l17.trans (l18.trans (l19.trans (l20.trans (l21.trans (l23.trans (l24.trans (l25.trans (l26.trans (l28.trans (l29.trans (l30.trans (l31.trans (l33.trans (l34.trans (l35.trans (l36.trans (l38.trans (l39.trans (l40.trans (l41.trans (l43.trans (l44.trans (l45.trans (l46.trans (l48))))))))))))))))))))))))))))))))))).mono ?_⟩
  rintro r V49 l49 ⟨o, e, rfl, hJ, -⟩
  rw [hoa, hob] at hJ
  obtain ⟨ho, he⟩ := hJ rfl
  subst ho he
  refine ⟨_, _, _, _, _, rfl, fun V50 l50 => (c_tree_Leaf code (hs9.inv.le (l10.trans (l11.trans (l12.trans (l13.trans (l14.trans (l15.trans (l16.trans (l17.trans (l18.trans (l19.trans (l20.trans (l21.trans (l23.trans (l24.trans (l25.trans (l26.trans (l28.trans (l29.trans (l30.trans (l31.trans (l33.trans (l34.trans (l35.trans (l36.trans (l38.trans (l39.trans (l40.trans (l41.trans (l43.trans (l44.trans (l45.trans (l46.trans (l48.trans (l49.trans (l50))))))))))))))))))))))))))))))))))))).mono ?_⟩
  rintro r V51 l51 ⟨o, e', rfl, hlf⟩
  have fin1 : ∀ V53 : View, V9.Le V53 → Acts prog 19 #[e, e] V53 fun r _ => r = .bool true := fun V53 _ => c_errors_Is_same hs9.yE
  by_cases hcode : code = -2 ∨ code = -1
  · rw [if_pos hcode] at hlf
    obtain ⟨rfl, rfl⟩ := hlf
    have hAT : ∀ V', ∃ i, AT V' (.agg #[.int .i64 code, .slice none 0 0]) (rt 0 (.leaf i)) (wr 0 (.leaf i)) := by
      intro V'
      rcases hcode with rfl | rfl
      · exact ⟨true, AT.leaf true⟩
      · exact ⟨false, AT.leaf false⟩
    have hlo : ∀ i, ofT (wr 0 (.leaf i)) (rt 0 (.leaf i)) = some (.leaf i) := fun i => ofT_wr trivial (by simp [Tr.size])
    refine ⟨_, _, _, _, _, rfl, e, ⟨_, rfl, hs9.inv.le (l10.trans (l11.trans (l12.trans (l13.trans (l14.trans (l15.trans (l16.trans (l17.trans (l18.trans (l19.trans (l20.trans (l21.trans (l23.trans (l24.trans (l25.trans (l26.trans (l28.trans (l29.trans (l30.trans (l31.trans (l33.trans (l34.trans (l35.trans (l36.trans (l38.trans (l39.trans (l40.trans (l41.trans (l43.trans (l44.trans (l45.trans (l46.trans (l48.trans (l49.trans (l50.trans (l51))))))))))))))))))))))))))))))))))))⟩, fun V52 l52 => (fin1 V52 (l10.trans (l11.trans (l12.trans (l13.trans (l14.trans (l15.trans (l16.trans (l17.trans (l18.trans (l19.trans (l20.trans (l21.trans (l23.trans (l24.trans (l25.trans (l26.trans (l28.trans (l29.trans (l30.trans (l31.trans (l33.trans (l34.trans (l35.trans (l36.trans (l38.trans (l39.trans (l40.trans (l41.trans (l43.trans (l44.trans (l45.trans (l46.trans (l48.trans (l49.trans (l50.trans (l51.trans (l52)))))))))))))))))))))))))))))))))))))).mono ?_⟩
    rintro r V53 l53 rfl
    have tail : ∀ V61, V53.Le V61 → Acts prog 21 #[.agg #[.int .i64 code, .slice none 0 0]] V61 fun r V' => ∃ m a b e, r = .tuple #[m, a, b, e] ∧ (∃ (b1 : Bool) (p1 : Option Addr) (n1 c1 : Nat) (b2 : Bool) (p2 : Option Addr) (n2 c2 : Nat) (b3 : Bool) (p3 : Option Addr) (n3 c3 : Nat), m = .agg #[.bool b1, .slice p1 n1 c1, .bool b2, .slice p2 n2 c2, .bool b3, .slice p3 n3 c3]) ∧
        (∃ x p n c, a = .agg #[.int .i64 x, .slice p n c]) ∧ (∃ x p n c, b = .agg #[.int .i64 x, .slice p n c]) ∧ e = w := by
      intro V61 l61
      obtain ⟨i, hi⟩ := hAT V61
      refine (c_tree_Parts hi (fun x h => by simp [wr] at h) (hs9.inv.le (l10.trans (l11.trans (l12.trans (l13.trans (l14.trans (l15.trans (l16.trans (l17.trans (l18.trans (l19.trans (l20.trans (l21.trans (l23.trans (l24.trans (l25.trans (l26.trans (l28.trans (l29.trans (l30.trans (l31.trans (l33.trans (l34.trans (l35.trans (l36.trans (l38.trans (l39.trans (l40.trans (l41.trans (l43.trans (l44.trans (l45.trans (l46.trans (l48.trans (l49.trans (l50.trans (l51.trans (l52.trans (l53.trans (l61)))))))))))))))))))))))))))))))))))))))) (hw9.le (l10.trans (l11.trans (l12.trans (l13.trans (l14.trans (l15.trans (l16.trans (l17.trans (l18.trans (l19.trans (l20.trans (l21.trans (l23.trans (l24.trans (l25.trans (l26.trans (l28.trans (l29.trans (l30.trans (l31.trans (l33.trans (l34.trans (l35.trans (l36.trans (l38.trans (l39.trans (l40.trans (l41.trans (l43.trans (l44.trans (l45.trans (l46.trans (l48.trans (l49.trans (l50.trans (l51.trans (l52.trans (l53.trans (l61))))))))))))))))))))))))))))))))))))))))).mono ?_
      rintro r V62 l62 ⟨m, a, b, e2, rfl, g1, g2, g3, -, g5, -⟩
      exact ⟨m, a, b, e2, rfl, g1, g2, g3, g5 i (hlo i)⟩
    have c1 : (code == code) = true := beq_self_eq_true _
    refine ⟨_, rfl, (fun h => by cases h), fun _ => ⟨fun _ => ⟨fun _ => ?_, fun _ V61 l61 => (tail V61 l61).mono ?_⟩, fun _ V72 l72 => (tail V72 l72).mono ?_⟩⟩
    · rename_i h1 h2
      rw [bne_iff_ne] at h1 h2
      omega
    · rintro r V62 l62 ⟨m, a, b, e2, rfl, ⟨_, _, _, _, _, _, _, _, _, _, _, _, rfl⟩, ⟨_, _, _, _, rfl⟩, ⟨_, _, _, _, rfl⟩, he⟩
      subst he
      refine ⟨_, _, _, _, _, _, _, _, _, _, _, _, _, _, _, _, _, _, _, _, _, rfl, fun V63 l63 => (c_known (hs9.le (l10.trans (l11.trans (l12.trans (l13.trans (l14.trans (l15.trans (l16.trans (l17.trans (l18.trans (l19.trans (l20.trans (l21.trans (l23.trans (l24.trans (l25.trans (l26.trans (l28.trans (l29.trans (l30.trans (l31.trans (l33.trans (l34.trans (l35.trans (l36.trans (l38.trans (l39.trans (l40.trans (l41.trans (l43.trans (l44.trans (l45.trans (l46.trans (l48.trans (l49.trans (l50.trans (l51.trans (l52.trans (l53.trans (l61.trans (l62.trans (l63))))))))))))))))))))))))))))))))))))))))))).mono ?_⟩
      rintro r V64 l64 rfl
      refine ⟨_, rfl, fun _ => ⟨nilI.1, fun _ => ⟨fun _ => ⟨fun _ => ⟨e2, ⟨_, rfl, hw9.le (l10.trans (l11.trans (l12.trans (l13.trans (l14.trans (l15.trans (l16.trans (l17.trans (l18.trans (l19.trans (l20.trans (l21.trans (l23.trans (l24.trans (l25.trans (l26.trans (l28.trans (l29.trans (l30.trans (l31.trans (l33.trans (l34.trans (l35.trans (l36.trans (l38.trans (l39.trans (l40.trans (l41.trans (l43.trans (l44.trans (l45.trans (l46.trans (l48.trans (l49.trans (l50.trans (l51.trans (l52.trans (l53.trans (l61.trans (l62.trans (l63.trans (l64))))))))))))))))))))))))))))))))))))))))))⟩, fun V65 l65 => (c_errors_Is_same hwE).mono ?_⟩, (fun h => by cases h)⟩, (fun h => by rw [c1] at h; cases h)⟩, (fun h => by rw [nilI.2] at h; cases h)⟩, (fun h => by cases h)⟩
      rintro r V66 l66 rfl
      exact ⟨_, rfl, fun V67 l67 => rfl⟩
    · rintro r V73 l73 ⟨m, a, b, e2, rfl, ⟨_, _, _, _, _, _, _, _, _, _, _, _, rfl⟩, ⟨_, _, _, _, rfl⟩, ⟨_, _, _, _, rfl⟩, he⟩
      subst he
      refine ⟨_, _, _, _, _, _, _, _, _, _, _, _, _, _, _, _, _, _, _, _, _, rfl, fun V74 l74 => (c_known (hs9.le (l10.trans (l11.trans (l12.trans (l13.trans (l14.trans (l15.trans (l16.trans (l17.trans (l18.trans (l19.trans (l20.trans (l21.trans (l23.trans (l24.trans (l25.trans (l26.trans (l28.trans (l29.trans (l30.trans (l31.trans (l33.trans (l34.trans (l35.trans (l36.trans (l38.trans (l39.trans (l40.trans (l41.trans (l43.trans (l44.trans (l45.trans (l46.trans (l48.trans (l49.trans (l50.trans (l51.trans (l52.trans (l53.trans (l72.trans (l73.trans (l74))))))))))))))))))))))))))))))))))))))))))).mono ?_⟩
      rintro r V75 l75 rfl
      refine ⟨_, rfl, fun _ => ⟨nilI.1, fun _ => ⟨fun _ => ⟨fun _ => ⟨e2, ⟨_, rfl, hw9.le (l10.trans (l11.trans (l12.trans (l13.trans (l14.trans (l15.trans (l16.trans (l17.trans (l18.trans (l19.trans (l20.trans (l21.trans (l23.trans (l24.trans (l25.trans (l26.trans (l28.trans (l29.trans (l30.trans (l31.trans (l33.trans (l34.trans (l35.trans (l36.trans (l38.trans (l39.trans (l40.trans (l41.trans (l43.trans (l44.trans (l45.trans (l46.trans (l48.trans (l49.trans (l50.trans (l51.trans (l52.trans (l53.trans (l72.trans (l73.trans (l74.trans (l75))))))))))))))))))))))))))))))))))))))))))⟩, fun V76 l76 => (c_errors_Is_same hwE).mono ?_⟩, (fun h => by cases h)⟩, (fun h => by rw [c1] at h; cases h)⟩, (fun h => by rw [nilI.2] at h; cases h)⟩, (fun h => by cases h)⟩
      rintro r V77 l77 rfl
      exact ⟨_, rfl, fun V78 l78 => rfl⟩
  · rw [if_neg hcode] at hlf
    obtain ⟨rfl, he'⟩ := hlf
    subst he'
    refine ⟨_, _, _, _, _, rfl, e', ⟨_, rfl, hs9.inv.le (l10.trans (l11.trans (l12.trans (l13.trans (l14.trans (l15.trans (l16.trans (l17.trans (l18.trans (l19.trans (l20.trans (l21.trans (l23.trans (l24.trans (l25.trans (l26.trans (l28.trans (l29.trans (l30.trans (l31.trans (l33.trans (l34.trans (l35.trans (l36.trans (l38.trans (l39.trans (l40.trans (l41.trans (l43.trans (l44.trans (l45.trans (l46.trans (l48.trans (l49.trans (l50.trans (l51))))))))))))))))))))))))))))))))))))⟩, fun V52 l52 => (fin1 V52 (l10.trans (l11.trans (l12.trans (l13.trans (l14.trans (l15.trans (l16.trans (l17.trans (l18.trans (l19.trans (l20.trans (l21.trans (l23.trans (l24.trans (l25.trans (l26.trans (l28.trans (l29.trans (l30.trans (l31.trans (l33.trans (l34.trans (l35.trans (l36.trans (l38.trans (l39.trans (l40.trans (l41.trans (l43.trans (l44.trans (l45.trans (l46.trans (l48.trans (l49.trans (l50.trans (l51.trans (l52)))))))))))))))))))))))))))))))))))))).mono ?_⟩
    rintro r V53 l53 rfl
    refine ⟨_, rfl, (fun h => by cases h), fun _ => ⟨fun _ => ⟨fun _ V55 l55 => (c_known (hs9.le (l10.trans (l11.trans (l12.trans (l13.trans (l14.trans (l15.trans (l16.trans (l17.trans (l18.trans (l19.trans (l20.trans (l21.trans (l23.trans (l24.trans (l25.trans (l26.trans (l28.trans (l29.trans (l30.trans (l31.trans (l33.trans (l34.trans (l35.trans (l36.trans (l38.trans (l39.trans (l40.trans (l41.trans (l43.trans (l44.trans (l45.trans (l46.trans (l48.trans (l49.trans (l50.trans (l51.trans (l52.trans (l53.trans (l55))))))))))))))))))))))))))))))))))))))))).mono ?_, fun h => ?_⟩, fun h => ?_⟩⟩
    · rintro r V56 l56 rfl
      refine ⟨_, rfl, fun _ => ⟨e', ⟨_, rfl, hs9.inv.le (l10.trans (l11.trans (l12.trans (l13.trans (l14.trans (l15.trans (l16.trans (l17.trans (l18.trans (l19.trans (l20.trans (l21.trans (l23.trans (l24.trans (l25.trans (l26.trans (l28.trans (l29.trans (l30.trans (l31.trans (l33.trans (l34.trans (l35.trans (l36.trans (l38.trans (l39.trans (l40.trans (l41.trans (l43.trans (l44.trans (l45.trans (l46.trans (l48.trans (l49.trans (l50.trans (l51.trans (l52.trans (l53.trans (l55.trans (l56))))))))))))))))))))))))))))))))))))))))⟩, fun V57 l57 => (fin1 V57 (l10.trans (l11.trans (l12.trans (l13.trans (l14.trans (l15.trans (l16.trans (l17.trans (l18.trans (l19.trans (l20.trans (l21.trans (l23.trans (l24.trans (l25.trans (l26.trans (l28.trans (l29.trans (l30.trans (l31.trans (l33.trans (l34.trans (l35.trans (l36.trans (l38.trans (l39.trans (l40.trans (l41.trans (l43.trans (l44.trans (l45.trans (l46.trans (l48.trans (l49.trans (l50.trans (l51.trans (l52.trans (l53.trans (l55.trans (l56.trans (l57)))))))))))))))))))))))))))))))))))))))))).mono ?_⟩, (fun h => by cases h)⟩
      rintro r V58 l58 rfl
      exact ⟨_, rfl, fun V59 l59 => rfl⟩
    · rw [bne_eq_false_iff_eq] at h
      exact absurd (.inr h) hcode
    · rw [bne_eq_false_iff_eq] at h
      exact absurd (.inl h) hcode
end Go.Proofs.Tryz
