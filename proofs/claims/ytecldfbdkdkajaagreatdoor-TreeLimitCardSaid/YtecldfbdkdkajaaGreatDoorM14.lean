/- A part of the proof (joined by program from: EndA, LawB). -/
import Derived.Test.YtecldfbdkdkajaaGreatDoorM13
import Derived.Test.YtecldfbdkdkajaaGreatDoorCards
import Derived.Test.YtecldfbdkdkajaaGreatDoorTie
import Derived.WalkKit
import Derived.ProofKit
import Derived.OpenShut
import Derived.Deep.DeepHandedRow
import Derived.LaidLaws
import Derived.Lay
set_option linter.unusedVariables false
/- What the rows' lists give (the sentinels), and how a contract over views closes a law's step. -/
namespace Go.Proofs.YtecldfbdkdkajaaGreatDoor
open Go.ChangeShapes Go.WideShapes Go.ChangeAt Go.RowKit Go.Eng

theorem own : ownKnob Tryz.prog.godebug = none := by kernel_rfl
theorem star : "*" ++ "errors.errorString" = "*errors.errorString" := by decide
theorem rowE (u : TypeId) (h : Tryz.prog.typeName? 3 u = some "*errors.errorString") : u = 204 :=
  typeName_ptr_named (nm := "errors.errorString") (by rw [star]; kernel_rfl) (by kernel_rfl) (by decide) u (by rw [star]; exact h)
theorem cellsE : Tryz.prog.cellsOf 228 = 1 := by kernel_rfl
theorem cellsS : Tryz.prog.cellsOf 9 = 1 := by kernel_rfl

theorem row0 (g : Nat) : MemPlace.cell g 0 ∈ MemPlace.row ⟨g, 0, none⟩ 1 := by simp [MemPlace.row]
theorem cell0 {P : Program} {W : World} {name : String} {g : Nat} {v : Value} (hg : P.globalNamed name = some g) (h : W.var? P name = some #[v]) : W.cell? ⟨g, 0, none⟩ = some v := by simpa using World.var?_cell hg h 0
set_option maxRecDepth 100000 in
/-- What a list gives of a sentinel on it. -/
theorem sent_of_laid {W : World} {l : List (String × DataW Unit)} {name : String} {text : List UInt8} {g : Nat} (hg : Tryz.prog.globalNamed name = some g) (hty : (Tryz.prog.globals[g]?).map (·.type) = some 33)
    (hm : (name, .iface "*errors.errorString" (.ptr (.agg [.lit (.string text)]))) ∈ l) (h : laidMet Tryz.prog l W) :
    ∃ a, W.cell? ⟨g, 0, none⟩ = some (.iface 204 (.pointer (some a))) := by
  obtain ⟨ps, hv, -, hrows⟩ := h
  induction l generalizing ps with
  | nil => cases hm
  | cons x r ih =>
    obtain ⟨n, d⟩ := x
    obtain ⟨g', t, cs, fuel, p, q, hg', ht', hvar, hd, hr, rfl⟩ := hv
    rcases List.mem_cons.1 hm with e | hm
    · cases e
      obtain rfl := Option.some.inj (hg.symm.trans hg')
      obtain rfl := Option.some.inj (hty.symm.trans ht')
      obtain ⟨l0⟩ := cs
      have ok0 : ∀ u v, l0 = [.iface u v] → Value.okWide Tryz.prog W .any 0 u v := fun u v e => by
        subst e
        exact (hrows g 0 (List.mem_append_left _ (List.mem_append_left _ (row0 g)))).2 u v (cell0 hg hvar)
      obtain ⟨a, s, rfl, -⟩ := errorString_of_trod Tryz.underlying33 rowE Tryz.underlying204 Tryz.underlying228 rfl rfl Tryz.underlying9 cellsE cellsS hd ok0
      exact ⟨a, cell0 hg hvar⟩
    · exact ih hm q hr fun b off hb => hrows b off (List.mem_append_right _ hb)

/-- A world, seen whole. -/
def View.all (W : World) : View := ⟨W, fun _ => False, fun _ => False, fun _ h => h.elim, fun _ h => h⟩
theorem sent_all {W : World} {g : Nat} {y : Value} (h : W.cell? ⟨g, 0, none⟩ = some y) : Tryz.Sent (View.all W) g y := ⟨fun h => h, h⟩

theorem kept_of_ext {w w' : World} (h : ExtX (fun _ => False) w w') (may : MemPlace → Prop) : w.keptBut w' may := by
  refine ⟨h.os, h.out, fun i hi => ?_⟩
  rw [h.blk i hi (fun h => h)]
  cases w.heap[i]? with
  | none => rfl
  | some o => cases o <;> simp
theorem calls_of_acts {f : FuncId} {args : Array Value} {W : World} {R : Value → Prop} (h : Acts Tryz.prog f args (View.all W) fun r _ => R r) : Calls Tryz.prog f args W fun e w' => ∃ r, e = .returned r ∧ R r ∧ ExtX (fun _ => False) W w' :=
  h.2.mono fun e w' ⟨r, he, hx, hr⟩ => ⟨r, he, hr, hx⟩
/-- A law's end: true, the arguments read as they did; the row does not say 'again'. -/
theorem post_law {H : Type} {enc : TypeId × Value → H} {f : Func} {s : ChangeSpec} {W W' : World} {args : Array Value} {v : Value} {ds gs : List (DataW H)} {before pa pv : List MemPlace} {fresh handsOn : Bool}
    (hW : DataW.Whole enc Tryz.prog f.params.toList s.vars false W args.toList ds gs before) (hx : ExtX (fun _ => False) W W')
    (hres : ∀ (b : Nat) (sp : Nat → Bool) (hd : Bool), DataW.TrodAll enc Tryz.prog W' b sp hd f.resultTypes.toList (v.resultList f.resultTypes.size) (s.fn H (ds ++ gs)).results [])
    (hargs : ∀ sp : Nat → Bool, (∀ p ∈ before, sp p.block = true) → DataW.TrodAll enc Tryz.prog W' 0 sp true f.params.toList args.toList (s.fn H (ds ++ gs)).args pa)
    (hvars : ∀ sp : Nat → Bool, (∀ p ∈ before, sp p.block = true) → DataW.TrodVars enc Tryz.prog W' sp s.vars (s.fn H (ds ++ gs)).vars pv)
    (hps : before = pa ++ pv) : s.post enc Tryz.prog f false fresh handsOn false W args v W' := by
  have hb : ∀ p ∈ before, (fun b => decide (b < W.heap.size)) p.block = true := fun p hp => decide_eq_true (hW.lt p hp)
  exact ⟨ds, gs, before, [], pa, pv, hW, hres _ _ _, hargs _ hb, hvars _ hb, kept_of_ext hx _, fun h => nomatch h⟩
end Go.Proofs.YtecldfbdkdkajaaGreatDoor
/- The law TreeLimit. -/
namespace Go.Proofs.Tryz
open Go.Eng Go.Big

theorem zrow_len8 (m : Nat) (a b c d e f g h : Value) : (zrow m [a, b, c, d, e, f, g, h]).length = m * 8 := by
  rw [zrow_eq, List.length_flatten, List.map_replicate, List.sum_replicate_nat]; rfl
theorem NR.nil {V : View} {vs : List Value} : NR V vs [] := fun i d h => by simp at h
theorem cast_toNat (n : Nat) : ((n : Int)).toNat = n := Int.toNat_natCast n

theorem c_law14_TreeLimit {V : View} {y z : Value} (hs : Snt V y z) (more : Int) (h0 : 0 ≤ more) : Acts prog 4 #[.int .u8 more] V fun r V' => r = .bool true := by
  refine vc_law14_TreeLimit more V _ ⟨fun g V1 l1 => (c_known (hs.le l1)).mono ?_, fun g => ?_⟩
  · rintro r V2 l2 rfl
    exact ⟨_, rfl, fun V3 l3 => rfl⟩
  have g : more < 24 := by simpa using g
  obtain ⟨N, hN, hN1, hN2⟩ : ∃ N : Nat, IntKind.i64.wrap (65532 + IntKind.i64.wrap (more.tmod 8)) = (N : Int) ∧ 65532 ≤ N ∧ N ≤ 65539 := by
    have e : more.tmod 8 = more % 8 := Int.tmod_eq_emod_of_nonneg h0
    rw [e, i64w (x := more % 8) (by omega), i64w (by omega)]
    exact ⟨(65532 + more % 8).toNat, by omega, by omega, by omega⟩
  clear g
  rw [hN]
  rw [cast_toNat]
  intro V4 l4
  refine (c_ref04_Xy 0 0 (by omega) (by omega) (by omega) (by omega)).mono ?_
  rintro r V5 l5 hp
  have hp0 := hp
  obtain ⟨p1, n1, c1, p2, n2, c2, p3, n3, c3, p4, n4, c4, rfl, -⟩ := hp
  refine ⟨_, _, _, _, _, _, _, _, _, _, _, _, _, _, rfl, fun V6 l6 => (c_ref04_Xy 1 0 (by omega) (by omega) (by omega) (by omega)).mono ?_⟩
  rintro r V7 l7 hq
  have hq0 := hq
  obtain ⟨q1, m1, d1, q2, m2, d2, q3, m3, d3, q4, m4, d4, rfl, -⟩ := hq
  refine ⟨_, _, _, _, _, _, _, _, _, _, _, _, _, _, rfl, fun V8 l8 => (c_through_LL (hp0.le (l6.trans (l7.trans l8))) (hq0.le l8)).mono ?_⟩
  rintro r V9 l9 ⟨l, rfl, hl⟩
  have l09 := l4.trans (l5.trans (l6.trans (l7.trans (l8.trans l9))))
  obtain ⟨b1, u1, v1, w1, b2, u2, v2, w2, b3, u3, v3, w3, rfl⟩ := RL_shape hl
  have hnB : (N : Int) ≤ 65539 := by omega
  have hnA : (65532 : Int) ≤ N := by omega
  have hNm : IntKind.i64.wrap ((N : Int) - 1) = ((N - 1 : Nat) : Int) := by rw [i64w (by omega)]; omega
  rw [hNm, cast_toNat]
  obtain ⟨t1, t2, t3⟩ := LL_bd.digs
  refine ⟨_, _, _, _, _, _, _, _, _, _, _, _, _, rfl, by omega, by omega, Int.le_refl _, by omega, ?_⟩
  refine ⟨fun (z : Int × List Value) V' => ∃ i : Nat, z.1 = i ∧ i ≤ N ∧ z.2.length = N * 8 ∧ NR V' z.2 (chn i), fun z => (N - z.1).toNat, ⟨(0, zrow N [.bool false, .slice none 0 0, .bool false, .slice none 0 0, .bool false, .slice none 0 0, .int .i64 0, .int .i64 0]), by (try dsimp only); and_intros <;> trivial, 0, rfl, by omega, zrow_len8 _ _ _ _ _ _ _ _ _, NR.nil⟩, ?_⟩
  rintro ⟨_, vs⟩ V10 l10 ⟨i, rfl, hi, hlen, hr⟩
  dsimp only at hlen hr ⊢
  refine ⟨rfl, fun g V11 l11 => (c_ref04_ToL (hl.le (l10.trans l11)) (by omega) (by omega) (by omega)).mono ?_, fun g => ?_⟩
  · have g : i < N := by have := of_decide_eq_true g; omega
    rintro r V12 l12 hm
    have hm0 := hm
    obtain ⟨b1, u1, v1, w1, b2, u2, v2, w2, b3, u3, v3, w3, rfl⟩ := RL_shape hm
    have hi1 : IntKind.i64.wrap ((i : Int) + 1) = ((i + 1 : Nat) : Int) := by rw [i64w (by omega)]; omega
    rw [hi1, cast_toNat]
    refine ⟨_, _, _, _, _, _, _, _, _, _, _, _, rfl, ⟨by omega, by omega⟩, by omega, ⟨(((i + 1 : Nat) : Int), setVals vs (0 + i * 8) [.bool b1, .slice u1 v1 w1, .bool b2, .slice u2 v2 w2, .bool b3, .slice u3 v3 w3, .int .i64 (-2), .int .i64 ((i + 1 : Nat) : Int)]), by dsimp only; omega, by (try dsimp only); and_intros <;> trivial, i + 1, rfl, by omega, ?_, ?_⟩⟩
    · dsimp only
      rw [setVals_eq (by simp only [List.length_cons, List.length_nil]; omega)]
      simp only [List.length_append, List.length_take, List.length_drop, List.length_cons, List.length_nil]
      omega
    · dsimp only
      rw [setVals_eq (by simp only [List.length_cons, List.length_nil]; omega), chn_succ]
      have hc := (hr.le (l11.trans l12)).push (by rw [chn_len]; omega) (ln := LL) (x := -2) (y := ((i + 1 : Nat) : Int)) (sp := vs.drop (0 + i * 8 + 8)) hm0
      rw [chn_len] at hc
      rw [Nat.zero_add] at hc ⊢
      exact hc
  · have g : i = N := by have := of_decide_eq_false g; omega
    subst g
    have hlt : 0 < i := by omega
    have hget : (chn i)[i - 1]? = some ⟨LL, -2, ((i : Nat) : Int)⟩ := by
      unfold chn
      rw [List.getElem?_map, List.getElem?_range (by omega), Option.map_some, Nat.sub_add_cancel hlt]
    have h7 := hr.set7 hget (x := -1)
    rw [← wr_ch0 hlt] at h7
    have hlw : (wr 0 (ch i)).length = i := by rw [wr_length, ch_size]
    have hbk : ∀ {V' : View} {b : Nat} {ty : TypeId}, V10.Le V' → V'.blk b (.cells (vs.set (0 + (i - 1) * 8 + 7) (.int .i64 (-1))).toArray ty (0, 0)) → AT V' (.agg #[.int .i64 0, .slice (some ⟨b, 0, none⟩) i i]) (rt 0 (ch i)) (wr 0 (ch i)) := by
      intro V' b ty hl hb
      rw [Nat.zero_add] at hb
      have := NS.ofBlk (c := i) hb (by omega) (h7.le hl)
      rw [hlw] at this
      refine ⟨_, _, _, ?_, this⟩
      obtain ⟨k, rfl⟩ : ∃ k, i = k + 1 := ⟨i - 1, by omega⟩
      rfl
    have hall : ∀ x ∈ wr 0 (ch i), Bd x.ln := lines_wr (ch_all LL_bd i)
    refine ⟨⟨by omega, by omega⟩, by omega, fun g V13 l13 => (c_known (hs.le (l09.trans (l10.trans l13)))).mono ?_, fun g V19 l19 bk hb J => ?_⟩
    · have g : 65536 < i := by have := of_decide_eq_true g; omega
      rintro r V14 l14 rfl
      refine ⟨_, rfl, fun _ V15 l15 bk hb => (c_tree_Valid hall (hbk (l13.trans (l14.trans l15)) hb)).mono ?_, (fun h => by cases h)⟩
      rintro r V16 l16 rfl
      refine ⟨_, rfl, fun J V17 l17 => ?_⟩
      have : ofT (wr 0 (ch i)) (rt 0 (ch i)) = none := by
        unfold ofT
        rw [if_pos (by rw [hlw]; omega)]
      rw [this]
      rfl
    · have g : ¬ 65536 < i := by have := of_decide_eq_false g; omega
      have hat := hbk l19 hb
      have hof : ofT (wr 0 (ch i)) (rt 0 (ch i)) = some (ch i) := ofT_wr (ch_all LL_ok i) (by rw [ch_size]; omega)
      have ho1 : ofT (wr 0 (.leaf true)) (rt 0 (.leaf true)) = some (.leaf true) := ofT_wr trivial (by simp [Tr.size])
      have l019 := l09.trans (l10.trans l19)
      intro V20 l20
      refine (c_ref04_ToL (hl.le (l10.trans (l19.trans l20))) (by omega) (by omega) (by omega)).mono ?_
      rintro r V21 l21 hm
      have hm0 := hm
      obtain ⟨b1, u1, v1, w1, b2, u2, v2, w2, b3, u3, v3, w3, rfl⟩ := RL_shape hm
      have l021 := l019.trans (l20.trans l21)
      refine ⟨_, _, _, _, _, _, _, _, _, _, _, _, rfl, fun V22 l22 => (c_tree_Join (x := LL) (hm0.le l22) LL_bd (hat.le (l20.trans (l21.trans l22))) (AT.leaf true) hall (fun x h => by simp [wr] at h) (hs.inv.le (l021.trans l22)) (hs.lim.le (l021.trans l22))).mono ?_⟩
      rintro r V23 l23 ⟨o, e, rfl, -, ho⟩
      rw [hof, ho1] at ho
      have ho := ho (.node LL (ch i) (.leaf true)) (by unfold joinT; rw [LL_ok]; rfl)
      have l023 := l021.trans (l22.trans l23)
      have hsz : (Tr.node LL (ch i) (.leaf true)).size = i + 1 := by simp [Tr.size, ch_size]; try omega
      rw [hsz] at ho
      have hcase : (i = 65536 ∧ e = z) ∨ (i ≠ 65536 ∧ e = .nilIface) := by
        by_cases h : 65536 < i + 1
        · rw [if_pos h] at ho; exact .inl ⟨by omega, ho.2⟩
        · rw [if_neg h] at ho; exact .inr ⟨by omega, ho.2⟩
      have hoS : ∃ x p n c, o = .agg #[.int .i64 x, .slice p n c] := by
        split at ho
        · exact ⟨_, _, _, _, ho.1⟩
        · obtain ⟨⟨p, n, c, rfl, -⟩, -⟩ := ho; exact ⟨_, _, _, _, rfl⟩
      obtain ⟨ox, op, on, oc, rfl⟩ := hoS
      clear ho
      refine ⟨_, _, _, _, _, rfl, fun V24 l24 => (c_known (hs.le (l023.trans l24))).mono ?_⟩
      rintro r V25 l25 rfl
      refine ⟨_, rfl, fun _ V26 l26 => (c_tree_Valid hall (hat.le (l20.trans (l21.trans (l22.trans (l23.trans (l24.trans (l25.trans l26)))))))).mono ?_, (fun h => by cases h)⟩
      rintro r V27 l27 rfl
      rw [hof]
      have l027 := l023.trans (l24.trans (l25.trans (l26.trans l27)))
      refine ⟨_, rfl, fun _ => ⟨z, ⟨_, rfl, hs.lim.le l027⟩, fun V28 l28 => ?_⟩, (fun h => by cases h)⟩
      rcases hcase with ⟨hi', rfl⟩ | ⟨hi', rfl⟩
      · refine (c_errors_Is_same hs.zE).mono ?_
        rintro r V29 l29 rfl
        have e1 : (((i : Nat) : Int) == 65536) = true := by rw [beq_iff_eq]; omega
        rw [e1]
        exact ⟨_, rfl, fun _ => ⟨fun _ V30 l30 => rfl, (fun h => by cases h)⟩, (fun h => by cases h)⟩
      · refine (c_errors_Is_nil hs.zE).mono ?_
        rintro r V29 l29 rfl
        have e1 : (((i : Nat) : Int) == 65536) = false := by rw [beq_eq_false_iff_ne]; omega
        rw [e1]
        exact ⟨_, rfl, fun _ => ⟨(fun h => by cases h), fun _ => ⟨nilI.1, fun V31 l31 => by rw [nilI.2]⟩⟩, (fun h => by cases h)⟩
end Go.Proofs.Tryz
