/- A part of the proof (joined by program from: TreeC, TreeD, ErrA, VTree, TreeE, RefD, VLaw14, LawA). -/
import Derived.Test.YtecldfbdkdkajaaGreatDoorM12
import Derived.WalkKit
import Derived.LaidEql
import Derived.Stop.Asserts
import Derived.RowKitTokens
import Derived.Test.YtecldfbdkdkajaaGreatDoorM5
import Derived.Test.YtecldfbdkdkajaaGreatDoorM11
set_option linter.unusedVariables false
/- Contracts: how package bsp writes a tree. -/
namespace Go.Proofs.Tryz
open Go.Eng Go.Big

theorem hideG_le {V : View} {P : Prop} {b : Nat} : (V.hideG P b).Le V := fun x o h => ⟨fun hh => h.1 (.inl hh), h.2⟩
theorem Acts.monoH {f : FuncId} {args : Array Value} {V : View} {R R' : Value → View → Prop} (h : Acts prog f args V R) (hR : ∀ r V', V.Le V' → (∀ b, V'.H b → V.H b) → R r V' → R' r V') : Acts prog f args V R' :=
  ⟨h.1, h.2.mono fun _ w' ⟨r, he, hx, hr⟩ => ⟨r, he, hx, hR r _ (V.le_to w' hx) (fun _ hb => hb) hr⟩⟩
theorem vb_ne {vs : List Value} {n b : Nat} (h : vs ≠ []) : vb vs n b = b := by cases vs with | nil => exact absurd rfl h | cons v r => rfl
theorem NR.push {V : View} {vs sp : List Value} {l : List Nd} (h : NR V vs l) (hl : l.length * 8 ≤ vs.length) {ln : L3} {x y : Int} {b1 : Bool} {p1 : Option Addr} {n1 c1 : Nat} {b2 : Bool} {p2 : Option Addr} {n2 c2 : Nat} {b3 : Bool} {p3 : Option Addr} {n3 c3 : Nat}
    (hL : RL V (.agg #[.bool b1, .slice p1 n1 c1, .bool b2, .slice p2 n2 c2, .bool b3, .slice p3 n3 c3]) ln.1 ln.2.1 ln.2.2) :
    NR V (vs.take (l.length * 8) ++ [.bool b1, .slice p1 n1 c1, .bool b2, .slice p2 n2 c2, .bool b3, .slice p3 n3 c3, .int .i64 x, .int .i64 y] ++ sp) (l ++ [⟨ln, x, y⟩]) := by
  intro i d hd
  rcases Nat.lt_or_ge i l.length with hi | hi
  · rw [List.getElem?_append_left hi] at hd
    obtain ⟨b1', p1', n1', c1', b2', p2', n2', c2', b3', p3', n3', c3', h1, h2⟩ := h i d hd
    refine ⟨b1', p1', n1', c1', b2', p2', n2', c2', b3', p3', n3', c3', fun j v hv => ?_, h2⟩
    have hj : j < 8 := by
      rcases Nat.lt_or_ge j 8 with hj | hj
      · exact hj
      · rw [List.getElem?_eq_none (by simpa using hj)] at hv; cases hv
    have := h1 j v hv
    rw [List.append_assoc, List.getElem?_append_left (by rw [List.length_take]; omega), List.getElem?_take, if_pos (by omega)]
    exact this
  · rw [List.getElem?_append_right hi] at hd
    have hi' : i = l.length := by
      rcases Nat.lt_or_ge (i - l.length) 1 with h' | h'
      · omega
      · rw [List.getElem?_eq_none (by simpa using h')] at hd; cases hd
    subst hi'
    simp only [Nat.sub_self, List.getElem?_cons_zero, Option.some.injEq] at hd
    subst hd
    refine ⟨b1, p1, n1, c1, b2, p2, n2, c2, b3, p3, n3, c3, fun j v hv => ?_, hL⟩
    have hj : j < 8 := by
      rcases Nat.lt_or_ge j 8 with hj | hj
      · exact hj
      · rw [List.getElem?_eq_none (by simpa using hj)] at hv; cases hv
    rw [List.append_assoc, List.getElem?_append_right (by rw [List.length_take]; omega), List.length_take, Nat.min_eq_left hl, Nat.add_sub_cancel_left, List.getElem?_append_left (by simpa using hj)]
    exact hv
theorem NR.set6 {V : View} {vs : List Value} {l : List Nd} (h : NR V vs l) {k : Nat} {d : Nd} (hd : l[k]? = some d) {x : Int} : NR V (vs.set (k * 8 + 6) (.int .i64 x)) (l.set k ⟨d.ln, x, d.right⟩) := by
  intro i d' hd'
  rw [List.getElem?_set] at hd'
  split at hd'
  · rename_i e
    subst e
    split at hd'
    · cases hd'
      obtain ⟨b1, p1, n1, c1, b2, p2, n2, c2, b3, p3, n3, c3, h1, h2⟩ := h k d hd
      refine ⟨b1, p1, n1, c1, b2, p2, n2, c2, b3, p3, n3, c3, fun j v hv => ?_, h2⟩
      rw [List.getElem?_set]
      by_cases hj : j = 6
      · subst hj
        have := h1 6 _ rfl
        have hlt : k * 8 + 6 < vs.length := by
          rcases Nat.lt_or_ge (k * 8 + 6) vs.length with h | h
          · exact h
          · rw [List.getElem?_eq_none h] at this; cases this
        rw [if_pos rfl, if_pos hlt]
        exact hv
      · rw [if_neg (by omega)]
        refine h1 j v ?_
        match j, hj, hv with
        | 0, _, hv => exact hv
        | 1, _, hv => exact hv
        | 2, _, hv => exact hv
        | 3, _, hv => exact hv
        | 4, _, hv => exact hv
        | 5, _, hv => exact hv
        | 6, hj, _ => exact absurd rfl hj
        | 7, _, hv => exact hv
        | n + 8, _, hv => exact hv
    · cases hd'
  · rename_i e
    obtain ⟨b1, p1, n1, c1, b2, p2, n2, c2, b3, p3, n3, c3, h1, h2⟩ := h i d' hd'
    refine ⟨b1, p1, n1, c1, b2, p2, n2, c2, b3, p3, n3, c3, fun j v hv => ?_, h2⟩
    have hj : j < 8 := by
      rcases Nat.lt_or_ge j 8 with hj | hj
      · exact hj
      · rw [List.getElem?_eq_none (by simpa using hj)] at hv; cases hv
    rw [List.getElem?_set_ne (by omega)]
    exact h1 j v hv
theorem NR.set7 {V : View} {vs : List Value} {l : List Nd} (h : NR V vs l) {k : Nat} {d : Nd} (hd : l[k]? = some d) {x : Int} : NR V (vs.set (k * 8 + 7) (.int .i64 x)) (l.set k ⟨d.ln, d.left, x⟩) := by
  intro i d' hd'
  rw [List.getElem?_set] at hd'
  split at hd'
  · rename_i e
    subst e
    split at hd'
    · cases hd'
      obtain ⟨b1, p1, n1, c1, b2, p2, n2, c2, b3, p3, n3, c3, h1, h2⟩ := h k d hd
      refine ⟨b1, p1, n1, c1, b2, p2, n2, c2, b3, p3, n3, c3, fun j v hv => ?_, h2⟩
      rw [List.getElem?_set]
      by_cases hj : j = 7
      · subst hj
        have := h1 7 _ rfl
        have hlt : k * 8 + 7 < vs.length := by
          rcases Nat.lt_or_ge (k * 8 + 7) vs.length with h | h
          · exact h
          · rw [List.getElem?_eq_none h] at this; cases this
        rw [if_pos rfl, if_pos hlt]
        exact hv
      · rw [if_neg (by omega)]
        refine h1 j v ?_
        match j, hj, hv with
        | 0, _, hv => exact hv
        | 1, _, hv => exact hv
        | 2, _, hv => exact hv
        | 3, _, hv => exact hv
        | 4, _, hv => exact hv
        | 5, _, hv => exact hv
        | 6, _, hv => exact hv
        | 7, hj, _ => exact absurd rfl hj
        | n + 8, _, hv => exact hv
    · cases hd'
  · rename_i e
    obtain ⟨b1, p1, n1, c1, b2, p2, n2, c2, b3, p3, n3, c3, h1, h2⟩ := h i d' hd'
    refine ⟨b1, p1, n1, c1, b2, p2, n2, c2, b3, p3, n3, c3, fun j v hv => ?_, h2⟩
    have hj : j < 8 := by
      rcases Nat.lt_or_ge j 8 with hj | hj
      · exact hj
      · rw [List.getElem?_eq_none (by simpa using hj)] at hv; cases hv
    rw [List.getElem?_set_ne (by omega)]
    exact h1 j v hv
/-- The two numbers of a node are put in. -/
theorem NR.kids {V : View} {vs : List Value} {l r : List Nd} {ln : L3} {u v x y : Int} (h : NR V vs (l ++ ⟨ln, u, v⟩ :: r)) : NR V ((vs.set (l.length * 8 + 6) (.int .i64 x)).set (l.length * 8 + 7) (.int .i64 y)) (l ++ ⟨ln, x, y⟩ :: r) := by
  have e1 : (l ++ (⟨ln, u, v⟩ : Nd) :: r)[l.length]? = some ⟨ln, u, v⟩ := by simp
  have h1 := h.set6 e1 (x := x)
  have e2 : (l ++ (⟨ln, u, v⟩ : Nd) :: r).set l.length ⟨ln, x, v⟩ = l ++ ⟨ln, x, v⟩ :: r := by simp
  rw [e2] at h1
  have e3 : (l ++ (⟨ln, x, v⟩ : Nd) :: r)[l.length]? = some ⟨ln, x, v⟩ := by simp
  have h2 := h1.set7 e3 (x := y)
  have e4 : (l ++ (⟨ln, x, v⟩ : Nd) :: r).set l.length ⟨ln, x, y⟩ = l ++ ⟨ln, x, y⟩ :: r := by simp
  rw [e4] at h2
  exact h2

theorem NR.take {V : View} {vs : List Value} {l : List Nd} (h : NR V vs l) : NR V (vs.take (l.length * 8)) l := by
  intro i d hd
  obtain ⟨b1, p1, n1, c1, b2, p2, n2, c2, b3, p3, n3, c3, h1, h2⟩ := h i d hd
  refine ⟨b1, p1, n1, c1, b2, p2, n2, c2, b3, p3, n3, c3, fun j v hv => ?_, h2⟩
  have hj : j < 8 := by
    rcases Nat.lt_or_ge j 8 with hj | hj
    · exact hj
    · rw [List.getElem?_eq_none (by simpa using hj)] at hv; cases hv
  have hi : i < l.length := by
    rcases Nat.lt_or_ge i l.length with h | h
    · exact h
    · rw [List.getElem?_eq_none h] at hd; cases hd
  rw [List.getElem?_take, if_pos (by omega)]
  exact h1 j v hv
/-- A moved row that is seen now. -/
theorem NS.ofRow {V : View} {b c : Nat} {vm : List Value} {l : List Nd} {ty : TypeId} (hb : vm ≠ [] → V.blk b (.cells vm.toArray ty (0, 0))) (hc : l.length ≤ c) (hr : NR V vm l) : NS V (mA b c) l.length c l := by
  refine ⟨rfl, hc, ⟨_, ?_, hr.take⟩, ?_⟩
  · intro i v hv
    rw [List.getElem?_take] at hv
    split at hv
    · rename_i hi
      have hne : vm ≠ [] := fun e => by rw [e] at hv; simp at hv
      refine ⟨⟨b, 0, none⟩, by unfold mA; rw [if_neg (by omega)], ?_⟩
      rw [add_zero']
      exact blk_at (hb hne) hv
    · cases hv
  · intro e
    unfold mA at e
    split at e
    · assumption
    · cases e
theorem c_bsp_API1 : ∀ (t : Tr) {V : View} {p : Option Addr} {ob nb wb : Nat} {root : Int} {n c : Nat} {vs : List Value} {l : List Nd}, RT V p t → t.All Bd → n = l.length →
    V.w.heap[ob]? = some (.cells #[.int .i64 root, .slice (mA nb c) n c] 27 (0, 0)) → V.X ob →
    V.w.heap[wb]? = some (.cells #[.func (.func 53) #[] #[.pointer (some ⟨ob, 0, none⟩), .pointer (some ⟨wb, 0, none⟩)]] 117 (0, 0)) → V.X wb →
    (vs ≠ [] → V.w.heap[nb]? = some (.cells vs.toArray 60 (0, 0))) → (vs ≠ [] → V.X nb) → ob ≠ wb → (vs ≠ [] → ob ≠ nb) → (vs ≠ [] → wb ≠ nb) → n ≤ c → c * 8 ≤ vs.length → NR V vs l → n + t.size ≤ 1000000 →
    Acts prog 53 #[.pointer p, .pointer (some ⟨ob, 0, none⟩), .pointer (some ⟨wb, 0, none⟩)] V fun r V' => ∃ (bm : Nat) (vm : List Value) (c' : Nat), (vm ≠ [] → V'.w.heap[bm]? = some (.cells vm.toArray 60 (0, 0))) ∧ (vm ≠ [] → V.w.heap.size ≤ bm ∨ (vs ≠ [] ∧ bm = nb)) ∧
      r = .int .i64 (rt n t) ∧ V'.w.heap[ob]? = some (.cells #[.int .i64 root, .slice (mA bm c') (n + t.size) c'] 27 (0, 0)) ∧
      V'.w.heap[wb]? = some (.cells #[.func (.func 53) #[] #[.pointer (some ⟨ob, 0, none⟩), .pointer (some ⟨wb, 0, none⟩)]] 117 (0, 0)) ∧
      n + t.size ≤ c' ∧ c' * 8 ≤ vm.length ∧ NR (V'.hideG (vm ≠ []) bm) vm (l ++ wr n t) := by
  intro t
  induction t with
  | leaf i =>
    intro V p ob nb wb root n c vs l hp _ hn ho hxo hw hxw hv hxv h1 h2 h3 hnc hcv hnr hsz
    refine vc_bsp_T_API_1 p ob nb wb root n c vs V _ ho hxo hw hxw hv hxv h1 h2 h3 fun V1 l1 => (c_bsp_IsLeaf (hp.le l1)).mono ?_
    rintro r V2 l2 rfl
    obtain ⟨b, c0, c1, c2, c3, c4, c5, c6, c7, c8, q, rfl, hb⟩ := hp
    have hb2 := (l1.trans l2) _ _ hb
    have fin : ∀ (V3 : View) (bk : Nat) (x : Int), V2.Le (V3.hideG (vs ≠ []) bk) → V3.w.heap[ob]? = some (.cells #[.int .i64 root, .slice (mA bk c) n c] 27 (0, 0)) →
        V3.w.heap[wb]? = some (.cells #[.func (.func 53) #[] #[.pointer (some ⟨ob, 0, none⟩), .pointer (some ⟨wb, 0, none⟩)]] 117 (0, 0)) → (vs ≠ [] → V3.w.heap[bk]? = some (.cells vs.toArray 60 (0, 0))) →
        (vs ≠ [] → V.w.heap.size ≤ bk ∨ (vs ≠ [] ∧ bk = nb) ∨ False) → x = rt n (.leaf i) → ∃ (bm : Nat) (vm : List Value) (c' : Nat), (vm ≠ [] → V3.w.heap[bm]? = some (.cells vm.toArray 60 (0, 0))) ∧ (vm ≠ [] → V.w.heap.size ≤ bm ∨ (vs ≠ [] ∧ bm = nb)) ∧
      Value.int .i64 x = .int .i64 (rt n (.leaf i)) ∧ V3.w.heap[ob]? = some (.cells #[.int .i64 root, .slice (mA bm c') (n + (Tr.leaf i).size) c'] 27 (0, 0)) ∧
      V3.w.heap[wb]? = some (.cells #[.func (.func 53) #[] #[.pointer (some ⟨ob, 0, none⟩), .pointer (some ⟨wb, 0, none⟩)]] 117 (0, 0)) ∧
      n + (Tr.leaf i).size ≤ c' ∧ c' * 8 ≤ vm.length ∧ NR (V3.hideG (vm ≠ []) bm) vm (l ++ wr n (.leaf i)) := by
      intro V3 bk x hle e1 e2 e3 e4 hx
      refine ⟨bk, vs, c, e3, fun h => ?_, by rw [hx], e1, e2, hnc, hcv, ?_⟩
      · rcases e4 h with h | h | h
        · exact .inl h
        · exact .inr h
        · exact h.elim
      · simp only [wr, List.append_nil]
        exact hnr.le ((l1.trans l2).trans hle)
    refine ⟨_, rfl, fun _ => ⟨rfl, rfl, i, rdc hb2 11 rfl, fun hi V3 bk a1 a2 a3 a4 a5 => fin V3 bk _ a1 a2 a3 a4 a5 (by subst hi; rfl), fun hi V3 bk a1 a2 a3 a4 a5 => fin V3 bk _ a1 a2 a3 a4 a5 (by subst hi; rfl)⟩, fun h => by cases h⟩
  | node ln x y ihx ihy =>
    intro V p ob nb wb root n c vs l hp hall hn ho hxo hw hxw hv hxv h1 h2 h3 hnc hcv hnr hsz
    simp only [Tr.size] at hsz
    obtain ⟨hbd, hax, hay⟩ := hall
    refine vc_bsp_T_API_1 p ob nb wb root n c vs V _ ho hxo hw hxw hv hxv h1 h2 h3 fun V1 l1 => (c_bsp_IsLeaf (hp.le l1)).mono ?_
    rintro r V2 l2 rfl
    have l02 := l1.trans l2
    obtain ⟨b, x1, x2, x3, y1, y2, y3, z1, z2, z3, pl, pr, i, rfl, hb, hl, hx, hy⟩ := hp
    refine ⟨_, rfl, (fun h => by cases h), fun _ => ⟨rfl, rfl, x1, x2, x3, y1, y2, y3, z1, z2, z3, ?_⟩⟩
    have hb2 := l02 _ _ hb
    have hat : ∀ j v, ([.int .i64 x1, .int .i64 x2, .pointer x3, .int .i64 y1, .int .i64 y2, .pointer y3, .int .i64 z1, .int .i64 z2, .pointer z3, .pointer pl, .pointer pr, .bool i] : List Value)[j]? = some v → V2.at ((⟨b, 0, none⟩ : Addr).add j) v := by
      intro j v hv; rw [add_zero']; exact blk_at (xs := [_, _, _, _, _, _, _, _, _, _, _, _]) hb2 hv
    obtain ⟨s1, s2, s3⟩ := hbd.sz
    refine ⟨⟨b, 0, none⟩, rfl, hat 0 _ rfl, hat 1 _ rfl, hat 2 _ rfl, hat 3 _ rfl, hat 4 _ rfl, hat 5 _ rfl, hat 6 _ rfl, hat 7 _ rfl, hat 8 _ rfl, fun V5 l5 => (c_geo_API (hl.le (l02.trans l5)) s1 s2 s3 (by omega)).mono ?_⟩
    rintro r V6 l6 hRL
    have hRL0 := hRL
    obtain ⟨q1, m1, e1, q2, m2, e2, q3, m3, e3, rfl, -⟩ := hRL
    have l06 := l02.trans (l5.trans l6)
    refine ⟨_, _, _, _, _, _, _, _, _, _, _, _, rfl, by omega, hnc, hcv, rfl, by intro v hv; simp at hv; rcases hv with rfl | rfl | rfl | rfl | rfl | rfl | rfl | rfl <;> rfl, fun sp c' g1 g2 => ?_⟩
    have hb6 := l06 _ _ hb
    refine ⟨rfl, rfl, pl, rdc hb6 9 rfl, fun V7 l7 bk1 bk2 bk3 f1 f2 f3 f4 f5 f6 f7 f8 f9 => ?_⟩
    have hpush := NR.push (sp := sp) (x := 0) (y := 0) (hnr.le l06) (by omega) (ln := ln) hRL0
    rw [← hn] at hpush
    generalize hrow : vs.take (n * 8) ++ ([_, _, _, _, _, _, _, _] : List Value) ++ sp = row at f1 f2 f8 f9 hpush ⊢
    have hrl : row.length = n * 8 + 8 + sp.length := by
      rw [← hrow]; simp only [List.length_append, List.length_take, List.length_cons, List.length_nil]; omega
    have hrne : row ≠ [] := fun e => by rw [e] at hrl; simp only [List.length_nil] at hrl; omega
    have l07 := l06.trans l7
    have i1 := ihx (V := V7.lend [vb row V7.w.heap.size bk1, bk2, bk3]) (p := pl) (ob := bk2) (nb := bk1) (wb := bk3) (root := root) (n := n + 1) (c := c') (vs := row) (l := l ++ [⟨ln, 0, 0⟩]) (RT.le (V := V) (V' := V7.lend _) (fun b o h => l07 b o h) hx) hax (by simp [hn]) f3 ⟨by simp, f4⟩ f5 ⟨by simp, f6⟩ f1 (fun h => ⟨by simp [vb_ne h], f2 h⟩) f7 (fun h => (f8 h).symm) (fun h => (f9 h).symm) g1 (by omega) (NR.le (V := V6) (V' := V7.lend _) hpush fun b o h => l7 b o h) (by omega)
    refine i1.mono ?_
    rintro r V8 l8 ⟨bm, vm, c1, a1, a2, rfl, a3, a4, a5, a6, a7⟩
    have l78 : V7.Le V8 := fun b o h => l8 b o h
    have l7h : V7.Le (V8.shut.hideG (vm ≠ []) bm) := le_hideG (V' := V7) l78 (View.Le.refl V7) fun h => (a2 h).imp id fun h' => by rw [h'.2]; exact f2 hrne
    refine ⟨bm, vm, a1, a2, _, rfl, _, _, _, a3, a4, rfl, rfl, pr, rdc ((l07.trans l7h) _ _ hb) 10 rfl, fun V9 l9 bk4 bk5 bk6 d1 d2 d3 d4 d5 d6 d7 d8 d9 => ?_⟩
    have hvmne : vm ≠ [] := fun e => by rw [e] at a6; simp at a6; omega
    have l09 : V.Le V9 := (l07.trans l7h).trans l9
    have i2 := ihy (V := V9.lend [vb vm V9.w.heap.size bk4, bk5, bk6]) (p := pr) (ob := bk5) (nb := bk4) (wb := bk6) (root := root) (n := n + 1 + x.size) (c := c1) (vs := vm) (l := l ++ [⟨ln, 0, 0⟩] ++ wr (n + 1) x) (RT.le (V := V) (V' := V9.lend _) (fun b o h => l09 b o h) hy) hay (by simp [hn, wr_length]; omega) d3 ⟨by simp, d4⟩ d5 ⟨by simp, d6⟩ d1 (fun h => ⟨by simp [vb_ne h], d2 h⟩) d7 (fun h => (d8 h).symm) (fun h => (d9 h).symm) a5 a6 (NR.le (V := V8.hideG (vm ≠ []) bm) (V' := V9.lend _) a7 fun b o h => l9 b o h) (by omega)
    refine i2.mono ?_
    rintro r V10 l10 ⟨bn, vn, c2, b1, b2, rfl, b3, b4, b5, b6, b7⟩
    have hs1 : n < n + 1 + x.size + y.size := by omega
    have hlen : n * 8 + 8 ≤ vn.length := by omega
    simp only [Int.toNat_natCast]
    refine ⟨bn, vn, b1, b2, _, rfl, _, _, _, b3, b4, ⟨by omega, by omega⟩, b5, by omega, ⟨by omega, by omega⟩, b5, by rw [List.length_set]; omega, fun V11 bk7 u1 u2 u3 u4 u5 => ?_⟩
    have hfin := NR.kids (V := V10.hideG (vn ≠ []) bn) (l := l) (r := wr (n + 1) x ++ wr (n + 1 + x.size) y) (ln := ln) (u := 0) (v := 0) (x := rt (n + 1) x) (y := rt (n + 1 + x.size) y) (by simpa using b7)
    rw [← hn] at hfin
    refine ⟨bk7, _, c2, u4, fun h => ?_, rfl, by rw [show n + (Tr.node ln x y).size = n + 1 + x.size + y.size from by simp only [Tr.size]; omega]; exact u2, u3, by simp only [Tr.size]; omega, by simp only [List.length_set]; omega, ?_⟩
    · rcases u5 h with h | h | h
      · exact .inl h
      · exact .inr h
      · exact h.elim
    · simp only [wr]
      exact NR.le (V := V10.hideG (vn ≠ []) bn) hfin fun b o h => u1 b o h

theorem c_bsp_API {V : View} {p : Option Addr} {t : Tr} (h : RT V p t) (ha : t.All Bd) (hs : t.size ≤ 1000000) :
    Acts prog 29 #[.pointer p] V fun r V' => ∃ q n c, r = .agg #[.int .i64 (rt 0 t), .slice q n c] ∧ NS V' q n c (wr 0 t) := by
  refine vc_bsp_T_API p V _ fun V1 l1 bk1 bk2 g1 g2 g3 g4 g5 => ?_
  refine Acts.monoH (c_bsp_API1 t (V := V1.lend [bk1, bk2]) (nb := 0) (vs := []) (l := []) (n := 0) (c := 0) (RT.le (V := V) (V' := V1.lend _) (fun b o h => l1 b o h) h) ha rfl g1 ⟨by simp, g2⟩ g3 ⟨by simp, g4⟩ (fun h => absurd rfl h) (fun h => absurd rfl h) g5 (fun h => absurd rfl h) (fun h => absurd rfl h) (Nat.le_refl _) (Nat.le_refl _) (fun i d hd => by simp at hd) (by omega)) ?_
  rintro r V2 l2 hH ⟨bm, vm, c', a1, a2, rfl, a3, a4, a5, a6, a7⟩
  refine ⟨_, rfl, _, _, _, _, a3, a4, fun V3 l3 => ⟨_, _, _, rfl, ?_⟩⟩
  simp only [List.nil_append, Nat.zero_add] at a7 a5 ⊢
  have l23 : V2.Le V3 := fun b o h => l3 b o h
  have := NS.ofRow (V := V3) (b := bm) (c := c') (vm := vm) (l := wr 0 t) (ty := 60) (fun hne => l23 _ _ ⟨fun hh => ?_, a1 hne⟩) (by rw [wr_length]; exact a5) ((a7.le hideG_le).le l23)
  · rw [wr_length] at this; exact this
  · have h1 := V1.hH bm (hH bm hh)
    rcases a2 hne with h | h
    · have h : V1.w.heap.size ≤ bm := h
      omega
    · exact h.1 rfl
end Go.Proofs.Tryz
/- Contracts: Size, Limited, Same of package bsp. -/
namespace Go.Proofs.Tryz
open Go.Eng Go.Big

theorem c_bsp_Size1 {V : View} {p : Option Addr} {t : Tr} {kb : Nat} {k : Int} (h : RT V p t) (hw : V.w.heap[kb]? = some (.cells #[.int .i64 k] 3 (0, 0))) (hx : V.X kb) (h0 : 0 ≤ k) (h1 : k ≤ 1000000) :
    Acts prog 94 #[.pointer p, .pointer (some ⟨kb, 0, none⟩)] V fun r V' => r = .tuple #[] ∧ V'.w.heap[kb]? = some (.cells #[.int .i64 (k + if t.isLeaf then 0 else 1)] 3 (0, 0)) := by
  refine vc_bsp_T_Size_1 p kb k V _ hw hx fun V1 l1 => (c_bsp_IsLeaf (h.le l1)).mono ?_
  rintro r V2 l2 rfl
  refine ⟨_, rfl, fun h2 V3 l3 e => ⟨rfl, ?_⟩, fun h2 V4 l4 e => ⟨rfl, ?_⟩⟩
  · have h2 : t.isLeaf = false := by simpa using h2
    rw [i64w (by omega)] at e
    rw [h2]; exact e
  · have h2 : t.isLeaf = true := by simpa using h2
    rw [h2]
    simpa using e

def szs : List Tr → Nat
  | [] => 0
  | t :: r => t.size + szs r
def nds : List Tr → Nat
  | [] => 0
  | t :: r => 2 * t.size + 1 + nds r
theorem szs_append (a b : List Tr) : szs (a ++ b) = szs a + szs b := by
  induction a with
  | nil => simp [szs]
  | cons t r ih => simp only [List.cons_append, szs, ih]; omega
theorem nds_append (a b : List Tr) : nds (a ++ b) = nds a + nds b := by
  induction a with
  | nil => simp [nds]
  | cons t r ih => simp only [List.cons_append, nds, ih]; omega
/-- The stack holds trees. -/
def Stk (V : View) (vs : List Value) (ts : List Tr) : Prop := ∀ (i : Nat) (t : Tr), ts[i]? = some t → ∃ p, vs[i]? = some (.pointer p) ∧ RT V p t
theorem Stk.le {V V' : View} {vs : List Value} {ts : List Tr} (h : Stk V vs ts) (l : V.Le V') : Stk V' vs ts := fun i t ht => by
  obtain ⟨p, h1, h2⟩ := h i t ht
  exact ⟨p, h1, h2.le l⟩
theorem nds_len (ts : List Tr) : ts.length ≤ nds ts := by
  induction ts with
  | nil => simp [nds]
  | cons t r ih => simp only [nds, List.length_cons]; omega
theorem Stk.popPush {V : View} {vs sp : List Value} {ts : List Tr} {x y : Tr} {p q : Option Addr} {m : Nat} (h : Stk V vs ts) (hm : m ≤ ts.length) (hl : m ≤ vs.length) (hx : RT V p x) (hy : RT V q y) :
    Stk V (vs.take m ++ [.pointer p, .pointer q] ++ sp) (ts.take m ++ [x, y]) := by
  intro i t ht
  rcases Nat.lt_or_ge i m with hi | hi
  · rw [List.getElem?_append_left (by rw [List.length_take]; omega), List.getElem?_take, if_pos hi] at ht
    obtain ⟨r, h1, h2⟩ := h i t ht
    refine ⟨r, ?_, h2⟩
    rw [List.append_assoc, List.getElem?_append_left (by rw [List.length_take]; omega), List.getElem?_take, if_pos hi]
    exact h1
  · rw [List.getElem?_append_right (by rw [List.length_take]; omega), List.length_take, Nat.min_eq_left hm] at ht
    obtain ⟨j, rfl⟩ : ∃ j, i = m + j := ⟨i - m, by omega⟩
    rw [Nat.add_sub_cancel_left] at ht
    have e : ∀ v, ([.pointer p, .pointer q] : List Value)[j]? = some v → (vs.take m ++ [.pointer p, .pointer q] ++ sp)[m + j]? = some v := by
      intro v hv
      have hj : j < 2 := by
        rcases Nat.lt_or_ge j 2 with hj | hj
        · exact hj
        · rw [List.getElem?_eq_none (by simpa using hj)] at hv; cases hv
      rw [List.append_assoc, List.getElem?_append_right (by rw [List.length_take]; omega), List.length_take, Nat.min_eq_left hl, Nat.add_sub_cancel_left, List.getElem?_append_left (by simpa using hj)]
      exact hv
    match j, ht, e with
    | 0, ht, e => cases ht; exact ⟨p, e _ rfl, hx⟩
    | 1, ht, e => cases ht; exact ⟨q, e _ rfl, hy⟩
    | n + 2, ht, _ => cases ht

theorem c_bsp_Each_Size {V : View} {p : Option Addr} {t : Tr} {kb : Nat} (h : RT V p t) (hs : t.size ≤ 400000) (hw : V.w.heap[kb]? = some (.cells #[.int .i64 0] 3 (0, 0))) (hx : V.X kb) :
    Acts prog 93 #[.pointer p, .func (.func 94) #[] #[.pointer (some ⟨kb, 0, none⟩)]] V fun r V' => r = .tuple #[] ∧ V'.w.heap[kb]? = some (.cells #[.int .i64 (t.size : Int)] 3 (0, 0)) := by
  refine vc_bsp_T_Each_Size p kb 0 V _ hw hx ⟨fun z k V' => ∃ ts : List Tr, z.1 = ts.length ∧ z.1 ≤ z.2.1 ∧ z.2.1 ≤ z.2.2.1.length ∧ Stk V' z.2.2.1 ts ∧ z.2.2.2 + (szs ts : Int) = (t.size : Int) ∧ 0 ≤ z.2.2.2 ∧ k = nds ts ∧ k ≤ 2 * t.size + 1,
    ⟨(1, 1, [.pointer p], 0), 2 * t.size + 1, ⟨by (try dsimp only); and_intros <;> first | rfl | trivial | omega, [t], rfl, Nat.le_refl _, Nat.le_refl _, ?_, by simp [szs], Int.le_refl _, by simp [nds], Nat.le_refl _⟩⟩, ?_⟩
  · intro i x hx
    match i, hx with
    | 0, hx => cases hx; exact ⟨p, rfl, h⟩
    | n + 1, hx => cases hx
  · rintro ⟨n, c, vs, k⟩ m V1 l1 ⟨ts, h1, h2, h3, hst, h4, h5, h6, h7⟩
    dsimp only at h1 h2 h3 hst h4 h5 ⊢
    have hnl := nds_len ts
    refine ⟨by trivial, fun g1 => ?_, fun g1 V6 l6 e => ?_⟩
    · have g1 : 0 < n := by simpa using g1
      have w1 : IntKind.i64.wrap ((n : Int) - 1) = ((n - 1 : Nat) : Int) := by rw [i64w (by omega)]; omega
      rw [w1]
      simp only [Int.toNat_natCast, Nat.mul_one]
      have hlt : n - 1 < ts.length := by omega
      obtain ⟨q, hq1, hq2⟩ := hst (n - 1) ts[n - 1] (List.getElem?_eq_getElem hlt)
      have hts : ts = ts.take (n - 1) ++ [ts[n - 1]] := by
        rw [List.take_append_getElem hlt, List.take_of_length_le (by omega)]
      generalize ts[n - 1] = x at hq2 hts
      have e1 : szs ts = szs (ts.take (n - 1)) + x.size := by
        conv => lhs; rw [hts]
        rw [szs_append]; simp [szs]
      have e2 : nds ts = nds (ts.take (n - 1)) + (2 * x.size + 1) := by
        conv => lhs; rw [hts]
        rw [nds_append]; simp [nds]
      refine ⟨⟨by omega, by omega⟩, h2, q, hq1, ⟨by omega, by omega⟩, fun V2 l2 bk f1 f2 => (c_bsp_Size1 (V := V2.lend [bk]) (RT.le (V := V1) (V' := V2.lend _) (fun b o h => l2 b o h) hq2) f1 ⟨by simp, f2⟩ h5 (by omega)).mono ?_⟩
      rintro r V3 l3 ⟨rfl, f3⟩
      refine ⟨rfl, _, f3, fun V4 l4 => ?_⟩
      have l14 : V1.Le V4 := fun b o h => l4 b o (l3 b o (l2 b o h))
      refine (c_bsp_IsLeaf (hq2.le l14)).mono ?_
      rintro r V5 l5 rfl
      refine ⟨_, rfl, fun g2 => ?_, fun g2 => ?_⟩
      · have g2 : x.isLeaf = false := by simpa using g2
        cases x with
        | leaf i => cases g2
        | node ln a b =>
          obtain ⟨bb, x1, x2, x3, y1, y2, y3, z1, z2, z3, pl, pr, i, rfl, hb, hl, ha, hbb⟩ := hq2
          have hb5 := (l14.trans l5) _ _ hb
          simp only [Tr.size] at e1 e2
          refine ⟨rfl, rfl, pr, rdc hb5 10 rfl, rfl, rfl, pl, rdc hb5 9 rfl, by omega, by omega, by omega, rfl, by intro v hv; simp at hv; rcases hv with rfl | rfl <;> rfl, fun sp c' k1 k2 => ?_⟩
          refine ⟨(n - 1 + 2, c', _, _), nds (ts.take (n - 1)) + (2 * a.size + 1) + (2 * b.size + 1), by omega, ⟨by (try dsimp only); and_intros <;> first | rfl | trivial, ts.take (n - 1) ++ [b, a], ?_, k1, ?_, (hst.le (l14.trans l5)).popPush (by omega) (by omega) (hbb.le (l14.trans l5)) (ha.le (l14.trans l5)), ?_, ?_, ?_, by omega⟩⟩
          · simp; omega
          · dsimp only; simp only [List.length_append, List.length_take, List.length_cons, List.length_nil]; omega
          · rw [szs_append]; simp [szs, Tr.isLeaf]; omega
          · simp [Tr.isLeaf]; omega
          · rw [nds_append]; simp [nds]; omega
      · have g2 : x.isLeaf = true := by simpa using g2
        cases x with
        | node ln a b => cases g2
        | leaf i =>
          simp only [Tr.size] at e1 e2
          refine ⟨(n - 1, c, vs, _), nds (ts.take (n - 1)), by omega, ⟨by (try dsimp only); and_intros <;> first | rfl | trivial, ts.take (n - 1), ?_, by dsimp only; omega, h3, fun i t hi => ?_, ?_, ?_, rfl, by omega⟩⟩
          · simp; omega
          · rw [List.getElem?_take] at hi
            split at hi
            · exact (hst.le (l14.trans l5)) i t hi
            · cases hi
          · simp [Tr.isLeaf]; omega
          · simp [Tr.isLeaf]; omega
    · have g1 : n = 0 := by simpa using g1
      refine ⟨rfl, ?_⟩
      have : ts = [] := List.length_eq_zero_iff.1 (by omega)
      subst this
      simp only [szs] at h4
      have : k = (t.size : Int) := by omega
      rw [← this]
      exact e

theorem c_bsp_Size {V : View} {p : Option Addr} {t : Tr} (h : RT V p t) (hs : t.size ≤ 400000) : Acts prog 72 #[.pointer p] V fun r V' => r = .int .i64 (t.size : Int) := by
  refine vc_bsp_T_Size p V _ fun V1 l1 bk g1 g2 => (c_bsp_Each_Size (V := V1.lend [bk]) (RT.le (V := V) (V' := V1.lend _) (fun b o h => l1 b o h) h) hs g1 ⟨by simp, g2⟩).mono ?_
  rintro r V2 l2 ⟨rfl, e⟩
  exact ⟨rfl, _, e, fun V3 l3 => rfl⟩

/-- A sentinel error: what its variable holds. -/
def Sent (V : View) (g : Nat) (y : Value) : Prop := V.at ⟨g, 0, none⟩ y
theorem Sent.le {V V' : View} {g : Nat} {y : Value} (h : Sent V g y) (l : V.Le V') : Sent V' g y := l.at h
/-- A tree of package api. -/
def AT (V : View) (v : Value) (root : Int) (l : List Nd) : Prop := ∃ q n c, v = .agg #[.int .i64 root, .slice q n c] ∧ NS V q n c l
theorem AT.le {V V' : View} {v : Value} {root : Int} {l : List Nd} (h : AT V v root l) (hl : V.Le V') : AT V' v root l := by
  obtain ⟨q, n, c, e, h⟩ := h; exact ⟨q, n, c, e, h.le hl⟩
theorem AT.zero {V : View} : AT V (.agg #[.int .i64 0, .slice none 0 0]) 0 [] := ⟨_, _, _, rfl, NS.nil⟩

theorem c_bsp_Limited {V : View} {p : Option Addr} {t : Tr} (h : RT V p t) (ha : t.All Bd) (hs : t.size ≤ 400000) {y : Value} (hy : Sent V 0 y) :
    Acts prog 43 #[.pointer p] V fun r V' => ∃ v e, r = .tuple #[v, e] ∧ (if 65536 < t.size then v = .agg #[.int .i64 0, .slice none 0 0] ∧ e = y else AT V' v (rt 0 t) (wr 0 t) ∧ e = .nilIface) := by
  refine vc_bsp_T_Limited p V _ fun V1 l1 => (c_bsp_Size (h.le l1) hs).mono ?_
  rintro r V2 l2 rfl
  have l02 := l1.trans l2
  refine ⟨_, rfl, fun g => ⟨y, ⟨_, rfl, hy.le l02⟩, fun V3 l3 => ⟨_, _, rfl, ?_⟩⟩, fun g V4 l4 => (c_bsp_API (h.le (l02.trans l4)) ha (by omega)).mono ?_⟩
  · have g : 65536 < t.size := by simp at g; omega
    rw [if_pos g]; exact ⟨rfl, rfl⟩
  · have g : ¬ 65536 < t.size := by simp at g; omega
    rintro r V5 l5 ⟨q, n, c, rfl, hns⟩
    refine ⟨_, _, _, _, rfl, fun V6 l6 => ⟨_, _, rfl, ?_⟩⟩
    rw [if_neg g]
    exact ⟨⟨_, _, _, rfl, hns.le l6⟩, rfl⟩

theorem c_bsp_Same : ∀ (t u : Tr) {V : View} {p q : Option Addr}, RT V p t → RT V q u → t.All Bd → u.All Bd → Acts prog 30 #[.pointer p, .pointer q] V fun r V' => r = .bool (decide (t = u)) := by
  intro t
  induction t with
  | leaf i =>
    intro u V p q hp hq _ _
    refine vc_bsp_T_Same p q V _ fun V1 l1 => (c_bsp_IsLeaf (hp.le l1)).mono ?_
    rintro r V2 l2 rfl
    refine ⟨_, rfl, fun V3 l3 => (c_bsp_IsLeaf (hq.le (l1.trans (l2.trans l3)))).mono ?_⟩
    rintro r V4 l4 rfl
    refine ⟨_, rfl, fun g V5 l5 => ?_, fun g V6 l6 => (c_bsp_IsLeaf (hp.le (l1.trans (l2.trans (l3.trans (l4.trans l6)))))).mono ?_⟩
    · cases u with
      | leaf j => cases g
      | node ln a b => simp
    · cases u with
      | node ln a b => cases g
      | leaf j =>
        rintro r V7 l7 rfl
        have l07 := l1.trans (l2.trans (l3.trans (l4.trans (l6.trans l7))))
        obtain ⟨b, c0, c1, c2, c3, c4, c5, c6, c7, c8, r, rfl, hb⟩ := hp
        obtain ⟨b', d0, d1, d2, d3, d4, d5, d6, d7, d8, r', rfl, hb'⟩ := hq
        refine ⟨_, rfl, fun _ => ⟨rfl, rfl, i, rdc (l07 _ _ hb) 11 rfl, rfl, rfl, j, rdc (l07 _ _ hb') 11 rfl, fun V8 l8 => ?_⟩, (fun h => by cases h)⟩
        cases i <;> cases j <;> simp
  | node ln x y ihx ihy =>
    intro u V p q hp hq ha hu
    refine vc_bsp_T_Same p q V _ fun V1 l1 => (c_bsp_IsLeaf (hp.le l1)).mono ?_
    rintro r V2 l2 rfl
    refine ⟨_, rfl, fun V3 l3 => (c_bsp_IsLeaf (hq.le (l1.trans (l2.trans l3)))).mono ?_⟩
    rintro r V4 l4 rfl
    refine ⟨_, rfl, fun g V5 l5 => ?_, fun g V6 l6 => (c_bsp_IsLeaf (hp.le (l1.trans (l2.trans (l3.trans (l4.trans l6)))))).mono ?_⟩
    · cases u with
      | node ln a b => cases g
      | leaf j => simp
    · cases u with
      | leaf j => cases g
      | node ln' a b =>
        rintro r V7 l7 rfl
        have l07 := l1.trans (l2.trans (l3.trans (l4.trans (l6.trans l7))))
        obtain ⟨bb, x1, x2, x3, y1, y2, y3, z1, z2, z3, pl, pr, i, rfl, hb, hl, hx, hy⟩ := hp
        obtain ⟨bb', x1', x2', x3', y1', y2', y3', z1', z2', z3', pl', pr', i', rfl, hb', hl', hx', hy'⟩ := hq
        have at1 : ∀ (U : View), V.Le U → ∀ j v, ([.int .i64 x1, .int .i64 x2, .pointer x3, .int .i64 y1, .int .i64 y2, .pointer y3, .int .i64 z1, .int .i64 z2, .pointer z3, .pointer pl, .pointer pr, .bool i] : List Value)[j]? = some v → U.at ((⟨bb, 0, none⟩ : Addr).add j) v := by
          intro U hU j v hv; rw [add_zero']; exact blk_at (xs := [_, _, _, _, _, _, _, _, _, _, _, _]) (hU _ _ hb) hv
        have at2 : ∀ (U : View), V.Le U → ∀ j v, ([.int .i64 x1', .int .i64 x2', .pointer x3', .int .i64 y1', .int .i64 y2', .pointer y3', .int .i64 z1', .int .i64 z2', .pointer z3', .pointer pl', .pointer pr', .bool i'] : List Value)[j]? = some v → U.at ((⟨bb', 0, none⟩ : Addr).add j) v := by
          intro U hU j v hv; rw [add_zero']; exact blk_at (xs := [_, _, _, _, _, _, _, _, _, _, _, _]) (hU _ _ hb') hv
        obtain ⟨s1, s2, s3⟩ := ha.1.sz
        obtain ⟨t1, t2, t3⟩ := hu.1.sz
        refine ⟨_, rfl, (fun h => by cases h), fun _ => ⟨rfl, rfl, x1, x2, x3, y1, y2, y3, z1, z2, z3, ⟨bb, 0, none⟩, rfl, at1 V7 l07 0 _ rfl, at1 V7 l07 1 _ rfl, at1 V7 l07 2 _ rfl, at1 V7 l07 3 _ rfl, at1 V7 l07 4 _ rfl, at1 V7 l07 5 _ rfl, at1 V7 l07 6 _ rfl, at1 V7 l07 7 _ rfl, at1 V7 l07 8 _ rfl,
          rfl, rfl, x1', x2', x3', y1', y2', y3', z1', z2', z3', ⟨bb', 0, none⟩, rfl, at2 V7 l07 0 _ rfl, at2 V7 l07 1 _ rfl, at2 V7 l07 2 _ rfl, at2 V7 l07 3 _ rfl, at2 V7 l07 4 _ rfl, at2 V7 l07 5 _ rfl, at2 V7 l07 6 _ rfl, at2 V7 l07 7 _ rfl, at2 V7 l07 8 _ rfl,
          fun V9 l9 => (c_geo_Equal (hl.le (l07.trans l9)) (hl'.le (l07.trans l9)) s1 s2 s3 t1 t2 t3 (by omega)).mono ?_⟩⟩
        rintro r V10 l10 rfl
        have l010 := l07.trans (l9.trans l10)
        have hln : (((ln.1 : Rat) = (ln'.1 : Rat)) ∧ ((ln.2.1 : Rat) = (ln'.2.1 : Rat)) ∧ ((ln.2.2 : Rat) = (ln'.2.2 : Rat))) ↔ ln = ln' := by
          rw [Rat.intCast_inj, Rat.intCast_inj, Rat.intCast_inj]
          obtain ⟨u1, u2, u3⟩ := ln
          obtain ⟨v1, v2, v3⟩ := ln'
          simp
        refine ⟨_, rfl, fun g1 => ⟨rfl, rfl, pl, rdc (l010 _ _ hb) 9 rfl, rfl, rfl, pl', rdc (l010 _ _ hb') 9 rfl, fun V11 l11 => (ihx a (hx.le (l010.trans l11)) (hx'.le (l010.trans l11)) ha.2.1 hu.2.1).mono ?_⟩, fun g1 V17 l17 => ?_⟩
        · have g1 : ln = ln' := hln.1 (by simpa using g1)
          rintro r V12 l12 rfl
          have l012 := l010.trans (l11.trans l12)
          refine ⟨_, rfl, fun g2 => ⟨rfl, rfl, pr, rdc (l012 _ _ hb) 10 rfl, rfl, rfl, pr', rdc (l012 _ _ hb') 10 rfl, fun V13 l13 => (ihy b (hy.le (l012.trans l13)) (hy'.le (l012.trans l13)) ha.2.2 hu.2.2).mono ?_⟩, fun g2 V16 l16 => ?_⟩
          · have g2 : x = a := by simpa using g2
            rintro r V14 l14 rfl
            refine ⟨_, rfl, fun V15 l15 => ?_⟩
            congr 1
            rw [Bool.eq_iff_iff, decide_eq_true_eq, decide_eq_true_eq, g1, g2]
            simp
          · have g2 : ¬ x = a := by simpa using g2
            rw [decide_eq_false]
            intro e
            cases e
            exact g2 rfl
        · have g1 : ¬ ln = ln' := fun e => by rw [decide_eq_true (hln.2 e)] at g1; cases g1
          rw [decide_eq_false]
          intro e
          cases e
          exact g1 rfl
end Go.Proofs.Tryz
/- errors.Is at a sentinel: the same, or nil. -/
namespace Go.Proofs.Tryz
open Go.Eng Go.Big
section
open Go.RowKit Go.Extern.Stop Go.Stop Go.Extern

theorem er_typeOf (v : Value) (w : World) : (Extern.ReflectliteType.typeOf #[.iface 204 v]).run prog w = .ok (.iface 139 (.agg #[.pointer (some ⟨4, 204, none⟩)])) w := by kernel_rfl
theorem er_comparable (w : World) : ((Extern.ReflectliteType.method fun t => do Extern.Rtype.noPackHeld "Comparable" t; (fun a => Value.bool a.comparable) <$> typeInfo t) #[.agg #[.pointer (some ⟨4, 204, none⟩)]]).run prog w = .ok (.bool true) w := by kernel_rfl
theorem er_comp : (prog.info? 204).map (·.comparable) = some true := by kernel_rfl
theorem er_size : (prog.info? 228).map (·.size) = some 1 := by kernel_rfl
theorem er_methodComparable (v : Value) (w : World) : (Go.method 340 139 v "Comparable").run prog w = .ok (156, v) w := by kernel_rfl
theorem er_noIs (v : Value) (xT : TypeId) (w : World) : (Instr.typeAssert (.iface 204 v) xT 141 true).run prog w = .ok (.tuple #[.nilIface, .bool false]) w := run_typeAssert_lacksB underlying141 (by kernel_rfl) (by kernel_rfl) v xT w

/-- errors.Is(x, x), x a pointer to an errors.errorString. -/
theorem er_same (a : Addr) (w : World) :
    Calls prog 19 #[.iface 204 (.pointer (some a)), .iface 204 (.pointer (some a))] w fun e w' => e = .returned (.bool true) ∧ w' = w := by
  obtain ⟨i, hi, hcmp⟩ := Option.map_eq_some_iff.1 er_comp
  obtain ⟨j, hj, hjs⟩ := Option.map_eq_some_iff.1 er_size
  have h8 := @run_callFunc_extern prog 44 _ Extern.ReflectliteType.typeOf func44 (by kernel_rfl) (by kernel_rfl) (by kernel_rfl) (by kernel_rfl)
  have h32 := @run_callFunc_extern prog 156 _ (Extern.ReflectliteType.method fun t => do Extern.Rtype.noPackHeld "Comparable" t; pure (.bool (← typeInfo t).comparable)) func156 (by kernel_rfl) (by kernel_rfl) (by kernel_rfl) (by kernel_rfl)
  have tT := er_typeOf
  have cT := er_comparable
  have mR := er_methodComparable
  have heq := run_eql_iface_ptr_same (P := prog) w a underlying33 underlying204 hi hcmp hj
  go_enter func19, ntmps19
  go_wp2
  refine wp_loop_rounds 1 ?_
  rw [rounds_succ]
  go_wp2
  go_ret
  exact ⟨rfl, rfl⟩

/-- errors.Is(nil, x). -/
theorem er_nil (b : Addr) (w : World) :
    Calls prog 19 #[.nilIface, .iface 204 (.pointer (some b))] w fun e w' => e = .returned (.bool false) ∧ w' = w := by
  have hn := run_eql_iface_nil_left (P := prog) w 204 (.pointer (some b)) underlying33
  go_enter func19, ntmps19
  go_wp2
  go_ret
  exact ⟨rfl, rfl⟩
end

/-- A value of a sentinel's kind. -/
def SErr (y : Value) : Prop := ∃ a : Addr, y = .iface 204 (.pointer (some a))
theorem acts_quiet {f : FuncId} {args : Array Value} {V : View} {v : Value} (hc : Callable prog f) (h : Calls prog f args V.w fun e w' => e = .returned v ∧ w' = V.w) : Acts prog f args V fun r _ => r = v :=
  ⟨hc, h.mono fun e w' ⟨h1, h2⟩ => by subst h2; exact ⟨v, h1, ExtX.refl _ _, rfl⟩⟩
theorem c_errors_Is_same {V : View} {y : Value} (h : SErr y) : Acts prog 19 #[y, y] V fun r _ => r = .bool true := by
  obtain ⟨a, rfl⟩ := h
  exact acts_quiet ⟨f19, func19, rfl, by kernel_rfl⟩ (er_same a V.w)
theorem c_errors_Is_nil {V : View} {y : Value} (h : SErr y) : Acts prog 19 #[.nilIface, y] V fun r _ => r = .bool false := by
  obtain ⟨a, rfl⟩ := h
  exact acts_quiet ⟨f19, func19, rfl, by kernel_rfl⟩ (er_nil a V.w)
end Go.Proofs.Tryz
/- By program: the conditions of the functions, from their loaded code. -/
namespace Go.Proofs.Tryz
open Go.Eng
set_option maxRecDepth 100000

theorem vc_tree_Valid (t0 : Int) (t1p : Option Addr) (t1n t1c : Nat) (V : View) (R : Value → View → Prop)
    (h : (∀ V1 : View, V.Le V1 → Acts prog 28 #[.agg #[.int .i64 t0, .slice t1p t1n t1c]] V1 fun r1_ V2 => ∃ p1_ : Option Addr, ∃ b2_ : Bool, r1_ = .tuple #[.pointer p1_, .bool b2_] ∧ (∀ V3 : View, V2.Le V3 → R (.bool b2_) V3))) :
    Acts prog 14 #[.agg #[.int .i64 t0, .slice t1p t1n t1c]] V R :=
  fn_does (LF := [8, 20, 25, 46, 48, 52, 93, 24, 1000024]) (RF := [1000006]) (β0 := (fun _ => 0)) tab_ok mixed [] [] func14 (by kernel_rfl)
    [(0, .agg [.v (.int .i64 t0), .v (.slice t1p t1n t1c)])]
    [] (by kernel_rfl) trivial h (by kernel_rfl)

theorem vc_tree_Leaf (code : Int) (V : View) (R : Value → View → Prop)
    (h : (((code != (-2 : Int)) = true → (((code != (-1 : Int)) = true → (∃ y1_ : Value, (∃ a2_, (some ⟨1, 0, none⟩ : Option Addr) = some a2_ ∧ V.at a2_ (y1_)) ∧ (∀ V1 : View, V.Le V1 → R (.tuple #[.agg #[.int .i64 0, .slice none 0 0], y1_]) V1))) ∧ ((code != (-1 : Int)) = false → (∀ V2 : View, V.Le V2 → R (.tuple #[.agg #[.int .i64 code, .slice none 0 0], .nilIface]) V2)))) ∧ ((code != (-2 : Int)) = false → (∀ V3 : View, V.Le V3 → R (.tuple #[.agg #[.int .i64 code, .slice none 0 0], .nilIface]) V3)))) :
    Acts prog 23 #[.int .i64 code] V R :=
  fn_does (LF := [8, 20, 25, 46, 48, 52, 93, 24, 1000024]) (RF := [1000006]) (β0 := (fun _ => 0)) tab_ok mixed [] [] func23 (by kernel_rfl)
    [(0, .c (.v (.int .i64 code)))]
    [] (by kernel_rfl) trivial h (by kernel_rfl)

theorem vc_tree_Join (l0 : Bool) (l1p : Option Addr) (l1n l1c : Nat) (l2 : Bool) (l3p : Option Addr) (l3n l3c : Nat) (l4 : Bool) (l5p : Option Addr) (l5n l5c : Nat) (left0 : Int) (left1p : Option Addr) (left1n left1c : Nat) (right0 : Int) (right1p : Option Addr) (right1n right1c : Nat) (V : View) (R : Value → View → Prop)
    (h : (∀ V1 : View, V.Le V1 → Acts prog 41 #[.agg #[.bool l0, .slice l1p l1n l1c, .bool l2, .slice l3p l3n l3c, .bool l4, .slice l5p l5n l5c]] V1 fun r1_ V2 => ∃ x1_ : Int, ∃ x2_ : Int, ∃ p3_ : Option Addr, ∃ x4_ : Int, ∃ x5_ : Int, ∃ p6_ : Option Addr, ∃ x7_ : Int, ∃ x8_ : Int, ∃ p9_ : Option Addr, ∃ b10_ : Bool, r1_ = .tuple #[.agg #[.int .i64 x1_, .int .i64 x2_, .pointer p3_, .int .i64 x4_, .int .i64 x5_, .pointer p6_, .int .i64 x7_, .int .i64 x8_, .pointer p9_], .bool b10_] ∧ (∀ V3 : View, V2.Le V3 → Acts prog 28 #[.agg #[.int .i64 left0, .slice left1p left1n left1c]] V3 fun r3_ V4 => ∃ p11_ : Option Addr, ∃ b12_ : Bool, r3_ = .tuple #[.pointer p11_, .bool b12_] ∧ (∀ V5 : View, V4.Le V5 → Acts prog 28 #[.agg #[.int .i64 right0, .slice right1p right1n right1c]] V5 fun r5_ V6 => ∃ p13_ : Option Addr, ∃ b14_ : Bool, r5_ = .tuple #[.pointer p13_, .bool b14_] ∧ (((!b10_) = true → (∃ y15_ : Value, (∃ a16_, (some ⟨1, 0, none⟩ : Option Addr) = some a16_ ∧ V6.at a16_ (y15_)) ∧ (∀ V7 : View, V6.Le V7 → R (.tuple #[.agg #[.int .i64 0, .slice none 0 0], y15_]) V7))) ∧ ((!b10_) = false → (((!b12_) = true → (∃ y17_ : Value, (∃ a18_, (some ⟨1, 0, none⟩ : Option Addr) = some a18_ ∧ V6.at a18_ (y17_)) ∧ (∀ V8 : View, V6.Le V8 → R (.tuple #[.agg #[.int .i64 0, .slice none 0 0], y17_]) V8))) ∧ ((!b12_) = false → (((!b14_) = true → (∃ y19_ : Value, (∃ a20_, (some ⟨1, 0, none⟩ : Option Addr) = some a20_ ∧ V6.at a20_ (y19_)) ∧ (∀ V9 : View, V6.Le V9 → R (.tuple #[.agg #[.int .i64 0, .slice none 0 0], y19_]) V9))) ∧ ((!b14_) = false → (∀ V10 : View, V6.Le V10 → Acts prog 42 #[.agg #[.int .i64 x1_, .int .i64 x2_, .pointer p3_, .int .i64 x4_, .int .i64 x5_, .pointer p6_, .int .i64 x7_, .int .i64 x8_, .pointer p9_], .pointer p11_, .pointer p13_] V10 fun r10_ V11 => ∃ p21_ : Option Addr, r10_ = .pointer p21_ ∧ (∀ V12 : View, V11.Le V12 → Acts prog 43 #[.pointer p21_] V12 fun r12_ V13 => ∃ x22_ : Int, ∃ (p23_ : Option Addr) (n23_ c23_ : Nat), ∃ y24_ : Value, r12_ = .tuple #[.agg #[.int .i64 x22_, .slice p23_ n23_ c23_], y24_] ∧ (∀ V14 : View, V13.Le V14 → R (.tuple #[.agg #[.int .i64 x22_, .slice p23_ n23_ c23_], y24_]) V14))))))))))))) :
    Acts prog 18 #[.agg #[.bool l0, .slice l1p l1n l1c, .bool l2, .slice l3p l3n l3c, .bool l4, .slice l5p l5n l5c], .agg #[.int .i64 left0, .slice left1p left1n left1c], .agg #[.int .i64 right0, .slice right1p right1n right1c]] V R :=
  fn_does (LF := [8, 20, 25, 46, 48, 52, 93, 24, 1000024]) (RF := [1000006]) (β0 := (fun _ => 0)) tab_ok mixed [] [] func18 (by kernel_rfl)
    [(0, .agg [.v (.bool l0), .v (.slice l1p l1n l1c), .v (.bool l2), .v (.slice l3p l3n l3c), .v (.bool l4), .v (.slice l5p l5n l5c)]), (1, .agg [.v (.int .i64 left0), .v (.slice left1p left1n left1c)]), (2, .agg [.v (.int .i64 right0), .v (.slice right1p right1n right1c)])]
    [] (by kernel_rfl) trivial h (by kernel_rfl)

theorem vc_tree_Parts (t0 : Int) (t1p : Option Addr) (t1n t1c : Nat) (V : View) (R : Value → View → Prop)
    (h : (∀ V1 : View, V.Le V1 → Acts prog 28 #[.agg #[.int .i64 t0, .slice t1p t1n t1c]] V1 fun r1_ V2 => ∃ p1_ : Option Addr, ∃ b2_ : Bool, r1_ = .tuple #[.pointer p1_, .bool b2_] ∧ (((!b2_) = true → (∃ y3_ : Value, (∃ a4_, (some ⟨1, 0, none⟩ : Option Addr) = some a4_ ∧ V2.at a4_ (y3_)) ∧ (∀ V3 : View, V2.Le V3 → R (.tuple #[.agg #[.bool false, .slice none 0 0, .bool false, .slice none 0 0, .bool false, .slice none 0 0], .agg #[.int .i64 0, .slice none 0 0], .agg #[.int .i64 0, .slice none 0 0], y3_]) V3))) ∧ ((!b2_) = false → (∀ V4 : View, V2.Le V4 → Acts prog 49 #[.pointer p1_] V4 fun r4_ V5 => ∃ b5_ : Bool, r4_ = .bool b5_ ∧ ((b5_ = true → (∃ y6_ : Value, (∃ a7_, (some ⟨2, 0, none⟩ : Option Addr) = some a7_ ∧ V5.at a7_ (y6_)) ∧ (∀ V6 : View, V5.Le V6 → R (.tuple #[.agg #[.bool false, .slice none 0 0, .bool false, .slice none 0 0, .bool false, .slice none 0 0], .agg #[.int .i64 0, .slice none 0 0], .agg #[.int .i64 0, .slice none 0 0], y6_]) V6))) ∧ (b5_ = false → (p1_.isSome = true) ∧ (p1_.isSome = true) ∧ (∃ x8_ : Int, ∃ x9_ : Int, ∃ p10_ : Option Addr, ∃ x11_ : Int, ∃ x12_ : Int, ∃ p13_ : Option Addr, ∃ x14_ : Int, ∃ x15_ : Int, ∃ p16_ : Option Addr, ∃ a17_, addrAdd p1_ 0 = some a17_ ∧ V5.at (a17_.add 0) (.int .i64 x8_) ∧ V5.at (a17_.add 1) (.int .i64 x9_) ∧ V5.at (a17_.add 2) (.pointer p10_) ∧ V5.at (a17_.add 3) (.int .i64 x11_) ∧ V5.at (a17_.add 4) (.int .i64 x12_) ∧ V5.at (a17_.add 5) (.pointer p13_) ∧ V5.at (a17_.add 6) (.int .i64 x14_) ∧ V5.at (a17_.add 7) (.int .i64 x15_) ∧ V5.at (a17_.add 8) (.pointer p16_) ∧ (p1_.isSome = true) ∧ (p1_.isSome = true) ∧ (∃ p18_ : Option Addr, (∃ a19_, addrAdd p1_ 9 = some a19_ ∧ V5.at a19_ (.pointer p18_)) ∧ (p1_.isSome = true) ∧ (p1_.isSome = true) ∧ (∃ p20_ : Option Addr, (∃ a21_, addrAdd p1_ 10 = some a21_ ∧ V5.at a21_ (.pointer p20_)) ∧ (∀ V7 : View, V5.Le V7 → Acts prog 50 #[.agg #[.int .i64 x8_, .int .i64 x9_, .pointer p10_, .int .i64 x11_, .int .i64 x12_, .pointer p13_, .int .i64 x14_, .int .i64 x15_, .pointer p16_]] V7 fun r7_ V8 => ∃ b22_ : Bool, ∃ (p23_ : Option Addr) (n23_ c23_ : Nat), ∃ b24_ : Bool, ∃ (p25_ : Option Addr) (n25_ c25_ : Nat), ∃ b26_ : Bool, ∃ (p27_ : Option Addr) (n27_ c27_ : Nat), r7_ = .agg #[.bool b22_, .slice p23_ n23_ c23_, .bool b24_, .slice p25_ n25_ c25_, .bool b26_, .slice p27_ n27_ c27_] ∧ (∀ V9 : View, V8.Le V9 → Acts prog 29 #[.pointer p18_] V9 fun r9_ V10 => ∃ x28_ : Int, ∃ (p29_ : Option Addr) (n29_ c29_ : Nat), r9_ = .agg #[.int .i64 x28_, .slice p29_ n29_ c29_] ∧ (∀ V11 : View, V10.Le V11 → Acts prog 29 #[.pointer p20_] V11 fun r11_ V12 => ∃ x30_ : Int, ∃ (p31_ : Option Addr) (n31_ c31_ : Nat), r11_ = .agg #[.int .i64 x30_, .slice p31_ n31_ c31_] ∧ (∀ V13 : View, V12.Le V13 → R (.tuple #[.agg #[.bool b22_, .slice p23_ n23_ c23_, .bool b24_, .slice p25_ n25_ c25_, .bool b26_, .slice p27_ n27_ c27_], .agg #[.int .i64 x28_, .slice p29_ n29_ c29_], .agg #[.int .i64 x30_, .slice p31_ n31_ c31_], .nilIface]) V13)))))))))))))) :
    Acts prog 21 #[.agg #[.int .i64 t0, .slice t1p t1n t1c]] V R :=
  fn_does (LF := [8, 20, 25, 46, 48, 52, 93, 24, 1000024]) (RF := [1000006]) (β0 := (fun _ => 0)) tab_ok mixed [] [] func21 (by kernel_rfl)
    [(0, .agg [.v (.int .i64 t0), .v (.slice t1p t1n t1c)])]
    [] (by kernel_rfl) trivial h (by kernel_rfl)

theorem vc_tree_Same (a0 : Int) (a1p : Option Addr) (a1n a1c : Nat) (b0 : Int) (b1p : Option Addr) (b1n b1c : Nat) (V : View) (R : Value → View → Prop)
    (h : (∀ V1 : View, V.Le V1 → Acts prog 28 #[.agg #[.int .i64 a0, .slice a1p a1n a1c]] V1 fun r1_ V2 => ∃ p1_ : Option Addr, ∃ b2_ : Bool, r1_ = .tuple #[.pointer p1_, .bool b2_] ∧ (∀ V3 : View, V2.Le V3 → Acts prog 28 #[.agg #[.int .i64 b0, .slice b1p b1n b1c]] V3 fun r3_ V4 => ∃ p3_ : Option Addr, ∃ b4_ : Bool, r3_ = .tuple #[.pointer p3_, .bool b4_] ∧ ((b2_ = true → ((b4_ = true → (∀ V5 : View, V4.Le V5 → Acts prog 30 #[.pointer p1_, .pointer p3_] V5 fun r5_ V6 => ∃ b5_ : Bool, r5_ = .bool b5_ ∧ (∀ V7 : View, V6.Le V7 → R (.bool b5_) V7))) ∧ (b4_ = false → (∀ V8 : View, V4.Le V8 → R (.bool false) V8)))) ∧ (b2_ = false → (∀ V9 : View, V4.Le V9 → R (.bool false) V9)))))) :
    Acts prog 13 #[.agg #[.int .i64 a0, .slice a1p a1n a1c], .agg #[.int .i64 b0, .slice b1p b1n b1c]] V R :=
  fn_does (LF := [8, 20, 25, 46, 48, 52, 93, 24, 1000024]) (RF := [1000006]) (β0 := (fun _ => 0)) tab_ok mixed [] [] func13 (by kernel_rfl)
    [(0, .agg [.v (.int .i64 a0), .v (.slice a1p a1n a1c)]), (1, .agg [.v (.int .i64 b0), .v (.slice b1p b1n b1c)])]
    [] (by kernel_rfl) trivial h (by kernel_rfl)

theorem vc_tree_Order (t0 : Int) (t1p : Option Addr) (t1n t1c : Nat) (V : View) (R : Value → View → Prop)
    (h : (∀ V1 : View, V.Le V1 → Acts prog 28 #[.agg #[.int .i64 t0, .slice t1p t1n t1c]] V1 fun r1_ V2 => ∃ p1_ : Option Addr, ∃ b2_ : Bool, r1_ = .tuple #[.pointer p1_, .bool b2_] ∧ (((!b2_) = true → (∃ y3_ : Value, (∃ a4_, (some ⟨1, 0, none⟩ : Option Addr) = some a4_ ∧ V2.at a4_ (y3_)) ∧ (∀ V3 : View, V2.Le V3 → R (.tuple #[.agg #[.int .i64 0, .slice none 0 0], y3_]) V3))) ∧ ((!b2_) = false → (∀ V4 : View, V2.Le V4 → Acts prog 29 #[.pointer p1_] V4 fun r4_ V5 => ∃ x5_ : Int, ∃ (p6_ : Option Addr) (n6_ c6_ : Nat), r4_ = .agg #[.int .i64 x5_, .slice p6_ n6_ c6_] ∧ (∀ V6 : View, V5.Le V6 → R (.tuple #[.agg #[.int .i64 x5_, .slice p6_ n6_ c6_], .nilIface]) V6)))))) :
    Acts prog 10 #[.agg #[.int .i64 t0, .slice t1p t1n t1c]] V R :=
  fn_does (LF := [8, 20, 25, 46, 48, 52, 93, 24, 1000024]) (RF := [1000006]) (β0 := (fun _ => 0)) tab_ok mixed [] [] func10 (by kernel_rfl)
    [(0, .agg [.v (.int .i64 t0), .v (.slice t1p t1n t1c)])]
    [] (by kernel_rfl) trivial h (by kernel_rfl)

end Go.Proofs.Tryz
/- Contracts of package tree. -/
namespace Go.Proofs.Tryz
open Go.Eng Go.Big

theorem c_bsp_Of' {V : View} {l : List Nd} (hb : ∀ x ∈ l, Bd x.ln) {v : Value} {root : Int} (h : AT V v root l) :
    Acts prog 28 #[v] V fun r V' => ∃ q, r = .tuple #[.pointer q, .bool (ofT l root).isSome] ∧ ∀ t, ofT l root = some t → RT V' q t := by
  obtain ⟨p, n, c, rfl, h⟩ := h
  refine (c_bsp_Of hb root h).mono ?_
  rintro r V' _ ⟨h1, h2⟩
  cases e : ofT l root with
  | none => obtain ⟨q, rfl⟩ := h1 e; exact ⟨q, rfl, fun t ht => by cases ht⟩
  | some t => obtain ⟨q, rfl, hq⟩ := h2 t e; exact ⟨q, rfl, fun t' ht => by cases ht; exact hq⟩

theorem c_tree_Valid {V : View} {l : List Nd} (hb : ∀ x ∈ l, Bd x.ln) {v : Value} {root : Int} (h : AT V v root l) :
    Acts prog 14 #[v] V fun r V' => r = .bool (ofT l root).isSome := by
  have h0 := h
  obtain ⟨p, n, c, rfl, -⟩ := h
  refine vc_tree_Valid root p n c V _ fun V1 l1 => (c_bsp_Of' hb (h0.le l1)).mono ?_
  rintro r V2 l2 ⟨q, rfl, -⟩
  exact ⟨_, _, rfl, fun V3 l3 => rfl⟩

theorem c_tree_Leaf {V : View} (code : Int) {y : Value} (hy : Sent V 1 y) :
    Acts prog 23 #[.int .i64 code] V fun r V' => ∃ v e, r = .tuple #[v, e] ∧ (if code = -2 ∨ code = -1 then v = .agg #[.int .i64 code, .slice none 0 0] ∧ e = .nilIface else v = .agg #[.int .i64 0, .slice none 0 0] ∧ e = y) := by
  refine vc_tree_Leaf code V _ ⟨fun h1 => ⟨fun h2 => ⟨y, ⟨_, rfl, hy⟩, fun V1 l1 => ⟨_, _, rfl, ?_⟩⟩, fun h2 V2 l2 => ⟨_, _, rfl, ?_⟩⟩, fun h1 V3 l3 => ⟨_, _, rfl, ?_⟩⟩
  · have h1 : ¬ code = -2 := by simpa using h1
    have h2 : ¬ code = -1 := by simpa using h2
    rw [if_neg (by omega)]; exact ⟨rfl, rfl⟩
  · have h2 : code = -1 := by simpa using h2
    rw [if_pos (by omega)]; exact ⟨rfl, rfl⟩
  · have h1 : code = -2 := by simpa using h1
    rw [if_pos (by omega)]; exact ⟨rfl, rfl⟩

/-- What Join gives. -/
def joinT (x : L3) (a b : Option Tr) : Option Tr :=
  match a, b with
  | some a, some b => if okL x = true then some (.node x a b) else none
  | _, _ => none
theorem c_tree_Join {V : View} {u v w : Value} {x : L3} {r1 r2 : Int} {l1 l2 : List Nd} (hx : RL V u x.1 x.2.1 x.2.2) (hbx : Bd x) (h1 : AT V v r1 l1) (h2 : AT V w r2 l2) (hb1 : ∀ x ∈ l1, Bd x.ln) (hb2 : ∀ x ∈ l2, Bd x.ln)
    {y z : Value} (hy : Sent V 1 y) (hz : Sent V 0 z) :
    Acts prog 18 #[u, v, w] V fun r V' => ∃ o e, r = .tuple #[o, e] ∧ (joinT x (ofT l1 r1) (ofT l2 r2) = none → o = .agg #[.int .i64 0, .slice none 0 0] ∧ e = y) ∧
      (∀ t, joinT x (ofT l1 r1) (ofT l2 r2) = some t → if 65536 < t.size then o = .agg #[.int .i64 0, .slice none 0 0] ∧ e = z else AT V' o (rt 0 t) (wr 0 t) ∧ e = .nilIface) := by
  have hx0 := hx
  have h10 := h1
  have h20 := h2
  obtain ⟨p1, n1, c1, p2, n2, c2, p3, n3, c3, rfl, -⟩ := hx
  obtain ⟨q1, m1, d1, rfl, -⟩ := h1
  obtain ⟨q2, m2, d2, rfl, -⟩ := h2
  refine vc_tree_Join _ p1 n1 c1 _ p2 n2 c2 _ p3 n3 c3 r1 q1 m1 d1 r2 q2 m2 d2 V _ fun V1 k1 => (c_geo_LnOf' (hx0.le k1) hbx).mono ?_
  rintro r V2 k2 ⟨ww, rfl, ⟨x1, x2, x3, y1, y2, y3, z1, z2, z3, rfl⟩, hw⟩
  have k02 := k1.trans k2
  refine ⟨_, _, _, _, _, _, _, _, _, _, rfl, fun V3 k3 => (c_bsp_Of' hb1 (h10.le (k02.trans k3))).mono ?_⟩
  rintro r V4 k4 ⟨a, rfl, ha⟩
  have k04 := k02.trans (k3.trans k4)
  refine ⟨_, _, rfl, fun V5 k5 => (c_bsp_Of' hb2 (h20.le (k04.trans k5))).mono ?_⟩
  rintro r V6 k6 ⟨b, rfl, hb⟩
  have k06 := k04.trans (k5.trans k6)
  have fin : ∀ V7 : View, joinT x (ofT l1 r1) (ofT l2 r2) = none → ∃ o e, Value.tuple #[.agg #[.int .i64 0, .slice none 0 0], y] = .tuple #[o, e] ∧ (joinT x (ofT l1 r1) (ofT l2 r2) = none → o = .agg #[.int .i64 0, .slice none 0 0] ∧ e = y) ∧
      (∀ t, joinT x (ofT l1 r1) (ofT l2 r2) = some t → if 65536 < t.size then o = .agg #[.int .i64 0, .slice none 0 0] ∧ e = z else AT V7 o (rt 0 t) (wr 0 t) ∧ e = .nilIface) := by
    intro V7 h
    exact ⟨_, _, rfl, fun _ => ⟨rfl, rfl⟩, fun t ht => by rw [h] at ht; cases ht⟩
  refine ⟨_, _, rfl, fun g1 => ⟨y, ⟨_, rfl, hy.le k06⟩, fun V7 k7 => fin V7 ?_⟩, fun g1 => ⟨fun g2 => ⟨y, ⟨_, rfl, hy.le k06⟩, fun V8 k8 => fin V8 ?_⟩, fun g2 => ⟨fun g3 => ⟨y, ⟨_, rfl, hy.le k06⟩, fun V9 k9 => fin V9 ?_⟩, fun g3 V10 k10 => ?_⟩⟩⟩
  · have g1 : okL x = false := by simpa using g1
    unfold joinT
    split
    · rw [g1]; rfl
    · rfl
  · have g2 : ofT l1 r1 = none := by simpa using g2
    unfold joinT; rw [g2]
  · have g3 : ofT l2 r2 = none := by simpa using g3
    unfold joinT; rw [g3]; split <;> first | rfl | (rename_i h; cases h)
  · have g1 : okL x = true := by simpa using g1
    have g2 : (ofT l1 r1).isSome = true := by simpa using g2
    have g3 : (ofT l2 r2).isSome = true := by simpa using g3
    obtain ⟨s, hs⟩ := Option.isSome_iff_exists.1 g2
    obtain ⟨t, ht⟩ := Option.isSome_iff_exists.1 g3
    have ls : V2.Le V10 := k3.trans (k4.trans (k5.trans (k6.trans k10)))
    refine (c_bsp_New ((hw g1).le ls) ((ha s hs).le (k5.trans (k6.trans k10))) ((hb t ht).le k10)).mono ?_
    have hj : joinT x (ofT l1 r1) (ofT l2 r2) = some (.node x s t) := by unfold joinT; rw [hs, ht, g1]; rfl
    rintro r V11 k11 ⟨p, rfl, hp⟩
    have hall1 := ofT_all hb1 hs
    have hall2 := ofT_all hb2 ht
    have ss := ofT_size hs
    have st := ofT_size ht
    refine ⟨p, rfl, fun V12 k12 => (c_bsp_Limited (hp.le k12) ⟨hbx, hall1, hall2⟩ (by simp only [Tr.size]; omega) (hz.le (k06.trans (k10.trans (k11.trans k12))))).mono ?_⟩
    rintro r V13 k13 ⟨o, e, rfl, ho⟩
    rw [hj]
    by_cases hbig : 65536 < (Tr.node x s t).size
    · rw [if_pos hbig] at ho
      obtain ⟨rfl, rfl⟩ := ho
      refine ⟨_, _, _, _, _, rfl, fun V14 k14 => ⟨_, _, rfl, (fun h => by cases h), fun u hu => ?_⟩⟩
      cases hu
      rw [if_pos hbig]; exact ⟨rfl, rfl⟩
    · rw [if_neg hbig] at ho
      obtain ⟨ho, rfl⟩ := ho
      have ho0 := ho
      obtain ⟨q, n, c, rfl, -⟩ := ho
      refine ⟨_, _, _, _, _, rfl, fun V14 k14 => ⟨_, _, rfl, (fun h => by cases h), fun u hu => ?_⟩⟩
      cases hu
      rw [if_neg hbig]; exact ⟨ho0.le k14, rfl⟩

theorem c_tree_Same {V : View} {v w : Value} {r1 r2 : Int} {l1 l2 : List Nd} (h1 : AT V v r1 l1) (h2 : AT V w r2 l2) (hb1 : ∀ x ∈ l1, Bd x.ln) (hb2 : ∀ x ∈ l2, Bd x.ln) :
    Acts prog 13 #[v, w] V fun r V' => r = .bool (match ofT l1 r1, ofT l2 r2 with | some a, some b => decide (a = b) | _, _ => false) := by
  have h10 := h1
  have h20 := h2
  obtain ⟨q1, m1, d1, rfl, -⟩ := h1
  obtain ⟨q2, m2, d2, rfl, -⟩ := h2
  refine vc_tree_Same r1 q1 m1 d1 r2 q2 m2 d2 V _ fun V1 k1 => (c_bsp_Of' hb1 (h10.le k1)).mono ?_
  rintro r V2 k2 ⟨a, rfl, ha⟩
  refine ⟨_, _, rfl, fun V3 k3 => (c_bsp_Of' hb2 (h20.le (k1.trans (k2.trans k3)))).mono ?_⟩
  rintro r V4 k4 ⟨b, rfl, hb⟩
  refine ⟨_, _, rfl, fun g1 => ⟨fun g2 V5 k5 => ?_, fun g2 V8 k8 => ?_⟩, fun g1 V9 k9 => ?_⟩
  · obtain ⟨s, hs⟩ := Option.isSome_iff_exists.1 g1
    obtain ⟨t, ht⟩ := Option.isSome_iff_exists.1 g2
    refine (c_bsp_Same s t ((ha s hs).le (k3.trans (k4.trans k5))) ((hb t ht).le k5) (ofT_all hb1 hs) (ofT_all hb2 ht)).mono ?_
    rintro r V6 k6 rfl
    refine ⟨_, rfl, fun V7 k7 => ?_⟩
    rw [hs, ht]
  · have g2 : ofT l2 r2 = none := by simpa using g2
    rw [g2]
    cases ofT l1 r1 <;> rfl
  · have g1 : ofT l1 r1 = none := by simpa using g1
    rw [g1]

theorem c_tree_Order {V : View} {v : Value} {r1 : Int} {l1 : List Nd} (h1 : AT V v r1 l1) (hb1 : ∀ x ∈ l1, Bd x.ln) {y : Value} (hy : Sent V 1 y) :
    Acts prog 10 #[v] V fun r V' => ∃ o e, r = .tuple #[o, e] ∧ (ofT l1 r1 = none → o = .agg #[.int .i64 0, .slice none 0 0] ∧ e = y) ∧ (∀ t, ofT l1 r1 = some t → AT V' o (rt 0 t) (wr 0 t) ∧ e = .nilIface) := by
  have h10 := h1
  obtain ⟨q1, m1, d1, rfl, -⟩ := h1
  refine vc_tree_Order r1 q1 m1 d1 V _ fun V1 k1 => (c_bsp_Of' hb1 (h10.le k1)).mono ?_
  rintro r V2 k2 ⟨a, rfl, ha⟩
  refine ⟨_, _, rfl, fun g1 => ⟨y, ⟨_, rfl, hy.le (k1.trans k2)⟩, fun V3 k3 => ⟨_, _, rfl, fun _ => ⟨rfl, rfl⟩, fun t ht => ?_⟩⟩, fun g1 V4 k4 => ?_⟩
  · have g1 : ofT l1 r1 = none := by simpa using g1
    rw [g1] at ht; cases ht
  · have g1 : (ofT l1 r1).isSome = true := by simpa using g1
    obtain ⟨s, hs⟩ := Option.isSome_iff_exists.1 g1
    have := ofT_size hs
    refine (c_bsp_API ((ha s hs).le k4) (ofT_all hb1 hs) (by omega)).mono ?_
    rintro r V5 k5 ⟨q, n, c, rfl, hns⟩
    refine ⟨_, _, _, _, rfl, fun V6 k6 => ⟨_, _, rfl, (fun h => by rw [hs] at h; cases h), fun t ht => ?_⟩⟩
    rw [hs] at ht; cases ht
    exact ⟨⟨_, _, _, rfl, hns.le k6⟩, rfl⟩
end Go.Proofs.Tryz
/- Contracts of the reference 04: Through. -/
namespace Go.Proofs.Tryz
open Go.Eng Go.Big

theorem RQ.ofNat {V : View} {p : Option Addr} {n c x : Nat} (h : RN V p n c x) {b : Bool} (hb : b = decide ((x : Int) < 0)) : RQ V (.agg #[.bool b, .slice p n c, .slice none 0 0]) ((x : Int) : Rat) :=
  rq_of (z := (x : Int)) (d := 1) rfl rfl h RD.nil hb
theorem RQ.int {V : View} {q : Rat} {b : Bool} {p : Option Addr} {n c : Nat} {p' : Option Addr} {n' c' : Nat} (h : RQ V (.agg #[.bool b, .slice p n c, .slice p' n' c']) q) : RI V (.agg #[.bool b, .slice p n c]) q.num := by
  obtain ⟨p1, n1, c1, p2, n2, c2, e, h1, h2⟩ := h
  cases e
  exact ⟨_, _, _, rfl, h1⟩
theorem RQ.den {V : View} {q : Rat} {b : Bool} {p : Option Addr} {n c : Nat} {p' : Option Addr} {n' c' : Nat} (h : RQ V (.agg #[.bool b, .slice p n c, .slice p' n' c']) q) : RD V p' n' c' (dend q.den) := by
  obtain ⟨p1, n1, c1, p2, n2, c2, e, h1, h2⟩ := h
  cases e
  exact h2

/-- The coefficients that Through hands to MakeL. -/
def thr (px py qx qy : Rat) : Rat × Rat × Rat :=
  let a := -(qy - py); let b := qx - px; let c := -(a * px + b * py)
  let f : Rat := (((a.den * b.den * c.den : Nat) : Int) : Rat)
  (a * f, b * f, c * f)

theorem sz_nat {n k : Nat} (h : n < 2 ^ k) (hk : 0 < k) : Sz k (((n : Nat) : Int) : Rat) := by
  refine ⟨?_, ?_⟩
  · show ((n : Nat) : Int).natAbs < _
    simpa using h
  · show 1 < 2 ^ k
    exact Nat.one_lt_two_pow (by omega)

theorem c_ref04_Through {V : View} {u w : Value} {px py qx qy : Rat} (hp : RP V u px py) (hq : RP V w qx qy) {k : Nat} (s1 : Sz k px) (s2 : Sz k py) (s3 : Sz k qx) (s4 : Sz k qy) (hk1 : 1 ≤ k) (hk : 64 * k + 64 < 274877906944) :
    Acts prog 15 #[u, w] V fun r V' => ((thr px py qx qy).1.num = 0 ∧ (thr px py qx qy).2.1.num = 0 → ∃ l, r = .tuple #[l, .bool false] ∧ RL V' l 0 0 0) ∧
      (¬ ((thr px py qx qy).1.num = 0 ∧ (thr px py qx qy).2.1.num = 0) → ∃ l, r = .tuple #[l, .bool true] ∧
        RL V' l ((thr px py qx qy).1.num / (gcd3 (thr px py qx qy).1.num (thr px py qx qy).2.1.num (thr px py qx qy).2.2.num : Int)) ((thr px py qx qy).2.1.num / (gcd3 (thr px py qx qy).1.num (thr px py qx qy).2.1.num (thr px py qx qy).2.2.num : Int)) ((thr px py qx qy).2.2.num / (gcd3 (thr px py qx qy).1.num (thr px py qx qy).2.1.num (thr px py qx qy).2.2.num : Int))) := by
  have hp0 := hp
  have hq0 := hq
  obtain ⟨p1, n1, c1, p2, n2, c2, p3, n3, c3, p4, n4, c4, rfl, hp1, hp2⟩ := hp
  obtain ⟨q1, m1, e1, q2, m2, e2, q3, m3, e3, q4, m4, e4, rfl, -, -⟩ := hq
  refine vc_ref04_Through _ p1 n1 c1 p2 n2 c2 _ p3 n3 c3 p4 n4 c4 _ q1 m1 e1 q2 m2 e2 _ q3 m3 e3 q4 m4 e4 V _ fun V1 l1 => (c_ref04_Sub (hq0.le l1) (hp0.le l1) s3 s4 s1 s2 hk1 (by omega)).mono ?_
  rintro r V2 l2 ⟨a1, a2, a3, a4, a5, a6, a7, a8, a9, a10, a11, a12, rfl, hb, hd⟩
  have tb : Sz (k + k + 1) (qx - px) := s3.sub s1
  have td : Sz (k + k + 1) (qy - py) := s4.sub s2
  have l02 := l1.trans l2
  refine ⟨_, _, _, _, _, _, _, _, _, _, _, _, _, _, rfl, fun V3 l3 => (c_num_Opp (qy - py) (by obtain ⟨_, _, _, _, _, _, e, h1, h2⟩ := hd.le l3; cases e; exact h1) (RQ.den (hd.le l3))).mono ?_⟩
  rintro r V4 l4 ha
  obtain ⟨b1, b2, b3, b4, b5, b6, rfl⟩ := ha.shape
  have ta := td.neg
  have hthr : thr px py qx qy = (-(qy - py) * (((((-(qy - py)).den * (qx - px).den * (-(-(qy - py) * px + (qx - px) * py)).den : Nat) : Int) : Rat)), (qx - px) * (((((-(qy - py)).den * (qx - px).den * (-(-(qy - py) * px + (qx - px) * py)).den : Nat) : Int) : Rat)), (-(-(qy - py) * px + (qx - px) * py)) * (((((-(qy - py)).den * (qx - px).den * (-(-(qy - py) * px + (qx - px) * py)).den : Nat) : Int) : Rat))) := rfl
  rw [hthr]
  generalize -(qy - py) = A at *
  generalize qx - px = B at *
  replace hb := hb.le (l3.trans l4)
  replace hp1 := hp1.le (l02.trans (l3.trans l4))
  replace hp2 := hp2.le (l02.trans (l3.trans l4))
  refine ⟨_, _, _, _, _, _, _, rfl, fun V5 l5 => (c_num_Times (ha.le l5) (hp1.le l5) ta s1 (by omega)).mono ?_⟩
  rintro r V6 l6 g6
  obtain ⟨d1, d2, d3, d4, d5, d6, rfl⟩ := g6.shape
  refine ⟨_, _, _, _, _, _, _, rfl, fun V7 l7 => (c_num_Times (hb.le (l5.trans (l6.trans l7))) (hp2.le (l5.trans (l6.trans l7))) tb s2 (by omega)).mono ?_⟩
  rintro r V8 l8 g8
  obtain ⟨f1, f2, f3, f4, f5, f6, rfl⟩ := g8.shape
  refine ⟨_, _, _, _, _, _, _, rfl, fun V9 l9 => (c_num_Plus (g6.le (l7.trans (l8.trans l9))) (g8.le l9) (ta.mul s1) (tb.mul s2) (by omega)).mono ?_⟩
  rintro r V10 l10 g10
  have tc := ((ta.mul s1).add (tb.mul s2)).neg
  obtain ⟨i1, i2, i3, i4, i5, i6, rfl⟩ := g10.shape
  refine ⟨_, _, _, _, _, _, _, rfl, fun V11 l11 => (c_num_Opp (A * px + B * py) (by obtain ⟨_, _, _, _, _, _, e, h1, h2⟩ := g10.le l11; cases e; exact h1) (RQ.den (g10.le l11))).mono ?_⟩
  rintro r V12 l12 hc
  generalize -(A * px + B * py) = C at *
  obtain ⟨j1, j2, j3, j4, j5, j6, rfl⟩ := hc.shape
  have l012 := l5.trans (l6.trans (l7.trans (l8.trans (l9.trans (l10.trans (l11.trans l12))))))
  replace ha := ha.le l012
  replace hb := hb.le l012
  refine ⟨_, _, _, _, _, _, _, rfl, fun V13 l13 => (c_num_Den A _ (RQ.den (ha.le l13))).mono ?_⟩
  rintro r V14 l14 ⟨k1, k2, k3, rfl, g14⟩
  refine ⟨_, _, _, rfl, fun V15 l15 => (c_num_Den B _ (RQ.den (hb.le (l13.trans (l14.trans l15))))).mono ?_⟩
  rintro r V16 l16 ⟨k4, k5, k6, rfl, g16⟩
  obtain ⟨-, da, -⟩ := den_one_len ta
  obtain ⟨-, db, -⟩ := den_one_len tb
  obtain ⟨-, dc, -⟩ := den_one_len tc
  refine ⟨_, _, _, rfl, fun V17 l17 => (c_num_Product (g14.le (l15.trans (l16.trans l17))) (g16.le l17) (by omega)).mono ?_⟩
  rintro r V18 l18 ⟨k7, k8, k9, rfl, g18⟩
  rw [val_digs, val_digs] at g18
  refine ⟨_, _, _, rfl, fun V19 l19 => (c_num_Den C _ (RQ.den (hc.le (l13.trans (l14.trans (l15.trans (l16.trans (l17.trans (l18.trans l19))))))))).mono ?_⟩
  rintro r V20 l20 ⟨k10, k11, k12, rfl, g20⟩
  have dab := digs_mul_len (a := A.den) (b := B.den)
  refine ⟨_, _, _, rfl, fun V21 l21 => (c_num_Product (g18.le (l19.trans (l20.trans l21))) (g20.le l21) (by omega)).mono ?_⟩
  rintro r V22 l22 ⟨k13, k14, k15, rfl, g22⟩
  rw [val_digs, val_digs] at g22
  have tf : Sz (k + k + 1 + (k + k + 1) + (k + k + 1 + k + 1 + (k + k + 1 + k + 1) + 1)) (((A.den * B.den * C.den : Nat) : Int) : Rat) := sz_nat (pow_mul_lt (pow_mul_lt ta.2 tb.2) tc.2) (by omega)
  generalize A.den * B.den * C.den = M at *
  refine ⟨_, _, _, rfl, fun V23 l23 => (c_num_pos (g22.le l23)).mono ?_⟩
  rintro r V24 l24 ⟨k16, k17, k18, rfl, g24⟩
  have hf := RQ.ofNat g24 rfl
  have l024 := l13.trans (l14.trans (l15.trans (l16.trans (l17.trans (l18.trans (l19.trans (l20.trans (l21.trans (l22.trans (l23.trans l24))))))))))
  refine ⟨_, _, _, _, rfl, fun V25 l25 => (c_num_Times (ha.le (l024.trans l25)) (hf.le l25) ta tf (by omega)).mono ?_⟩
  rintro r V26 l26 g26
  obtain ⟨o1, o2, o3, o4, o5, o6, rfl⟩ := g26.shape
  refine ⟨_, _, _, _, _, _, _, rfl, fun V27 l27 => (c_num_Times (hb.le (l024.trans (l25.trans (l26.trans l27)))) (hf.le (l25.trans (l26.trans l27))) tb tf (by omega)).mono ?_⟩
  rintro r V28 l28 g28
  obtain ⟨o7, o8, o9, o10, o11, o12, rfl⟩ := g28.shape
  refine ⟨_, _, _, _, _, _, _, rfl, fun V29 l29 => (c_num_Times (hc.le (l024.trans (l25.trans (l26.trans (l27.trans (l28.trans l29)))))) (hf.le (l25.trans (l26.trans (l27.trans (l28.trans l29))))) tc tf (by omega)).mono ?_⟩
  rintro r V30 l30 g30
  obtain ⟨t1, t2, t3, t4, t5, t6, rfl⟩ := g30.shape
  refine ⟨_, _, _, _, _, _, _, rfl, fun V31 l31 => (c_ref04_MakeL (RQ.int (g26.le (l27.trans (l28.trans (l29.trans (l30.trans l31)))))) (RQ.int (g28.le (l29.trans (l30.trans l31)))) (RQ.int (g30.le l31)) (Nat.le_trans (den_one_len (ta.mul tf)).1 (by omega)) (Nat.le_trans (den_one_len (tb.mul tf)).1 (by omega)) (Nat.le_trans (den_one_len (tc.mul tf)).1 (by omega))).mono ?_⟩
  rintro r V32 l32 ⟨z1, z2⟩
  by_cases hz : (A * ((M : Int) : Rat)).num = 0 ∧ (B * ((M : Int) : Rat)).num = 0
  · obtain ⟨l, rfl, y1, y2, y3, y4, y5, y6, y7, y8, y9, rfl, w1, w2, w3⟩ := z1 hz
    exact ⟨_, _, _, _, _, _, _, _, _, _, _, _, _, rfl, fun V33 l33 => ⟨fun _ => ⟨_, rfl, _, _, _, _, _, _, _, _, _, rfl, w1.le l33, w2.le l33, w3.le l33⟩, fun h => absurd hz h⟩⟩
  · obtain ⟨l, rfl, y1, y2, y3, y4, y5, y6, y7, y8, y9, rfl, w1, w2, w3⟩ := z2 hz
    exact ⟨_, _, _, _, _, _, _, _, _, _, _, _, _, rfl, fun V33 l33 => ⟨fun h => absurd h hz, fun _ => ⟨_, rfl, _, _, _, _, _, _, _, _, _, rfl, w1.le l33, w2.le l33, w3.le l33⟩⟩⟩
end Go.Proofs.Tryz
/- By program: the conditions of the functions, from their loaded code. -/
namespace Go.Proofs.Tryz
open Go.Eng
set_option maxRecDepth 100000

theorem vc_law14_known  (V : View) (R : Value → View → Prop)
    (h : (∀ V1 : View, V.Le V1 → Acts prog 16 #[.int .i64 0, .int .i64 0] V1 fun r1_ V2 => ∃ b1_ : Bool, ∃ (p2_ : Option Addr) (n2_ c2_ : Nat), ∃ (p3_ : Option Addr) (n3_ c3_ : Nat), ∃ b4_ : Bool, ∃ (p5_ : Option Addr) (n5_ c5_ : Nat), ∃ (p6_ : Option Addr) (n6_ c6_ : Nat), r1_ = .agg #[.bool b1_, .slice p2_ n2_ c2_, .slice p3_ n3_ c3_, .bool b4_, .slice p5_ n5_ c5_, .slice p6_ n6_ c6_] ∧ (∀ V3 : View, V2.Le V3 → Acts prog 16 #[.int .i64 1, .int .i64 0] V3 fun r3_ V4 => ∃ b7_ : Bool, ∃ (p8_ : Option Addr) (n8_ c8_ : Nat), ∃ (p9_ : Option Addr) (n9_ c9_ : Nat), ∃ b10_ : Bool, ∃ (p11_ : Option Addr) (n11_ c11_ : Nat), ∃ (p12_ : Option Addr) (n12_ c12_ : Nat), r3_ = .agg #[.bool b7_, .slice p8_ n8_ c8_, .slice p9_ n9_ c9_, .bool b10_, .slice p11_ n11_ c11_, .slice p12_ n12_ c12_] ∧ (∀ V5 : View, V4.Le V5 → Acts prog 15 #[.agg #[.bool b1_, .slice p2_ n2_ c2_, .slice p3_ n3_ c3_, .bool b4_, .slice p5_ n5_ c5_, .slice p6_ n6_ c6_], .agg #[.bool b7_, .slice p8_ n8_ c8_, .slice p9_ n9_ c9_, .bool b10_, .slice p11_ n11_ c11_, .slice p12_ n12_ c12_]] V5 fun r5_ V6 => ∃ b13_ : Bool, ∃ (p14_ : Option Addr) (n14_ c14_ : Nat), ∃ b15_ : Bool, ∃ (p16_ : Option Addr) (n16_ c16_ : Nat), ∃ b17_ : Bool, ∃ (p18_ : Option Addr) (n18_ c18_ : Nat), ∃ b19_ : Bool, r5_ = .tuple #[.agg #[.bool b13_, .slice p14_ n14_ c14_, .bool b15_, .slice p16_ n16_ c16_, .bool b17_, .slice p18_ n18_ c18_], .bool b19_] ∧ (∀ V7 : View, V6.Le V7 → Acts prog 23 #[.int .i64 (-2)] V7 fun r7_ V8 => ∃ x20_ : Int, ∃ (p21_ : Option Addr) (n21_ c21_ : Nat), ∃ y22_ : Value, r7_ = .tuple #[.agg #[.int .i64 x20_, .slice p21_ n21_ c21_], y22_] ∧ (∀ V9 : View, V8.Le V9 → Acts prog 23 #[.int .i64 (-1)] V9 fun r9_ V10 => ∃ x23_ : Int, ∃ (p24_ : Option Addr) (n24_ c24_ : Nat), ∃ y25_ : Value, r9_ = .tuple #[.agg #[.int .i64 x23_, .slice p24_ n24_ c24_], y25_] ∧ (∀ V11 : View, V10.Le V11 → Acts prog 17 #[.agg #[.bool b13_, .slice p14_ n14_ c14_, .bool b15_, .slice p16_ n16_ c16_, .bool b17_, .slice p18_ n18_ c18_]] V11 fun r11_ V12 => ∃ b26_ : Bool, ∃ (p27_ : Option Addr) (n27_ c27_ : Nat), ∃ b28_ : Bool, ∃ (p29_ : Option Addr) (n29_ c29_ : Nat), ∃ b30_ : Bool, ∃ (p31_ : Option Addr) (n31_ c31_ : Nat), r11_ = .agg #[.bool b26_, .slice p27_ n27_ c27_, .bool b28_, .slice p29_ n29_ c29_, .bool b30_, .slice p31_ n31_ c31_] ∧ (∀ V13 : View, V12.Le V13 → Acts prog 18 #[.agg #[.bool b26_, .slice p27_ n27_ c27_, .bool b28_, .slice p29_ n29_ c29_, .bool b30_, .slice p31_ n31_ c31_], .agg #[.int .i64 x20_, .slice p21_ n21_ c21_], .agg #[.int .i64 x23_, .slice p24_ n24_ c24_]] V13 fun r13_ V14 => ∃ x32_ : Int, ∃ (p33_ : Option Addr) (n33_ c33_ : Nat), ∃ y34_ : Value, r13_ = .tuple #[.agg #[.int .i64 x32_, .slice p33_ n33_ c33_], y34_] ∧ (IsIface y22_) ∧ (((isNilI y22_) = true → (IsIface y25_) ∧ (((isNilI y25_) = true → (IsIface y34_) ∧ (((isNilI y34_) = true → (((x32_ == (0 : Int)) = true → (((((n33_ : Nat) : Int) == (1 : Int)) = true → (p33_.isSome = true) ∧ (0 ≤ (0 : Int) ∧ (0 : Int) < ((n33_ : Nat) : Int)) ∧ ((addrAdd p33_ 0).isSome = true) ∧ (∃ x35_ : Int, (∃ a36_, addrAdd (addrAdd p33_ 0) 6 = some a36_ ∧ V14.at a36_ (.int .i64 x35_)) ∧ (((x35_ == (-2 : Int)) = true → (p33_.isSome = true) ∧ (0 ≤ (0 : Int) ∧ (0 : Int) < ((n33_ : Nat) : Int)) ∧ ((addrAdd p33_ 0).isSome = true) ∧ (∃ x37_ : Int, (∃ a38_, addrAdd (addrAdd p33_ 0) 7 = some a38_ ∧ V14.at a38_ (.int .i64 x37_)) ∧ (((x37_ == (-1 : Int)) = true → (∀ V15 : View, V14.Le V15 → Acts prog 14 #[.agg #[.int .i64 x32_, .slice p33_ n33_ c33_]] V15 fun r15_ V16 => ∃ b39_ : Bool, r15_ = .bool b39_ ∧ (∀ V17 : View, V16.Le V17 → R (.bool b39_) V17))) ∧ ((x37_ == (-1 : Int)) = false → (∀ V18 : View, V14.Le V18 → R (.bool false) V18))))) ∧ ((x35_ == (-2 : Int)) = false → (∀ V19 : View, V14.Le V19 → R (.bool false) V19))))) ∧ ((((n33_ : Nat) : Int) == (1 : Int)) = false → (∀ V20 : View, V14.Le V20 → R (.bool false) V20)))) ∧ ((x32_ == (0 : Int)) = false → (∀ V21 : View, V14.Le V21 → R (.bool false) V21)))) ∧ ((isNilI y34_) = false → (∀ V22 : View, V14.Le V22 → R (.bool false) V22)))) ∧ ((isNilI y25_) = false → (∀ V23 : View, V14.Le V23 → R (.bool false) V23)))) ∧ ((isNilI y22_) = false → (∀ V24 : View, V14.Le V24 → R (.bool false) V24))))))))))) :
    Acts prog 11 #[] V R :=
  fn_does (LF := [8, 20, 25, 46, 48, 52, 93, 24, 1000024]) (RF := [1000006]) (β0 := (fun _ => 0)) tab_ok mixed [] [] func11 (by kernel_rfl)
    []
    [] (by kernel_rfl) trivial h (by kernel_rfl)

theorem vc_law14_TreeLimit (more : Int) (V : View) (R : Value → View → Prop)
    (h : (((decide (more ≥ (24 : Int))) = true → (∀ V1 : View, V.Le V1 → Acts prog 11 #[] V1 fun r1_ V2 => ∃ b1_ : Bool, r1_ = .bool b1_ ∧ (∀ V3 : View, V2.Le V3 → R (.bool b1_) V3))) ∧ ((decide (more ≥ (24 : Int))) = false → (∀ V4 : View, V.Le V4 → Acts prog 16 #[.int .i64 0, .int .i64 0] V4 fun r4_ V5 => ∃ b2_ : Bool, ∃ (p3_ : Option Addr) (n3_ c3_ : Nat), ∃ (p4_ : Option Addr) (n4_ c4_ : Nat), ∃ b5_ : Bool, ∃ (p6_ : Option Addr) (n6_ c6_ : Nat), ∃ (p7_ : Option Addr) (n7_ c7_ : Nat), r4_ = .agg #[.bool b2_, .slice p3_ n3_ c3_, .slice p4_ n4_ c4_, .bool b5_, .slice p6_ n6_ c6_, .slice p7_ n7_ c7_] ∧ (∀ V6 : View, V5.Le V6 → Acts prog 16 #[.int .i64 1, .int .i64 0] V6 fun r6_ V7 => ∃ b8_ : Bool, ∃ (p9_ : Option Addr) (n9_ c9_ : Nat), ∃ (p10_ : Option Addr) (n10_ c10_ : Nat), ∃ b11_ : Bool, ∃ (p12_ : Option Addr) (n12_ c12_ : Nat), ∃ (p13_ : Option Addr) (n13_ c13_ : Nat), r6_ = .agg #[.bool b8_, .slice p9_ n9_ c9_, .slice p10_ n10_ c10_, .bool b11_, .slice p12_ n12_ c12_, .slice p13_ n13_ c13_] ∧ (∀ V8 : View, V7.Le V8 → Acts prog 15 #[.agg #[.bool b2_, .slice p3_ n3_ c3_, .slice p4_ n4_ c4_, .bool b5_, .slice p6_ n6_ c6_, .slice p7_ n7_ c7_], .agg #[.bool b8_, .slice p9_ n9_ c9_, .slice p10_ n10_ c10_, .bool b11_, .slice p12_ n12_ c12_, .slice p13_ n13_ c13_]] V8 fun r8_ V9 => ∃ b14_ : Bool, ∃ (p15_ : Option Addr) (n15_ c15_ : Nat), ∃ b16_ : Bool, ∃ (p17_ : Option Addr) (n17_ c17_ : Nat), ∃ b18_ : Bool, ∃ (p19_ : Option Addr) (n19_ c19_ : Nat), ∃ b20_ : Bool, r8_ = .tuple #[.agg #[.bool b14_, .slice p15_ n15_ c15_, .bool b16_, .slice p17_ n17_ c17_, .bool b18_, .slice p19_ n19_ c19_], .bool b20_] ∧ ((8 : Int) ≠ 0) ∧ (0 ≤ IntKind.i64.wrap ((65532 : Int) + (IntKind.i64.wrap (more.tmod (8 : Int))))) ∧ (IntKind.i64.wrap ((65532 : Int) + (IntKind.i64.wrap (more.tmod (8 : Int)))) ≤ IntKind.i64.wrap ((65532 : Int) + (IntKind.i64.wrap (more.tmod (8 : Int))))) ∧ (((112 : Nat) : Int) * (IntKind.i64.wrap ((65532 : Int) + (IntKind.i64.wrap (more.tmod (8 : Int))))) ≤ 140737488355328) ∧ (∃ (I21_ : (Int × (List Value)) → View → Prop) (m22_ : (Int × (List Value)) → Nat), (∃ z23_ : Int × (List Value), (((0 : Nat) = 0) ∧ ((IntKind.i64.wrap ((65532 : Int) + (IntKind.i64.wrap (more.tmod (8 : Int))))) = (IntKind.i64.wrap ((65532 : Int) + (IntKind.i64.wrap (more.tmod (8 : Int)))))) ∧ ((0 : Nat) = 0) ∧ ((((IntKind.i64.wrap ((65532 : Int) + (IntKind.i64.wrap (more.tmod (8 : Int))))).toNat : Nat) : Int) = (((IntKind.i64.wrap ((65532 : Int) + (IntKind.i64.wrap (more.tmod (8 : Int))))).toNat : Nat) : Int)) ∧ ((0 : Int) = z23_.1) ∧ (b14_ = b14_) ∧ ((p15_ : Option Addr) = p15_) ∧ ((n15_ : Nat) = n15_) ∧ ((c15_ : Nat) = c15_) ∧ (b16_ = b16_) ∧ ((p17_ : Option Addr) = p17_) ∧ ((n17_ : Nat) = n17_) ∧ ((c17_ : Nat) = c17_) ∧ (b18_ = b18_) ∧ ((p19_ : Option Addr) = p19_) ∧ ((n19_ : Nat) = n19_) ∧ ((c19_ : Nat) = c19_) ∧ ((0 : Int) = (0 : Int)) ∧ ((0 : Nat) = 0) ∧ (((IntKind.i64.wrap ((65532 : Int) + (IntKind.i64.wrap (more.tmod (8 : Int))))).toNat : Nat) = (IntKind.i64.wrap ((65532 : Int) + (IntKind.i64.wrap (more.tmod (8 : Int))))).toNat) ∧ (((IntKind.i64.wrap ((65532 : Int) + (IntKind.i64.wrap (more.tmod (8 : Int))))).toNat : Nat) = (IntKind.i64.wrap ((65532 : Int) + (IntKind.i64.wrap (more.tmod (8 : Int))))).toNat) ∧ ((zrow ((IntKind.i64.wrap ((65532 : Int) + (IntKind.i64.wrap (more.tmod (8 : Int))))).toNat) [.bool false, .slice none 0 0, .bool false, .slice none 0 0, .bool false, .slice none 0 0, .int .i64 0, .int .i64 0]) = z23_.2)) ∧ I21_ z23_ V9) ∧ ∀ (z24_ : Int × (List Value)) (V10 : View), V9.Le V10 → I21_ z24_ V10 → (true = true ∧ (((decide (z24_.1 < (((IntKind.i64.wrap ((65532 : Int) + (IntKind.i64.wrap (more.tmod (8 : Int))))).toNat : Nat) : Int))) = true → (∀ V11 : View, V10.Le V11 → Acts prog 17 #[.agg #[.bool b14_, .slice p15_ n15_ c15_, .bool b16_, .slice p17_ n17_ c17_, .bool b18_, .slice p19_ n19_ c19_]] V11 fun r11_ V12 => ∃ b25_ : Bool, ∃ (p26_ : Option Addr) (n26_ c26_ : Nat), ∃ b27_ : Bool, ∃ (p28_ : Option Addr) (n28_ c28_ : Nat), ∃ b29_ : Bool, ∃ (p30_ : Option Addr) (n30_ c30_ : Nat), r11_ = .agg #[.bool b25_, .slice p26_ n26_ c26_, .bool b27_, .slice p28_ n28_ c28_, .bool b29_, .slice p30_ n30_ c30_] ∧ (0 ≤ z24_.1 ∧ z24_.1 < (((IntKind.i64.wrap ((65532 : Int) + (IntKind.i64.wrap (more.tmod (8 : Int))))).toNat : Nat) : Int)) ∧ ((0 + (z24_.1.toNat * 8)) + 8 ≤ z24_.2.length) ∧ (∃ z31_ : Int × (List Value), m22_ z31_ < m22_ z24_ ∧ (((0 : Nat) = 0) ∧ ((IntKind.i64.wrap ((65532 : Int) + (IntKind.i64.wrap (more.tmod (8 : Int))))) = (IntKind.i64.wrap ((65532 : Int) + (IntKind.i64.wrap (more.tmod (8 : Int)))))) ∧ ((0 : Nat) = 0) ∧ ((((IntKind.i64.wrap ((65532 : Int) + (IntKind.i64.wrap (more.tmod (8 : Int))))).toNat : Nat) : Int) = (((IntKind.i64.wrap ((65532 : Int) + (IntKind.i64.wrap (more.tmod (8 : Int))))).toNat : Nat) : Int)) ∧ ((IntKind.i64.wrap (z24_.1 + (1 : Int))) = z31_.1) ∧ (b14_ = b14_) ∧ ((p15_ : Option Addr) = p15_) ∧ ((n15_ : Nat) = n15_) ∧ ((c15_ : Nat) = c15_) ∧ (b16_ = b16_) ∧ ((p17_ : Option Addr) = p17_) ∧ ((n17_ : Nat) = n17_) ∧ ((c17_ : Nat) = c17_) ∧ (b18_ = b18_) ∧ ((p19_ : Option Addr) = p19_) ∧ ((n19_ : Nat) = n19_) ∧ ((c19_ : Nat) = c19_) ∧ ((0 : Int) = (0 : Int)) ∧ ((0 : Nat) = 0) ∧ (((IntKind.i64.wrap ((65532 : Int) + (IntKind.i64.wrap (more.tmod (8 : Int))))).toNat : Nat) = (IntKind.i64.wrap ((65532 : Int) + (IntKind.i64.wrap (more.tmod (8 : Int))))).toNat) ∧ (((IntKind.i64.wrap ((65532 : Int) + (IntKind.i64.wrap (more.tmod (8 : Int))))).toNat : Nat) = (IntKind.i64.wrap ((65532 : Int) + (IntKind.i64.wrap (more.tmod (8 : Int))))).toNat) ∧ ((setVals z24_.2 (0 + (z24_.1.toNat * 8)) [.bool b25_, .slice p26_ n26_ c26_, .bool b27_, .slice p28_ n28_ c28_, .bool b29_, .slice p30_ n30_ c30_, .int .i64 (-2), .int .i64 (IntKind.i64.wrap (z24_.1 + (1 : Int)))]) = z31_.2)) ∧ I21_ z31_ V12))) ∧ ((decide (z24_.1 < (((IntKind.i64.wrap ((65532 : Int) + (IntKind.i64.wrap (more.tmod (8 : Int))))).toNat : Nat) : Int))) = false → (0 ≤ (IntKind.i64.wrap ((IntKind.i64.wrap ((65532 : Int) + (IntKind.i64.wrap (more.tmod (8 : Int))))) - (1 : Int))) ∧ (IntKind.i64.wrap ((IntKind.i64.wrap ((65532 : Int) + (IntKind.i64.wrap (more.tmod (8 : Int))))) - (1 : Int))) < (((IntKind.i64.wrap ((65532 : Int) + (IntKind.i64.wrap (more.tmod (8 : Int))))).toNat : Nat) : Int)) ∧ (((0 + (((IntKind.i64.wrap ((IntKind.i64.wrap ((65532 : Int) + (IntKind.i64.wrap (more.tmod (8 : Int))))) - (1 : Int))).toNat) * 8)) + 7) + 1 ≤ z24_.2.length) ∧ (((decide ((IntKind.i64.wrap ((65532 : Int) + (IntKind.i64.wrap (more.tmod (8 : Int))))) > (65536 : Int))) = true → (∀ V13 : View, V10.Le V13 → Acts prog 11 #[] V13 fun r13_ V14 => ∃ b32_ : Bool, r13_ = .bool b32_ ∧ ((b32_ = true → (∀ V15 : View, V14.Le V15 → ∀ bk33_ : Nat, (V15.blk bk33_ (.cells (z24_.2.set ((0 + (((IntKind.i64.wrap ((IntKind.i64.wrap ((65532 : Int) + (IntKind.i64.wrap (more.tmod (8 : Int))))) - (1 : Int))).toNat) * 8)) + 7) (.int .i64 (-1))).toArray 60 (0, 0))) → Acts prog 14 #[.agg #[.int .i64 0, .slice (some ⟨bk33_, 0, none⟩) ((IntKind.i64.wrap ((65532 : Int) + (IntKind.i64.wrap (more.tmod (8 : Int))))).toNat) ((IntKind.i64.wrap ((65532 : Int) + (IntKind.i64.wrap (more.tmod (8 : Int))))).toNat)]] V15 fun r15_ V16 => ∃ b34_ : Bool, r15_ = .bool b34_ ∧ ∀ J35_ : C → Value, (∀ V17 : View, V16.Le V17 → R (.bool (!b34_)) V17))) ∧ (b32_ = false → (∀ V18 : View, V14.Le V18 → R (.bool false) V18))))) ∧ ((decide ((IntKind.i64.wrap ((65532 : Int) + (IntKind.i64.wrap (more.tmod (8 : Int))))) > (65536 : Int))) = false → (∀ V19 : View, V10.Le V19 → ∀ bk36_ : Nat, (V19.blk bk36_ (.cells (z24_.2.set ((0 + (((IntKind.i64.wrap ((IntKind.i64.wrap ((65532 : Int) + (IntKind.i64.wrap (more.tmod (8 : Int))))) - (1 : Int))).toNat) * 8)) + 7) (.int .i64 (-1))).toArray 60 (0, 0))) → ∀ J37_ : C → Value, (∀ V20 : View, V19.Le V20 → Acts prog 17 #[.agg #[.bool b14_, .slice p15_ n15_ c15_, .bool b16_, .slice p17_ n17_ c17_, .bool b18_, .slice p19_ n19_ c19_]] V20 fun r20_ V21 => ∃ b38_ : Bool, ∃ (p39_ : Option Addr) (n39_ c39_ : Nat), ∃ b40_ : Bool, ∃ (p41_ : Option Addr) (n41_ c41_ : Nat), ∃ b42_ : Bool, ∃ (p43_ : Option Addr) (n43_ c43_ : Nat), r20_ = .agg #[.bool b38_, .slice p39_ n39_ c39_, .bool b40_, .slice p41_ n41_ c41_, .bool b42_, .slice p43_ n43_ c43_] ∧ (∀ V22 : View, V21.Le V22 → Acts prog 18 #[.agg #[.bool b38_, .slice p39_ n39_ c39_, .bool b40_, .slice p41_ n41_ c41_, .bool b42_, .slice p43_ n43_ c43_], .agg #[.int .i64 0, .slice (some ⟨bk36_, 0, none⟩) ((IntKind.i64.wrap ((65532 : Int) + (IntKind.i64.wrap (more.tmod (8 : Int))))).toNat) ((IntKind.i64.wrap ((65532 : Int) + (IntKind.i64.wrap (more.tmod (8 : Int))))).toNat)], .agg #[.int .i64 (-2), .slice none 0 0]] V22 fun r22_ V23 => ∃ x44_ : Int, ∃ (p45_ : Option Addr) (n45_ c45_ : Nat), ∃ y46_ : Value, r22_ = .tuple #[.agg #[.int .i64 x44_, .slice p45_ n45_ c45_], y46_] ∧ (∀ V24 : View, V23.Le V24 → Acts prog 11 #[] V24 fun r24_ V25 => ∃ b47_ : Bool, r24_ = .bool b47_ ∧ ((b47_ = true → (∀ V26 : View, V25.Le V26 → Acts prog 14 #[.agg #[.int .i64 0, .slice (some ⟨bk36_, 0, none⟩) ((IntKind.i64.wrap ((65532 : Int) + (IntKind.i64.wrap (more.tmod (8 : Int))))).toNat) ((IntKind.i64.wrap ((65532 : Int) + (IntKind.i64.wrap (more.tmod (8 : Int))))).toNat)]] V26 fun r26_ V27 => ∃ b48_ : Bool, r26_ = .bool b48_ ∧ ((b48_ = true → (∃ y49_ : Value, (∃ a50_, (some ⟨0, 0, none⟩ : Option Addr) = some a50_ ∧ V27.at a50_ (y49_)) ∧ (∀ V28 : View, V27.Le V28 → Acts prog 19 #[y46_, y49_] V28 fun r28_ V29 => ∃ b51_ : Bool, r28_ = .bool b51_ ∧ (((((IntKind.i64.wrap ((65532 : Int) + (IntKind.i64.wrap (more.tmod (8 : Int))))) == (65536 : Int)) == b51_) = true → ((((IntKind.i64.wrap ((65532 : Int) + (IntKind.i64.wrap (more.tmod (8 : Int))))) == (65536 : Int)) = true → (∀ V30 : View, V29.Le V30 → R (.bool true) V30)) ∧ (((IntKind.i64.wrap ((65532 : Int) + (IntKind.i64.wrap (more.tmod (8 : Int))))) == (65536 : Int)) = false → (IsIface y46_) ∧ (∀ V31 : View, V29.Le V31 → R (.bool (isNilI y46_)) V31)))) ∧ ((((IntKind.i64.wrap ((65532 : Int) + (IntKind.i64.wrap (more.tmod (8 : Int))))) == (65536 : Int)) == b51_) = false → (∀ V32 : View, V29.Le V32 → R (.bool false) V32)))))) ∧ (b48_ = false → (∀ V33 : View, V27.Le V33 → R (.bool false) V33))))) ∧ (b47_ = false → (∀ V34 : View, V25.Le V34 → R (.bool false) V34))))))))))))))))))) :
    Acts prog 4 #[.int .u8 more] V R :=
  fn_does (LF := [8, 20, 25, 46, 48, 52, 93, 24, 1000024]) (RF := [1000006, 11400024]) (β0 := (fun _ => 0)) tab_ok mixed [(7, { τ := Int × (List Value), keep := [3, 5, 6, 28], keepB := [3, 6], slots := fun z => [(29, .c (.v (.int .i64 z.1)))], boxes := fun z => [(24, ⟨.row z.2, 60⟩)] })] [] func4 (by kernel_rfl)
    [(0, .c (.v (.int .u8 more)))]
    [] (by kernel_rfl) trivial h (by kernel_rfl)

theorem vc_law14_TreeOrders (lp : Option Addr) (ln lc : Nat) (by_ : Int) (V : View) (R : Value → View → Prop)
    (h : (∀ V1 : View, V.Le V1 → Acts prog 6 #[.slice lp ln lc] V1 fun r1_ V2 => ∃ bk1_ : Nat, ∃ (p2_ : Option Addr) (n2_ c2_ : Nat), ∃ x3_ : Int, r1_ = .pointer (some ⟨bk1_, 0, none⟩) ∧ V1.w.heap.size ≤ bk1_ ∧ V2.blk bk1_ (.cells #[.slice p2_ n2_ c2_, .int .i64 x3_] 73 (0, 0)) ∧ (∀ V3 : View, (V2.hide bk1_).Le V3 → ∀ bk4_ : Nat, (V3.w.heap[bk4_]? = some (.cells #[.slice p2_ n2_ c2_, .int .i64 x3_] 73 (0, 0))) → (V3.H bk4_) → Acts prog 8 #[.pointer (some ⟨bk4_, 0, none⟩), .int .i64 4] (V3.lend [bk4_]) fun r3_ V4 => ∃ p5_ : Option Addr, r3_ = .pointer p5_ ∧ ∃ (p6_ : Option Addr) (n6_ c6_ : Nat), ∃ x7_ : Int, V4.w.heap[bk4_]? = some (.cells #[.slice p6_ n6_ c6_, .int .i64 x7_] 73 (0, 0)) ∧ (∀ V5 : View, V4.shut.Le V5 → Acts prog 7 #[.pointer p5_] V5 fun r5_ V6 => ∃ x8_ : Int, ∃ (p9_ : Option Addr) (n9_ c9_ : Nat), r5_ = .agg #[.int .i64 x8_, .slice p9_ n9_ c9_] ∧ (∀ V7 : View, V6.Le V7 → ∀ bk10_ : Nat, (V7.w.heap[bk10_]? = some (.cells #[.slice p6_ n6_ c6_, .int .i64 x7_] 73 (0, 0))) → (V7.H bk10_) → Acts prog 8 #[.pointer (some ⟨bk10_, 0, none⟩), .int .i64 4] (V7.lend [bk10_]) fun r7_ V8 => ∃ p11_ : Option Addr, r7_ = .pointer p11_ ∧ ∃ (p12_ : Option Addr) (n12_ c12_ : Nat), ∃ x13_ : Int, V8.w.heap[bk10_]? = some (.cells #[.slice p12_ n12_ c12_, .int .i64 x13_] 73 (0, 0)) ∧ (∀ V9 : View, V8.shut.Le V9 → Acts prog 7 #[.pointer p11_] V9 fun r9_ V10 => ∃ x14_ : Int, ∃ (p15_ : Option Addr) (n15_ c15_ : Nat), r9_ = .agg #[.int .i64 x14_, .slice p15_ n15_ c15_] ∧ (∀ V11 : View, V10.Le V11 → Acts prog 9 #[.agg #[.int .i64 x8_, .slice p9_ n9_ c9_], .int .i64 by_] V11 fun r11_ V12 => ∃ x16_ : Int, ∃ (p17_ : Option Addr) (n17_ c17_ : Nat), r11_ = .agg #[.int .i64 x16_, .slice p17_ n17_ c17_] ∧ (∀ V13 : View, V12.Le V13 → Acts prog 10 #[.agg #[.int .i64 x16_, .slice p17_ n17_ c17_]] V13 fun r13_ V14 => ∃ x18_ : Int, ∃ (p19_ : Option Addr) (n19_ c19_ : Nat), ∃ y20_ : Value, r13_ = .tuple #[.agg #[.int .i64 x18_, .slice p19_ n19_ c19_], y20_] ∧ (∀ V15 : View, V14.Le V15 → Acts prog 11 #[] V15 fun r15_ V16 => ∃ b21_ : Bool, r15_ = .bool b21_ ∧ ((b21_ = true → (IsIface y20_) ∧ (((isNilI y20_) = true → (∀ V17 : View, V16.Le V17 → Acts prog 12 #[.agg #[.int .i64 x18_, .slice p19_ n19_ c19_], .agg #[.int .i64 x8_, .slice p9_ n9_ c9_]] V17 fun r17_ V18 => ∃ b22_ : Bool, r17_ = .bool b22_ ∧ ((b22_ = true → (∀ V19 : View, V18.Le V19 → Acts prog 13 #[.agg #[.int .i64 x16_, .slice p17_ n17_ c17_], .agg #[.int .i64 x8_, .slice p9_ n9_ c9_]] V19 fun r19_ V20 => ∃ b23_ : Bool, r19_ = .bool b23_ ∧ ((b23_ = true → (∀ V21 : View, V20.Le V21 → Acts prog 13 #[.agg #[.int .i64 x16_, .slice p17_ n17_ c17_], .agg #[.int .i64 x14_, .slice p15_ n15_ c15_]] V21 fun r21_ V22 => ∃ b24_ : Bool, r21_ = .bool b24_ ∧ (∀ V23 : View, V22.Le V23 → Acts prog 12 #[.agg #[.int .i64 x8_, .slice p9_ n9_ c9_], .agg #[.int .i64 x14_, .slice p15_ n15_ c15_]] V23 fun r23_ V24 => ∃ b25_ : Bool, r23_ = .bool b25_ ∧ (((b24_ == b25_) = true → (∀ V25 : View, V24.Le V25 → Acts prog 14 #[.agg #[.int .i64 x16_, .slice p17_ n17_ c17_]] V25 fun r25_ V26 => ∃ b26_ : Bool, r25_ = .bool b26_ ∧ (∀ V27 : View, V26.Le V27 → R (.bool b26_) V27))) ∧ ((b24_ == b25_) = false → (∀ V28 : View, V24.Le V28 → R (.bool false) V28)))))) ∧ (b23_ = false → (∀ V29 : View, V20.Le V29 → R (.bool false) V29))))) ∧ (b22_ = false → (∀ V30 : View, V18.Le V30 → R (.bool false) V30))))) ∧ ((isNilI y20_) = false → (∀ V31 : View, V16.Le V31 → R (.bool false) V31)))) ∧ (b21_ = false → (∀ V32 : View, V16.Le V32 → R (.bool false) V32)))))))))))) :
    Acts prog 3 #[.slice lp ln lc, .int .i64 by_] V R :=
  fn_does (LF := [8, 20, 25, 46, 48, 52, 93, 24, 1000024]) (RF := [1000006]) (β0 := (fun _ => 0)) tab_ok mixed [] [] func3 (by kernel_rfl)
    [(0, .c (.v (.slice lp ln lc))), (1, .c (.v (.int .i64 by_)))]
    [] (by kernel_rfl) trivial h (by kernel_rfl)

theorem vc_law14_TreeJoins (lp : Option Addr) (ln lc : Nat) (code : Int) (by_ : Int) (V : View) (R : Value → View → Prop)
    (h : (∀ V1 : View, V.Le V1 → Acts prog 6 #[.slice lp ln lc] V1 fun r1_ V2 => ∃ bk1_ : Nat, ∃ (p2_ : Option Addr) (n2_ c2_ : Nat), ∃ x3_ : Int, r1_ = .pointer (some ⟨bk1_, 0, none⟩) ∧ V1.w.heap.size ≤ bk1_ ∧ V2.blk bk1_ (.cells #[.slice p2_ n2_ c2_, .int .i64 x3_] 73 (0, 0)) ∧ (∀ V3 : View, (V2.hide bk1_).Le V3 → ∀ bk4_ : Nat, (V3.w.heap[bk4_]? = some (.cells #[.slice p2_ n2_ c2_, .int .i64 x3_] 73 (0, 0))) → (V3.H bk4_) → Acts prog 20 #[.pointer (some ⟨bk4_, 0, none⟩)] (V3.lend [bk4_]) fun r3_ V4 => ∃ b5_ : Bool, ∃ (p6_ : Option Addr) (n6_ c6_ : Nat), ∃ b7_ : Bool, ∃ (p8_ : Option Addr) (n8_ c8_ : Nat), ∃ b9_ : Bool, ∃ (p10_ : Option Addr) (n10_ c10_ : Nat), r3_ = .agg #[.bool b5_, .slice p6_ n6_ c6_, .bool b7_, .slice p8_ n8_ c8_, .bool b9_, .slice p10_ n10_ c10_] ∧ ∃ (p11_ : Option Addr) (n11_ c11_ : Nat), ∃ x12_ : Int, V4.w.heap[bk4_]? = some (.cells #[.slice p11_ n11_ c11_, .int .i64 x12_] 73 (0, 0)) ∧ (∀ V5 : View, V4.shut.Le V5 → ∀ bk13_ : Nat, (V5.w.heap[bk13_]? = some (.cells #[.slice p11_ n11_ c11_, .int .i64 x12_] 73 (0, 0))) → (V5.H bk13_) → Acts prog 8 #[.pointer (some ⟨bk13_, 0, none⟩), .int .i64 3] (V5.lend [bk13_]) fun r5_ V6 => ∃ p14_ : Option Addr, r5_ = .pointer p14_ ∧ ∃ (p15_ : Option Addr) (n15_ c15_ : Nat), ∃ x16_ : Int, V6.w.heap[bk13_]? = some (.cells #[.slice p15_ n15_ c15_, .int .i64 x16_] 73 (0, 0)) ∧ (∀ V7 : View, V6.shut.Le V7 → ∀ bk17_ : Nat, (V7.w.heap[bk17_]? = some (.cells #[.slice p15_ n15_ c15_, .int .i64 x16_] 73 (0, 0))) → (V7.H bk17_) → Acts prog 8 #[.pointer (some ⟨bk17_, 0, none⟩), .int .i64 3] (V7.lend [bk17_]) fun r7_ V8 => ∃ p18_ : Option Addr, r7_ = .pointer p18_ ∧ ∃ (p19_ : Option Addr) (n19_ c19_ : Nat), ∃ x20_ : Int, V8.w.heap[bk17_]? = some (.cells #[.slice p19_ n19_ c19_, .int .i64 x20_] 73 (0, 0)) ∧ (∀ V9 : View, V8.shut.Le V9 → ∀ bk21_ : Nat, (V9.blk bk21_ (.cells #[.bool false, .bool false, .bool b5_, .slice p6_ n6_ c6_, .bool b7_, .slice p8_ n8_ c8_, .bool b9_, .slice p10_ n10_ c10_, .pointer p14_, .pointer p18_] 66 (0, 0))) → ∀ J22_ : C → Value, ((some ⟨bk21_, 0, none⟩ : Option Addr).isSome = true) ∧ (∃ b23_ : Bool, ∃ (p24_ : Option Addr) (n24_ c24_ : Nat), ∃ b25_ : Bool, ∃ (p26_ : Option Addr) (n26_ c26_ : Nat), ∃ b27_ : Bool, ∃ (p28_ : Option Addr) (n28_ c28_ : Nat), ∃ a29_, addrAdd (some ⟨bk21_, 0, none⟩) 2 = some a29_ ∧ V9.at (a29_.add 0) (.bool b23_) ∧ V9.at (a29_.add 1) (.slice p24_ n24_ c24_) ∧ V9.at (a29_.add 2) (.bool b25_) ∧ V9.at (a29_.add 3) (.slice p26_ n26_ c26_) ∧ V9.at (a29_.add 4) (.bool b27_) ∧ V9.at (a29_.add 5) (.slice p28_ n28_ c28_) ∧ ((some ⟨bk21_, 0, none⟩ : Option Addr).isSome = true) ∧ (∃ p30_ : Option Addr, (∃ a31_, addrAdd (some ⟨bk21_, 0, none⟩) 8 = some a31_ ∧ V9.at a31_ (.pointer p30_)) ∧ ((some ⟨bk21_, 0, none⟩ : Option Addr).isSome = true) ∧ (∃ p32_ : Option Addr, (∃ a33_, addrAdd (some ⟨bk21_, 0, none⟩) 9 = some a33_ ∧ V9.at a33_ (.pointer p32_)) ∧ (∀ V10 : View, V9.Le V10 → Acts prog 17 #[.agg #[.bool b23_, .slice p24_ n24_ c24_, .bool b25_, .slice p26_ n26_ c26_, .bool b27_, .slice p28_ n28_ c28_]] V10 fun r10_ V11 => ∃ b34_ : Bool, ∃ (p35_ : Option Addr) (n35_ c35_ : Nat), ∃ b36_ : Bool, ∃ (p37_ : Option Addr) (n37_ c37_ : Nat), ∃ b38_ : Bool, ∃ (p39_ : Option Addr) (n39_ c39_ : Nat), r10_ = .agg #[.bool b34_, .slice p35_ n35_ c35_, .bool b36_, .slice p37_ n37_ c37_, .bool b38_, .slice p39_ n39_ c39_] ∧ (∀ V12 : View, V11.Le V12 → Acts prog 7 #[.pointer p30_] V12 fun r12_ V13 => ∃ x40_ : Int, ∃ (p41_ : Option Addr) (n41_ c41_ : Nat), r12_ = .agg #[.int .i64 x40_, .slice p41_ n41_ c41_] ∧ (∀ V14 : View, V13.Le V14 → Acts prog 9 #[.agg #[.int .i64 x40_, .slice p41_ n41_ c41_], .int .i64 by_] V14 fun r14_ V15 => ∃ x42_ : Int, ∃ (p43_ : Option Addr) (n43_ c43_ : Nat), r14_ = .agg #[.int .i64 x42_, .slice p43_ n43_ c43_] ∧ (∀ V16 : View, V15.Le V16 → Acts prog 7 #[.pointer p32_] V16 fun r16_ V17 => ∃ x44_ : Int, ∃ (p45_ : Option Addr) (n45_ c45_ : Nat), r16_ = .agg #[.int .i64 x44_, .slice p45_ n45_ c45_] ∧ (∀ V18 : View, V17.Le V18 → Acts prog 9 #[.agg #[.int .i64 x44_, .slice p45_ n45_ c45_], .int .i64 by_] V18 fun r18_ V19 => ∃ x46_ : Int, ∃ (p47_ : Option Addr) (n47_ c47_ : Nat), r18_ = .agg #[.int .i64 x46_, .slice p47_ n47_ c47_] ∧ (∀ V20 : View, V19.Le V20 → Acts prog 18 #[.agg #[.bool b34_, .slice p35_ n35_ c35_, .bool b36_, .slice p37_ n37_ c37_, .bool b38_, .slice p39_ n39_ c39_], .agg #[.int .i64 x42_, .slice p43_ n43_ c43_], .agg #[.int .i64 x46_, .slice p47_ n47_ c47_]] V20 fun r20_ V21 => ∃ x48_ : Int, ∃ (p49_ : Option Addr) (n49_ c49_ : Nat), ∃ y50_ : Value, r20_ = .tuple #[.agg #[.int .i64 x48_, .slice p49_ n49_ c49_], y50_] ∧ (IsIface y50_) ∧ (((!isNilI y50_) = true → (∀ V22 : View, V21.Le V22 → R (.bool false) V22)) ∧ ((!isNilI y50_) = false → (∀ V23 : View, V21.Le V23 → Acts prog 7 #[.pointer (some ⟨bk21_, 0, none⟩)] V23 fun r23_ V24 => ∃ x51_ : Int, ∃ (p52_ : Option Addr) (n52_ c52_ : Nat), r23_ = .agg #[.int .i64 x51_, .slice p52_ n52_ c52_] ∧ (∀ V25 : View, V24.Le V25 → Acts prog 12 #[.agg #[.int .i64 x48_, .slice p49_ n49_ c49_], .agg #[.int .i64 x51_, .slice p52_ n52_ c52_]] V25 fun r25_ V26 => ∃ b53_ : Bool, r25_ = .bool b53_ ∧ (((!b53_) = true → (∀ V27 : View, V26.Le V27 → R (.bool false) V27)) ∧ ((!b53_) = false → (∀ V28 : View, V26.Le V28 → Acts prog 9 #[.agg #[.int .i64 x48_, .slice p49_ n49_ c49_], .int .i64 by_] V28 fun r28_ V29 => ∃ x54_ : Int, ∃ (p55_ : Option Addr) (n55_ c55_ : Nat), r28_ = .agg #[.int .i64 x54_, .slice p55_ n55_ c55_] ∧ (∀ V30 : View, V29.Le V30 → Acts prog 21 #[.agg #[.int .i64 x54_, .slice p55_ n55_ c55_]] V30 fun r30_ V31 => ∃ b56_ : Bool, ∃ (p57_ : Option Addr) (n57_ c57_ : Nat), ∃ b58_ : Bool, ∃ (p59_ : Option Addr) (n59_ c59_ : Nat), ∃ b60_ : Bool, ∃ (p61_ : Option Addr) (n61_ c61_ : Nat), ∃ x62_ : Int, ∃ (p63_ : Option Addr) (n63_ c63_ : Nat), ∃ x64_ : Int, ∃ (p65_ : Option Addr) (n65_ c65_ : Nat), ∃ y66_ : Value, r30_ = .tuple #[.agg #[.bool b56_, .slice p57_ n57_ c57_, .bool b58_, .slice p59_ n59_ c59_, .bool b60_, .slice p61_ n61_ c61_], .agg #[.int .i64 x62_, .slice p63_ n63_ c63_], .agg #[.int .i64 x64_, .slice p65_ n65_ c65_], y66_] ∧ (IsIface y66_) ∧ (((!isNilI y66_) = true → (∀ V32 : View, V31.Le V32 → R (.bool false) V32)) ∧ ((!isNilI y66_) = false → ((some ⟨bk21_, 0, none⟩ : Option Addr).isSome = true) ∧ (∃ b67_ : Bool, ∃ (p68_ : Option Addr) (n68_ c68_ : Nat), ∃ b69_ : Bool, ∃ (p70_ : Option Addr) (n70_ c70_ : Nat), ∃ b71_ : Bool, ∃ (p72_ : Option Addr) (n72_ c72_ : Nat), ∃ a73_, addrAdd (some ⟨bk21_, 0, none⟩) 2 = some a73_ ∧ V31.at (a73_.add 0) (.bool b67_) ∧ V31.at (a73_.add 1) (.slice p68_ n68_ c68_) ∧ V31.at (a73_.add 2) (.bool b69_) ∧ V31.at (a73_.add 3) (.slice p70_ n70_ c70_) ∧ V31.at (a73_.add 4) (.bool b71_) ∧ V31.at (a73_.add 5) (.slice p72_ n72_ c72_) ∧ (∀ V33 : View, V31.Le V33 → Acts prog 17 #[.agg #[.bool b67_, .slice p68_ n68_ c68_, .bool b69_, .slice p70_ n70_ c70_, .bool b71_, .slice p72_ n72_ c72_]] V33 fun r33_ V34 => ∃ b74_ : Bool, ∃ (p75_ : Option Addr) (n75_ c75_ : Nat), ∃ b76_ : Bool, ∃ (p77_ : Option Addr) (n77_ c77_ : Nat), ∃ b78_ : Bool, ∃ (p79_ : Option Addr) (n79_ c79_ : Nat), r33_ = .agg #[.bool b74_, .slice p75_ n75_ c75_, .bool b76_, .slice p77_ n77_ c77_, .bool b78_, .slice p79_ n79_ c79_] ∧ (∀ V35 : View, V34.Le V35 → Acts prog 22 #[.agg #[.bool b56_, .slice p57_ n57_ c57_, .bool b58_, .slice p59_ n59_ c59_, .bool b60_, .slice p61_ n61_ c61_], .agg #[.bool b74_, .slice p75_ n75_ c75_, .bool b76_, .slice p77_ n77_ c77_, .bool b78_, .slice p79_ n79_ c79_]] V35 fun r35_ V36 => ∃ b80_ : Bool, r35_ = .bool b80_ ∧ (((!b80_) = true → (∀ V37 : View, V36.Le V37 → R (.bool false) V37)) ∧ ((!b80_) = false → ((some ⟨bk21_, 0, none⟩ : Option Addr).isSome = true) ∧ (∃ p81_ : Option Addr, (∃ a82_, addrAdd (some ⟨bk21_, 0, none⟩) 8 = some a82_ ∧ V36.at a82_ (.pointer p81_)) ∧ (∀ V38 : View, V36.Le V38 → Acts prog 7 #[.pointer p81_] V38 fun r38_ V39 => ∃ x83_ : Int, ∃ (p84_ : Option Addr) (n84_ c84_ : Nat), r38_ = .agg #[.int .i64 x83_, .slice p84_ n84_ c84_] ∧ (∀ V40 : View, V39.Le V40 → Acts prog 12 #[.agg #[.int .i64 x62_, .slice p63_ n63_ c63_], .agg #[.int .i64 x83_, .slice p84_ n84_ c84_]] V40 fun r40_ V41 => ∃ b85_ : Bool, r40_ = .bool b85_ ∧ (((!b85_) = true → (∀ V42 : View, V41.Le V42 → R (.bool false) V42)) ∧ ((!b85_) = false → ((some ⟨bk21_, 0, none⟩ : Option Addr).isSome = true) ∧ (∃ p86_ : Option Addr, (∃ a87_, addrAdd (some ⟨bk21_, 0, none⟩) 9 = some a87_ ∧ V41.at a87_ (.pointer p86_)) ∧ (∀ V43 : View, V41.Le V43 → Acts prog 7 #[.pointer p86_] V43 fun r43_ V44 => ∃ x88_ : Int, ∃ (p89_ : Option Addr) (n89_ c89_ : Nat), r43_ = .agg #[.int .i64 x88_, .slice p89_ n89_ c89_] ∧ (∀ V45 : View, V44.Le V45 → Acts prog 12 #[.agg #[.int .i64 x64_, .slice p65_ n65_ c65_], .agg #[.int .i64 x88_, .slice p89_ n89_ c89_]] V45 fun r45_ V46 => ∃ b90_ : Bool, r45_ = .bool b90_ ∧ (((!b90_) = true → (∀ V47 : View, V46.Le V47 → R (.bool false) V47)) ∧ ((!b90_) = false → (∀ V48 : View, V46.Le V48 → Acts prog 18 #[.agg #[.bool false, .slice none 0 0, .bool false, .slice none 0 0, .bool false, .slice none 0 0], .agg #[.int .i64 x62_, .slice p63_ n63_ c63_], .agg #[.int .i64 x64_, .slice p65_ n65_ c65_]] V48 fun r48_ V49 => ∃ x91_ : Int, ∃ (p92_ : Option Addr) (n92_ c92_ : Nat), ∃ y93_ : Value, r48_ = .tuple #[.agg #[.int .i64 x91_, .slice p92_ n92_ c92_], y93_] ∧ (∀ V50 : View, V49.Le V50 → Acts prog 23 #[.int .i64 code] V50 fun r50_ V51 => ∃ x94_ : Int, ∃ (p95_ : Option Addr) (n95_ c95_ : Nat), ∃ y96_ : Value, r50_ = .tuple #[.agg #[.int .i64 x94_, .slice p95_ n95_ c95_], y96_] ∧ (∃ y97_ : Value, (∃ a98_, (some ⟨1, 0, none⟩ : Option Addr) = some a98_ ∧ V51.at a98_ (y97_)) ∧ (∀ V52 : View, V51.Le V52 → Acts prog 19 #[y93_, y97_] V52 fun r52_ V53 => ∃ b99_ : Bool, r52_ = .bool b99_ ∧ (((!b99_) = true → (∀ V54 : View, V53.Le V54 → R (.bool false) V54)) ∧ ((!b99_) = false → (((code != (-2 : Int)) = true → (((code != (-1 : Int)) = true → (∀ V55 : View, V53.Le V55 → Acts prog 11 #[] V55 fun r55_ V56 => ∃ b100_ : Bool, r55_ = .bool b100_ ∧ ((b100_ = true → (∃ y101_ : Value, (∃ a102_, (some ⟨1, 0, none⟩ : Option Addr) = some a102_ ∧ V56.at a102_ (y101_)) ∧ (∀ V57 : View, V56.Le V57 → Acts prog 19 #[y96_, y101_] V57 fun r57_ V58 => ∃ b103_ : Bool, r57_ = .bool b103_ ∧ (∀ V59 : View, V58.Le V59 → R (.bool b103_) V59)))) ∧ (b100_ = false → (∀ V60 : View, V56.Le V60 → R (.bool false) V60))))) ∧ ((code != (-1 : Int)) = false → (∀ V61 : View, V53.Le V61 → Acts prog 21 #[.agg #[.int .i64 x94_, .slice p95_ n95_ c95_]] V61 fun r61_ V62 => ∃ b104_ : Bool, ∃ (p105_ : Option Addr) (n105_ c105_ : Nat), ∃ b106_ : Bool, ∃ (p107_ : Option Addr) (n107_ c107_ : Nat), ∃ b108_ : Bool, ∃ (p109_ : Option Addr) (n109_ c109_ : Nat), ∃ x110_ : Int, ∃ (p111_ : Option Addr) (n111_ c111_ : Nat), ∃ x112_ : Int, ∃ (p113_ : Option Addr) (n113_ c113_ : Nat), ∃ y114_ : Value, r61_ = .tuple #[.agg #[.bool b104_, .slice p105_ n105_ c105_, .bool b106_, .slice p107_ n107_ c107_, .bool b108_, .slice p109_ n109_ c109_], .agg #[.int .i64 x110_, .slice p111_ n111_ c111_], .agg #[.int .i64 x112_, .slice p113_ n113_ c113_], y114_] ∧ (∀ V63 : View, V62.Le V63 → Acts prog 11 #[] V63 fun r63_ V64 => ∃ b115_ : Bool, r63_ = .bool b115_ ∧ ((b115_ = true → (IsIface y96_) ∧ (((isNilI y96_) = true → (((x94_ == code) = true → (((((n95_ : Nat) : Int) == (0 : Int)) = true → (∃ y116_ : Value, (∃ a117_, (some ⟨2, 0, none⟩ : Option Addr) = some a117_ ∧ V64.at a117_ (y116_)) ∧ (∀ V65 : View, V64.Le V65 → Acts prog 19 #[y114_, y116_] V65 fun r65_ V66 => ∃ b118_ : Bool, r65_ = .bool b118_ ∧ (∀ V67 : View, V66.Le V67 → R (.bool b118_) V67)))) ∧ ((((n95_ : Nat) : Int) == (0 : Int)) = false → (∀ V68 : View, V64.Le V68 → R (.bool false) V68)))) ∧ ((x94_ == code) = false → (∀ V69 : View, V64.Le V69 → R (.bool false) V69)))) ∧ ((isNilI y96_) = false → (∀ V70 : View, V64.Le V70 → R (.bool false) V70)))) ∧ (b115_ = false → (∀ V71 : View, V64.Le V71 → R (.bool false) V71)))))))) ∧ ((code != (-2 : Int)) = false → (∀ V72 : View, V53.Le V72 → Acts prog 21 #[.agg #[.int .i64 x94_, .slice p95_ n95_ c95_]] V72 fun r72_ V73 => ∃ b119_ : Bool, ∃ (p120_ : Option Addr) (n120_ c120_ : Nat), ∃ b121_ : Bool, ∃ (p122_ : Option Addr) (n122_ c122_ : Nat), ∃ b123_ : Bool, ∃ (p124_ : Option Addr) (n124_ c124_ : Nat), ∃ x125_ : Int, ∃ (p126_ : Option Addr) (n126_ c126_ : Nat), ∃ x127_ : Int, ∃ (p128_ : Option Addr) (n128_ c128_ : Nat), ∃ y129_ : Value, r72_ = .tuple #[.agg #[.bool b119_, .slice p120_ n120_ c120_, .bool b121_, .slice p122_ n122_ c122_, .bool b123_, .slice p124_ n124_ c124_], .agg #[.int .i64 x125_, .slice p126_ n126_ c126_], .agg #[.int .i64 x127_, .slice p128_ n128_ c128_], y129_] ∧ (∀ V74 : View, V73.Le V74 → Acts prog 11 #[] V74 fun r74_ V75 => ∃ b130_ : Bool, r74_ = .bool b130_ ∧ ((b130_ = true → (IsIface y96_) ∧ (((isNilI y96_) = true → (((x94_ == code) = true → (((((n95_ : Nat) : Int) == (0 : Int)) = true → (∃ y131_ : Value, (∃ a132_, (some ⟨2, 0, none⟩ : Option Addr) = some a132_ ∧ V75.at a132_ (y131_)) ∧ (∀ V76 : View, V75.Le V76 → Acts prog 19 #[y129_, y131_] V76 fun r76_ V77 => ∃ b133_ : Bool, r76_ = .bool b133_ ∧ (∀ V78 : View, V77.Le V78 → R (.bool b133_) V78)))) ∧ ((((n95_ : Nat) : Int) == (0 : Int)) = false → (∀ V79 : View, V75.Le V79 → R (.bool false) V79)))) ∧ ((x94_ == code) = false → (∀ V80 : View, V75.Le V80 → R (.bool false) V80)))) ∧ ((isNilI y96_) = false → (∀ V81 : View, V75.Le V81 → R (.bool false) V81)))) ∧ (b130_ = false → (∀ V82 : View, V75.Le V82 → R (.bool false) V82))))))))))))))))))))))))))))))))))))))))))))))))))))) :
    Acts prog 5 #[.slice lp ln lc, .int .i64 code, .int .i64 by_] V R :=
  fn_does (LF := [8, 20, 25, 46, 48, 52, 93, 24, 1000024]) (RF := [1000006, 10400008]) (β0 := (fun _ => 0)) tab_ok mixed [] [] func5 (by kernel_rfl)
    [(0, .c (.v (.slice lp ln lc))), (1, .c (.v (.int .i64 code))), (2, .c (.v (.int .i64 by_)))]
    [] (by kernel_rfl) trivial h (by kernel_rfl)

end Go.Proofs.Tryz
/- The law's helper 'known', and the law TreeLimit. -/
namespace Go.Proofs.Tryz
open Go.Eng Go.Big

/-- The line y = 0. -/
def LL : L3 := (0, 1, 0)
theorem LL_ok : okL LL = true := by decide
theorem small_bd {z : Int} (k : Nat) (hk : k ≠ 0) (h : z.natAbs ≤ 1) : z.natAbs < 2 ^ k := Nat.lt_of_le_of_lt h (Nat.one_lt_two_pow hk)
theorem LL_bd' (k : Nat) (hk : k ≠ 0) : LL.1.natAbs < 2 ^ k ∧ LL.2.1.natAbs < 2 ^ k ∧ LL.2.2.natAbs < 2 ^ k := ⟨small_bd k hk (by decide), small_bd k hk (by decide), small_bd k hk (by decide)⟩
theorem LL_bd : Bd LL := LL_bd' 1000 (by decide)
theorem RL_shape {V : View} {v : Value} {a b c : Int} (h : RL V v a b c) : ∃ (b1 : Bool) (p1 : Option Addr) (n1 c1 : Nat) (b2 : Bool) (p2 : Option Addr) (n2 c2 : Nat) (b3 : Bool) (p3 : Option Addr) (n3 c3 : Nat), v = .agg #[.bool b1, .slice p1 n1 c1, .bool b2, .slice p2 n2 c2, .bool b3, .slice p3 n3 c3] := by
  obtain ⟨p, n, s, p', n', s', q, m, e, rfl, -⟩ := h
  exact ⟨_, _, _, _, _, _, _, _, _, _, _, _, rfl⟩

/-- Through (0, 0) and (1, 0). -/
theorem c_through_LL {V : View} {u w : Value} (hp : RP V u ((0 : Int) : Rat) ((0 : Int) : Rat)) (hq : RP V w ((1 : Int) : Rat) ((0 : Int) : Rat)) :
    Acts prog 15 #[u, w] V fun r V' => ∃ l, r = .tuple #[l, .bool true] ∧ RL V' l LL.1 LL.2.1 LL.2.2 := by
  have s0 : Sz 1 ((0 : Int) : Rat) := by unfold Sz; decide
  have s1 : Sz 1 ((1 : Int) : Rat) := sz_one
  refine (c_ref04_Through hp hq s0 s0 s1 s0 (by omega) (by omega)).mono ?_
  have e1 : (thr ((0 : Int) : Rat) ((0 : Int) : Rat) ((1 : Int) : Rat) ((0 : Int) : Rat)).1.num = 0 := by decide +kernel
  have e2 : (thr ((0 : Int) : Rat) ((0 : Int) : Rat) ((1 : Int) : Rat) ((0 : Int) : Rat)).2.1.num = 1 := by decide +kernel
  have e3 : (thr ((0 : Int) : Rat) ((0 : Int) : Rat) ((1 : Int) : Rat) ((0 : Int) : Rat)).2.2.num = 0 := by decide +kernel
  rw [e1, e2, e3]
  rintro r V' _ ⟨-, h⟩
  exact h (by omega)

/-- The two sentinels, as they are seen. -/
structure Snt (V : View) (y z : Value) : Prop where
  inv : Sent V 1 y
  lim : Sent V 0 z
  yE : SErr y
  zE : SErr z
theorem Snt.le {V V' : View} {y z : Value} (h : Snt V y z) (l : V.Le V') : Snt V' y z := ⟨h.inv.le l, h.lim.le l, h.yE, h.zE⟩
theorem SErr.isI {y : Value} (h : SErr y) : IsIface y ∧ isNilI y = false := by obtain ⟨a, rfl⟩ := h; exact ⟨.inr ⟨_, _, rfl⟩, rfl⟩
theorem nilI : IsIface .nilIface ∧ isNilI .nilIface = true := ⟨.inl rfl, rfl⟩

theorem AT.leaf {V : View} (i : Bool) : AT V (.agg #[.int .i64 (rt 0 (.leaf i)), .slice none 0 0]) (rt 0 (.leaf i)) (wr 0 (.leaf i)) := ⟨_, _, _, rfl, NS.nil⟩
theorem lines_wr {p : L3 → Prop} : ∀ {t : Tr} {k : Nat}, t.All p → ∀ x ∈ wr k t, p x.ln
  | .leaf _, _, _, x, h => by simp [wr] at h
  | .node l a b, k, ⟨h1, h2, h3⟩, x, h => by
    simp only [wr, List.mem_cons, List.mem_append] at h
    rcases h with rfl | h | h
    · exact h1
    · exact lines_wr h2 x h
    · exact lines_wr h3 x h

theorem c_known {V : View} {y z : Value} (hs : Snt V y z) : Acts prog 11 #[] V fun r V' => r = .bool true := by
  refine vc_law14_known V _ fun V1 l1 => (c_ref04_Xy 0 0 (by omega) (by omega) (by omega) (by omega)).mono ?_
  rintro r V2 l2 hp
  have hp0 := hp
  obtain ⟨p1, n1, c1, p2, n2, c2, p3, n3, c3, p4, n4, c4, rfl, -⟩ := hp
  refine ⟨_, _, _, _, _, _, _, _, _, _, _, _, _, _, rfl, fun V3 l3 => (c_ref04_Xy 1 0 (by omega) (by omega) (by omega) (by omega)).mono ?_⟩
  rintro r V4 l4 hq
  have hq0 := hq
  obtain ⟨q1, m1, d1, q2, m2, d2, q3, m3, d3, q4, m4, d4, rfl, -⟩ := hq
  refine ⟨_, _, _, _, _, _, _, _, _, _, _, _, _, _, rfl, fun V5 l5 => (c_through_LL (hp0.le (l3.trans (l4.trans l5))) (hq0.le l5)).mono ?_⟩
  rintro r V6 l6 ⟨l, rfl, hl⟩
  obtain ⟨b1, u1, v1, w1, b2, u2, v2, w2, b3, u3, v3, w3, rfl⟩ := (RL_shape hl)
  have l06 := l1.trans (l2.trans (l3.trans (l4.trans (l5.trans l6))))
  refine ⟨_, _, _, _, _, _, _, _, _, _, _, _, _, rfl, fun V7 l7 => (c_tree_Leaf (-2) (hs.inv.le (l06.trans l7))).mono ?_⟩
  rintro r V8 l8 ⟨o, e, rfl, ho⟩
  rw [if_pos (by omega)] at ho
  obtain ⟨rfl, rfl⟩ := ho
  refine ⟨_, _, _, _, _, rfl, fun V9 l9 => (c_tree_Leaf (-1) (hs.inv.le (l06.trans (l7.trans (l8.trans l9))))).mono ?_⟩
  rintro r V10 l10 ⟨o, e, rfl, ho⟩
  rw [if_pos (by omega)] at ho
  obtain ⟨rfl, rfl⟩ := ho
  have l010 := l06.trans (l7.trans (l8.trans (l9.trans l10)))
  obtain ⟨t1, t2, t3⟩ := LL_bd.digs
  refine ⟨_, _, _, _, _, rfl, fun V11 l11 => (c_ref04_ToL (hl.le (l7.trans (l8.trans (l9.trans (l10.trans l11))))) (by omega) (by omega) (by omega)).mono ?_⟩
  rintro r V12 l12 hm
  obtain ⟨b1, u1, v1, w1, b2, u2, v2, w2, b3, u3, v3, w3, rfl⟩ := (RL_shape hm)
  have o1 : ofT (wr 0 (.leaf true)) (rt 0 (.leaf true)) = some (.leaf true) := ofT_wr trivial (by simp [Tr.size])
  have o2 : ofT (wr 0 (.leaf false)) (rt 0 (.leaf false)) = some (.leaf false) := ofT_wr trivial (by simp [Tr.size])
  refine ⟨_, _, _, _, _, _, _, _, _, _, _, _, rfl, fun V13 l13 => (c_tree_Join (x := LL) (hm.le l13) LL_bd (AT.leaf true) (AT.leaf false) (fun x h => by simp [wr] at h) (fun x h => by simp [wr] at h) (hs.inv.le (l010.trans (l11.trans (l12.trans l13)))) (hs.lim.le (l010.trans (l11.trans (l12.trans l13))))).mono ?_⟩
  rintro r V14 l14 ⟨o, e, rfl, -, ho⟩
  rw [o1, o2] at ho
  have ho := ho (.node LL (.leaf true) (.leaf false)) (by unfold joinT; rw [LL_ok]; rfl)
  rw [if_neg (by simp [Tr.size])] at ho
  obtain ⟨hat, rfl⟩ := ho
  have hat0 := hat
  obtain ⟨q, n, c, rfl, hns⟩ := hat
  have hn : n = 1 := hns.len
  subst hn
  obtain ⟨_, _, _, _, _, _, _, _, _, _, _, _, a, ha, -, -, -, -, -, -, a6, a7, -⟩ := hns.rd (k := 0) (d := ⟨LL, -2, -1⟩) rfl
  have ha : addrAdd q 0 = some a := by simpa using ha
  refine ⟨_, _, _, _, _, rfl, nilI.1, fun _ => ⟨nilI.1, fun _ => ⟨nilI.1, fun _ => ⟨fun _ => ⟨fun _ => ⟨hns.isS (by omega), ⟨by omega, by omega⟩, by rw [ha]; rfl, -2, ⟨a.add 6, by rw [ha]; rfl, a6⟩, fun _ => ⟨hns.isS (by omega), ⟨by omega, by omega⟩, by rw [ha]; rfl, -1, ⟨a.add 7, by rw [ha]; rfl, a7⟩, fun _ V15 l15 => (c_tree_Valid ?_ (hat0.le l15)).mono ?_, (fun h => by simp at h)⟩, (fun h => by simp at h)⟩, (fun h => by simp at h)⟩, (fun h => by simp [rt] at h)⟩, fun h => by rw [nilI.2] at h; cases h⟩, fun h => by rw [nilI.2] at h; cases h⟩, fun h => by rw [nilI.2] at h; cases h⟩
  · exact lines_wr ⟨LL_bd, trivial, trivial⟩
  · rintro r V16 l16 rfl
    refine ⟨_, rfl, fun V17 l17 => ?_⟩
    rw [ofT_wr (t := .node LL (.leaf true) (.leaf false)) ⟨LL_ok, trivial, trivial⟩ (by simp [Tr.size])]
    rfl

/-- The tree of the law: a chain. -/
def ch : Nat → Tr
  | 0 => .leaf false
  | m + 1 => .node LL (.leaf true) (ch m)
theorem ch_size (m : Nat) : (ch m).size = m := by induction m with | zero => rfl | succ m ih => simp [ch, Tr.size, ih]
theorem ch_all {p : L3 → Prop} (h : p LL) (m : Nat) : (ch m).All p := by induction m with | zero => trivial | succ m ih => exact ⟨h, trivial, ih⟩
def chn (i : Nat) : List Nd := (List.range i).map fun j => ⟨LL, -2, ((j + 1 : Nat) : Int)⟩
theorem chn_len (i : Nat) : (chn i).length = i := by simp [chn]
theorem chn_succ (i : Nat) : chn (i + 1) = chn i ++ [⟨LL, -2, ((i + 1 : Nat) : Int)⟩] := by simp [chn, List.range_succ]
theorem wr_ch : ∀ (m k : Nat), wr k (ch (m + 1)) = ((List.range' k (m + 1)).map fun j => (⟨LL, -2, ((j + 1 : Nat) : Int)⟩ : Nd)).set m ⟨LL, -2, -1⟩
  | 0, k => rfl
  | m + 1, k => by
    have := wr_ch m (k + 1)
    rw [List.range'_succ, List.map_cons, List.set_cons_succ, ← this]
    conv => lhs; unfold ch
    simp only [wr, List.nil_append, Tr.size, Nat.add_zero]
    rfl
theorem wr_ch0 {m : Nat} (h : 0 < m) : wr 0 (ch m) = (chn m).set (m - 1) ⟨LL, -2, -1⟩ := by
  obtain ⟨k, rfl⟩ : ∃ k, m = k + 1 := ⟨m - 1, by omega⟩
  rw [wr_ch, chn, List.range_eq_range']
  rfl
theorem NS.ofBlk {V : View} {b c : Nat} {vm : List Value} {l : List Nd} {ty : TypeId} (hb : V.blk b (.cells vm.toArray ty (0, 0))) (hc : l.length ≤ c) (hr : NR V vm l) : NS V (some ⟨b, 0, none⟩) l.length c l :=
  ⟨rfl, hc, ⟨vm, fun i v hv => ⟨_, rfl, by rw [add_zero']; exact blk_at hb hv⟩, hr⟩, fun e => by cases e⟩
end Go.Proofs.Tryz
