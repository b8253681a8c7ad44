/- A part of the proof (joined by program from: TreeP, VGeo, GeoA, GeoB, GeoC, VBsp, TreeA, TreeB). -/
import Derived.Test.YtecldfbdkdkajaaGreatDoorM11
import Derived.Test.YtecldfbdkdkajaaGreatDoorM5
set_option linter.unusedVariables false
/- Trees and their lists of nodes: plain laws, no program in sight. -/
namespace Go.Proofs.Tryz
open Go.Eng Go.Big

/-- A line: its integer coefficients. -/
abbrev L3 := Int × Int × Int
def okL (x : L3) : Bool := decide (¬ (x.1 = 0 ∧ x.2.1 = 0)) && decide (gcd3 x.1 x.2.1 x.2.2 = 1)
def Bd (x : L3) : Prop := x.1.natAbs < 2 ^ 1000 ∧ x.2.1.natAbs < 2 ^ 1000 ∧ x.2.2.natAbs < 2 ^ 1000
inductive Tr where
  | leaf (i : Bool) | node (l : L3) (a b : Tr)
  deriving DecidableEq
structure Nd where
  ln : L3
  left : Int
  right : Int
  deriving DecidableEq
def Tr.size : Tr → Nat
  | .leaf _ => 0
  | .node _ a b => a.size + b.size + 1
def Tr.isLeaf : Tr → Bool
  | .leaf _ => true
  | .node .. => false
def Tr.All (p : L3 → Prop) : Tr → Prop
  | .leaf _ => True
  | .node l a b => p l ∧ a.All p ∧ b.All p
theorem Tr.All.imp {p q : L3 → Prop} (h : ∀ x, p x → q x) : ∀ {t : Tr}, t.All p → t.All q
  | .leaf _, _ => trivial
  | .node _ _ _, ⟨h1, h2, h3⟩ => ⟨h _ h1, Tr.All.imp h h2, Tr.All.imp h h3⟩
/-- The number of the root, when the nodes are written from place k on. -/
def rt (k : Nat) : Tr → Int
  | .leaf i => if i then -2 else -1
  | .node .. => (k : Int)
/-- The nodes in order, from place k on. -/
def wr : Nat → Tr → List Nd
  | _, .leaf _ => []
  | k, .node l a b => ⟨l, rt (k + 1) a, rt (k + 1 + a.size) b⟩ :: (wr (k + 1) a ++ wr (k + 1 + a.size) b)
theorem wr_length : ∀ (t : Tr) (k : Nat), (wr k t).length = t.size
  | .leaf _, _ => rfl
  | .node _ a b, k => by simp only [wr, List.length_cons, List.length_append, wr_length a, wr_length b, Tr.size]
theorem rt_inj {k : Nat} {s t : Tr} (h : rt k s = rt k t) : (∃ i, s = .leaf i ∧ t = .leaf i) ∨ ∃ l a b l' a' b', s = .node l a b ∧ t = .node l' a' b' := by
  cases s with
  | leaf i =>
    cases t with
    | leaf j => left; cases i <;> cases j <;> simp_all [rt]
    | node l a b => exfalso; simp only [rt] at h; split at h <;> omega
  | node l a b =>
    cases t with
    | leaf j => exfalso; simp only [rt] at h; split at h <;> omega
    | node l' a' b' => exact .inr ⟨_, _, _, _, _, _, rfl, rfl⟩
/-- A tree is told by its list. -/
theorem wr_inj : ∀ (s t : Tr) (k : Nat) (u v : List Nd), rt k s = rt k t → wr k s ++ u = wr k t ++ v → s = t ∧ u = v
  | .leaf i, t, k, u, v, h, e => by
    rcases rt_inj h with ⟨j, h1, rfl⟩ | ⟨l, a, b, l', a', b', h1, -⟩
    · cases h1; exact ⟨rfl, e⟩
    · cases h1
  | .node l a b, t, k, u, v, h, e => by
    rcases rt_inj h with ⟨j, h1, -⟩ | ⟨l1, a1, b1, l', a', b', h1, rfl⟩
    · cases h1
    · simp only [wr, List.cons_append, List.cons.injEq, Nd.mk.injEq, List.append_assoc] at e
      obtain ⟨⟨e1, e2, e3⟩, e4⟩ := e
      obtain ⟨r1, r2⟩ := wr_inj a a' (k + 1) _ _ e2 e4
      subst r1 e1
      obtain ⟨r3, r4⟩ := wr_inj b b' (k + 1 + a.size) _ _ e3 r2
      subst r3 r4
      exact ⟨rfl, rfl⟩
theorem wr_eq_iff {s t : Tr} : (rt 0 s = rt 0 t ∧ wr 0 s = wr 0 t) ↔ s = t := by
  constructor
  · rintro ⟨h1, h2⟩
    exact (wr_inj s t 0 [] [] h1 (by rw [h2])).1
  · rintro rfl; exact ⟨rfl, rfl⟩

/-- Node n of the list stands for the tree; its nodes' numbers. -/
def Rep (l : List Nd) : Int → Tr → List Nat → Prop
  | n, .leaf i, I => n = (if i then -2 else -1) ∧ I = []
  | n, .node ln a b, I => ∃ (k : Nat) (x : Nd) (A B : List Nat), n = (k : Int) ∧ l[k]? = some x ∧ x.ln = ln ∧ Rep l x.left a A ∧ Rep l x.right b B ∧ I = k :: (A ++ B)
theorem rep_wr : ∀ (t : Tr) (l pre post : List Nd) (k : Nat), l = pre ++ (wr k t ++ post) → pre.length = k → Rep l (rt k t) t (List.range' k t.size)
  | .leaf i, l, pre, post, k, _, _ => ⟨rfl, rfl⟩
  | .node ln a b, l, pre, post, k, hl, hp => by
    refine ⟨k, ⟨ln, rt (k + 1) a, rt (k + 1 + a.size) b⟩, List.range' (k + 1) a.size, List.range' (k + 1 + a.size) b.size, rfl, ?_, rfl, ?_, ?_, ?_⟩
    · subst hl
      rw [List.getElem?_append_right (by omega)]
      simp [hp, wr]
    · refine rep_wr a l (pre ++ [⟨ln, rt (k + 1) a, rt (k + 1 + a.size) b⟩]) (wr (k + 1 + a.size) b ++ post) (k + 1) ?_ (by simp [hp])
      rw [hl]; simp [wr]
    · refine rep_wr b l (pre ++ (⟨ln, rt (k + 1) a, rt (k + 1 + a.size) b⟩ :: wr (k + 1) a)) post (k + 1 + a.size) ?_ (by simp [hp, wr_length]; omega)
      rw [hl]; simp [wr]
    · simp only [Tr.size]
      rw [List.range'_succ, ← List.range'_append_1]

/-! reading a list of nodes -/
structure RS where
  seen : List Bool
  cnt : Nat
  bad : Bool
def prt (l : List Nd) : Nat → Int → RS → Tr × RS
  | 0, _, s => (.leaf false, s)
  | f + 1, n, s =>
    if n = -2 then (.leaf true, s) else if n = -1 then (.leaf false, s) else if n < 0 then (.leaf false, { s with bad := true })
    else match l[n.toNat]?, s.seen[n.toNat]? with
      | some x, some false =>
        if okL x.ln then
          let r1 := prt l f x.left ⟨s.seen.set n.toNat true, s.cnt + 1, s.bad⟩
          let r2 := prt l f x.right r1.2
          (.node x.ln r1.1 r2.1, r2.2)
        else (.leaf false, ⟨s.seen.set n.toNat true, s.cnt + 1, true⟩)
      | _, _ => (.leaf false, { s with bad := true })
theorem count_set {l : List Bool} {k : Nat} (h : l[k]? = some false) : (l.set k true).count false + 1 = l.count false := by
  induction l generalizing k with
  | nil => simp at h
  | cons x r ih =>
    cases k with
    | zero => simp at h; subst h; simp
    | succ k =>
      simp at h
      have := ih h
      simp only [List.set_cons_succ, List.count_cons]
      omega
theorem prt_mono (l : List Nd) : ∀ (f : Nat) (n : Int) (s : RS), (prt l f n s).2.seen.count false ≤ s.seen.count false ∧ (prt l f n s).2.seen.length = s.seen.length
  | 0, _, _ => ⟨Nat.le_refl _, rfl⟩
  | f + 1, n, s => by
    simp only [prt]
    split
    · exact ⟨Nat.le_refl _, rfl⟩
    · split
      · exact ⟨Nat.le_refl _, rfl⟩
      · split
        · exact ⟨Nat.le_refl _, rfl⟩
        · split
          · rename_i x hx hs
            have hc := count_set hs
            split
            · obtain ⟨h1, h2⟩ := prt_mono l f x.left ⟨s.seen.set n.toNat true, s.cnt + 1, s.bad⟩
              obtain ⟨h3, h4⟩ := prt_mono l f x.right (prt l f x.left ⟨s.seen.set n.toNat true, s.cnt + 1, s.bad⟩).2
              dsimp only at h1 h2 h3 h4 ⊢
              exact ⟨by omega, by rw [h4, h2, List.length_set]⟩
            · dsimp only; exact ⟨by omega, by simp⟩
          · exact ⟨Nat.le_refl _, rfl⟩
theorem prt_cnt (l : List Nd) : ∀ (f : Nat) (n : Int) (s : RS), (prt l f n s).2.cnt + (prt l f n s).2.seen.count false = s.cnt + s.seen.count false
  | 0, _, _ => rfl
  | f + 1, n, s => by
    simp only [prt]
    split
    · rfl
    · split
      · rfl
      · split
        · rfl
        · split
          · rename_i x hx hs
            have hc := count_set hs
            split
            · have h1 := prt_cnt l f x.left ⟨s.seen.set n.toNat true, s.cnt + 1, s.bad⟩
              have h3 := prt_cnt l f x.right (prt l f x.left ⟨s.seen.set n.toNat true, s.cnt + 1, s.bad⟩).2
              dsimp only at h1 h3 ⊢
              omega
            · dsimp only; omega
          · rfl
theorem prt_all {p : L3 → Prop} {l : List Nd} (hl : ∀ x ∈ l, p x.ln) : ∀ (f : Nat) (n : Int) (s : RS), (prt l f n s).1.All p
  | 0, _, _ => trivial
  | f + 1, n, s => by
    simp only [prt]
    split
    · trivial
    · split
      · trivial
      · split
        · trivial
        · split
          · rename_i x hx hs
            split
            · exact ⟨hl x (List.mem_of_getElem? hx), prt_all hl f _ _, prt_all hl f _ _⟩
            · trivial
          · trivial
theorem prt_size (l : List Nd) : ∀ (f : Nat) (n : Int) (s : RS), (prt l f n s).1.size + s.cnt ≤ (prt l f n s).2.cnt
  | 0, _, _ => by simp [prt, Tr.size]
  | f + 1, n, s => by
    simp only [prt]
    split
    · simp [Tr.size]
    · split
      · simp [Tr.size]
      · split
        · simp [Tr.size]
        · split
          · split
            · rename_i x hx hs hok
              have h1 := prt_size l f x.left ⟨s.seen.set n.toNat true, s.cnt + 1, s.bad⟩
              have h3 := prt_size l f x.right (prt l f x.left ⟨s.seen.set n.toNat true, s.cnt + 1, s.bad⟩).2
              dsimp only at h1 h3 ⊢
              simp only [Tr.size]
              omega
            · simp [Tr.size]
          · simp [Tr.size]
def setAll (s : List Bool) (I : List Nat) : List Bool := I.foldl (fun s k => s.set k true) s
theorem setAll_get : ∀ (I : List Nat) (s : List Bool) (k : Nat), k ∉ I → (setAll s I)[k]? = s[k]?
  | [], _, _, _ => rfl
  | i :: r, s, k, h => by
    have := setAll_get r (s.set i true) k (fun h' => h (List.mem_cons_of_mem _ h'))
    unfold setAll at this ⊢
    rw [List.foldl_cons, this, List.getElem?_set_ne (fun e => h (by simp [e]))]
/-- A tree is read as what it stands for. -/
theorem prt_rep (l : List Nd) : ∀ (t : Tr) (f : Nat) (n : Int) (s : RS) (I : List Nat), Rep l n t I → I.Nodup → (∀ k ∈ I, s.seen[k]? = some false) → t.All (fun x => okL x = true) → t.size < f → prt l f n s = (t, ⟨setAll s.seen I, s.cnt + t.size, s.bad⟩)
  | .leaf i, f, n, s, I, ⟨h1, h2⟩, _, _, _, hf => by
    subst h2
    obtain ⟨f, rfl⟩ : ∃ g, f = g + 1 := ⟨f - 1, by simp [Tr.size] at hf; omega⟩
    cases i with
    | true => simp only [if_true] at h1; subst h1; simp [prt, setAll, Tr.size]
    | false =>
      have h1 : n = -1 := by simpa using h1
      subst h1; simp [prt, setAll, Tr.size]
  | .node ln a b, f, n, s, I, ⟨k, x, A, B, h1, h2, h3, h4, h5, h6⟩, hnd, hun, hok, hf => by
    subst h1 h3 h6
    obtain ⟨f, rfl⟩ : ∃ g, f = g + 1 := ⟨f - 1, by simp [Tr.size] at hf; omega⟩
    rw [List.nodup_cons, List.nodup_append] at hnd
    obtain ⟨hk, hA, hB, hAB⟩ := hnd
    have hks := hun k (by simp)
    simp only [Tr.size] at hf
    have e1 := prt_rep l a f x.left ⟨s.seen.set k true, s.cnt + 1, s.bad⟩ A h4 hA (fun j hj => by
      have : k ≠ j := fun e => hk (by rw [e]; simp [hj])
      dsimp only
      rw [List.getElem?_set_ne this]
      exact hun j (by simp [hj])) hok.2.1 (by omega)
    have e2 := prt_rep l b f x.right ⟨setAll (s.seen.set k true) A, s.cnt + 1 + a.size, s.bad⟩ B h5 hB (fun j hj => by
      have : k ≠ j := fun e => hk (by rw [e]; simp [hj])
      dsimp only
      rw [setAll_get A _ j (fun h => hAB j h j hj rfl), List.getElem?_set_ne this]
      exact hun j (by simp [hj])) hok.2.2 (by omega)
    have hn1 : ¬ ((k : Int) = -2) := by omega
    have hn2 : ¬ ((k : Int) = -1) := by omega
    have hn3 : ¬ ((k : Int) < 0) := by omega
    have e0 : prt l (f + 1) (k : Int) s = (.node x.ln (prt l f x.left ⟨s.seen.set k true, s.cnt + 1, s.bad⟩).1 (prt l f x.right (prt l f x.left ⟨s.seen.set k true, s.cnt + 1, s.bad⟩).2).1, (prt l f x.right (prt l f x.left ⟨s.seen.set k true, s.cnt + 1, s.bad⟩).2).2) := by
      rw [prt]
      rw [if_neg hn1, if_neg hn2, if_neg hn3]
      simp only [Int.toNat_natCast, h2, hks, hok.1, if_true]
    rw [e0, e1]
    dsimp only
    rw [e2]
    simp only [setAll, List.foldl_cons, List.foldl_append, Tr.size, Prod.mk.injEq, RS.mk.injEq, true_and]
    first | omega | exact ⟨by omega, trivial⟩

/-- What 'bsp.Of' gives. -/
def ofT (l : List Nd) (root : Int) : Option Tr :=
  if 65536 < l.length then none else
  let r := prt l (l.length + 1) root ⟨List.replicate l.length false, 0, false⟩
  if r.2.bad = true ∨ r.2.cnt ≠ l.length then none else some r.1
theorem ofT_rep {l : List Nd} {n : Int} {t : Tr} {I : List Nat} (h : Rep l n t I) (hn : I.Nodup) (hI : ∀ k ∈ I, k < l.length) (hs : t.size = l.length) (hok : t.All fun x => okL x = true) (hl : l.length ≤ 65536) : ofT l n = some t := by
  unfold ofT
  rw [if_neg (by omega)]
  rw [prt_rep l t (l.length + 1) n _ I h hn (fun k hk => by simp [hI k hk]) hok (by omega)]
  simp [hs]
theorem ofT_wr {t : Tr} (hok : t.All fun x => okL x = true) (hl : t.size ≤ 65536) : ofT (wr 0 t) (rt 0 t) = some t := by
  have h := rep_wr t (wr 0 t) [] [] 0 (by simp) rfl
  refine ofT_rep h List.nodup_range' (fun k hk => ?_) (wr_length t 0).symm hok (by rw [wr_length]; exact hl)
  rw [wr_length]
  have := List.mem_range'_1.1 hk
  omega
theorem ofT_all {p : L3 → Prop} {l : List Nd} {n : Int} {t : Tr} (hl : ∀ x ∈ l, p x.ln) (h : ofT l n = some t) : t.All p := by
  unfold ofT at h
  split at h
  · cases h
  · dsimp only at h
    split at h
    · cases h
    · cases h; exact prt_all hl _ _ _
theorem ofT_size {l : List Nd} {n : Int} {t : Tr} (h : ofT l n = some t) : t.size ≤ 65536 := by
  unfold ofT at h
  split at h
  · cases h
  · dsimp only at h
    split at h
    · cases h
    · rename_i h1 h2
      cases h
      have := prt_size l (l.length + 1) n ⟨List.replicate l.length false, 0, false⟩
      dsimp only at this
      have h3 : (prt l (l.length + 1) n ⟨List.replicate l.length false, 0, false⟩).2.cnt = l.length := by
        rcases Nat.lt_or_ge 0 1 with _ | h
        · by_cases e : (prt l (l.length + 1) n ⟨List.replicate l.length false, 0, false⟩).2.cnt = l.length
          · exact e
          · exact absurd (.inr e) h2
        · omega
      omega

/-! the nodes in another order -/
def mvN (n by_ i : Nat) : Nat := n - 1 - (i + by_) % n
def mv (n by_ : Nat) (i : Int) : Int := if i < 0 then i else (mvN n by_ i.toNat : Int)
def mvd (n by_ : Nat) (d : Nd) : Nd := ⟨d.ln, mv n by_ d.left, mv n by_ d.right⟩
theorem mvN_lt {n b i : Nat} (hn : 0 < n) : mvN n b i < n := by unfold mvN; omega
theorem mvN_inj {n b i j : Nat} (hi : i < n) (hj : j < n) (h : mvN n b i = mvN n b j) : i = j := by
  unfold mvN at h
  have h1 := Nat.mod_lt (i + b) (show 0 < n by omega)
  have h2 := Nat.mod_lt (j + b) (show 0 < n by omega)
  have h3 : (i + b) % n = (j + b) % n := by omega
  have key : ∀ x y : Nat, x < n → y < n → x ≤ y → (x + b) % n = (y + b) % n → x = y := by
    intro x y hx hy hxy e
    have h5 : (y + b) % n = ((x + b) % n + (y - x)) % n := by
      rw [Nat.mod_add_mod]; congr 1; omega
    rw [← e] at h5
    have h6 := Nat.mod_lt (x + b) (show 0 < n by omega)
    clear h h1 h2 h3 e
    generalize (x + b) % n = r at h5 h6
    rcases Nat.lt_or_ge (r + (y - x)) n with h7 | h7
    · rw [Nat.mod_eq_of_lt h7] at h5; omega
    · rw [Nat.mod_eq_sub_mod h7, Nat.mod_eq_of_lt (by omega)] at h5; omega
  rcases Nat.le_total i j with h | h
  · exact key i j hi hj h h3
  · exact (key j i hj hi h h3.symm).symm
theorem rep_mv {l l' : List Nd} {b : Nat} (hl' : ∀ i d, l[i]? = some d → l'[mvN l.length b i]? = some (mvd l.length b d)) : ∀ (t : Tr) (n : Int) (I : List Nat), Rep l n t I → Rep l' (mv l.length b n) t (I.map (mvN l.length b))
  | .leaf i, n, I, ⟨h1, h2⟩ => by
    subst h2
    refine ⟨?_, rfl⟩
    unfold mv
    rw [if_pos (by rw [h1]; cases i <;> simp)]
    exact h1
  | .node ln x y, n, I, ⟨k, d, A, B, h1, h2, h3, h4, h5, h6⟩ => by
    subst h1 h6
    refine ⟨mvN l.length b k, mvd l.length b d, A.map (mvN l.length b), B.map (mvN l.length b), ?_, hl' k d h2, h3, rep_mv hl' x _ A h4, rep_mv hl' y _ B h5, by simp⟩
    unfold mv
    rw [if_neg (by omega)]
    simp
theorem ofT_mv {t : Tr} {l' : List Nd} {b : Nat} (hok : t.All fun x => okL x = true) (hs : t.size ≤ 65536) (hlen : l'.length = t.size)
    (hl' : ∀ i d, (wr 0 t)[i]? = some d → l'[mvN t.size b i]? = some (mvd t.size b d)) : ofT l' (mv t.size b (rt 0 t)) = some t := by
  have hw := wr_length t 0
  have h := rep_wr t (wr 0 t) [] [] 0 (by simp) rfl
  have h' := rep_mv (l := wr 0 t) (l' := l') (b := b) (by rw [hw]; exact hl') t (rt 0 t) _ h
  rw [hw] at h'
  have hlt : ∀ k ∈ List.range' 0 t.size, k < t.size := fun k hk => by have := List.mem_range'_1.1 hk; omega
  refine ofT_rep h' ?_ ?_ hlen.symm hok (by omega)
  · rw [List.nodup_iff_pairwise_ne, List.pairwise_map]
    refine List.Pairwise.imp_of_mem (fun {x y} hx hy hne e => hne (mvN_inj (hlt x hx) (hlt y hy) e)) (List.nodup_iff_pairwise_ne.1 (List.nodup_range' (s := 0) (n := t.size) (step := 1)))
  · intro k hk
    obtain ⟨j, hj, rfl⟩ := List.mem_map.1 hk
    rw [hlen]
    have := hlt j hj
    exact mvN_lt (by omega)
end Go.Proofs.Tryz
/- By program: the conditions of the functions, from their loaded code. -/
namespace Go.Proofs.Tryz
open Go.Eng
set_option maxRecDepth 100000

theorem vc_geo_LnOf (l0 : Bool) (l1p : Option Addr) (l1n l1c : Nat) (l2 : Bool) (l3p : Option Addr) (l3n l3c : Nat) (l4 : Bool) (l5p : Option Addr) (l5n l5c : Nat) (V : View) (R : Value → View → Prop)
    (h : (∀ V1 : View, V.Le V1 → Acts prog 66 #[.agg #[.bool l0, .slice l1p l1n l1c]] V1 fun r1_ V2 => ∃ b1_ : Bool, r1_ = .bool b1_ ∧ (((!b1_) = true → (∀ V3 : View, V2.Le V3 → R (.tuple #[.agg #[.int .i64 0, .int .i64 0, .pointer none, .int .i64 0, .int .i64 0, .pointer none, .int .i64 0, .int .i64 0, .pointer none], .bool false]) V3)) ∧ ((!b1_) = false → (∀ V4 : View, V2.Le V4 → Acts prog 66 #[.agg #[.bool l2, .slice l3p l3n l3c]] V4 fun r4_ V5 => ∃ b2_ : Bool, r4_ = .bool b2_ ∧ (((!b2_) = true → (∀ V6 : View, V5.Le V6 → R (.tuple #[.agg #[.int .i64 0, .int .i64 0, .pointer none, .int .i64 0, .int .i64 0, .pointer none, .int .i64 0, .int .i64 0, .pointer none], .bool false]) V6)) ∧ ((!b2_) = false → (∀ V7 : View, V5.Le V7 → Acts prog 66 #[.agg #[.bool l4, .slice l5p l5n l5c]] V7 fun r7_ V8 => ∃ b3_ : Bool, r7_ = .bool b3_ ∧ (((!b3_) = true → (∀ V9 : View, V8.Le V9 → R (.tuple #[.agg #[.int .i64 0, .int .i64 0, .pointer none, .int .i64 0, .int .i64 0, .pointer none, .int .i64 0, .int .i64 0, .pointer none], .bool false]) V9)) ∧ ((!b3_) = false → (∀ V10 : View, V8.Le V10 → Acts prog 67 #[.agg #[.bool l0, .slice l1p l1n l1c]] V10 fun r10_ V11 => ∃ x4_ : Int, ∃ x5_ : Int, ∃ p6_ : Option Addr, r10_ = .agg #[.int .i64 x4_, .int .i64 x5_, .pointer p6_] ∧ (∀ V12 : View, V11.Le V12 → Acts prog 67 #[.agg #[.bool l2, .slice l3p l3n l3c]] V12 fun r12_ V13 => ∃ x7_ : Int, ∃ x8_ : Int, ∃ p9_ : Option Addr, r12_ = .agg #[.int .i64 x7_, .int .i64 x8_, .pointer p9_] ∧ (∀ V14 : View, V13.Le V14 → Acts prog 67 #[.agg #[.bool l4, .slice l5p l5n l5c]] V14 fun r14_ V15 => ∃ x10_ : Int, ∃ x11_ : Int, ∃ p12_ : Option Addr, r14_ = .agg #[.int .i64 x10_, .int .i64 x11_, .pointer p12_] ∧ (∀ V16 : View, V15.Le V16 → Acts prog 68 #[.agg #[.int .i64 x4_, .int .i64 x5_, .pointer p6_]] V16 fun r16_ V17 => ∃ b13_ : Bool, r16_ = .bool b13_ ∧ ((b13_ = true → (∀ V18 : View, V17.Le V18 → Acts prog 68 #[.agg #[.int .i64 x7_, .int .i64 x8_, .pointer p9_]] V18 fun r18_ V19 => ∃ b14_ : Bool, r18_ = .bool b14_ ∧ ((b14_ = true → (∀ V20 : View, V19.Le V20 → R (.tuple #[.agg #[.int .i64 0, .int .i64 0, .pointer none, .int .i64 0, .int .i64 0, .pointer none, .int .i64 0, .int .i64 0, .pointer none], .bool false]) V20)) ∧ (b14_ = false → (∀ V21 : View, V19.Le V21 → Acts prog 69 #[.agg #[.int .i64 x4_, .int .i64 x5_, .pointer p6_], .agg #[.int .i64 x7_, .int .i64 x8_, .pointer p9_]] V21 fun r21_ V22 => ∃ x15_ : Int, ∃ x16_ : Int, ∃ p17_ : Option Addr, r21_ = .agg #[.int .i64 x15_, .int .i64 x16_, .pointer p17_] ∧ (∀ V23 : View, V22.Le V23 → Acts prog 69 #[.agg #[.int .i64 x15_, .int .i64 x16_, .pointer p17_], .agg #[.int .i64 x10_, .int .i64 x11_, .pointer p12_]] V23 fun r23_ V24 => ∃ x18_ : Int, ∃ x19_ : Int, ∃ p20_ : Option Addr, r23_ = .agg #[.int .i64 x18_, .int .i64 x19_, .pointer p20_] ∧ (∀ V25 : View, V24.Le V25 → Acts prog 71 #[.int .i64 1] V25 fun r25_ V26 => ∃ x21_ : Int, ∃ x22_ : Int, ∃ p23_ : Option Addr, r25_ = .agg #[.int .i64 x21_, .int .i64 x22_, .pointer p23_] ∧ (∀ V27 : View, V26.Le V27 → Acts prog 70 #[.agg #[.int .i64 x18_, .int .i64 x19_, .pointer p20_], .agg #[.int .i64 x21_, .int .i64 x22_, .pointer p23_]] V27 fun r27_ V28 => ∃ b24_ : Bool, r27_ = .bool b24_ ∧ (((!b24_) = true → (∀ V29 : View, V28.Le V29 → R (.tuple #[.agg #[.int .i64 0, .int .i64 0, .pointer none, .int .i64 0, .int .i64 0, .pointer none, .int .i64 0, .int .i64 0, .pointer none], .bool false]) V29)) ∧ ((!b24_) = false → (∀ V30 : View, V28.Le V30 → R (.tuple #[.agg #[.int .i64 x4_, .int .i64 x5_, .pointer p6_, .int .i64 x7_, .int .i64 x8_, .pointer p9_, .int .i64 x10_, .int .i64 x11_, .pointer p12_], .bool true]) V30))))))))))) ∧ (b13_ = false → (∀ V31 : View, V17.Le V31 → Acts prog 69 #[.agg #[.int .i64 x4_, .int .i64 x5_, .pointer p6_], .agg #[.int .i64 x7_, .int .i64 x8_, .pointer p9_]] V31 fun r31_ V32 => ∃ x25_ : Int, ∃ x26_ : Int, ∃ p27_ : Option Addr, r31_ = .agg #[.int .i64 x25_, .int .i64 x26_, .pointer p27_] ∧ (∀ V33 : View, V32.Le V33 → Acts prog 69 #[.agg #[.int .i64 x25_, .int .i64 x26_, .pointer p27_], .agg #[.int .i64 x10_, .int .i64 x11_, .pointer p12_]] V33 fun r33_ V34 => ∃ x28_ : Int, ∃ x29_ : Int, ∃ p30_ : Option Addr, r33_ = .agg #[.int .i64 x28_, .int .i64 x29_, .pointer p30_] ∧ (∀ V35 : View, V34.Le V35 → Acts prog 71 #[.int .i64 1] V35 fun r35_ V36 => ∃ x31_ : Int, ∃ x32_ : Int, ∃ p33_ : Option Addr, r35_ = .agg #[.int .i64 x31_, .int .i64 x32_, .pointer p33_] ∧ (∀ V37 : View, V36.Le V37 → Acts prog 70 #[.agg #[.int .i64 x28_, .int .i64 x29_, .pointer p30_], .agg #[.int .i64 x31_, .int .i64 x32_, .pointer p33_]] V37 fun r37_ V38 => ∃ b34_ : Bool, r37_ = .bool b34_ ∧ (((!b34_) = true → (∀ V39 : View, V38.Le V39 → R (.tuple #[.agg #[.int .i64 0, .int .i64 0, .pointer none, .int .i64 0, .int .i64 0, .pointer none, .int .i64 0, .int .i64 0, .pointer none], .bool false]) V39)) ∧ ((!b34_) = false → (∀ V40 : View, V38.Le V40 → R (.tuple #[.agg #[.int .i64 x4_, .int .i64 x5_, .pointer p6_, .int .i64 x7_, .int .i64 x8_, .pointer p9_, .int .i64 x10_, .int .i64 x11_, .pointer p12_], .bool true]) V40))))))))))))))))))))))) :
    Acts prog 41 #[.agg #[.bool l0, .slice l1p l1n l1c, .bool l2, .slice l3p l3n l3c, .bool l4, .slice l5p l5n l5c]] V R :=
  fn_does (LF := [8, 20, 25, 46, 48, 52, 93, 24, 1000024]) (RF := [1000006]) (β0 := (fun _ => 0)) tab_ok mixed [] [] func41 (by kernel_rfl)
    [(0, .agg [.v (.bool l0), .v (.slice l1p l1n l1c), .v (.bool l2), .v (.slice l3p l3n l3c), .v (.bool l4), .v (.slice l5p l5n l5c)])]
    [] (by kernel_rfl) trivial h (by kernel_rfl)

theorem vc_geo_Ln_API (l0 : Int) (l1 : Int) (l2 : Option Addr) (l3 : Int) (l4 : Int) (l5 : Option Addr) (l6 : Int) (l7 : Int) (l8 : Option Addr) (V : View) (R : Value → View → Prop)
    (h : (∀ V1 : View, V.Le V1 → Acts prog 74 #[.agg #[.int .i64 l0, .int .i64 l1, .pointer l2]] V1 fun r1_ V2 => ∃ b1_ : Bool, ∃ (p2_ : Option Addr) (n2_ c2_ : Nat), r1_ = .agg #[.bool b1_, .slice p2_ n2_ c2_] ∧ (∀ V3 : View, V2.Le V3 → Acts prog 74 #[.agg #[.int .i64 l3, .int .i64 l4, .pointer l5]] V3 fun r3_ V4 => ∃ b3_ : Bool, ∃ (p4_ : Option Addr) (n4_ c4_ : Nat), r3_ = .agg #[.bool b3_, .slice p4_ n4_ c4_] ∧ (∀ V5 : View, V4.Le V5 → Acts prog 74 #[.agg #[.int .i64 l6, .int .i64 l7, .pointer l8]] V5 fun r5_ V6 => ∃ b5_ : Bool, ∃ (p6_ : Option Addr) (n6_ c6_ : Nat), r5_ = .agg #[.bool b5_, .slice p6_ n6_ c6_] ∧ (∀ V7 : View, V6.Le V7 → R (.agg #[.bool b1_, .slice p2_ n2_ c2_, .bool b3_, .slice p4_ n4_ c4_, .bool b5_, .slice p6_ n6_ c6_]) V7))))) :
    Acts prog 50 #[.agg #[.int .i64 l0, .int .i64 l1, .pointer l2, .int .i64 l3, .int .i64 l4, .pointer l5, .int .i64 l6, .int .i64 l7, .pointer l8]] V R :=
  fn_does (LF := [8, 20, 25, 46, 48, 52, 93, 24, 1000024]) (RF := [1000006]) (β0 := (fun _ => 0)) tab_ok mixed [] [] func50 (by kernel_rfl)
    [(0, .agg [.v (.int .i64 l0), .v (.int .i64 l1), .v (.pointer l2), .v (.int .i64 l3), .v (.int .i64 l4), .v (.pointer l5), .v (.int .i64 l6), .v (.int .i64 l7), .v (.pointer l8)])]
    [] (by kernel_rfl) trivial h (by kernel_rfl)

theorem vc_cmp_Or (valsp : Option Addr) (valsn valsc : Nat) (V : View) (R : Value → View → Prop)
    (h : (∃ (I1_ : Int → View → Prop) (m2_ : Int → Nat), (∃ z3_ : Int, (((0 : Int) = (0 : Int)) ∧ ((valsp : Option Addr) = valsp) ∧ ((valsn : Nat) = valsn) ∧ ((valsc : Nat) = valsc) ∧ (((valsn : Nat) : Int) = ((valsn : Nat) : Int)) ∧ ((0 : Int) = z3_)) ∧ I1_ z3_ V) ∧ ∀ (z4_ : Int) (V1 : View), V.Le V1 → I1_ z4_ V1 → (true = true ∧ (((decide (z4_ < ((valsn : Nat) : Int))) = true → (valsp.isSome = true) ∧ (0 ≤ z4_ ∧ z4_ < ((valsn : Nat) : Int)) ∧ (∃ x5_ : Int, (∃ a6_, addrAdd valsp (z4_.toNat * 1) = some a6_ ∧ V1.at a6_ (.int .i64 x5_)) ∧ (((x5_ != (0 : Int)) = true → (∀ V2 : View, V1.Le V2 → R (.int .i64 x5_) V2)) ∧ ((x5_ != (0 : Int)) = false → (∃ z7_ : Int, m2_ z7_ < m2_ z4_ ∧ (((0 : Int) = (0 : Int)) ∧ ((valsp : Option Addr) = valsp) ∧ ((valsn : Nat) = valsn) ∧ ((valsc : Nat) = valsc) ∧ (((valsn : Nat) : Int) = ((valsn : Nat) : Int)) ∧ ((IntKind.i64.wrap (z4_ + (1 : Int))) = z7_)) ∧ I1_ z7_ V1))))) ∧ ((decide (z4_ < ((valsn : Nat) : Int))) = false → (∀ V3 : View, V1.Le V3 → R (.int .i64 0) V3)))))) :
    Acts prog 97 #[.slice valsp valsn valsc] V R :=
  fn_does (LF := [8, 20, 25, 46, 48, 52, 93, 24, 1000024]) (RF := [1000006]) (β0 := (fun _ => 0)) tab_ok mixed [(3, { τ := Int, keep := [3, 6, 7], keepB := [], slots := fun z => [(8, .c (.v (.int .i64 z)))], boxes := fun z => [] })] [] func97 (by kernel_rfl)
    [(0, .c (.v (.slice valsp valsn valsc)))]
    [] (by kernel_rfl) trivial h (by kernel_rfl)

theorem vc_geo_Ln_Cmp (l0 : Int) (l1 : Int) (l2 : Option Addr) (l3 : Int) (l4 : Int) (l5 : Option Addr) (l6 : Int) (l7 : Int) (l8 : Option Addr) (m0 : Int) (m1 : Int) (m2 : Option Addr) (m3 : Int) (m4 : Int) (m5 : Option Addr) (m6 : Int) (m7 : Int) (m8 : Option Addr) (V : View) (R : Value → View → Prop)
    (h : (∀ V1 : View, V.Le V1 → Acts prog 91 #[.agg #[.int .i64 l0, .int .i64 l1, .pointer l2], .agg #[.int .i64 m0, .int .i64 m1, .pointer m2]] V1 fun r1_ V2 => ∃ x1_ : Int, r1_ = .int .i64 x1_ ∧ (∀ V3 : View, V2.Le V3 → Acts prog 91 #[.agg #[.int .i64 l3, .int .i64 l4, .pointer l5], .agg #[.int .i64 m3, .int .i64 m4, .pointer m5]] V3 fun r3_ V4 => ∃ x2_ : Int, r3_ = .int .i64 x2_ ∧ (∀ V5 : View, V4.Le V5 → Acts prog 91 #[.agg #[.int .i64 l6, .int .i64 l7, .pointer l8], .agg #[.int .i64 m6, .int .i64 m7, .pointer m8]] V5 fun r5_ V6 => ∃ x3_ : Int, r5_ = .int .i64 x3_ ∧ (∀ V7 : View, V6.Le V7 → ∀ bk4_ : Nat, (V7.blk bk4_ (.cells #[.int .i64 x1_, .int .i64 x2_, .int .i64 x3_] 3 (0, 0))) → Acts prog 97 #[.slice (some ⟨bk4_, 0, none⟩) 3 3] V7 fun r7_ V8 => ∃ x5_ : Int, r7_ = .int .i64 x5_ ∧ ∀ J6_ : C → Value, (∀ V9 : View, V8.Le V9 → R (.int .i64 x5_) V9)))))) :
    Acts prog 77 #[.agg #[.int .i64 l0, .int .i64 l1, .pointer l2, .int .i64 l3, .int .i64 l4, .pointer l5, .int .i64 l6, .int .i64 l7, .pointer l8], .agg #[.int .i64 m0, .int .i64 m1, .pointer m2, .int .i64 m3, .int .i64 m4, .pointer m5, .int .i64 m6, .int .i64 m7, .pointer m8]] V R :=
  fn_does (LF := [8, 20, 25, 46, 48, 52, 93, 24, 1000024]) (RF := [97, 1000006]) (β0 := (fun _ => 0)) tab_ok mixed [] [] func77 (by kernel_rfl)
    [(0, .agg [.v (.int .i64 l0), .v (.int .i64 l1), .v (.pointer l2), .v (.int .i64 l3), .v (.int .i64 l4), .v (.pointer l5), .v (.int .i64 l6), .v (.int .i64 l7), .v (.pointer l8)]), (1, .agg [.v (.int .i64 m0), .v (.int .i64 m1), .v (.pointer m2), .v (.int .i64 m3), .v (.int .i64 m4), .v (.pointer m5), .v (.int .i64 m6), .v (.int .i64 m7), .v (.pointer m8)])]
    [] (by kernel_rfl) trivial h (by kernel_rfl)

theorem vc_geo_Ln_Equal (l0 : Int) (l1 : Int) (l2 : Option Addr) (l3 : Int) (l4 : Int) (l5 : Option Addr) (l6 : Int) (l7 : Int) (l8 : Option Addr) (m0 : Int) (m1 : Int) (m2 : Option Addr) (m3 : Int) (m4 : Int) (m5 : Option Addr) (m6 : Int) (m7 : Int) (m8 : Option Addr) (V : View) (R : Value → View → Prop)
    (h : (∀ V1 : View, V.Le V1 → Acts prog 77 #[.agg #[.int .i64 l0, .int .i64 l1, .pointer l2, .int .i64 l3, .int .i64 l4, .pointer l5, .int .i64 l6, .int .i64 l7, .pointer l8], .agg #[.int .i64 m0, .int .i64 m1, .pointer m2, .int .i64 m3, .int .i64 m4, .pointer m5, .int .i64 m6, .int .i64 m7, .pointer m8]] V1 fun r1_ V2 => ∃ x1_ : Int, r1_ = .int .i64 x1_ ∧ (∀ V3 : View, V2.Le V3 → R (.bool (x1_ == (0 : Int))) V3))) :
    Acts prog 54 #[.agg #[.int .i64 l0, .int .i64 l1, .pointer l2, .int .i64 l3, .int .i64 l4, .pointer l5, .int .i64 l6, .int .i64 l7, .pointer l8], .agg #[.int .i64 m0, .int .i64 m1, .pointer m2, .int .i64 m3, .int .i64 m4, .pointer m5, .int .i64 m6, .int .i64 m7, .pointer m8]] V R :=
  fn_does (LF := [8, 20, 25, 46, 48, 52, 93, 24, 1000024]) (RF := [1000006]) (β0 := (fun _ => 0)) tab_ok mixed [] [] func54 (by kernel_rfl)
    [(0, .agg [.v (.int .i64 l0), .v (.int .i64 l1), .v (.pointer l2), .v (.int .i64 l3), .v (.int .i64 l4), .v (.pointer l5), .v (.int .i64 l6), .v (.int .i64 l7), .v (.pointer l8)]), (1, .agg [.v (.int .i64 m0), .v (.int .i64 m1), .v (.pointer m2), .v (.int .i64 m3), .v (.int .i64 m4), .v (.pointer m5), .v (.int .i64 m6), .v (.int .i64 m7), .v (.pointer m8)])]
    [] (by kernel_rfl) trivial h (by kernel_rfl)

end Go.Proofs.Tryz
/- Contracts of package geo: lines. -/
namespace Go.Eng
open Go.Big
/-- A line of package geo. -/
def RLn (V : View) (v : Value) (a b c : Rat) : Prop := ∃ (x1 x2 : Int) (p : Option Addr) (y1 y2 : Int) (q : Option Addr) (z1 z2 : Int) (r : Option Addr), v = .agg #[.int .i64 x1, .int .i64 x2, .pointer p, .int .i64 y1, .int .i64 y2, .pointer q, .int .i64 z1, .int .i64 z2, .pointer r] ∧
  RR V (.agg #[.int .i64 x1, .int .i64 x2, .pointer p]) a ∧ RR V (.agg #[.int .i64 y1, .int .i64 y2, .pointer q]) b ∧ RR V (.agg #[.int .i64 z1, .int .i64 z2, .pointer r]) c
/-- The shape of a line of package geo. -/
def LnSh (v : Value) : Prop := ∃ (x1 x2 : Int) (x3 : Option Addr) (y1 y2 : Int) (y3 : Option Addr) (z1 z2 : Int) (z3 : Option Addr), v = .agg #[.int .i64 x1, .int .i64 x2, .pointer x3, .int .i64 y1, .int .i64 y2, .pointer y3, .int .i64 z1, .int .i64 z2, .pointer z3]
theorem RLn.le {V V' : View} {v : Value} {a b c : Rat} (h : RLn V v a b c) (l : V.Le V') : RLn V' v a b c := by
  obtain ⟨x1, x2, p, y1, y2, q, z1, z2, r, rfl, h1, h2, h3⟩ := h
  exact ⟨x1, x2, p, y1, y2, q, z1, z2, r, rfl, h1.le l, h2.le l, h3.le l⟩
end Go.Eng
namespace Go.Proofs.Tryz
open Go.Eng Go.Big

theorem c_geo_API {V : View} {v : Value} {a b c : Rat} (h : RLn V v a b c) {k : Nat} (s1 : Sz k a) (s2 : Sz k b) (s3 : Sz k c) (hk : k ≤ 1099511627776) :
    Acts prog 50 #[v] V fun r V' => RL V' r a.num b.num c.num := by
  obtain ⟨x1, x2, p, y1, y2, q, z1, z2, r, rfl, h1, h2, h3⟩ := h
  refine vc_geo_Ln_API _ _ _ _ _ _ _ _ _ V _ fun V1 l1 => (c_R_Num (h1.le l1) s1 hk).mono ?_
  rintro r V2 l2 ⟨p1, n1, c1, rfl, g1⟩
  refine ⟨_, _, _, _, rfl, fun V3 l3 => (c_R_Num (h2.le (l1.trans (l2.trans l3))) s2 hk).mono ?_⟩
  rintro r V4 l4 ⟨p2, n2, c2, rfl, g2⟩
  refine ⟨_, _, _, _, rfl, fun V5 l5 => (c_R_Num (h3.le (l1.trans (l2.trans (l3.trans (l4.trans l5))))) s3 hk).mono ?_⟩
  rintro r V6 l6 ⟨p3, n3, c3, rfl, g3⟩
  exact ⟨_, _, _, _, rfl, fun V7 l7 => ⟨_, _, _, _, _, _, _, _, _, rfl, g1.le (l3.trans (l4.trans (l5.trans (l6.trans l7)))), g2.le (l5.trans (l6.trans l7)), g3.le l7⟩⟩
end Go.Proofs.Tryz
/- Contracts of package geo: LnOf. -/
namespace Go.Proofs.Tryz
open Go.Eng Go.Big

/-- What LnOf decides. -/
def okLn (b1 : Bool) (xs : List Nat) (b2 : Bool) (ys : List Nat) (b3 : Bool) (zs : List Nat) : Bool :=
  NrmI b1 xs && NrmI b2 ys && NrmI b3 zs && !(decide ((ival b1 xs : Rat) = 0) && decide ((ival b2 ys : Rat) = 0)) && decide (gcdQ (gcdQ (ival b1 xs) (ival b2 ys)) (ival b3 zs) = ((1 : Int) : Rat))

theorem ln_bad {V : View} {ok : Bool} {A B C : Rat} (h : ok = false) : ∃ v, Value.tuple #[.agg #[.int .i64 0, .int .i64 0, .pointer none, .int .i64 0, .int .i64 0, .pointer none, .int .i64 0, .int .i64 0, .pointer none], .bool false] = .tuple #[v, .bool ok] ∧ LnSh v ∧ (ok = true → RLn V v A B C) := by
  subst h; exact ⟨_, rfl, ⟨_, _, _, _, _, _, _, _, _, rfl⟩, fun h => nomatch h⟩

theorem sz_one : Sz 1 ((1 : Int) : Rat) := by unfold Sz; decide

theorem c_geo_LnOf {V : View} (b1 b2 b3 : Bool) {p q s : Option Addr} {n c m e i j : Nat} {xs ys zs : List Nat} (hx : RD V p n c xs) (hy : RD V q m e ys) (hz : RD V s i j zs)
    (h1 : xs.length ≤ 1099511627776) (h2 : ys.length ≤ 1099511627776) (h3 : zs.length ≤ 1099511627776) {k : Nat} (s1 : Sz k (ival b1 xs : Rat)) (s2 : Sz k (ival b2 ys : Rat)) (s3 : Sz k (ival b3 zs : Rat)) (hk : 4 * k + 4 < 1099511627776) :
    Acts prog 41 #[.agg #[.bool b1, .slice p n c, .bool b2, .slice q m e, .bool b3, .slice s i j]] V fun r V' => ∃ v, r = .tuple #[v, .bool (okLn b1 xs b2 ys b3 zs)] ∧ LnSh v ∧ (okLn b1 xs b2 ys b3 zs = true → RLn V' v (ival b1 xs) (ival b2 ys) (ival b3 zs)) := by
  refine vc_geo_LnOf _ p n c _ q m e _ s i j V _ fun V1 l1 => (c_integer_Normal b1 (hx.le l1) h1).mono ?_
  rintro r V2 l2 rfl
  refine ⟨_, rfl, fun h0 V3 l3 => ln_bad ?_, fun h0 V4 l4 => (c_integer_Normal b2 (hy.le (l1.trans (l2.trans l4))) h2).mono ?_⟩
  · have h0 : NrmI b1 xs = false := by simpa using h0
    simp [okLn, h0]
  have h0 : NrmI b1 xs = true := by simpa using h0
  rintro r V5 l5 rfl
  refine ⟨_, rfl, fun g0 V6 l6 => ln_bad ?_, fun g0 V7 l7 => (c_integer_Normal b3 (hz.le (l1.trans (l2.trans (l4.trans (l5.trans l7))))) h3).mono ?_⟩
  · have g0 : NrmI b2 ys = false := by simpa using g0
    simp [okLn, g0]
  have g0 : NrmI b2 ys = true := by simpa using g0
  rintro r V8 l8 rfl
  have l08 := l1.trans (l2.trans (l4.trans (l5.trans (l7.trans l8))))
  refine ⟨_, rfl, fun f0 V9 l9 => ln_bad ?_, fun f0 V10 l10 => (c_frac_Whole b1 (hx.le (l08.trans l10)) h1).mono ?_⟩
  · have f0 : NrmI b3 zs = false := by simpa using f0
    simp [okLn, f0]
  have f0 : NrmI b3 zs = true := by simpa using f0
  rintro r V11 l11 ra
  obtain ⟨x1, x2, x3, rfl⟩ := ra.shape
  have l011 := l08.trans (l10.trans l11)
  refine ⟨_, _, _, rfl, fun V12 l12 => (c_frac_Whole b2 (hy.le (l011.trans l12)) h2).mono ?_⟩
  rintro r V13 l13 rb
  obtain ⟨y1, y2, y3, rfl⟩ := rb.shape
  have l013 := l011.trans (l12.trans l13)
  refine ⟨_, _, _, rfl, fun V14 l14 => (c_frac_Whole b3 (hz.le (l013.trans l14)) h3).mono ?_⟩
  rintro r V15 l15 rc
  obtain ⟨z1, z2, z3, rfl⟩ := rc.shape
  replace ra := ra.le (l12.trans (l13.trans (l14.trans l15)))
  replace rb := rb.le (l14.trans l15)
  have hok : okLn b1 xs b2 ys b3 zs = (!(decide ((ival b1 xs : Rat) = 0) && decide ((ival b2 ys : Rat) = 0)) && decide (gcdQ (gcdQ (ival b1 xs) (ival b2 ys)) (ival b3 zs) = ((1 : Int) : Rat))) := by
    simp only [okLn, h0, g0, f0, Bool.true_and]
  rw [hok]
  clear hok h0 g0 f0 hx hy hz
  generalize (ival b1 xs : Rat) = A at *
  generalize (ival b2 ys : Rat) = B at *
  generalize (ival b3 zs : Rat) = C at *
  refine ⟨_, _, _, rfl, fun V16 l16 => (c_R_Zero (ra.le l16)).mono ?_⟩
  rintro r V17 l17 rfl
  refine ⟨_, rfl, fun t0 V18 l18 => (c_R_Zero (rb.le (l16.trans (l17.trans l18)))).mono ?_, fun t0 V21 l21 => ?_⟩
  · rintro r V19 l19 rfl
    refine ⟨_, rfl, fun u0 V20 l20 => ln_bad (by rw [t0, u0]; rfl), fun u0 V21 l21 => ?_⟩
    have lb : V15.Le V21 := l16.trans (l17.trans (l18.trans (l19.trans l21)))
    have hn : (decide (A = 0) && decide (B = 0)) = false := by rw [u0, Bool.and_false]
    rw [hn]
    refine (c_frac_Gcd (ra.le lb) (rb.le lb) s1 s2 (by omega)).mono ?_
    rintro r V22 l22 rg
    obtain ⟨g1, g2, g3, rfl⟩ := rg.shape
    refine ⟨_, _, _, rfl, fun V23 l23 => (c_frac_Gcd (rg.le l23) (rc.le (lb.trans (l22.trans l23))) (Sz_gcdQ s1 s2) s3 (by omega)).mono ?_⟩
    rintro r V24 l24 rh
    obtain ⟨h1, h2, h3, rfl⟩ := rh.shape
    refine ⟨_, _, _, rfl, fun V25 l25 => (c_frac_Int 1 (by omega) (by omega)).mono ?_⟩
    rintro r V26 l26 ri
    obtain ⟨i1, i2, i3, rfl⟩ := ri.shape
    refine ⟨_, _, _, rfl, fun V27 l27 => (c_R_Equal (rh.le (l25.trans (l26.trans l27))) (ri.le l27) (Sz_gcdQ (Sz_gcdQ s1 s2) s3) sz_one (by omega)).mono ?_⟩
    rintro r V28 l28 rfl
    have lz : V15.Le V28 := lb.trans (l22.trans (l23.trans (l24.trans (l25.trans (l26.trans (l27.trans l28))))))
    refine ⟨_, rfl, fun w0 V29 l29 => ln_bad ?_, fun w0 V30 l30 => ?_⟩
    · rw [Bool.not_eq_true'] at w0
      rw [w0]; rfl
    · have w0 : decide (gcdQ (gcdQ A B) C = ((1 : Int) : Rat)) = true := by
        cases h : decide (gcdQ (gcdQ A B) C = ((1 : Int) : Rat))
        · rw [h] at w0; cases w0
        · rfl
      rw [w0]
      exact ⟨_, rfl, ⟨_, _, _, _, _, _, _, _, _, rfl⟩, fun _ => ⟨_, _, _, _, _, _, _, _, _, rfl, ra.le (lz.trans l30), rb.le (lz.trans l30), rc.le (lz.trans l30)⟩⟩
  · have lb : V15.Le V21 := l16.trans (l17.trans l21)
    have hn : (decide (A = 0) && decide (B = 0)) = false := by rw [t0, Bool.false_and]
    rw [hn]
    refine (c_frac_Gcd (ra.le lb) (rb.le lb) s1 s2 (by omega)).mono ?_
    rintro r V22 l22 rg
    obtain ⟨g1, g2, g3, rfl⟩ := rg.shape
    refine ⟨_, _, _, rfl, fun V23 l23 => (c_frac_Gcd (rg.le l23) (rc.le (lb.trans (l22.trans l23))) (Sz_gcdQ s1 s2) s3 (by omega)).mono ?_⟩
    rintro r V24 l24 rh
    obtain ⟨h1, h2, h3, rfl⟩ := rh.shape
    refine ⟨_, _, _, rfl, fun V25 l25 => (c_frac_Int 1 (by omega) (by omega)).mono ?_⟩
    rintro r V26 l26 ri
    obtain ⟨i1, i2, i3, rfl⟩ := ri.shape
    refine ⟨_, _, _, rfl, fun V27 l27 => (c_R_Equal (rh.le (l25.trans (l26.trans l27))) (ri.le l27) (Sz_gcdQ (Sz_gcdQ s1 s2) s3) sz_one (by omega)).mono ?_⟩
    rintro r V28 l28 rfl
    have lz : V15.Le V28 := lb.trans (l22.trans (l23.trans (l24.trans (l25.trans (l26.trans (l27.trans l28))))))
    refine ⟨_, rfl, fun w0 V29 l29 => ln_bad ?_, fun w0 V30 l30 => ?_⟩
    · rw [Bool.not_eq_true'] at w0
      rw [w0]; rfl
    · have w0 : decide (gcdQ (gcdQ A B) C = ((1 : Int) : Rat)) = true := by
        cases h : decide (gcdQ (gcdQ A B) C = ((1 : Int) : Rat))
        · rw [h] at w0; cases w0
        · rfl
      rw [w0]
      exact ⟨_, rfl, ⟨_, _, _, _, _, _, _, _, _, rfl⟩, fun _ => ⟨_, _, _, _, _, _, _, _, _, rfl, ra.le (lz.trans l30), rb.le (lz.trans l30), rc.le (lz.trans l30)⟩⟩
end Go.Proofs.Tryz
/- Contracts: cmp.Or; geo Cmp, Equal. -/
namespace Go.Proofs.Tryz
open Go.Eng Go.Big

/-- The first that is not 0, or 0. -/
def orI : List Int → Int
  | [] => 0
  | x :: r => if x = 0 then orI r else x
def i64s (l : List Int) : List Value := l.map fun x => Value.int .i64 x
theorem orI_eq {l : List Int} : orI l = 0 ↔ ∀ x ∈ l, x = 0 := by
  induction l with
  | nil => simp [orI]
  | cons x r ih =>
    simp only [orI, List.mem_cons, forall_eq_or_imp]
    split
    · rename_i h; simp [h, ih]
    · rename_i h; simp [h]

theorem c_cmp_Or {V : View} {p : Option Addr} {n c : Nat} {l : List Int} (hl : n = l.length) (hs : V.sl p (i64s l)) (hm : l.length ≤ 1099511627776) :
    Acts prog 97 #[.slice p n c] V fun r V' => r = .int .i64 (orI l) := by
  refine vc_cmp_Or p n c V _ ⟨fun z V' => 0 ≤ z ∧ z ≤ n ∧ orI l = orI (l.drop z.toNat), fun z => n - z.toNat, ⟨0, by (try dsimp only); and_intros <;> first | exact True.intro | rfl, by (try dsimp only); omega, by (try dsimp only); omega, rfl⟩, ?_⟩
  rintro i V1 l1 ⟨hi0, hi1, he⟩
  dsimp only at hi1 he ⊢
  obtain ⟨i, rfl⟩ := Int.eq_ofNat_of_zero_le hi0
  simp only [Int.toNat_natCast] at he
  refine ⟨by trivial, fun h3 => ?_, fun h3 V3 l3 => ?_⟩
  · have h3 : i < n := by simpa using h3
    have hil : i < l.length := by omega
    obtain ⟨ad, e1, hat⟩ := (l1.sl hs) i (.int .i64 l[i]) (by simp [i64s, hil])
    rw [List.drop_eq_getElem_cons hil, orI] at he
    refine ⟨by rw [e1]; rfl, ⟨by omega, by omega⟩, l[i], ⟨ad.add i, by rw [e1]; simp [addrAdd], hat⟩, fun h4 V2 l2 => ?_, fun h4 => ?_⟩
    · have h4 : l[i] ≠ 0 := by simpa using h4
      rw [if_neg h4] at he
      rw [he]
    · have h4 : l[i] = 0 := by simpa using h4
      rw [if_pos h4] at he
      have w : IntKind.i64.wrap ((i : Int) + 1) = ((i + 1 : Nat) : Int) := by rw [i64w (by omega)]; omega
      simp only [w]
      refine ⟨((i + 1 : Nat) : Int), ?_, by (try dsimp only); and_intros <;> first | exact True.intro | rfl, by (try dsimp only); omega, by (try dsimp only); omega, ?_⟩
      · (try dsimp only); omega
      · exact he
  · have h3 : i = n := by simp at h3; omega
    rw [List.drop_of_length_le (by omega)] at he
    rw [he]; rfl

theorem c_geo_Cmp {V : View} {v w : Value} {a b c a' b' c' : Rat} (hx : RLn V v a b c) (hy : RLn V w a' b' c') {k m : Nat} (s1 : Sz k a) (s2 : Sz k b) (s3 : Sz k c) (t1 : Sz m a') (t2 : Sz m b') (t3 : Sz m c') (hk : k + m < 1099511627776) :
    Acts prog 77 #[v, w] V fun r V' => r = .int .i64 (orI [cmpQ a a', cmpQ b b', cmpQ c c']) := by
  obtain ⟨x1, x2, p, y1, y2, q, z1, z2, r, rfl, h1, h2, h3⟩ := hx
  obtain ⟨x3, x4, p', y3, y4, q', z3, z4, r', rfl, g1, g2, g3⟩ := hy
  refine vc_geo_Ln_Cmp _ _ _ _ _ _ _ _ _ _ _ _ _ _ _ _ _ _ V _ fun V1 l1 => (c_R_Cmp (h1.le l1) (g1.le l1) s1 t1 hk).mono ?_
  rintro r V2 l2 rfl
  refine ⟨_, rfl, fun V3 l3 => (c_R_Cmp (h2.le (l1.trans (l2.trans l3))) (g2.le (l1.trans (l2.trans l3))) s2 t2 hk).mono ?_⟩
  rintro r V4 l4 rfl
  have l04 := l1.trans (l2.trans (l3.trans l4))
  refine ⟨_, rfl, fun V5 l5 => (c_R_Cmp (h3.le (l04.trans l5)) (g3.le (l04.trans l5)) s3 t3 hk).mono ?_⟩
  rintro r V6 l6 rfl
  refine ⟨_, rfl, fun V7 l7 bk hb => (c_cmp_Or (l := [cmpQ a a', cmpQ b b', cmpQ c c']) rfl (fun i v hv => ⟨_, rfl, by rw [add_zero']; exact blk_at (xs := i64s [cmpQ a a', cmpQ b b', cmpQ c c']) hb hv⟩) (by simp)).mono ?_⟩
  rintro r V8 l8 rfl
  exact ⟨_, rfl, fun _ V9 l9 => rfl⟩

theorem c_geo_Equal {V : View} {v w : Value} {a b c a' b' c' : Rat} (hx : RLn V v a b c) (hy : RLn V w a' b' c') {k m : Nat} (s1 : Sz k a) (s2 : Sz k b) (s3 : Sz k c) (t1 : Sz m a') (t2 : Sz m b') (t3 : Sz m c') (hk : k + m < 1099511627776) :
    Acts prog 54 #[v, w] V fun r V' => r = .bool (decide (a = a' ∧ b = b' ∧ c = c')) := by
  have hx0 := hx
  have hy0 := hy
  obtain ⟨x1, x2, p, y1, y2, q, z1, z2, r, rfl, -, -, -⟩ := hx
  obtain ⟨x3, x4, p', y3, y4, q', z3, z4, r', rfl, -, -, -⟩ := hy
  refine vc_geo_Ln_Equal _ _ _ _ _ _ _ _ _ _ _ _ _ _ _ _ _ _ V _ fun V1 l1 => (c_geo_Cmp (hx0.le l1) (hy0.le l1) s1 s2 s3 t1 t2 t3 hk).mono ?_
  rintro r V2 l2 rfl
  refine ⟨_, rfl, fun V3 l3 => ?_⟩
  congr 1
  rw [Bool.eq_iff_iff, decide_eq_true_eq, beq_iff_eq, orI_eq]
  simp [← cmpQ_eq]
end Go.Proofs.Tryz
/- By program: the conditions of the functions, from their loaded code. -/
namespace Go.Proofs.Tryz
open Go.Eng
set_option maxRecDepth 100000

theorem vc_bsp_Leaf (in_ : Bool) (V : View) (R : Value → View → Prop)
    (h : (∀ V1 : View, V.Le V1 → ∀ bk1_ : Nat, (V1.blk bk1_ (.cells #[.int .i64 0, .int .i64 0, .pointer none, .int .i64 0, .int .i64 0, .pointer none, .int .i64 0, .int .i64 0, .pointer none, .pointer none, .pointer none, .bool in_] 109 (0, 0))) → R (.pointer (some ⟨bk1_, 0, none⟩)) V1)) :
    Acts prog 76 #[.bool in_] V R :=
  fn_does (LF := [8, 20, 25, 46, 48, 52, 93, 24, 1000024]) (RF := [1000006]) (β0 := (fun _ => 0)) tab_ok mixed [] [] func76 (by kernel_rfl)
    [(0, .c (.v (.bool in_)))]
    [] (by kernel_rfl) trivial h (by kernel_rfl)

theorem vc_bsp_T_IsLeaf (t : Option Addr) (V : View) (R : Value → View → Prop)
    (h : (t.isSome = true) ∧ (t.isSome = true) ∧ (∃ p1_ : Option Addr, (∃ a2_, addrAdd t 9 = some a2_ ∧ V.at a2_ (.pointer p1_)) ∧ (∀ V1 : View, V.Le V1 → R (.bool p1_.isNone) V1))) :
    Acts prog 49 #[.pointer t] V R :=
  fn_does (LF := [8, 20, 25, 46, 48, 52, 93, 24, 1000024]) (RF := [1000006]) (β0 := (fun _ => 0)) tab_ok mixed [] [] func49 (by kernel_rfl)
    [(0, .c (.v (.pointer t)))]
    [] (by kernel_rfl) trivial h (by kernel_rfl)

theorem vc_bsp_New (l0 : Int) (l1 : Int) (l2 : Option Addr) (l3 : Int) (l4 : Int) (l5 : Option Addr) (l6 : Int) (l7 : Int) (l8 : Option Addr) (left : Option Addr) (right : Option Addr) (V : View) (R : Value → View → Prop)
    (h : (∀ V1 : View, V.Le V1 → ∀ bk1_ : Nat, (V1.blk bk1_ (.cells #[.int .i64 l0, .int .i64 l1, .pointer l2, .int .i64 l3, .int .i64 l4, .pointer l5, .int .i64 l6, .int .i64 l7, .pointer l8, .pointer left, .pointer right, .bool false] 109 (0, 0))) → R (.pointer (some ⟨bk1_, 0, none⟩)) V1)) :
    Acts prog 42 #[.agg #[.int .i64 l0, .int .i64 l1, .pointer l2, .int .i64 l3, .int .i64 l4, .pointer l5, .int .i64 l6, .int .i64 l7, .pointer l8], .pointer left, .pointer right] V R :=
  fn_does (LF := [8, 20, 25, 46, 48, 52, 93, 24, 1000024]) (RF := [1000006]) (β0 := (fun _ => 0)) tab_ok mixed [] [] func42 (by kernel_rfl)
    [(0, .agg [.v (.int .i64 l0), .v (.int .i64 l1), .v (.pointer l2), .v (.int .i64 l3), .v (.int .i64 l4), .v (.pointer l5), .v (.int .i64 l6), .v (.int .i64 l7), .v (.pointer l8)]), (1, .c (.v (.pointer left))), (2, .c (.v (.pointer right)))]
    [] (by kernel_rfl) trivial h (by kernel_rfl)

theorem vc_bsp_reader_part (rb sb : Nat) (npp : Option Addr) (nn nc : Nat) (sn sc : Nat) (cnt : Int) (bad : Bool) (ss : List Value) (n : Int) (V : View) (R : Value → View → Prop) (hw100000 : V.w.heap[rb]? = some (.cells #[.slice npp nn nc, .slice (some ⟨sb, 0, none⟩) sn sc, .int .i64 cnt, .bool bad] 115 (0, 0))) (hx100000 : V.X rb) (hw100001 : V.w.heap[sb]? = some (.cells ss.toArray 4 (0, 0))) (hx100001 : V.X sb) (hn100000_100001 : rb ≠ sb)
    (h : (((n == (-2 : Int)) = true → (∀ V1 : View, V.Le V1 → Acts prog 76 #[.bool (n == (-2 : Int))] V1 fun r1_ V2 => ∃ p1_ : Option Addr, r1_ = .pointer p1_ ∧ (∀ V3 : View, V2.Le V3 → V3.w.heap[rb]? = some (.cells #[.slice npp nn nc, .slice (some ⟨sb, 0, none⟩) sn sc, .int .i64 cnt, .bool bad] 115 (0, 0)) → V3.w.heap[sb]? = some (.cells ss.toArray 4 (0, 0)) → R (.pointer p1_) V3))) ∧ ((n == (-2 : Int)) = false → (((n == (-1 : Int)) = true → (∀ V4 : View, V.Le V4 → Acts prog 76 #[.bool (n == (-2 : Int))] V4 fun r4_ V5 => ∃ p2_ : Option Addr, r4_ = .pointer p2_ ∧ (∀ V6 : View, V5.Le V6 → V6.w.heap[rb]? = some (.cells #[.slice npp nn nc, .slice (some ⟨sb, 0, none⟩) sn sc, .int .i64 cnt, .bool bad] 115 (0, 0)) → V6.w.heap[sb]? = some (.cells ss.toArray 4 (0, 0)) → R (.pointer p2_) V6))) ∧ ((n == (-1 : Int)) = false → (((decide (n < (0 : Int))) = true → (∀ V7 : View, V.Le V7 → Acts prog 76 #[.bool false] V7 fun r7_ V8 => ∃ p3_ : Option Addr, r7_ = .pointer p3_ ∧ (∀ V9 : View, V8.Le V9 → V9.w.heap[rb]? = some (.cells #[.slice npp nn nc, .slice (some ⟨sb, 0, none⟩) sn sc, .int .i64 cnt, .bool true] 115 (0, 0)) → V9.w.heap[sb]? = some (.cells ss.toArray 4 (0, 0)) → R (.pointer p3_) V9))) ∧ ((decide (n < (0 : Int))) = false → (((decide (n ≥ ((nn : Nat) : Int))) = true → (∀ V10 : View, V.Le V10 → Acts prog 76 #[.bool false] V10 fun r10_ V11 => ∃ p4_ : Option Addr, r10_ = .pointer p4_ ∧ (∀ V12 : View, V11.Le V12 → V12.w.heap[rb]? = some (.cells #[.slice npp nn nc, .slice (some ⟨sb, 0, none⟩) sn sc, .int .i64 cnt, .bool true] 115 (0, 0)) → V12.w.heap[sb]? = some (.cells ss.toArray 4 (0, 0)) → R (.pointer p4_) V12))) ∧ ((decide (n ≥ ((nn : Nat) : Int))) = false → (0 ≤ n ∧ n < ((sn : Nat) : Int)) ∧ (∃ b5_ : Bool, ss[0 + (n.toNat * 1)]? = some (.bool b5_) ∧ ((b5_ = true → (∀ V13 : View, V.Le V13 → Acts prog 76 #[.bool false] V13 fun r13_ V14 => ∃ p6_ : Option Addr, r13_ = .pointer p6_ ∧ (∀ V15 : View, V14.Le V15 → V15.w.heap[rb]? = some (.cells #[.slice npp nn nc, .slice (some ⟨sb, 0, none⟩) sn sc, .int .i64 cnt, .bool true] 115 (0, 0)) → V15.w.heap[sb]? = some (.cells ss.toArray 4 (0, 0)) → R (.pointer p6_) V15))) ∧ (b5_ = false → (0 ≤ n ∧ n < ((sn : Nat) : Int)) ∧ ((0 + (n.toNat * 1)) + 1 ≤ ss.length) ∧ (npp.isSome = true) ∧ (0 ≤ n ∧ n < ((nn : Nat) : Int)) ∧ (∃ b7_ : Bool, ∃ (p8_ : Option Addr) (n8_ c8_ : Nat), ∃ b9_ : Bool, ∃ (p10_ : Option Addr) (n10_ c10_ : Nat), ∃ b11_ : Bool, ∃ (p12_ : Option Addr) (n12_ c12_ : Nat), ∃ x13_ : Int, ∃ x14_ : Int, ∃ a15_, addrAdd npp (n.toNat * 8) = some a15_ ∧ V.at (a15_.add 0) (.bool b7_) ∧ V.at (a15_.add 1) (.slice p8_ n8_ c8_) ∧ V.at (a15_.add 2) (.bool b9_) ∧ V.at (a15_.add 3) (.slice p10_ n10_ c10_) ∧ V.at (a15_.add 4) (.bool b11_) ∧ V.at (a15_.add 5) (.slice p12_ n12_ c12_) ∧ V.at (a15_.add 6) (.int .i64 x13_) ∧ V.at (a15_.add 7) (.int .i64 x14_) ∧ (∀ V16 : View, V.Le V16 → Acts prog 41 #[.agg #[.bool b7_, .slice p8_ n8_ c8_, .bool b9_, .slice p10_ n10_ c10_, .bool b11_, .slice p12_ n12_ c12_]] V16 fun r16_ V17 => ∃ x16_ : Int, ∃ x17_ : Int, ∃ p18_ : Option Addr, ∃ x19_ : Int, ∃ x20_ : Int, ∃ p21_ : Option Addr, ∃ x22_ : Int, ∃ x23_ : Int, ∃ p24_ : Option Addr, ∃ b25_ : Bool, r16_ = .tuple #[.agg #[.int .i64 x16_, .int .i64 x17_, .pointer p18_, .int .i64 x19_, .int .i64 x20_, .pointer p21_, .int .i64 x22_, .int .i64 x23_, .pointer p24_], .bool b25_] ∧ (((!b25_) = true → (∀ V18 : View, V17.Le V18 → Acts prog 76 #[.bool false] V18 fun r18_ V19 => ∃ p26_ : Option Addr, r18_ = .pointer p26_ ∧ (∀ V20 : View, V19.Le V20 → V20.w.heap[rb]? = some (.cells #[.slice npp nn nc, .slice (some ⟨sb, 0, none⟩) sn sc, .int .i64 (IntKind.i64.wrap (cnt + (1 : Int))), .bool true] 115 (0, 0)) → V20.w.heap[sb]? = some (.cells (ss.set (0 + (n.toNat * 1)) (.bool true)).toArray 4 (0, 0)) → R (.pointer p26_) V20))) ∧ ((!b25_) = false → (∀ V21 : View, V17.Le V21 → ∀ bk27_ bk28_ : Nat, (V21.w.heap[bk27_]? = some (.cells #[.slice npp nn nc, .slice (some ⟨bk28_, 0, none⟩) sn sc, .int .i64 (IntKind.i64.wrap (cnt + (1 : Int))), .bool bad] 115 (0, 0))) → (V21.H bk27_) → (V21.w.heap[bk28_]? = some (.cells (ss.set (0 + (n.toNat * 1)) (.bool true)).toArray 4 (0, 0))) → (V21.H bk28_) → (bk27_ ≠ bk28_) → Acts prog 52 #[.pointer (some ⟨bk27_, 0, none⟩), .int .i64 x13_] (V21.lend [bk27_, bk28_]) fun r21_ V22 => ∃ p29_ : Option Addr, r21_ = .pointer p29_ ∧ ∃ (p30_ : Option Addr) (n30_ c30_ : Nat), ∃ x31_ : Int, ∃ b32_ : Bool, V22.w.heap[bk27_]? = some (.cells #[.slice p30_ n30_ c30_, .slice (some ⟨bk28_, 0, none⟩) sn sc, .int .i64 x31_, .bool b32_] 115 (0, 0)) ∧ ∃ vs33_ : List Value, V22.w.heap[bk28_]? = some (.cells vs33_.toArray 4 (0, 0)) ∧ (∀ V23 : View, V22.shut.Le V23 → ∀ bk34_ bk35_ : Nat, (V23.w.heap[bk34_]? = some (.cells #[.slice p30_ n30_ c30_, .slice (some ⟨bk35_, 0, none⟩) sn sc, .int .i64 x31_, .bool b32_] 115 (0, 0))) → (V23.H bk34_) → (V23.w.heap[bk35_]? = some (.cells vs33_.toArray 4 (0, 0))) → (V23.H bk35_) → (bk34_ ≠ bk35_) → Acts prog 52 #[.pointer (some ⟨bk34_, 0, none⟩), .int .i64 x14_] (V23.lend [bk34_, bk35_]) fun r23_ V24 => ∃ p36_ : Option Addr, r23_ = .pointer p36_ ∧ ∃ (p37_ : Option Addr) (n37_ c37_ : Nat), ∃ x38_ : Int, ∃ b39_ : Bool, V24.w.heap[bk34_]? = some (.cells #[.slice p37_ n37_ c37_, .slice (some ⟨bk35_, 0, none⟩) sn sc, .int .i64 x38_, .bool b39_] 115 (0, 0)) ∧ ∃ vs40_ : List Value, V24.w.heap[bk35_]? = some (.cells vs40_.toArray 4 (0, 0)) ∧ (∀ V25 : View, V24.shut.Le V25 → Acts prog 42 #[.agg #[.int .i64 x16_, .int .i64 x17_, .pointer p18_, .int .i64 x19_, .int .i64 x20_, .pointer p21_, .int .i64 x22_, .int .i64 x23_, .pointer p24_], .pointer p29_, .pointer p36_] V25 fun r25_ V26 => ∃ p41_ : Option Addr, r25_ = .pointer p41_ ∧ (∀ V27 : View, V26.Le V27 → V27.w.heap[rb]? = some (.cells #[.slice p37_ n37_ c37_, .slice (some ⟨sb, 0, none⟩) sn sc, .int .i64 x38_, .bool b39_] 115 (0, 0)) → V27.w.heap[sb]? = some (.cells vs40_.toArray 4 (0, 0)) → R (.pointer p41_) V27)))))))))))))))))))) :
    Acts prog 52 #[.pointer (some ⟨rb, 0, none⟩), .int .i64 n] V R :=
  fn_does (LF := [8, 20, 25, 46, 48, 52, 93, 24, 1000024]) (RF := [1000006]) (β0 := (upd1 (upd1 (fun _ => 0) 100000 rb) 100001 sb)) tab_ok mixed [] [] func52 (by kernel_rfl)
    [(0, .c (.ptr 100000 0)), (1, .c (.v (.int .i64 n)))]
    [(100000, ⟨.lit [.v (.slice npp nn nc), .slc 100001 0 sn sc, .v (.int .i64 cnt), .v (.bool bad)], 115⟩), (100001, ⟨.row ss, 4⟩)] (by kernel_rfl) ⟨⟨hw100000, hx100000⟩, ⟨hn100000_100001, trivial⟩, ⟨⟨hw100001, hx100001⟩, trivial, trivial⟩⟩ h (by kernel_rfl)

theorem vc_bsp_Of (t0 : Int) (t1p : Option Addr) (t1n t1c : Nat) (V : View) (R : Value → View → Prop)
    (h : (((decide (((t1n : Nat) : Int) > (65536 : Int))) = true → (∀ V1 : View, V.Le V1 → R (.tuple #[.pointer none, .bool false]) V1)) ∧ ((decide (((t1n : Nat) : Int) > (65536 : Int))) = false → (0 ≤ ((t1n : Nat) : Int)) ∧ (((t1n : Nat) : Int) ≤ ((t1n : Nat) : Int)) ∧ (((1 : Nat) : Int) * ((t1n : Nat) : Int) ≤ 140737488355328) ∧ (∀ V2 : View, V.Le V2 → ∀ bk1_ bk2_ : Nat, (V2.w.heap[bk1_]? = some (.cells #[.slice t1p t1n t1c, .slice (some ⟨bk2_, 0, none⟩) (((t1n : Nat) : Int).toNat) (((t1n : Nat) : Int).toNat), .int .i64 0, .bool false] 115 (0, 0))) → (V2.H bk1_) → (V2.w.heap[bk2_]? = some (.cells (List.replicate (((t1n : Nat) : Int).toNat) (.bool false)).toArray 4 (0, 0))) → (V2.H bk2_) → (bk1_ ≠ bk2_) → Acts prog 52 #[.pointer (some ⟨bk1_, 0, none⟩), .int .i64 t0] (V2.lend [bk1_, bk2_]) fun r2_ V3 => ∃ p3_ : Option Addr, r2_ = .pointer p3_ ∧ ∃ (p4_ : Option Addr) (n4_ c4_ : Nat), ∃ x5_ : Int, ∃ b6_ : Bool, V3.w.heap[bk1_]? = some (.cells #[.slice p4_ n4_ c4_, .slice (some ⟨bk2_, 0, none⟩) (((t1n : Nat) : Int).toNat) (((t1n : Nat) : Int).toNat), .int .i64 x5_, .bool b6_] 115 (0, 0)) ∧ ∃ vs7_ : List Value, V3.w.heap[bk2_]? = some (.cells vs7_.toArray 4 (0, 0)) ∧ ((b6_ = true → (∀ V4 : View, V3.shut.Le V4 → R (.tuple #[.pointer none, .bool false]) V4)) ∧ (b6_ = false → (((x5_ != ((t1n : Nat) : Int)) = true → (∀ V5 : View, V3.shut.Le V5 → R (.tuple #[.pointer none, .bool false]) V5)) ∧ ((x5_ != ((t1n : Nat) : Int)) = false → (∀ V6 : View, V3.shut.Le V6 → R (.tuple #[.pointer p3_, .bool true]) V6))))))))) :
    Acts prog 28 #[.agg #[.int .i64 t0, .slice t1p t1n t1c]] V R :=
  fn_does (LF := [8, 20, 25, 46, 48, 52, 93, 24, 1000024]) (RF := [1000006]) (β0 := (fun _ => 0)) tab_ok mixed [] [] func28 (by kernel_rfl)
    [(0, .agg [.v (.int .i64 t0), .v (.slice t1p t1n t1c)])]
    [] (by kernel_rfl) trivial h (by kernel_rfl)

theorem vc_bsp_T_API_1 (t : Option Addr) (ob nb wb : Nat) (root : Int) (n c : Nat) (vs : List Value) (V : View) (R : Value → View → Prop) (hw100000 : V.w.heap[ob]? = some (.cells #[.int .i64 root, .slice (mA nb c) n c] 27 (0, 0))) (hx100000 : V.X ob) (hw100002 : V.w.heap[wb]? = some (.cells #[.func (.func 53) #[] #[.pointer (some ⟨ob, 0, none⟩), .pointer (some ⟨wb, 0, none⟩)]] 117 (0, 0))) (hx100002 : V.X wb) (hw100001 : vs ≠ [] → V.w.heap[nb]? = some (.cells vs.toArray 60 (0, 0))) (hx100001 : vs ≠ [] → V.X nb) (hn100000_100002 : ob ≠ wb) (hn100000_100001 : vs ≠ [] → ob ≠ nb) (hn100002_100001 : vs ≠ [] → wb ≠ nb)
    (h : (∀ V1 : View, V.Le V1 → Acts prog 49 #[.pointer t] V1 fun r1_ V2 => ∃ b1_ : Bool, r1_ = .bool b1_ ∧ ((b1_ = true → (t.isSome = true) ∧ (t.isSome = true) ∧ (∃ b2_ : Bool, (∃ a3_, addrAdd t 11 = some a3_ ∧ V2.at a3_ (.bool b2_)) ∧ ((b2_ = true → (∀ V3 : View, ∀ bk4_ : Nat, V2.Le (V3.hideG (vs ≠ []) bk4_) → V3.w.heap[ob]? = some (.cells #[.int .i64 root, .slice (mA bk4_ c) n c] 27 (0, 0)) → V3.w.heap[wb]? = some (.cells #[.func (.func 53) #[] #[.pointer (some ⟨ob, 0, none⟩), .pointer (some ⟨wb, 0, none⟩)]] 117 (0, 0)) → (vs ≠ [] → V3.w.heap[bk4_]? = some (.cells vs.toArray 60 (0, 0))) → (vs ≠ [] → V.w.heap.size ≤ bk4_ ∨ (vs ≠ [] ∧ bk4_ = nb) ∨ False) → R (.int .i64 (-2)) V3)) ∧ (b2_ = false → (∀ V4 : View, ∀ bk5_ : Nat, V2.Le (V4.hideG (vs ≠ []) bk5_) → V4.w.heap[ob]? = some (.cells #[.int .i64 root, .slice (mA bk5_ c) n c] 27 (0, 0)) → V4.w.heap[wb]? = some (.cells #[.func (.func 53) #[] #[.pointer (some ⟨ob, 0, none⟩), .pointer (some ⟨wb, 0, none⟩)]] 117 (0, 0)) → (vs ≠ [] → V4.w.heap[bk5_]? = some (.cells vs.toArray 60 (0, 0))) → (vs ≠ [] → V.w.heap.size ≤ bk5_ ∨ (vs ≠ [] ∧ bk5_ = nb) ∨ False) → R (.int .i64 (-1)) V4))))) ∧ (b1_ = false → (t.isSome = true) ∧ (t.isSome = true) ∧ (∃ x6_ : Int, ∃ x7_ : Int, ∃ p8_ : Option Addr, ∃ x9_ : Int, ∃ x10_ : Int, ∃ p11_ : Option Addr, ∃ x12_ : Int, ∃ x13_ : Int, ∃ p14_ : Option Addr, ∃ a15_, addrAdd t 0 = some a15_ ∧ V2.at (a15_.add 0) (.int .i64 x6_) ∧ V2.at (a15_.add 1) (.int .i64 x7_) ∧ V2.at (a15_.add 2) (.pointer p8_) ∧ V2.at (a15_.add 3) (.int .i64 x9_) ∧ V2.at (a15_.add 4) (.int .i64 x10_) ∧ V2.at (a15_.add 5) (.pointer p11_) ∧ V2.at (a15_.add 6) (.int .i64 x12_) ∧ V2.at (a15_.add 7) (.int .i64 x13_) ∧ V2.at (a15_.add 8) (.pointer p14_) ∧ (∀ V5 : View, V2.Le V5 → Acts prog 50 #[.agg #[.int .i64 x6_, .int .i64 x7_, .pointer p8_, .int .i64 x9_, .int .i64 x10_, .pointer p11_, .int .i64 x12_, .int .i64 x13_, .pointer p14_]] V5 fun r5_ V6 => ∃ b16_ : Bool, ∃ (p17_ : Option Addr) (n17_ c17_ : Nat), ∃ b18_ : Bool, ∃ (p19_ : Option Addr) (n19_ c19_ : Nat), ∃ b20_ : Bool, ∃ (p21_ : Option Addr) (n21_ c21_ : Nat), r5_ = .agg #[.bool b16_, .slice p17_ n17_ c17_, .bool b18_, .slice p19_ n19_ c19_, .bool b20_, .slice p21_ n21_ c21_] ∧ ((n + 1) * 112 ≤ 140737488355328 ∧ n ≤ c ∧ c * 8 ≤ vs.length ∧ ([.bool b16_, .slice p17_ n17_ c17_, .bool b18_, .slice p19_ n19_ c19_, .bool b20_, .slice p21_ n21_ c21_, .int .i64 0, .int .i64 0] : List Value).length = 1 * 8 ∧ (∀ v ∈ ([.bool b16_, .slice p17_ n17_ c17_, .bool b18_, .slice p19_ n19_ c19_, .bool b20_, .slice p21_ n21_ c21_, .int .i64 0, .int .i64 0] : List Value), v.oneCell' = true) ∧ ∀ (sp22_ : List Value) (c23_ : Nat), n + 1 ≤ c23_ → c23_ * 8 ≤ (n + 1) * 8 + sp22_.length → (t.isSome = true) ∧ (t.isSome = true) ∧ (∃ p24_ : Option Addr, (∃ a25_, addrAdd t 9 = some a25_ ∧ V6.at a25_ (.pointer p24_)) ∧ (∀ V7 : View, V6.Le V7 → ∀ bk26_ bk27_ bk28_ : Nat, ((vs.take (n * 8) ++ ([.bool b16_, .slice p17_ n17_ c17_, .bool b18_, .slice p19_ n19_ c19_, .bool b20_, .slice p21_ n21_ c21_, .int .i64 0, .int .i64 0] : List Value) ++ sp22_) ≠ [] → V7.w.heap[bk26_]? = some (.cells (vs.take (n * 8) ++ ([.bool b16_, .slice p17_ n17_ c17_, .bool b18_, .slice p19_ n19_ c19_, .bool b20_, .slice p21_ n21_ c21_, .int .i64 0, .int .i64 0] : List Value) ++ sp22_).toArray 60 (0, 0))) → ((vs.take (n * 8) ++ ([.bool b16_, .slice p17_ n17_ c17_, .bool b18_, .slice p19_ n19_ c19_, .bool b20_, .slice p21_ n21_ c21_, .int .i64 0, .int .i64 0] : List Value) ++ sp22_) ≠ [] → V7.H bk26_) → (V7.w.heap[bk27_]? = some (.cells #[.int .i64 root, .slice (mA bk26_ c23_) (n + 1) c23_] 27 (0, 0))) → (V7.H bk27_) → (V7.w.heap[bk28_]? = some (.cells #[.func (.func 53) #[] #[.pointer (some ⟨bk27_, 0, none⟩), .pointer (some ⟨bk28_, 0, none⟩)]] 117 (0, 0))) → (V7.H bk28_) → (bk27_ ≠ bk28_) → ((vs.take (n * 8) ++ ([.bool b16_, .slice p17_ n17_ c17_, .bool b18_, .slice p19_ n19_ c19_, .bool b20_, .slice p21_ n21_ c21_, .int .i64 0, .int .i64 0] : List Value) ++ sp22_) ≠ [] → bk26_ ≠ bk27_) → ((vs.take (n * 8) ++ ([.bool b16_, .slice p17_ n17_ c17_, .bool b18_, .slice p19_ n19_ c19_, .bool b20_, .slice p21_ n21_ c21_, .int .i64 0, .int .i64 0] : List Value) ++ sp22_) ≠ [] → bk26_ ≠ bk28_) → Acts prog 53 #[.pointer p24_, .pointer (some ⟨bk27_, 0, none⟩), .pointer (some ⟨bk28_, 0, none⟩)] (V7.lend [vb (vs.take (n * 8) ++ ([.bool b16_, .slice p17_ n17_ c17_, .bool b18_, .slice p19_ n19_ c19_, .bool b20_, .slice p21_ n21_ c21_, .int .i64 0, .int .i64 0] : List Value) ++ sp22_) V7.w.heap.size bk26_, bk27_, bk28_]) fun r7_ V8 => ∃ (bm30_ : Nat) (vm31_ : List Value), (vm31_ ≠ [] → V8.w.heap[bm30_]? = some (.cells vm31_.toArray 60 (0, 0))) ∧ (vm31_ ≠ [] → V7.w.heap.size ≤ bm30_ ∨ ((vs.take (n * 8) ++ ([.bool b16_, .slice p17_ n17_ c17_, .bool b18_, .slice p19_ n19_ c19_, .bool b20_, .slice p21_ n21_ c21_, .int .i64 0, .int .i64 0] : List Value) ++ sp22_) ≠ [] ∧ bm30_ = bk26_)) ∧ ∃ x29_ : Int, r7_ = .int .i64 x29_ ∧ ∃ x32_ : Int, ∃ (n33_ c33_ : Nat), V8.w.heap[bk27_]? = some (.cells #[.int .i64 x32_, .slice (mA bm30_ c33_) n33_ c33_] 27 (0, 0)) ∧  V8.w.heap[bk28_]? = some (.cells #[.func (.func 53) #[] #[.pointer (some ⟨bk27_, 0, none⟩), .pointer (some ⟨bk28_, 0, none⟩)]] 117 (0, 0)) ∧ (t.isSome = true) ∧ (t.isSome = true) ∧ (∃ p34_ : Option Addr, (∃ a35_, addrAdd t 10 = some a35_ ∧ (V8.shut.hideG (vm31_ ≠ []) bm30_).at a35_ (.pointer p34_)) ∧ (∀ V9 : View, (V8.shut.hideG (vm31_ ≠ []) bm30_).Le V9 → ∀ bk36_ bk37_ bk38_ : Nat, (vm31_ ≠ [] → V9.w.heap[bk36_]? = some (.cells vm31_.toArray 60 (0, 0))) → (vm31_ ≠ [] → V9.H bk36_) → (V9.w.heap[bk37_]? = some (.cells #[.int .i64 x32_, .slice (mA bk36_ c33_) n33_ c33_] 27 (0, 0))) → (V9.H bk37_) → (V9.w.heap[bk38_]? = some (.cells #[.func (.func 53) #[] #[.pointer (some ⟨bk37_, 0, none⟩), .pointer (some ⟨bk38_, 0, none⟩)]] 117 (0, 0))) → (V9.H bk38_) → (bk37_ ≠ bk38_) → (vm31_ ≠ [] → bk36_ ≠ bk37_) → (vm31_ ≠ [] → bk36_ ≠ bk38_) → Acts prog 53 #[.pointer p34_, .pointer (some ⟨bk37_, 0, none⟩), .pointer (some ⟨bk38_, 0, none⟩)] (V9.lend [vb vm31_ V9.w.heap.size bk36_, bk37_, bk38_]) fun r9_ V10 => ∃ (bm40_ : Nat) (vm41_ : List Value), (vm41_ ≠ [] → V10.w.heap[bm40_]? = some (.cells vm41_.toArray 60 (0, 0))) ∧ (vm41_ ≠ [] → V9.w.heap.size ≤ bm40_ ∨ (vm31_ ≠ [] ∧ bm40_ = bk36_)) ∧ ∃ x39_ : Int, r9_ = .int .i64 x39_ ∧ ∃ x42_ : Int, ∃ (n43_ c43_ : Nat), V10.w.heap[bk37_]? = some (.cells #[.int .i64 x42_, .slice (mA bm40_ c43_) n43_ c43_] 27 (0, 0)) ∧  V10.w.heap[bk38_]? = some (.cells #[.func (.func 53) #[] #[.pointer (some ⟨bk37_, 0, none⟩), .pointer (some ⟨bk38_, 0, none⟩)]] 117 (0, 0)) ∧ (0 ≤ ((n : Nat) : Int) ∧ ((n : Nat) : Int) < ((n43_ : Nat) : Int)) ∧ (n43_ ≤ c43_) ∧ ((((((n : Nat) : Int).toNat) * 8) + 6) + 1 ≤ vm41_.length) ∧ (0 ≤ ((n : Nat) : Int) ∧ ((n : Nat) : Int) < ((n43_ : Nat) : Int)) ∧ (n43_ ≤ c43_) ∧ ((((((n : Nat) : Int).toNat) * 8) + 7) + 1 ≤ (vm41_.set (((((n : Nat) : Int).toNat) * 8) + 6) (.int .i64 x29_)).length) ∧ (∀ V11 : View, ∀ bk44_ : Nat, (V10.shut.hideG (vm41_ ≠ []) bm40_).Le (V11.hideG (((vm41_.set (((((n : Nat) : Int).toNat) * 8) + 6) (.int .i64 x29_)).set (((((n : Nat) : Int).toNat) * 8) + 7) (.int .i64 x39_)) ≠ []) bk44_) → V11.w.heap[ob]? = some (.cells #[.int .i64 x42_, .slice (mA bk44_ c43_) n43_ c43_] 27 (0, 0)) → V11.w.heap[wb]? = some (.cells #[.func (.func 53) #[] #[.pointer (some ⟨ob, 0, none⟩), .pointer (some ⟨wb, 0, none⟩)]] 117 (0, 0)) → (((vm41_.set (((((n : Nat) : Int).toNat) * 8) + 6) (.int .i64 x29_)).set (((((n : Nat) : Int).toNat) * 8) + 7) (.int .i64 x39_)) ≠ [] → V11.w.heap[bk44_]? = some (.cells ((vm41_.set (((((n : Nat) : Int).toNat) * 8) + 6) (.int .i64 x29_)).set (((((n : Nat) : Int).toNat) * 8) + 7) (.int .i64 x39_)).toArray 60 (0, 0))) → (((vm41_.set (((((n : Nat) : Int).toNat) * 8) + 6) (.int .i64 x29_)).set (((((n : Nat) : Int).toNat) * 8) + 7) (.int .i64 x39_)) ≠ [] → V.w.heap.size ≤ bk44_ ∨ (vs ≠ [] ∧ bk44_ = nb) ∨ False) → R (.int .i64 ((n : Nat) : Int)) V11)))))))))))) :
    Acts prog 53 #[.pointer t, .pointer (some ⟨ob, 0, none⟩), .pointer (some ⟨wb, 0, none⟩)] V R :=
  fn_does (LF := [8, 20, 25, 46, 48, 52, 93, 24, 1000024]) (RF := [1000006]) (β0 := (upd1 (upd1 (upd1 (fun _ => 0) 100000 ob) 100002 wb) 100001 nb)) tab_ok mixed [] [] func53 (by kernel_rfl)
    [(0, .c (.v (.pointer t))), (1, .c (.ptr 100000 0)), (2, .c (.ptr 100002 0))]
    [(100000, ⟨.lit [.v (.int .i64 root), .msl 100001 n c], 27⟩), (100002, ⟨.lit [.clo 53 [100000, 100002]], 117⟩), (100001, ⟨.mrow vs, 60⟩)] (by kernel_rfl) ⟨⟨hw100000, hx100000⟩, ⟨hn100000_100002, ⟨hn100000_100001, trivial⟩⟩, ⟨⟨hw100002, hx100002⟩, ⟨hn100002_100001, trivial⟩, ⟨⟨hw100001, hx100001⟩, trivial, trivial⟩⟩⟩ h (by kernel_rfl)

theorem vc_bsp_T_API (t : Option Addr) (V : View) (R : Value → View → Prop)
    (h : (∀ V1 : View, V.Le V1 → ∀ bk1_ bk2_ : Nat, (V1.w.heap[bk1_]? = some (.cells #[.int .i64 0, .slice none 0 0] 27 (0, 0))) → (V1.H bk1_) → (V1.w.heap[bk2_]? = some (.cells #[.func (.func 53) #[] #[.pointer (some ⟨bk1_, 0, none⟩), .pointer (some ⟨bk2_, 0, none⟩)]] 117 (0, 0))) → (V1.H bk2_) → (bk1_ ≠ bk2_) → Acts prog 53 #[.pointer t, .pointer (some ⟨bk1_, 0, none⟩), .pointer (some ⟨bk2_, 0, none⟩)] (V1.lend [bk1_, bk2_]) fun r1_ V2 => ∃ x3_ : Int, r1_ = .int .i64 x3_ ∧ ∃ x4_ : Int, ∃ (p5_ : Option Addr) (n5_ c5_ : Nat), V2.w.heap[bk1_]? = some (.cells #[.int .i64 x4_, .slice p5_ n5_ c5_] 27 (0, 0)) ∧  V2.w.heap[bk2_]? = some (.cells #[.func (.func 53) #[] #[.pointer (some ⟨bk1_, 0, none⟩), .pointer (some ⟨bk2_, 0, none⟩)]] 117 (0, 0)) ∧ (∀ V3 : View, V2.shut.Le V3 → R (.agg #[.int .i64 x3_, .slice p5_ n5_ c5_]) V3))) :
    Acts prog 29 #[.pointer t] V R :=
  fn_does (LF := [8, 20, 25, 46, 48, 52, 93, 24, 1000024]) (RF := [1000006]) (β0 := (fun _ => 0)) tab_ok mixed [] [] func29 (by kernel_rfl)
    [(0, .c (.v (.pointer t)))]
    [] (by kernel_rfl) trivial h (by kernel_rfl)

theorem vc_bsp_T_Size_1 (x : Option Addr) (kb : Nat) (k : Int) (V : View) (R : Value → View → Prop) (hw100000 : V.w.heap[kb]? = some (.cells #[.int .i64 k] 3 (0, 0))) (hx100000 : V.X kb)
    (h : (∀ V1 : View, V.Le V1 → Acts prog 49 #[.pointer x] V1 fun r1_ V2 => ∃ b1_ : Bool, r1_ = .bool b1_ ∧ (((!b1_) = true → (∀ V3 : View, V2.Le V3 → V3.w.heap[kb]? = some (.cells #[.int .i64 (IntKind.i64.wrap (k + (1 : Int)))] 3 (0, 0)) → R (.tuple #[]) V3)) ∧ ((!b1_) = false → (∀ V4 : View, V2.Le V4 → V4.w.heap[kb]? = some (.cells #[.int .i64 k] 3 (0, 0)) → R (.tuple #[]) V4))))) :
    Acts prog 94 #[.pointer x, .pointer (some ⟨kb, 0, none⟩)] V R :=
  fn_does (LF := [8, 20, 25, 46, 48, 52, 93, 24, 1000024]) (RF := [1000006]) (β0 := (upd1 (fun _ => 0) 100000 kb)) tab_ok mixed [] [] func94 (by kernel_rfl)
    [(0, .c (.v (.pointer x))), (1, .c (.ptr 100000 0))]
    [(100000, ⟨.lit [.v (.int .i64 k)], 3⟩)] (by kernel_rfl) ⟨⟨hw100000, hx100000⟩, trivial, trivial⟩ h (by kernel_rfl)

theorem vc_bsp_T_Each_Size (t : Option Addr) (kb : Nat) (k : Int) (V : View) (R : Value → View → Prop) (hw100000 : V.w.heap[kb]? = some (.cells #[.int .i64 k] 3 (0, 0))) (hx100000 : V.X kb)
    (h : (∃ I1_ : (Nat × Nat × (List Value) × Int) → Nat → View → Prop, (∃ (z3_ : Nat × Nat × (List Value) × Int) (k4_ : Nat), (((94 : FuncId) = 94) ∧ ((0 : Nat) = 0) ∧ ((1 : Nat) = z3_.1) ∧ ((1 : Nat) = z3_.2.1) ∧ ((1 : Nat) ≠ 0) ∧ (k = z3_.2.2.2) ∧ (([.pointer t] : List Value) = z3_.2.2.1)) ∧ I1_ z3_ k4_ V) ∧ ∀ (z5_ : Nat × Nat × (List Value) × Int) (k6_ : Nat) (V1 : View), V.Le V1 → I1_ z5_ k6_ V1 → (true = true ∧ (((decide (((z5_.1 : Nat) : Int) > (0 : Int))) = true → (0 ≤ (IntKind.i64.wrap (((z5_.1 : Nat) : Int) - (1 : Int))) ∧ (IntKind.i64.wrap (((z5_.1 : Nat) : Int) - (1 : Int))) < ((z5_.1 : Nat) : Int)) ∧ (z5_.1 ≤ z5_.2.1) ∧ (∃ p7_ : Option Addr, z5_.2.2.1[((IntKind.i64.wrap (((z5_.1 : Nat) : Int) - (1 : Int))).toNat) * 1]? = some (.pointer p7_) ∧ (0 ≤ (IntKind.i64.wrap (((z5_.1 : Nat) : Int) - (1 : Int))) ∧ (IntKind.i64.wrap (((z5_.1 : Nat) : Int) - (1 : Int))) ≤ ((z5_.2.1 : Nat) : Int)) ∧ (∀ V2 : View, V1.Le V2 → ∀ bk8_ : Nat, (V2.w.heap[bk8_]? = some (.cells #[.int .i64 z5_.2.2.2] 3 (0, 0))) → (V2.H bk8_) → Acts prog 94 #[.pointer p7_, .pointer (some ⟨bk8_, 0, none⟩)] (V2.lend [bk8_]) fun r2_ V3 =>  r2_ = .tuple #[] ∧ ∃ x9_ : Int, V3.w.heap[bk8_]? = some (.cells #[.int .i64 x9_] 3 (0, 0)) ∧ (∀ V4 : View, V3.shut.Le V4 → Acts prog 49 #[.pointer p7_] V4 fun r4_ V5 => ∃ b10_ : Bool, r4_ = .bool b10_ ∧ (((!b10_) = true → (p7_.isSome = true) ∧ (p7_.isSome = true) ∧ (∃ p11_ : Option Addr, (∃ a12_, addrAdd p7_ 10 = some a12_ ∧ V5.at a12_ (.pointer p11_)) ∧ (p7_.isSome = true) ∧ (p7_.isSome = true) ∧ (∃ p13_ : Option Addr, (∃ a14_, addrAdd p7_ 9 = some a14_ ∧ V5.at a14_ (.pointer p13_)) ∧ ((((IntKind.i64.wrap (((z5_.1 : Nat) : Int) - (1 : Int))).toNat) + 2) * 8 ≤ 140737488355328 ∧ (IntKind.i64.wrap (((z5_.1 : Nat) : Int) - (1 : Int))).toNat ≤ z5_.2.1 ∧ z5_.2.1 * 1 ≤ z5_.2.2.1.length ∧ ([.pointer p11_, .pointer p13_] : List Value).length = 2 * 1 ∧ (∀ v ∈ ([.pointer p11_, .pointer p13_] : List Value), v.oneCell' = true) ∧ ∀ (sp15_ : List Value) (c16_ : Nat), ((IntKind.i64.wrap (((z5_.1 : Nat) : Int) - (1 : Int))).toNat) + 2 ≤ c16_ → c16_ * 1 ≤ (((IntKind.i64.wrap (((z5_.1 : Nat) : Int) - (1 : Int))).toNat) + 2) * 1 + sp15_.length → (∃ (z17_ : Nat × Nat × (List Value) × Int) (k18_ : Nat), k18_ < k6_ ∧ (((94 : FuncId) = 94) ∧ ((((IntKind.i64.wrap (((z5_.1 : Nat) : Int) - (1 : Int))).toNat) + 2 : Nat) = z17_.1) ∧ ((c16_ : Nat) = z17_.2.1) ∧ (x9_ = z17_.2.2.2) ∧ ((z5_.2.2.1.take (((IntKind.i64.wrap (((z5_.1 : Nat) : Int) - (1 : Int))).toNat) * 1) ++ ([.pointer p11_, .pointer p13_] : List Value) ++ sp15_) = z17_.2.2.1)) ∧ I1_ z17_ k18_ V5))))) ∧ ((!b10_) = false → (∃ (z19_ : Nat × Nat × (List Value) × Int) (k20_ : Nat), k20_ < k6_ ∧ (((94 : FuncId) = 94) ∧ (((IntKind.i64.wrap (((z5_.1 : Nat) : Int) - (1 : Int))).toNat : Nat) = z19_.1) ∧ ((z5_.2.1 : Nat) = z19_.2.1) ∧ (x9_ = z19_.2.2.2) ∧ (z5_.2.2.1 = z19_.2.2.1)) ∧ I1_ z19_ k20_ V5))))))) ∧ ((decide (((z5_.1 : Nat) : Int) > (0 : Int))) = false → (∀ V6 : View, V1.Le V6 → V6.w.heap[kb]? = some (.cells #[.int .i64 z5_.2.2.2] 3 (0, 0)) → R (.tuple #[]) V6)))))) :
    Acts prog 93 #[.pointer t, .func (.func 94) #[] #[.pointer (some ⟨kb, 0, none⟩)]] V R :=
  fn_does (LF := [8, 20, 25, 46, 48, 52, 93, 24, 1000024]) (RF := [1000006]) (β0 := (upd1 (fun _ => 0) 100000 kb)) tab_ok mixed [(1, { τ := Nat × Nat × (List Value) × Int, gh := true, keep := [1], keepB := [], slots := fun z => [(4, .c (.msl 4 z.1 z.2.1))], boxes := fun z => [(100000, ⟨.lit [.v (.int .i64 z.2.2.2)], 3⟩), (4, ⟨.mrow z.2.2.1, 79⟩)] })] [] func93 (by kernel_rfl)
    [(0, .c (.v (.pointer t))), (1, .c (.clo 94 [100000]))]
    [(100000, ⟨.lit [.v (.int .i64 k)], 3⟩)] (by kernel_rfl) ⟨⟨hw100000, hx100000⟩, trivial, trivial⟩ h (by kernel_rfl)

theorem vc_bsp_T_Size (t : Option Addr) (V : View) (R : Value → View → Prop)
    (h : (∀ V1 : View, V.Le V1 → ∀ bk1_ : Nat, (V1.w.heap[bk1_]? = some (.cells #[.int .i64 0] 3 (0, 0))) → (V1.H bk1_) → Acts prog 93 #[.pointer t, .func (.func 94) #[] #[.pointer (some ⟨bk1_, 0, none⟩)]] (V1.lend [bk1_]) fun r1_ V2 =>  r1_ = .tuple #[] ∧ ∃ x2_ : Int, V2.w.heap[bk1_]? = some (.cells #[.int .i64 x2_] 3 (0, 0)) ∧ (∀ V3 : View, V2.shut.Le V3 → R (.int .i64 x2_) V3))) :
    Acts prog 72 #[.pointer t] V R :=
  fn_does (LF := [8, 20, 25, 46, 48, 52, 93, 24, 1000024]) (RF := [1000006]) (β0 := (fun _ => 0)) tab_ok mixed [] [] func72 (by kernel_rfl)
    [(0, .c (.v (.pointer t)))]
    [] (by kernel_rfl) trivial h (by kernel_rfl)

theorem vc_bsp_T_Limited (t : Option Addr) (V : View) (R : Value → View → Prop)
    (h : (∀ V1 : View, V.Le V1 → Acts prog 72 #[.pointer t] V1 fun r1_ V2 => ∃ x1_ : Int, r1_ = .int .i64 x1_ ∧ (((decide (x1_ > (65536 : Int))) = true → (∃ y2_ : Value, (∃ a3_, (some ⟨0, 0, none⟩ : Option Addr) = some a3_ ∧ V2.at a3_ (y2_)) ∧ (∀ V3 : View, V2.Le V3 → R (.tuple #[.agg #[.int .i64 0, .slice none 0 0], y2_]) V3))) ∧ ((decide (x1_ > (65536 : Int))) = false → (∀ V4 : View, V2.Le V4 → Acts prog 29 #[.pointer t] V4 fun r4_ V5 => ∃ x4_ : Int, ∃ (p5_ : Option Addr) (n5_ c5_ : Nat), r4_ = .agg #[.int .i64 x4_, .slice p5_ n5_ c5_] ∧ (∀ V6 : View, V5.Le V6 → R (.tuple #[.agg #[.int .i64 x4_, .slice p5_ n5_ c5_], .nilIface]) V6)))))) :
    Acts prog 43 #[.pointer t] V R :=
  fn_does (LF := [8, 20, 25, 46, 48, 52, 93, 24, 1000024]) (RF := [1000006]) (β0 := (fun _ => 0)) tab_ok mixed [] [] func43 (by kernel_rfl)
    [(0, .c (.v (.pointer t)))]
    [] (by kernel_rfl) trivial h (by kernel_rfl)

theorem vc_bsp_T_Same (t : Option Addr) (u : Option Addr) (V : View) (R : Value → View → Prop)
    (h : (∀ V1 : View, V.Le V1 → Acts prog 49 #[.pointer t] V1 fun r1_ V2 => ∃ b1_ : Bool, r1_ = .bool b1_ ∧ (∀ V3 : View, V2.Le V3 → Acts prog 49 #[.pointer u] V3 fun r3_ V4 => ∃ b2_ : Bool, r3_ = .bool b2_ ∧ (((!(b1_ == b2_)) = true → (∀ V5 : View, V4.Le V5 → R (.bool false) V5)) ∧ ((!(b1_ == b2_)) = false → (∀ V6 : View, V4.Le V6 → Acts prog 49 #[.pointer t] V6 fun r6_ V7 => ∃ b3_ : Bool, r6_ = .bool b3_ ∧ ((b3_ = true → (t.isSome = true) ∧ (t.isSome = true) ∧ (∃ b4_ : Bool, (∃ a5_, addrAdd t 11 = some a5_ ∧ V7.at a5_ (.bool b4_)) ∧ (u.isSome = true) ∧ (u.isSome = true) ∧ (∃ b6_ : Bool, (∃ a7_, addrAdd u 11 = some a7_ ∧ V7.at a7_ (.bool b6_)) ∧ (∀ V8 : View, V7.Le V8 → R (.bool (b4_ == b6_)) V8)))) ∧ (b3_ = false → (t.isSome = true) ∧ (t.isSome = true) ∧ (∃ x8_ : Int, ∃ x9_ : Int, ∃ p10_ : Option Addr, ∃ x11_ : Int, ∃ x12_ : Int, ∃ p13_ : Option Addr, ∃ x14_ : Int, ∃ x15_ : Int, ∃ p16_ : Option Addr, ∃ a17_, addrAdd t 0 = some a17_ ∧ V7.at (a17_.add 0) (.int .i64 x8_) ∧ V7.at (a17_.add 1) (.int .i64 x9_) ∧ V7.at (a17_.add 2) (.pointer p10_) ∧ V7.at (a17_.add 3) (.int .i64 x11_) ∧ V7.at (a17_.add 4) (.int .i64 x12_) ∧ V7.at (a17_.add 5) (.pointer p13_) ∧ V7.at (a17_.add 6) (.int .i64 x14_) ∧ V7.at (a17_.add 7) (.int .i64 x15_) ∧ V7.at (a17_.add 8) (.pointer p16_) ∧ (u.isSome = true) ∧ (u.isSome = true) ∧ (∃ x18_ : Int, ∃ x19_ : Int, ∃ p20_ : Option Addr, ∃ x21_ : Int, ∃ x22_ : Int, ∃ p23_ : Option Addr, ∃ x24_ : Int, ∃ x25_ : Int, ∃ p26_ : Option Addr, ∃ a27_, addrAdd u 0 = some a27_ ∧ V7.at (a27_.add 0) (.int .i64 x18_) ∧ V7.at (a27_.add 1) (.int .i64 x19_) ∧ V7.at (a27_.add 2) (.pointer p20_) ∧ V7.at (a27_.add 3) (.int .i64 x21_) ∧ V7.at (a27_.add 4) (.int .i64 x22_) ∧ V7.at (a27_.add 5) (.pointer p23_) ∧ V7.at (a27_.add 6) (.int .i64 x24_) ∧ V7.at (a27_.add 7) (.int .i64 x25_) ∧ V7.at (a27_.add 8) (.pointer p26_) ∧ (∀ V9 : View, V7.Le V9 → Acts prog 54 #[.agg #[.int .i64 x8_, .int .i64 x9_, .pointer p10_, .int .i64 x11_, .int .i64 x12_, .pointer p13_, .int .i64 x14_, .int .i64 x15_, .pointer p16_], .agg #[.int .i64 x18_, .int .i64 x19_, .pointer p20_, .int .i64 x21_, .int .i64 x22_, .pointer p23_, .int .i64 x24_, .int .i64 x25_, .pointer p26_]] V9 fun r9_ V10 => ∃ b28_ : Bool, r9_ = .bool b28_ ∧ ((b28_ = true → (t.isSome = true) ∧ (t.isSome = true) ∧ (∃ p29_ : Option Addr, (∃ a30_, addrAdd t 9 = some a30_ ∧ V10.at a30_ (.pointer p29_)) ∧ (u.isSome = true) ∧ (u.isSome = true) ∧ (∃ p31_ : Option Addr, (∃ a32_, addrAdd u 9 = some a32_ ∧ V10.at a32_ (.pointer p31_)) ∧ (∀ V11 : View, V10.Le V11 → Acts prog 30 #[.pointer p29_, .pointer p31_] V11 fun r11_ V12 => ∃ b33_ : Bool, r11_ = .bool b33_ ∧ ((b33_ = true → (t.isSome = true) ∧ (t.isSome = true) ∧ (∃ p34_ : Option Addr, (∃ a35_, addrAdd t 10 = some a35_ ∧ V12.at a35_ (.pointer p34_)) ∧ (u.isSome = true) ∧ (u.isSome = true) ∧ (∃ p36_ : Option Addr, (∃ a37_, addrAdd u 10 = some a37_ ∧ V12.at a37_ (.pointer p36_)) ∧ (∀ V13 : View, V12.Le V13 → Acts prog 30 #[.pointer p34_, .pointer p36_] V13 fun r13_ V14 => ∃ b38_ : Bool, r13_ = .bool b38_ ∧ (∀ V15 : View, V14.Le V15 → R (.bool b38_) V15))))) ∧ (b33_ = false → (∀ V16 : View, V12.Le V16 → R (.bool false) V16))))))) ∧ (b28_ = false → (∀ V17 : View, V10.Le V17 → R (.bool false) V17)))))))))))))) :
    Acts prog 30 #[.pointer t, .pointer u] V R :=
  fn_does (LF := [8, 20, 25, 46, 48, 52, 93, 24, 1000024]) (RF := [1000006]) (β0 := (fun _ => 0)) tab_ok mixed [] [] func30 (by kernel_rfl)
    [(0, .c (.v (.pointer t))), (1, .c (.v (.pointer u)))]
    [] (by kernel_rfl) trivial h (by kernel_rfl)

end Go.Proofs.Tryz
/- Trees of package bsp in memory; contracts: Leaf, IsLeaf, New, reader.part, Of. -/
namespace Go.Proofs.Tryz
open Go.Eng Go.Big

theorem addadd (a : Addr) (i j : Nat) : (a.add i).add j = a.add (i + j) := by
  unfold Addr.add
  by_cases h1 : i = 0
  · subst h1; simp
  · by_cases h2 : j = 0
    · subst h2; simp [h1]
    · simp [h1, h2, Nat.add_assoc]
theorem rdc {V : View} {b : Nat} {xs : List Value} {ty : TypeId} {m : Nat × Nat} (h : V.blk b (.cells xs.toArray ty m)) (i : Nat) {v : Value} (hv : xs[i]? = some v) : ∃ a, addrAdd (some ⟨b, 0, none⟩) i = some a ∧ V.at a v :=
  ⟨⟨b, i, none⟩, by simp [addrAdd, add_zero'], blk_at h hv⟩

/-- A tree of package bsp. -/
def RT (V : View) : Option Addr → Tr → Prop
  | p, .leaf i => ∃ (b : Nat) (c0 c1 c2 c3 c4 c5 c6 c7 c8 : Value) (r : Option Addr), p = some ⟨b, 0, none⟩ ∧ V.blk b (.cells #[c0, c1, c2, c3, c4, c5, c6, c7, c8, .pointer none, .pointer r, .bool i] 109 (0, 0))
  | p, .node l x y => ∃ (b : Nat) (x1 x2 : Int) (x3 : Option Addr) (y1 y2 : Int) (y3 : Option Addr) (z1 z2 : Int) (z3 : Option Addr) (pl pr : Option Addr) (i : Bool), p = some ⟨b, 0, none⟩ ∧
      V.blk b (.cells #[.int .i64 x1, .int .i64 x2, .pointer x3, .int .i64 y1, .int .i64 y2, .pointer y3, .int .i64 z1, .int .i64 z2, .pointer z3, .pointer pl, .pointer pr, .bool i] 109 (0, 0)) ∧
      RLn V (.agg #[.int .i64 x1, .int .i64 x2, .pointer x3, .int .i64 y1, .int .i64 y2, .pointer y3, .int .i64 z1, .int .i64 z2, .pointer z3]) l.1 l.2.1 l.2.2 ∧ RT V pl x ∧ RT V pr y
theorem RT.le {V V' : View} (h : V.Le V') : ∀ {t : Tr} {p : Option Addr}, RT V p t → RT V' p t
  | .leaf i, p, ⟨b, c0, c1, c2, c3, c4, c5, c6, c7, c8, r, e, hb⟩ => ⟨b, c0, c1, c2, c3, c4, c5, c6, c7, c8, r, e, h _ _ hb⟩
  | .node l x y, p, ⟨b, x1, x2, x3, y1, y2, y3, z1, z2, z3, pl, pr, i, e, hb, hl, hx, hy⟩ => ⟨b, x1, x2, x3, y1, y2, y3, z1, z2, z3, pl, pr, i, e, h _ _ hb, hl.le h, RT.le h hx, RT.le h hy⟩
theorem RT.isS {V : View} {t : Tr} {p : Option Addr} (h : RT V p t) : p.isSome = true := by
  cases t with
  | leaf i => obtain ⟨b, c0, c1, c2, c3, c4, c5, c6, c7, c8, r, rfl, hb⟩ := h; rfl
  | node l x y => obtain ⟨b, x1, x2, x3, y1, y2, y3, z1, z2, z3, pl, pr, i, rfl, -⟩ := h; rfl

theorem c_bsp_Leaf {V : View} (i : Bool) : Acts prog 76 #[.bool i] V fun r V' => ∃ p, r = .pointer p ∧ RT V' p (.leaf i) :=
  vc_bsp_Leaf i V _ fun V1 l1 b hb => ⟨_, rfl, b, _, _, _, _, _, _, _, _, _, _, rfl, hb⟩

theorem c_bsp_IsLeaf {V : View} {p : Option Addr} {t : Tr} (h : RT V p t) : Acts prog 49 #[.pointer p] V fun r V' => r = .bool t.isLeaf := by
  cases t with
  | leaf i =>
    obtain ⟨b, c0, c1, c2, c3, c4, c5, c6, c7, c8, r, rfl, hb⟩ := h
    exact vc_bsp_T_IsLeaf _ V _ ⟨rfl, rfl, _, rdc hb 9 rfl, fun V1 l1 => rfl⟩
  | node l x y =>
    obtain ⟨b, x1, x2, x3, y1, y2, y3, z1, z2, z3, pl, pr, i, rfl, hb, hl, hx, hy⟩ := h
    refine vc_bsp_T_IsLeaf _ V _ ⟨rfl, rfl, _, rdc hb 9 rfl, fun V1 l1 => ?_⟩
    have := hx.isS
    cases pl with
    | none => cases this
    | some a => rfl

theorem c_bsp_New {V : View} {v : Value} {l : L3} {p q : Option Addr} {x y : Tr} (hl : RLn V v l.1 l.2.1 l.2.2) (hx : RT V p x) (hy : RT V q y) :
    Acts prog 42 #[v, .pointer p, .pointer q] V fun r V' => ∃ p', r = .pointer p' ∧ RT V' p' (.node l x y) := by
  have hl0 := hl
  obtain ⟨x1, x2, x3, y1, y2, y3, z1, z2, z3, rfl, -⟩ := hl
  exact vc_bsp_New _ _ _ _ _ _ _ _ _ p q V _ fun V1 l1 b hb => ⟨_, rfl, b, _, _, _, _, _, _, _, _, _, _, _, _, rfl, hb, hl0.le l1, hx.le l1, hy.le l1⟩

/-! nodes -/
/-- Rows of eight cells that hold nodes. -/
def NR (V : View) (vs : List Value) (l : List Nd) : Prop := ∀ (i : Nat) (d : Nd), l[i]? = some d → ∃ (b1 : Bool) (p1 : Option Addr) (n1 c1 : Nat) (b2 : Bool) (p2 : Option Addr) (n2 c2 : Nat) (b3 : Bool) (p3 : Option Addr) (n3 c3 : Nat),
  (∀ j v, ([.bool b1, .slice p1 n1 c1, .bool b2, .slice p2 n2 c2, .bool b3, .slice p3 n3 c3, .int .i64 d.left, .int .i64 d.right] : List Value)[j]? = some v → vs[i * 8 + j]? = some v) ∧
  RL V (.agg #[.bool b1, .slice p1 n1 c1, .bool b2, .slice p2 n2 c2, .bool b3, .slice p3 n3 c3]) d.ln.1 d.ln.2.1 d.ln.2.2
theorem NR.le {V V' : View} {vs : List Value} {l : List Nd} (h : NR V vs l) (hl : V.Le V') : NR V' vs l := fun i d hd => by
  obtain ⟨b1, p1, n1, c1, b2, p2, n2, c2, b3, p3, n3, c3, h1, h2⟩ := h i d hd
  exact ⟨b1, p1, n1, c1, b2, p2, n2, c2, b3, p3, n3, c3, h1, h2.le hl⟩
/-- A slice of nodes that is seen. -/
structure NS (V : View) (p : Option Addr) (n c : Nat) (l : List Nd) : Prop where
  len : n = l.length
  cap : n ≤ c
  row : ∃ vs, V.sl p vs ∧ NR V vs l
  nilc : p.isNone = true → c = 0
theorem NS.le {V V' : View} {p : Option Addr} {n c : Nat} {l : List Nd} (h : NS V p n c l) (hl : V.Le V') : NS V' p n c l := by
  obtain ⟨h1, h2, ⟨vs, h3, h4⟩, h5⟩ := h
  exact ⟨h1, h2, ⟨vs, hl.sl h3, h4.le hl⟩, h5⟩
theorem NS.nil {V : View} : NS V none 0 0 [] := ⟨rfl, Nat.le_refl _, ⟨[], fun i v h => by simp at h, fun i d h => by simp at h⟩, fun _ => rfl⟩
theorem NS.isS {V : View} {p : Option Addr} {n c : Nat} {l : List Nd} (h : NS V p n c l) (hn : n ≠ 0) : p.isSome = true := by
  cases p with
  | none => have := h.nilc rfl; have := h.cap; omega
  | some a => rfl

def bools (l : List Bool) : List Value := l.map .bool
theorem bools_get {l : List Bool} {i : Nat} {b : Bool} (h : l[i]? = some b) : (bools l)[i]? = some (.bool b) := by simp [bools, h]

theorem okLn_okL {a b c : Int} : okLn (decide (a < 0)) (digs a.natAbs) (decide (b < 0)) (digs b.natAbs) (decide (c < 0)) (digs c.natAbs) = okL (a, b, c) := by
  have hn : ∀ z : Int, NrmI (decide (z < 0)) (digs z.natAbs) = true := by
    intro z
    unfold NrmI
    rw [val_digs]
    simp only [decide_true, Bool.true_and]
    by_cases h : z < 0
    · simp only [h, decide_true, Bool.not_true, Bool.false_or, decide_eq_true_eq]
      intro e
      have := digs_eq_nil.1 e
      omega
    · simp [h]
  have hg : gcdQ (gcdQ (a : Rat) (b : Rat)) (c : Rat) = ((gcd3 a b c : Nat) : Int) := by
    have g2 : ∀ x y : Int, gcdQ (x : Rat) (y : Rat) = ((Nat.gcd x.natAbs y.natAbs : Nat) : Int) := by
      intro x y
      unfold gcdQ
      have e1 : ((x : Rat)).num = x := rfl
      have e2 : ((y : Rat)).num = y := rfl
      have e3 : ((x : Rat)).den = 1 := rfl
      have e4 : ((y : Rat)).den = 1 := rfl
      rw [e1, e2, e3, e4]
      simp only [Nat.mul_one]
      exact Rat.mkRat_one _
    rw [g2, g2]
    rfl
  unfold okLn okL
  rw [hn, hn, hn, ival_digs, ival_digs, ival_digs, hg]
  have h0 : ∀ z : Int, ((z : Rat) = 0) ↔ z = 0 := fun z => by exact Rat.intCast_eq_zero_iff
  simp only [Bool.true_and, h0]
  rw [Bool.eq_iff_iff]
  simp only [Bool.and_eq_true, Bool.not_eq_true', Bool.and_eq_false_iff, decide_eq_false_iff_not, decide_eq_true_eq]
  have h1 : (((gcd3 a b c : Nat) : Int) : Rat) = ((1 : Int) : Rat) ↔ gcd3 a b c = 1 := by
    rw [Rat.intCast_inj]; omega
  rw [h1]
  constructor
  · rintro ⟨h, h'⟩; exact ⟨fun e => by rcases h with h | h; exact h e.1; exact h e.2, h'⟩
  · rintro ⟨h, h'⟩
    refine ⟨?_, h'⟩
    by_cases ha : a = 0
    · exact .inr fun hb => h ⟨ha, hb⟩
    · exact .inl ha
theorem sz_int {z : Int} {k : Nat} (h : z.natAbs < 2 ^ k) (hk : 0 < k) : Sz k (z : Rat) := ⟨h, Nat.one_lt_two_pow (by omega)⟩
theorem Bd.digs {x : L3} (h : Bd x) : (digs x.1.natAbs).length ≤ 1000 ∧ (digs x.2.1.natAbs).length ≤ 1000 ∧ (digs x.2.2.natAbs).length ≤ 1000 := ⟨digs_len_bits h.1, digs_len_bits h.2.1, digs_len_bits h.2.2⟩
theorem Bd.sz {x : L3} (h : Bd x) : Sz 1000 (x.1 : Rat) ∧ Sz 1000 (x.2.1 : Rat) ∧ Sz 1000 (x.2.2 : Rat) := ⟨sz_int h.1 (by omega), sz_int h.2.1 (by omega), sz_int h.2.2 (by omega)⟩
/-- LnOf at a line in normal form. -/
theorem c_geo_LnOf' {V : View} {v : Value} {x : L3} (h : RL V v x.1 x.2.1 x.2.2) (hb : Bd x) :
    Acts prog 41 #[v] V fun r V' => ∃ w, r = .tuple #[w, .bool (okL x)] ∧ LnSh w ∧ (okL x = true → RLn V' w x.1 x.2.1 x.2.2) := by
  obtain ⟨p, n, s, p', n', s', q, m, e, rfl, h1, h2, h3⟩ := h
  obtain ⟨d1, d2, d3⟩ := hb.digs
  obtain ⟨s1, s2, s3⟩ := hb.sz
  have hc := c_geo_LnOf (V := V) (decide (x.1 < 0)) (decide (x.2.1 < 0)) (decide (x.2.2 < 0)) h1 h2 h3 (by omega) (by omega) (by omega) (k := 1000) (by rw [ival_digs]; exact s1) (by rw [ival_digs]; exact s2) (by rw [ival_digs]; exact s3) (by omega)
  rw [okLn_okL, ival_digs, ival_digs, ival_digs] at hc
  exact hc
end Go.Proofs.Tryz
/- Contracts: reader.part, bsp.Of. -/
namespace Go.Proofs.Tryz
open Go.Eng Go.Big

/-- A node is read. -/
theorem NS.rd {V : View} {p : Option Addr} {n c : Nat} {l : List Nd} (h : NS V p n c l) {k : Nat} {d : Nd} (hd : l[k]? = some d) :
    ∃ (b1 : Bool) (p1 : Option Addr) (n1 c1 : Nat) (b2 : Bool) (p2 : Option Addr) (n2 c2 : Nat) (b3 : Bool) (p3 : Option Addr) (n3 c3 : Nat) (a : Addr), addrAdd p (k * 8) = some a ∧
      V.at (a.add 0) (.bool b1) ∧ V.at (a.add 1) (.slice p1 n1 c1) ∧ V.at (a.add 2) (.bool b2) ∧ V.at (a.add 3) (.slice p2 n2 c2) ∧ V.at (a.add 4) (.bool b3) ∧ V.at (a.add 5) (.slice p3 n3 c3) ∧ V.at (a.add 6) (.int .i64 d.left) ∧ V.at (a.add 7) (.int .i64 d.right) ∧
      RL V (.agg #[.bool b1, .slice p1 n1 c1, .bool b2, .slice p2 n2 c2, .bool b3, .slice p3 n3 c3]) d.ln.1 d.ln.2.1 d.ln.2.2 := by
  obtain ⟨vs, hs, hr⟩ := h.row
  obtain ⟨b1, p1, n1, c1, b2, p2, n2, c2, b3, p3, n3, c3, h1, h2⟩ := hr k d hd
  obtain ⟨ad, rfl, -⟩ := hs _ _ (h1 0 _ rfl)
  have key : ∀ j v, ([.bool b1, .slice p1 n1 c1, .bool b2, .slice p2 n2 c2, .bool b3, .slice p3 n3 c3, .int .i64 d.left, .int .i64 d.right] : List Value)[j]? = some v → V.at ((ad.add (k * 8)).add j) v := by
    intro j v hv
    obtain ⟨ad', e, ha⟩ := hs _ _ (h1 j v hv)
    cases e
    rw [addadd]
    exact ha
  exact ⟨b1, p1, n1, c1, b2, p2, n2, c2, b3, p3, n3, c3, _, rfl, key 0 _ rfl, key 1 _ rfl, key 2 _ rfl, key 3 _ rfl, key 4 _ rfl, key 5 _ rfl, key 6 _ rfl, key 7 _ rfl, h2⟩

theorem c_bsp_part {l : List Nd} (hb : ∀ x ∈ l, Bd x.ln) (hlen : l.length ≤ 65536) : ∀ (f : Nat) (n : Int) (s : RS) {V : View} {rb sb : Nat} {npp : Option Addr} {nc : Nat}, NS V npp l.length nc l →
    V.w.heap[rb]? = some (.cells #[.slice npp l.length nc, .slice (some ⟨sb, 0, none⟩) l.length l.length, .int .i64 (s.cnt : Int), .bool s.bad] 115 (0, 0)) → V.X rb →
    V.w.heap[sb]? = some (.cells (bools s.seen).toArray 4 (0, 0)) → V.X sb → rb ≠ sb → s.seen.length = l.length → s.seen.count false < f → s.cnt + s.seen.count false ≤ l.length →
    Acts prog 52 #[.pointer (some ⟨rb, 0, none⟩), .int .i64 n] V fun r V' => ∃ p, r = .pointer p ∧ RT V' p (prt l f n s).1 ∧
      V'.w.heap[rb]? = some (.cells #[.slice npp l.length nc, .slice (some ⟨sb, 0, none⟩) l.length l.length, .int .i64 ((prt l f n s).2.cnt : Int), .bool (prt l f n s).2.bad] 115 (0, 0)) ∧
      V'.w.heap[sb]? = some (.cells (bools (prt l f n s).2.seen).toArray 4 (0, 0)) := by
  intro f
  induction f with
  | zero => intro n s V rb sb npp nc _ _ _ _ _ _ _ h; omega
  | succ f ih =>
    intro n s V rb sb npp nc hns hw1 hx1 hw2 hx2 hne hsl hcf hct
    refine vc_bsp_reader_part rb sb npp l.length nc l.length l.length s.cnt s.bad (bools s.seen) n V _ hw1 hx1 hw2 hx2 hne ⟨fun h0 V1 l1 => (c_bsp_Leaf _).mono ?_, fun h0 => ⟨fun h1 V4 l4 => (c_bsp_Leaf _).mono ?_, fun h1 => ⟨fun h2 V7 l7 => (c_bsp_Leaf _).mono ?_, fun h2 => ⟨fun h3 V10 l10 => (c_bsp_Leaf _).mono ?_, fun h3 => ?_⟩⟩⟩⟩
    · rintro r V2 l2 ⟨p, rfl, hp⟩
      have e0 : n = -2 := by simpa using h0
      have e : prt l (f + 1) n s = (.leaf true, s) := by simp [prt, e0]
      rw [h0] at hp
      exact ⟨p, rfl, fun V3 l3 g1 g2 => ⟨p, rfl, by rw [e]; exact hp.le l3, by rw [e]; exact g1, by rw [e]; exact g2⟩⟩
    · rintro r V2 l2 ⟨p, rfl, hp⟩
      have e0 : n = -1 := by simpa using h1
      have e : prt l (f + 1) n s = (.leaf false, s) := by simp [prt, e0]
      rw [h0] at hp
      exact ⟨p, rfl, fun V3 l3 g1 g2 => ⟨p, rfl, by rw [e]; exact hp.le l3, by rw [e]; exact g1, by rw [e]; exact g2⟩⟩
    · rintro r V2 l2 ⟨p, rfl, hp⟩
      have n0 : ¬ n = -2 := by simpa using h0
      have n1 : ¬ n = -1 := by simpa using h1
      have n2 : n < 0 := by simpa using h2
      have e : prt l (f + 1) n s = (.leaf false, { s with bad := true }) := by simp [prt, n0, n1, n2]
      exact ⟨p, rfl, fun V3 l3 g1 g2 => ⟨p, rfl, by rw [e]; exact hp.le l3, by rw [e]; exact g1, by rw [e]; exact g2⟩⟩
    · rintro r V2 l2 ⟨p, rfl, hp⟩
      have n0 : ¬ n = -2 := by simpa using h0
      have n1 : ¬ n = -1 := by simpa using h1
      have n2 : ¬ n < 0 := by simpa using h2
      have n3 : (l.length : Int) ≤ n := by simpa using h3
      have e : prt l (f + 1) n s = (.leaf false, { s with bad := true }) := by
        simp only [prt, n0, n1, n2, if_false]
        rw [List.getElem?_eq_none (by omega)]
      exact ⟨p, rfl, fun V3 l3 g1 g2 => ⟨p, rfl, by rw [e]; exact hp.le l3, by rw [e]; exact g1, by rw [e]; exact g2⟩⟩
    · have n0 : ¬ n = -2 := by simpa using h0
      have n1 : ¬ n = -1 := by simpa using h1
      have n2 : ¬ n < 0 := by simpa using h2
      have n3 : n < (l.length : Int) := by simpa using h3
      clear h0 h1 h2 h3
      obtain ⟨k, rfl⟩ := Int.eq_ofNat_of_zero_le (Int.not_lt.1 n2)
      have hk : k < l.length := by omega
      have hks : k < s.seen.length := by omega
      simp only [Int.toNat_natCast, Nat.mul_one, Nat.zero_add]
      have hsk : s.seen[k]? = some s.seen[k] := List.getElem?_eq_getElem hks
      have hlk : l[k]? = some l[k] := List.getElem?_eq_getElem hk
      refine ⟨⟨by omega, n3⟩, s.seen[k], bools_get hsk, fun h4 V13 l13 => (c_bsp_Leaf _).mono ?_, fun h4 => ⟨⟨by omega, n3⟩, by simp [bools]; omega, hns.isS (by omega), ⟨by omega, n3⟩, ?_⟩⟩
      · rintro r V2 l2 ⟨p, rfl, hp⟩
        have e : prt l (f + 1) (k : Int) s = (.leaf false, { s with bad := true }) := by
          simp only [prt, n0, n1, n2, if_false, Int.toNat_natCast]
          rw [hsk, h4, hlk]
        exact ⟨p, rfl, fun V3 l3 g1 g2 => ⟨p, rfl, by rw [e]; exact hp.le l3, by rw [e]; exact g1, by rw [e]; exact g2⟩⟩
      · obtain ⟨b1, p1, m1, c1, b2, p2, m2, c2, b3, p3, m3, c3, a, ha, a0, a1, a2, a3, a4, a5, a6, a7, hL⟩ := hns.rd hlk
        refine ⟨b1, p1, m1, c1, b2, p2, m2, c2, b3, p3, m3, c3, _, _, a, ha, a0, a1, a2, a3, a4, a5, a6, a7, fun V16 l16 => (c_geo_LnOf' (hL.le l16) (hb _ (List.getElem_mem hk))).mono ?_⟩
        rintro r V17 l17 ⟨w, rfl, ⟨x1, x2, x3, y1, y2, y3, z1, z2, z3, rfl⟩, hw⟩
        rw [h4] at hsk
        have hset : (bools s.seen).set k (.bool true) = bools (s.seen.set k true) := by simp [bools, List.map_set]
        have hcount := count_set hsk
        have w1 : IntKind.i64.wrap ((s.cnt : Int) + 1) = ((s.cnt + 1 : Nat) : Int) := by rw [i64w (by omega)]; omega
        rw [hset, w1]
        refine ⟨_, _, _, _, _, _, _, _, _, _, rfl, fun h5 V18 l18 => (c_bsp_Leaf _).mono ?_, fun h5 V21 l21 bk1 bk2 g1 g2 g3 g4 g5 => ?_⟩
        · rintro r V2 l2 ⟨p, rfl, hp⟩
          have h5 : okL l[k].ln = false := by simpa using h5
          have e : prt l (f + 1) (k : Int) s = (.leaf false, ⟨s.seen.set k true, s.cnt + 1, true⟩) := by
            simp only [prt, n0, n1, n2, if_false, Int.toNat_natCast]
            rw [hsk, hlk]
            simp [h5]
          exact ⟨p, rfl, fun V3 l3 g1 g2 => ⟨p, rfl, by rw [e]; exact hp.le l3, by rw [e]; exact g1, by rw [e]; exact g2⟩⟩
        · have h5 : okL l[k].ln = true := by simpa using h5
          have lv : V.Le V21 := l16.trans (l17.trans l21)
          have lX : ∀ (U : View) (u v : Nat), U.H u → U.H v → (U.lend [u, v]).X u ∧ (U.lend [u, v]).X v := fun U u v hu hv => ⟨⟨by simp, hu⟩, ⟨by simp, hv⟩⟩
          have i1 := ih l[k].left ⟨s.seen.set k true, s.cnt + 1, s.bad⟩ (V := V21.lend [bk1, bk2]) (hns.le lv) g1 (lX _ _ _ g2 g4).1 g3 (lX _ _ _ g2 g4).2 g5 (by simp [hsl]) (by dsimp only; omega) (by dsimp only; omega)
          have hm := prt_mono l f l[k].left ⟨s.seen.set k true, s.cnt + 1, s.bad⟩
          have hcc := prt_cnt l f l[k].left ⟨s.seen.set k true, s.cnt + 1, s.bad⟩
          have e : prt l (f + 1) (k : Int) s = (.node l[k].ln (prt l f l[k].left ⟨s.seen.set k true, s.cnt + 1, s.bad⟩).1 (prt l f l[k].right (prt l f l[k].left ⟨s.seen.set k true, s.cnt + 1, s.bad⟩).2).1, (prt l f l[k].right (prt l f l[k].left ⟨s.seen.set k true, s.cnt + 1, s.bad⟩).2).2) := by
            simp only [prt, n0, n1, n2, if_false, Int.toNat_natCast]
            rw [hsk, hlk]
            simp [h5]
          rw [e]
          clear e
          dsimp only
          generalize prt l f l[k].left ⟨s.seen.set k true, s.cnt + 1, s.bad⟩ = q1 at *
          obtain ⟨t1, s1⟩ := q1
          dsimp only at i1 hm hcc ⊢
          refine i1.mono ?_
          rintro r V22 l22 ⟨p, rfl, hp, e1, e2⟩
          refine ⟨p, rfl, _, _, _, _, _, e1, _, e2, fun V23 l23 bk3 bk4 f1 f2 f3 f4 f5 => ?_⟩
          have lv2 : V21.Le V23 := fun b o h => l23 b o (l22 b o h)
          have i2 := ih l[k].right s1 (V := V23.lend [bk3, bk4]) (hns.le (lv.trans lv2)) f1 (lX _ _ _ f2 f4).1 f3 (lX _ _ _ f2 f4).2 f5 (by rw [hm.2]; simp [hsl]) (by omega) (by omega)
          generalize prt l f l[k].right s1 = q2 at *
          obtain ⟨t2, s2⟩ := q2
          dsimp only at i2 ⊢
          refine i2.mono ?_
          rintro r V24 l24 ⟨q, rfl, hq, e3, e4⟩
          refine ⟨q, rfl, _, _, _, _, _, e3, _, e4, fun V25 l25 => ?_⟩
          have l24' : V23.Le V24 := fun b o h => l24 b o h
          have l25' : V24.Le V25 := fun b o h => l25 b o h
          have lw : V17.Le V25 := l21.trans (lv2.trans (l24'.trans l25'))
          have l23' : V22.Le V23 := fun b o h => l23 b o h
          refine (c_bsp_New ((hw h5).le lw) (hp.le (l23'.trans (l24'.trans l25'))) (hq.le l25')).mono ?_
          rintro r V26 l26 ⟨u, rfl, hu⟩
          exact ⟨u, rfl, fun V27 l27 g1 g2 => ⟨u, rfl, hu.le l27, g1, g2⟩⟩

theorem c_bsp_Of {V : View} {l : List Nd} (hb : ∀ x ∈ l, Bd x.ln) {p : Option Addr} {n c : Nat} (root : Int) (h : NS V p n c l) :
    Acts prog 28 #[.agg #[.int .i64 root, .slice p n c]] V fun r V' => (ofT l root = none → ∃ q, r = .tuple #[.pointer q, .bool false]) ∧ (∀ t, ofT l root = some t → ∃ q, r = .tuple #[.pointer q, .bool true] ∧ RT V' q t) := by
  have hl := h.len
  subst hl
  refine vc_bsp_Of root p l.length c V _ ⟨fun h0 V1 l1 => ?_, fun h0 => ⟨by omega, Int.le_refl _, ?_, fun V2 l2 bk1 bk2 g1 g2 g3 g4 g5 => ?_⟩⟩
  · have h0 : 65536 < l.length := by simp at h0; omega
    have e : ofT l root = none := by unfold ofT; rw [if_pos h0]
    exact ⟨fun _ => ⟨_, rfl⟩, fun t ht => by rw [e] at ht; cases ht⟩
  · have h0 : ¬ 65536 < l.length := by simp at h0; omega
    omega
  · have h0 : ¬ 65536 < l.length := by simp at h0; omega
    simp only [Int.toNat_natCast] at g1 g3 ⊢
    have hr : List.replicate l.length (Value.bool false) = bools (List.replicate l.length false) := by simp [bools]
    rw [hr] at g3
    have hc0 : (List.replicate l.length false).count false = l.length := by simp
    refine (c_bsp_part hb (by omega) (l.length + 1) root ⟨List.replicate l.length false, 0, false⟩ (V := V2.lend [bk1, bk2]) (h.le l2) g1 ⟨by simp, g2⟩ g3 ⟨by simp, g4⟩ g5 (by simp) (by dsimp only; omega) (by dsimp only; omega)).mono ?_
    rintro r V3 l3 ⟨q, rfl, hq, e1, e2⟩
    have hof : ofT l root = if (prt l (l.length + 1) root ⟨List.replicate l.length false, 0, false⟩).2.bad = true ∨ (prt l (l.length + 1) root ⟨List.replicate l.length false, 0, false⟩).2.cnt ≠ l.length then none else some (prt l (l.length + 1) root ⟨List.replicate l.length false, 0, false⟩).1 := by
      unfold ofT; rw [if_neg h0]
    rw [hof]
    clear hof
    generalize prt l (l.length + 1) root ⟨List.replicate l.length false, 0, false⟩ = r0 at *
    obtain ⟨t, s⟩ := r0
    refine ⟨q, rfl, _, _, _, _, _, e1, _, e2, fun h1 V4 l4 => ?_, fun h1 => ⟨fun h2 V5 l5 => ?_, fun h2 V6 l6 => ?_⟩⟩
    · rw [if_pos (.inl h1)]
      exact ⟨fun _ => ⟨_, rfl⟩, fun t ht => by cases ht⟩
    · have h2 : s.cnt ≠ l.length := by simp at h2; omega
      rw [if_pos (.inr h2)]
      exact ⟨fun _ => ⟨_, rfl⟩, fun t ht => by cases ht⟩
    · have h2 : s.cnt = l.length := by simp at h2; omega
      dsimp only at h1 ⊢
      rw [if_neg (by rw [h1, h2]; simp)]
      exact ⟨fun e => (by cases e), fun t1 ht => by cases ht; exact ⟨q, rfl, RT.le (V := V3) (V' := V6) (fun b o h => l6 b o h) hq⟩⟩
end Go.Proofs.Tryz
