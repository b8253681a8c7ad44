/- A part of the proof (joined by program from: EndA, VScene, VKeep, SceneA, SceneB, WriteA, KeepA, LawC). -/
import Derived.Test.YtecldfbdkdkajaaGreatDoorM13
import Derived.Test.YtecldfbdkdkajaaGreatDoorCards
import Derived.Test.YtecldfbdkdkajaaGreatDoorTie
import Derived.WalkKit
import Derived.ProofKit
import Derived.OpenShut
import Derived.Deep.DeepHandedRow
import Derived.LaidLaws
import Derived.Lay
import Derived.Carry
import Derived.Test.YtecldfbdkdkajaaGreatDoorM5
import Derived.Test.YtecldfbdkdkajaaGreatDoorM12
set_option linter.unusedVariables false
/- What the rows' lists give (the sentinels), and how a contract over views closes a law's step. -/
namespace Go.Proofs.YtecldfbdkdkajaaGreatDoor
open Go.ChangeShapes Go.WideShapes Go.ChangeAt Go.RowKit Go.Eng

theorem own : ownKnob Tryz.prog.godebug = none := by kernel_rfl
theorem star : "*" ++ "errors.errorString" = "*errors.errorString" := by decide
theorem rowE (u : TypeId) (h : Tryz.prog.typeName? 3 u = some "*errors.errorString") : u = 204 :=
  typeName_ptr_named (nm := "errors.errorString") (by rw [star]; kernel_rfl) (by kernel_rfl) (by decide) u (by rw [star]; exact h)
theorem cellsE : Tryz.prog.cellsOf 228 = 1 := by kernel_rfl
theorem cellsS : Tryz.prog.cellsOf 9 = 1 := by kernel_rfl

theorem row0 (g : Nat) : MemPlace.cell g 0 ∈ MemPlace.row ⟨g, 0, none⟩ 1 := by simp [MemPlace.row]
theorem cell0 {P : Program} {W : World} {name : String} {g : Nat} {v : Value} (hg : P.globalNamed name = some g) (h : W.var? P name = some #[v]) : W.cell? ⟨g, 0, none⟩ = some v := by simpa using World.var?_cell hg h 0
set_option maxRecDepth 100000 in
/-- What a list gives of a sentinel on it. -/
theorem sent_of_laid {W : World} {l : List (String × DataW Unit)} {name : String} {text : List UInt8} {g : Nat} (hg : Tryz.prog.globalNamed name = some g) (hty : (Tryz.prog.globals[g]?).map (·.type) = some 33)
    (hm : (name, .iface "*errors.errorString" (.ptr (.agg [.lit (.string text)]))) ∈ l) (h : laidMet Tryz.prog l W) :
    ∃ a, W.cell? ⟨g, 0, none⟩ = some (.iface 204 (.pointer (some a))) := by
  obtain ⟨ps, hv, -, hrows⟩ := h
  induction l generalizing ps with
  | nil => cases hm
  | cons x r ih =>
    obtain ⟨n, d⟩ := x
    obtain ⟨g', t, cs, fuel, p, q, hg', ht', hvar, hd, hr, rfl⟩ := hv
    rcases List.mem_cons.1 hm with e | hm
    · cases e
      obtain rfl := Option.some.inj (hg.symm.trans hg')
      obtain rfl := Option.some.inj (hty.symm.trans ht')
      obtain ⟨l0⟩ := cs
      have ok0 : ∀ u v, l0 = [.iface u v] → Value.okWide Tryz.prog W .any 0 u v := fun u v e => by
        subst e
        exact (hrows g 0 (List.mem_append_left _ (List.mem_append_left _ (row0 g)))).2 u v (cell0 hg hvar)
      obtain ⟨a, s, rfl, -⟩ := errorString_of_trod Tryz.underlying33 rowE Tryz.underlying204 Tryz.underlying228 rfl rfl Tryz.underlying9 cellsE cellsS hd ok0
      exact ⟨a, cell0 hg hvar⟩
    · exact ih hm q hr fun b off hb => hrows b off (List.mem_append_right _ hb)

/-- A world, seen whole. -/
def View.all (W : World) : View := ⟨W, fun _ => False, fun _ => False, fun _ h => h.elim, fun _ h => h⟩
theorem sent_all {W : World} {g : Nat} {y : Value} (h : W.cell? ⟨g, 0, none⟩ = some y) : Tryz.Sent (View.all W) g y := ⟨fun h => h, h⟩

theorem kept_of_ext {w w' : World} (h : ExtX (fun _ => False) w w') (may : MemPlace → Prop) : w.keptBut w' may := by
  refine ⟨h.os, h.out, fun i hi => ?_⟩
  rw [h.blk i hi (fun h => h)]
  cases w.heap[i]? with
  | none => rfl
  | some o => cases o <;> simp
theorem calls_of_acts {f : FuncId} {args : Array Value} {W : World} {R : Value → Prop} (h : Acts Tryz.prog f args (View.all W) fun r _ => R r) : Calls Tryz.prog f args W fun e w' => ∃ r, e = .returned r ∧ R r ∧ ExtX (fun _ => False) W w' :=
  h.2.mono fun e w' ⟨r, he, hx, hr⟩ => ⟨r, he, hr, hx⟩
theorem laidOut : laidOutB Tryz.prog = true := by kernel_rfl
theorem below_of_ext {w w' : World} (h : ExtX (fun _ => False) w w') : Below w.heap.size w w' := ⟨h.os, h.tape, h.out, h.size, fun k hk => h.blk k hk (fun h => h)⟩
/-- The arguments read as they did. -/
theorem all_stays {P : Program} (hlo : laidOutB P = true) {H : Type} {enc : TypeId × Value → H} {W W' : World} (hb : Below W.heap.size W W') (ts : List TypeId) : ∀ {vs : List Value} {ds : List (DataW H)} {ps : List MemPlace},
    (ts.all fun t => P.readableRec t && decide (t < P.types.size)) = true → DataW.TrodAll enc P W 0 (fun _ => true) true ts vs ds ps → (∀ x ∈ ps, x.block < W.heap.size) →
      DataW.TrodAll enc P W' 0 (fun b => decide (b < W.heap.size)) true ts vs ds ps := by
  induction ts with
  | nil =>
    intro vs ds ps _ h _
    obtain ⟨rfl, rfl, rfl⟩ := trodAll_nil h
    exact trodAll_mk0
  | cons t ts ih =>
    intro vs ds ps ht h hlt
    obtain ⟨v, vs', d, ds', p, q, rfl, rfl, rfl, h1, h2⟩ := trodAll_cons h
    simp only [List.all_cons, Bool.and_eq_true, decide_eq_true_eq] at ht
    exact trodAll_cons_mk (Below.trod hlo ht.1.1 ht.1.2 h1 hb fun x hx => hlt x (List.mem_append_left _ hx)) (ih ht.2 h2 fun x hx => hlt x (List.mem_append_right _ hx))
set_option maxRecDepth 100000 in
/-- A law's end: true, the arguments read as they did; the row does not say 'again'. -/
theorem law_end {H : Type} {enc : TypeId × Value → H} {fid : FuncId} {f : Func} {s : ChangeSpec} {W : World} {args : Array Value} {ds gs : List (DataW H)} {before : List MemPlace} {fresh handsOn : Bool}
    (hW : DataW.Whole enc Tryz.prog f.params.toList s.vars false W args.toList ds gs before) (hvars : s.vars = []) (hts : (f.params.toList.all fun t => Tryz.prog.readableRec t && decide (t < Tryz.prog.types.size)) = true)
    (hres : f.resultTypes = #[4]) (hs : s.fn H (ds ++ gs) = { results := [.lit (.bool true)], args := ds })
    (h : Acts Tryz.prog fid args (View.all W) fun r _ => r = .bool true) : Calls Tryz.prog fid args W fun e W' => ∃ v, e = .returned v ∧ s.post enc Tryz.prog f false fresh handsOn false W args v W' := by
  refine (calls_of_acts h).mono fun e W' ⟨r, he, hr, hx⟩ => ?_
  subst he hr
  have hW' := hW
  obtain ⟨p, q, hA, hV, rfl, -, -⟩ := hW
  rw [hvars] at hV
  obtain ⟨rfl, rfl⟩ := trodVars_none hV
  have hlt : ∀ x ∈ p ++ [], x.block < W.heap.size := fun x hx => hW'.lt x hx
  refine ⟨_, rfl, ds, _, p ++ [], [], p ++ [], [], hW', ?_, ?_, ?_, kept_of_ext hx _, fun h => nomatch h⟩
  · rw [hs, hres]
    exact trodAll_cons_mk (shut_bool Tryz.underlying4 _) trodAll_mk0
  · rw [hs, List.append_nil]
    exact all_stays laidOut (below_of_ext hx) _ hts hA fun x hx => hlt x (by rw [List.append_nil]; exact hx)
  · rw [hs, hvars]
    rfl
set_option maxRecDepth 100000 in
/-- A slice of ints as it came in. -/
theorem rdl_of_trod {H : Type} {enc : TypeId × Value → H} {W : World} {p : Option Addr} {n c : Nat} {d : DataW H} {ps : List MemPlace}
    (h : DataW.Trod enc Tryz.prog W 0 (fun _ => true) true 22 (.slice p n c) d ps) : n ≤ c ∧ ∀ i, i < n → ∃ (a : Addr) (x : Int), addrAdd p (i * 1) = some a ∧ (View.all W).at a (.int .i64 x) := by
  obtain ⟨fuel, hf⟩ := h
  rcases open_ints Tryz.underlying22 Tryz.underlying3 (show Tryz.prog.cellsOf 3 = 1 by kernel_rfl) hf with ⟨hcs, -⟩ | ⟨a, len', cap', zs, hcs, _, hl, -, hz, -, hcell, -⟩
  · simp [Value.cells] at hcs
    obtain ⟨rfl, rfl, rfl⟩ := hcs
    exact ⟨Nat.le_refl _, fun i hi => absurd hi (by omega)⟩
  · simp [Value.cells] at hcs
    obtain ⟨rfl, rfl, rfl⟩ := hcs
    simp only [if_true] at hz
    exact ⟨hl, fun i hi => ⟨a.add i, _, by rw [Nat.mul_one]; rfl, fun h => h, hcell i (by omega)⟩⟩
end Go.Proofs.YtecldfbdkdkajaaGreatDoor
/- By program: the conditions of the functions, from their loaded code. -/
namespace Go.Proofs.Tryz
open Go.Eng
set_option maxRecDepth 100000

theorem vc_scene_New (lp : Option Addr) (ln lc : Nat) (V : View) (R : Value → View → Prop)
    (h : (0 ≤ (minI ((ln : Nat) : Int) (400)) ∧ (minI ((ln : Nat) : Int) (400)) ≤ ((lc : Nat) : Int)) ∧ (∀ V1 : View, V.Le V1 → ∀ bk1_ : Nat, (V1.blk bk1_ (.cells #[.slice lp ((minI ((ln : Nat) : Int) (400)).toNat) lc, .int .i64 0] 73 (0, 0))) → R (.pointer (some ⟨bk1_, 0, none⟩)) V1)) :
    Acts prog 6 #[.slice lp ln lc] V R :=
  fn_does (LF := [8, 20, 25, 46, 48, 52, 93, 24, 1000024]) (RF := [1000006]) (β0 := (fun _ => 0)) tab_ok mixed [] [] func6 (by kernel_rfl)
    [(0, .c (.v (.slice lp ln lc)))]
    [] (by kernel_rfl) trivial h (by kernel_rfl)

theorem vc_scene_Tape_Next (tb : Nat) (lp : Option Addr) (ln lc : Nat) (at_ : Int) (a1 : Int) (V : View) (R : Value → View → Prop) (hw100000 : V.w.heap[tb]? = some (.cells #[.slice lp ln lc, .int .i64 at_] 73 (0, 0))) (hx100000 : V.X tb)
    (h : (((decide (at_ ≥ ((ln : Nat) : Int))) = true → (∀ V1 : View, V.Le V1 → V1.w.heap[tb]? = some (.cells #[.slice lp ln lc, .int .i64 at_] 73 (0, 0)) → R (.int .i64 0) V1)) ∧ ((decide (at_ ≥ ((ln : Nat) : Int))) = false → (lp.isSome = true) ∧ (0 ≤ at_ ∧ at_ < ((ln : Nat) : Int)) ∧ (∃ x1_ : Int, (∃ a2_, addrAdd lp (at_.toNat * 1) = some a2_ ∧ V.at a2_ (.int .i64 x1_)) ∧ (a1 ≠ 0) ∧ (((decide ((x1_.tmod a1) < (0 : Int))) = true → (∀ V2 : View, V.Le V2 → V2.w.heap[tb]? = some (.cells #[.slice lp ln lc, .int .i64 (IntKind.i64.wrap (at_ + (1 : Int)))] 73 (0, 0)) → R (.int .i64 (IntKind.i64.wrap ((x1_.tmod a1) + a1))) V2)) ∧ ((decide ((x1_.tmod a1) < (0 : Int))) = false → (∀ V3 : View, V.Le V3 → V3.w.heap[tb]? = some (.cells #[.slice lp ln lc, .int .i64 (IntKind.i64.wrap (at_ + (1 : Int)))] 73 (0, 0)) → R (.int .i64 (x1_.tmod a1)) V3))))))) :
    Acts prog 25 #[.pointer (some ⟨tb, 0, none⟩), .int .i64 a1] V R :=
  fn_does (LF := [8, 20, 25, 46, 48, 52, 93, 24, 1000024]) (RF := [1000006]) (β0 := (upd1 (fun _ => 0) 100000 tb)) tab_ok mixed [] [] func25 (by kernel_rfl)
    [(0, .c (.ptr 100000 0)), (1, .c (.v (.int .i64 a1)))]
    [(100000, ⟨.lit [.v (.slice lp ln lc), .v (.int .i64 at_)], 73⟩)] (by kernel_rfl) ⟨⟨hw100000, hx100000⟩, trivial, trivial⟩ h (by kernel_rfl)

theorem vc_scene_Tape_P (tb : Nat) (lp : Option Addr) (ln lc : Nat) (at_ : Int) (V : View) (R : Value → View → Prop) (hw100000 : V.w.heap[tb]? = some (.cells #[.slice lp ln lc, .int .i64 at_] 73 (0, 0))) (hx100000 : V.X tb)
    (h : (∀ V1 : View, V.Le V1 → ∀ bk1_ : Nat, (V1.w.heap[bk1_]? = some (.cells #[.slice lp ln lc, .int .i64 at_] 73 (0, 0))) → (V1.H bk1_) → Acts prog 25 #[.pointer (some ⟨bk1_, 0, none⟩), .int .i64 9] (V1.lend [bk1_]) fun r1_ V2 => ∃ x2_ : Int, r1_ = .int .i64 x2_ ∧ ∃ (p3_ : Option Addr) (n3_ c3_ : Nat), ∃ x4_ : Int, V2.w.heap[bk1_]? = some (.cells #[.slice p3_ n3_ c3_, .int .i64 x4_] 73 (0, 0)) ∧ (∀ V3 : View, V2.shut.Le V3 → ∀ bk5_ : Nat, (V3.w.heap[bk5_]? = some (.cells #[.slice p3_ n3_ c3_, .int .i64 x4_] 73 (0, 0))) → (V3.H bk5_) → Acts prog 25 #[.pointer (some ⟨bk5_, 0, none⟩), .int .i64 9] (V3.lend [bk5_]) fun r3_ V4 => ∃ x6_ : Int, r3_ = .int .i64 x6_ ∧ ∃ (p7_ : Option Addr) (n7_ c7_ : Nat), ∃ x8_ : Int, V4.w.heap[bk5_]? = some (.cells #[.slice p7_ n7_ c7_, .int .i64 x8_] 73 (0, 0)) ∧ (∀ V5 : View, V4.shut.Le V5 → Acts prog 16 #[.int .i64 (IntKind.i64.wrap (x2_ - (4 : Int))), .int .i64 (IntKind.i64.wrap (x6_ - (4 : Int)))] V5 fun r5_ V6 => ∃ b9_ : Bool, ∃ (p10_ : Option Addr) (n10_ c10_ : Nat), ∃ (p11_ : Option Addr) (n11_ c11_ : Nat), ∃ b12_ : Bool, ∃ (p13_ : Option Addr) (n13_ c13_ : Nat), ∃ (p14_ : Option Addr) (n14_ c14_ : Nat), r5_ = .agg #[.bool b9_, .slice p10_ n10_ c10_, .slice p11_ n11_ c11_, .bool b12_, .slice p13_ n13_ c13_, .slice p14_ n14_ c14_] ∧ (∀ V7 : View, V6.Le V7 → V7.w.heap[tb]? = some (.cells #[.slice p7_ n7_ c7_, .int .i64 x8_] 73 (0, 0)) → R (.agg #[.bool b9_, .slice p10_ n10_ c10_, .slice p11_ n11_ c11_, .bool b12_, .slice p13_ n13_ c13_, .slice p14_ n14_ c14_]) V7))))) :
    Acts prog 46 #[.pointer (some ⟨tb, 0, none⟩)] V R :=
  fn_does (LF := [8, 20, 25, 46, 48, 52, 93, 24, 1000024]) (RF := [1000006]) (β0 := (upd1 (fun _ => 0) 100000 tb)) tab_ok mixed [] [] func46 (by kernel_rfl)
    [(0, .c (.ptr 100000 0))]
    [(100000, ⟨.lit [.v (.slice lp ln lc), .v (.int .i64 at_)], 73⟩)] (by kernel_rfl) ⟨⟨hw100000, hx100000⟩, trivial, trivial⟩ h (by kernel_rfl)

theorem vc_scene_Tape_V (tb : Nat) (lp : Option Addr) (ln lc : Nat) (at_ : Int) (V : View) (R : Value → View → Prop) (hw100000 : V.w.heap[tb]? = some (.cells #[.slice lp ln lc, .int .i64 at_] 73 (0, 0))) (hx100000 : V.X tb)
    (h : (∀ V1 : View, V.Le V1 → ∀ bk1_ : Nat, (V1.w.heap[bk1_]? = some (.cells #[.slice lp ln lc, .int .i64 at_] 73 (0, 0))) → (V1.H bk1_) → Acts prog 46 #[.pointer (some ⟨bk1_, 0, none⟩)] (V1.lend [bk1_]) fun r1_ V2 => ∃ b2_ : Bool, ∃ (p3_ : Option Addr) (n3_ c3_ : Nat), ∃ (p4_ : Option Addr) (n4_ c4_ : Nat), ∃ b5_ : Bool, ∃ (p6_ : Option Addr) (n6_ c6_ : Nat), ∃ (p7_ : Option Addr) (n7_ c7_ : Nat), r1_ = .agg #[.bool b2_, .slice p3_ n3_ c3_, .slice p4_ n4_ c4_, .bool b5_, .slice p6_ n6_ c6_, .slice p7_ n7_ c7_] ∧ ∃ (p8_ : Option Addr) (n8_ c8_ : Nat), ∃ x9_ : Int, V2.w.heap[bk1_]? = some (.cells #[.slice p8_ n8_ c8_, .int .i64 x9_] 73 (0, 0)) ∧ (∀ V3 : View, V2.shut.Le V3 → Acts prog 73 #[.agg #[.bool b2_, .slice p3_ n3_ c3_, .slice p4_ n4_ c4_, .bool b5_, .slice p6_ n6_ c6_, .slice p7_ n7_ c7_], .agg #[.bool false, .slice none 0 0, .slice none 0 0, .bool false, .slice none 0 0, .slice none 0 0]] V3 fun r3_ V4 => ∃ b10_ : Bool, r3_ = .bool b10_ ∧ ((b10_ = true → (∀ V5 : View, V4.Le V5 → Acts prog 16 #[.int .i64 1, .int .i64 0] V5 fun r5_ V6 => ∃ b11_ : Bool, ∃ (p12_ : Option Addr) (n12_ c12_ : Nat), ∃ (p13_ : Option Addr) (n13_ c13_ : Nat), ∃ b14_ : Bool, ∃ (p15_ : Option Addr) (n15_ c15_ : Nat), ∃ (p16_ : Option Addr) (n16_ c16_ : Nat), r5_ = .agg #[.bool b11_, .slice p12_ n12_ c12_, .slice p13_ n13_ c13_, .bool b14_, .slice p15_ n15_ c15_, .slice p16_ n16_ c16_] ∧ (∀ V7 : View, V6.Le V7 → V7.w.heap[tb]? = some (.cells #[.slice p8_ n8_ c8_, .int .i64 x9_] 73 (0, 0)) → R (.agg #[.bool b11_, .slice p12_ n12_ c12_, .slice p13_ n13_ c13_, .bool b14_, .slice p15_ n15_ c15_, .slice p16_ n16_ c16_]) V7))) ∧ (b10_ = false → (∀ V8 : View, V4.Le V8 → V8.w.heap[tb]? = some (.cells #[.slice p8_ n8_ c8_, .int .i64 x9_] 73 (0, 0)) → R (.agg #[.bool b2_, .slice p3_ n3_ c3_, .slice p4_ n4_ c4_, .bool b5_, .slice p6_ n6_ c6_, .slice p7_ n7_ c7_]) V8)))))) :
    Acts prog 48 #[.pointer (some ⟨tb, 0, none⟩)] V R :=
  fn_does (LF := [8, 20, 25, 46, 48, 52, 93, 24, 1000024]) (RF := [1000006]) (β0 := (upd1 (fun _ => 0) 100000 tb)) tab_ok mixed [] [] func48 (by kernel_rfl)
    [(0, .c (.ptr 100000 0))]
    [(100000, ⟨.lit [.v (.slice lp ln lc), .v (.int .i64 at_)], 73⟩)] (by kernel_rfl) ⟨⟨hw100000, hx100000⟩, trivial, trivial⟩ h (by kernel_rfl)

theorem vc_scene_Tape_L (tb : Nat) (lp : Option Addr) (ln lc : Nat) (at_ : Int) (V : View) (R : Value → View → Prop) (hw100000 : V.w.heap[tb]? = some (.cells #[.slice lp ln lc, .int .i64 at_] 73 (0, 0))) (hx100000 : V.X tb)
    (h : (∀ V1 : View, V.Le V1 → ∀ bk1_ : Nat, (V1.w.heap[bk1_]? = some (.cells #[.slice lp ln lc, .int .i64 at_] 73 (0, 0))) → (V1.H bk1_) → Acts prog 46 #[.pointer (some ⟨bk1_, 0, none⟩)] (V1.lend [bk1_]) fun r1_ V2 => ∃ b2_ : Bool, ∃ (p3_ : Option Addr) (n3_ c3_ : Nat), ∃ (p4_ : Option Addr) (n4_ c4_ : Nat), ∃ b5_ : Bool, ∃ (p6_ : Option Addr) (n6_ c6_ : Nat), ∃ (p7_ : Option Addr) (n7_ c7_ : Nat), r1_ = .agg #[.bool b2_, .slice p3_ n3_ c3_, .slice p4_ n4_ c4_, .bool b5_, .slice p6_ n6_ c6_, .slice p7_ n7_ c7_] ∧ ∃ (p8_ : Option Addr) (n8_ c8_ : Nat), ∃ x9_ : Int, V2.w.heap[bk1_]? = some (.cells #[.slice p8_ n8_ c8_, .int .i64 x9_] 73 (0, 0)) ∧ (∀ V3 : View, V2.shut.Le V3 → Acts prog 39 #[.int .i64 1] V3 fun r3_ V4 => ∃ b10_ : Bool, ∃ (p11_ : Option Addr) (n11_ c11_ : Nat), ∃ (p12_ : Option Addr) (n12_ c12_ : Nat), r3_ = .agg #[.bool b10_, .slice p11_ n11_ c11_, .slice p12_ n12_ c12_] ∧ (∀ V5 : View, V4.Le V5 → ∀ bk13_ : Nat, (V5.w.heap[bk13_]? = some (.cells #[.slice p8_ n8_ c8_, .int .i64 x9_] 73 (0, 0))) → (V5.H bk13_) → Acts prog 48 #[.pointer (some ⟨bk13_, 0, none⟩)] (V5.lend [bk13_]) fun r5_ V6 => ∃ b14_ : Bool, ∃ (p15_ : Option Addr) (n15_ c15_ : Nat), ∃ (p16_ : Option Addr) (n16_ c16_ : Nat), ∃ b17_ : Bool, ∃ (p18_ : Option Addr) (n18_ c18_ : Nat), ∃ (p19_ : Option Addr) (n19_ c19_ : Nat), r5_ = .agg #[.bool b14_, .slice p15_ n15_ c15_, .slice p16_ n16_ c16_, .bool b17_, .slice p18_ n18_ c18_, .slice p19_ n19_ c19_] ∧ ∃ (p20_ : Option Addr) (n20_ c20_ : Nat), ∃ x21_ : Int, V6.w.heap[bk13_]? = some (.cells #[.slice p20_ n20_ c20_, .int .i64 x21_] 73 (0, 0)) ∧ (∀ V7 : View, V6.shut.Le V7 → Acts prog 47 #[.agg #[.bool b2_, .slice p3_ n3_ c3_, .slice p4_ n4_ c4_, .bool b5_, .slice p6_ n6_ c6_, .slice p7_ n7_ c7_], .agg #[.bool b10_, .slice p11_ n11_ c11_, .slice p12_ n12_ c12_], .agg #[.bool b14_, .slice p15_ n15_ c15_, .slice p16_ n16_ c16_, .bool b17_, .slice p18_ n18_ c18_, .slice p19_ n19_ c19_]] V7 fun r7_ V8 => ∃ b22_ : Bool, ∃ (p23_ : Option Addr) (n23_ c23_ : Nat), ∃ (p24_ : Option Addr) (n24_ c24_ : Nat), ∃ b25_ : Bool, ∃ (p26_ : Option Addr) (n26_ c26_ : Nat), ∃ (p27_ : Option Addr) (n27_ c27_ : Nat), r7_ = .agg #[.bool b22_, .slice p23_ n23_ c23_, .slice p24_ n24_ c24_, .bool b25_, .slice p26_ n26_ c26_, .slice p27_ n27_ c27_] ∧ (∀ V9 : View, V8.Le V9 → Acts prog 15 #[.agg #[.bool b2_, .slice p3_ n3_ c3_, .slice p4_ n4_ c4_, .bool b5_, .slice p6_ n6_ c6_, .slice p7_ n7_ c7_], .agg #[.bool b22_, .slice p23_ n23_ c23_, .slice p24_ n24_ c24_, .bool b25_, .slice p26_ n26_ c26_, .slice p27_ n27_ c27_]] V9 fun r9_ V10 => ∃ b28_ : Bool, ∃ (p29_ : Option Addr) (n29_ c29_ : Nat), ∃ b30_ : Bool, ∃ (p31_ : Option Addr) (n31_ c31_ : Nat), ∃ b32_ : Bool, ∃ (p33_ : Option Addr) (n33_ c33_ : Nat), ∃ b34_ : Bool, r9_ = .tuple #[.agg #[.bool b28_, .slice p29_ n29_ c29_, .bool b30_, .slice p31_ n31_ c31_, .bool b32_, .slice p33_ n33_ c33_], .bool b34_] ∧ (∀ V11 : View, V10.Le V11 → V11.w.heap[tb]? = some (.cells #[.slice p20_ n20_ c20_, .int .i64 x21_] 73 (0, 0)) → R (.agg #[.bool b28_, .slice p29_ n29_ c29_, .bool b30_, .slice p31_ n31_ c31_, .bool b32_, .slice p33_ n33_ c33_]) V11))))))) :
    Acts prog 20 #[.pointer (some ⟨tb, 0, none⟩)] V R :=
  fn_does (LF := [8, 20, 25, 46, 48, 52, 93, 24, 1000024]) (RF := [1000006]) (β0 := (upd1 (fun _ => 0) 100000 tb)) tab_ok mixed [] [] func20 (by kernel_rfl)
    [(0, .c (.ptr 100000 0))]
    [(100000, ⟨.lit [.v (.slice lp ln lc), .v (.int .i64 at_)], 73⟩)] (by kernel_rfl) ⟨⟨hw100000, hx100000⟩, trivial, trivial⟩ h (by kernel_rfl)

theorem vc_scene_Tape_Tree (tb : Nat) (lp : Option Addr) (ln lc : Nat) (at_ : Int) (a1 : Int) (V : View) (R : Value → View → Prop) (hw100000 : V.w.heap[tb]? = some (.cells #[.slice lp ln lc, .int .i64 at_] 73 (0, 0))) (hx100000 : V.X tb)
    (h : (((a1 == (0 : Int)) = true → (∀ V1 : View, V.Le V1 → ∀ bk1_ : Nat, (V1.w.heap[bk1_]? = some (.cells #[.slice lp ln lc, .int .i64 at_] 73 (0, 0))) → (V1.H bk1_) → Acts prog 25 #[.pointer (some ⟨bk1_, 0, none⟩), .int .i64 2] (V1.lend [bk1_]) fun r1_ V2 => ∃ x2_ : Int, r1_ = .int .i64 x2_ ∧ ∃ (p3_ : Option Addr) (n3_ c3_ : Nat), ∃ x4_ : Int, V2.w.heap[bk1_]? = some (.cells #[.slice p3_ n3_ c3_, .int .i64 x4_] 73 (0, 0)) ∧ (∀ V3 : View, V2.shut.Le V3 → Acts prog 26 #[.bool (x2_ == (1 : Int))] V3 fun r3_ V4 => ∃ p5_ : Option Addr, r3_ = .pointer p5_ ∧ (∀ V5 : View, V4.Le V5 → V5.w.heap[tb]? = some (.cells #[.slice p3_ n3_ c3_, .int .i64 x4_] 73 (0, 0)) → R (.pointer p5_) V5)))) ∧ ((a1 == (0 : Int)) = false → (∀ V6 : View, V.Le V6 → ∀ bk6_ : Nat, (V6.w.heap[bk6_]? = some (.cells #[.slice lp ln lc, .int .i64 at_] 73 (0, 0))) → (V6.H bk6_) → Acts prog 25 #[.pointer (some ⟨bk6_, 0, none⟩), .int .i64 4] (V6.lend [bk6_]) fun r6_ V7 => ∃ x7_ : Int, r6_ = .int .i64 x7_ ∧ ∃ (p8_ : Option Addr) (n8_ c8_ : Nat), ∃ x9_ : Int, V7.w.heap[bk6_]? = some (.cells #[.slice p8_ n8_ c8_, .int .i64 x9_] 73 (0, 0)) ∧ (((x7_ == (0 : Int)) = true → (∀ V8 : View, V7.shut.Le V8 → ∀ bk10_ : Nat, (V8.w.heap[bk10_]? = some (.cells #[.slice p8_ n8_ c8_, .int .i64 x9_] 73 (0, 0))) → (V8.H bk10_) → Acts prog 25 #[.pointer (some ⟨bk10_, 0, none⟩), .int .i64 2] (V8.lend [bk10_]) fun r8_ V9 => ∃ x11_ : Int, r8_ = .int .i64 x11_ ∧ ∃ (p12_ : Option Addr) (n12_ c12_ : Nat), ∃ x13_ : Int, V9.w.heap[bk10_]? = some (.cells #[.slice p12_ n12_ c12_, .int .i64 x13_] 73 (0, 0)) ∧ (∀ V10 : View, V9.shut.Le V10 → Acts prog 26 #[.bool (x11_ == (1 : Int))] V10 fun r10_ V11 => ∃ p14_ : Option Addr, r10_ = .pointer p14_ ∧ (∀ V12 : View, V11.Le V12 → V12.w.heap[tb]? = some (.cells #[.slice p12_ n12_ c12_, .int .i64 x13_] 73 (0, 0)) → R (.pointer p14_) V12)))) ∧ ((x7_ == (0 : Int)) = false → (∀ V13 : View, V7.shut.Le V13 → ∀ bk15_ : Nat, (V13.w.heap[bk15_]? = some (.cells #[.slice p8_ n8_ c8_, .int .i64 x9_] 73 (0, 0))) → (V13.H bk15_) → Acts prog 20 #[.pointer (some ⟨bk15_, 0, none⟩)] (V13.lend [bk15_]) fun r13_ V14 => ∃ b16_ : Bool, ∃ (p17_ : Option Addr) (n17_ c17_ : Nat), ∃ b18_ : Bool, ∃ (p19_ : Option Addr) (n19_ c19_ : Nat), ∃ b20_ : Bool, ∃ (p21_ : Option Addr) (n21_ c21_ : Nat), r13_ = .agg #[.bool b16_, .slice p17_ n17_ c17_, .bool b18_, .slice p19_ n19_ c19_, .bool b20_, .slice p21_ n21_ c21_] ∧ ∃ (p22_ : Option Addr) (n22_ c22_ : Nat), ∃ x23_ : Int, V14.w.heap[bk15_]? = some (.cells #[.slice p22_ n22_ c22_, .int .i64 x23_] 73 (0, 0)) ∧ (∀ V15 : View, V14.shut.Le V15 → ∀ bk24_ : Nat, (V15.w.heap[bk24_]? = some (.cells #[.slice p22_ n22_ c22_, .int .i64 x23_] 73 (0, 0))) → (V15.H bk24_) → Acts prog 8 #[.pointer (some ⟨bk24_, 0, none⟩), .int .i64 (IntKind.i64.wrap (a1 - (1 : Int)))] (V15.lend [bk24_]) fun r15_ V16 => ∃ p25_ : Option Addr, r15_ = .pointer p25_ ∧ ∃ (p26_ : Option Addr) (n26_ c26_ : Nat), ∃ x27_ : Int, V16.w.heap[bk24_]? = some (.cells #[.slice p26_ n26_ c26_, .int .i64 x27_] 73 (0, 0)) ∧ (∀ V17 : View, V16.shut.Le V17 → ∀ bk28_ : Nat, (V17.w.heap[bk28_]? = some (.cells #[.slice p26_ n26_ c26_, .int .i64 x27_] 73 (0, 0))) → (V17.H bk28_) → Acts prog 8 #[.pointer (some ⟨bk28_, 0, none⟩), .int .i64 (IntKind.i64.wrap (a1 - (1 : Int)))] (V17.lend [bk28_]) fun r17_ V18 => ∃ p29_ : Option Addr, r17_ = .pointer p29_ ∧ ∃ (p30_ : Option Addr) (n30_ c30_ : Nat), ∃ x31_ : Int, V18.w.heap[bk28_]? = some (.cells #[.slice p30_ n30_ c30_, .int .i64 x31_] 73 (0, 0)) ∧ (∀ V19 : View, V18.shut.Le V19 → ∀ bk32_ : Nat, V19.w.heap[tb]? = some (.cells #[.slice p30_ n30_ c30_, .int .i64 x31_] 73 (0, 0)) → (V19.blk bk32_ (.cells #[.bool false, .bool false, .bool b16_, .slice p17_ n17_ c17_, .bool b18_, .slice p19_ n19_ c19_, .bool b20_, .slice p21_ n21_ c21_, .pointer p25_, .pointer p29_] 66 (0, 0))) → R (.pointer (some ⟨bk32_, 0, none⟩)) V19)))))))))) :
    Acts prog 8 #[.pointer (some ⟨tb, 0, none⟩), .int .i64 a1] V R :=
  fn_does (LF := [8, 20, 25, 46, 48, 52, 93, 24, 1000024]) (RF := [1000006]) (β0 := (upd1 (fun _ => 0) 100000 tb)) tab_ok mixed [] [] func8 (by kernel_rfl)
    [(0, .c (.ptr 100000 0)), (1, .c (.v (.int .i64 a1)))]
    [(100000, ⟨.lit [.v (.slice lp ln lc), .v (.int .i64 at_)], 73⟩)] (by kernel_rfl) ⟨⟨hw100000, hx100000⟩, trivial, trivial⟩ h (by kernel_rfl)

end Go.Proofs.Tryz
/- By program: the conditions of the functions, from their loaded code. -/
namespace Go.Proofs.Tryz
open Go.Eng
set_option maxRecDepth 100000

theorem vc_keep_moved (i : Int) (n : Int) (by_ : Int) (V : View) (R : Value → View → Prop)
    (h : (((decide (i < (0 : Int))) = true → (∀ V1 : View, V.Le V1 → R (.int .i64 i) V1)) ∧ ((decide (i < (0 : Int))) = false → (n ≠ 0) ∧ (∀ V2 : View, V.Le V2 → R (.int .i64 (IntKind.i64.wrap ((IntKind.i64.wrap (n - (1 : Int))) - ((IntKind.i64.wrap (i + by_)).tmod n)))) V2)))) :
    Acts prog 27 #[.int .i64 i, .int .i64 n, .int .i64 by_] V R :=
  fn_does (LF := [8, 20, 25, 46, 48, 52, 93, 24, 1000024]) (RF := [1000006]) (β0 := (fun _ => 0)) tab_ok mixed [] [] func27 (by kernel_rfl)
    [(0, .c (.v (.int .i64 i))), (1, .c (.v (.int .i64 n))), (2, .c (.v (.int .i64 by_)))]
    [] (by kernel_rfl) trivial h (by kernel_rfl)

theorem vc_keep_Shuffled (t0 : Int) (t1p : Option Addr) (t1n t1c : Nat) (by_ : Int) (V : View) (R : Value → View → Prop)
    (h : (((((t1n : Nat) : Int) == (0 : Int)) = true → (∀ V1 : View, V.Le V1 → R (.agg #[.int .i64 t0, .slice t1p t1n t1c]) V1)) ∧ ((((t1n : Nat) : Int) == (0 : Int)) = false → (((t1n : Nat) : Int) ≠ 0) ∧ (((t1n : Nat) : Int) ≠ 0) ∧ (0 ≤ ((t1n : Nat) : Int)) ∧ (((t1n : Nat) : Int) ≤ ((t1n : Nat) : Int)) ∧ (((112 : Nat) : Int) * ((t1n : Nat) : Int) ≤ 140737488355328) ∧ (∀ V2 : View, V.Le V2 → Acts prog 27 #[.int .i64 t0, .int .i64 ((t1n : Nat) : Int), .int .i64 ((IntKind.i64.wrap ((by_.tmod ((t1n : Nat) : Int)) + ((t1n : Nat) : Int))).tmod ((t1n : Nat) : Int))] V2 fun r2_ V3 => ∃ x1_ : Int, r2_ = .int .i64 x1_ ∧ (∃ (I2_ : (Int × (List Value)) → View → Prop) (m3_ : (Int × (List Value)) → Nat), (∃ z4_ : Int × (List Value), ((((IntKind.i64.wrap ((by_.tmod ((t1n : Nat) : Int)) + ((t1n : Nat) : Int))).tmod ((t1n : Nat) : Int)) = ((IntKind.i64.wrap ((by_.tmod ((t1n : Nat) : Int)) + ((t1n : Nat) : Int))).tmod ((t1n : Nat) : Int))) ∧ ((0 : Nat) = 0) ∧ (((t1n : Nat) : Int) = ((t1n : Nat) : Int)) ∧ ((0 : Nat) = 0) ∧ ((t1p : Option Addr) = t1p) ∧ ((t1n : Nat) = t1n) ∧ ((t1c : Nat) = t1c) ∧ (((t1n : Nat) : Int) = ((t1n : Nat) : Int)) ∧ ((0 : Int) = z4_.1) ∧ ((0 : Int) = (0 : Int)) ∧ ((none : Option Addr) = none) ∧ ((0 : Nat) = 0) ∧ ((0 : Nat) = 0) ∧ (x1_ = x1_) ∧ ((0 : Nat) = 0) ∧ ((((t1n : Nat) : Int).toNat : Nat) = ((t1n : Nat) : Int).toNat) ∧ ((((t1n : Nat) : Int).toNat : Nat) = ((t1n : Nat) : Int).toNat) ∧ ((zrow (((t1n : Nat) : Int).toNat) [.bool false, .slice none 0 0, .bool false, .slice none 0 0, .bool false, .slice none 0 0, .int .i64 0, .int .i64 0]) = z4_.2)) ∧ I2_ z4_ V3) ∧ ∀ (z5_ : Int × (List Value)) (V4 : View), V3.Le V4 → I2_ z5_ V4 → (true = true ∧ (((decide (z5_.1 < ((t1n : Nat) : Int))) = true → (t1p.isSome = true) ∧ (0 ≤ z5_.1 ∧ z5_.1 < ((t1n : Nat) : Int)) ∧ (∃ b6_ : Bool, ∃ (p7_ : Option Addr) (n7_ c7_ : Nat), ∃ b8_ : Bool, ∃ (p9_ : Option Addr) (n9_ c9_ : Nat), ∃ b10_ : Bool, ∃ (p11_ : Option Addr) (n11_ c11_ : Nat), ∃ x12_ : Int, ∃ x13_ : Int, ∃ a14_, addrAdd t1p (z5_.1.toNat * 8) = some a14_ ∧ V4.at (a14_.add 0) (.bool b6_) ∧ V4.at (a14_.add 1) (.slice p7_ n7_ c7_) ∧ V4.at (a14_.add 2) (.bool b8_) ∧ V4.at (a14_.add 3) (.slice p9_ n9_ c9_) ∧ V4.at (a14_.add 4) (.bool b10_) ∧ V4.at (a14_.add 5) (.slice p11_ n11_ c11_) ∧ V4.at (a14_.add 6) (.int .i64 x12_) ∧ V4.at (a14_.add 7) (.int .i64 x13_) ∧ (∀ V5 : View, V4.Le V5 → Acts prog 27 #[.int .i64 z5_.1, .int .i64 ((t1n : Nat) : Int), .int .i64 ((IntKind.i64.wrap ((by_.tmod ((t1n : Nat) : Int)) + ((t1n : Nat) : Int))).tmod ((t1n : Nat) : Int))] V5 fun r5_ V6 => ∃ x15_ : Int, r5_ = .int .i64 x15_ ∧ (∀ V7 : View, V6.Le V7 → Acts prog 27 #[.int .i64 x12_, .int .i64 ((t1n : Nat) : Int), .int .i64 ((IntKind.i64.wrap ((by_.tmod ((t1n : Nat) : Int)) + ((t1n : Nat) : Int))).tmod ((t1n : Nat) : Int))] V7 fun r7_ V8 => ∃ x16_ : Int, r7_ = .int .i64 x16_ ∧ (∀ V9 : View, V8.Le V9 → Acts prog 27 #[.int .i64 x13_, .int .i64 ((t1n : Nat) : Int), .int .i64 ((IntKind.i64.wrap ((by_.tmod ((t1n : Nat) : Int)) + ((t1n : Nat) : Int))).tmod ((t1n : Nat) : Int))] V9 fun r9_ V10 => ∃ x17_ : Int, r9_ = .int .i64 x17_ ∧ (0 ≤ x15_ ∧ x15_ < ((((t1n : Nat) : Int).toNat : Nat) : Int)) ∧ ((0 + (x15_.toNat * 8)) + 8 ≤ z5_.2.length) ∧ (∃ z18_ : Int × (List Value), m3_ z18_ < m3_ z5_ ∧ ((((IntKind.i64.wrap ((by_.tmod ((t1n : Nat) : Int)) + ((t1n : Nat) : Int))).tmod ((t1n : Nat) : Int)) = ((IntKind.i64.wrap ((by_.tmod ((t1n : Nat) : Int)) + ((t1n : Nat) : Int))).tmod ((t1n : Nat) : Int))) ∧ ((0 : Nat) = 0) ∧ (((t1n : Nat) : Int) = ((t1n : Nat) : Int)) ∧ ((0 : Nat) = 0) ∧ ((t1p : Option Addr) = t1p) ∧ ((t1n : Nat) = t1n) ∧ ((t1c : Nat) = t1c) ∧ (((t1n : Nat) : Int) = ((t1n : Nat) : Int)) ∧ ((IntKind.i64.wrap (z5_.1 + (1 : Int))) = z18_.1) ∧ ((0 : Int) = (0 : Int)) ∧ ((none : Option Addr) = none) ∧ ((0 : Nat) = 0) ∧ ((0 : Nat) = 0) ∧ (x1_ = x1_) ∧ ((0 : Nat) = 0) ∧ ((((t1n : Nat) : Int).toNat : Nat) = ((t1n : Nat) : Int).toNat) ∧ ((((t1n : Nat) : Int).toNat : Nat) = ((t1n : Nat) : Int).toNat) ∧ ((setVals z5_.2 (0 + (x15_.toNat * 8)) [.bool b6_, .slice p7_ n7_ c7_, .bool b8_, .slice p9_ n9_ c9_, .bool b10_, .slice p11_ n11_ c11_, .int .i64 x16_, .int .i64 x17_]) = z18_.2)) ∧ I2_ z18_ V10)))))) ∧ ((decide (z5_.1 < ((t1n : Nat) : Int))) = false → (∀ V11 : View, V4.Le V11 → ∀ bk19_ : Nat, (V11.blk bk19_ (.cells z5_.2.toArray 60 (0, 0))) → R (.agg #[.int .i64 x1_, .slice (some ⟨bk19_, 0, none⟩) (((t1n : Nat) : Int).toNat) (((t1n : Nat) : Int).toNat)]) V11))))))))) :
    Acts prog 9 #[.agg #[.int .i64 t0, .slice t1p t1n t1c], .int .i64 by_] V R :=
  fn_does (LF := [8, 20, 25, 46, 48, 52, 93, 24, 1000024]) (RF := [1000006]) (β0 := (fun _ => 0)) tab_ok mixed [(7, { τ := Int × (List Value), keep := [1, 4, 5, 6, 31, 32], keepB := [4, 6], slots := fun z => [(33, .c (.v (.int .i64 z.1)))], boxes := fun z => [(28, ⟨.row z.2, 60⟩)] })] [] func9 (by kernel_rfl)
    [(0, .agg [.v (.int .i64 t0), .v (.slice t1p t1n t1c)]), (1, .c (.v (.int .i64 by_)))]
    [] (by kernel_rfl) trivial h (by kernel_rfl)

theorem vc_ref14_Code (in_ : Bool) (V : View) (R : Value → View → Prop)
    (h : (∀ V1 : View, V.Le V1 → ∀ bk1_ : Nat, (V1.blk bk1_ (.cells #[.bool true, .bool in_, .bool false, .slice none 0 0, .bool false, .slice none 0 0, .bool false, .slice none 0 0, .pointer none, .pointer none] 66 (0, 0))) → R (.pointer (some ⟨bk1_, 0, none⟩)) V1)) :
    Acts prog 26 #[.bool in_] V R :=
  fn_does (LF := [8, 20, 25, 46, 48, 52, 93, 24, 1000024]) (RF := [1000006]) (β0 := (fun _ => 0)) tab_ok mixed [] [] func26 (by kernel_rfl)
    [(0, .c (.v (.bool in_)))]
    [] (by kernel_rfl) trivial h (by kernel_rfl)

theorem vc_ref14_write (t : Option Addr) (lb : Nat) (n c : Nat) (vs : List Value) (V : View) (R : Value → View → Prop) (hw100000 : vs ≠ [] → V.w.heap[lb]? = some (.cells vs.toArray 60 (0, 0))) (hx100000 : vs ≠ [] → V.X lb)
    (h : (t.isSome = true) ∧ (t.isSome = true) ∧ (∃ b1_ : Bool, (∃ a2_, addrAdd t 0 = some a2_ ∧ V.at a2_ (.bool b1_)) ∧ ((b1_ = true → (t.isSome = true) ∧ (t.isSome = true) ∧ (∃ b3_ : Bool, (∃ a4_, addrAdd t 1 = some a4_ ∧ V.at a4_ (.bool b3_)) ∧ ((b3_ = true → (∀ V1 : View, ∀ bk5_ : Nat, V.Le (V1.hideG (vs ≠ []) bk5_) → (vs ≠ [] → V1.w.heap[bk5_]? = some (.cells vs.toArray 60 (0, 0))) → (vs ≠ [] → V.w.heap.size ≤ bk5_ ∨ (vs ≠ [] ∧ bk5_ = lb) ∨ False) → R (.tuple #[.slice (mA bk5_ c) n c, .int .i64 (-2)]) V1)) ∧ (b3_ = false → (∀ V2 : View, ∀ bk6_ : Nat, V.Le (V2.hideG (vs ≠ []) bk6_) → (vs ≠ [] → V2.w.heap[bk6_]? = some (.cells vs.toArray 60 (0, 0))) → (vs ≠ [] → V.w.heap.size ≤ bk6_ ∨ (vs ≠ [] ∧ bk6_ = lb) ∨ False) → R (.tuple #[.slice (mA bk6_ c) n c, .int .i64 (-1)]) V2))))) ∧ (b1_ = false → (t.isSome = true) ∧ (t.isSome = true) ∧ (∃ b7_ : Bool, ∃ (p8_ : Option Addr) (n8_ c8_ : Nat), ∃ b9_ : Bool, ∃ (p10_ : Option Addr) (n10_ c10_ : Nat), ∃ b11_ : Bool, ∃ (p12_ : Option Addr) (n12_ c12_ : Nat), ∃ a13_, addrAdd t 2 = some a13_ ∧ V.at (a13_.add 0) (.bool b7_) ∧ V.at (a13_.add 1) (.slice p8_ n8_ c8_) ∧ V.at (a13_.add 2) (.bool b9_) ∧ V.at (a13_.add 3) (.slice p10_ n10_ c10_) ∧ V.at (a13_.add 4) (.bool b11_) ∧ V.at (a13_.add 5) (.slice p12_ n12_ c12_) ∧ (∀ V3 : View, V.Le V3 → Acts prog 17 #[.agg #[.bool b7_, .slice p8_ n8_ c8_, .bool b9_, .slice p10_ n10_ c10_, .bool b11_, .slice p12_ n12_ c12_]] V3 fun r3_ V4 => ∃ b14_ : Bool, ∃ (p15_ : Option Addr) (n15_ c15_ : Nat), ∃ b16_ : Bool, ∃ (p17_ : Option Addr) (n17_ c17_ : Nat), ∃ b18_ : Bool, ∃ (p19_ : Option Addr) (n19_ c19_ : Nat), r3_ = .agg #[.bool b14_, .slice p15_ n15_ c15_, .bool b16_, .slice p17_ n17_ c17_, .bool b18_, .slice p19_ n19_ c19_] ∧ ((n + 1) * 112 ≤ 140737488355328 ∧ n ≤ c ∧ c * 8 ≤ vs.length ∧ ([.bool b14_, .slice p15_ n15_ c15_, .bool b16_, .slice p17_ n17_ c17_, .bool b18_, .slice p19_ n19_ c19_, .int .i64 0, .int .i64 0] : List Value).length = 1 * 8 ∧ (∀ v ∈ ([.bool b14_, .slice p15_ n15_ c15_, .bool b16_, .slice p17_ n17_ c17_, .bool b18_, .slice p19_ n19_ c19_, .int .i64 0, .int .i64 0] : List Value), v.oneCell' = true) ∧ ∀ (sp20_ : List Value) (c21_ : Nat), n + 1 ≤ c21_ → c21_ * 8 ≤ (n + 1) * 8 + sp20_.length → (t.isSome = true) ∧ (t.isSome = true) ∧ (∃ p22_ : Option Addr, (∃ a23_, addrAdd t 8 = some a23_ ∧ V4.at a23_ (.pointer p22_)) ∧ (∀ V5 : View, V4.Le V5 → ∀ bk24_ : Nat, ((vs.take (n * 8) ++ ([.bool b14_, .slice p15_ n15_ c15_, .bool b16_, .slice p17_ n17_ c17_, .bool b18_, .slice p19_ n19_ c19_, .int .i64 0, .int .i64 0] : List Value) ++ sp20_) ≠ [] → V5.w.heap[bk24_]? = some (.cells (vs.take (n * 8) ++ ([.bool b14_, .slice p15_ n15_ c15_, .bool b16_, .slice p17_ n17_ c17_, .bool b18_, .slice p19_ n19_ c19_, .int .i64 0, .int .i64 0] : List Value) ++ sp20_).toArray 60 (0, 0))) → ((vs.take (n * 8) ++ ([.bool b14_, .slice p15_ n15_ c15_, .bool b16_, .slice p17_ n17_ c17_, .bool b18_, .slice p19_ n19_ c19_, .int .i64 0, .int .i64 0] : List Value) ++ sp20_) ≠ [] → V5.H bk24_) → Acts prog 24 #[.pointer p22_, .slice (mA bk24_ c21_) (n + 1) c21_] (V5.lend [vb (vs.take (n * 8) ++ ([.bool b14_, .slice p15_ n15_ c15_, .bool b16_, .slice p17_ n17_ c17_, .bool b18_, .slice p19_ n19_ c19_, .int .i64 0, .int .i64 0] : List Value) ++ sp20_) V5.w.heap.size bk24_]) fun r5_ V6 => ∃ (bm27_ : Nat) (vm28_ : List Value), (vm28_ ≠ [] → V6.w.heap[bm27_]? = some (.cells vm28_.toArray 60 (0, 0))) ∧ (vm28_ ≠ [] → V5.w.heap.size ≤ bm27_ ∨ ((vs.take (n * 8) ++ ([.bool b14_, .slice p15_ n15_ c15_, .bool b16_, .slice p17_ n17_ c17_, .bool b18_, .slice p19_ n19_ c19_, .int .i64 0, .int .i64 0] : List Value) ++ sp20_) ≠ [] ∧ bm27_ = bk24_)) ∧ ∃ (p25_ : Option Addr) (n25_ c25_ : Nat), ∃ x26_ : Int, r5_ = .tuple #[.slice (mA bm27_ c25_) n25_ c25_, .int .i64 x26_] ∧ (t.isSome = true) ∧ (t.isSome = true) ∧ (∃ p29_ : Option Addr, (∃ a30_, addrAdd t 9 = some a30_ ∧ (V6.shut.hideG (vm28_ ≠ []) bm27_).at a30_ (.pointer p29_)) ∧ (∀ V7 : View, (V6.shut.hideG (vm28_ ≠ []) bm27_).Le V7 → ∀ bk31_ : Nat, (vm28_ ≠ [] → V7.w.heap[bk31_]? = some (.cells vm28_.toArray 60 (0, 0))) → (vm28_ ≠ [] → V7.H bk31_) → Acts prog 24 #[.pointer p29_, .slice (mA bk31_ c25_) n25_ c25_] (V7.lend [vb vm28_ V7.w.heap.size bk31_]) fun r7_ V8 => ∃ (bm34_ : Nat) (vm35_ : List Value), (vm35_ ≠ [] → V8.w.heap[bm34_]? = some (.cells vm35_.toArray 60 (0, 0))) ∧ (vm35_ ≠ [] → V7.w.heap.size ≤ bm34_ ∨ (vm28_ ≠ [] ∧ bm34_ = bk31_)) ∧ ∃ (p32_ : Option Addr) (n32_ c32_ : Nat), ∃ x33_ : Int, r7_ = .tuple #[.slice (mA bm34_ c32_) n32_ c32_, .int .i64 x33_] ∧ (0 ≤ ((n : Nat) : Int) ∧ ((n : Nat) : Int) < ((n32_ : Nat) : Int)) ∧ (n32_ ≤ c32_) ∧ ((((((n : Nat) : Int).toNat) * 8) + 6) + 1 ≤ vm35_.length) ∧ (0 ≤ ((n : Nat) : Int) ∧ ((n : Nat) : Int) < ((n32_ : Nat) : Int)) ∧ (n32_ ≤ c32_) ∧ ((((((n : Nat) : Int).toNat) * 8) + 7) + 1 ≤ (vm35_.set (((((n : Nat) : Int).toNat) * 8) + 6) (.int .i64 x26_)).length) ∧ (∀ V9 : View, ∀ bk36_ : Nat, (V8.shut.hideG (vm35_ ≠ []) bm34_).Le (V9.hideG (((vm35_.set (((((n : Nat) : Int).toNat) * 8) + 6) (.int .i64 x26_)).set (((((n : Nat) : Int).toNat) * 8) + 7) (.int .i64 x33_)) ≠ []) bk36_) → (((vm35_.set (((((n : Nat) : Int).toNat) * 8) + 6) (.int .i64 x26_)).set (((((n : Nat) : Int).toNat) * 8) + 7) (.int .i64 x33_)) ≠ [] → V9.w.heap[bk36_]? = some (.cells ((vm35_.set (((((n : Nat) : Int).toNat) * 8) + 6) (.int .i64 x26_)).set (((((n : Nat) : Int).toNat) * 8) + 7) (.int .i64 x33_)).toArray 60 (0, 0))) → (((vm35_.set (((((n : Nat) : Int).toNat) * 8) + 6) (.int .i64 x26_)).set (((((n : Nat) : Int).toNat) * 8) + 7) (.int .i64 x33_)) ≠ [] → V.w.heap.size ≤ bk36_ ∨ (vs ≠ [] ∧ bk36_ = lb) ∨ False) → R (.tuple #[.slice (mA bk36_ c32_) n32_ c32_, .int .i64 ((n : Nat) : Int)]) V9)))))))))))) :
    Acts prog 24 #[.pointer t, .slice (mA lb c) n c] V R :=
  fn_does (LF := [8, 20, 25, 46, 48, 52, 93, 24, 1000024]) (RF := [1000006]) (β0 := (upd1 (fun _ => 0) 100000 lb)) tab_ok mixed [] [] func24 (by kernel_rfl)
    [(0, .c (.v (.pointer t))), (1, .c (.msl 100000 n c))]
    [(100000, ⟨.mrow vs, 60⟩)] (by kernel_rfl) ⟨⟨hw100000, hx100000⟩, trivial, trivial⟩ h (by kernel_rfl)

theorem vc_ref14_Write (t : Option Addr) (V : View) (R : Value → View → Prop)
    (h : (∀ V1 : View, V.Le V1 → Acts prog 24 #[.pointer t, .slice none 0 0] V1 fun r1_ V2 => ∃ (bm3_ : Nat) (vm4_ : List Value), (vm4_ ≠ [] → V2.w.heap[bm3_]? = some (.cells vm4_.toArray 60 (0, 0))) ∧ (vm4_ ≠ [] → V1.w.heap.size ≤ bm3_ ∨ False) ∧ ∃ (p1_ : Option Addr) (n1_ c1_ : Nat), ∃ x2_ : Int, r1_ = .tuple #[.slice (mA bm3_ c1_) n1_ c1_, .int .i64 x2_] ∧ (∀ V3 : View, (V2.shut.hideG (vm4_ ≠ []) bm3_).Le V3 → ∀ bk5_ : Nat, (vm4_ ≠ [] → V3.blk bk5_ (.cells vm4_.toArray 60 (0, 0))) → R (.agg #[.int .i64 x2_, .slice (mA bk5_ c1_) n1_ c1_]) V3))) :
    Acts prog 7 #[.pointer t] V R :=
  fn_does (LF := [8, 20, 25, 46, 48, 52, 93, 24, 1000024]) (RF := [1000006]) (β0 := (fun _ => 0)) tab_ok mixed [] [] func7 (by kernel_rfl)
    [(0, .c (.v (.pointer t)))]
    [] (by kernel_rfl) trivial h (by kernel_rfl)

theorem vc_ref14_Same (a0 : Int) (a1p : Option Addr) (a1n a1c : Nat) (b0 : Int) (b1p : Option Addr) (b1n b1c : Nat) (V : View) (R : Value → View → Prop)
    (h : (((a0 != b0) = true → (∀ V1 : View, V.Le V1 → R (.bool false) V1)) ∧ ((a0 != b0) = false → (((((a1n : Nat) : Int) != ((b1n : Nat) : Int)) = true → (∀ V2 : View, V.Le V2 → R (.bool false) V2)) ∧ ((((a1n : Nat) : Int) != ((b1n : Nat) : Int)) = false → (∃ (I1_ : Int → View → Prop) (m2_ : Int → Nat), (∃ z3_ : Int, (((0 : Nat) = 0) ∧ ((a1p : Option Addr) = a1p) ∧ ((a1n : Nat) = a1n) ∧ ((a1c : Nat) = a1c) ∧ (((a1n : Nat) : Int) = ((a1n : Nat) : Int)) ∧ ((0 : Int) = z3_) ∧ (b0 = b0) ∧ ((b1p : Option Addr) = b1p) ∧ ((b1n : Nat) = b1n) ∧ ((b1c : Nat) = b1c)) ∧ I1_ z3_ V) ∧ ∀ (z4_ : Int) (V3 : View), V.Le V3 → I1_ z4_ V3 → (true = true ∧ (((decide (z4_ < ((a1n : Nat) : Int))) = true → (a1p.isSome = true) ∧ (0 ≤ z4_ ∧ z4_ < ((a1n : Nat) : Int)) ∧ (∃ b5_ : Bool, ∃ (p6_ : Option Addr) (n6_ c6_ : Nat), ∃ b7_ : Bool, ∃ (p8_ : Option Addr) (n8_ c8_ : Nat), ∃ b9_ : Bool, ∃ (p10_ : Option Addr) (n10_ c10_ : Nat), ∃ x11_ : Int, ∃ x12_ : Int, ∃ a13_, addrAdd a1p (z4_.toNat * 8) = some a13_ ∧ V3.at (a13_.add 0) (.bool b5_) ∧ V3.at (a13_.add 1) (.slice p6_ n6_ c6_) ∧ V3.at (a13_.add 2) (.bool b7_) ∧ V3.at (a13_.add 3) (.slice p8_ n8_ c8_) ∧ V3.at (a13_.add 4) (.bool b9_) ∧ V3.at (a13_.add 5) (.slice p10_ n10_ c10_) ∧ V3.at (a13_.add 6) (.int .i64 x11_) ∧ V3.at (a13_.add 7) (.int .i64 x12_) ∧ (b1p.isSome = true) ∧ (0 ≤ z4_ ∧ z4_ < ((b1n : Nat) : Int)) ∧ (∃ b14_ : Bool, ∃ (p15_ : Option Addr) (n15_ c15_ : Nat), ∃ b16_ : Bool, ∃ (p17_ : Option Addr) (n17_ c17_ : Nat), ∃ b18_ : Bool, ∃ (p19_ : Option Addr) (n19_ c19_ : Nat), ∃ x20_ : Int, ∃ x21_ : Int, ∃ a22_, addrAdd b1p (z4_.toNat * 8) = some a22_ ∧ V3.at (a22_.add 0) (.bool b14_) ∧ V3.at (a22_.add 1) (.slice p15_ n15_ c15_) ∧ V3.at (a22_.add 2) (.bool b16_) ∧ V3.at (a22_.add 3) (.slice p17_ n17_ c17_) ∧ V3.at (a22_.add 4) (.bool b18_) ∧ V3.at (a22_.add 5) (.slice p19_ n19_ c19_) ∧ V3.at (a22_.add 6) (.int .i64 x20_) ∧ V3.at (a22_.add 7) (.int .i64 x21_) ∧ (((x11_ != x20_) = true → (∀ V4 : View, V3.Le V4 → R (.bool false) V4)) ∧ ((x11_ != x20_) = false → (((x12_ != x21_) = true → (∀ V5 : View, V3.Le V5 → R (.bool false) V5)) ∧ ((x12_ != x21_) = false → (∀ V6 : View, V3.Le V6 → Acts prog 22 #[.agg #[.bool b5_, .slice p6_ n6_ c6_, .bool b7_, .slice p8_ n8_ c8_, .bool b9_, .slice p10_ n10_ c10_], .agg #[.bool b14_, .slice p15_ n15_ c15_, .bool b16_, .slice p17_ n17_ c17_, .bool b18_, .slice p19_ n19_ c19_]] V6 fun r6_ V7 => ∃ b23_ : Bool, r6_ = .bool b23_ ∧ (((!b23_) = true → (∀ V8 : View, V7.Le V8 → R (.bool false) V8)) ∧ ((!b23_) = false → (∃ z24_ : Int, m2_ z24_ < m2_ z4_ ∧ (((0 : Nat) = 0) ∧ ((a1p : Option Addr) = a1p) ∧ ((a1n : Nat) = a1n) ∧ ((a1c : Nat) = a1c) ∧ (((a1n : Nat) : Int) = ((a1n : Nat) : Int)) ∧ ((IntKind.i64.wrap (z4_ + (1 : Int))) = z24_) ∧ (b0 = b0) ∧ ((b1p : Option Addr) = b1p) ∧ ((b1n : Nat) = b1n) ∧ ((b1c : Nat) = b1c)) ∧ I1_ z24_ V7))))))))))) ∧ ((decide (z4_ < ((a1n : Nat) : Int))) = false → (∀ V9 : View, V3.Le V9 → R (.bool true) V9)))))))))) :
    Acts prog 12 #[.agg #[.int .i64 a0, .slice a1p a1n a1c], .agg #[.int .i64 b0, .slice b1p b1n b1c]] V R :=
  fn_does (LF := [8, 20, 25, 46, 48, 52, 93, 24, 1000024]) (RF := [1000006]) (β0 := (fun _ => 0)) tab_ok mixed [(4, { τ := Int, keep := [3, 23, 24], keepB := [3], slots := fun z => [(25, .c (.v (.int .i64 z)))], boxes := fun z => [] })] [] func12 (by kernel_rfl)
    [(0, .agg [.v (.int .i64 a0), .v (.slice a1p a1n a1c)]), (1, .agg [.v (.int .i64 b0), .v (.slice b1p b1n b1c)])]
    [] (by kernel_rfl) trivial h (by kernel_rfl)

end Go.Proofs.Tryz
/- The scene's tape: Next, P, V, L, Tree; lines and trees that it makes. -/
namespace Go.Proofs.Tryz
open Go.Eng Go.Big

/-! plain laws: the line through two points of the grid -/
theorem thr_int (x y u w : Int) : thr (x : Rat) (y : Rat) ((x : Rat) + ((1 : Int) : Rat) * (u : Rat)) ((y : Rat) + ((1 : Int) : Rat) * (w : Rat)) = (((-w : Int) : Rat), ((u : Int) : Rat), ((w * x - u * y : Int) : Rat)) := by
  have e1 : (x : Rat) + ((1 : Int) : Rat) * (u : Rat) = ((x + u : Int) : Rat) := by rw [← Rat.intCast_mul, ← Rat.intCast_add, Int.one_mul]
  have e2 : (y : Rat) + ((1 : Int) : Rat) * (w : Rat) = ((y + w : Int) : Rat) := by rw [← Rat.intCast_mul, ← Rat.intCast_add, Int.one_mul]
  rw [e1, e2]
  have ha : -(((y + w : Int) : Rat) - (y : Rat)) = ((-w : Int) : Rat) := by rw [← Rat.intCast_sub, ← Rat.intCast_neg]; congr 1; omega
  have hb : ((x + u : Int) : Rat) - (x : Rat) = ((u : Int) : Rat) := by rw [← Rat.intCast_sub]; congr 1; omega
  have hc : -(((-w : Int) : Rat) * (x : Rat) + ((u : Int) : Rat) * (y : Rat)) = ((w * x - u * y : Int) : Rat) := by
    rw [← Rat.intCast_mul, ← Rat.intCast_mul, ← Rat.intCast_add, ← Rat.intCast_neg]; congr 1; rw [Int.neg_mul]; omega
  have hf : (((((-w : Int) : Rat).den * ((u : Int) : Rat).den * ((w * x - u * y : Int) : Rat).den : Nat) : Int) : Rat) = 1 := rfl
  unfold thr
  dsimp only
  rw [ha, hb, hc, hf, Rat.mul_one, Rat.mul_one, Rat.mul_one]
/-- Divided by their common divisor. -/
def lnOf (a b c : Int) : L3 := (a / (gcd3 a b c : Int), b / (gcd3 a b c : Int), c / (gcd3 a b c : Int))
def small (z : Int) (k : Nat) : Bool := decide (z.natAbs ≤ k)
theorem lnOf_fin : ∀ i : Fin 9, ∀ j : Fin 9, ∀ k : Fin 65, (i.1 = 4 ∧ j.1 = 4) ∨ (okL (lnOf ((i.1 : Int) - 4) ((j.1 : Int) - 4) ((k.1 : Int) - 32)) && small (lnOf ((i.1 : Int) - 4) ((j.1 : Int) - 4) ((k.1 : Int) - 32)).1 32 && small (lnOf ((i.1 : Int) - 4) ((j.1 : Int) - 4) ((k.1 : Int) - 32)).2.1 32 && small (lnOf ((i.1 : Int) - 4) ((j.1 : Int) - 4) ((k.1 : Int) - 32)).2.2 32) = true := by decide +kernel
theorem bd32 (k : Nat) (hk : 6 ≤ k) {z : Int} (h : z.natAbs ≤ 32) : z.natAbs < 2 ^ k := Nat.lt_of_le_of_lt h (Nat.lt_of_lt_of_le (by decide : 32 < 2 ^ 6) (Nat.pow_le_pow_right (by decide) hk))
theorem bd32' (k : Nat) (hk : 6 ≤ k) {x : L3} (h1 : x.1.natAbs ≤ 32) (h2 : x.2.1.natAbs ≤ 32) (h3 : x.2.2.natAbs ≤ 32) : x.1.natAbs < 2 ^ k ∧ x.2.1.natAbs < 2 ^ k ∧ x.2.2.natAbs < 2 ^ k := ⟨bd32 k hk h1, bd32 k hk h2, bd32 k hk h3⟩
theorem lnOf_ok {a b c : Int} (h1 : -4 ≤ a ∧ a ≤ 4) (h2 : -4 ≤ b ∧ b ≤ 4) (h3 : -32 ≤ c ∧ c ≤ 32) (h : ¬ (a = 0 ∧ b = 0)) : okL (lnOf a b c) = true ∧ Bd (lnOf a b c) := by
  have := lnOf_fin ⟨(a + 4).toNat, by omega⟩ ⟨(b + 4).toNat, by omega⟩ ⟨(c + 32).toNat, by omega⟩
  dsimp only at this
  rw [show (((a + 4).toNat : Nat) : Int) - 4 = a from by omega, show (((b + 4).toNat : Nat) : Int) - 4 = b from by omega, show (((c + 32).toNat : Nat) : Int) - 32 = c from by omega] at this
  rcases this with h' | h'
  · omega
  · simp only [Bool.and_eq_true, small, decide_eq_true_eq] at h'
    exact ⟨h'.1.1.1, bd32' 1000 (by decide) h'.1.1.2 h'.1.2 h'.2⟩
theorem mul_bd {x y : Int} (h1 : -4 ≤ x ∧ x ≤ 4) (h2 : -4 ≤ y ∧ y ≤ 4) : -16 ≤ x * y ∧ x * y ≤ 16 := by
  have : (x * y).natAbs ≤ 4 * 4 := by rw [Int.natAbs_mul]; exact Nat.mul_le_mul (by omega) (by omega)
  omega
end Go.Proofs.Tryz
/- Contracts of the scene's tape: Next, P, V, L; trees of the reference in memory: Code, Tree. -/
namespace Go.Proofs.Tryz
open Go.Eng Go.Big

theorem RL_shape' {V : View} {v : Value} {a b c : Int} (h : RL V v a b c) : ∃ (b1 : Bool) (p1 : Option Addr) (n1 c1 : Nat) (b2 : Bool) (p2 : Option Addr) (n2 c2 : Nat) (b3 : Bool) (p3 : Option Addr) (n3 c3 : Nat), v = .agg #[.bool b1, .slice p1 n1 c1, .bool b2, .slice p2 n2 c2, .bool b3, .slice p3 n3 c3] := by
  obtain ⟨p, n, s, p', n', s', q, m, e, rfl, -⟩ := h
  exact ⟨_, _, _, _, _, _, _, _, _, _, _, _, rfl⟩
/-- Ints that can be read. -/
def Rdl (V : View) (p : Option Addr) (n : Nat) : Prop := ∀ i, i < n → ∃ (a : Addr) (x : Int), addrAdd p (i * 1) = some a ∧ V.at a (.int .i64 x)
theorem Rdl.le {V V' : View} {p : Option Addr} {n : Nat} (h : Rdl V p n) (l : V.Le V') : Rdl V' p n := fun i hi => by
  obtain ⟨a, x, e, hx⟩ := h i hi; exact ⟨a, x, e, l.at hx⟩
/-- The tape's block. -/
def TpAt (V : View) (tb : Nat) (p : Option Addr) (n c : Nat) (at_ : Int) : Prop := V.w.heap[tb]? = some (.cells #[.slice p n c, .int .i64 at_] 73 (0, 0))

theorem c_Next {V : View} {tb : Nat} {p : Option Addr} {n c : Nat} {at_ : Int} (k : Int) (hr : Rdl V p n) (hn : n ≤ 400) (hw : TpAt V tb p n c at_) (hx : V.X tb) (h0 : 0 ≤ at_) (hk : 0 < k) (hk2 : k ≤ 1000) :
    Acts prog 25 #[.pointer (some ⟨tb, 0, none⟩), .int .i64 k] V fun r V' => ∃ x at', r = .int .i64 x ∧ 0 ≤ x ∧ x < k ∧ 0 ≤ at' ∧ TpAt V' tb p n c at' := by
  refine vc_scene_Tape_Next tb p n c at_ k V _ hw hx ⟨fun g V1 l1 e => ⟨0, at_, rfl, by omega, hk, h0, e⟩, fun g => ?_⟩
  have g : at_ < n := by have := of_decide_eq_false g; omega
  obtain ⟨i, rfl⟩ : ∃ i : Nat, at_ = i := ⟨at_.toNat, by omega⟩
  obtain ⟨a, x, e1, e2⟩ := hr i (by omega)
  have hs : p.isSome = true := by
    cases p with
    | none => simp [addrAdd] at e1
    | some a => rfl
  have m1 : (x.tmod k).natAbs < k.natAbs := by rw [Int.natAbs_tmod]; exact Nat.mod_lt _ (by omega)
  have w1 : IntKind.i64.wrap ((i : Int) + 1) = ((i + 1 : Nat) : Int) := by rw [i64w (by omega)]; omega
  rw [Int.toNat_natCast, w1]
  have w2 : IntKind.i64.wrap (x.tmod k + k) = x.tmod k + k := i64w (by omega)
  refine ⟨hs, ⟨by omega, by omega⟩, x, ⟨a, e1, e2⟩, by omega, fun g2 V2 l2 e => ⟨x.tmod k + k, _, by rw [w2], ?_, ?_, ?_, e⟩, fun g2 V3 l3 e => ⟨_, _, rfl, ?_, ?_, ?_, e⟩⟩
  · omega
  · have := of_decide_eq_true g2; omega
  · omega
  · have := of_decide_eq_false g2; omega
  · omega
  · omega

theorem c_P {V : View} {tb : Nat} {p : Option Addr} {n c : Nat} {at_ : Int} (hr : Rdl V p n) (hn : n ≤ 400) (hw : TpAt V tb p n c at_) (hx : V.X tb) (h0 : 0 ≤ at_) :
    Acts prog 46 #[.pointer (some ⟨tb, 0, none⟩)] V fun r V' => ∃ (x y at' : Int), RP V' r (x : Rat) (y : Rat) ∧ (-4 ≤ x ∧ x ≤ 4) ∧ (-4 ≤ y ∧ y ≤ 4) ∧ 0 ≤ at' ∧ TpAt V' tb p n c at' := by
  refine vc_scene_Tape_P tb p n c at_ V _ hw hx fun V1 l1 bk1 e1 h1 => (c_Next (V := V1.lend [bk1]) 9 (hr.le fun b o h => l1 b o h) hn e1 ⟨by simp, h1⟩ h0 (by omega) (by omega)).mono ?_
  rintro r V2 l2 ⟨x, at1, rfl, x0, x1, t1, hw1⟩
  refine ⟨_, rfl, _, _, _, _, hw1, fun V3 l3 bk5 e3 h3 => (c_Next (V := V3.lend [bk5]) 9 (hr.le fun b o h => l3 b o (l2 b o (l1 b o h))) hn e3 ⟨by simp, h3⟩ t1 (by omega) (by omega)).mono ?_⟩
  rintro r V4 l4 ⟨y, at2, rfl, y0, y1, t2, hw2⟩
  refine ⟨_, rfl, _, _, _, _, hw2, fun V5 l5 => ?_⟩
  rw [i64w (x := x - 4) (by omega), i64w (x := y - 4) (by omega)]
  refine (c_ref04_Xy (x - 4) (y - 4) (by omega) (by omega) (by omega) (by omega)).mono ?_
  rintro r V6 l6 hp
  have hp0 := hp
  obtain ⟨p1, n1, c1, p2, n2, c2, p3, n3, c3, p4, n4, c4, rfl, -⟩ := hp
  exact ⟨_, _, _, _, _, _, _, _, _, _, _, _, _, _, rfl, fun V7 l7 e7 => ⟨x - 4, y - 4, at2, hp0.le l7, ⟨by omega, by omega⟩, ⟨by omega, by omega⟩, t2, e7⟩⟩

theorem RQ.zero {V : View} : RQ V (.agg #[.bool false, .slice none 0 0, .slice none 0 0]) ((0 : Int) : Rat) := ⟨none, 0, 0, none, 0, 0, rfl, RD.nil, RD.nil⟩
theorem RP.zero {V : View} : RP V (.agg #[.bool false, .slice none 0 0, .slice none 0 0, .bool false, .slice none 0 0, .slice none 0 0]) ((0 : Int) : Rat) ((0 : Int) : Rat) :=
  ⟨none, 0, 0, none, 0, 0, none, 0, 0, none, 0, 0, rfl, RQ.zero, RQ.zero⟩
theorem sz4 {z : Int} (h : -40 ≤ z ∧ z ≤ 40) : Sz 10 (z : Rat) := sz_int (by omega) (by omega)

theorem c_V {V : View} {tb : Nat} {p : Option Addr} {n c : Nat} {at_ : Int} (hr : Rdl V p n) (hn : n ≤ 400) (hw : TpAt V tb p n c at_) (hx : V.X tb) (h0 : 0 ≤ at_) :
    Acts prog 48 #[.pointer (some ⟨tb, 0, none⟩)] V fun r V' => ∃ (x y at' : Int), RP V' r (x : Rat) (y : Rat) ∧ (-4 ≤ x ∧ x ≤ 4) ∧ (-4 ≤ y ∧ y ≤ 4) ∧ ¬ (x = 0 ∧ y = 0) ∧ 0 ≤ at' ∧ TpAt V' tb p n c at' := by
  refine vc_scene_Tape_V tb p n c at_ V _ hw hx fun V1 l1 bk1 e1 h1 => (c_P (V := V1.lend [bk1]) (hr.le fun b o h => l1 b o h) hn e1 ⟨by simp, h1⟩ h0).mono ?_
  rintro r V2 l2 ⟨x, y, at1, hp, hx1, hy1, t1, hw1⟩
  have hp0 := hp
  obtain ⟨p1, n1, c1, p2, n2, c2, p3, n3, c3, p4, n4, c4, rfl, -⟩ := hp
  refine ⟨_, _, _, _, _, _, _, _, _, _, _, _, _, _, rfl, _, _, _, _, hw1, fun V3 l3 => (c_ref04_Same (hp0.le fun b o h => l3 b o h) RP.zero (sz4 (by omega)) (sz4 (by omega)) (sz4 (by omega)) (sz4 (by omega)) (by omega)).mono ?_⟩
  rintro r V4 l4 rfl
  refine ⟨_, rfl, fun g V5 l5 => (c_ref04_Xy 1 0 (by omega) (by omega) (by omega) (by omega)).mono ?_, fun g V8 l8 e8 => ⟨x, y, at1, hp0.le fun b o h => l8 b o (l4 b o (l3 b o h)), hx1, hy1, ?_, t1, e8⟩⟩
  · rintro r V6 l6 hq
    have hq0 := hq
    obtain ⟨p1, n1, c1, p2, n2, c2, p3, n3, c3, p4, n4, c4, rfl, -⟩ := hq
    exact ⟨_, _, _, _, _, _, _, _, _, _, _, _, _, _, rfl, fun V7 l7 e7 => ⟨1, 0, at1, hq0.le l7, ⟨by omega, by omega⟩, ⟨by omega, by omega⟩, by omega, t1, e7⟩⟩
  · rintro ⟨rfl, rfl⟩
    simp at g

theorem c_L {V : View} {tb : Nat} {p : Option Addr} {n c : Nat} {at_ : Int} (hr : Rdl V p n) (hn : n ≤ 400) (hw : TpAt V tb p n c at_) (hx : V.X tb) (h0 : 0 ≤ at_) :
    Acts prog 20 #[.pointer (some ⟨tb, 0, none⟩)] V fun r V' => ∃ (x : L3) (at' : Int), RL V' r x.1 x.2.1 x.2.2 ∧ okL x = true ∧ Bd x ∧ 0 ≤ at' ∧ TpAt V' tb p n c at' := by
  refine vc_scene_Tape_L tb p n c at_ V _ hw hx fun V1 l1 bk1 e1 h1 => (c_P (V := V1.lend [bk1]) (hr.le fun b o h => l1 b o h) hn e1 ⟨by simp, h1⟩ h0).mono ?_
  rintro r V2 l2 ⟨x, y, at1, hp, hx1, hy1, t1, hw1⟩
  have hp0 := hp
  obtain ⟨p1, n1, c1, p2, n2, c2, p3, n3, c3, p4, n4, c4, rfl, -⟩ := hp
  refine ⟨_, _, _, _, _, _, _, _, _, _, _, _, _, _, rfl, _, _, _, _, hw1, fun V3 l3 => (c_num_Of 1 (by omega) (by omega)).mono ?_⟩
  rintro r V4 l4 hq
  have hq0 := hq
  obtain ⟨p5, n5, c5, p6, n6, c6, rfl⟩ := hq.shape
  refine ⟨_, _, _, _, _, _, _, rfl, fun V5 l5 bk13 e5 h5 => (c_V (V := V5.lend [bk13]) (hr.le fun b o h => l5 b o (l4 b o (l3 b o (l2 b o (l1 b o h))))) hn e5 ⟨by simp, h5⟩ t1).mono ?_⟩
  rintro r V6 l6 ⟨u, w, at2, hv, hu1, hw1', hne, t2, hw2⟩
  have hv0 := hv
  obtain ⟨q1, m1, d1, q2, m2, d2, q3, m3, d3, q4, m4, d4, rfl, -⟩ := hv
  refine ⟨_, _, _, _, _, _, _, _, _, _, _, _, _, _, rfl, _, _, _, _, hw2, fun V7 l7 => ?_⟩
  have l27 : V2.Le V7 := fun b o h => l7 b o (l6 b o (l5 b o (l4 b o (l3 b o h))))
  have l47 : V4.Le V7 := fun b o h => l7 b o (l6 b o (l5 b o h))
  have l67 : V6.Le V7 := fun b o h => l7 b o h
  refine (c_ref04_Add (hp0.le l27) (hq0.le l47) (hv0.le l67) (k := 10) (m := 10) (sz4 (by omega)) (sz4 (by omega)) (sz4 (by omega)) (sz4 (by omega)) (sz4 (by omega)) (by omega)).mono ?_
  rintro r V8 l8 hs
  have hs0 := hs
  obtain ⟨s1, i1, j1, s2, i2, j2, s3, i3, j3, s4, i4, j4, rfl, -⟩ := hs
  have f1 : (x : Rat) + ((1 : Int) : Rat) * (u : Rat) = ((x + u : Int) : Rat) := by rw [← Rat.intCast_mul, ← Rat.intCast_add, Int.one_mul]
  have f2 : (y : Rat) + ((1 : Int) : Rat) * (w : Rat) = ((y + w : Int) : Rat) := by rw [← Rat.intCast_mul, ← Rat.intCast_add, Int.one_mul]
  refine ⟨_, _, _, _, _, _, _, _, _, _, _, _, _, _, rfl, fun V9 l9 => (c_ref04_Through (hp0.le (l27.trans (l8.trans l9))) (hs0.le l9) (k := 10) (sz4 (by omega)) (sz4 (by omega)) (by rw [f1]; exact sz4 (by omega)) (by rw [f2]; exact sz4 (by omega)) (by omega) (by omega)).mono ?_⟩
  rintro r V10 l10 ⟨-, h⟩
  rw [thr_int] at h
  have n1 : ((-w : Int) : Rat).num = -w := rfl
  have n2 : ((u : Int) : Rat).num = u := rfl
  have n3 : ((w * x - u * y : Int) : Rat).num = w * x - u * y := rfl
  dsimp only at h
  rw [n1, n2, n3] at h
  obtain ⟨l, rfl, hl⟩ := h (by omega)
  have m1 := mul_bd hw1' hx1
  have m2 := mul_bd hu1 hy1
  obtain ⟨k1, k2⟩ := lnOf_ok (a := -w) (b := u) (c := w * x - u * y) (by omega) (by omega) (by omega) (by omega)
  have hl0 := hl
  obtain ⟨b1, u1, v1, w1, b2, u2, v2, w2, b3, u3, v3, w3, rfl⟩ := (RL_shape' hl)
  exact ⟨_, _, _, _, _, _, _, _, _, _, _, _, _, rfl, fun V11 l11 e11 => ⟨lnOf (-w) u (w * x - u * y), at2, hl0.le l11, k1, k2, t2, e11⟩⟩

/-- A tree of the reference. -/
def RW (V : View) : Option Addr → Tr → Prop
  | p, .leaf i => ∃ (b : Nat) (c2 c3 c4 c5 c6 c7 c8 c9 : Value), p = some ⟨b, 0, none⟩ ∧ V.blk b (.cells #[.bool true, .bool i, c2, c3, c4, c5, c6, c7, c8, c9] 66 (0, 0))
  | p, .node l x y => ∃ (b : Nat) (i : Bool) (b1 : Bool) (p1 : Option Addr) (n1 c1 : Nat) (b2 : Bool) (p2 : Option Addr) (n2 c2 : Nat) (b3 : Bool) (p3 : Option Addr) (n3 c3 : Nat) (pl pr : Option Addr), p = some ⟨b, 0, none⟩ ∧
      V.blk b (.cells #[.bool false, .bool i, .bool b1, .slice p1 n1 c1, .bool b2, .slice p2 n2 c2, .bool b3, .slice p3 n3 c3, .pointer pl, .pointer pr] 66 (0, 0)) ∧
      RL V (.agg #[.bool b1, .slice p1 n1 c1, .bool b2, .slice p2 n2 c2, .bool b3, .slice p3 n3 c3]) l.1 l.2.1 l.2.2 ∧ RW V pl x ∧ RW V pr y
theorem RW.le {V V' : View} (h : V.Le V') : ∀ {t : Tr} {p : Option Addr}, RW V p t → RW V' p t
  | .leaf i, p, ⟨b, c2, c3, c4, c5, c6, c7, c8, c9, e, hb⟩ => ⟨b, c2, c3, c4, c5, c6, c7, c8, c9, e, h _ _ hb⟩
  | .node l x y, p, ⟨b, i, b1, p1, n1, c1, b2, p2, n2, c2, b3, p3, n3, c3, pl, pr, e, hb, hl, hx, hy⟩ => ⟨b, i, b1, p1, n1, c1, b2, p2, n2, c2, b3, p3, n3, c3, pl, pr, e, h _ _ hb, hl.le h, RW.le h hx, RW.le h hy⟩

theorem c_ref14_Code {V : View} (i : Bool) : Acts prog 26 #[.bool i] V fun r V' => ∃ p, r = .pointer p ∧ RW V' p (.leaf i) :=
  vc_ref14_Code i V _ fun V1 l1 b hb => ⟨_, rfl, b, _, _, _, _, _, _, _, _, rfl, hb⟩

/-- The lines of a tree are in normal form, and small. -/
def Okb (x : L3) : Prop := okL x = true ∧ Bd x
theorem c_Tree : ∀ (k : Nat) {V : View} {tb : Nat} {p : Option Addr} {n c : Nat} {at_ : Int}, k ≤ 10 → Rdl V p n → n ≤ 400 → TpAt V tb p n c at_ → V.X tb → 0 ≤ at_ →
    Acts prog 8 #[.pointer (some ⟨tb, 0, none⟩), .int .i64 (k : Int)] V fun r V' => ∃ q t at', r = .pointer q ∧ RW V' q t ∧ t.All Okb ∧ t.size < 2 ^ k ∧ 0 ≤ at' ∧ TpAt V' tb p n c at' := by
  intro k
  induction k with
  | zero =>
    intro V tb p n c at_ _ hr hn hw hx h0
    refine vc_scene_Tape_Tree tb p n c at_ _ V _ hw hx ⟨fun g V1 l1 bk1 e1 h1 => (c_Next (V := V1.lend [bk1]) 2 (hr.le fun b o h => l1 b o h) hn e1 ⟨by simp, h1⟩ h0 (by omega) (by omega)).mono ?_, fun g => by simp at g⟩
    rintro r V2 l2 ⟨x, at1, rfl, -, -, t1, hw1⟩
    refine ⟨_, rfl, _, _, _, _, hw1, fun V3 l3 => (c_ref14_Code _).mono ?_⟩
    rintro r V4 l4 ⟨q, rfl, hq⟩
    exact ⟨_, rfl, fun V5 l5 e5 => ⟨_, _, at1, rfl, hq.le l5, trivial, by simp [Tr.size], t1, e5⟩⟩
  | succ k ih =>
    intro V tb p n c at_ hk hr hn hw hx h0
    refine vc_scene_Tape_Tree tb p n c at_ _ V _ hw hx ⟨fun g => by rw [beq_iff_eq] at g; omega, fun _ V6 l6 bk6 e6 h6 => (c_Next (V := V6.lend [bk6]) 4 (hr.le fun b o h => l6 b o h) hn e6 ⟨by simp, h6⟩ h0 (by omega) (by omega)).mono ?_⟩
    rintro r V7 l7 ⟨x, at1, rfl, -, -, t1, hw1⟩
    have l07 : V.Le V7 := fun b o h => l7 b o (l6 b o h)
    refine ⟨_, rfl, _, _, _, _, hw1, fun g V8 l8 bk10 e8 h8 => (c_Next (V := V8.lend [bk10]) 2 (hr.le fun b o h => l8 b o (l07 b o h)) hn e8 ⟨by simp, h8⟩ t1 (by omega) (by omega)).mono ?_, fun g V13 l13 bk15 e13 h13 => (c_L (V := V13.lend [bk15]) (hr.le fun b o h => l13 b o (l07 b o h)) hn e13 ⟨by simp, h13⟩ t1).mono ?_⟩
    · rintro r V9 l9 ⟨x, at2, rfl, -, -, t2, hw2⟩
      refine ⟨_, rfl, _, _, _, _, hw2, fun V10 l10 => (c_ref14_Code _).mono ?_⟩
      rintro r V11 l11 ⟨q, rfl, hq⟩
      exact ⟨_, rfl, fun V12 l12 e12 => ⟨_, _, at2, rfl, hq.le l12, trivial, by simpa [Tr.size] using Nat.two_pow_pos _, t2, e12⟩⟩
    · rintro r V14 l14 ⟨ln, at2, hl, hok, hbd, t2, hw2⟩
      have hl0 := hl
      obtain ⟨b1, u1, v1, w1, b2, u2, v2, w2, b3, u3, v3, w3, rfl⟩ := (RL_shape' hl)
      have l014 : V.Le V14 := fun b o h => l14 b o (l13 b o (l07 b o h))
      have wk : IntKind.i64.wrap (((k + 1 : Nat) : Int) - 1) = (k : Int) := by rw [i64w (by omega)]; omega
      refine ⟨_, _, _, _, _, _, _, _, _, _, _, _, rfl, _, _, _, _, hw2, fun V15 l15 bk24 e15 h15 => ?_⟩
      rw [wk]
      refine ((ih (V := V15.lend [bk24]) (by omega) (hr.le fun b o h => l15 b o (l014 b o h)) hn e15 ⟨by simp, h15⟩ t2).mono ?_)
      rintro r V16 l16 ⟨qa, ta, at3, rfl, hqa, hta, hsa, t3, hw3⟩
      have l016 : V.Le V16 := fun b o h => l16 b o (l15 b o (l014 b o h))
      refine ⟨_, rfl, _, _, _, _, hw3, fun V17 l17 bk28 e17 h17 => (ih (V := V17.lend [bk28]) (by omega) (hr.le fun b o h => l17 b o (l016 b o h)) hn e17 ⟨by simp, h17⟩ t3).mono ?_⟩
      rintro r V18 l18 ⟨qb, tb', at4, rfl, hqb, htb, hsb, t4, hw4⟩
      refine ⟨_, rfl, _, _, _, _, hw4, fun V19 l19 bk32 e19 hb => ⟨_, .node ln ta tb', at4, rfl, ⟨bk32, _, _, _, _, _, _, _, _, _, _, _, _, _, _, _, rfl, hb, ?_, ?_, ?_⟩, ⟨⟨hok, hbd⟩, hta, htb⟩, ?_, t4, e19⟩⟩
      · exact hl0.le fun b o h => l19 b o (l18 b o (l17 b o (l16 b o (l15 b o h))))
      · exact RW.le (V := V16) (V' := V19) (fun b o h => l19 b o (l18 b o (l17 b o h))) hqa
      · exact RW.le (V := V18) (V' := V19) (fun b o h => l19 b o h) hqb
      · simp only [Tr.size]; rw [Nat.pow_succ]; omega
end Go.Proofs.Tryz
/- Contracts: the reference writes a tree; Same of written trees. -/
namespace Go.Proofs.Tryz
open Go.Eng Go.Big

theorem rw_isS {V : View} {t : Tr} {p : Option Addr} (h : RW V p t) : p.isSome = true := by
  cases t with
  | leaf i => obtain ⟨b, c2, c3, c4, c5, c6, c7, c8, c9, rfl, hb⟩ := h; rfl
  | node l x y => obtain ⟨b, i, b1, p1, n1, c1, b2, p2, n2, c2, b3, p3, n3, c3, pl, pr, rfl, -⟩ := h; rfl

theorem c_write : ∀ (t : Tr) {V : View} {p : Option Addr} {lb : Nat} {n c : Nat} {vs : List Value} {l : List Nd}, RW V p t → t.All Okb → n = l.length →
    (vs ≠ [] → V.w.heap[lb]? = some (.cells vs.toArray 60 (0, 0))) → (vs ≠ [] → V.X lb) → n ≤ c → c * 8 ≤ vs.length → NR V vs l → n + t.size ≤ 1000000 →
    Acts prog 24 #[.pointer p, .slice (mA lb c) n c] V fun r V' => ∃ (bm : Nat) (vm : List Value) (c' : Nat), (vm ≠ [] → V'.w.heap[bm]? = some (.cells vm.toArray 60 (0, 0))) ∧ (vm ≠ [] → V.w.heap.size ≤ bm ∨ (vs ≠ [] ∧ bm = lb)) ∧
      r = .tuple #[.slice (mA bm c') (n + t.size) c', .int .i64 (rt n t)] ∧ n + t.size ≤ c' ∧ c' * 8 ≤ vm.length ∧ NR (V'.hideG (vm ≠ []) bm) vm (l ++ wr n t) := by
  intro t
  induction t with
  | leaf i =>
    intro V p lb n c vs l hp _ hn hv hxv hnc hcv hnr hsz
    have hs := rw_isS hp
    obtain ⟨b, c2, c3, c4, c5, c6, c7, c8, c9, rfl, hb⟩ := hp
    have fin : ∀ (V3 : View) (bk : Nat) (x : Int), V.Le (V3.hideG (vs ≠ []) bk) → (vs ≠ [] → V3.w.heap[bk]? = some (.cells vs.toArray 60 (0, 0))) →
        (vs ≠ [] → V.w.heap.size ≤ bk ∨ (vs ≠ [] ∧ bk = lb) ∨ False) → x = rt n (.leaf i) → ∃ (bm : Nat) (vm : List Value) (c' : Nat), (vm ≠ [] → V3.w.heap[bm]? = some (.cells vm.toArray 60 (0, 0))) ∧ (vm ≠ [] → V.w.heap.size ≤ bm ∨ (vs ≠ [] ∧ bm = lb)) ∧
      Value.tuple #[.slice (mA bk c) n c, .int .i64 x] = .tuple #[.slice (mA bm c') (n + (Tr.leaf i).size) c', .int .i64 (rt n (.leaf i))] ∧ n + (Tr.leaf i).size ≤ c' ∧ c' * 8 ≤ vm.length ∧ NR (V3.hideG (vm ≠ []) bm) vm (l ++ wr n (.leaf i)) := by
      intro V3 bk x hle e3 e4 hx
      refine ⟨bk, vs, c, e3, fun h => ?_, by rw [hx]; rfl, hnc, hcv, ?_⟩
      · rcases e4 h with h | h | h
        · exact .inl h
        · exact .inr h
        · exact h.elim
      · simp only [wr, List.append_nil]
        exact hnr.le hle
    refine vc_ref14_write _ lb n c vs V _ hv hxv ⟨hs, hs, true, rdc hb 0 rfl, fun _ => ⟨hs, hs, i, rdc hb 1 rfl, fun hi V1 bk a1 a2 a3 => fin V1 bk _ a1 a2 a3 (by subst hi; rfl), fun hi V2 bk a1 a2 a3 => fin V2 bk _ a1 a2 a3 (by subst hi; rfl)⟩, fun h => by cases h⟩
  | node ln x y ihx ihy =>
    intro V p lb n c vs l hp hall hn hv hxv hnc hcv hnr hsz
    have hs := rw_isS hp
    simp only [Tr.size] at hsz
    obtain ⟨⟨-, hbd⟩, hax, hay⟩ := hall
    obtain ⟨b, i, b1, p1, n1, c1, b2, p2, n2, c2, b3, p3, n3, c3, pl, pr, rfl, hb, hl, hx, hy⟩ := hp
    have hat : ∀ j v, ([.bool b1, .slice p1 n1 c1, .bool b2, .slice p2 n2 c2, .bool b3, .slice p3 n3 c3] : List Value)[j]? = some v → V.at (((⟨b, 2, none⟩ : Addr)).add j) v := by
      intro j v hv
      have hj : j < 6 := by
        rcases Nat.lt_or_ge j 6 with hj | hj
        · exact hj
        · rw [List.getElem?_eq_none (by simpa using hj)] at hv; cases hv
      have h2 : (⟨b, 2, none⟩ : Addr) = (⟨b, 0, none⟩ : Addr).add 2 := by rw [add_zero']
      rw [h2, addadd, add_zero']
      refine blk_at (xs := [_, _, _, _, _, _, _, _, _, _]) hb ?_
      match j, hj, hv with
      | 0, _, hv => exact hv
      | 1, _, hv => exact hv
      | 2, _, hv => exact hv
      | 3, _, hv => exact hv
      | 4, _, hv => exact hv
      | 5, _, hv => exact hv
    obtain ⟨t1, t2, t3⟩ := hbd.digs
    refine vc_ref14_write _ lb n c vs V _ hv hxv ⟨hs, hs, false, rdc hb 0 rfl, (fun h => by cases h), fun _ => ⟨hs, hs, b1, p1, n1, c1, b2, p2, n2, c2, b3, p3, n3, c3, ⟨b, 2, none⟩, by simp [addrAdd, add_zero'], hat 0 _ rfl, hat 1 _ rfl, hat 2 _ rfl, hat 3 _ rfl, hat 4 _ rfl, hat 5 _ rfl, fun V3 l3 => (c_ref04_ToL (hl.le l3) (by omega) (by omega) (by omega)).mono ?_⟩⟩
    rintro r V4 l4 hRL
    have hRL0 := hRL
    obtain ⟨d1, q1, m1, e1, d2, q2, m2, e2, d3, q3, m3, e3, rfl⟩ := RL_shape' hRL
    have l04 := l3.trans l4
    refine ⟨_, _, _, _, _, _, _, _, _, _, _, _, rfl, by omega, hnc, hcv, rfl, by intro v hv; simp at hv; rcases hv with rfl | rfl | rfl | rfl | rfl | rfl | rfl | rfl <;> rfl, fun sp c' g1 g2 => ?_⟩
    have hb4 := l04 _ _ hb
    refine ⟨hs, hs, pl, rdc hb4 8 rfl, fun V5 l5 bk1 f1 f2 => ?_⟩
    have hpush := NR.push (sp := sp) (x := 0) (y := 0) (hnr.le l04) (by omega) (ln := ln) hRL0
    rw [← hn] at hpush
    generalize hrow : vs.take (n * 8) ++ ([_, _, _, _, _, _, _, _] : List Value) ++ sp = row at f1 f2 hpush ⊢
    have hrl : row.length = n * 8 + 8 + sp.length := by
      rw [← hrow]; simp only [List.length_append, List.length_take, List.length_cons, List.length_nil]; omega
    have hrne : row ≠ [] := fun e => by rw [e] at hrl; simp only [List.length_nil] at hrl; omega
    have l05 := l04.trans l5
    have i1 := ihx (V := V5.lend [vb row V5.w.heap.size bk1]) (p := pl) (lb := bk1) (n := n + 1) (c := c') (vs := row) (l := l ++ [⟨ln, 0, 0⟩]) (RW.le (V := V) (V' := V5.lend _) (fun b o h => l05 b o h) hx) hax (by simp [hn]) f1 (fun h => ⟨by simp [vb_ne h], f2 h⟩) g1 (by omega) (NR.le (V := V4) (V' := V5.lend _) hpush fun b o h => l5 b o h) (by omega)
    refine i1.mono ?_
    rintro r V6 l6 ⟨bm, vm, c1', a1, a2, rfl, a5, a6, a7⟩
    have l56 : V5.Le V6 := fun b o h => l6 b o h
    have l5h : V5.Le (V6.shut.hideG (vm ≠ []) bm) := le_hideG (V' := V5) l56 (View.Le.refl V5) fun h => (a2 h).imp id fun h' => by rw [h'.2]; exact f2 hrne
    refine ⟨bm, vm, a1, a2, none, _, _, _, rfl, hs, hs, pr, rdc ((l05.trans l5h) _ _ hb) 9 rfl, fun V7 l7 bk2 d1 d2 => ?_⟩
    have hvmne : vm ≠ [] := fun e => by rw [e] at a6; simp at a6; omega
    have l07 : V.Le V7 := (l05.trans l5h).trans l7
    have i2 := ihy (V := V7.lend [vb vm V7.w.heap.size bk2]) (p := pr) (lb := bk2) (n := n + 1 + x.size) (c := c1') (vs := vm) (l := l ++ [⟨ln, 0, 0⟩] ++ wr (n + 1) x) (RW.le (V := V) (V' := V7.lend _) (fun b o h => l07 b o h) hy) hay (by simp [hn, wr_length]; omega) d1 (fun h => ⟨by simp [vb_ne h], d2 h⟩) a5 a6 (NR.le (V := V6.hideG (vm ≠ []) bm) (V' := V7.lend _) a7 fun b o h => l7 b o h) (by omega)
    refine i2.mono ?_
    rintro r V8 l8 ⟨bn, vn, c2', b1', b2', rfl, b5, b6, b7⟩
    have hlen : n * 8 + 8 ≤ vn.length := by omega
    simp only [Int.toNat_natCast]
    refine ⟨bn, vn, b1', b2', none, _, _, _, rfl, ⟨by omega, by omega⟩, b5, by omega, ⟨by omega, by omega⟩, b5, by rw [List.length_set]; omega, fun V9 bk3 u1 u4 u5 => ?_⟩
    have hfin := NR.kids (V := V8.hideG (vn ≠ []) bn) (l := l) (r := wr (n + 1) x ++ wr (n + 1 + x.size) y) (ln := ln) (u := 0) (v := 0) (x := rt (n + 1) x) (y := rt (n + 1 + x.size) y) (by simpa using b7)
    rw [← hn] at hfin
    refine ⟨bk3, _, c2', u4, fun h => ?_, by rw [show n + (Tr.node ln x y).size = n + 1 + x.size + y.size from by simp only [Tr.size]; omega]; rfl, by simp only [Tr.size]; omega, by simp only [List.length_set]; omega, ?_⟩
    · rcases u5 h with h | h | h
      · exact .inl h
      · exact .inr h
      · exact h.elim
    · simp only [wr]
      exact NR.le (V := V8.hideG (vn ≠ []) bn) hfin fun b o h => u1 b o h

theorem c_ref14_Write {V : View} {p : Option Addr} {t : Tr} (h : RW V p t) (ha : t.All Okb) (hs : t.size ≤ 1000000) :
    Acts prog 7 #[.pointer p] V fun r V' => AT V' r (rt 0 t) (wr 0 t) := by
  refine vc_ref14_Write p V _ fun V1 l1 => ?_
  refine Acts.monoH (c_write t (V := V1) (lb := 0) (vs := []) (l := []) (n := 0) (c := 0) (h.le l1) ha rfl (fun h => absurd rfl h) (fun h => absurd rfl h) (Nat.le_refl _) (Nat.le_refl _) (fun i d hd => by simp at hd) (by omega)) ?_
  rintro r V2 l2 hH ⟨bm, vm, c', a1, a2, rfl, a5, a6, a7⟩
  refine ⟨bm, vm, a1, fun h => (a2 h).imp id fun h' => absurd rfl h'.1, none, _, _, _, rfl, fun V3 l3 bk hb => ?_⟩
  simp only [List.nil_append, Nat.zero_add] at a7 a5 ⊢
  have := NS.ofRow (V := V3) (b := bk) (c := c') (vm := vm) (l := wr 0 t) (ty := 60) hb (by rw [wr_length]; exact a5) (a7.le fun b o h => l3 b o h)
  rw [wr_length] at this
  exact ⟨_, _, _, rfl, this⟩
end Go.Proofs.Tryz
/- Contracts: keep's moved and Shuffled, the reference's Same. -/
namespace Go.Proofs.Tryz
open Go.Eng Go.Big

theorem c_moved {V : View} (i : Int) (n b : Nat) (hn : 0 < n) (hn2 : n ≤ 1000000) (hb : b < n) (hi : i ≤ 1000000) :
    Acts prog 27 #[.int .i64 i, .int .i64 (n : Int), .int .i64 (b : Int)] V fun r V' => r = .int .i64 (mv n b i) := by
  refine vc_keep_moved i n b V _ ⟨fun g V1 l1 => ?_, fun g => ⟨by omega, fun V2 l2 => ?_⟩⟩
  · have g := of_decide_eq_true g
    unfold mv; rw [if_pos g]
  · have g : ¬ i < 0 := of_decide_eq_false g
    obtain ⟨k, rfl⟩ : ∃ k : Nat, i = k := ⟨i.toNat, by omega⟩
    have e1 : IntKind.i64.wrap ((k : Int) + b) = ((k + b : Nat) : Int) := by rw [i64w (by omega)]; omega
    have e2 : IntKind.i64.wrap ((n : Int) - 1) = (n : Int) - 1 := i64w (by omega)
    have e3 : (((k + b : Nat) : Int)).tmod (n : Int) = (((k + b) % n : Nat) : Int) := by rw [Int.tmod_eq_emod_of_nonneg (by omega)]; rfl
    have hm := Nat.mod_lt (k + b) hn
    rw [e1, e2, e3, i64w (by omega)]
    unfold mv
    rw [if_neg g, Int.toNat_natCast]
    unfold mvN
    congr 1
    omega

/-- One row of eight cells that holds a node. -/
def NRow (V : View) (vs : List Value) (i : Nat) (d : Nd) : Prop := ∃ (b1 : Bool) (p1 : Option Addr) (n1 c1 : Nat) (b2 : Bool) (p2 : Option Addr) (n2 c2 : Nat) (b3 : Bool) (p3 : Option Addr) (n3 c3 : Nat),
  (∀ j v, ([.bool b1, .slice p1 n1 c1, .bool b2, .slice p2 n2 c2, .bool b3, .slice p3 n3 c3, .int .i64 d.left, .int .i64 d.right] : List Value)[j]? = some v → vs[i * 8 + j]? = some v) ∧
  RL V (.agg #[.bool b1, .slice p1 n1 c1, .bool b2, .slice p2 n2 c2, .bool b3, .slice p3 n3 c3]) d.ln.1 d.ln.2.1 d.ln.2.2
theorem NRow.le {V V' : View} {vs : List Value} {i : Nat} {d : Nd} (h : NRow V vs i d) (hl : V.Le V') : NRow V' vs i d := by
  obtain ⟨b1, p1, n1, c1, b2, p2, n2, c2, b3, p3, n3, c3, h1, h2⟩ := h
  exact ⟨b1, p1, n1, c1, b2, p2, n2, c2, b3, p3, n3, c3, h1, h2.le hl⟩
theorem put8_in {vs xs : List Value} {k j : Nat} (hx : xs.length = 8) (h : k * 8 + 8 ≤ vs.length) (hj : j < 8) : (vs.take (k * 8) ++ xs ++ vs.drop (k * 8 + 8))[k * 8 + j]? = xs[j]? := by
  have ht : (vs.take (k * 8)).length = k * 8 := by rw [List.length_take]; omega
  rw [List.append_assoc, List.getElem?_append_right (by omega), ht, Nat.add_sub_cancel_left, List.getElem?_append_left (by omega)]
theorem put8_out {vs xs : List Value} {k i : Nat} (hx : xs.length = 8) (h : k * 8 + 8 ≤ vs.length) (hi : i < k * 8 ∨ k * 8 + 8 ≤ i) : (vs.take (k * 8) ++ xs ++ vs.drop (k * 8 + 8))[i]? = vs[i]? := by
  have ht : (vs.take (k * 8)).length = k * 8 := by rw [List.length_take]; omega
  rcases hi with hi | hi
  · rw [List.append_assoc, List.getElem?_append_left (by omega), List.getElem?_take, if_pos hi]
  · rw [List.getElem?_append_right (by rw [List.length_append]; omega), List.length_append, ht, hx, List.getElem?_drop]
    congr 1
    omega
theorem lt8 {a b c d e f g h v : Value} {j : Nat} (hv : ([a, b, c, d, e, f, g, h] : List Value)[j]? = some v) : j < 8 := by
  rcases Nat.lt_or_ge j 8 with hj | hj
  · exact hj
  · rw [List.getElem?_eq_none (by simpa using hj)] at hv; cases hv
theorem NRow.out {V : View} {vs xs : List Value} {k i : Nat} {d : Nd} (h : NRow V vs i d) (hx : xs.length = 8) (hk : k * 8 + 8 ≤ vs.length) (hi : i ≠ k) : NRow V (vs.take (k * 8) ++ xs ++ vs.drop (k * 8 + 8)) i d := by
  obtain ⟨b1, p1, n1, c1, b2, p2, n2, c2, b3, p3, n3, c3, h1, h2⟩ := h
  refine ⟨b1, p1, n1, c1, b2, p2, n2, c2, b3, p3, n3, c3, fun j v hv => ?_, h2⟩
  have := lt8 hv
  rw [put8_out hx hk (by omega)]
  exact h1 j v hv

/-! the inverse of 'moved' -/
def vm (n b m : Nat) : Nat := (n - 1 - m + (n - b)) % n
theorem vm_mv {n b j : Nat} (hb : b < n) (hj : j < n) : vm n b (mvN n b j) = j := by
  unfold vm mvN
  have h1 := Nat.mod_lt (j + b) (show 0 < n by omega)
  rw [show n - 1 - (n - 1 - (j + b) % n) = (j + b) % n from by omega, Nat.mod_add_mod, show j + b + (n - b) = j + n from by omega, Nat.add_mod_right, Nat.mod_eq_of_lt hj]
theorem mv_vm {n b m : Nat} (hb : b < n) (hm : m < n) : mvN n b (vm n b m) = m := by
  unfold vm mvN
  rw [Nat.mod_add_mod, show n - 1 - m + (n - b) + b = n - 1 - m + n from by omega, Nat.add_mod_right, Nat.mod_eq_of_lt (by omega)]
  omega

theorem c_Shuffled {V : View} {v : Value} {root : Int} {l : List Nd} (h : AT V v root l) (hl : l.length ≤ 1000000) (hr : root ≤ 1000000) (hc : ∀ d ∈ l, d.left ≤ 1000000 ∧ d.right ≤ 1000000) (h0 : l = [] → root < 0) (by_ : Int) :
    Acts prog 9 #[v, .int .i64 by_] V fun r V' => ∃ (b : Nat) (l' : List Nd), AT V' r (mv l.length b root) l' ∧ l'.length = l.length ∧ (∀ i d, l[i]? = some d → l'[mvN l.length b i]? = some (mvd l.length b d)) ∧ ∀ x ∈ l', ∃ d ∈ l, x.ln = d.ln := by
  have hh := h
  obtain ⟨q, n, c, rfl, hns⟩ := h
  have hn : n = l.length := hns.len
  subst hn
  refine vc_keep_Shuffled root q l.length c by_ V _ ⟨fun g V1 l1 => ?_, fun g => ?_⟩
  · have g : l.length = 0 := by rw [beq_iff_eq] at g; omega
    have e := List.eq_nil_of_length_eq_zero g
    subst e
    refine ⟨0, [], ?_, rfl, fun i d hd => by simp at hd, fun x hx => by simp at hx⟩
    unfold mv
    rw [if_pos (h0 rfl)]
    exact hh.le l1
  have g : l.length ≠ 0 := by rw [beq_eq_false_iff_ne] at g; omega
  clear hh h0
  have hpos : 0 < l.length := by omega
  obtain ⟨b, hb, hbn⟩ : ∃ b : Nat, (IntKind.i64.wrap (by_.tmod (l.length : Int) + (l.length : Int))).tmod (l.length : Int) = (b : Int) ∧ b < l.length := by
    have m1 : (by_.tmod (l.length : Int)).natAbs < l.length := by rw [Int.natAbs_tmod, Int.natAbs_natCast]; exact Nat.mod_lt _ hpos
    rw [i64w (by omega), Int.tmod_eq_emod_of_nonneg (by omega)]
    have m2 := Int.emod_lt_of_pos (by_.tmod (l.length : Int) + (l.length : Int)) (show (0 : Int) < (l.length : Int) by omega)
    have m3 := Int.emod_nonneg (by_.tmod (l.length : Int) + (l.length : Int)) (show (l.length : Int) ≠ 0 by omega)
    exact ⟨((by_.tmod (l.length : Int) + (l.length : Int)) % (l.length : Int)).toNat, by omega, by omega⟩
  rw [hb, Int.toNat_natCast]
  generalize hN : l.length = N at *
  refine ⟨by omega, by omega, by omega, by omega, by omega, fun V2 l2 => (c_moved root N b hpos hl hbn hr).mono ?_⟩
  rintro r V3 l3 rfl
  refine ⟨_, rfl, fun (z : Int × List Value) V' => ∃ i : Nat, z.1 = i ∧ i ≤ N ∧ z.2.length = N * 8 ∧ ∀ j d, j < i → l[j]? = some d → NRow V' z.2 (mvN N b j) (mvd N b d), fun z => (N - z.1).toNat, ⟨(0, zrow N [.bool false, .slice none 0 0, .bool false, .slice none 0 0, .bool false, .slice none 0 0, .int .i64 0, .int .i64 0]), by (try dsimp only); and_intros <;> trivial, 0, rfl, by omega, ?_, fun j d hj => by omega⟩, ?_⟩
  · dsimp only
    rw [zrow_eq, List.length_flatten, List.map_replicate, List.sum_replicate_nat]; rfl
  rintro ⟨_, vs⟩ V4 l4 ⟨i, rfl, hi, hlen, hrow⟩
  dsimp only at hlen hrow ⊢
  refine ⟨rfl, fun g => ?_, fun g V11 l11 bk hbk => ?_⟩
  · have g : i < N := by have := of_decide_eq_true g; omega
    have hget : l[i]? = some (l[i]'(by omega)) := List.getElem?_eq_getElem (by omega)
    generalize l[i]'(by omega) = d at hget
    obtain ⟨b1, p1, n1, c1, b2, p2, n2, c2, b3, p3, n3, c3, a, ha, a0, a1, a2, a3, a4, a5, a6, a7, hL⟩ := (hns.le (l2.trans (l3.trans l4))).rd hget
    obtain ⟨hc1, hc2⟩ := hc d (List.mem_of_getElem? hget)
    have hi1 : IntKind.i64.wrap ((i : Int) + 1) = ((i + 1 : Nat) : Int) := by rw [i64w (by omega)]; omega
    rw [Int.toNat_natCast, hi1]
    refine ⟨hns.isS (by omega), ⟨by omega, by omega⟩, b1, p1, n1, c1, b2, p2, n2, c2, b3, p3, n3, c3, d.left, d.right, a, ha, a0, a1, a2, a3, a4, a5, a6, a7, fun V5 l5 => (c_moved (i : Int) N b hpos hl hbn (by omega)).mono ?_⟩
    rintro r V6 l6 rfl
    refine ⟨_, rfl, fun V7 l7 => (c_moved d.left N b hpos hl hbn hc1).mono ?_⟩
    rintro r V8 l8 rfl
    refine ⟨_, rfl, fun V9 l9 => (c_moved d.right N b hpos hl hbn hc2).mono ?_⟩
    rintro r V10 l10 rfl
    have hmi : mv N b (i : Int) = ((mvN N b i : Nat) : Int) := by unfold mv; rw [if_neg (by omega), Int.toNat_natCast]
    have hlt := mvN_lt (b := b) (i := i) hpos
    rw [hmi, Int.toNat_natCast]
    have l410 := l5.trans (l6.trans (l7.trans (l8.trans (l9.trans l10))))
    refine ⟨_, rfl, ⟨by omega, by omega⟩, by omega, ⟨(((i + 1 : Nat) : Int), setVals vs (0 + mvN N b i * 8) [.bool b1, .slice p1 n1 c1, .bool b2, .slice p2 n2 c2, .bool b3, .slice p3 n3 c3, .int .i64 (mv N b d.left), .int .i64 (mv N b d.right)]), by dsimp only; omega, by (try dsimp only); and_intros <;> trivial, i + 1, rfl, by omega, ?_, ?_⟩⟩
    · dsimp only
      rw [setVals_eq (by simp only [List.length_cons, List.length_nil]; omega)]
      simp only [List.length_append, List.length_take, List.length_drop, List.length_cons, List.length_nil]
      omega
    · dsimp only
      intro j d' hj hd'
      rw [setVals_eq (by simp only [List.length_cons, List.length_nil]; omega), Nat.zero_add]
      by_cases hji : j = i
      · subst hji
        rw [hget] at hd'
        cases hd'
        exact ⟨b1, p1, n1, c1, b2, p2, n2, c2, b3, p3, n3, c3, fun k v hv => (put8_in rfl (by omega) (lt8 hv)).trans hv, hL.le l410⟩
      · refine ((hrow j d' (by omega) hd').le l410).out rfl (by omega) fun e => hji ?_
        exact mvN_inj (by omega) g e
  · have g : i = N := by have := of_decide_eq_false g; omega
    subst g
    have hfull : ∀ m, m < i → ∃ d, l[vm i b m]? = some d := fun m hm => ⟨_, List.getElem?_eq_getElem (by rw [hN]; exact Nat.mod_lt _ (by omega))⟩
    have hvl : ∀ m, vm i b m < l.length := fun m => by rw [hN]; exact Nat.mod_lt _ (by omega)
    have hget' : ∀ m d, ((List.range i).map fun m => mvd i b (l[vm i b m]'(hvl m)))[m]? = some d → m < i ∧ ∃ d0, l[vm i b m]? = some d0 ∧ d = mvd i b d0 := by
      intro m d hd
      rcases Nat.lt_or_ge m i with hm | hm
      · rw [List.getElem?_map, List.getElem?_range hm, Option.map_some] at hd
        cases hd
        exact ⟨hm, _, List.getElem?_eq_getElem (hvl m), rfl⟩
      · rw [List.getElem?_eq_none (by simpa using hm)] at hd; cases hd
    refine ⟨b, (List.range i).map fun m => mvd i b (l[vm i b m]'(hvl m)), ⟨_, _, _, rfl, ?_, Nat.le_refl _, ⟨vs, fun k v hv => ⟨_, rfl, by rw [add_zero']; exact blk_at hbk hv⟩, ?_⟩, fun e => by cases e⟩, by simp, ?_, ?_⟩
    · simp
    · intro m d hd
      obtain ⟨hm, d0, e1, rfl⟩ := hget' m d hd
      have := (hrow (vm i b m) d0 (by have := hvl m; omega) e1).le l11
      rw [mv_vm hbn hm] at this
      exact this
    · intro j d hd
      have hj : j < i := by
        rcases Nat.lt_or_ge j l.length with h | h
        · omega
        · rw [List.getElem?_eq_none h] at hd; cases hd
      have hlt := mvN_lt (b := b) (i := j) hpos
      rw [List.getElem?_map, List.getElem?_range hlt, Option.map_some]
      congr 2
      have : l[vm i b (mvN i b j)]? = some d := by rw [vm_mv hbn hj]; exact hd
      rw [List.getElem?_eq_getElem (hvl _)] at this
      exact Option.some.inj this
    · intro x hx
      obtain ⟨m, hm⟩ := List.getElem?_of_mem hx
      obtain ⟨-, d0, e1, rfl⟩ := hget' m x hm
      exact ⟨d0, List.mem_of_getElem? e1, rfl⟩

theorem c_ref14_Same {V : View} {v w : Value} {r1 r2 : Int} {l1 l2 : List Nd} (h1 : AT V v r1 l1) (h2 : AT V w r2 l2) (hb : ∀ x ∈ l1, Bd x.ln) (hlen : l1.length ≤ 1000000) :
    Acts prog 12 #[v, w] V fun r V' => r = .bool (decide (r1 = r2 ∧ l1 = l2)) := by
  obtain ⟨q1, n1, c1, rfl, hs1⟩ := h1
  obtain ⟨q2, n2, c2, rfl, hs2⟩ := h2
  have e1 : n1 = l1.length := hs1.len
  have e2 : n2 = l2.length := hs2.len
  subst e1 e2
  refine vc_ref14_Same r1 q1 l1.length c1 r2 q2 l2.length c2 V _ ⟨fun g V1 k1 => ?_, fun g => ⟨fun g2 V2 k2 => ?_, fun g2 => ?_⟩⟩
  · have g : r1 ≠ r2 := by simpa using g
    rw [decide_eq_false (fun h => g h.1)]
  · have g2 : l1.length ≠ l2.length := by rw [bne_iff_ne] at g2; omega
    rw [decide_eq_false (fun h => g2 (by rw [h.2]))]
  have g : r1 = r2 := by simpa using g
  have g2 : l1.length = l2.length := by have : ((l1.length : Nat) : Int) = (l2.length : Nat) := by simpa using g2
                                        omega
  refine ⟨fun z _ => ∃ i : Nat, z = i ∧ i ≤ l1.length ∧ l1.take i = l2.take i, fun z => (l1.length - z).toNat, ⟨0, by (try dsimp only); and_intros <;> trivial, 0, rfl, by omega, by simp⟩, ?_⟩
  rintro _ V3 k3 ⟨i, rfl, hi, ht⟩
  refine ⟨rfl, fun g3 => ?_, fun g3 V9 k9 => ?_⟩
  · have g3 : i < l1.length := by have := of_decide_eq_true g3; omega
    have hg1 : l1[i]? = some (l1[i]'(by omega)) := List.getElem?_eq_getElem (by omega)
    have hg2 : l2[i]? = some (l2[i]'(by omega)) := List.getElem?_eq_getElem (by omega)
    generalize l1[i]'(by omega) = d at hg1
    generalize l2[i]'(by omega) = d' at hg2
    obtain ⟨b1, p1, m1, f1, b2, p2, m2, f2, b3, p3, m3, f3, a, ha, a0, a1, a2, a3, a4, a5, a6, a7, hL⟩ := (hs1.le k3).rd hg1
    obtain ⟨b1', p1', m1', f1', b2', p2', m2', f2', b3', p3', m3', f3', a', ha', a0', a1', a2', a3', a4', a5', a6', a7', hL'⟩ := (hs2.le k3).rd hg2
    have hne : d ≠ d' → l1 ≠ l2 := fun h e => h (by rw [e, hg2] at hg1; exact (Option.some.inj hg1).symm)
    obtain ⟨t1, t2, t3⟩ := (hb d (List.mem_of_getElem? hg1)).digs
    have hi1 : IntKind.i64.wrap ((i : Int) + 1) = ((i + 1 : Nat) : Int) := by rw [i64w (by omega)]; omega
    rw [Int.toNat_natCast, hi1]
    refine ⟨hs1.isS (by omega), ⟨by omega, by omega⟩, b1, p1, m1, f1, b2, p2, m2, f2, b3, p3, m3, f3, d.left, d.right, a, ha, a0, a1, a2, a3, a4, a5, a6, a7, hs2.isS (by omega), ⟨by omega, by omega⟩, b1', p1', m1', f1', b2', p2', m2', f2', b3', p3', m3', f3', d'.left, d'.right, a', ha', a0', a1', a2', a3', a4', a5', a6', a7', fun g4 V4 k4 => ?_, fun g4 => ⟨fun g5 V5 k5 => ?_, fun g5 V6 k6 => (c_ref04_SameL (hL.le k6) (hL'.le k6) (by omega) (by omega) (by omega)).mono ?_⟩⟩
    · have g4 : d.left ≠ d'.left := by simpa using g4
      rw [decide_eq_false (fun h => hne (fun e => g4 (by rw [e])) h.2)]
    · have g5 : d.right ≠ d'.right := by simpa using g5
      rw [decide_eq_false (fun h => hne (fun e => g5 (by rw [e])) h.2)]
    · rintro r V7 k7 rfl
      have h4 : d.left = d'.left := by simpa using g4
      have h5 : d.right = d'.right := by simpa using g5
      refine ⟨_, rfl, fun g6 V8 k8 => ?_, fun g6 => ⟨((i + 1 : Nat) : Int), by dsimp only; omega, by and_intros <;> trivial, i + 1, rfl, by omega, ?_⟩⟩
      · have g6 : ¬ (d.ln.1 = d'.ln.1 ∧ d.ln.2.1 = d'.ln.2.1 ∧ d.ln.2.2 = d'.ln.2.2) := by rw [Bool.not_eq_true'] at g6; exact of_decide_eq_false g6
        rw [decide_eq_false (fun h => hne (fun e => g6 (by rw [e]; exact ⟨rfl, rfl, rfl⟩)) h.2)]
      · have h6 : d.ln.1 = d'.ln.1 ∧ d.ln.2.1 = d'.ln.2.1 ∧ d.ln.2.2 = d'.ln.2.2 := by rw [Bool.not_eq_false'] at g6; exact of_decide_eq_true g6
        clear g4 g5 g6
        have hd : d = d' := by
          obtain ⟨⟨x1, x2, x3⟩, y1, y2⟩ := d
          obtain ⟨⟨u1, u2, u3⟩, w1, w2⟩ := d'
          dsimp only at h4 h5 h6
          obtain ⟨rfl, rfl, rfl⟩ := h6
          subst h4 h5
          rfl
        rw [List.take_add_one, List.take_add_one, ht, hg1, hg2, hd]
  · have g3 : i = l1.length := by have := of_decide_eq_false g3; omega
    subst g3
    rw [List.take_of_length_le (Nat.le_refl _), List.take_of_length_le (by omega)] at ht
    rw [decide_eq_true ⟨g, ht⟩]
end Go.Proofs.Tryz
/- The law TreeOrders, in views. -/
namespace Go.Proofs.Tryz
open Go.Eng Go.Big

/-- All that is there is hidden. -/
def hideAll (V : View) : View := ⟨V.w, fun b => b < V.w.heap.size, fun _ => False, fun _ h => h, fun _ h => h.elim⟩
/-- A block that is seen when all was hidden is new. -/
theorem acts_fresh {f : FuncId} {args : Array Value} {V : View} {o : Obj} (h : Acts prog f args (hideAll V) fun r V' => ∃ bk, r = .pointer (some ⟨bk, 0, none⟩) ∧ V'.blk bk o) :
    Acts prog f args V fun r V' => ∃ bk, r = .pointer (some ⟨bk, 0, none⟩) ∧ V.w.heap.size ≤ bk ∧ V'.blk bk o :=
  ⟨h.1, h.2.mono fun _ _ ⟨_, he, hx, bk, hr, hb⟩ => ⟨_, he, ⟨hx.size, fun b hb _ => hx.blk b hb (fun h => h), hx.os, hx.tape, hx.out⟩, bk, hr, Nat.le_of_not_lt hb.1, fun hh => hb.1 (V.hH bk hh), hb.2⟩⟩

theorem c_scene_New {V : View} {lp : Option Addr} {ln lc : Nat} (hc : ln ≤ lc) :
    Acts prog 6 #[.slice lp ln lc] V fun r V' => ∃ bk, r = .pointer (some ⟨bk, 0, none⟩) ∧ V.w.heap.size ≤ bk ∧ V'.blk bk (.cells #[.slice lp (min ln 400) lc, .int .i64 0] 73 (0, 0)) := by
  refine acts_fresh (vc_scene_New lp ln lc (hideAll V) _ ?_)
  have e : minI (ln : Int) 400 = ((min ln 400 : Nat) : Int) := by
    unfold minI
    simp only [Nat.min_def]
    split <;> split <;> omega
  rw [e, Int.toNat_natCast]
  have := Nat.min_le_left ln 400
  exact ⟨⟨by omega, by omega⟩, fun V1 l1 bk hb => ⟨bk, rfl, hb⟩⟩

theorem rt_le (k : Nat) (t : Tr) : rt k t ≤ k := by
  cases t with
  | leaf i => unfold rt; split <;> omega
  | node l a b => exact Int.le_refl _
theorem wr_kids : ∀ (t : Tr) (k : Nat), ∀ d ∈ wr k t, d.left ≤ k + t.size ∧ d.right ≤ k + t.size
  | .leaf _, k, d, h => by simp [wr] at h
  | .node l a b, k, d, h => by
    have r1 := rt_le (k + 1) a
    have r2 := rt_le (k + 1 + a.size) b
    simp only [wr, List.mem_cons, List.mem_append] at h
    simp only [Tr.size]
    rcases h with rfl | h | h
    · dsimp only; omega
    · have := wr_kids a _ d h; omega
    · have := wr_kids b _ d h; omega
theorem rt_neg {t : Tr} (h : wr 0 t = []) : rt 0 t < 0 := by
  cases t with
  | leaf i => cases i <;> decide
  | node l a b => simp [wr] at h
theorem okb_okL {t : Tr} (h : t.All Okb) : t.All fun x => okL x = true := Tr.All.imp (fun _ h => h.1) h
theorem okb_bd {t : Tr} (h : t.All Okb) : t.All Bd := Tr.All.imp (fun _ h => h.2) h

/-- A written tree, its nodes in another order. -/
theorem c_Shuf {V : View} {v : Value} {t : Tr} (h : AT V v (rt 0 t) (wr 0 t)) (ha : t.All Okb) (hs : t.size ≤ 60000) (by_ : Int) :
    Acts prog 9 #[v, .int .i64 by_] V fun r V' => ∃ root l', AT V' r root l' ∧ ofT l' root = some t ∧ ∀ x ∈ l', Bd x.ln := by
  have hl := wr_length t 0
  refine (c_Shuffled h (by omega) (by have := rt_le 0 t; omega) (fun d hd => by have := wr_kids t 0 d hd; omega) rt_neg by_).mono ?_
  rintro r V' l ⟨b, l', h1, h2, h3, h4⟩
  rw [hl] at h1 h2 h3
  refine ⟨_, l', h1, ofT_mv (okb_okL ha) (by omega) h2 h3, fun x hx => ?_⟩
  obtain ⟨d, hd, e⟩ := h4 x hx
  rw [e]
  exact lines_wr (okb_bd ha) d hd

theorem c_law14_TreeOrders {V : View} {y z : Value} (hs : Snt V y z) {lp : Option Addr} {ln lc : Nat} (hr : Rdl V lp ln) (hc : ln ≤ lc) (by_ : Int) :
    Acts prog 3 #[.slice lp ln lc, .int .i64 by_] V fun r V' => r = .bool true := by
  refine vc_law14_TreeOrders lp ln lc by_ V _ fun V1 l1 => (c_scene_New hc).mono ?_
  rintro r V2 l2 ⟨bk1, rfl, hfr, hb⟩
  refine ⟨bk1, _, _, _, _, rfl, hfr, hb, fun V3 l3 bk4 e4 h4 => ?_⟩
  have l13 : V1.Le V3 := fun b o h => l3 b o ⟨fun hh => hh.elim (l2 b o h).1 fun e => by
    have hlt : b < V1.w.heap.size := by
      rcases Nat.lt_or_ge b V1.w.heap.size with h' | h'
      · exact h'
      · have := h.2; rw [Array.getElem?_eq_none h'] at this; cases this
    have := e.1
    omega, (l2 b o h).2⟩
  have hmin : min ln 400 ≤ 400 := Nat.min_le_right _ _
  have hr : Rdl V lp (min ln 400) := fun i hi => hr i (Nat.lt_of_lt_of_le hi (Nat.min_le_left _ _))
  generalize min ln 400 = n at *
  have l03 : V.Le V3 := l1.trans l13
  refine (c_Tree 4 (V := V3.lend [bk4]) (by omega) (hr.le fun b o h => l03 b o h) hmin e4 ⟨by simp, h4⟩ (Int.le_refl 0)).mono ?_
  rintro r V4 l4 ⟨qa, ta, at1, rfl, hqa, hta, hsa, t1, hw1⟩
  have l04 : V.Le V4 := fun b o h => l4 b o (l03 b o h)
  refine ⟨_, rfl, _, _, _, _, hw1, fun V5 l5 => (c_ref14_Write (RW.le (V := V4) (V' := V5) (fun b o h => l5 b o h) hqa) hta (by omega)).mono ?_⟩
  rintro r V6 l6 hA
  have hA0 := hA
  obtain ⟨pa, na, ca, rfl, -⟩ := hA
  have l06 : V.Le V6 := fun b o h => l6 b o (l5 b o (l04 b o h))
  refine ⟨_, _, _, _, rfl, fun V7 l7 bk10 e7 h7 => (c_Tree 4 (V := V7.lend [bk10]) (by omega) (hr.le fun b o h => l7 b o (l06 b o h)) hmin e7 ⟨by simp, h7⟩ t1).mono ?_⟩
  rintro r V8 l8 ⟨qb, tb', at2, rfl, hqb, htb, hsb, t2, hw2⟩
  have l68 : V6.Le V8 := fun b o h => l8 b o (l7 b o h)
  refine ⟨_, rfl, _, _, _, _, hw2, fun V9 l9 => (c_ref14_Write (RW.le (V := V8) (V' := V9) (fun b o h => l9 b o h) hqb) htb (by omega)).mono ?_⟩
  rintro r V10 l10 hB
  have hB0 := hB
  obtain ⟨pb, nb, cb, rfl, -⟩ := hB
  have l6_10 : V6.Le V10 := fun b o h => l10 b o (l9 b o (l68 b o h))
  refine ⟨_, _, _, _, rfl, fun V11 l11 => (c_Shuf (hA0.le (l6_10.trans l11)) hta (by omega) by_).mono ?_⟩
  rintro r V12 l12 ⟨root, l', hS, hof, hbd⟩
  have hS0 := hS
  obtain ⟨ps, ns, cs, rfl, -⟩ := hS
  have l0_12 : V.Le V12 := l06.trans (l6_10.trans (l11.trans l12))
  refine ⟨_, _, _, _, rfl, fun V13 l13 => (c_tree_Order (hS0.le l13) hbd (hs.inv.le (l0_12.trans l13))).mono ?_⟩
  rintro r V14 l14 ⟨o, e, rfl, -, hO⟩
  obtain ⟨hO1, he⟩ := hO ta hof
  clear hO
  subst he
  have hO0 := hO1
  obtain ⟨po, no, co, rfl, -⟩ := hO1
  refine ⟨_, _, _, _, _, rfl, fun V15 l15 => (c_known (hs.le (l0_12.trans (l13.trans (l14.trans l15))))).mono ?_⟩
  rintro r V16 l16 rfl
  have l12_16 : V12.Le V16 := l13.trans (l14.trans (l15.trans l16))
  have l6_16 : V6.Le V16 := l6_10.trans (l11.trans (l12.trans l12_16))
  have hla := wr_length ta 0
  have hba : ∀ x ∈ wr 0 ta, Bd x.ln := lines_wr (okb_bd hta)
  have hbb : ∀ x ∈ wr 0 tb', Bd x.ln := lines_wr (okb_bd htb)
  have hoa : ofT (wr 0 ta) (rt 0 ta) = some ta := ofT_wr (okb_okL hta) (by omega)
  have hob : ofT (wr 0 tb') (rt 0 tb') = some tb' := ofT_wr (okb_okL htb) (by omega)
  refine ⟨_, rfl, fun _ => ⟨nilI.1, fun _ V17 l17 => (c_ref14_Same (hO0.le (l15.trans (l16.trans l17))) (hA0.le (l6_16.trans l17)) hba (by omega)).mono ?_, (fun h => by rw [nilI.2] at h; cases h)⟩, (fun h => by cases h)⟩
  rintro r V18 l18 rfl
  rw [decide_eq_true ⟨rfl, rfl⟩]
  refine ⟨_, rfl, fun _ V19 l19 => (c_tree_Same (hS0.le (l12_16.trans (l17.trans (l18.trans l19)))) (hA0.le (l6_16.trans (l17.trans (l18.trans l19)))) hbd hba).mono ?_, (fun h => by cases h)⟩
  rintro r V20 l20 rfl
  rw [hof, hoa]
  dsimp only
  rw [decide_eq_true rfl]
  have l16_20 : V16.Le V20 := l17.trans (l18.trans (l19.trans l20))
  refine ⟨_, rfl, fun _ V21 l21 => (c_tree_Same (hS0.le (l12_16.trans (l16_20.trans l21))) (hB0.le (l11.trans (l12.trans (l12_16.trans (l16_20.trans l21))))) hbd hbb).mono ?_, (fun h => by cases h)⟩
  rintro r V22 l22 rfl
  rw [hof, hob]
  refine ⟨_, rfl, fun V23 l23 => (c_ref14_Same (hA0.le (l6_16.trans (l16_20.trans (l21.trans (l22.trans l23))))) (hB0.le (l11.trans (l12.trans (l12_16.trans (l16_20.trans (l21.trans (l22.trans l23))))))) hba (by omega)).mono ?_⟩
  rintro r V24 l24 rfl
  have he : decide (rt 0 ta = rt 0 tb' ∧ wr 0 ta = wr 0 tb') = decide (ta = tb') := by rw [decide_eq_decide]; exact wr_eq_iff
  rw [he]
  refine ⟨_, rfl, fun _ V25 l25 => (c_tree_Valid hbd (hS0.le (l12_16.trans (l16_20.trans (l21.trans (l22.trans (l23.trans (l24.trans l25)))))))).mono ?_, fun h => by dsimp only at h; rw [beq_self_eq_true] at h; cases h⟩
  rintro r V26 l26 rfl
  rw [hof]
  exact ⟨_, rfl, fun V27 l27 => rfl⟩
end Go.Proofs.Tryz
