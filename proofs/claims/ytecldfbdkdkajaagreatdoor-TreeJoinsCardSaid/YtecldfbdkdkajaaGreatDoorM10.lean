/- A part of the proof (joined by program from: NumG, VNumQ, VInt, IntA, VFrac, FracA). -/
import Derived.Test.YtecldfbdkdkajaaGreatDoorM9
import Derived.Test.YtecldfbdkdkajaaGreatDoorM5
set_option linter.unusedVariables false
/- Contracts of the reference's numbers: Common. -/
namespace Go.Proofs.Tryz
open Go.Eng Go.Big

theorem c_num_Common {V : View} {p q : Option Addr} {n c m e : Nat} {x y : Nat} (hx : RN V p n c x) (hy : RN V q m e y) (hm : (digs x).length ≤ 274877906944) (hm' : (digs y).length ≤ 274877906944) :
    Acts prog 62 #[.slice p n c, .slice q m e] V fun r V' => ∃ p1 n1 c1, r = .slice p1 n1 c1 ∧ RN V' p1 n1 c1 (Nat.gcd x y) := by
  have hlx := hx.len
  have hly := hy.len
  refine vc_num_Common p n c q m e V _ fun V1 l1 => (c_num_word (hx.le l1) (by omega)).mono ?_
  rintro r V2 l2 rfl
  rw [val_digs]
  refine ⟨_, _, rfl, fun z V' => True, ⟨fun h0 => ?_, fun h0 => ⟨(), by (try dsimp only); and_intros <;> first | exact True.intro | rfl, trivial⟩⟩, ?_⟩
  · have h0 : n ≤ 2 := by simpa using h0
    refine fun V3 l3 => (c_num_word (hy.le (l1.trans (l2.trans l3))) (by omega)).mono ?_
    rintro r V4 l4 rfl
    rw [val_digs]
    refine ⟨_, _, rfl, fun h1 => ?_, fun h1 => ⟨(), by (try dsimp only); and_intros <;> first | exact True.intro | rfl, trivial⟩⟩
    have h1 : m ≤ 2 := by simpa using h1
    have hxw := word_val (x := x) (by omega)
    have hyw := word_val (x := y) (by omega)
    rw [if_pos h0, if_pos h1]
    refine ⟨fun z V' => ∃ a b : Nat, z = ((a : Int), (b : Int)) ∧ a < 18446744073709551616 ∧ b < 18446744073709551616 ∧ Nat.gcd a b = Nat.gcd x y, fun z => z.2.toNat,
      ⟨((x : Int), (y : Int)), by (try dsimp only); and_intros <;> first | exact True.intro | rfl, x, y, rfl, hxw, hyw, rfl⟩, ?_⟩
    rintro _ V5 l5 ⟨a, b, rfl, ha, hb, hg⟩
    dsimp only
    refine ⟨by trivial, fun h3 => ?_, fun h3 => ?_⟩
    · have h3 : 0 < b := by simpa using h3
      have e2 : (a : Int).tmod (b : Int) = ((a % b : Nat) : Int) := by rw [Int.tmod_eq_emod_of_nonneg (by omega)]; omega
      have hr : a % b < b := Nat.mod_lt _ h3
      refine ⟨by omega, ((b : Int), ((a % b : Nat) : Int)), ?_, by (try dsimp only); and_intros <;> first | exact True.intro | rfl | exact e2, b, a % b, rfl, hb, by omega, ?_⟩
      · (try dsimp only); simp only [Int.toNat_natCast]; exact hr
      · rw [← hg, Nat.gcd_comm a b, Nat.gcd_rec b a, Nat.gcd_comm]
    · have h3 : b = 0 := by simp at h3; omega
      subst h3
      rw [Nat.gcd_zero_right] at hg
      refine fun V6 l6 => (c_num_Word a ha).mono ?_
      rintro r V7 l7 ⟨p1, n1, c1, rfl, g1⟩
      rw [hg] at g1
      exact ⟨_, _, _, rfl, fun V8 l8 => ⟨_, _, _, rfl, g1.le l8⟩⟩
  rintro _ V9 l9 _
  replace hx := hx.le (l1.trans (l2.trans l9))
  replace hy := hy.le (l1.trans (l2.trans l9))
  refine ⟨by trivial, fun z k V' => ∃ a b : Nat, RN V' z.1 z.2.1 z.2.2.1 a ∧ RN V' z.2.2.2.1 z.2.2.2.2.1 z.2.2.2.2.2 b ∧ b = k ∧ (digs a).length ≤ 274877906944 ∧ (digs b).length ≤ 274877906944 ∧ Nat.gcd a b = Nat.gcd x y,
    ⟨(p, n, c, q, m, e), y, by (try dsimp only); and_intros <;> first | exact True.intro | rfl, x, y, hx, hy, rfl, hm, hm', rfl⟩, ?_⟩
  rintro ⟨ap, an, ac, bp, bn, bc⟩ _ V10 l10 ⟨a, b, ha, hb, rfl, hal, hbl, hg⟩
  dsimp only at ha hb ⊢
  have hla := ha.len
  have hlb := hb.len
  refine ⟨by trivial, fun h3 => ?_, fun h3 => ?_⟩
  · have h3 : 0 < bn := by simpa using h3
    have hb0 : 0 < b := by
      rcases Nat.eq_zero_or_pos b with h | h
      · subst h; simp at hlb; omega
      · exact h
    refine fun V11 l11 => (c_num_Divide (ha.le l11) (hb.le l11) hal hbl hb0).mono ?_
    rintro r V12 l12 ⟨p1, n1, c1, p2, n2, c2, rfl, g1, g2⟩
    have hr : a % b < b := Nat.mod_lt _ hb0
    have hrl := digs_len_mono (Nat.le_of_lt hr)
    refine ⟨_, _, _, _, _, _, rfl, (bp, bn, bc, p2, n2, c2), a % b, hr, by (try dsimp only); and_intros <;> first | exact True.intro | rfl, b, a % b, hb.le (l11.trans l12), g2, rfl, hbl, by omega, ?_⟩
    rw [← hg, Nat.gcd_comm a b, Nat.gcd_rec b a, Nat.gcd_comm]
  · have h3 : bn = 0 := by simp at h3; omega
    have hb0 : b = 0 := digs_eq_nil.1 (List.length_eq_zero_iff.1 (by omega))
    subst hb0
    rw [Nat.gcd_zero_right] at hg
    rw [← hg]
    refine ⟨u32s (digs a), ha.sl, by simp [hla], by omega, by omega, by simp, by simp [hla], ?_, ?_⟩
    · intro v hv
      simp only [u32s, List.mem_map] at hv
      obtain ⟨d, -, rfl⟩ := hv
      rfl
    · intro bk J sp c' h1 h2 V1 l1 b hb
      refine ⟨_, _, _, rfl, ?_⟩
      simp only [Nat.zero_add, Nat.zero_mul, List.take_zero, List.nil_append] at hb h1 ⊢
      exact copied (dig_digs a) hla h1 hb
end Go.Proofs.Tryz
/- By program: the conditions of the functions, from their loaded code. -/
namespace Go.Proofs.Tryz
open Go.Eng
set_option maxRecDepth 100000

theorem vc_num_Make (neg : Bool) (mp : Option Addr) (mn mc : Nat) (V : View) (R : Value → View → Prop)
    (h : ((neg = true → (∀ V1 : View, V.Le V1 → R (.agg #[.bool (decide (((mn : Nat) : Int) > (0 : Int))), .slice mp mn mc]) V1)) ∧ (neg = false → (∀ V2 : View, V.Le V2 → R (.agg #[.bool false, .slice mp mn mc]) V2)))) :
    Acts prog 37 #[.bool neg, .slice mp mn mc] V R :=
  fn_does (LF := [8, 20, 25, 46, 48, 52, 93, 24, 1000024]) (RF := [1000006]) (β0 := (fun _ => 0)) tab_ok mixed [] [] func37 (by kernel_rfl)
    [(0, .c (.v (.bool neg))), (1, .c (.v (.slice mp mn mc)))]
    [] (by kernel_rfl) trivial h (by kernel_rfl)

theorem vc_num_Int (n : Int) (V : View) (R : Value → View → Prop)
    (h : (((decide (n < (0 : Int))) = true → (∀ V1 : View, V.Le V1 → Acts prog 59 #[.int .u64 (IntKind.u64.wrap (0 - (IntKind.u64.wrap n)))] V1 fun r1_ V2 => ∃ (p1_ : Option Addr) (n1_ c1_ : Nat), r1_ = .slice p1_ n1_ c1_ ∧ (∀ V3 : View, V2.Le V3 → Acts prog 37 #[.bool true, .slice p1_ n1_ c1_] V3 fun r3_ V4 => ∃ b2_ : Bool, ∃ (p3_ : Option Addr) (n3_ c3_ : Nat), r3_ = .agg #[.bool b2_, .slice p3_ n3_ c3_] ∧ (∀ V5 : View, V4.Le V5 → R (.agg #[.bool b2_, .slice p3_ n3_ c3_]) V5)))) ∧ ((decide (n < (0 : Int))) = false → (∀ V6 : View, V.Le V6 → Acts prog 59 #[.int .u64 (IntKind.u64.wrap n)] V6 fun r6_ V7 => ∃ (p4_ : Option Addr) (n4_ c4_ : Nat), r6_ = .slice p4_ n4_ c4_ ∧ (∀ V8 : View, V7.Le V8 → Acts prog 37 #[.bool false, .slice p4_ n4_ c4_] V8 fun r8_ V9 => ∃ b5_ : Bool, ∃ (p6_ : Option Addr) (n6_ c6_ : Nat), r8_ = .agg #[.bool b5_, .slice p6_ n6_ c6_] ∧ (∀ V10 : View, V9.Le V10 → R (.agg #[.bool b5_, .slice p6_ n6_ c6_]) V10)))))) :
    Acts prog 64 #[.int .i64 n] V R :=
  fn_does (LF := [8, 20, 25, 46, 48, 52, 93, 24, 1000024]) (RF := [1000006]) (β0 := (fun _ => 0)) tab_ok mixed [] [] func64 (by kernel_rfl)
    [(0, .c (.v (.int .i64 n)))]
    [] (by kernel_rfl) trivial h (by kernel_rfl)

theorem vc_num_Sign (a0 : Bool) (a1p : Option Addr) (a1n a1c : Nat) (V : View) (R : Value → View → Prop)
    (h : (((((a1n : Nat) : Int) == (0 : Int)) = true → (∀ V1 : View, V.Le V1 → R (.int .i64 0) V1)) ∧ ((((a1n : Nat) : Int) == (0 : Int)) = false → ((a0 = true → (∀ V2 : View, V.Le V2 → R (.int .i64 (-1)) V2)) ∧ (a0 = false → (∀ V3 : View, V.Le V3 → R (.int .i64 1) V3)))))) :
    Acts prog 123 #[.agg #[.bool a0, .slice a1p a1n a1c]] V R :=
  fn_does (LF := [8, 20, 25, 46, 48, 52, 93, 24, 1000024]) (RF := [1000006]) (β0 := (fun _ => 0)) tab_ok mixed [] [] func123 (by kernel_rfl)
    [(0, .agg [.v (.bool a0), .v (.slice a1p a1n a1c)])]
    [] (by kernel_rfl) trivial h (by kernel_rfl)

theorem vc_num_Minus (a0 : Bool) (a1p : Option Addr) (a1n a1c : Nat) (V : View) (R : Value → View → Prop)
    (h : (∀ V1 : View, V.Le V1 → Acts prog 37 #[.bool (!a0), .slice a1p a1n a1c] V1 fun r1_ V2 => ∃ b1_ : Bool, ∃ (p2_ : Option Addr) (n2_ c2_ : Nat), r1_ = .agg #[.bool b1_, .slice p2_ n2_ c2_] ∧ (∀ V3 : View, V2.Le V3 → R (.agg #[.bool b1_, .slice p2_ n2_ c2_]) V3))) :
    Acts prog 55 #[.agg #[.bool a0, .slice a1p a1n a1c]] V R :=
  fn_does (LF := [8, 20, 25, 46, 48, 52, 93, 24, 1000024]) (RF := [1000006]) (β0 := (fun _ => 0)) tab_ok mixed [] [] func55 (by kernel_rfl)
    [(0, .agg [.v (.bool a0), .v (.slice a1p a1n a1c)])]
    [] (by kernel_rfl) trivial h (by kernel_rfl)

theorem vc_num_Add (a0 : Bool) (a1p : Option Addr) (a1n a1c : Nat) (b0 : Bool) (b1p : Option Addr) (b1n b1c : Nat) (V : View) (R : Value → View → Prop)
    (h : (((a0 == b0) = true → (∀ V1 : View, V.Le V1 → Acts prog 78 #[.slice a1p a1n a1c, .slice b1p b1n b1c] V1 fun r1_ V2 => ∃ (p1_ : Option Addr) (n1_ c1_ : Nat), r1_ = .slice p1_ n1_ c1_ ∧ (∀ V3 : View, V2.Le V3 → Acts prog 37 #[.bool a0, .slice p1_ n1_ c1_] V3 fun r3_ V4 => ∃ b2_ : Bool, ∃ (p3_ : Option Addr) (n3_ c3_ : Nat), r3_ = .agg #[.bool b2_, .slice p3_ n3_ c3_] ∧ (∀ V5 : View, V4.Le V5 → R (.agg #[.bool b2_, .slice p3_ n3_ c3_]) V5)))) ∧ ((a0 == b0) = false → (∀ V6 : View, V.Le V6 → Acts prog 79 #[.slice a1p a1n a1c, .slice b1p b1n b1c] V6 fun r6_ V7 => ∃ x4_ : Int, r6_ = .int .i64 x4_ ∧ (((decide (x4_ < (0 : Int))) = true → (∀ V8 : View, V7.Le V8 → Acts prog 80 #[.slice b1p b1n b1c, .slice a1p a1n a1c] V8 fun r8_ V9 => ∃ (p5_ : Option Addr) (n5_ c5_ : Nat), r8_ = .slice p5_ n5_ c5_ ∧ (∀ V10 : View, V9.Le V10 → Acts prog 37 #[.bool b0, .slice p5_ n5_ c5_] V10 fun r10_ V11 => ∃ b6_ : Bool, ∃ (p7_ : Option Addr) (n7_ c7_ : Nat), r10_ = .agg #[.bool b6_, .slice p7_ n7_ c7_] ∧ (∀ V12 : View, V11.Le V12 → R (.agg #[.bool b6_, .slice p7_ n7_ c7_]) V12)))) ∧ ((decide (x4_ < (0 : Int))) = false → (∀ V13 : View, V7.Le V13 → Acts prog 80 #[.slice a1p a1n a1c, .slice b1p b1n b1c] V13 fun r13_ V14 => ∃ (p8_ : Option Addr) (n8_ c8_ : Nat), r13_ = .slice p8_ n8_ c8_ ∧ (∀ V15 : View, V14.Le V15 → Acts prog 37 #[.bool a0, .slice p8_ n8_ c8_] V15 fun r15_ V16 => ∃ b9_ : Bool, ∃ (p10_ : Option Addr) (n10_ c10_ : Nat), r15_ = .agg #[.bool b9_, .slice p10_ n10_ c10_] ∧ (∀ V17 : View, V16.Le V17 → R (.agg #[.bool b9_, .slice p10_ n10_ c10_]) V17))))))))) :
    Acts prog 56 #[.agg #[.bool a0, .slice a1p a1n a1c], .agg #[.bool b0, .slice b1p b1n b1c]] V R :=
  fn_does (LF := [8, 20, 25, 46, 48, 52, 93, 24, 1000024]) (RF := [1000006]) (β0 := (fun _ => 0)) tab_ok mixed [] [] func56 (by kernel_rfl)
    [(0, .agg [.v (.bool a0), .v (.slice a1p a1n a1c)]), (1, .agg [.v (.bool b0), .v (.slice b1p b1n b1c)])]
    [] (by kernel_rfl) trivial h (by kernel_rfl)

theorem vc_num_Mul (a0 : Bool) (a1p : Option Addr) (a1n a1c : Nat) (b0 : Bool) (b1p : Option Addr) (b1n b1c : Nat) (V : View) (R : Value → View → Prop)
    (h : (∀ V1 : View, V.Le V1 → Acts prog 35 #[.slice a1p a1n a1c, .slice b1p b1n b1c] V1 fun r1_ V2 => ∃ (p1_ : Option Addr) (n1_ c1_ : Nat), r1_ = .slice p1_ n1_ c1_ ∧ (∀ V3 : View, V2.Le V3 → Acts prog 37 #[.bool (!(a0 == b0)), .slice p1_ n1_ c1_] V3 fun r3_ V4 => ∃ b2_ : Bool, ∃ (p3_ : Option Addr) (n3_ c3_ : Nat), r3_ = .agg #[.bool b2_, .slice p3_ n3_ c3_] ∧ (∀ V5 : View, V4.Le V5 → R (.agg #[.bool b2_, .slice p3_ n3_ c3_]) V5)))) :
    Acts prog 58 #[.agg #[.bool a0, .slice a1p a1n a1c], .agg #[.bool b0, .slice b1p b1n b1c]] V R :=
  fn_does (LF := [8, 20, 25, 46, 48, 52, 93, 24, 1000024]) (RF := [1000006]) (β0 := (fun _ => 0)) tab_ok mixed [] [] func58 (by kernel_rfl)
    [(0, .agg [.v (.bool a0), .v (.slice a1p a1n a1c)]), (1, .agg [.v (.bool b0), .v (.slice b1p b1n b1c)])]
    [] (by kernel_rfl) trivial h (by kernel_rfl)

theorem vc_num_Den (a0 : Bool) (a1p : Option Addr) (a1n a1c : Nat) (a2p : Option Addr) (a2n a2c : Nat) (V : View) (R : Value → View → Prop)
    (h : (((((a2n : Nat) : Int) == (0 : Int)) = true → (∀ V1 : View, V.Le V1 → Acts prog 61 #[] V1 fun r1_ V2 => ∃ (p1_ : Option Addr) (n1_ c1_ : Nat), r1_ = .slice p1_ n1_ c1_ ∧ (∀ V3 : View, V2.Le V3 → R (.slice p1_ n1_ c1_) V3))) ∧ ((((a2n : Nat) : Int) == (0 : Int)) = false → (∀ V4 : View, V.Le V4 → R (.slice a2p a2n a2c) V4)))) :
    Acts prog 36 #[.agg #[.bool a0, .slice a1p a1n a1c, .slice a2p a2n a2c]] V R :=
  fn_does (LF := [8, 20, 25, 46, 48, 52, 93, 24, 1000024]) (RF := [1000006]) (β0 := (fun _ => 0)) tab_ok mixed [] [] func36 (by kernel_rfl)
    [(0, .agg [.v (.bool a0), .v (.slice a1p a1n a1c), .v (.slice a2p a2n a2c)])]
    [] (by kernel_rfl) trivial h (by kernel_rfl)

theorem vc_num_Frac (x0 : Bool) (x1p : Option Addr) (x1n x1c : Nat) (dp : Option Addr) (dn dc : Nat) (V : View) (R : Value → View → Prop)
    (h : (∀ V1 : View, V.Le V1 → Acts prog 62 #[.slice x1p x1n x1c, .slice dp dn dc] V1 fun r1_ V2 => ∃ (p1_ : Option Addr) (n1_ c1_ : Nat), r1_ = .slice p1_ n1_ c1_ ∧ (∀ V3 : View, V2.Le V3 → Acts prog 61 #[] V3 fun r3_ V4 => ∃ (p2_ : Option Addr) (n2_ c2_ : Nat), r3_ = .slice p2_ n2_ c2_ ∧ (∀ V5 : View, V4.Le V5 → Acts prog 79 #[.slice p1_ n1_ c1_, .slice p2_ n2_ c2_] V5 fun r5_ V6 => ∃ x3_ : Int, r5_ = .int .i64 x3_ ∧ (((x3_ != (0 : Int)) = true → (∀ V7 : View, V6.Le V7 → Acts prog 63 #[.slice x1p x1n x1c, .slice p1_ n1_ c1_] V7 fun r7_ V8 => ∃ (p4_ : Option Addr) (n4_ c4_ : Nat), ∃ (p5_ : Option Addr) (n5_ c5_ : Nat), r7_ = .tuple #[.slice p4_ n4_ c4_, .slice p5_ n5_ c5_] ∧ (∀ V9 : View, V8.Le V9 → Acts prog 37 #[.bool x0, .slice p4_ n4_ c4_] V9 fun r9_ V10 => ∃ b6_ : Bool, ∃ (p7_ : Option Addr) (n7_ c7_ : Nat), r9_ = .agg #[.bool b6_, .slice p7_ n7_ c7_] ∧ (∀ V11 : View, V10.Le V11 → Acts prog 63 #[.slice dp dn dc, .slice p1_ n1_ c1_] V11 fun r11_ V12 => ∃ (p8_ : Option Addr) (n8_ c8_ : Nat), ∃ (p9_ : Option Addr) (n9_ c9_ : Nat), r11_ = .tuple #[.slice p8_ n8_ c8_, .slice p9_ n9_ c9_] ∧ (∀ V13 : View, V12.Le V13 → Acts prog 61 #[] V13 fun r13_ V14 => ∃ (p10_ : Option Addr) (n10_ c10_ : Nat), r13_ = .slice p10_ n10_ c10_ ∧ (∀ V15 : View, V14.Le V15 → Acts prog 79 #[.slice p8_ n8_ c8_, .slice p10_ n10_ c10_] V15 fun r15_ V16 => ∃ x11_ : Int, r15_ = .int .i64 x11_ ∧ (((x11_ == (0 : Int)) = true → (∀ V17 : View, V16.Le V17 → R (.agg #[.bool b6_, .slice p7_ n7_ c7_, .slice none 0 0]) V17)) ∧ ((x11_ == (0 : Int)) = false → (∀ V18 : View, V16.Le V18 → R (.agg #[.bool b6_, .slice p7_ n7_ c7_, .slice p8_ n8_ c8_]) V18))))))))) ∧ ((x3_ != (0 : Int)) = false → (∀ V19 : View, V6.Le V19 → Acts prog 61 #[] V19 fun r19_ V20 => ∃ (p12_ : Option Addr) (n12_ c12_ : Nat), r19_ = .slice p12_ n12_ c12_ ∧ (∀ V21 : View, V20.Le V21 → Acts prog 79 #[.slice dp dn dc, .slice p12_ n12_ c12_] V21 fun r21_ V22 => ∃ x13_ : Int, r21_ = .int .i64 x13_ ∧ (((x13_ == (0 : Int)) = true → (∀ V23 : View, V22.Le V23 → R (.agg #[.bool x0, .slice x1p x1n x1c, .slice none 0 0]) V23)) ∧ ((x13_ == (0 : Int)) = false → (∀ V24 : View, V22.Le V24 → R (.agg #[.bool x0, .slice x1p x1n x1c, .slice dp dn dc]) V24))))))))))) :
    Acts prog 57 #[.agg #[.bool x0, .slice x1p x1n x1c], .slice dp dn dc] V R :=
  fn_does (LF := [8, 20, 25, 46, 48, 52, 93, 24, 1000024]) (RF := [1000006]) (β0 := (fun _ => 0)) tab_ok mixed [] [] func57 (by kernel_rfl)
    [(0, .agg [.v (.bool x0), .v (.slice x1p x1n x1c)]), (1, .c (.v (.slice dp dn dc)))]
    [] (by kernel_rfl) trivial h (by kernel_rfl)

theorem vc_num_Of (n : Int) (V : View) (R : Value → View → Prop)
    (h : (∀ V1 : View, V.Le V1 → Acts prog 64 #[.int .i64 n] V1 fun r1_ V2 => ∃ b1_ : Bool, ∃ (p2_ : Option Addr) (n2_ c2_ : Nat), r1_ = .agg #[.bool b1_, .slice p2_ n2_ c2_] ∧ (∀ V3 : View, V2.Le V3 → R (.agg #[.bool b1_, .slice p2_ n2_ c2_, .slice none 0 0]) V3))) :
    Acts prog 39 #[.int .i64 n] V R :=
  fn_does (LF := [8, 20, 25, 46, 48, 52, 93, 24, 1000024]) (RF := [1000006]) (β0 := (fun _ => 0)) tab_ok mixed [] [] func39 (by kernel_rfl)
    [(0, .c (.v (.int .i64 n)))]
    [] (by kernel_rfl) trivial h (by kernel_rfl)

theorem vc_num_S (a0 : Bool) (a1p : Option Addr) (a1n a1c : Nat) (a2p : Option Addr) (a2n a2c : Nat) (V : View) (R : Value → View → Prop)
    (h : (∀ V1 : View, V.Le V1 → Acts prog 123 #[.agg #[.bool a0, .slice a1p a1n a1c]] V1 fun r1_ V2 => ∃ x1_ : Int, r1_ = .int .i64 x1_ ∧ (∀ V3 : View, V2.Le V3 → R (.int .i64 x1_) V3))) :
    Acts prog 114 #[.agg #[.bool a0, .slice a1p a1n a1c, .slice a2p a2n a2c]] V R :=
  fn_does (LF := [8, 20, 25, 46, 48, 52, 93, 24, 1000024]) (RF := [1000006]) (β0 := (fun _ => 0)) tab_ok mixed [] [] func114 (by kernel_rfl)
    [(0, .agg [.v (.bool a0), .v (.slice a1p a1n a1c), .v (.slice a2p a2n a2c)])]
    [] (by kernel_rfl) trivial h (by kernel_rfl)

theorem vc_num_Opp (a0 : Bool) (a1p : Option Addr) (a1n a1c : Nat) (a2p : Option Addr) (a2n a2c : Nat) (V : View) (R : Value → View → Prop)
    (h : (∀ V1 : View, V.Le V1 → Acts prog 55 #[.agg #[.bool a0, .slice a1p a1n a1c]] V1 fun r1_ V2 => ∃ b1_ : Bool, ∃ (p2_ : Option Addr) (n2_ c2_ : Nat), r1_ = .agg #[.bool b1_, .slice p2_ n2_ c2_] ∧ (∀ V3 : View, V2.Le V3 → R (.agg #[.bool b1_, .slice p2_ n2_ c2_, .slice a2p a2n a2c]) V3))) :
    Acts prog 32 #[.agg #[.bool a0, .slice a1p a1n a1c, .slice a2p a2n a2c]] V R :=
  fn_does (LF := [8, 20, 25, 46, 48, 52, 93, 24, 1000024]) (RF := [1000006]) (β0 := (fun _ => 0)) tab_ok mixed [] [] func32 (by kernel_rfl)
    [(0, .agg [.v (.bool a0), .v (.slice a1p a1n a1c), .v (.slice a2p a2n a2c)])]
    [] (by kernel_rfl) trivial h (by kernel_rfl)

theorem vc_num_Plus (a0 : Bool) (a1p : Option Addr) (a1n a1c : Nat) (a2p : Option Addr) (a2n a2c : Nat) (b0 : Bool) (b1p : Option Addr) (b1n b1c : Nat) (b2p : Option Addr) (b2n b2c : Nat) (V : View) (R : Value → View → Prop)
    (h : (((((a2n : Nat) : Int) == (0 : Int)) = true → (((((b2n : Nat) : Int) == (0 : Int)) = true → (∀ V1 : View, V.Le V1 → Acts prog 56 #[.agg #[.bool a0, .slice a1p a1n a1c], .agg #[.bool b0, .slice b1p b1n b1c]] V1 fun r1_ V2 => ∃ b1_ : Bool, ∃ (p2_ : Option Addr) (n2_ c2_ : Nat), r1_ = .agg #[.bool b1_, .slice p2_ n2_ c2_] ∧ (∀ V3 : View, V2.Le V3 → R (.agg #[.bool b1_, .slice p2_ n2_ c2_, .slice none 0 0]) V3))) ∧ ((((b2n : Nat) : Int) == (0 : Int)) = false → (∀ V4 : View, V.Le V4 → Acts prog 36 #[.agg #[.bool b0, .slice b1p b1n b1c, .slice b2p b2n b2c]] V4 fun r4_ V5 => ∃ (p3_ : Option Addr) (n3_ c3_ : Nat), r4_ = .slice p3_ n3_ c3_ ∧ (∀ V6 : View, V5.Le V6 → Acts prog 37 #[.bool false, .slice p3_ n3_ c3_] V6 fun r6_ V7 => ∃ b4_ : Bool, ∃ (p5_ : Option Addr) (n5_ c5_ : Nat), r6_ = .agg #[.bool b4_, .slice p5_ n5_ c5_] ∧ (∀ V8 : View, V7.Le V8 → Acts prog 58 #[.agg #[.bool a0, .slice a1p a1n a1c], .agg #[.bool b4_, .slice p5_ n5_ c5_]] V8 fun r8_ V9 => ∃ b6_ : Bool, ∃ (p7_ : Option Addr) (n7_ c7_ : Nat), r8_ = .agg #[.bool b6_, .slice p7_ n7_ c7_] ∧ (∀ V10 : View, V9.Le V10 → Acts prog 36 #[.agg #[.bool a0, .slice a1p a1n a1c, .slice a2p a2n a2c]] V10 fun r10_ V11 => ∃ (p8_ : Option Addr) (n8_ c8_ : Nat), r10_ = .slice p8_ n8_ c8_ ∧ (∀ V12 : View, V11.Le V12 → Acts prog 37 #[.bool false, .slice p8_ n8_ c8_] V12 fun r12_ V13 => ∃ b9_ : Bool, ∃ (p10_ : Option Addr) (n10_ c10_ : Nat), r12_ = .agg #[.bool b9_, .slice p10_ n10_ c10_] ∧ (∀ V14 : View, V13.Le V14 → Acts prog 58 #[.agg #[.bool b0, .slice b1p b1n b1c], .agg #[.bool b9_, .slice p10_ n10_ c10_]] V14 fun r14_ V15 => ∃ b11_ : Bool, ∃ (p12_ : Option Addr) (n12_ c12_ : Nat), r14_ = .agg #[.bool b11_, .slice p12_ n12_ c12_] ∧ (∀ V16 : View, V15.Le V16 → Acts prog 56 #[.agg #[.bool b6_, .slice p7_ n7_ c7_], .agg #[.bool b11_, .slice p12_ n12_ c12_]] V16 fun r16_ V17 => ∃ b13_ : Bool, ∃ (p14_ : Option Addr) (n14_ c14_ : Nat), r16_ = .agg #[.bool b13_, .slice p14_ n14_ c14_] ∧ (∀ V18 : View, V17.Le V18 → Acts prog 36 #[.agg #[.bool a0, .slice a1p a1n a1c, .slice a2p a2n a2c]] V18 fun r18_ V19 => ∃ (p15_ : Option Addr) (n15_ c15_ : Nat), r18_ = .slice p15_ n15_ c15_ ∧ (∀ V20 : View, V19.Le V20 → Acts prog 36 #[.agg #[.bool b0, .slice b1p b1n b1c, .slice b2p b2n b2c]] V20 fun r20_ V21 => ∃ (p16_ : Option Addr) (n16_ c16_ : Nat), r20_ = .slice p16_ n16_ c16_ ∧ (∀ V22 : View, V21.Le V22 → Acts prog 35 #[.slice p15_ n15_ c15_, .slice p16_ n16_ c16_] V22 fun r22_ V23 => ∃ (p17_ : Option Addr) (n17_ c17_ : Nat), r22_ = .slice p17_ n17_ c17_ ∧ (∀ V24 : View, V23.Le V24 → Acts prog 57 #[.agg #[.bool b13_, .slice p14_ n14_ c14_], .slice p17_ n17_ c17_] V24 fun r24_ V25 => ∃ b18_ : Bool, ∃ (p19_ : Option Addr) (n19_ c19_ : Nat), ∃ (p20_ : Option Addr) (n20_ c20_ : Nat), r24_ = .agg #[.bool b18_, .slice p19_ n19_ c19_, .slice p20_ n20_ c20_] ∧ (∀ V26 : View, V25.Le V26 → R (.agg #[.bool b18_, .slice p19_ n19_ c19_, .slice p20_ n20_ c20_]) V26))))))))))))))) ∧ ((((a2n : Nat) : Int) == (0 : Int)) = false → (∀ V27 : View, V.Le V27 → Acts prog 36 #[.agg #[.bool b0, .slice b1p b1n b1c, .slice b2p b2n b2c]] V27 fun r27_ V28 => ∃ (p21_ : Option Addr) (n21_ c21_ : Nat), r27_ = .slice p21_ n21_ c21_ ∧ (∀ V29 : View, V28.Le V29 → Acts prog 37 #[.bool false, .slice p21_ n21_ c21_] V29 fun r29_ V30 => ∃ b22_ : Bool, ∃ (p23_ : Option Addr) (n23_ c23_ : Nat), r29_ = .agg #[.bool b22_, .slice p23_ n23_ c23_] ∧ (∀ V31 : View, V30.Le V31 → Acts prog 58 #[.agg #[.bool a0, .slice a1p a1n a1c], .agg #[.bool b22_, .slice p23_ n23_ c23_]] V31 fun r31_ V32 => ∃ b24_ : Bool, ∃ (p25_ : Option Addr) (n25_ c25_ : Nat), r31_ = .agg #[.bool b24_, .slice p25_ n25_ c25_] ∧ (∀ V33 : View, V32.Le V33 → Acts prog 36 #[.agg #[.bool a0, .slice a1p a1n a1c, .slice a2p a2n a2c]] V33 fun r33_ V34 => ∃ (p26_ : Option Addr) (n26_ c26_ : Nat), r33_ = .slice p26_ n26_ c26_ ∧ (∀ V35 : View, V34.Le V35 → Acts prog 37 #[.bool false, .slice p26_ n26_ c26_] V35 fun r35_ V36 => ∃ b27_ : Bool, ∃ (p28_ : Option Addr) (n28_ c28_ : Nat), r35_ = .agg #[.bool b27_, .slice p28_ n28_ c28_] ∧ (∀ V37 : View, V36.Le V37 → Acts prog 58 #[.agg #[.bool b0, .slice b1p b1n b1c], .agg #[.bool b27_, .slice p28_ n28_ c28_]] V37 fun r37_ V38 => ∃ b29_ : Bool, ∃ (p30_ : Option Addr) (n30_ c30_ : Nat), r37_ = .agg #[.bool b29_, .slice p30_ n30_ c30_] ∧ (∀ V39 : View, V38.Le V39 → Acts prog 56 #[.agg #[.bool b24_, .slice p25_ n25_ c25_], .agg #[.bool b29_, .slice p30_ n30_ c30_]] V39 fun r39_ V40 => ∃ b31_ : Bool, ∃ (p32_ : Option Addr) (n32_ c32_ : Nat), r39_ = .agg #[.bool b31_, .slice p32_ n32_ c32_] ∧ (∀ V41 : View, V40.Le V41 → Acts prog 36 #[.agg #[.bool a0, .slice a1p a1n a1c, .slice a2p a2n a2c]] V41 fun r41_ V42 => ∃ (p33_ : Option Addr) (n33_ c33_ : Nat), r41_ = .slice p33_ n33_ c33_ ∧ (∀ V43 : View, V42.Le V43 → Acts prog 36 #[.agg #[.bool b0, .slice b1p b1n b1c, .slice b2p b2n b2c]] V43 fun r43_ V44 => ∃ (p34_ : Option Addr) (n34_ c34_ : Nat), r43_ = .slice p34_ n34_ c34_ ∧ (∀ V45 : View, V44.Le V45 → Acts prog 35 #[.slice p33_ n33_ c33_, .slice p34_ n34_ c34_] V45 fun r45_ V46 => ∃ (p35_ : Option Addr) (n35_ c35_ : Nat), r45_ = .slice p35_ n35_ c35_ ∧ (∀ V47 : View, V46.Le V47 → Acts prog 57 #[.agg #[.bool b31_, .slice p32_ n32_ c32_], .slice p35_ n35_ c35_] V47 fun r47_ V48 => ∃ b36_ : Bool, ∃ (p37_ : Option Addr) (n37_ c37_ : Nat), ∃ (p38_ : Option Addr) (n38_ c38_ : Nat), r47_ = .agg #[.bool b36_, .slice p37_ n37_ c37_, .slice p38_ n38_ c38_] ∧ (∀ V49 : View, V48.Le V49 → R (.agg #[.bool b36_, .slice p37_ n37_ c37_, .slice p38_ n38_ c38_]) V49))))))))))))))) :
    Acts prog 33 #[.agg #[.bool a0, .slice a1p a1n a1c, .slice a2p a2n a2c], .agg #[.bool b0, .slice b1p b1n b1c, .slice b2p b2n b2c]] V R :=
  fn_does (LF := [8, 20, 25, 46, 48, 52, 93, 24, 1000024]) (RF := [1000006]) (β0 := (fun _ => 0)) tab_ok mixed [] [] func33 (by kernel_rfl)
    [(0, .agg [.v (.bool a0), .v (.slice a1p a1n a1c), .v (.slice a2p a2n a2c)]), (1, .agg [.v (.bool b0), .v (.slice b1p b1n b1c), .v (.slice b2p b2n b2c)])]
    [] (by kernel_rfl) trivial h (by kernel_rfl)

theorem vc_num_Sub (a0 : Bool) (a1p : Option Addr) (a1n a1c : Nat) (a2p : Option Addr) (a2n a2c : Nat) (b0 : Bool) (b1p : Option Addr) (b1n b1c : Nat) (b2p : Option Addr) (b2n b2c : Nat) (V : View) (R : Value → View → Prop)
    (h : (∀ V1 : View, V.Le V1 → Acts prog 32 #[.agg #[.bool b0, .slice b1p b1n b1c, .slice b2p b2n b2c]] V1 fun r1_ V2 => ∃ b1_ : Bool, ∃ (p2_ : Option Addr) (n2_ c2_ : Nat), ∃ (p3_ : Option Addr) (n3_ c3_ : Nat), r1_ = .agg #[.bool b1_, .slice p2_ n2_ c2_, .slice p3_ n3_ c3_] ∧ (∀ V3 : View, V2.Le V3 → Acts prog 33 #[.agg #[.bool a0, .slice a1p a1n a1c, .slice a2p a2n a2c], .agg #[.bool b1_, .slice p2_ n2_ c2_, .slice p3_ n3_ c3_]] V3 fun r3_ V4 => ∃ b4_ : Bool, ∃ (p5_ : Option Addr) (n5_ c5_ : Nat), ∃ (p6_ : Option Addr) (n6_ c6_ : Nat), r3_ = .agg #[.bool b4_, .slice p5_ n5_ c5_, .slice p6_ n6_ c6_] ∧ (∀ V5 : View, V4.Le V5 → R (.agg #[.bool b4_, .slice p5_ n5_ c5_, .slice p6_ n6_ c6_]) V5)))) :
    Acts prog 115 #[.agg #[.bool a0, .slice a1p a1n a1c, .slice a2p a2n a2c], .agg #[.bool b0, .slice b1p b1n b1c, .slice b2p b2n b2c]] V R :=
  fn_does (LF := [8, 20, 25, 46, 48, 52, 93, 24, 1000024]) (RF := [1000006]) (β0 := (fun _ => 0)) tab_ok mixed [] [] func115 (by kernel_rfl)
    [(0, .agg [.v (.bool a0), .v (.slice a1p a1n a1c), .v (.slice a2p a2n a2c)]), (1, .agg [.v (.bool b0), .v (.slice b1p b1n b1c), .v (.slice b2p b2n b2c)])]
    [] (by kernel_rfl) trivial h (by kernel_rfl)

theorem vc_num_Times (a0 : Bool) (a1p : Option Addr) (a1n a1c : Nat) (a2p : Option Addr) (a2n a2c : Nat) (b0 : Bool) (b1p : Option Addr) (b1n b1c : Nat) (b2p : Option Addr) (b2n b2c : Nat) (V : View) (R : Value → View → Prop)
    (h : (((((a2n : Nat) : Int) == (0 : Int)) = true → (((((b2n : Nat) : Int) == (0 : Int)) = true → (∀ V1 : View, V.Le V1 → Acts prog 58 #[.agg #[.bool a0, .slice a1p a1n a1c], .agg #[.bool b0, .slice b1p b1n b1c]] V1 fun r1_ V2 => ∃ b1_ : Bool, ∃ (p2_ : Option Addr) (n2_ c2_ : Nat), r1_ = .agg #[.bool b1_, .slice p2_ n2_ c2_] ∧ (∀ V3 : View, V2.Le V3 → R (.agg #[.bool b1_, .slice p2_ n2_ c2_, .slice none 0 0]) V3))) ∧ ((((b2n : Nat) : Int) == (0 : Int)) = false → (∀ V4 : View, V.Le V4 → Acts prog 58 #[.agg #[.bool a0, .slice a1p a1n a1c], .agg #[.bool b0, .slice b1p b1n b1c]] V4 fun r4_ V5 => ∃ b3_ : Bool, ∃ (p4_ : Option Addr) (n4_ c4_ : Nat), r4_ = .agg #[.bool b3_, .slice p4_ n4_ c4_] ∧ (∀ V6 : View, V5.Le V6 → Acts prog 36 #[.agg #[.bool a0, .slice a1p a1n a1c, .slice a2p a2n a2c]] V6 fun r6_ V7 => ∃ (p5_ : Option Addr) (n5_ c5_ : Nat), r6_ = .slice p5_ n5_ c5_ ∧ (∀ V8 : View, V7.Le V8 → Acts prog 36 #[.agg #[.bool b0, .slice b1p b1n b1c, .slice b2p b2n b2c]] V8 fun r8_ V9 => ∃ (p6_ : Option Addr) (n6_ c6_ : Nat), r8_ = .slice p6_ n6_ c6_ ∧ (∀ V10 : View, V9.Le V10 → Acts prog 35 #[.slice p5_ n5_ c5_, .slice p6_ n6_ c6_] V10 fun r10_ V11 => ∃ (p7_ : Option Addr) (n7_ c7_ : Nat), r10_ = .slice p7_ n7_ c7_ ∧ (∀ V12 : View, V11.Le V12 → Acts prog 57 #[.agg #[.bool b3_, .slice p4_ n4_ c4_], .slice p7_ n7_ c7_] V12 fun r12_ V13 => ∃ b8_ : Bool, ∃ (p9_ : Option Addr) (n9_ c9_ : Nat), ∃ (p10_ : Option Addr) (n10_ c10_ : Nat), r12_ = .agg #[.bool b8_, .slice p9_ n9_ c9_, .slice p10_ n10_ c10_] ∧ (∀ V14 : View, V13.Le V14 → R (.agg #[.bool b8_, .slice p9_ n9_ c9_, .slice p10_ n10_ c10_]) V14))))))))) ∧ ((((a2n : Nat) : Int) == (0 : Int)) = false → (∀ V15 : View, V.Le V15 → Acts prog 58 #[.agg #[.bool a0, .slice a1p a1n a1c], .agg #[.bool b0, .slice b1p b1n b1c]] V15 fun r15_ V16 => ∃ b11_ : Bool, ∃ (p12_ : Option Addr) (n12_ c12_ : Nat), r15_ = .agg #[.bool b11_, .slice p12_ n12_ c12_] ∧ (∀ V17 : View, V16.Le V17 → Acts prog 36 #[.agg #[.bool a0, .slice a1p a1n a1c, .slice a2p a2n a2c]] V17 fun r17_ V18 => ∃ (p13_ : Option Addr) (n13_ c13_ : Nat), r17_ = .slice p13_ n13_ c13_ ∧ (∀ V19 : View, V18.Le V19 → Acts prog 36 #[.agg #[.bool b0, .slice b1p b1n b1c, .slice b2p b2n b2c]] V19 fun r19_ V20 => ∃ (p14_ : Option Addr) (n14_ c14_ : Nat), r19_ = .slice p14_ n14_ c14_ ∧ (∀ V21 : View, V20.Le V21 → Acts prog 35 #[.slice p13_ n13_ c13_, .slice p14_ n14_ c14_] V21 fun r21_ V22 => ∃ (p15_ : Option Addr) (n15_ c15_ : Nat), r21_ = .slice p15_ n15_ c15_ ∧ (∀ V23 : View, V22.Le V23 → Acts prog 57 #[.agg #[.bool b11_, .slice p12_ n12_ c12_], .slice p15_ n15_ c15_] V23 fun r23_ V24 => ∃ b16_ : Bool, ∃ (p17_ : Option Addr) (n17_ c17_ : Nat), ∃ (p18_ : Option Addr) (n18_ c18_ : Nat), r23_ = .agg #[.bool b16_, .slice p17_ n17_ c17_, .slice p18_ n18_ c18_] ∧ (∀ V25 : View, V24.Le V25 → R (.agg #[.bool b16_, .slice p17_ n17_ c17_, .slice p18_ n18_ c18_]) V25))))))))) :
    Acts prog 34 #[.agg #[.bool a0, .slice a1p a1n a1c, .slice a2p a2n a2c], .agg #[.bool b0, .slice b1p b1n b1c, .slice b2p b2n b2c]] V R :=
  fn_does (LF := [8, 20, 25, 46, 48, 52, 93, 24, 1000024]) (RF := [1000006]) (β0 := (fun _ => 0)) tab_ok mixed [] [] func34 (by kernel_rfl)
    [(0, .agg [.v (.bool a0), .v (.slice a1p a1n a1c), .v (.slice a2p a2n a2c)]), (1, .agg [.v (.bool b0), .v (.slice b1p b1n b1c), .v (.slice b2p b2n b2c)])]
    [] (by kernel_rfl) trivial h (by kernel_rfl)

theorem vc_num_C (a0 : Bool) (a1p : Option Addr) (a1n a1c : Nat) (a2p : Option Addr) (a2n a2c : Nat) (b0 : Bool) (b1p : Option Addr) (b1n b1c : Nat) (b2p : Option Addr) (b2n b2c : Nat) (V : View) (R : Value → View → Prop)
    (h : (∀ V1 : View, V.Le V1 → Acts prog 115 #[.agg #[.bool a0, .slice a1p a1n a1c, .slice a2p a2n a2c], .agg #[.bool b0, .slice b1p b1n b1c, .slice b2p b2n b2c]] V1 fun r1_ V2 => ∃ b1_ : Bool, ∃ (p2_ : Option Addr) (n2_ c2_ : Nat), ∃ (p3_ : Option Addr) (n3_ c3_ : Nat), r1_ = .agg #[.bool b1_, .slice p2_ n2_ c2_, .slice p3_ n3_ c3_] ∧ (∀ V3 : View, V2.Le V3 → Acts prog 114 #[.agg #[.bool b1_, .slice p2_ n2_ c2_, .slice p3_ n3_ c3_]] V3 fun r3_ V4 => ∃ x4_ : Int, r3_ = .int .i64 x4_ ∧ (∀ V5 : View, V4.Le V5 → R (.int .i64 x4_) V5)))) :
    Acts prog 95 #[.agg #[.bool a0, .slice a1p a1n a1c, .slice a2p a2n a2c], .agg #[.bool b0, .slice b1p b1n b1c, .slice b2p b2n b2c]] V R :=
  fn_does (LF := [8, 20, 25, 46, 48, 52, 93, 24, 1000024]) (RF := [1000006]) (β0 := (fun _ => 0)) tab_ok mixed [] [] func95 (by kernel_rfl)
    [(0, .agg [.v (.bool a0), .v (.slice a1p a1n a1c), .v (.slice a2p a2n a2c)]), (1, .agg [.v (.bool b0), .v (.slice b1p b1n b1c), .v (.slice b2p b2n b2c)])]
    [] (by kernel_rfl) trivial h (by kernel_rfl)

end Go.Proofs.Tryz
/- By program: the conditions of the functions, from their loaded code. -/
namespace Go.Proofs.Tryz
open Go.Eng
set_option maxRecDepth 100000

theorem vc_integer_Norm (a0 : Bool) (a1p : Option Addr) (a1n a1c : Nat) (V : View) (R : Value → View → Prop)
    (h : (∀ V1 : View, V.Le V1 → Acts prog 109 #[.slice a1p a1n a1c] V1 fun r1_ V2 => ∃ (p1_ : Option Addr) (n1_ c1_ : Nat), r1_ = .slice p1_ n1_ c1_ ∧ ((a0 = true → (∀ V3 : View, V2.Le V3 → R (.agg #[.bool (decide (((n1_ : Nat) : Int) > (0 : Int))), .slice p1_ n1_ c1_]) V3)) ∧ (a0 = false → (∀ V4 : View, V2.Le V4 → R (.agg #[.bool false, .slice p1_ n1_ c1_]) V4))))) :
    Acts prog 96 #[.agg #[.bool a0, .slice a1p a1n a1c]] V R :=
  fn_does (LF := [8, 20, 25, 46, 48, 52, 93, 24, 1000024]) (RF := [1000006]) (β0 := (fun _ => 0)) tab_ok mixed [] [] func96 (by kernel_rfl)
    [(0, .agg [.v (.bool a0), .v (.slice a1p a1n a1c)])]
    [] (by kernel_rfl) trivial h (by kernel_rfl)

theorem vc_integer_Normal (a0 : Bool) (a1p : Option Addr) (a1n a1c : Nat) (V : View) (R : Value → View → Prop)
    (h : (∀ V1 : View, V.Le V1 → Acts prog 84 #[.slice a1p a1n a1c] V1 fun r1_ V2 => ∃ b1_ : Bool, r1_ = .bool b1_ ∧ ((b1_ = true → (((!a0) = true → (∀ V3 : View, V2.Le V3 → R (.bool true) V3)) ∧ ((!a0) = false → (∀ V4 : View, V2.Le V4 → R (.bool (decide (((a1n : Nat) : Int) > (0 : Int)))) V4)))) ∧ (b1_ = false → (∀ V5 : View, V2.Le V5 → R (.bool false) V5))))) :
    Acts prog 66 #[.agg #[.bool a0, .slice a1p a1n a1c]] V R :=
  fn_does (LF := [8, 20, 25, 46, 48, 52, 93, 24, 1000024]) (RF := [1000006]) (β0 := (fun _ => 0)) tab_ok mixed [] [] func66 (by kernel_rfl)
    [(0, .agg [.v (.bool a0), .v (.slice a1p a1n a1c)])]
    [] (by kernel_rfl) trivial h (by kernel_rfl)

theorem vc_integer_FromInt (n : Int) (V : View) (R : Value → View → Prop)
    (h : (((decide (n < (0 : Int))) = true → (∀ V1 : View, V.Le V1 → Acts prog 111 #[.int .u64 (IntKind.u64.wrap (0 - (IntKind.u64.wrap n)))] V1 fun r1_ V2 => ∃ (p1_ : Option Addr) (n1_ c1_ : Nat), r1_ = .slice p1_ n1_ c1_ ∧ (∀ V3 : View, V2.Le V3 → R (.agg #[.bool (decide (n < (0 : Int))), .slice p1_ n1_ c1_]) V3))) ∧ ((decide (n < (0 : Int))) = false → (∀ V4 : View, V.Le V4 → Acts prog 111 #[.int .u64 (IntKind.u64.wrap n)] V4 fun r4_ V5 => ∃ (p2_ : Option Addr) (n2_ c2_ : Nat), r4_ = .slice p2_ n2_ c2_ ∧ (∀ V6 : View, V5.Le V6 → R (.agg #[.bool (decide (n < (0 : Int))), .slice p2_ n2_ c2_]) V6))))) :
    Acts prog 92 #[.int .i64 n] V R :=
  fn_does (LF := [8, 20, 25, 46, 48, 52, 93, 24, 1000024]) (RF := [1000006]) (β0 := (fun _ => 0)) tab_ok mixed [] [] func92 (by kernel_rfl)
    [(0, .c (.v (.int .i64 n)))]
    [] (by kernel_rfl) trivial h (by kernel_rfl)

theorem vc_integer_Int64 (a0 : Bool) (a1p : Option Addr) (a1n a1c : Nat) (V : View) (R : Value → View → Prop)
    (h : (∀ V1 : View, V.Le V1 → Acts prog 108 #[.slice a1p a1n a1c] V1 fun r1_ V2 => ∃ x1_ : Int, ∃ b2_ : Bool, r1_ = .tuple #[.int .u64 x1_, .bool b2_] ∧ ((b2_ = true → ((a0 = true → (((decide (x1_ ≤ (9223372036854775808 : Int))) = true → (∀ V3 : View, V2.Le V3 → R (.tuple #[.int .i64 (IntKind.i64.wrap (IntKind.u64.wrap (0 - x1_))), .bool true]) V3)) ∧ ((decide (x1_ ≤ (9223372036854775808 : Int))) = false → ((b2_ = true → (((!a0) = true → (((decide (x1_ ≤ (9223372036854775807 : Int))) = true → (∀ V4 : View, V2.Le V4 → R (.tuple #[.int .i64 (IntKind.i64.wrap x1_), .bool true]) V4)) ∧ ((decide (x1_ ≤ (9223372036854775807 : Int))) = false → (∀ V5 : View, V2.Le V5 → R (.tuple #[.int .i64 0, .bool false]) V5)))) ∧ ((!a0) = false → (∀ V6 : View, V2.Le V6 → R (.tuple #[.int .i64 0, .bool false]) V6)))) ∧ (b2_ = false → (∀ V7 : View, V2.Le V7 → R (.tuple #[.int .i64 0, .bool false]) V7)))))) ∧ (a0 = false → ((b2_ = true → (((!a0) = true → (((decide (x1_ ≤ (9223372036854775807 : Int))) = true → (∀ V8 : View, V2.Le V8 → R (.tuple #[.int .i64 (IntKind.i64.wrap x1_), .bool true]) V8)) ∧ ((decide (x1_ ≤ (9223372036854775807 : Int))) = false → (∀ V9 : View, V2.Le V9 → R (.tuple #[.int .i64 0, .bool false]) V9)))) ∧ ((!a0) = false → (∀ V10 : View, V2.Le V10 → R (.tuple #[.int .i64 0, .bool false]) V10)))) ∧ (b2_ = false → (∀ V11 : View, V2.Le V11 → R (.tuple #[.int .i64 0, .bool false]) V11)))))) ∧ (b2_ = false → ((b2_ = true → (((!a0) = true → (((decide (x1_ ≤ (9223372036854775807 : Int))) = true → (∀ V12 : View, V2.Le V12 → R (.tuple #[.int .i64 (IntKind.i64.wrap x1_), .bool true]) V12)) ∧ ((decide (x1_ ≤ (9223372036854775807 : Int))) = false → (∀ V13 : View, V2.Le V13 → R (.tuple #[.int .i64 0, .bool false]) V13)))) ∧ ((!a0) = false → (∀ V14 : View, V2.Le V14 → R (.tuple #[.int .i64 0, .bool false]) V14)))) ∧ (b2_ = false → (∀ V15 : View, V2.Le V15 → R (.tuple #[.int .i64 0, .bool false]) V15))))))) :
    Acts prog 107 #[.agg #[.bool a0, .slice a1p a1n a1c]] V R :=
  fn_does (LF := [8, 20, 25, 46, 48, 52, 93, 24, 1000024]) (RF := [1000006]) (β0 := (fun _ => 0)) tab_ok mixed [] [] func107 (by kernel_rfl)
    [(0, .agg [.v (.bool a0), .v (.slice a1p a1n a1c)])]
    [] (by kernel_rfl) trivial h (by kernel_rfl)

theorem vc_integer_Sign (a0 : Bool) (a1p : Option Addr) (a1n a1c : Nat) (V : View) (R : Value → View → Prop)
    (h : (∀ V1 : View, V.Le V1 → Acts prog 104 #[.slice a1p a1n a1c] V1 fun r1_ V2 => ∃ x1_ : Int, r1_ = .int .i64 x1_ ∧ (((x1_ == (0 : Int)) = true → (∀ V3 : View, V2.Le V3 → R (.int .i64 0) V3)) ∧ ((x1_ == (0 : Int)) = false → ((a0 = true → (∀ V4 : View, V2.Le V4 → R (.int .i64 (-1)) V4)) ∧ (a0 = false → (∀ V5 : View, V2.Le V5 → R (.int .i64 1) V5))))))) :
    Acts prog 105 #[.agg #[.bool a0, .slice a1p a1n a1c]] V R :=
  fn_does (LF := [8, 20, 25, 46, 48, 52, 93, 24, 1000024]) (RF := [1000006]) (β0 := (fun _ => 0)) tab_ok mixed [] [] func105 (by kernel_rfl)
    [(0, .agg [.v (.bool a0), .v (.slice a1p a1n a1c)])]
    [] (by kernel_rfl) trivial h (by kernel_rfl)

theorem vc_integer_Neg (a0 : Bool) (a1p : Option Addr) (a1n a1c : Nat) (V : View) (R : Value → View → Prop)
    (h : (∀ V1 : View, V.Le V1 → Acts prog 96 #[.agg #[.bool (!a0), .slice a1p a1n a1c]] V1 fun r1_ V2 => ∃ b1_ : Bool, ∃ (p2_ : Option Addr) (n2_ c2_ : Nat), r1_ = .agg #[.bool b1_, .slice p2_ n2_ c2_] ∧ (∀ V3 : View, V2.Le V3 → R (.agg #[.bool b1_, .slice p2_ n2_ c2_]) V3))) :
    Acts prog 130 #[.agg #[.bool a0, .slice a1p a1n a1c]] V R :=
  fn_does (LF := [8, 20, 25, 46, 48, 52, 93, 24, 1000024]) (RF := [1000006]) (β0 := (fun _ => 0)) tab_ok mixed [] [] func130 (by kernel_rfl)
    [(0, .agg [.v (.bool a0), .v (.slice a1p a1n a1c)])]
    [] (by kernel_rfl) trivial h (by kernel_rfl)

theorem vc_integer_signed (neg : Bool) (absp : Option Addr) (absn absc : Nat) (V : View) (R : Value → View → Prop)
    (h : ((neg = true → (∀ V1 : View, V.Le V1 → R (.agg #[.bool (decide (((absn : Nat) : Int) > (0 : Int))), .slice absp absn absc]) V1)) ∧ (neg = false → (∀ V2 : View, V.Le V2 → R (.agg #[.bool false, .slice absp absn absc]) V2)))) :
    Acts prog 132 #[.bool neg, .slice absp absn absc] V R :=
  fn_does (LF := [8, 20, 25, 46, 48, 52, 93, 24, 1000024]) (RF := [1000006]) (β0 := (fun _ => 0)) tab_ok mixed [] [] func132 (by kernel_rfl)
    [(0, .c (.v (.bool neg))), (1, .c (.v (.slice absp absn absc)))]
    [] (by kernel_rfl) trivial h (by kernel_rfl)

theorem vc_integer_Add (a0 : Bool) (a1p : Option Addr) (a1n a1c : Nat) (b0 : Bool) (b1p : Option Addr) (b1n b1c : Nat) (V : View) (R : Value → View → Prop)
    (h : (((a0 == b0) = true → (∀ V1 : View, V.Le V1 → Acts prog 133 #[.slice a1p a1n a1c, .slice b1p b1n b1c] V1 fun r1_ V2 => ∃ (p1_ : Option Addr) (n1_ c1_ : Nat), r1_ = .slice p1_ n1_ c1_ ∧ (∀ V3 : View, V2.Le V3 → Acts prog 132 #[.bool a0, .slice p1_ n1_ c1_] V3 fun r3_ V4 => ∃ b2_ : Bool, ∃ (p3_ : Option Addr) (n3_ c3_ : Nat), r3_ = .agg #[.bool b2_, .slice p3_ n3_ c3_] ∧ (∀ V5 : View, V4.Le V5 → R (.agg #[.bool b2_, .slice p3_ n3_ c3_]) V5)))) ∧ ((a0 == b0) = false → (∀ V6 : View, V.Le V6 → Acts prog 134 #[.slice a1p a1n a1c, .slice b1p b1n b1c] V6 fun r6_ V7 => ∃ (p4_ : Option Addr) (n4_ c4_ : Nat), ∃ b5_ : Bool, r6_ = .tuple #[.slice p4_ n4_ c4_, .bool b5_] ∧ ((b5_ = true → (∀ V8 : View, V7.Le V8 → Acts prog 132 #[.bool a0, .slice p4_ n4_ c4_] V8 fun r8_ V9 => ∃ b6_ : Bool, ∃ (p7_ : Option Addr) (n7_ c7_ : Nat), r8_ = .agg #[.bool b6_, .slice p7_ n7_ c7_] ∧ (∀ V10 : View, V9.Le V10 → R (.agg #[.bool b6_, .slice p7_ n7_ c7_]) V10))) ∧ (b5_ = false → (∀ V11 : View, V7.Le V11 → Acts prog 134 #[.slice b1p b1n b1c, .slice a1p a1n a1c] V11 fun r11_ V12 => ∃ (p8_ : Option Addr) (n8_ c8_ : Nat), ∃ b9_ : Bool, r11_ = .tuple #[.slice p8_ n8_ c8_, .bool b9_] ∧ (∀ V13 : View, V12.Le V13 → Acts prog 132 #[.bool b0, .slice p8_ n8_ c8_] V13 fun r13_ V14 => ∃ b10_ : Bool, ∃ (p11_ : Option Addr) (n11_ c11_ : Nat), r13_ = .agg #[.bool b10_, .slice p11_ n11_ c11_] ∧ (∀ V15 : View, V14.Le V15 → R (.agg #[.bool b10_, .slice p11_ n11_ c11_]) V15))))))))) :
    Acts prog 128 #[.agg #[.bool a0, .slice a1p a1n a1c], .agg #[.bool b0, .slice b1p b1n b1c]] V R :=
  fn_does (LF := [8, 20, 25, 46, 48, 52, 93, 24, 1000024]) (RF := [1000006]) (β0 := (fun _ => 0)) tab_ok mixed [] [] func128 (by kernel_rfl)
    [(0, .agg [.v (.bool a0), .v (.slice a1p a1n a1c)]), (1, .agg [.v (.bool b0), .v (.slice b1p b1n b1c)])]
    [] (by kernel_rfl) trivial h (by kernel_rfl)

theorem vc_integer_Mul (a0 : Bool) (a1p : Option Addr) (a1n a1c : Nat) (b0 : Bool) (b1p : Option Addr) (b1n b1c : Nat) (V : View) (R : Value → View → Prop)
    (h : (∀ V1 : View, V.Le V1 → Acts prog 88 #[.slice a1p a1n a1c, .slice b1p b1n b1c] V1 fun r1_ V2 => ∃ (p1_ : Option Addr) (n1_ c1_ : Nat), r1_ = .slice p1_ n1_ c1_ ∧ (∀ V3 : View, V2.Le V3 → Acts prog 132 #[.bool (!(a0 == b0)), .slice p1_ n1_ c1_] V3 fun r3_ V4 => ∃ b2_ : Bool, ∃ (p3_ : Option Addr) (n3_ c3_ : Nat), r3_ = .agg #[.bool b2_, .slice p3_ n3_ c3_] ∧ (∀ V5 : View, V4.Le V5 → R (.agg #[.bool b2_, .slice p3_ n3_ c3_]) V5)))) :
    Acts prog 129 #[.agg #[.bool a0, .slice a1p a1n a1c], .agg #[.bool b0, .slice b1p b1n b1c]] V R :=
  fn_does (LF := [8, 20, 25, 46, 48, 52, 93, 24, 1000024]) (RF := [1000006]) (β0 := (fun _ => 0)) tab_ok mixed [] [] func129 (by kernel_rfl)
    [(0, .agg [.v (.bool a0), .v (.slice a1p a1n a1c)]), (1, .agg [.v (.bool b0), .v (.slice b1p b1n b1c)])]
    [] (by kernel_rfl) trivial h (by kernel_rfl)

end Go.Proofs.Tryz
/- Contracts of package integer. -/
namespace Go.Big
/-- The value of a sign and digits. -/
def ival (b : Bool) (ds : List Nat) : Int := if b then -(val ds : Int) else val ds
end Go.Big
namespace Go.Eng
open Go.Big
/-- An integer in normal form. -/
def RI (V : View) (v : Value) (z : Int) : Prop := ∃ p n c, v = .agg #[.bool (decide (z < 0)), .slice p n c] ∧ RD V p n c (digs z.natAbs)
theorem RI.le {V V' : View} {v : Value} {z : Int} (h : RI V v z) (l : V.Le V') : RI V' v z := by
  obtain ⟨p, n, c, e, h⟩ := h; exact ⟨p, n, c, e, h.le l⟩
theorem RI.mk {V : View} {b : Bool} {p : Option Addr} {n c : Nat} {z : Int} (hb : b = decide (z < 0)) (h : RD V p n c (digs z.natAbs)) : RI V (.agg #[.bool b, .slice p n c]) z := ⟨p, n, c, by rw [hb], h⟩
theorem RI.zero {V : View} : RI V (.agg #[.bool false, .slice none 0 0]) 0 := ⟨_, _, _, rfl, RD.nil⟩
end Go.Eng
namespace Go.Proofs.Tryz
open Go.Eng Go.Big

theorem blen_zero {n : Nat} : blen n = 0 ↔ n = 0 := by
  unfold blen; split <;> simp_all
theorem ival_natAbs (b : Bool) (ds : List Nat) : (ival b ds).natAbs = val ds := by unfold ival; cases b <;> simp
theorem ival_neg (b : Bool) (ds : List Nat) : ival b ds < 0 ↔ b = true ∧ val ds ≠ 0 := by
  unfold ival; cases b
  · simp
  · simp; omega
theorem ival_digs (z : Int) : ival (decide (z < 0)) (digs z.natAbs) = z := by
  unfold ival; rw [val_digs]
  by_cases h : z < 0
  · rw [decide_eq_true h, if_pos rfl]; omega
  · rw [decide_eq_false h, if_neg (by decide)]; omega
theorem ival_not (b : Bool) (ds : List Nat) : ival (!b) ds = -ival b ds := by unfold ival; cases b <;> simp
theorem ival_false (ds : List Nat) : ival false ds = val ds := rfl

theorem len_pos_digs {x n : Nat} (h : n = (digs x).length) : 0 < n ↔ x ≠ 0 := by
  rw [h]
  constructor
  · intro h1 h2; subst h2; simp at h1
  · intro h1
    rcases Nat.eq_zero_or_pos (digs x).length with e | e
    · exact absurd (digs_eq_nil.1 (List.length_eq_zero_iff.1 e)) h1
    · exact e

theorem c_integer_signed {V : View} (b : Bool) {p : Option Addr} {n c x : Nat} (h : RN V p n c x) :
    Acts prog 132 #[.bool b, .slice p n c] V fun r V' => RI V' r (if b then -(x : Int) else x) := by
  have hp := len_pos_digs h.len
  refine vc_integer_signed b p n c V _ ⟨fun h0 V1 l1 => ?_, fun h0 V1 l1 => ?_⟩
  · rw [if_pos h0]
    refine RI.mk ?_ ?_
    · rw [Bool.eq_iff_iff, decide_eq_true_eq, decide_eq_true_eq]
      omega
    · rw [Int.natAbs_neg, Int.natAbs_natCast]; exact h.le l1
  · rw [h0, if_neg (by decide)]
    refine RI.mk ?_ ?_
    · symm; rw [decide_eq_false_iff_not]; omega
    · rw [Int.natAbs_natCast]; exact h.le l1

theorem c_integer_Norm {V : View} (b : Bool) {p : Option Addr} {n c : Nat} {ds : List Nat} (h : RD V p n c ds) (hm : ds.length ≤ 1099511627776) :
    Acts prog 96 #[.agg #[.bool b, .slice p n c]] V fun r V' => RI V' r (ival b ds) := by
  refine vc_integer_Norm b p n c V _ fun V1 l1 => (c_nat_Norm (h.le l1) hm).mono ?_
  rintro r V2 l2 ⟨p1, n1, c1, rfl, h1⟩
  have hp := len_pos_digs h1.len
  have hn := ival_neg b ds
  refine ⟨_, _, _, rfl, fun h0 V3 l3 => RI.mk ?_ ?_, fun h0 V3 l3 => RI.mk ?_ ?_⟩
  · rw [Bool.eq_iff_iff, decide_eq_true_eq, decide_eq_true_eq, hn]
    simp [h0]; omega
  · rw [ival_natAbs]; exact h1.le l3
  · symm; rw [decide_eq_false_iff_not, hn]; simp [h0]
  · rw [ival_natAbs]; exact h1.le l3

/-- A sign and digits in normal form. -/
def NrmI (b : Bool) (ds : List Nat) : Bool := decide (digs (val ds) = ds) && (!b || decide (ds ≠ []))

theorem c_integer_Normal {V : View} (b : Bool) {p : Option Addr} {n c : Nat} {ds : List Nat} (h : RD V p n c ds) (hm : ds.length ≤ 1099511627776) :
    Acts prog 66 #[.agg #[.bool b, .slice p n c]] V fun r V' => r = .bool (NrmI b ds) := by
  refine vc_integer_Normal b p n c V _ fun V1 l1 => (c_nat_Normal (h.le l1) hm).mono ?_
  rintro r V2 l2 rfl
  refine ⟨_, rfl, fun h0 => ⟨fun h1 V3 l3 => ?_, fun h1 V3 l3 => ?_⟩, fun h0 V3 l3 => ?_⟩
  · simp [NrmI, h0]; simp at h1; simp [h1]
  · have hl := h.len
    simp [NrmI, h0]; simp at h1; simp [h1]
    rw [Bool.eq_iff_iff, decide_eq_true_eq]
    simp
    constructor
    · intro h2 h3; subst h3; simp at hl; omega
    · intro h2
      rcases Nat.eq_zero_or_pos ds.length with e | e
      · exact absurd (List.length_eq_zero_iff.1 e) h2
      · omega
  · simp [NrmI, h0]

theorem c_integer_FromInt {V : View} (n : Int) (h0 : -9223372036854775808 ≤ n) (h1 : n ≤ 9223372036854775807) :
    Acts prog 92 #[.int .i64 n] V fun r V' => RI V' r n := by
  refine vc_integer_FromInt n V _ ⟨fun h2 V1 l1 => ?_, fun h2 V1 l1 => ?_⟩
  · have h2 : n < 0 := by simpa using h2
    have e : IntKind.u64.wrap (0 - IntKind.u64.wrap n) = -n := by rw [u64m, u64m]; omega
    rw [e]
    refine (c_nat_FromUint _ (by omega) (by omega)).mono ?_
    rintro r V2 l2 ⟨p1, n1, c1, rfl, g1⟩
    refine ⟨_, _, _, rfl, fun V3 l3 => ⟨_, _, _, rfl, ?_⟩⟩
    rw [show n.natAbs = (-n).toNat from by omega]; exact g1.le l3
  · have h2 : 0 ≤ n := by simpa using h2
    rw [u64w (by omega)]
    refine (c_nat_FromUint _ (by omega) (by omega)).mono ?_
    rintro r V2 l2 ⟨p1, n1, c1, rfl, g1⟩
    refine ⟨_, _, _, rfl, fun V3 l3 => ⟨_, _, _, rfl, ?_⟩⟩
    rw [show n.natAbs = n.toNat from by omega]; exact g1.le l3

theorem c_integer_Sign {V : View} (b : Bool) {p : Option Addr} {n c : Nat} {ds : List Nat} (h : RD V p n c ds) (hm : ds.length ≤ 1099511627776) :
    Acts prog 105 #[.agg #[.bool b, .slice p n c]] V fun r V' => r = .int .i64 (ival b ds).sign := by
  refine vc_integer_Sign b p n c V _ fun V1 l1 => (c_nat_Bits (h.le l1) hm).mono ?_
  rintro r V2 l2 rfl
  have hz : (ival b ds) = 0 ↔ val ds = 0 := by rw [← ival_natAbs b ds]; omega
  have hn := ival_neg b ds
  refine ⟨_, rfl, fun h0 V3 l3 => ?_, fun h0 => ⟨fun h1 V3 l3 => ?_, fun h1 V3 l3 => ?_⟩⟩
  · have : val ds = 0 := blen_zero.1 (by simp at h0; omega)
    rw [hz.2 this]; rfl
  · have : val ds ≠ 0 := fun e => by simp [blen_zero.2 e] at h0
    rw [Int.sign_eq_neg_one_of_neg (hn.2 ⟨h1, this⟩)]
  · have : val ds ≠ 0 := fun e => by simp [blen_zero.2 e] at h0
    have : 0 < ival b ds := by
      have := hz
      have : ¬ ival b ds < 0 := by rw [hn]; simp [h1]
      omega
    rw [Int.sign_eq_one_of_pos this]

theorem c_integer_Neg {V : View} (b : Bool) {p : Option Addr} {n c : Nat} {ds : List Nat} (h : RD V p n c ds) (hm : ds.length ≤ 1099511627776) :
    Acts prog 130 #[.agg #[.bool b, .slice p n c]] V fun r V' => RI V' r (-ival b ds) := by
  refine vc_integer_Neg b p n c V _ fun V1 l1 => (c_integer_Norm (!b) (h.le l1) hm).mono ?_
  rintro r V2 l2 ⟨p1, n1, c1, rfl, h1⟩
  rw [ival_not] at h1 ⊢
  exact ⟨_, _, _, _, rfl, fun V3 l3 => ⟨_, _, _, rfl, h1.le l3⟩⟩

theorem c_integer_Mul {V : View} (b1 b2 : Bool) {p q : Option Addr} {n c m e : Nat} {xa xb : List Nat} (ha : RD V p n c xa) (hb : RD V q m e xb) (hm : xa.length + xb.length ≤ 1099511627776) :
    Acts prog 129 #[.agg #[.bool b1, .slice p n c], .agg #[.bool b2, .slice q m e]] V fun r V' => RI V' r (ival b1 xa * ival b2 xb) := by
  refine vc_integer_Mul b1 p n c b2 q m e V _ fun V1 l1 => (c_nat_Mul (ha.le l1) (hb.le l1) hm).mono ?_
  rintro r V2 l2 ⟨p1, n1, c1, rfl, h1⟩
  refine ⟨_, _, _, rfl, fun V3 l3 => (c_integer_signed _ (h1.le l3)).mono ?_⟩
  rintro r V4 l4 ⟨p2, n2, c2, rfl, h2⟩
  have e1 : (if (!(b1 == b2)) = true then -((val xa * val xb : Nat) : Int) else ((val xa * val xb : Nat) : Int)) = ival b1 xa * ival b2 xb := by
    unfold ival; cases b1 <;> cases b2 <;> simp [Int.neg_mul, Int.mul_neg]
  rw [e1] at h2 ⊢
  exact ⟨_, _, _, _, rfl, fun V5 l5 => ⟨_, _, _, rfl, h2.le l5⟩⟩

theorem c_integer_Add {V : View} (b1 b2 : Bool) {p q : Option Addr} {n c m e : Nat} {xa xb : List Nat} (ha : RD V p n c xa) (hb : RD V q m e xb) (hm : xa.length ≤ 1099511627776) (hn : xb.length ≤ 1099511627776) :
    Acts prog 128 #[.agg #[.bool b1, .slice p n c], .agg #[.bool b2, .slice q m e]] V fun r V' => RI V' r (ival b1 xa + ival b2 xb) := by
  have fin : ∀ {b : Bool} {x : Nat} {V1 : View} {p1 : Option Addr} {n1 c1 : Nat}, RN V1 p1 n1 c1 x → (if b then -(x : Int) else x) = ival b1 xa + ival b2 xb →
      Acts prog 132 #[.bool b, .slice p1 n1 c1] V1 fun r V' => ∃ (b1_ : Bool) (p2_ : Option Addr) (n2_ c2_ : Nat), r = .agg #[.bool b1_, .slice p2_ n2_ c2_] ∧ ∀ V3 : View, V'.Le V3 → RI V3 (.agg #[.bool b1_, .slice p2_ n2_ c2_]) (ival b1 xa + ival b2 xb) := by
    intro b x V1 p1 n1 c1 h he
    refine (c_integer_signed b h).mono ?_
    rintro r V4 l4 ⟨p2, n2, c2, rfl, h2⟩
    rw [he] at h2 ⊢
    exact ⟨_, _, _, _, rfl, fun V5 l5 => ⟨_, _, _, rfl, h2.le l5⟩⟩
  refine vc_integer_Add b1 p n c b2 q m e V _ ⟨fun h0 V1 l1 => (c_nat_Add (ha.le l1) (hb.le l1) hm hn).mono ?_, fun h0 V1 l1 => (c_nat_Sub (ha.le l1) (hb.le l1) hm hn).mono ?_⟩
  · rintro r V2 l2 ⟨p1, n1, c1, rfl, h1⟩
    have h0 : b1 = b2 := by simpa using h0
    subst h0
    exact ⟨_, _, _, rfl, fun V3 l3 => fin (h1.le l3) (by unfold ival; cases b1 <;> simp; omega)⟩
  · rintro r V2 l2 ⟨p1, n1, c1, rfl, h1⟩
    have h0 : b2 = !b1 := by cases b1 <;> cases b2 <;> simp_all
    subst h0
    refine ⟨_, _, _, _, rfl, fun h2 V3 l3 => fin (h1.le l3) ?_, fun h2 V3 l3 => (c_nat_Sub (hb.le (l1.trans (l2.trans l3))) (ha.le (l1.trans (l2.trans l3))) hn hm).mono ?_⟩
    · have h2 : val xb ≤ val xa := by simpa using h2
      unfold ival; cases b1 <;> simp <;> omega
    · rintro r V4 l4 ⟨p2, n2, c2, rfl, h3⟩
      have h2 : val xa < val xb := by simpa using h2
      exact ⟨_, _, _, _, rfl, fun V5 l5 => fin (h3.le l5) (by unfold ival; cases b1 <;> simp <;> omega)⟩

theorem c_integer_Int64 {V : View} (b : Bool) {p : Option Addr} {n c : Nat} {ds : List Nat} (h : RD V p n c ds) (hm : ds.length ≤ 1099511627776) (hs : val ds < 4611686018427387904) :
    Acts prog 107 #[.agg #[.bool b, .slice p n c]] V fun r V' => r = .tuple #[.int .i64 (ival b ds), .bool true] := by
  refine vc_integer_Int64 b p n c V _ fun V1 l1 => (c_nat_Uint (h.le l1) hm).mono ?_
  rintro r V2 l2 rfl
  rw [if_pos (by omega), decide_eq_true (show val ds < 18446744073709551616 by omega)]
  refine ⟨_, _, rfl, fun _ => ⟨fun h1 => ⟨fun h2 V3 l3 => ?_, fun h2 => ?_⟩, fun h1 => ⟨fun _ => ⟨fun h2 => ⟨fun h3 V4 l4 => ?_, fun h3 => ?_⟩, fun h2 => ?_⟩, fun h2 => nomatch h2⟩⟩, fun h1 => nomatch h1⟩
  · subst h1
    have e : IntKind.i64.wrap (IntKind.u64.wrap (0 - (val ds : Int))) = -(val ds : Int) := by
      rw [u64m, IntKind.wrap_i64]; omega
    rw [e]; rfl
  · simp at h2; omega
  · subst h1
    rw [i64w (by omega)]; rfl
  · simp at h3; omega
  · simp [h1] at h2
end Go.Proofs.Tryz
/- By program: the conditions of the functions, from their loaded code. -/
namespace Go.Proofs.Tryz
open Go.Eng
set_option maxRecDepth 100000

theorem vc_frac_Int (n : Int) (V : View) (R : Value → View → Prop)
    (h : (((decide (n ≤ (-4611686018427387904 : Int))) = true → (∀ V1 : View, V.Le V1 → Acts prog 92 #[.int .i64 n] V1 fun r1_ V2 => ∃ b1_ : Bool, ∃ (p2_ : Option Addr) (n2_ c2_ : Nat), r1_ = .agg #[.bool b1_, .slice p2_ n2_ c2_] ∧ (∀ V3 : View, V2.Le V3 → ∀ bk3_ : Nat, (V3.blk bk3_ (.cells #[.int .u32 1] 124 (0, 0))) → Acts prog 85 #[.agg #[.bool b1_, .slice p2_ n2_ c2_], .slice (some ⟨bk3_, 0, none⟩) 1 1] V3 fun r3_ V4 => ∃ x4_ : Int, ∃ x5_ : Int, ∃ p6_ : Option Addr, r3_ = .agg #[.int .i64 x4_, .int .i64 x5_, .pointer p6_] ∧ ∀ J7_ : C → Value, (∀ V5 : View, V4.Le V5 → R (.agg #[.int .i64 x4_, .int .i64 x5_, .pointer p6_]) V5)))) ∧ ((decide (n ≤ (-4611686018427387904 : Int))) = false → (((decide (n ≥ (4611686018427387904 : Int))) = true → (∀ V6 : View, V.Le V6 → Acts prog 92 #[.int .i64 n] V6 fun r6_ V7 => ∃ b8_ : Bool, ∃ (p9_ : Option Addr) (n9_ c9_ : Nat), r6_ = .agg #[.bool b8_, .slice p9_ n9_ c9_] ∧ (∀ V8 : View, V7.Le V8 → ∀ bk10_ : Nat, (V8.blk bk10_ (.cells #[.int .u32 1] 124 (0, 0))) → Acts prog 85 #[.agg #[.bool b8_, .slice p9_ n9_ c9_], .slice (some ⟨bk10_, 0, none⟩) 1 1] V8 fun r8_ V9 => ∃ x11_ : Int, ∃ x12_ : Int, ∃ p13_ : Option Addr, r8_ = .agg #[.int .i64 x11_, .int .i64 x12_, .pointer p13_] ∧ ∀ J14_ : C → Value, (∀ V10 : View, V9.Le V10 → R (.agg #[.int .i64 x11_, .int .i64 x12_, .pointer p13_]) V10)))) ∧ ((decide (n ≥ (4611686018427387904 : Int))) = false → (∀ V11 : View, V.Le V11 → R (.agg #[.int .i64 n, .int .i64 0, .pointer none]) V11)))))) :
    Acts prog 71 #[.int .i64 n] V R :=
  fn_does (LF := [8, 20, 25, 46, 48, 52, 93, 24, 1000024]) (RF := [1000006]) (β0 := (fun _ => 0)) tab_ok mixed [] [] func71 (by kernel_rfl)
    [(0, .c (.v (.int .i64 n)))]
    [] (by kernel_rfl) trivial h (by kernel_rfl)

theorem vc_frac_reduce (num0 : Bool) (num1p : Option Addr) (num1n num1c : Nat) (denp : Option Addr) (denn denc : Nat) (V : View) (R : Value → View → Prop)
    (h : (∀ V1 : View, V.Le V1 → Acts prog 104 #[.slice denp denn denc] V1 fun r1_ V2 => ∃ x1_ : Int, r1_ = .int .i64 x1_ ∧ (((x1_ == (0 : Int)) = true → (∀ V3 : View, V2.Le V3 → R (.agg #[.int .i64 0, .int .i64 0, .pointer none]) V3)) ∧ ((x1_ == (0 : Int)) = false → (∀ V4 : View, V2.Le V4 → Acts prog 105 #[.agg #[.bool num0, .slice num1p num1n num1c]] V4 fun r4_ V5 => ∃ x2_ : Int, r4_ = .int .i64 x2_ ∧ (((x2_ == (0 : Int)) = true → (∀ V6 : View, V5.Le V6 → R (.agg #[.int .i64 0, .int .i64 0, .pointer none]) V6)) ∧ ((x2_ == (0 : Int)) = false → (∀ V7 : View, V5.Le V7 → Acts prog 90 #[.slice num1p num1n num1c, .slice denp denn denc] V7 fun r7_ V8 => ∃ (p3_ : Option Addr) (n3_ c3_ : Nat), r7_ = .slice p3_ n3_ c3_ ∧ (∀ V9 : View, V8.Le V9 → Acts prog 104 #[.slice p3_ n3_ c3_] V9 fun r9_ V10 => ∃ x4_ : Int, r9_ = .int .i64 x4_ ∧ (∃ I5_ : ((Option Addr) × Nat × Nat × Bool × (Option Addr) × Nat × Nat) → View → Prop, (((decide (x4_ > (1 : Int))) = true → (∀ V11 : View, V10.Le V11 → Acts prog 106 #[.slice num1p num1n num1c, .slice p3_ n3_ c3_] V11 fun r11_ V12 => ∃ (p6_ : Option Addr) (n6_ c6_ : Nat), ∃ (p7_ : Option Addr) (n7_ c7_ : Nat), ∃ b8_ : Bool, r11_ = .tuple #[.slice p6_ n6_ c6_, .slice p7_ n7_ c7_, .bool b8_] ∧ (∀ V13 : View, V12.Le V13 → Acts prog 106 #[.slice denp denn denc, .slice p3_ n3_ c3_] V13 fun r13_ V14 => ∃ (p9_ : Option Addr) (n9_ c9_ : Nat), ∃ (p10_ : Option Addr) (n10_ c10_ : Nat), ∃ b11_ : Bool, r13_ = .tuple #[.slice p9_ n9_ c9_, .slice p10_ n10_ c10_, .bool b11_] ∧ (∃ z12_ : (Option Addr) × Nat × Nat × Bool × (Option Addr) × Nat × Nat, (((0 : Nat) = 0) ∧ ((0 : Nat) = 0) ∧ ((p9_ : Option Addr) = z12_.1) ∧ ((n9_ : Nat) = z12_.2.1) ∧ ((c9_ : Nat) = z12_.2.2.1) ∧ ((0 : Int) = (0 : Int)) ∧ ((0 : Int) = (0 : Int)) ∧ ((none : Option Addr) = none) ∧ (num0 = z12_.2.2.2.1) ∧ ((p6_ : Option Addr) = z12_.2.2.2.2.1) ∧ ((n6_ : Nat) = z12_.2.2.2.2.2.1) ∧ ((c6_ : Nat) = z12_.2.2.2.2.2.2)) ∧ I5_ z12_ V14)))) ∧ ((decide (x4_ > (1 : Int))) = false → (∃ z13_ : (Option Addr) × Nat × Nat × Bool × (Option Addr) × Nat × Nat, (((0 : Nat) = 0) ∧ ((0 : Nat) = 0) ∧ ((denp : Option Addr) = z13_.1) ∧ ((denn : Nat) = z13_.2.1) ∧ ((denc : Nat) = z13_.2.2.1) ∧ ((0 : Int) = (0 : Int)) ∧ ((0 : Int) = (0 : Int)) ∧ ((none : Option Addr) = none) ∧ (num0 = z13_.2.2.2.1) ∧ ((num1p : Option Addr) = z13_.2.2.2.2.1) ∧ ((num1n : Nat) = z13_.2.2.2.2.2.1) ∧ ((num1c : Nat) = z13_.2.2.2.2.2.2)) ∧ I5_ z13_ V10))) ∧ ∀ (z14_ : (Option Addr) × Nat × Nat × Bool × (Option Addr) × Nat × Nat) (V15 : View), V10.Le V15 → I5_ z14_ V15 → (true = true ∧ (∀ V16 : View, V15.Le V16 → Acts prog 104 #[.slice z14_.2.2.2.2.1 z14_.2.2.2.2.2.1 z14_.2.2.2.2.2.2] V16 fun r16_ V17 => ∃ x15_ : Int, r16_ = .int .i64 x15_ ∧ (((decide (x15_ ≤ (62 : Int))) = true → (∀ V18 : View, V17.Le V18 → Acts prog 104 #[.slice z14_.1 z14_.2.1 z14_.2.2.1] V18 fun r18_ V19 => ∃ x16_ : Int, r18_ = .int .i64 x16_ ∧ (((decide (x16_ ≤ (62 : Int))) = true → (∀ V20 : View, V19.Le V20 → Acts prog 107 #[.agg #[.bool z14_.2.2.2.1, .slice z14_.2.2.2.2.1 z14_.2.2.2.2.2.1 z14_.2.2.2.2.2.2]] V20 fun r20_ V21 => ∃ x17_ : Int, ∃ b18_ : Bool, r20_ = .tuple #[.int .i64 x17_, .bool b18_] ∧ (∀ V22 : View, V21.Le V22 → Acts prog 108 #[.slice z14_.1 z14_.2.1 z14_.2.2.1] V22 fun r22_ V23 => ∃ x19_ : Int, ∃ b20_ : Bool, r22_ = .tuple #[.int .u64 x19_, .bool b20_] ∧ (∀ V24 : View, V23.Le V24 → R (.agg #[.int .i64 x17_, .int .i64 (IntKind.i64.wrap ((IntKind.i64.wrap x19_) - (1 : Int))), .pointer none]) V24)))) ∧ ((decide (x16_ ≤ (62 : Int))) = false → (∀ V25 : View, V19.Le V25 → Acts prog 96 #[.agg #[.bool z14_.2.2.2.1, .slice z14_.2.2.2.2.1 z14_.2.2.2.2.2.1 z14_.2.2.2.2.2.2]] V25 fun r25_ V26 => ∃ b21_ : Bool, ∃ (p22_ : Option Addr) (n22_ c22_ : Nat), r25_ = .agg #[.bool b21_, .slice p22_ n22_ c22_] ∧ (∀ V27 : View, V26.Le V27 → Acts prog 109 #[.slice z14_.1 z14_.2.1 z14_.2.2.1] V27 fun r27_ V28 => ∃ (p23_ : Option Addr) (n23_ c23_ : Nat), r27_ = .slice p23_ n23_ c23_ ∧ (∀ V29 : View, V28.Le V29 → ∀ bk24_ : Nat, (V29.blk bk24_ (.cells #[.bool b21_, .slice p22_ n22_ c22_, .slice p23_ n23_ c23_] 172 (0, 0))) → R (.agg #[.int .i64 0, .int .i64 0, .pointer (some ⟨bk24_, 0, none⟩)]) V29))))))) ∧ ((decide (x15_ ≤ (62 : Int))) = false → (∀ V30 : View, V17.Le V30 → Acts prog 96 #[.agg #[.bool z14_.2.2.2.1, .slice z14_.2.2.2.2.1 z14_.2.2.2.2.2.1 z14_.2.2.2.2.2.2]] V30 fun r30_ V31 => ∃ b25_ : Bool, ∃ (p26_ : Option Addr) (n26_ c26_ : Nat), r30_ = .agg #[.bool b25_, .slice p26_ n26_ c26_] ∧ (∀ V32 : View, V31.Le V32 → Acts prog 109 #[.slice z14_.1 z14_.2.1 z14_.2.2.1] V32 fun r32_ V33 => ∃ (p27_ : Option Addr) (n27_ c27_ : Nat), r32_ = .slice p27_ n27_ c27_ ∧ (∀ V34 : View, V33.Le V34 → ∀ bk28_ : Nat, (V34.blk bk28_ (.cells #[.bool b25_, .slice p26_ n26_ c26_, .slice p27_ n27_ c27_] 172 (0, 0))) → R (.agg #[.int .i64 0, .int .i64 0, .pointer (some ⟨bk28_, 0, none⟩)]) V34))))))))))))))))) :
    Acts prog 85 #[.agg #[.bool num0, .slice num1p num1n num1c], .slice denp denn denc] V R :=
  fn_does (LF := [8, 20, 25, 46, 48, 52, 93, 24, 1000024]) (RF := [1000006]) (β0 := (fun _ => 0)) tab_ok mixed [] [(5, { τ := (Option Addr) × Nat × Nat × Bool × (Option Addr) × Nat × Nat, keep := [2, 4], keepB := [4], slots := fun z => [(1, .c (.v (.slice z.1 z.2.1 z.2.2.1)))], boxes := fun z => [(2, ⟨.lit [.v (.bool z.2.2.2.1), .v (.slice z.2.2.2.2.1 z.2.2.2.2.2.1 z.2.2.2.2.2.2)], 55⟩)] })] func85 (by kernel_rfl)
    [(0, .agg [.v (.bool num0), .v (.slice num1p num1n num1c)]), (1, .c (.v (.slice denp denn denc)))]
    [] (by kernel_rfl) trivial h (by kernel_rfl)

theorem vc_frac_Whole (a0 : Bool) (a1p : Option Addr) (a1n a1c : Nat) (V : View) (R : Value → View → Prop)
    (h : (∀ V1 : View, V.Le V1 → ∀ bk1_ : Nat, (V1.blk bk1_ (.cells #[.int .u32 1] 124 (0, 0))) → Acts prog 85 #[.agg #[.bool a0, .slice a1p a1n a1c], .slice (some ⟨bk1_, 0, none⟩) 1 1] V1 fun r1_ V2 => ∃ x2_ : Int, ∃ x3_ : Int, ∃ p4_ : Option Addr, r1_ = .agg #[.int .i64 x2_, .int .i64 x3_, .pointer p4_] ∧ ∀ J5_ : C → Value, (∀ V3 : View, V2.Le V3 → R (.agg #[.int .i64 x2_, .int .i64 x3_, .pointer p4_]) V3))) :
    Acts prog 67 #[.agg #[.bool a0, .slice a1p a1n a1c]] V R :=
  fn_does (LF := [8, 20, 25, 46, 48, 52, 93, 24, 1000024]) (RF := [1000006]) (β0 := (fun _ => 0)) tab_ok mixed [] [] func67 (by kernel_rfl)
    [(0, .agg [.v (.bool a0), .v (.slice a1p a1n a1c)])]
    [] (by kernel_rfl) trivial h (by kernel_rfl)

theorem vc_frac_R_Num (r0 : Int) (r1 : Int) (r2 : Option Addr) (V : View) (R : Value → View → Prop)
    (h : (((!r2.isNone) = true → (r2.isSome = true) ∧ (r2.isSome = true) ∧ (∃ b1_ : Bool, ∃ (p2_ : Option Addr) (n2_ c2_ : Nat), ∃ a3_, addrAdd r2 0 = some a3_ ∧ V.at (a3_.add 0) (.bool b1_) ∧ V.at (a3_.add 1) (.slice p2_ n2_ c2_) ∧ (∀ V1 : View, V.Le V1 → Acts prog 96 #[.agg #[.bool b1_, .slice p2_ n2_ c2_]] V1 fun r1_ V2 => ∃ b4_ : Bool, ∃ (p5_ : Option Addr) (n5_ c5_ : Nat), r1_ = .agg #[.bool b4_, .slice p5_ n5_ c5_] ∧ (∀ V3 : View, V2.Le V3 → R (.agg #[.bool b4_, .slice p5_ n5_ c5_]) V3)))) ∧ ((!r2.isNone) = false → (∀ V4 : View, V.Le V4 → Acts prog 92 #[.int .i64 r0] V4 fun r4_ V5 => ∃ b6_ : Bool, ∃ (p7_ : Option Addr) (n7_ c7_ : Nat), r4_ = .agg #[.bool b6_, .slice p7_ n7_ c7_] ∧ (∀ V6 : View, V5.Le V6 → R (.agg #[.bool b6_, .slice p7_ n7_ c7_]) V6))))) :
    Acts prog 74 #[.agg #[.int .i64 r0, .int .i64 r1, .pointer r2]] V R :=
  fn_does (LF := [8, 20, 25, 46, 48, 52, 93, 24, 1000024]) (RF := [1000006]) (β0 := (fun _ => 0)) tab_ok mixed [] [] func74 (by kernel_rfl)
    [(0, .agg [.v (.int .i64 r0), .v (.int .i64 r1), .v (.pointer r2)])]
    [] (by kernel_rfl) trivial h (by kernel_rfl)

theorem vc_frac_R_Den (r0 : Int) (r1 : Int) (r2 : Option Addr) (V : View) (R : Value → View → Prop)
    (h : (((!r2.isNone) = true → (r2.isSome = true) ∧ (r2.isSome = true) ∧ (∃ (p1_ : Option Addr) (n1_ c1_ : Nat), (∃ a2_, addrAdd r2 2 = some a2_ ∧ V.at a2_ (.slice p1_ n1_ c1_)) ∧ (∀ V1 : View, V.Le V1 → Acts prog 109 #[.slice p1_ n1_ c1_] V1 fun r1_ V2 => ∃ (p3_ : Option Addr) (n3_ c3_ : Nat), r1_ = .slice p3_ n3_ c3_ ∧ (∀ V3 : View, V2.Le V3 → R (.slice p3_ n3_ c3_) V3)))) ∧ ((!r2.isNone) = false → (∀ V4 : View, V.Le V4 → Acts prog 111 #[.int .u64 (IntKind.u64.wrap (IntKind.i64.wrap (r1 + (1 : Int))))] V4 fun r4_ V5 => ∃ (p4_ : Option Addr) (n4_ c4_ : Nat), r4_ = .slice p4_ n4_ c4_ ∧ (∀ V6 : View, V5.Le V6 → R (.slice p4_ n4_ c4_) V6))))) :
    Acts prog 89 #[.agg #[.int .i64 r0, .int .i64 r1, .pointer r2]] V R :=
  fn_does (LF := [8, 20, 25, 46, 48, 52, 93, 24, 1000024]) (RF := [1000006]) (β0 := (fun _ => 0)) tab_ok mixed [] [] func89 (by kernel_rfl)
    [(0, .agg [.v (.int .i64 r0), .v (.int .i64 r1), .v (.pointer r2)])]
    [] (by kernel_rfl) trivial h (by kernel_rfl)

theorem vc_frac_abs (n : Int) (V : View) (R : Value → View → Prop)
    (h : (((decide (n < (0 : Int))) = true → (∀ V1 : View, V.Le V1 → R (.int .u64 (IntKind.u64.wrap (IntKind.i64.wrap (0 - n)))) V1)) ∧ ((decide (n < (0 : Int))) = false → (∀ V2 : View, V.Le V2 → R (.int .u64 (IntKind.u64.wrap n)) V2)))) :
    Acts prog 87 #[.int .i64 n] V R :=
  fn_does (LF := [8, 20, 25, 46, 48, 52, 93, 24, 1000024]) (RF := [1000006]) (β0 := (fun _ => 0)) tab_ok mixed [] [] func87 (by kernel_rfl)
    [(0, .c (.v (.int .i64 n)))]
    [] (by kernel_rfl) trivial h (by kernel_rfl)

theorem vc_frac_gcd (a : Int) (b : Int) (V : View) (R : Value → View → Prop)
    (h : (∃ (I1_ : (Int × Int) → View → Prop) (m2_ : (Int × Int) → Nat), (∃ z3_ : Int × Int, ((a = z3_.1) ∧ (b = z3_.2)) ∧ I1_ z3_ V) ∧ ∀ (z4_ : Int × Int) (V1 : View), V.Le V1 → I1_ z4_ V1 → (true = true ∧ (((z4_.2 != (0 : Int)) = true → (z4_.2 ≠ 0) ∧ (∃ z5_ : Int × Int, m2_ z5_ < m2_ z4_ ∧ ((z4_.2 = z5_.1) ∧ ((z4_.1.tmod z4_.2) = z5_.2)) ∧ I1_ z5_ V1)) ∧ ((z4_.2 != (0 : Int)) = false → (∀ V2 : View, V1.Le V2 → R (.int .u64 z4_.1) V2)))))) :
    Acts prog 86 #[.int .u64 a, .int .u64 b] V R :=
  fn_does (LF := [8, 20, 25, 46, 48, 52, 93, 24, 1000024]) (RF := [1000006]) (β0 := (fun _ => 0)) tab_ok mixed [(1, { τ := Int × Int, keep := [], keepB := [], slots := fun z => [(0, .c (.v (.int .u64 z.1))), (1, .c (.v (.int .u64 z.2)))], boxes := fun z => [] })] [] func86 (by kernel_rfl)
    [(0, .c (.v (.int .u64 a))), (1, .c (.v (.int .u64 b)))]
    [] (by kernel_rfl) trivial h (by kernel_rfl)

theorem vc_frac_times (a : Int) (b : Int) (V : View) (R : Value → View → Prop)
    (h : (∀ V1 : View, V.Le V1 → Acts prog 87 #[.int .i64 a] V1 fun r1_ V2 => ∃ x1_ : Int, r1_ = .int .u64 x1_ ∧ (∀ V3 : View, V2.Le V3 → Acts prog 87 #[.int .i64 b] V3 fun r3_ V4 => ∃ x2_ : Int, r3_ = .int .u64 x2_ ∧ (∀ V5 : View, V4.Le V5 → Acts prog 131 #[.int .u64 x1_, .int .u64 x2_] V5 fun r5_ V6 => ∃ x3_ : Int, ∃ x4_ : Int, r5_ = .tuple #[.int .u64 x3_, .int .u64 x4_] ∧ (((x3_ != (0 : Int)) = true → (∀ V7 : View, V6.Le V7 → R (.tuple #[.int .i64 0, .bool false]) V7)) ∧ ((x3_ != (0 : Int)) = false → (((decide (x4_ ≥ (4611686018427387904 : Int))) = true → (∀ V8 : View, V6.Le V8 → R (.tuple #[.int .i64 0, .bool false]) V8)) ∧ ((decide (x4_ ≥ (4611686018427387904 : Int))) = false → (((!((decide (a < (0 : Int))) == (decide (b < (0 : Int))))) = true → (∀ V9 : View, V6.Le V9 → R (.tuple #[.int .i64 (IntKind.i64.wrap (0 - (IntKind.i64.wrap x4_))), .bool true]) V9)) ∧ ((!((decide (a < (0 : Int))) == (decide (b < (0 : Int))))) = false → (∀ V10 : View, V6.Le V10 → R (.tuple #[.int .i64 (IntKind.i64.wrap x4_), .bool true]) V10))))))))))) :
    Acts prog 126 #[.int .i64 a, .int .i64 b] V R :=
  fn_does (LF := [8, 20, 25, 46, 48, 52, 93, 24, 1000024]) (RF := [1000006]) (β0 := (fun _ => 0)) tab_ok mixed [] [] func126 (by kernel_rfl)
    [(0, .c (.v (.int .i64 a))), (1, .c (.v (.int .i64 b)))]
    [] (by kernel_rfl) trivial h (by kernel_rfl)

theorem vc_frac_lowest (n : Int) (d : Int) (V : View) (R : Value → View → Prop)
    (h : (∀ V1 : View, V.Le V1 → Acts prog 87 #[.int .i64 n] V1 fun r1_ V2 => ∃ x1_ : Int, r1_ = .int .u64 x1_ ∧ (∀ V3 : View, V2.Le V3 → Acts prog 86 #[.int .u64 x1_, .int .u64 (IntKind.u64.wrap d)] V3 fun r3_ V4 => ∃ x2_ : Int, r3_ = .int .u64 x2_ ∧ (((decide ((IntKind.i64.wrap x2_) > (1 : Int))) = true → ((IntKind.i64.wrap x2_) ≠ 0) ∧ ((IntKind.i64.wrap x2_) ≠ 0) ∧ (∀ V5 : View, V4.Le V5 → R (.agg #[.int .i64 (IntKind.i64.wrap (n.tdiv (IntKind.i64.wrap x2_))), .int .i64 (IntKind.i64.wrap ((IntKind.i64.wrap (d.tdiv (IntKind.i64.wrap x2_))) - (1 : Int))), .pointer none]) V5)) ∧ ((decide ((IntKind.i64.wrap x2_) > (1 : Int))) = false → (∀ V6 : View, V4.Le V6 → R (.agg #[.int .i64 n, .int .i64 (IntKind.i64.wrap (d - (1 : Int))), .pointer none]) V6)))))) :
    Acts prog 127 #[.int .i64 n, .int .i64 d] V R :=
  fn_does (LF := [8, 20, 25, 46, 48, 52, 93, 24, 1000024]) (RF := [1000006]) (β0 := (fun _ => 0)) tab_ok mixed [] [] func127 (by kernel_rfl)
    [(0, .c (.v (.int .i64 n))), (1, .c (.v (.int .i64 d)))]
    [] (by kernel_rfl) trivial h (by kernel_rfl)

theorem vc_frac_R_Add (r0 : Int) (r1 : Int) (r2 : Option Addr) (s0 : Int) (s1 : Int) (s2 : Option Addr) (V : View) (R : Value → View → Prop)
    (h : ((r2.isNone = true → (∃ I1_ : Unit → View → Prop, ((s2.isNone = true → (((r1 == (0 : Int)) = true → (((s1 == (0 : Int)) = true → (∀ V1 : View, V.Le V1 → Acts prog 71 #[.int .i64 (IntKind.i64.wrap (r0 + s0))] V1 fun r1_ V2 => ∃ x2_ : Int, ∃ x3_ : Int, ∃ p4_ : Option Addr, r1_ = .agg #[.int .i64 x2_, .int .i64 x3_, .pointer p4_] ∧ (∀ V3 : View, V2.Le V3 → R (.agg #[.int .i64 x2_, .int .i64 x3_, .pointer p4_]) V3))) ∧ ((s1 == (0 : Int)) = false → (∀ V4 : View, V.Le V4 → Acts prog 126 #[.int .i64 r0, .int .i64 (IntKind.i64.wrap (s1 + (1 : Int)))] V4 fun r4_ V5 => ∃ x5_ : Int, ∃ b6_ : Bool, r4_ = .tuple #[.int .i64 x5_, .bool b6_] ∧ (∀ V6 : View, V5.Le V6 → Acts prog 126 #[.int .i64 s0, .int .i64 (IntKind.i64.wrap (r1 + (1 : Int)))] V6 fun r6_ V7 => ∃ x7_ : Int, ∃ b8_ : Bool, r6_ = .tuple #[.int .i64 x7_, .bool b8_] ∧ (∀ V8 : View, V7.Le V8 → Acts prog 126 #[.int .i64 (IntKind.i64.wrap (r1 + (1 : Int))), .int .i64 (IntKind.i64.wrap (s1 + (1 : Int)))] V8 fun r8_ V9 => ∃ x9_ : Int, ∃ b10_ : Bool, r8_ = .tuple #[.int .i64 x9_, .bool b10_] ∧ ((b6_ = true → ((b8_ = true → ((b10_ = true → (((decide ((IntKind.i64.wrap (x5_ + x7_)) > (-4611686018427387904 : Int))) = true → (((decide ((IntKind.i64.wrap (x5_ + x7_)) < (4611686018427387904 : Int))) = true → (∀ V10 : View, V9.Le V10 → Acts prog 127 #[.int .i64 (IntKind.i64.wrap (x5_ + x7_)), .int .i64 x9_] V10 fun r10_ V11 => ∃ x11_ : Int, ∃ x12_ : Int, ∃ p13_ : Option Addr, r10_ = .agg #[.int .i64 x11_, .int .i64 x12_, .pointer p13_] ∧ (∀ V12 : View, V11.Le V12 → R (.agg #[.int .i64 x11_, .int .i64 x12_, .pointer p13_]) V12))) ∧ ((decide ((IntKind.i64.wrap (x5_ + x7_)) < (4611686018427387904 : Int))) = false → (∃ z14_ : Unit, (((0 : Nat) = 0) ∧ ((0 : Nat) = 0) ∧ ((0 : Nat) = 0) ∧ (r0 = r0) ∧ (r1 = r1) ∧ ((r2 : Option Addr) = r2) ∧ (s0 = s0) ∧ (s1 = s1) ∧ ((s2 : Option Addr) = s2) ∧ ((0 : Int) = (0 : Int)) ∧ ((0 : Int) = (0 : Int)) ∧ ((none : Option Addr) = none)) ∧ I1_ z14_ V9)))) ∧ ((decide ((IntKind.i64.wrap (x5_ + x7_)) > (-4611686018427387904 : Int))) = false → (∃ z15_ : Unit, (((0 : Nat) = 0) ∧ ((0 : Nat) = 0) ∧ ((0 : Nat) = 0) ∧ (r0 = r0) ∧ (r1 = r1) ∧ ((r2 : Option Addr) = r2) ∧ (s0 = s0) ∧ (s1 = s1) ∧ ((s2 : Option Addr) = s2) ∧ ((0 : Int) = (0 : Int)) ∧ ((0 : Int) = (0 : Int)) ∧ ((none : Option Addr) = none)) ∧ I1_ z15_ V9)))) ∧ (b10_ = false → (∃ z16_ : Unit, (((0 : Nat) = 0) ∧ ((0 : Nat) = 0) ∧ ((0 : Nat) = 0) ∧ (r0 = r0) ∧ (r1 = r1) ∧ ((r2 : Option Addr) = r2) ∧ (s0 = s0) ∧ (s1 = s1) ∧ ((s2 : Option Addr) = s2) ∧ ((0 : Int) = (0 : Int)) ∧ ((0 : Int) = (0 : Int)) ∧ ((none : Option Addr) = none)) ∧ I1_ z16_ V9)))) ∧ (b8_ = false → (∃ z17_ : Unit, (((0 : Nat) = 0) ∧ ((0 : Nat) = 0) ∧ ((0 : Nat) = 0) ∧ (r0 = r0) ∧ (r1 = r1) ∧ ((r2 : Option Addr) = r2) ∧ (s0 = s0) ∧ (s1 = s1) ∧ ((s2 : Option Addr) = s2) ∧ ((0 : Int) = (0 : Int)) ∧ ((0 : Int) = (0 : Int)) ∧ ((none : Option Addr) = none)) ∧ I1_ z17_ V9)))) ∧ (b6_ = false → (∃ z18_ : Unit, (((0 : Nat) = 0) ∧ ((0 : Nat) = 0) ∧ ((0 : Nat) = 0) ∧ (r0 = r0) ∧ (r1 = r1) ∧ ((r2 : Option Addr) = r2) ∧ (s0 = s0) ∧ (s1 = s1) ∧ ((s2 : Option Addr) = s2) ∧ ((0 : Int) = (0 : Int)) ∧ ((0 : Int) = (0 : Int)) ∧ ((none : Option Addr) = none)) ∧ I1_ z18_ V9))))))))) ∧ ((r1 == (0 : Int)) = false → (∀ V13 : View, V.Le V13 → Acts prog 126 #[.int .i64 r0, .int .i64 (IntKind.i64.wrap (s1 + (1 : Int)))] V13 fun r13_ V14 => ∃ x19_ : Int, ∃ b20_ : Bool, r13_ = .tuple #[.int .i64 x19_, .bool b20_] ∧ (∀ V15 : View, V14.Le V15 → Acts prog 126 #[.int .i64 s0, .int .i64 (IntKind.i64.wrap (r1 + (1 : Int)))] V15 fun r15_ V16 => ∃ x21_ : Int, ∃ b22_ : Bool, r15_ = .tuple #[.int .i64 x21_, .bool b22_] ∧ (∀ V17 : View, V16.Le V17 → Acts prog 126 #[.int .i64 (IntKind.i64.wrap (r1 + (1 : Int))), .int .i64 (IntKind.i64.wrap (s1 + (1 : Int)))] V17 fun r17_ V18 => ∃ x23_ : Int, ∃ b24_ : Bool, r17_ = .tuple #[.int .i64 x23_, .bool b24_] ∧ ((b20_ = true → ((b22_ = true → ((b24_ = true → (((decide ((IntKind.i64.wrap (x19_ + x21_)) > (-4611686018427387904 : Int))) = true → (((decide ((IntKind.i64.wrap (x19_ + x21_)) < (4611686018427387904 : Int))) = true → (∀ V19 : View, V18.Le V19 → Acts prog 127 #[.int .i64 (IntKind.i64.wrap (x19_ + x21_)), .int .i64 x23_] V19 fun r19_ V20 => ∃ x25_ : Int, ∃ x26_ : Int, ∃ p27_ : Option Addr, r19_ = .agg #[.int .i64 x25_, .int .i64 x26_, .pointer p27_] ∧ (∀ V21 : View, V20.Le V21 → R (.agg #[.int .i64 x25_, .int .i64 x26_, .pointer p27_]) V21))) ∧ ((decide ((IntKind.i64.wrap (x19_ + x21_)) < (4611686018427387904 : Int))) = false → (∃ z28_ : Unit, (((0 : Nat) = 0) ∧ ((0 : Nat) = 0) ∧ ((0 : Nat) = 0) ∧ (r0 = r0) ∧ (r1 = r1) ∧ ((r2 : Option Addr) = r2) ∧ (s0 = s0) ∧ (s1 = s1) ∧ ((s2 : Option Addr) = s2) ∧ ((0 : Int) = (0 : Int)) ∧ ((0 : Int) = (0 : Int)) ∧ ((none : Option Addr) = none)) ∧ I1_ z28_ V18)))) ∧ ((decide ((IntKind.i64.wrap (x19_ + x21_)) > (-4611686018427387904 : Int))) = false → (∃ z29_ : Unit, (((0 : Nat) = 0) ∧ ((0 : Nat) = 0) ∧ ((0 : Nat) = 0) ∧ (r0 = r0) ∧ (r1 = r1) ∧ ((r2 : Option Addr) = r2) ∧ (s0 = s0) ∧ (s1 = s1) ∧ ((s2 : Option Addr) = s2) ∧ ((0 : Int) = (0 : Int)) ∧ ((0 : Int) = (0 : Int)) ∧ ((none : Option Addr) = none)) ∧ I1_ z29_ V18)))) ∧ (b24_ = false → (∃ z30_ : Unit, (((0 : Nat) = 0) ∧ ((0 : Nat) = 0) ∧ ((0 : Nat) = 0) ∧ (r0 = r0) ∧ (r1 = r1) ∧ ((r2 : Option Addr) = r2) ∧ (s0 = s0) ∧ (s1 = s1) ∧ ((s2 : Option Addr) = s2) ∧ ((0 : Int) = (0 : Int)) ∧ ((0 : Int) = (0 : Int)) ∧ ((none : Option Addr) = none)) ∧ I1_ z30_ V18)))) ∧ (b22_ = false → (∃ z31_ : Unit, (((0 : Nat) = 0) ∧ ((0 : Nat) = 0) ∧ ((0 : Nat) = 0) ∧ (r0 = r0) ∧ (r1 = r1) ∧ ((r2 : Option Addr) = r2) ∧ (s0 = s0) ∧ (s1 = s1) ∧ ((s2 : Option Addr) = s2) ∧ ((0 : Int) = (0 : Int)) ∧ ((0 : Int) = (0 : Int)) ∧ ((none : Option Addr) = none)) ∧ I1_ z31_ V18)))) ∧ (b20_ = false → (∃ z32_ : Unit, (((0 : Nat) = 0) ∧ ((0 : Nat) = 0) ∧ ((0 : Nat) = 0) ∧ (r0 = r0) ∧ (r1 = r1) ∧ ((r2 : Option Addr) = r2) ∧ (s0 = s0) ∧ (s1 = s1) ∧ ((s2 : Option Addr) = s2) ∧ ((0 : Int) = (0 : Int)) ∧ ((0 : Int) = (0 : Int)) ∧ ((none : Option Addr) = none)) ∧ I1_ z32_ V18))))))))) ∧ (s2.isNone = false → (∃ z33_ : Unit, (((0 : Nat) = 0) ∧ ((0 : Nat) = 0) ∧ ((0 : Nat) = 0) ∧ (r0 = r0) ∧ (r1 = r1) ∧ ((r2 : Option Addr) = r2) ∧ (s0 = s0) ∧ (s1 = s1) ∧ ((s2 : Option Addr) = s2) ∧ ((0 : Int) = (0 : Int)) ∧ ((0 : Int) = (0 : Int)) ∧ ((none : Option Addr) = none)) ∧ I1_ z33_ V))) ∧ ∀ (z34_ : Unit) (V22 : View), V.Le V22 → I1_ z34_ V22 → (true = true ∧ (∀ V23 : View, V22.Le V23 → Acts prog 74 #[.agg #[.int .i64 r0, .int .i64 r1, .pointer r2]] V23 fun r23_ V24 => ∃ b35_ : Bool, ∃ (p36_ : Option Addr) (n36_ c36_ : Nat), r23_ = .agg #[.bool b35_, .slice p36_ n36_ c36_] ∧ (∀ V25 : View, V24.Le V25 → Acts prog 89 #[.agg #[.int .i64 s0, .int .i64 s1, .pointer s2]] V25 fun r25_ V26 => ∃ (p37_ : Option Addr) (n37_ c37_ : Nat), r25_ = .slice p37_ n37_ c37_ ∧ (∀ V27 : View, V26.Le V27 → Acts prog 129 #[.agg #[.bool b35_, .slice p36_ n36_ c36_], .agg #[.bool false, .slice p37_ n37_ c37_]] V27 fun r27_ V28 => ∃ b38_ : Bool, ∃ (p39_ : Option Addr) (n39_ c39_ : Nat), r27_ = .agg #[.bool b38_, .slice p39_ n39_ c39_] ∧ (∀ V29 : View, V28.Le V29 → Acts prog 74 #[.agg #[.int .i64 s0, .int .i64 s1, .pointer s2]] V29 fun r29_ V30 => ∃ b40_ : Bool, ∃ (p41_ : Option Addr) (n41_ c41_ : Nat), r29_ = .agg #[.bool b40_, .slice p41_ n41_ c41_] ∧ (∀ V31 : View, V30.Le V31 → Acts prog 89 #[.agg #[.int .i64 r0, .int .i64 r1, .pointer r2]] V31 fun r31_ V32 => ∃ (p42_ : Option Addr) (n42_ c42_ : Nat), r31_ = .slice p42_ n42_ c42_ ∧ (∀ V33 : View, V32.Le V33 → Acts prog 129 #[.agg #[.bool b40_, .slice p41_ n41_ c41_], .agg #[.bool false, .slice p42_ n42_ c42_]] V33 fun r33_ V34 => ∃ b43_ : Bool, ∃ (p44_ : Option Addr) (n44_ c44_ : Nat), r33_ = .agg #[.bool b43_, .slice p44_ n44_ c44_] ∧ (∀ V35 : View, V34.Le V35 → Acts prog 128 #[.agg #[.bool b38_, .slice p39_ n39_ c39_], .agg #[.bool b43_, .slice p44_ n44_ c44_]] V35 fun r35_ V36 => ∃ b45_ : Bool, ∃ (p46_ : Option Addr) (n46_ c46_ : Nat), r35_ = .agg #[.bool b45_, .slice p46_ n46_ c46_] ∧ (∀ V37 : View, V36.Le V37 → Acts prog 89 #[.agg #[.int .i64 r0, .int .i64 r1, .pointer r2]] V37 fun r37_ V38 => ∃ (p47_ : Option Addr) (n47_ c47_ : Nat), r37_ = .slice p47_ n47_ c47_ ∧ (∀ V39 : View, V38.Le V39 → Acts prog 89 #[.agg #[.int .i64 s0, .int .i64 s1, .pointer s2]] V39 fun r39_ V40 => ∃ (p48_ : Option Addr) (n48_ c48_ : Nat), r39_ = .slice p48_ n48_ c48_ ∧ (∀ V41 : View, V40.Le V41 → Acts prog 88 #[.slice p47_ n47_ c47_, .slice p48_ n48_ c48_] V41 fun r41_ V42 => ∃ (p49_ : Option Addr) (n49_ c49_ : Nat), r41_ = .slice p49_ n49_ c49_ ∧ (∀ V43 : View, V42.Le V43 → Acts prog 85 #[.agg #[.bool b45_, .slice p46_ n46_ c46_], .slice p49_ n49_ c49_] V43 fun r43_ V44 => ∃ x50_ : Int, ∃ x51_ : Int, ∃ p52_ : Option Addr, r43_ = .agg #[.int .i64 x50_, .int .i64 x51_, .pointer p52_] ∧ (∀ V45 : View, V44.Le V45 → R (.agg #[.int .i64 x50_, .int .i64 x51_, .pointer p52_]) V45))))))))))))))) ∧ (r2.isNone = false → (∀ V46 : View, V.Le V46 → Acts prog 74 #[.agg #[.int .i64 r0, .int .i64 r1, .pointer r2]] V46 fun r46_ V47 => ∃ b53_ : Bool, ∃ (p54_ : Option Addr) (n54_ c54_ : Nat), r46_ = .agg #[.bool b53_, .slice p54_ n54_ c54_] ∧ (∀ V48 : View, V47.Le V48 → Acts prog 89 #[.agg #[.int .i64 s0, .int .i64 s1, .pointer s2]] V48 fun r48_ V49 => ∃ (p55_ : Option Addr) (n55_ c55_ : Nat), r48_ = .slice p55_ n55_ c55_ ∧ (∀ V50 : View, V49.Le V50 → Acts prog 129 #[.agg #[.bool b53_, .slice p54_ n54_ c54_], .agg #[.bool false, .slice p55_ n55_ c55_]] V50 fun r50_ V51 => ∃ b56_ : Bool, ∃ (p57_ : Option Addr) (n57_ c57_ : Nat), r50_ = .agg #[.bool b56_, .slice p57_ n57_ c57_] ∧ (∀ V52 : View, V51.Le V52 → Acts prog 74 #[.agg #[.int .i64 s0, .int .i64 s1, .pointer s2]] V52 fun r52_ V53 => ∃ b58_ : Bool, ∃ (p59_ : Option Addr) (n59_ c59_ : Nat), r52_ = .agg #[.bool b58_, .slice p59_ n59_ c59_] ∧ (∀ V54 : View, V53.Le V54 → Acts prog 89 #[.agg #[.int .i64 r0, .int .i64 r1, .pointer r2]] V54 fun r54_ V55 => ∃ (p60_ : Option Addr) (n60_ c60_ : Nat), r54_ = .slice p60_ n60_ c60_ ∧ (∀ V56 : View, V55.Le V56 → Acts prog 129 #[.agg #[.bool b58_, .slice p59_ n59_ c59_], .agg #[.bool false, .slice p60_ n60_ c60_]] V56 fun r56_ V57 => ∃ b61_ : Bool, ∃ (p62_ : Option Addr) (n62_ c62_ : Nat), r56_ = .agg #[.bool b61_, .slice p62_ n62_ c62_] ∧ (∀ V58 : View, V57.Le V58 → Acts prog 128 #[.agg #[.bool b56_, .slice p57_ n57_ c57_], .agg #[.bool b61_, .slice p62_ n62_ c62_]] V58 fun r58_ V59 => ∃ b63_ : Bool, ∃ (p64_ : Option Addr) (n64_ c64_ : Nat), r58_ = .agg #[.bool b63_, .slice p64_ n64_ c64_] ∧ (∀ V60 : View, V59.Le V60 → Acts prog 89 #[.agg #[.int .i64 r0, .int .i64 r1, .pointer r2]] V60 fun r60_ V61 => ∃ (p65_ : Option Addr) (n65_ c65_ : Nat), r60_ = .slice p65_ n65_ c65_ ∧ (∀ V62 : View, V61.Le V62 → Acts prog 89 #[.agg #[.int .i64 s0, .int .i64 s1, .pointer s2]] V62 fun r62_ V63 => ∃ (p66_ : Option Addr) (n66_ c66_ : Nat), r62_ = .slice p66_ n66_ c66_ ∧ (∀ V64 : View, V63.Le V64 → Acts prog 88 #[.slice p65_ n65_ c65_, .slice p66_ n66_ c66_] V64 fun r64_ V65 => ∃ (p67_ : Option Addr) (n67_ c67_ : Nat), r64_ = .slice p67_ n67_ c67_ ∧ (∀ V66 : View, V65.Le V66 → Acts prog 85 #[.agg #[.bool b63_, .slice p64_ n64_ c64_], .slice p67_ n67_ c67_] V66 fun r66_ V67 => ∃ x68_ : Int, ∃ x69_ : Int, ∃ p70_ : Option Addr, r66_ = .agg #[.int .i64 x68_, .int .i64 x69_, .pointer p70_] ∧ (∀ V68 : View, V67.Le V68 → R (.agg #[.int .i64 x68_, .int .i64 x69_, .pointer p70_]) V68))))))))))))))) :
    Acts prog 121 #[.agg #[.int .i64 r0, .int .i64 r1, .pointer r2], .agg #[.int .i64 s0, .int .i64 s1, .pointer s2]] V R :=
  fn_does (LF := [8, 20, 25, 46, 48, 52, 93, 24, 1000024]) (RF := [1000006]) (β0 := (fun _ => 0)) tab_ok mixed [] [(2, { τ := Unit, keep := [2, 3, 4], keepB := [2, 3, 4], slots := fun z => [], boxes := fun z => [] })] func121 (by kernel_rfl)
    [(0, .agg [.v (.int .i64 r0), .v (.int .i64 r1), .v (.pointer r2)]), (1, .agg [.v (.int .i64 s0), .v (.int .i64 s1), .v (.pointer s2)])]
    [] (by kernel_rfl) trivial h (by kernel_rfl)

theorem vc_frac_R_Neg (r0 : Int) (r1 : Int) (r2 : Option Addr) (V : View) (R : Value → View → Prop)
    (h : (((!r2.isNone) = true → (r2.isSome = true) ∧ (r2.isSome = true) ∧ (∃ b1_ : Bool, ∃ (p2_ : Option Addr) (n2_ c2_ : Nat), ∃ a3_, addrAdd r2 0 = some a3_ ∧ V.at (a3_.add 0) (.bool b1_) ∧ V.at (a3_.add 1) (.slice p2_ n2_ c2_) ∧ (r2.isSome = true) ∧ (r2.isSome = true) ∧ (∃ (p4_ : Option Addr) (n4_ c4_ : Nat), (∃ a5_, addrAdd r2 2 = some a5_ ∧ V.at a5_ (.slice p4_ n4_ c4_)) ∧ (∀ V1 : View, V.Le V1 → Acts prog 130 #[.agg #[.bool b1_, .slice p2_ n2_ c2_]] V1 fun r1_ V2 => ∃ b6_ : Bool, ∃ (p7_ : Option Addr) (n7_ c7_ : Nat), r1_ = .agg #[.bool b6_, .slice p7_ n7_ c7_] ∧ (∀ V3 : View, V2.Le V3 → ∀ bk8_ : Nat, (V3.blk bk8_ (.cells #[.bool b6_, .slice p7_ n7_ c7_, .slice p4_ n4_ c4_] 172 (0, 0))) → R (.agg #[.int .i64 0, .int .i64 0, .pointer (some ⟨bk8_, 0, none⟩)]) V3))))) ∧ ((!r2.isNone) = false → (∀ V4 : View, V.Le V4 → R (.agg #[.int .i64 (IntKind.i64.wrap (0 - r0)), .int .i64 r1, .pointer none]) V4)))) :
    Acts prog 122 #[.agg #[.int .i64 r0, .int .i64 r1, .pointer r2]] V R :=
  fn_does (LF := [8, 20, 25, 46, 48, 52, 93, 24, 1000024]) (RF := [1000006]) (β0 := (fun _ => 0)) tab_ok mixed [] [] func122 (by kernel_rfl)
    [(0, .agg [.v (.int .i64 r0), .v (.int .i64 r1), .v (.pointer r2)])]
    [] (by kernel_rfl) trivial h (by kernel_rfl)

theorem vc_frac_R_Sub (r0 : Int) (r1 : Int) (r2 : Option Addr) (s0 : Int) (s1 : Int) (s2 : Option Addr) (V : View) (R : Value → View → Prop)
    (h : (∀ V1 : View, V.Le V1 → Acts prog 122 #[.agg #[.int .i64 s0, .int .i64 s1, .pointer s2]] V1 fun r1_ V2 => ∃ x1_ : Int, ∃ x2_ : Int, ∃ p3_ : Option Addr, r1_ = .agg #[.int .i64 x1_, .int .i64 x2_, .pointer p3_] ∧ (∀ V3 : View, V2.Le V3 → Acts prog 121 #[.agg #[.int .i64 r0, .int .i64 r1, .pointer r2], .agg #[.int .i64 x1_, .int .i64 x2_, .pointer p3_]] V3 fun r3_ V4 => ∃ x4_ : Int, ∃ x5_ : Int, ∃ p6_ : Option Addr, r3_ = .agg #[.int .i64 x4_, .int .i64 x5_, .pointer p6_] ∧ (∀ V5 : View, V4.Le V5 → R (.agg #[.int .i64 x4_, .int .i64 x5_, .pointer p6_]) V5)))) :
    Acts prog 112 #[.agg #[.int .i64 r0, .int .i64 r1, .pointer r2], .agg #[.int .i64 s0, .int .i64 s1, .pointer s2]] V R :=
  fn_does (LF := [8, 20, 25, 46, 48, 52, 93, 24, 1000024]) (RF := [1000006]) (β0 := (fun _ => 0)) tab_ok mixed [] [] func112 (by kernel_rfl)
    [(0, .agg [.v (.int .i64 r0), .v (.int .i64 r1), .v (.pointer r2)]), (1, .agg [.v (.int .i64 s0), .v (.int .i64 s1), .v (.pointer s2)])]
    [] (by kernel_rfl) trivial h (by kernel_rfl)

theorem vc_frac_R_Sign (r0 : Int) (r1 : Int) (r2 : Option Addr) (V : View) (R : Value → View → Prop)
    (h : (((!r2.isNone) = true → (r2.isSome = true) ∧ (r2.isSome = true) ∧ (∃ b1_ : Bool, ∃ (p2_ : Option Addr) (n2_ c2_ : Nat), ∃ a3_, addrAdd r2 0 = some a3_ ∧ V.at (a3_.add 0) (.bool b1_) ∧ V.at (a3_.add 1) (.slice p2_ n2_ c2_) ∧ (∀ V1 : View, V.Le V1 → Acts prog 105 #[.agg #[.bool b1_, .slice p2_ n2_ c2_]] V1 fun r1_ V2 => ∃ x4_ : Int, r1_ = .int .i64 x4_ ∧ (∀ V3 : View, V2.Le V3 → R (.int .i64 x4_) V3)))) ∧ ((!r2.isNone) = false → (((decide (r0 < (0 : Int))) = true → (∀ V4 : View, V.Le V4 → R (.int .i64 (-1)) V4)) ∧ ((decide (r0 < (0 : Int))) = false → (((decide (r0 > (0 : Int))) = true → (∀ V5 : View, V.Le V5 → R (.int .i64 1) V5)) ∧ ((decide (r0 > (0 : Int))) = false → (∀ V6 : View, V.Le V6 → R (.int .i64 0) V6)))))))) :
    Acts prog 113 #[.agg #[.int .i64 r0, .int .i64 r1, .pointer r2]] V R :=
  fn_does (LF := [8, 20, 25, 46, 48, 52, 93, 24, 1000024]) (RF := [1000006]) (β0 := (fun _ => 0)) tab_ok mixed [] [] func113 (by kernel_rfl)
    [(0, .agg [.v (.int .i64 r0), .v (.int .i64 r1), .v (.pointer r2)])]
    [] (by kernel_rfl) trivial h (by kernel_rfl)

theorem vc_frac_R_Zero (r0 : Int) (r1 : Int) (r2 : Option Addr) (V : View) (R : Value → View → Prop)
    (h : ((r2.isNone = true → (∀ V1 : View, V.Le V1 → R (.bool (r0 == (0 : Int))) V1)) ∧ (r2.isNone = false → (∀ V2 : View, V.Le V2 → R (.bool false) V2)))) :
    Acts prog 68 #[.agg #[.int .i64 r0, .int .i64 r1, .pointer r2]] V R :=
  fn_does (LF := [8, 20, 25, 46, 48, 52, 93, 24, 1000024]) (RF := [1000006]) (β0 := (fun _ => 0)) tab_ok mixed [] [] func68 (by kernel_rfl)
    [(0, .agg [.v (.int .i64 r0), .v (.int .i64 r1), .v (.pointer r2)])]
    [] (by kernel_rfl) trivial h (by kernel_rfl)

theorem vc_frac_R_Cmp (r0 : Int) (r1 : Int) (r2 : Option Addr) (s0 : Int) (s1 : Int) (s2 : Option Addr) (V : View) (R : Value → View → Prop)
    (h : ((r2.isNone = true → ((s2.isNone = true → (((r1 == s1) = true → (((decide (r0 < s0)) = true → (∀ V1 : View, V.Le V1 → R (.int .i64 (-1)) V1)) ∧ ((decide (r0 < s0)) = false → (((decide (r0 > s0)) = true → (∀ V2 : View, V.Le V2 → R (.int .i64 1) V2)) ∧ ((decide (r0 > s0)) = false → (∀ V3 : View, V.Le V3 → R (.int .i64 0) V3)))))) ∧ ((r1 == s1) = false → (∀ V4 : View, V.Le V4 → Acts prog 112 #[.agg #[.int .i64 r0, .int .i64 r1, .pointer r2], .agg #[.int .i64 s0, .int .i64 s1, .pointer s2]] V4 fun r4_ V5 => ∃ x1_ : Int, ∃ x2_ : Int, ∃ p3_ : Option Addr, r4_ = .agg #[.int .i64 x1_, .int .i64 x2_, .pointer p3_] ∧ (∀ V6 : View, V5.Le V6 → Acts prog 113 #[.agg #[.int .i64 x1_, .int .i64 x2_, .pointer p3_]] V6 fun r6_ V7 => ∃ x4_ : Int, r6_ = .int .i64 x4_ ∧ (∀ V8 : View, V7.Le V8 → R (.int .i64 x4_) V8)))))) ∧ (s2.isNone = false → (∀ V9 : View, V.Le V9 → Acts prog 112 #[.agg #[.int .i64 r0, .int .i64 r1, .pointer r2], .agg #[.int .i64 s0, .int .i64 s1, .pointer s2]] V9 fun r9_ V10 => ∃ x5_ : Int, ∃ x6_ : Int, ∃ p7_ : Option Addr, r9_ = .agg #[.int .i64 x5_, .int .i64 x6_, .pointer p7_] ∧ (∀ V11 : View, V10.Le V11 → Acts prog 113 #[.agg #[.int .i64 x5_, .int .i64 x6_, .pointer p7_]] V11 fun r11_ V12 => ∃ x8_ : Int, r11_ = .int .i64 x8_ ∧ (∀ V13 : View, V12.Le V13 → R (.int .i64 x8_) V13)))))) ∧ (r2.isNone = false → (∀ V14 : View, V.Le V14 → Acts prog 112 #[.agg #[.int .i64 r0, .int .i64 r1, .pointer r2], .agg #[.int .i64 s0, .int .i64 s1, .pointer s2]] V14 fun r14_ V15 => ∃ x9_ : Int, ∃ x10_ : Int, ∃ p11_ : Option Addr, r14_ = .agg #[.int .i64 x9_, .int .i64 x10_, .pointer p11_] ∧ (∀ V16 : View, V15.Le V16 → Acts prog 113 #[.agg #[.int .i64 x9_, .int .i64 x10_, .pointer p11_]] V16 fun r16_ V17 => ∃ x12_ : Int, r16_ = .int .i64 x12_ ∧ (∀ V18 : View, V17.Le V18 → R (.int .i64 x12_) V18)))))) :
    Acts prog 91 #[.agg #[.int .i64 r0, .int .i64 r1, .pointer r2], .agg #[.int .i64 s0, .int .i64 s1, .pointer s2]] V R :=
  fn_does (LF := [8, 20, 25, 46, 48, 52, 93, 24, 1000024]) (RF := [1000006]) (β0 := (fun _ => 0)) tab_ok mixed [] [] func91 (by kernel_rfl)
    [(0, .agg [.v (.int .i64 r0), .v (.int .i64 r1), .v (.pointer r2)]), (1, .agg [.v (.int .i64 s0), .v (.int .i64 s1), .v (.pointer s2)])]
    [] (by kernel_rfl) trivial h (by kernel_rfl)

theorem vc_frac_R_Equal (r0 : Int) (r1 : Int) (r2 : Option Addr) (s0 : Int) (s1 : Int) (s2 : Option Addr) (V : View) (R : Value → View → Prop)
    (h : (∀ V1 : View, V.Le V1 → Acts prog 91 #[.agg #[.int .i64 r0, .int .i64 r1, .pointer r2], .agg #[.int .i64 s0, .int .i64 s1, .pointer s2]] V1 fun r1_ V2 => ∃ x1_ : Int, r1_ = .int .i64 x1_ ∧ (∀ V3 : View, V2.Le V3 → R (.bool (x1_ == (0 : Int))) V3))) :
    Acts prog 70 #[.agg #[.int .i64 r0, .int .i64 r1, .pointer r2], .agg #[.int .i64 s0, .int .i64 s1, .pointer s2]] V R :=
  fn_does (LF := [8, 20, 25, 46, 48, 52, 93, 24, 1000024]) (RF := [1000006]) (β0 := (fun _ => 0)) tab_ok mixed [] [] func70 (by kernel_rfl)
    [(0, .agg [.v (.int .i64 r0), .v (.int .i64 r1), .v (.pointer r2)]), (1, .agg [.v (.int .i64 s0), .v (.int .i64 s1), .v (.pointer s2)])]
    [] (by kernel_rfl) trivial h (by kernel_rfl)

theorem vc_frac_Gcd (r0 : Int) (r1 : Int) (r2 : Option Addr) (s0 : Int) (s1 : Int) (s2 : Option Addr) (V : View) (R : Value → View → Prop)
    (h : ((r2.isNone = true → ((s2.isNone = true → (((r1 == (0 : Int)) = true → (∃ I1_ : Unit → View → Prop, (((s1 == (0 : Int)) = true → (∀ V1 : View, V.Le V1 → Acts prog 87 #[.int .i64 r0] V1 fun r1_ V2 => ∃ x2_ : Int, r1_ = .int .u64 x2_ ∧ (∀ V3 : View, V2.Le V3 → Acts prog 87 #[.int .i64 s0] V3 fun r3_ V4 => ∃ x3_ : Int, r3_ = .int .u64 x3_ ∧ (∀ V5 : View, V4.Le V5 → Acts prog 86 #[.int .u64 x2_, .int .u64 x3_] V5 fun r5_ V6 => ∃ x4_ : Int, r5_ = .int .u64 x4_ ∧ (∀ V7 : View, V6.Le V7 → R (.agg #[.int .i64 (IntKind.i64.wrap x4_), .int .i64 0, .pointer none]) V7))))) ∧ ((s1 == (0 : Int)) = false → (∃ z5_ : Unit, (((0 : Nat) = 0) ∧ ((0 : Nat) = 0) ∧ ((0 : Nat) = 0) ∧ (r0 = r0) ∧ (r1 = r1) ∧ ((r2 : Option Addr) = r2) ∧ (s0 = s0) ∧ (s1 = s1) ∧ ((s2 : Option Addr) = s2) ∧ ((0 : Int) = (0 : Int)) ∧ ((0 : Int) = (0 : Int)) ∧ ((none : Option Addr) = none)) ∧ I1_ z5_ V))) ∧ ∀ (z6_ : Unit) (V8 : View), V.Le V8 → I1_ z6_ V8 → (true = true ∧ (∀ V9 : View, V8.Le V9 → Acts prog 89 #[.agg #[.int .i64 r0, .int .i64 r1, .pointer r2]] V9 fun r9_ V10 => ∃ (p7_ : Option Addr) (n7_ c7_ : Nat), r9_ = .slice p7_ n7_ c7_ ∧ (∀ V11 : View, V10.Le V11 → Acts prog 89 #[.agg #[.int .i64 s0, .int .i64 s1, .pointer s2]] V11 fun r11_ V12 => ∃ (p8_ : Option Addr) (n8_ c8_ : Nat), r11_ = .slice p8_ n8_ c8_ ∧ (∀ V13 : View, V12.Le V13 → Acts prog 88 #[.slice p7_ n7_ c7_, .slice p8_ n8_ c8_] V13 fun r13_ V14 => ∃ (p9_ : Option Addr) (n9_ c9_ : Nat), r13_ = .slice p9_ n9_ c9_ ∧ (∀ V15 : View, V14.Le V15 → Acts prog 74 #[.agg #[.int .i64 r0, .int .i64 r1, .pointer r2]] V15 fun r15_ V16 => ∃ b10_ : Bool, ∃ (p11_ : Option Addr) (n11_ c11_ : Nat), r15_ = .agg #[.bool b10_, .slice p11_ n11_ c11_] ∧ (∀ V17 : View, V16.Le V17 → Acts prog 89 #[.agg #[.int .i64 s0, .int .i64 s1, .pointer s2]] V17 fun r17_ V18 => ∃ (p12_ : Option Addr) (n12_ c12_ : Nat), r17_ = .slice p12_ n12_ c12_ ∧ (∀ V19 : View, V18.Le V19 → Acts prog 88 #[.slice p11_ n11_ c11_, .slice p12_ n12_ c12_] V19 fun r19_ V20 => ∃ (p13_ : Option Addr) (n13_ c13_ : Nat), r19_ = .slice p13_ n13_ c13_ ∧ (∀ V21 : View, V20.Le V21 → Acts prog 74 #[.agg #[.int .i64 s0, .int .i64 s1, .pointer s2]] V21 fun r21_ V22 => ∃ b14_ : Bool, ∃ (p15_ : Option Addr) (n15_ c15_ : Nat), r21_ = .agg #[.bool b14_, .slice p15_ n15_ c15_] ∧ (∀ V23 : View, V22.Le V23 → Acts prog 89 #[.agg #[.int .i64 r0, .int .i64 r1, .pointer r2]] V23 fun r23_ V24 => ∃ (p16_ : Option Addr) (n16_ c16_ : Nat), r23_ = .slice p16_ n16_ c16_ ∧ (∀ V25 : View, V24.Le V25 → Acts prog 88 #[.slice p15_ n15_ c15_, .slice p16_ n16_ c16_] V25 fun r25_ V26 => ∃ (p17_ : Option Addr) (n17_ c17_ : Nat), r25_ = .slice p17_ n17_ c17_ ∧ (∀ V27 : View, V26.Le V27 → Acts prog 90 #[.slice p13_ n13_ c13_, .slice p17_ n17_ c17_] V27 fun r27_ V28 => ∃ (p18_ : Option Addr) (n18_ c18_ : Nat), r27_ = .slice p18_ n18_ c18_ ∧ (∀ V29 : View, V28.Le V29 → Acts prog 85 #[.agg #[.bool false, .slice p18_ n18_ c18_], .slice p9_ n9_ c9_] V29 fun r29_ V30 => ∃ x19_ : Int, ∃ x20_ : Int, ∃ p21_ : Option Addr, r29_ = .agg #[.int .i64 x19_, .int .i64 x20_, .pointer p21_] ∧ (∀ V31 : View, V30.Le V31 → R (.agg #[.int .i64 x19_, .int .i64 x20_, .pointer p21_]) V31))))))))))))))) ∧ ((r1 == (0 : Int)) = false → (∀ V32 : View, V.Le V32 → Acts prog 89 #[.agg #[.int .i64 r0, .int .i64 r1, .pointer r2]] V32 fun r32_ V33 => ∃ (p22_ : Option Addr) (n22_ c22_ : Nat), r32_ = .slice p22_ n22_ c22_ ∧ (∀ V34 : View, V33.Le V34 → Acts prog 89 #[.agg #[.int .i64 s0, .int .i64 s1, .pointer s2]] V34 fun r34_ V35 => ∃ (p23_ : Option Addr) (n23_ c23_ : Nat), r34_ = .slice p23_ n23_ c23_ ∧ (∀ V36 : View, V35.Le V36 → Acts prog 88 #[.slice p22_ n22_ c22_, .slice p23_ n23_ c23_] V36 fun r36_ V37 => ∃ (p24_ : Option Addr) (n24_ c24_ : Nat), r36_ = .slice p24_ n24_ c24_ ∧ (∀ V38 : View, V37.Le V38 → Acts prog 74 #[.agg #[.int .i64 r0, .int .i64 r1, .pointer r2]] V38 fun r38_ V39 => ∃ b25_ : Bool, ∃ (p26_ : Option Addr) (n26_ c26_ : Nat), r38_ = .agg #[.bool b25_, .slice p26_ n26_ c26_] ∧ (∀ V40 : View, V39.Le V40 → Acts prog 89 #[.agg #[.int .i64 s0, .int .i64 s1, .pointer s2]] V40 fun r40_ V41 => ∃ (p27_ : Option Addr) (n27_ c27_ : Nat), r40_ = .slice p27_ n27_ c27_ ∧ (∀ V42 : View, V41.Le V42 → Acts prog 88 #[.slice p26_ n26_ c26_, .slice p27_ n27_ c27_] V42 fun r42_ V43 => ∃ (p28_ : Option Addr) (n28_ c28_ : Nat), r42_ = .slice p28_ n28_ c28_ ∧ (∀ V44 : View, V43.Le V44 → Acts prog 74 #[.agg #[.int .i64 s0, .int .i64 s1, .pointer s2]] V44 fun r44_ V45 => ∃ b29_ : Bool, ∃ (p30_ : Option Addr) (n30_ c30_ : Nat), r44_ = .agg #[.bool b29_, .slice p30_ n30_ c30_] ∧ (∀ V46 : View, V45.Le V46 → Acts prog 89 #[.agg #[.int .i64 r0, .int .i64 r1, .pointer r2]] V46 fun r46_ V47 => ∃ (p31_ : Option Addr) (n31_ c31_ : Nat), r46_ = .slice p31_ n31_ c31_ ∧ (∀ V48 : View, V47.Le V48 → Acts prog 88 #[.slice p30_ n30_ c30_, .slice p31_ n31_ c31_] V48 fun r48_ V49 => ∃ (p32_ : Option Addr) (n32_ c32_ : Nat), r48_ = .slice p32_ n32_ c32_ ∧ (∀ V50 : View, V49.Le V50 → Acts prog 90 #[.slice p28_ n28_ c28_, .slice p32_ n32_ c32_] V50 fun r50_ V51 => ∃ (p33_ : Option Addr) (n33_ c33_ : Nat), r50_ = .slice p33_ n33_ c33_ ∧ (∀ V52 : View, V51.Le V52 → Acts prog 85 #[.agg #[.bool false, .slice p33_ n33_ c33_], .slice p24_ n24_ c24_] V52 fun r52_ V53 => ∃ x34_ : Int, ∃ x35_ : Int, ∃ p36_ : Option Addr, r52_ = .agg #[.int .i64 x34_, .int .i64 x35_, .pointer p36_] ∧ (∀ V54 : View, V53.Le V54 → R (.agg #[.int .i64 x34_, .int .i64 x35_, .pointer p36_]) V54))))))))))))))) ∧ (s2.isNone = false → (∀ V55 : View, V.Le V55 → Acts prog 89 #[.agg #[.int .i64 r0, .int .i64 r1, .pointer r2]] V55 fun r55_ V56 => ∃ (p37_ : Option Addr) (n37_ c37_ : Nat), r55_ = .slice p37_ n37_ c37_ ∧ (∀ V57 : View, V56.Le V57 → Acts prog 89 #[.agg #[.int .i64 s0, .int .i64 s1, .pointer s2]] V57 fun r57_ V58 => ∃ (p38_ : Option Addr) (n38_ c38_ : Nat), r57_ = .slice p38_ n38_ c38_ ∧ (∀ V59 : View, V58.Le V59 → Acts prog 88 #[.slice p37_ n37_ c37_, .slice p38_ n38_ c38_] V59 fun r59_ V60 => ∃ (p39_ : Option Addr) (n39_ c39_ : Nat), r59_ = .slice p39_ n39_ c39_ ∧ (∀ V61 : View, V60.Le V61 → Acts prog 74 #[.agg #[.int .i64 r0, .int .i64 r1, .pointer r2]] V61 fun r61_ V62 => ∃ b40_ : Bool, ∃ (p41_ : Option Addr) (n41_ c41_ : Nat), r61_ = .agg #[.bool b40_, .slice p41_ n41_ c41_] ∧ (∀ V63 : View, V62.Le V63 → Acts prog 89 #[.agg #[.int .i64 s0, .int .i64 s1, .pointer s2]] V63 fun r63_ V64 => ∃ (p42_ : Option Addr) (n42_ c42_ : Nat), r63_ = .slice p42_ n42_ c42_ ∧ (∀ V65 : View, V64.Le V65 → Acts prog 88 #[.slice p41_ n41_ c41_, .slice p42_ n42_ c42_] V65 fun r65_ V66 => ∃ (p43_ : Option Addr) (n43_ c43_ : Nat), r65_ = .slice p43_ n43_ c43_ ∧ (∀ V67 : View, V66.Le V67 → Acts prog 74 #[.agg #[.int .i64 s0, .int .i64 s1, .pointer s2]] V67 fun r67_ V68 => ∃ b44_ : Bool, ∃ (p45_ : Option Addr) (n45_ c45_ : Nat), r67_ = .agg #[.bool b44_, .slice p45_ n45_ c45_] ∧ (∀ V69 : View, V68.Le V69 → Acts prog 89 #[.agg #[.int .i64 r0, .int .i64 r1, .pointer r2]] V69 fun r69_ V70 => ∃ (p46_ : Option Addr) (n46_ c46_ : Nat), r69_ = .slice p46_ n46_ c46_ ∧ (∀ V71 : View, V70.Le V71 → Acts prog 88 #[.slice p45_ n45_ c45_, .slice p46_ n46_ c46_] V71 fun r71_ V72 => ∃ (p47_ : Option Addr) (n47_ c47_ : Nat), r71_ = .slice p47_ n47_ c47_ ∧ (∀ V73 : View, V72.Le V73 → Acts prog 90 #[.slice p43_ n43_ c43_, .slice p47_ n47_ c47_] V73 fun r73_ V74 => ∃ (p48_ : Option Addr) (n48_ c48_ : Nat), r73_ = .slice p48_ n48_ c48_ ∧ (∀ V75 : View, V74.Le V75 → Acts prog 85 #[.agg #[.bool false, .slice p48_ n48_ c48_], .slice p39_ n39_ c39_] V75 fun r75_ V76 => ∃ x49_ : Int, ∃ x50_ : Int, ∃ p51_ : Option Addr, r75_ = .agg #[.int .i64 x49_, .int .i64 x50_, .pointer p51_] ∧ (∀ V77 : View, V76.Le V77 → R (.agg #[.int .i64 x49_, .int .i64 x50_, .pointer p51_]) V77))))))))))))))) ∧ (r2.isNone = false → (∀ V78 : View, V.Le V78 → Acts prog 89 #[.agg #[.int .i64 r0, .int .i64 r1, .pointer r2]] V78 fun r78_ V79 => ∃ (p52_ : Option Addr) (n52_ c52_ : Nat), r78_ = .slice p52_ n52_ c52_ ∧ (∀ V80 : View, V79.Le V80 → Acts prog 89 #[.agg #[.int .i64 s0, .int .i64 s1, .pointer s2]] V80 fun r80_ V81 => ∃ (p53_ : Option Addr) (n53_ c53_ : Nat), r80_ = .slice p53_ n53_ c53_ ∧ (∀ V82 : View, V81.Le V82 → Acts prog 88 #[.slice p52_ n52_ c52_, .slice p53_ n53_ c53_] V82 fun r82_ V83 => ∃ (p54_ : Option Addr) (n54_ c54_ : Nat), r82_ = .slice p54_ n54_ c54_ ∧ (∀ V84 : View, V83.Le V84 → Acts prog 74 #[.agg #[.int .i64 r0, .int .i64 r1, .pointer r2]] V84 fun r84_ V85 => ∃ b55_ : Bool, ∃ (p56_ : Option Addr) (n56_ c56_ : Nat), r84_ = .agg #[.bool b55_, .slice p56_ n56_ c56_] ∧ (∀ V86 : View, V85.Le V86 → Acts prog 89 #[.agg #[.int .i64 s0, .int .i64 s1, .pointer s2]] V86 fun r86_ V87 => ∃ (p57_ : Option Addr) (n57_ c57_ : Nat), r86_ = .slice p57_ n57_ c57_ ∧ (∀ V88 : View, V87.Le V88 → Acts prog 88 #[.slice p56_ n56_ c56_, .slice p57_ n57_ c57_] V88 fun r88_ V89 => ∃ (p58_ : Option Addr) (n58_ c58_ : Nat), r88_ = .slice p58_ n58_ c58_ ∧ (∀ V90 : View, V89.Le V90 → Acts prog 74 #[.agg #[.int .i64 s0, .int .i64 s1, .pointer s2]] V90 fun r90_ V91 => ∃ b59_ : Bool, ∃ (p60_ : Option Addr) (n60_ c60_ : Nat), r90_ = .agg #[.bool b59_, .slice p60_ n60_ c60_] ∧ (∀ V92 : View, V91.Le V92 → Acts prog 89 #[.agg #[.int .i64 r0, .int .i64 r1, .pointer r2]] V92 fun r92_ V93 => ∃ (p61_ : Option Addr) (n61_ c61_ : Nat), r92_ = .slice p61_ n61_ c61_ ∧ (∀ V94 : View, V93.Le V94 → Acts prog 88 #[.slice p60_ n60_ c60_, .slice p61_ n61_ c61_] V94 fun r94_ V95 => ∃ (p62_ : Option Addr) (n62_ c62_ : Nat), r94_ = .slice p62_ n62_ c62_ ∧ (∀ V96 : View, V95.Le V96 → Acts prog 90 #[.slice p58_ n58_ c58_, .slice p62_ n62_ c62_] V96 fun r96_ V97 => ∃ (p63_ : Option Addr) (n63_ c63_ : Nat), r96_ = .slice p63_ n63_ c63_ ∧ (∀ V98 : View, V97.Le V98 → Acts prog 85 #[.agg #[.bool false, .slice p63_ n63_ c63_], .slice p54_ n54_ c54_] V98 fun r98_ V99 => ∃ x64_ : Int, ∃ x65_ : Int, ∃ p66_ : Option Addr, r98_ = .agg #[.int .i64 x64_, .int .i64 x65_, .pointer p66_] ∧ (∀ V100 : View, V99.Le V100 → R (.agg #[.int .i64 x64_, .int .i64 x65_, .pointer p66_]) V100))))))))))))))) :
    Acts prog 69 #[.agg #[.int .i64 r0, .int .i64 r1, .pointer r2], .agg #[.int .i64 s0, .int .i64 s1, .pointer s2]] V R :=
  fn_does (LF := [8, 20, 25, 46, 48, 52, 93, 24, 1000024]) (RF := [1000006]) (β0 := (fun _ => 0)) tab_ok mixed [] [(2, { τ := Unit, keep := [2, 3, 4], keepB := [2, 3, 4], slots := fun z => [], boxes := fun z => [] })] func69 (by kernel_rfl)
    [(0, .agg [.v (.int .i64 r0), .v (.int .i64 r1), .v (.pointer r2)]), (1, .agg [.v (.int .i64 s0), .v (.int .i64 s1), .v (.pointer s2)])]
    [] (by kernel_rfl) trivial h (by kernel_rfl)

end Go.Proofs.Tryz
/- Contracts of package frac: reduce, Num, Den, words. -/
namespace Go.Eng
open Go.Big
/-- A number that fits machine words. -/
def Wd (q : Rat) : Prop := q.num.natAbs < 4611686018427387904 ∧ q.den < 4611686018427387904
/-- A rational number of package frac. -/
def RR (V : View) (v : Value) (q : Rat) : Prop :=
  (v = .agg #[.int .i64 q.num, .int .i64 ((q.den : Int) - 1), .pointer none] ∧ Wd q) ∨
  (∃ a b p n c p' n' c', v = .agg #[.int .i64 0, .int .i64 0, .pointer (some a)] ∧ V.at (a.add 0) (.bool b) ∧ V.at (a.add 1) (.slice p n c) ∧ V.at (a.add 2) (.slice p' n' c') ∧
    RI V (.agg #[.bool b, .slice p n c]) q.num ∧ RD V p' n' c' (digs q.den) ∧ ¬ Wd q)
theorem RR.le {V V' : View} {v : Value} {q : Rat} (h : RR V v q) (l : V.Le V') : RR V' v q := by
  rcases h with h | ⟨a, b, p, n, c, p', n', c', e, h1, h2, h3, h4, h5, h6⟩
  · exact .inl h
  · exact .inr ⟨a, b, p, n, c, p', n', c', e, l.at h1, l.at h2, l.at h3, h4.le l, h5.le l, h6⟩
/-- Its size: binary digits. -/
def Sz (k : Nat) (q : Rat) : Prop := q.num.natAbs < 2 ^ k ∧ q.den < 2 ^ k
theorem Sz.mono {k m : Nat} {q : Rat} (h : Sz k q) (hm : k ≤ m) : Sz m q :=
  ⟨Nat.lt_of_lt_of_le h.1 (Nat.pow_le_pow_right (by omega) hm), Nat.lt_of_lt_of_le h.2 (Nat.pow_le_pow_right (by omega) hm)⟩
theorem digs_len_bits {n k : Nat} (h : n < 2 ^ k) : (digs n).length ≤ k := by
  rw [digs_len_le]
  exact Nat.lt_of_lt_of_le h (Nat.pow_le_pow_left (by omega) k)
theorem Wd.sz {q : Rat} (h : Wd q) : Sz 62 q := h
theorem RR.shape {V : View} {v : Value} {q : Rat} (h : RR V v q) : ∃ (n d : Int) (p : Option Addr), v = .agg #[.int .i64 n, .int .i64 d, .pointer p] := by
  rcases h with ⟨e, -⟩ | ⟨a, b, p, n, c, p', n', c', e, -⟩
  · exact ⟨_, _, _, e⟩
  · exact ⟨_, _, _, e⟩
end Go.Eng
namespace Go.Proofs.Tryz
open Go.Eng Go.Big

theorem blen62 (n : Nat) : decide ((blen n : Int) ≤ 62) = decide (n < 4611686018427387904) := by
  have := @blen_le n 62
  rw [Bool.eq_iff_iff, decide_eq_true_eq, decide_eq_true_eq]
  omega

/-- num / den in lowest terms. -/
theorem mkRat_low {z : Int} {d : Nat} (hd : d ≠ 0) (hg : Nat.gcd z.natAbs d = 1) : (mkRat z d).num = z ∧ (mkRat z d).den = d := by
  have : Nat.gcd d z.natAbs = 1 := by rw [Nat.gcd_comm]; exact hg
  rw [Rat.num_mkRat, Rat.den_mkRat, if_neg hd, if_neg hd, this]
  simp

theorem c_frac_reduce {V : View} (b : Bool) {p q : Option Addr} {n c m e : Nat} {xs ys : List Nat} (hx : RD V p n c xs) (hy : RD V q m e ys) (hm : xs.length ≤ 1099511627776) (hn : ys.length ≤ 1099511627776) :
    Acts prog 85 #[.agg #[.bool b, .slice p n c], .slice q m e] V fun r V' => RR V' r (mkRat (ival b xs) (val ys)) := by
  have zero : ∀ V' : View, RR V' (.agg #[.int .i64 0, .int .i64 0, .pointer none]) 0 := fun V' => .inl ⟨rfl, by unfold Wd; decide⟩
  refine vc_frac_reduce b p n c q m e V _ fun V1 l1 => (c_nat_Bits (hy.le l1) hn).mono ?_
  rintro r V2 l2 rfl
  refine ⟨_, rfl, fun h0 V3 l3 => ?_, fun h0 V4 l4 => (c_integer_Sign b (hx.le (l1.trans (l2.trans l4))) hm).mono ?_⟩
  · have : val ys = 0 := blen_zero.1 (by simp at h0; omega)
    rw [this, Rat.mkRat_zero]; exact zero _
  rintro r V5 l5 rfl
  have hy0 : val ys ≠ 0 := fun e => by simp [blen_zero.2 e] at h0
  refine ⟨_, rfl, fun h1 V6 l6 => ?_, fun h1 V7 l7 => ?_⟩
  · have : ival b xs = 0 := Int.sign_eq_zero_iff_zero.1 (by simpa using h1)
    rw [this, Rat.zero_mkRat]; exact zero _
  have hx0 : ival b xs ≠ 0 := fun e => by simp [e] at h1
  have hx0' : val xs ≠ 0 := by rw [← ival_natAbs b xs]; omega
  replace hx := hx.le (l1.trans (l2.trans (l4.trans (l5.trans l7))))
  replace hy := hy.le (l1.trans (l2.trans (l4.trans (l5.trans l7))))
  refine (c_nat_Gcd hx hy hm hn).mono ?_
  rintro r V8 l8 ⟨p3, n3, c3, rfl, hg⟩
  replace hx := hx.le l8
  replace hy := hy.le l8
  have hgl : Nat.gcd (val xs) (val ys) ≤ val ys := Nat.le_of_dvd (by omega) (Nat.gcd_dvd_right _ _)
  have hgd : (digs (Nat.gcd (val xs) (val ys))).length ≤ 1099511627776 := Nat.le_trans (digs_len_mono hgl) (by have := digs_val_len hy.dig; omega)
  have hgp : Nat.gcd (val xs) (val ys) ≠ 0 := by
    intro e0; exact hx0' (Nat.eq_zero_of_gcd_eq_zero_left e0)
  refine ⟨_, _, _, rfl, fun V9 l9 => (c_nat_Bits (hg.le l9) hgd).mono ?_⟩
  rintro r V10 l10 rfl
  rw [val_digs]
  replace hx := hx.le (l9.trans l10)
  replace hy := hy.le (l9.trans l10)
  replace hg := hg.le (l9.trans l10)
  -- in lowest terms
  refine ⟨_, rfl, fun z V' => ∃ (us vs : List Nat), z.2.2.2.1 = b ∧ RD V' z.2.2.2.2.1 z.2.2.2.2.2.1 z.2.2.2.2.2.2 us ∧ RD V' z.1 z.2.1 z.2.2.1 vs ∧ us.length ≤ 1099511627776 ∧ vs.length ≤ 1099511627776 ∧ val vs ≠ 0 ∧
    Nat.gcd (val us) (val vs) = 1 ∧ mkRat (ival b xs) (val ys) = mkRat (ival b us) (val vs), ⟨fun h2 V11 l11 => ?_, fun h2 => ?_⟩, ?_⟩
  · refine (c_nat_DivMod (hx.le l11) (hg.le l11) hm hgd (by rw [val_digs]; exact hgp)).mono ?_
    rintro r V12 l12 ⟨p4, n4, c4, p5, n5, c5, rfl, g1, g2⟩
    refine ⟨_, _, _, _, _, _, _, rfl, fun V13 l13 => (c_nat_DivMod (hy.le (l11.trans (l12.trans l13))) (hg.le (l11.trans (l12.trans l13))) hn hgd (by rw [val_digs]; exact hgp)).mono ?_⟩
    rintro r V14 l14 ⟨p6, n6, c6, p7, n7, c7, rfl, g3, g4⟩
    rw [val_digs] at g1 g3
    have e1 : val (digs (val xs / Nat.gcd (val xs) (val ys))) = val xs / Nat.gcd (val xs) (val ys) := val_digs _
    have e2 : val (digs (val ys / Nat.gcd (val xs) (val ys))) = val ys / Nat.gcd (val xs) (val ys) := val_digs _
    have d1 := Nat.gcd_dvd_left (val xs) (val ys)
    have d2 := Nat.gcd_dvd_right (val xs) (val ys)
    have hdy : val ys / Nat.gcd (val xs) (val ys) ≠ 0 := by
      intro e0
      have := Nat.div_mul_cancel d2
      rw [e0, Nat.zero_mul] at this
      exact hy0 this.symm
    refine ⟨_, _, _, _, _, _, _, rfl, (p6, n6, c6, b, p4, n4, c4), by (try dsimp only); and_intros <;> trivial, _, _, rfl, g1.le (l13.trans l14), g3, ?_, ?_, ?_, ?_, ?_⟩
    · exact Nat.le_trans (digs_len_mono (Nat.div_le_self _ _)) (by have := digs_val_len hx.dig; omega)
    · exact Nat.le_trans (digs_len_mono (Nat.div_le_self _ _)) (by have := digs_val_len hy.dig; omega)
    · rw [e2]; exact hdy
    · rw [e1, e2]; exact Nat.gcd_div_gcd_div_gcd_of_pos_left (by omega)
    · rw [e2]
      have k1 : val ys = val ys / Nat.gcd (val xs) (val ys) * Nat.gcd (val xs) (val ys) := (Nat.div_mul_cancel d2).symm
      have k2 : ival b xs = ival b (digs (val xs / Nat.gcd (val xs) (val ys))) * (Nat.gcd (val xs) (val ys) : Nat) := by
        have k3 : (val xs : Int) = ((val xs / Nat.gcd (val xs) (val ys) : Nat) : Int) * (Nat.gcd (val xs) (val ys) : Nat) := by
          rw [← Int.natCast_mul, Nat.div_mul_cancel d1]
        unfold ival
        rw [e1]
        cases b
        · simpa using k3
        · simp only [if_true]; rw [Int.neg_mul, ← k3]
      conv => lhs; rw [k1, k2]
      exact Rat.mkRat_mul_right hgp
  · have hg1 : Nat.gcd (val xs) (val ys) = 1 := by
      have h3 : ¬ (1 < blen (Nat.gcd (val xs) (val ys))) := by simp at h2; omega
      have := @blen_le (Nat.gcd (val xs) (val ys)) 1
      omega
    exact ⟨(q, m, e, b, p, n, c), by (try dsimp only); and_intros <;> trivial, xs, ys, rfl, hx, hy, hm, hn, hy0, hg1, rfl⟩
  · rintro ⟨q, m, e, b', p, n, c⟩ V15 l15 ⟨us, vs, hbb, hu, hv, hul, hvl, hv0, hgc, hq⟩
    dsimp only at hbb hu hv ⊢
    subst hbb
    rw [hq]
    obtain ⟨hnum, hden⟩ := mkRat_low (z := ival b' us) hv0 (by rw [ival_natAbs]; exact hgc)
    generalize mkRat (ival b' us) (val vs) = w at *
    have hW : Wd w ↔ val us < 4611686018427387904 ∧ val vs < 4611686018427387904 := by
      unfold Wd; rw [hnum, hden, ival_natAbs]
    have big : ∀ V1 : View, V15.Le V1 → ¬ Wd w → Acts prog 96 #[.agg #[.bool b', .slice p n c]] V1 fun r V2 => ∃ (b1_ : Bool) (p2_ : Option Addr) (n2_ c2_ : Nat), r = .agg #[.bool b1_, .slice p2_ n2_ c2_] ∧
        (∀ V3 : View, V2.Le V3 → Acts prog 109 #[.slice q m e] V3 fun r V4 => ∃ (p3_ : Option Addr) (n3_ c3_ : Nat), r = .slice p3_ n3_ c3_ ∧
        (∀ V5 : View, V4.Le V5 → ∀ bk : Nat, V5.blk bk (.cells #[.bool b1_, .slice p2_ n2_ c2_, .slice p3_ n3_ c3_] 172 (0, 0)) → RR V5 (.agg #[.int .i64 0, .int .i64 0, .pointer (some ⟨bk, 0, none⟩)]) w)) := by
      intro V1 l1 hw
      refine (c_integer_Norm b' (hu.le l1) hul).mono ?_
      rintro r V2 l2 hri
      obtain ⟨p2, n2, c2, rfl, h2⟩ := hri
      have hri : RI V2 (.agg #[.bool (decide (ival b' us < 0)), .slice p2 n2 c2]) (ival b' us) := ⟨_, _, _, rfl, h2⟩
      refine ⟨_, _, _, _, rfl, fun V3 l3 => (c_nat_Norm (hv.le (l1.trans (l2.trans l3))) hvl).mono ?_⟩
      rintro r V4 l4 ⟨p3, n3, c3, rfl, h3⟩
      refine ⟨_, _, _, rfl, fun V5 l5 bk hb => .inr ⟨⟨bk, 0, none⟩, decide (ival b' us < 0), p2, n2, c2, p3, n3, c3, rfl, ?_, ?_, ?_, ?_, ?_, hw⟩⟩
      · rw [add_zero']; exact blk_at (xs := [_, _, _]) hb rfl
      · rw [add_zero']; exact blk_at (xs := [_, _, _]) hb rfl
      · rw [add_zero']; exact blk_at (xs := [_, _, _]) hb rfl
      · rw [hnum]; exact hri.le (l3.trans (l4.trans l5))
      · rw [hden]; exact h3.le l5
    refine ⟨by trivial, fun V16 l16 => (c_nat_Bits (hu.le l16) hul).mono ?_⟩
    rintro r V17 l17 rfl
    refine ⟨_, rfl, fun h3 V18 l18 => (c_nat_Bits (hv.le (l16.trans (l17.trans l18))) hvl).mono ?_, fun h3 V30 l30 => big V30 (l16.trans (l17.trans l30)) ?_⟩
    · rintro r V19 l19 rfl
      rw [blen62, decide_eq_true_eq] at h3
      refine ⟨_, rfl, fun h4 V20 l20 => ?_, fun h4 V25 l25 => big V25 (l16.trans (l17.trans (l18.trans (l19.trans l25)))) ?_⟩
      · rw [blen62, decide_eq_true_eq] at h4
        refine (c_integer_Int64 b' (hu.le (l16.trans (l17.trans (l18.trans (l19.trans l20))))) hul h3).mono ?_
        rintro r V21 l21 rfl
        refine ⟨_, _, rfl, fun V22 l22 => (c_nat_Uint (hv.le (l16.trans (l17.trans (l18.trans (l19.trans (l20.trans (l21.trans l22))))))) hvl).mono ?_⟩
        rintro r V23 l23 rfl
        rw [if_pos (by omega)]
        refine ⟨_, _, rfl, fun V24 l24 => .inl ⟨?_, hW.2 ⟨h3, h4⟩⟩⟩
        rw [i64w (x := ((val vs : Nat) : Int)) (by omega), i64w (by omega), hnum, hden]
      · rw [blen62, decide_eq_false_iff_not] at h4
        rw [hW]; omega
    · rw [blen62, decide_eq_false_iff_not] at h3
      rw [hW]; omega
end Go.Proofs.Tryz
