/- A part of the proof (joined by program from: Bits, BitsB, VNat, NatA, NatB, NatC). -/
import Derived.Test.YtecldfbdkdkajaaGreatDoorM6
import Derived.Test.YtecldfbdkdkajaaGreatDoorM5
set_option linter.unusedVariables false
/- Contracts of package math/bits. -/
namespace Go.Big
/-- The number of binary digits. -/
def blen (n : Nat) : Nat := if n = 0 then 0 else n.log2 + 1
theorem lt_blen (n : Nat) : n < 2 ^ blen n := by
  unfold blen; split
  · subst_vars; decide
  · exact Nat.lt_log2_self
theorem le_blen {n : Nat} (h : n ≠ 0) : 2 ^ (blen n - 1) ≤ n := by
  unfold blen; rw [if_neg h]; exact Nat.log2_self_le h
theorem blen_unique {n b : Nat} (h0 : n < 2 ^ b) (h1 : b = 0 ∨ 2 ^ (b - 1) ≤ n) : blen n = b := by
  rcases h1 with h1 | h1
  · subst h1; have : n = 0 := by simpa using h0
    subst this; rfl
  · have hn : n ≠ 0 := by have := Nat.two_pow_pos (b - 1); omega
    have g0 := lt_blen n
    have g1 := le_blen hn
    have e1 : ¬ blen n < b := fun h => by have := Nat.pow_le_pow_right (n := 2) (by omega) (show blen n ≤ b - 1 by omega); omega
    have e2 : ¬ b < blen n := fun h => by have := Nat.pow_le_pow_right (n := 2) (by omega) (show b ≤ blen n - 1 by omega); omega
    omega
theorem blen_le {n b : Nat} : blen n ≤ b ↔ n < 2 ^ b := by
  constructor
  · intro h; exact Nat.lt_of_lt_of_le (lt_blen n) (Nat.pow_le_pow_right (by omega) h)
  · intro h
    rcases Nat.lt_or_ge b (blen n) with h' | h'
    · have hn : n ≠ 0 := by intro e; subst e; simp [blen] at h'
      have := le_blen hn
      have := Nat.pow_le_pow_right (n := 2) (by omega) (show b ≤ blen n - 1 by omega)
      omega
    · exact h'
theorem blen_shift {n k : Nat} (h : 2 ^ k ≤ n) : blen (n / 2 ^ k) + k = blen n := by
  have hp := Nat.two_pow_pos k
  have hq : n / 2 ^ k ≠ 0 := by have := Nat.div_pos h hp; omega
  have g0 := lt_blen (n / 2 ^ k)
  have g1 := le_blen hq
  refine (blen_unique ?_ (.inr ?_)).symm
  · rw [Nat.pow_add]; exact (Nat.div_lt_iff_lt_mul hp).1 g0
  · have hb : 0 < blen (n / 2 ^ k) := by unfold blen; rw [if_neg hq]; omega
    rw [show blen (n / 2 ^ k) + k - 1 = blen (n / 2 ^ k) - 1 + k from by omega, Nat.pow_add]
    exact (Nat.le_div_iff_mul_le hp).1 g1
end Go.Big
namespace Go.Proofs.Tryz
open Go.Eng Go.Big

theorem fdiv_nat (a k : Nat) : ((a : Nat) : Int).fdiv (2 ^ k) = ((a / 2 ^ k : Nat) : Int) := by
  rw [Int.fdiv_eq_ediv_of_nonneg _ (by have := Int.pow_pos (n := 2) (m := k) (by omega); omega)]
  simp

def len8 : ByteArray := ⟨#[0, 1, 2, 2, 3, 3, 3, 3, 4, 4, 4, 4, 4, 4, 4, 4, 5, 5, 5, 5, 5, 5, 5, 5, 5, 5, 5, 5, 5, 5, 5, 5, 6, 6, 6, 6, 6, 6, 6, 6, 6, 6, 6, 6, 6, 6, 6, 6, 6, 6, 6, 6, 6, 6, 6, 6, 6, 6, 6, 6, 6, 6, 6, 6, 7, 7, 7, 7, 7, 7, 7, 7, 7, 7, 7, 7, 7, 7, 7, 7, 7, 7, 7, 7, 7, 7, 7, 7, 7, 7, 7, 7, 7, 7, 7, 7, 7, 7, 7, 7, 7, 7, 7, 7, 7, 7, 7, 7, 7, 7, 7, 7, 7, 7, 7, 7, 7, 7, 7, 7, 7, 7, 7, 7, 7, 7, 7, 7, 8, 8, 8, 8, 8, 8, 8, 8, 8, 8, 8, 8, 8, 8, 8, 8, 8, 8, 8, 8, 8, 8, 8, 8, 8, 8, 8, 8, 8, 8, 8, 8, 8, 8, 8, 8, 8, 8, 8, 8, 8, 8, 8, 8, 8, 8, 8, 8, 8, 8, 8, 8, 8, 8, 8, 8, 8, 8, 8, 8, 8, 8, 8, 8, 8, 8, 8, 8, 8, 8, 8, 8, 8, 8, 8, 8, 8, 8, 8, 8, 8, 8, 8, 8, 8, 8, 8, 8, 8, 8, 8, 8, 8, 8, 8, 8, 8, 8, 8, 8, 8, 8, 8, 8, 8, 8, 8, 8, 8, 8, 8, 8, 8, 8, 8, 8, 8, 8, 8, 8, 8, 8, 8, 8, 8, 8, 8, 8]⟩
set_option maxRecDepth 10000 in
theorem c_Len32 {V : View} (x : Nat) (hx : x < 4294967296) :
    Acts prog 116 #[.int .u32 (x : Int)] V fun r V' => r = .int .i64 (blen x : Int) := by
  refine vc_math_bits_Len32 _ V _ ⟨fun z _ => ∃ y b : Nat, z = ((y : Int), (b : Int)) ∧ y < 65536 ∧ b ≤ 16 ∧ blen x = blen y + b, ⟨fun h0 => ⟨by omega, ?_⟩, fun h0 => ?_⟩, ?_⟩
  · rw [fdiv_nat]
    have h0 : 2 ^ 16 ≤ x := by simp at h0; omega
    exact ⟨_, ⟨rfl, rfl⟩, x / 2 ^ 16, 16, rfl, by omega, by omega, (blen_shift h0).symm⟩
  · exact ⟨_, ⟨rfl, rfl⟩, x, 0, rfl, by simp at h0; omega, by omega, rfl⟩
  · rintro _ V1 l1 ⟨y, b, rfl, hy, hb, e⟩
    rw [e]; clear e
    refine ⟨by trivial, fun z _ => ∃ y' b' : Nat, z = ((y' : Int), (b' : Int)) ∧ y' < 256 ∧ b' ≤ 24 ∧ blen y + b = blen y' + b', ⟨fun h0 => ⟨by omega, ?_⟩, fun h0 => ?_⟩, ?_⟩
    · dsimp only at h0 ⊢
      rw [fdiv_nat]
      simp (disch := omega) only [i64w]
      have h0 : 2 ^ 8 ≤ y := by simp at h0; omega
      exact ⟨(((y / 2 ^ 8 : Nat) : Int), (b : Int) + 8), ⟨rfl, rfl⟩, y / 2 ^ 8, b + 8, by simp, by omega, by omega, by have := blen_shift h0; omega⟩
    · exact ⟨_, ⟨rfl, rfl⟩, y, b, rfl, by simp at h0; omega, by omega, rfl⟩
    · rintro _ V2 l2 ⟨y, b, rfl, hy, hb, e⟩
      rw [e]; clear e
      have hw : IntKind.u8.wrap (y : Int) = y := IntWalk.u8_in _ (by omega)
      dsimp only
      rw [hw]
      have hsz : (len8.size : Int) = 256 := rfl
      refine ⟨by trivial, ⟨by omega, by show (y : Int) < (len8.size : Int); rw [hsz]; omega⟩, fun V3 l3 => ?_⟩
      show Value.int .i64 (IntKind.i64.wrap (b + IntKind.i64.wrap ((len8.data.toList.getD (y : Int).toNat 0).toNat : Int))) = _
      congr 1
      have key : ∀ y : Nat, y < 256 → (len8.data.toList.getD y 0).toNat = blen y := by decide +kernel
      have hbl : blen y ≤ 8 := blen_le.2 (by omega)
      have := key y hy
      rw [Int.toNat_natCast, this]
      simp (disch := omega) only [i64w]
      omega

theorem c_LeadingZeros32 {V : View} (x : Nat) (hx : x < 4294967296) :
    Acts prog 101 #[.int .u32 (x : Int)] V fun r V' => r = .int .i64 (32 - (blen x : Int)) := by
  refine vc_math_bits_LeadingZeros32 _ V _ fun V1 l1 => (c_Len32 x hx).mono ?_
  rintro r V2 l2 rfl
  have hbl : blen x ≤ 32 := blen_le.2 (by omega)
  refine ⟨_, rfl, fun V3 l3 => ?_⟩
  simp (disch := omega) only [i64w]

theorem and64 (a : Nat) (ha : a < 18446744073709551616) : bitI .and .u64 (a : Int) 4294967295 = ((a % 4294967296 : Nat) : Int) := by
  rw [bitI, u64m]
  have h2 : (BitVec.ofInt IntKind.u64.bits ((a : Nat) : Int) &&& BitVec.ofInt IntKind.u64.bits 4294967295).toNat = a % 4294967296 := by
    show (BitVec.ofInt 64 ((a : Nat) : Int) &&& BitVec.ofInt 64 ((4294967295 : Nat) : Int)).toNat = _
    rw [BitVec.ofInt_natCast, BitVec.ofInt_natCast, BitVec.toNat_and, BitVec.toNat_ofNat, BitVec.toNat_ofNat, Nat.mod_eq_of_lt (by omega), Nat.mod_eq_of_lt (by omega)]
    have := Nat.and_two_pow_sub_one_eq_mod a 32
    exact this
  rw [h2]
  omega

theorem mul64_plain (a b c d : Nat) (ha : a < 4294967296) (hb : b < 4294967296) (hc : c < 4294967296) (hd : d < 4294967296) :
    a * c + (a * d + b * d / 4294967296) / 4294967296 + ((a * d + b * d / 4294967296) % 4294967296 + b * c) / 4294967296 = (a * 4294967296 + b) * (c * 4294967296 + d) / 18446744073709551616 ∧
    a * c ≤ 18446744065119617025 ∧ a * d ≤ 18446744065119617025 ∧ b * c ≤ 18446744065119617025 ∧ b * d ≤ 18446744065119617025 := by
  have h1 : a * c ≤ 4294967295 * 4294967295 := Nat.mul_le_mul (by omega) (by omega)
  have h2 : a * d ≤ 4294967295 * 4294967295 := Nat.mul_le_mul (by omega) (by omega)
  have h3 : b * c ≤ 4294967295 * 4294967295 := Nat.mul_le_mul (by omega) (by omega)
  have h4 : b * d ≤ 4294967295 * 4294967295 := Nat.mul_le_mul (by omega) (by omega)
  have e : (a * 4294967296 + b) * (c * 4294967296 + d) = (a * c) * 18446744073709551616 + (a * d) * 4294967296 + (b * c) * 4294967296 + b * d := by grind
  rw [e]
  generalize a * c = p at *
  generalize a * d = q at *
  generalize b * c = r at *
  generalize b * d = s at *
  refine ⟨by omega, by omega, by omega, by omega, by omega⟩

theorem c_Mul64 {V : View} (x y : Nat) (hx : x < 18446744073709551616) (hy : y < 18446744073709551616) :
    Acts prog 131 #[.int .u64 (x : Int), .int .u64 (y : Int)] V fun r V' => r = .tuple #[.int .u64 ((x * y / 18446744073709551616 : Nat) : Int), .int .u64 ((x * y % 18446744073709551616 : Nat) : Int)] := by
  refine vc_math_bits_Mul64 _ _ V _ ⟨by omega, by omega, by omega, by omega, by omega, fun V1 l1 => ?_⟩
  have p := mul64_plain (x / 4294967296) (x % 4294967296) (y / 4294967296) (y % 4294967296) (by omega) (by omega) (by omega) (by omega)
  rw [Nat.div_add_mod' x 4294967296, Nat.div_add_mod' y 4294967296] at p
  obtain ⟨p1, p2, p3, p4, p5⟩ := p
  have hlo : IntKind.u64.wrap ((x : Int) * y) = ((x * y % 18446744073709551616 : Nat) : Int) := by rw [u64m]; simp
  rw [hlo, and64 x hx, and64 y hy, shr32, shr32]
  rw [← p1]
  have hA : ((x : Int) / 4294967296) * ((y : Int) / 4294967296) = ((x / 4294967296 * (y / 4294967296) : Nat) : Int) := by simp
  have hB : ((x : Int) / 4294967296) * ((y % 4294967296 : Nat) : Int) = ((x / 4294967296 * (y % 4294967296) : Nat) : Int) := by simp
  have hC : ((x % 4294967296 : Nat) : Int) * ((y : Int) / 4294967296) = ((x % 4294967296 * (y / 4294967296) : Nat) : Int) := by simp
  have hD : ((x % 4294967296 : Nat) : Int) * ((y % 4294967296 : Nat) : Int) = ((x % 4294967296 * (y % 4294967296) : Nat) : Int) := by simp
  rw [hA, hB, hC, hD]
  generalize x / 4294967296 * (y / 4294967296) = a at *
  generalize x / 4294967296 * (y % 4294967296) = b at *
  generalize x % 4294967296 * (y / 4294967296) = c at *
  generalize x % 4294967296 * (y % 4294967296) = d at *
  simp only [shr32]
  have w1 : IntKind.u64.wrap (d : Int) = d := u64w (by omega)
  have w2 : IntKind.u64.wrap (b : Int) = b := u64w (by omega)
  have w3 : IntKind.u64.wrap (c : Int) = c := u64w (by omega)
  have w4 : IntKind.u64.wrap (a : Int) = a := u64w (by omega)
  rw [w1, w2, w3, w4]
  have w5 : IntKind.u64.wrap ((b : Int) + d / 4294967296) = ((b + d / 4294967296 : Nat) : Int) := by rw [u64w (by omega)]; omega
  rw [w5, and64 _ (by omega)]
  have w6 : IntKind.u64.wrap (((b + d / 4294967296) % 4294967296 : Nat) + (c : Int)) = (((b + d / 4294967296) % 4294967296 + c : Nat) : Int) := by rw [u64w (by omega)]; omega
  rw [w6]
  have hlt : x * y / 18446744073709551616 < 18446744073709551616 := by
    have : x * y < 18446744073709551616 * 18446744073709551616 := Nat.mul_lt_mul'' hx hy
    omega
  have w7 : IntKind.u64.wrap ((a : Int) + ((b + d / 4294967296 : Nat) : Int) / 4294967296) = ((a + (b + d / 4294967296) / 4294967296 : Nat) : Int) := by
    rw [u64w (by omega)]; omega
  rw [w7]
  have w8 : IntKind.u64.wrap (((a + (b + d / 4294967296) / 4294967296 : Nat) : Int) + (((b + d / 4294967296) % 4294967296 + c : Nat) : Int) / 4294967296) = ((a + (b + d / 4294967296) / 4294967296 + ((b + d / 4294967296) % 4294967296 + c) / 4294967296 : Nat) : Int) := by
    rw [u64w (by omega)]; omega
  rw [w8]

theorem c_Add32 {V : View} (x y c : Nat) (hx : x < 4294967296) (hy : y < 4294967296) (hc : c < 4294967296) :
    Acts prog 98 #[.int .u32 (x : Int), .int .u32 (y : Int), .int .u32 (c : Int)] V fun r V' => r = .tuple #[.int .u32 (((x + y + c) % 4294967296 : Nat) : Int), .int .u32 (((x + y + c) / 4294967296 : Nat) : Int)] := by
  refine vc_math_bits_Add32 _ _ _ V _ ⟨by omega, fun V1 l1 => ?_⟩
  simp (disch := omega) only [u64w, u32m, shr32]
  have e1 : ((x : Int) + y + c) % 4294967296 = (((x + y + c) % 4294967296 : Nat) : Int) := by omega
  have e2 : ((x : Int) + y + c) / 4294967296 % 4294967296 = (((x + y + c) / 4294967296 : Nat) : Int) := by omega
  rw [e1, e2]
end Go.Proofs.Tryz
/- Contracts of package math/bits: Sub32, Div32. -/
namespace Go.Proofs.Tryz
open Go.Eng Go.Big

theorem and32 (a b : Nat) (ha : a < 4294967296) (hb : b < 4294967296) : bitI .and .u32 (a : Int) (b : Int) = ((a &&& b : Nat) : Int) := by
  have h2 : (BitVec.ofInt IntKind.u32.bits ((a : Nat) : Int) &&& BitVec.ofInt IntKind.u32.bits ((b : Nat) : Int)).toNat = a &&& b := by
    show (BitVec.ofInt 32 ((a : Nat) : Int) &&& BitVec.ofInt 32 ((b : Nat) : Int)).toNat = _
    rw [BitVec.ofInt_natCast, BitVec.ofInt_natCast, BitVec.toNat_and, BitVec.toNat_ofNat, BitVec.toNat_ofNat, Nat.mod_eq_of_lt (by omega), Nat.mod_eq_of_lt (by omega)]
  have h3 : a &&& b < 2 ^ 32 := Nat.and_lt_two_pow a (by omega)
  rw [bitI, u32m, h2]
  omega
theorem or32 (a b : Nat) (ha : a < 4294967296) (hb : b < 4294967296) : bitI .or .u32 (a : Int) (b : Int) = ((a ||| b : Nat) : Int) := by
  have h2 : (BitVec.ofInt IntKind.u32.bits ((a : Nat) : Int) ||| BitVec.ofInt IntKind.u32.bits ((b : Nat) : Int)).toNat = a ||| b := by
    show (BitVec.ofInt 32 ((a : Nat) : Int) ||| BitVec.ofInt 32 ((b : Nat) : Int)).toNat = _
    rw [BitVec.ofInt_natCast, BitVec.ofInt_natCast, BitVec.toNat_or, BitVec.toNat_ofNat, BitVec.toNat_ofNat, Nat.mod_eq_of_lt (by omega), Nat.mod_eq_of_lt (by omega)]
  have h3 : a ||| b < 2 ^ 32 := Nat.or_lt_two_pow (by omega) (by omega)
  rw [bitI, u32m, h2]
  omega
theorem xor32 (a b : Nat) (ha : a < 4294967296) (hb : b < 4294967296) : bitI .xor .u32 (a : Int) (b : Int) = ((a ^^^ b : Nat) : Int) := by
  have h2 : (BitVec.ofInt IntKind.u32.bits ((a : Nat) : Int) ^^^ BitVec.ofInt IntKind.u32.bits ((b : Nat) : Int)).toNat = a ^^^ b := by
    show (BitVec.ofInt 32 ((a : Nat) : Int) ^^^ BitVec.ofInt 32 ((b : Nat) : Int)).toNat = _
    rw [BitVec.ofInt_natCast, BitVec.ofInt_natCast, BitVec.toNat_xor, BitVec.toNat_ofNat, BitVec.toNat_ofNat, Nat.mod_eq_of_lt (by omega), Nat.mod_eq_of_lt (by omega)]
  have h3 : a ^^^ b < 2 ^ 32 := Nat.xor_lt_two_pow (by omega) (by omega)
  rw [bitI, u32m, h2]
  omega
theorem top32 {n : Nat} (h : n < 4294967296) : n / 2147483648 = if n.testBit 31 then 1 else 0 := by
  rw [Nat.testBit_eq_decide_div_mod_eq]
  have : (2 : Nat) ^ 31 = 2147483648 := by decide
  rw [this]
  split
  · rename_i h1; simp at h1; omega
  · rename_i h1; simp at h1; omega

theorem bot32 {n : Nat} (h : n < 4294967296) : n.testBit 31 = decide (2147483648 ≤ n) := by
  rw [Nat.testBit_eq_decide_div_mod_eq]
  have : (2 : Nat) ^ 31 = 2147483648 := by decide
  rw [this]
  congr 1
  simp; omega

theorem borrow32 (x y c : Nat) (hx : x < 4294967296) (hy : y < 4294967296) (hc : c ≤ 1) {d : Nat} (hd : (d : Int) = ((x : Int) - y - c) % 4294967296) :
    (((4294967295 ^^^ x) &&& y) ||| ((4294967295 ^^^ (x ^^^ y)) &&& d)) / 2147483648 = if x < y + c then 1 else 0 := by
  have h1 : (4294967295 ^^^ x) < 2 ^ 32 := Nat.xor_lt_two_pow (by omega) (by omega)
  have h2 : x ^^^ y < 2 ^ 32 := Nat.xor_lt_two_pow (by omega) (by omega)
  have h3 : (4294967295 ^^^ (x ^^^ y)) < 2 ^ 32 := Nat.xor_lt_two_pow (by omega) h2
  have h4 : (4294967295 ^^^ x) &&& y < 2 ^ 32 := Nat.and_lt_two_pow _ (by omega)
  have h5 : (4294967295 ^^^ (x ^^^ y)) &&& d < 2 ^ 32 := Nat.and_lt_two_pow _ (by omega)
  have h6 := Nat.or_lt_two_pow h4 h5
  rw [top32 h6]
  have hd' : d < 4294967296 := by omega
  rw [Nat.testBit_or, Nat.testBit_and, Nat.testBit_and, Nat.testBit_xor, Nat.testBit_xor, Nat.testBit_xor, bot32 hx, bot32 hy, bot32 hd', bot32 (n := 4294967295) (by omega)]
  by_cases a1 : 2147483648 ≤ x <;> by_cases a2 : 2147483648 ≤ y <;> by_cases a3 : 2147483648 ≤ d <;> simp [a1, a2, a3] <;> omega

theorem c_Sub32 {V : View} (x y c : Nat) (hx : x < 4294967296) (hy : y < 4294967296) (hc : c ≤ 1) :
    Acts prog 100 #[.int .u32 (x : Int), .int .u32 (y : Int), .int .u32 (c : Int)] V fun r V' => ∃ d b : Nat, r = .tuple #[.int .u32 (d : Int), .int .u32 (b : Int)] ∧ d < 4294967296 ∧ b ≤ 1 ∧ d + (y + c) = x + 4294967296 * b := by
  refine vc_math_bits_Sub32 _ _ _ V _ ⟨by omega, fun V1 l1 => ?_⟩
  obtain ⟨d, hd⟩ : ∃ d : Nat, (d : Int) = ((x : Int) - y - c) % 4294967296 := ⟨(((x : Int) - y - c) % 4294967296).toNat, by omega⟩
  have hd' : d < 4294967296 := by omega
  have w1 : IntKind.u32.wrap (IntKind.u32.wrap ((x : Int) - y) - c) = (d : Int) := by rw [u32m, u32m]; omega
  have w2 : IntKind.u32.max = ((4294967295 : Nat) : Int) := rfl
  have h1 : (4294967295 ^^^ x) < 2 ^ 32 := Nat.xor_lt_two_pow (by omega) (by omega)
  have h2 : x ^^^ y < 2 ^ 32 := Nat.xor_lt_two_pow (by omega) (by omega)
  have h3 : (4294967295 ^^^ (x ^^^ y)) < 2 ^ 32 := Nat.xor_lt_two_pow (by omega) h2
  have h4 : (4294967295 ^^^ x) &&& y < 2 ^ 32 := Nat.and_lt_two_pow _ (by omega)
  have h5 : (4294967295 ^^^ (x ^^^ y)) &&& d < 2 ^ 32 := Nat.and_lt_two_pow _ (by omega)
  rw [w1, w2, xor32 _ _ (by omega) hx, and32 _ _ h1 hy, xor32 _ _ hx hy, xor32 _ _ (by omega) h2, and32 _ _ h3 hd', or32 _ _ h4 h5, fdiv_nat]
  have e : (2 : Nat) ^ 31 = 2147483648 := by decide
  rw [e, borrow32 x y c hx hy hc hd]
  refine ⟨d, _, rfl, hd', ?_, ?_⟩
  · split <;> omega
  · split <;> omega

theorem c_Div32 {V : View} (hi lo y : Nat) (hh : hi < y) (hl : lo < 4294967296) (hy : y < 4294967296) :
    Acts prog 82 #[.int .u32 (hi : Int), .int .u32 (lo : Int), .int .u32 (y : Int)] V fun r V' => r = .tuple #[.int .u32 (((hi * 4294967296 + lo) / y : Nat) : Int), .int .u32 (((hi * 4294967296 + lo) % y : Nat) : Int)] := by
  have key : ∀ V1 : View, Value.tuple #[.int .u32 (IntKind.u32.wrap (IntKind.u64.wrap ((bitI .or .u64 (IntKind.u64.wrap ((IntKind.u64.wrap (hi : Int)) * 2 ^ 32)) (IntKind.u64.wrap (lo : Int))).tdiv (IntKind.u64.wrap (y : Int))))), .int .u32 (IntKind.u32.wrap ((bitI .or .u64 (IntKind.u64.wrap ((IntKind.u64.wrap (hi : Int)) * 2 ^ 32)) (IntKind.u64.wrap (lo : Int))).tmod (IntKind.u64.wrap (y : Int))))] = .tuple #[.int .u32 (((hi * 4294967296 + lo) / y : Nat) : Int), .int .u32 (((hi * 4294967296 + lo) % y : Nat) : Int)] := by
    intro _
    have e3 : ((2 : Int) ^ 32) = 4294967296 := by decide
    have e1 : IntKind.u64.wrap (hi : Int) = hi := u64w (by omega)
    have e2 : IntKind.u64.wrap (lo : Int) = lo := u64w (by omega)
    have e4 : IntKind.u64.wrap (y : Int) = y := u64w (by omega)
    have e5 : IntKind.u64.wrap ((hi : Int) * 4294967296) = (hi : Int) * 4294967296 := u64w (by omega)
    rw [e1, e3, e5, e2, e4, or64 _ _ (by omega) hl]
    have e6 : (hi : Int) * 4294967296 + lo = ((hi * 4294967296 + lo : Nat) : Int) := by omega
    rw [e6, ← Int.ofNat_tdiv, ← Int.ofNat_tmod]
    have hq : (hi * 4294967296 + lo) / y < 4294967296 := by
      rw [Nat.div_lt_iff_lt_mul (by omega)]
      have : (hi + 1) * 4294967296 ≤ y * 4294967296 := Nat.mul_le_mul_right _ hh
      omega
    have hr : (hi * 4294967296 + lo) % y < y := Nat.mod_lt _ (by omega)
    generalize (hi * 4294967296 + lo) / y = q at *
    generalize (hi * 4294967296 + lo) % y = r at *
    have e7 : IntKind.u64.wrap (q : Int) = q := u64w (by omega)
    have e8 : IntKind.u32.wrap (q : Int) = q := u32w (by omega)
    have e9 : IntKind.u32.wrap (r : Int) = r := u32w (by omega)
    rw [e7, e8, e9]
  have e4 : IntKind.u64.wrap (y : Int) = y := u64w (by omega)
  refine vc_math_bits_Div32 _ _ _ V _ ⟨fun _ => ⟨fun h => ?_, fun _ => ⟨by omega, by rw [e4]; omega, by rw [e4]; omega, fun V1 l1 => key V1⟩⟩, fun _ => ⟨by omega, by rw [e4]; omega, by rw [e4]; omega, fun V1 l1 => key V1⟩⟩
  simp at h; omega
end Go.Proofs.Tryz
/- By program: the conditions of the functions, from their loaded code. -/
namespace Go.Proofs.Tryz
open Go.Eng
set_option maxRecDepth 100000

theorem vc_nat_trim (ap : Option Addr) (an ac : Nat) (V : View) (R : Value → View → Prop)
    (h : (∃ (I1_ : ((Option Addr) × Nat × Nat) → View → Prop) (m2_ : ((Option Addr) × Nat × Nat) → Nat), (∃ z3_ : (Option Addr) × Nat × Nat, (((ap : Option Addr) = z3_.1) ∧ ((an : Nat) = z3_.2.1) ∧ ((ac : Nat) = z3_.2.2)) ∧ I1_ z3_ V) ∧ ∀ (z4_ : (Option Addr) × Nat × Nat) (V1 : View), V.Le V1 → I1_ z4_ V1 → (true = true ∧ (((decide (((z4_.2.1 : Nat) : Int) > (0 : Int))) = true → (z4_.1.isSome = true) ∧ (0 ≤ (IntKind.i64.wrap (((z4_.2.1 : Nat) : Int) - (1 : Int))) ∧ (IntKind.i64.wrap (((z4_.2.1 : Nat) : Int) - (1 : Int))) < ((z4_.2.1 : Nat) : Int)) ∧ (∃ x5_ : Int, (∃ a6_, addrAdd z4_.1 (((IntKind.i64.wrap (((z4_.2.1 : Nat) : Int) - (1 : Int))).toNat) * 1) = some a6_ ∧ V1.at a6_ (.int .u32 x5_)) ∧ (((x5_ == (0 : Int)) = true → (0 ≤ (IntKind.i64.wrap (((z4_.2.1 : Nat) : Int) - (1 : Int))) ∧ (IntKind.i64.wrap (((z4_.2.1 : Nat) : Int) - (1 : Int))) ≤ ((z4_.2.2 : Nat) : Int)) ∧ (∃ z7_ : (Option Addr) × Nat × Nat, m2_ z7_ < m2_ z4_ ∧ (((z4_.1 : Option Addr) = z7_.1) ∧ (((IntKind.i64.wrap (((z4_.2.1 : Nat) : Int) - (1 : Int))).toNat : Nat) = z7_.2.1) ∧ ((z4_.2.2 : Nat) = z7_.2.2)) ∧ I1_ z7_ V1)) ∧ ((x5_ == (0 : Int)) = false → (∀ V2 : View, V1.Le V2 → R (.slice z4_.1 z4_.2.1 z4_.2.2) V2))))) ∧ ((decide (((z4_.2.1 : Nat) : Int) > (0 : Int))) = false → (∀ V3 : View, V1.Le V3 → R (.slice z4_.1 z4_.2.1 z4_.2.2) V3)))))) :
    Acts prog 110 #[.slice ap an ac] V R :=
  fn_does (LF := [8, 20, 25, 46, 48, 52, 93, 24, 1000024]) (RF := [1000006]) (β0 := (fun _ => 0)) tab_ok mixed [(1, { τ := (Option Addr) × Nat × Nat, keep := [], keepB := [], slots := fun z => [(0, .c (.v (.slice z.1 z.2.1 z.2.2)))], boxes := fun z => [] })] [] func110 (by kernel_rfl)
    [(0, .c (.v (.slice ap an ac)))]
    [] (by kernel_rfl) trivial h (by kernel_rfl)

theorem vc_nat_Norm (ap : Option Addr) (an ac : Nat) (V : View) (R : Value → View → Prop)
    (h : (∀ V1 : View, V.Le V1 → Acts prog 110 #[.slice ap an ac] V1 fun r1_ V2 => ∃ (p1_ : Option Addr) (n1_ c1_ : Nat), r1_ = .slice p1_ n1_ c1_ ∧ (∀ V3 : View, V2.Le V3 → Acts prog 118 #[.slice p1_ n1_ c1_] V3 fun r3_ V4 => ∃ (p2_ : Option Addr) (n2_ c2_ : Nat), r3_ = .slice p2_ n2_ c2_ ∧ (∀ V5 : View, V4.Le V5 → R (.slice p2_ n2_ c2_) V5)))) :
    Acts prog 109 #[.slice ap an ac] V R :=
  fn_does (LF := [8, 20, 25, 46, 48, 52, 93, 24, 1000024]) (RF := [1000006]) (β0 := (fun _ => 0)) tab_ok mixed [] [] func109 (by kernel_rfl)
    [(0, .c (.v (.slice ap an ac)))]
    [] (by kernel_rfl) trivial h (by kernel_rfl)

theorem vc_nat_Normal (ap : Option Addr) (an ac : Nat) (V : View) (R : Value → View → Prop)
    (h : (((((an : Nat) : Int) == (0 : Int)) = true → (∀ V1 : View, V.Le V1 → R (.bool true) V1)) ∧ ((((an : Nat) : Int) == (0 : Int)) = false → (ap.isSome = true) ∧ (0 ≤ (IntKind.i64.wrap (((an : Nat) : Int) - (1 : Int))) ∧ (IntKind.i64.wrap (((an : Nat) : Int) - (1 : Int))) < ((an : Nat) : Int)) ∧ (∃ x1_ : Int, (∃ a2_, addrAdd ap (((IntKind.i64.wrap (((an : Nat) : Int) - (1 : Int))).toNat) * 1) = some a2_ ∧ V.at a2_ (.int .u32 x1_)) ∧ (∀ V2 : View, V.Le V2 → R (.bool (x1_ != (0 : Int))) V2))))) :
    Acts prog 84 #[.slice ap an ac] V R :=
  fn_does (LF := [8, 20, 25, 46, 48, 52, 93, 24, 1000024]) (RF := [1000006]) (β0 := (fun _ => 0)) tab_ok mixed [] [] func84 (by kernel_rfl)
    [(0, .c (.v (.slice ap an ac)))]
    [] (by kernel_rfl) trivial h (by kernel_rfl)

theorem vc_nat_FromUint (u : Int) (V : View) (R : Value → View → Prop)
    (h : (0 ≤ (32 : Int)) ∧ (∀ V1 : View, V.Le V1 → ∀ bk1_ : Nat, (V1.blk bk1_ (.cells #[.int .u32 (IntKind.u32.wrap u), .int .u32 (IntKind.u32.wrap (u.fdiv (2 ^ 32)))] 124 (0, 0))) → Acts prog 110 #[.slice (some ⟨bk1_, 0, none⟩) 2 2] V1 fun r1_ V2 => ∃ (p2_ : Option Addr) (n2_ c2_ : Nat), r1_ = .slice p2_ n2_ c2_ ∧ ∀ J3_ : C → Value, (∀ V3 : View, V2.Le V3 → R (.slice p2_ n2_ c2_) V3))) :
    Acts prog 111 #[.int .u64 u] V R :=
  fn_does (LF := [8, 20, 25, 46, 48, 52, 93, 24, 1000024]) (RF := [1000006]) (β0 := (fun _ => 0)) tab_ok mixed [] [] func111 (by kernel_rfl)
    [(0, .c (.v (.int .u64 u)))]
    [] (by kernel_rfl) trivial h (by kernel_rfl)

theorem vc_nat_Uint (ap : Option Addr) (an ac : Nat) (V : View) (R : Value → View → Prop)
    (h : (∀ V1 : View, V.Le V1 → Acts prog 110 #[.slice ap an ac] V1 fun r1_ V2 => ∃ (p1_ : Option Addr) (n1_ c1_ : Nat), r1_ = .slice p1_ n1_ c1_ ∧ (((decide (((n1_ : Nat) : Int) > (2 : Int))) = true → (∀ V3 : View, V2.Le V3 → R (.tuple #[.int .u64 0, .bool false]) V3)) ∧ ((decide (((n1_ : Nat) : Int) > (2 : Int))) = false → (∃ (I2_ : (Int × Int) → View → Prop) (m3_ : (Int × Int) → Nat), (∃ z4_ : Int × Int, (((p1_ : Option Addr) = p1_) ∧ ((n1_ : Nat) = n1_) ∧ ((c1_ : Nat) = c1_) ∧ (((n1_ : Nat) : Int) = ((n1_ : Nat) : Int)) ∧ ((0 : Int) = z4_.1) ∧ ((0 : Int) = z4_.2)) ∧ I2_ z4_ V2) ∧ ∀ (z5_ : Int × Int) (V4 : View), V2.Le V4 → I2_ z5_ V4 → (true = true ∧ (((decide (z5_.2 < ((n1_ : Nat) : Int))) = true → (p1_.isSome = true) ∧ (0 ≤ z5_.2 ∧ z5_.2 < ((n1_ : Nat) : Int)) ∧ (∃ x6_ : Int, (∃ a7_, addrAdd p1_ (z5_.2.toNat * 1) = some a7_ ∧ V4.at a7_ (.int .u32 x6_)) ∧ (0 ≤ (IntKind.i64.wrap ((32 : Int) * z5_.2))) ∧ (∃ z8_ : Int × Int, m3_ z8_ < m3_ z5_ ∧ (((p1_ : Option Addr) = p1_) ∧ ((n1_ : Nat) = n1_) ∧ ((c1_ : Nat) = c1_) ∧ (((n1_ : Nat) : Int) = ((n1_ : Nat) : Int)) ∧ ((bitI .or .u64 z5_.1 (IntKind.u64.wrap ((IntKind.u64.wrap x6_) * 2 ^ (min (IntKind.i64.wrap ((32 : Int) * z5_.2)).toNat IntKind.u64.bits)))) = z8_.1) ∧ ((IntKind.i64.wrap (z5_.2 + (1 : Int))) = z8_.2)) ∧ I2_ z8_ V4))) ∧ ((decide (z5_.2 < ((n1_ : Nat) : Int))) = false → (∀ V5 : View, V4.Le V5 → R (.tuple #[.int .u64 z5_.1, .bool true]) V5))))))))) :
    Acts prog 108 #[.slice ap an ac] V R :=
  fn_does (LF := [8, 20, 25, 46, 48, 52, 93, 24, 1000024]) (RF := [1000006]) (β0 := (fun _ => 0)) tab_ok mixed [(6, { τ := Int × Int, keep := [12, 13], keepB := [], slots := fun z => [(4, .c (.v (.int .u64 z.1))), (14, .c (.v (.int .i64 z.2)))], boxes := fun z => [] })] [] func108 (by kernel_rfl)
    [(0, .c (.v (.slice ap an ac)))]
    [] (by kernel_rfl) trivial h (by kernel_rfl)

theorem vc_nat_Cmp (ap : Option Addr) (an ac : Nat) (bp : Option Addr) (bn bc : Nat) (V : View) (R : Value → View → Prop)
    (h : (∀ V1 : View, V.Le V1 → Acts prog 110 #[.slice ap an ac] V1 fun r1_ V2 => ∃ (p1_ : Option Addr) (n1_ c1_ : Nat), r1_ = .slice p1_ n1_ c1_ ∧ (∀ V3 : View, V2.Le V3 → Acts prog 110 #[.slice bp bn bc] V3 fun r3_ V4 => ∃ (p2_ : Option Addr) (n2_ c2_ : Nat), r3_ = .slice p2_ n2_ c2_ ∧ (((((n1_ : Nat) : Int) != ((n2_ : Nat) : Int)) = true → (((decide (((n1_ : Nat) : Int) < ((n2_ : Nat) : Int))) = true → (∀ V5 : View, V4.Le V5 → R (.int .i64 (-1)) V5)) ∧ ((decide (((n1_ : Nat) : Int) < ((n2_ : Nat) : Int))) = false → (∀ V6 : View, V4.Le V6 → R (.int .i64 1) V6)))) ∧ ((((n1_ : Nat) : Int) != ((n2_ : Nat) : Int)) = false → (∃ (I3_ : Int → View → Prop) (m4_ : Int → Nat), (∃ z5_ : Int, (((p1_ : Option Addr) = p1_) ∧ ((n1_ : Nat) = n1_) ∧ ((c1_ : Nat) = c1_) ∧ ((p2_ : Option Addr) = p2_) ∧ ((n2_ : Nat) = n2_) ∧ ((c2_ : Nat) = c2_) ∧ ((IntKind.i64.wrap (((n1_ : Nat) : Int) - (1 : Int))) = z5_)) ∧ I3_ z5_ V4) ∧ ∀ (z6_ : Int) (V7 : View), V4.Le V7 → I3_ z6_ V7 → (true = true ∧ (((decide (z6_ ≥ (0 : Int))) = true → (p1_.isSome = true) ∧ (0 ≤ z6_ ∧ z6_ < ((n1_ : Nat) : Int)) ∧ (∃ x7_ : Int, (∃ a8_, addrAdd p1_ (z6_.toNat * 1) = some a8_ ∧ V7.at a8_ (.int .u32 x7_)) ∧ (p2_.isSome = true) ∧ (0 ≤ z6_ ∧ z6_ < ((n2_ : Nat) : Int)) ∧ (∃ x9_ : Int, (∃ a10_, addrAdd p2_ (z6_.toNat * 1) = some a10_ ∧ V7.at a10_ (.int .u32 x9_)) ∧ (((decide (x7_ < x9_)) = true → (∀ V8 : View, V7.Le V8 → R (.int .i64 (-1)) V8)) ∧ ((decide (x7_ < x9_)) = false → (p1_.isSome = true) ∧ (0 ≤ z6_ ∧ z6_ < ((n1_ : Nat) : Int)) ∧ (∃ x11_ : Int, (∃ a12_, addrAdd p1_ (z6_.toNat * 1) = some a12_ ∧ V7.at a12_ (.int .u32 x11_)) ∧ (p2_.isSome = true) ∧ (0 ≤ z6_ ∧ z6_ < ((n2_ : Nat) : Int)) ∧ (∃ x13_ : Int, (∃ a14_, addrAdd p2_ (z6_.toNat * 1) = some a14_ ∧ V7.at a14_ (.int .u32 x13_)) ∧ (((decide (x11_ > x13_)) = true → (∀ V9 : View, V7.Le V9 → R (.int .i64 1) V9)) ∧ ((decide (x11_ > x13_)) = false → (∃ z15_ : Int, m4_ z15_ < m4_ z6_ ∧ (((p1_ : Option Addr) = p1_) ∧ ((n1_ : Nat) = n1_) ∧ ((c1_ : Nat) = c1_) ∧ ((p2_ : Option Addr) = p2_) ∧ ((n2_ : Nat) = n2_) ∧ ((c2_ : Nat) = c2_) ∧ ((IntKind.i64.wrap (z6_ - (1 : Int))) = z15_)) ∧ I3_ z15_ V7)))))))))) ∧ ((decide (z6_ ≥ (0 : Int))) = false → (∀ V10 : View, V7.Le V10 → R (.int .i64 0) V10)))))))))) :
    Acts prog 117 #[.slice ap an ac, .slice bp bn bc] V R :=
  fn_does (LF := [8, 20, 25, 46, 48, 52, 93, 24, 1000024]) (RF := [1000006]) (β0 := (fun _ => 0)) tab_ok mixed [(7, { τ := Int, keep := [0, 1], keepB := [], slots := fun z => [(5, .c (.v (.int .i64 z)))], boxes := fun z => [] })] [] func117 (by kernel_rfl)
    [(0, .c (.v (.slice ap an ac))), (1, .c (.v (.slice bp bn bc)))]
    [] (by kernel_rfl) trivial h (by kernel_rfl)

theorem vc_nat_Add (ap : Option Addr) (an ac : Nat) (bp : Option Addr) (bn bc : Nat) (V : View) (R : Value → View → Prop)
    (h : (∃ I1_ : ((Option Addr) × Nat × Nat × (Option Addr) × Nat × Nat) → View → Prop, (((decide (((an : Nat) : Int) < ((bn : Nat) : Int))) = true → (∃ z2_ : (Option Addr) × Nat × Nat × (Option Addr) × Nat × Nat, (((bp : Option Addr) = z2_.1) ∧ ((bn : Nat) = z2_.2.1) ∧ ((bc : Nat) = z2_.2.2.1) ∧ ((ap : Option Addr) = z2_.2.2.2.1) ∧ ((an : Nat) = z2_.2.2.2.2.1) ∧ ((ac : Nat) = z2_.2.2.2.2.2)) ∧ I1_ z2_ V)) ∧ ((decide (((an : Nat) : Int) < ((bn : Nat) : Int))) = false → (∃ z3_ : (Option Addr) × Nat × Nat × (Option Addr) × Nat × Nat, (((ap : Option Addr) = z3_.1) ∧ ((an : Nat) = z3_.2.1) ∧ ((ac : Nat) = z3_.2.2.1) ∧ ((bp : Option Addr) = z3_.2.2.2.1) ∧ ((bn : Nat) = z3_.2.2.2.2.1) ∧ ((bc : Nat) = z3_.2.2.2.2.2)) ∧ I1_ z3_ V))) ∧ ∀ (z4_ : (Option Addr) × Nat × Nat × (Option Addr) × Nat × Nat) (V1 : View), V.Le V1 → I1_ z4_ V1 → (true = true ∧ (0 ≤ IntKind.i64.wrap (((z4_.2.1 : Nat) : Int) + (1 : Int))) ∧ (IntKind.i64.wrap (((z4_.2.1 : Nat) : Int) + (1 : Int)) ≤ IntKind.i64.wrap (((z4_.2.1 : Nat) : Int) + (1 : Int))) ∧ (((4 : Nat) : Int) * (IntKind.i64.wrap (((z4_.2.1 : Nat) : Int) + (1 : Int))) ≤ 140737488355328) ∧ (∃ (I5_ : (Int × Int × (List Value)) → View → Prop) (m6_ : (Int × Int × (List Value)) → Nat), (∃ z7_ : Int × Int × (List Value), (((z4_.1 : Option Addr) = z4_.1) ∧ ((z4_.2.1 : Nat) = z4_.2.1) ∧ ((z4_.2.2.1 : Nat) = z4_.2.2.1) ∧ ((z4_.2.2.2.1 : Option Addr) = z4_.2.2.2.1) ∧ ((z4_.2.2.2.2.1 : Nat) = z4_.2.2.2.2.1) ∧ ((z4_.2.2.2.2.2 : Nat) = z4_.2.2.2.2.2) ∧ ((0 : Nat) = 0) ∧ (((IntKind.i64.wrap (((z4_.2.1 : Nat) : Int) + (1 : Int))).toNat : Nat) = (IntKind.i64.wrap (((z4_.2.1 : Nat) : Int) + (1 : Int))).toNat) ∧ (((IntKind.i64.wrap (((z4_.2.1 : Nat) : Int) + (1 : Int))).toNat : Nat) = (IntKind.i64.wrap (((z4_.2.1 : Nat) : Int) + (1 : Int))).toNat) ∧ ((z4_.1 : Option Addr) = z4_.1) ∧ ((z4_.2.1 : Nat) = z4_.2.1) ∧ ((z4_.2.2.1 : Nat) = z4_.2.2.1) ∧ (((z4_.2.1 : Nat) : Int) = ((z4_.2.1 : Nat) : Int)) ∧ ((0 : Int) = z7_.1) ∧ ((0 : Int) = z7_.2.1) ∧ ((List.replicate ((IntKind.i64.wrap (((z4_.2.1 : Nat) : Int) + (1 : Int))).toNat) (.int .u32 0)) = z7_.2.2)) ∧ I5_ z7_ V1) ∧ ∀ (z8_ : Int × Int × (List Value)) (V2 : View), V1.Le V2 → I5_ z8_ V2 → (true = true ∧ (((decide (z8_.2.1 < ((z4_.2.1 : Nat) : Int))) = true → (z4_.1.isSome = true) ∧ (0 ≤ z8_.2.1 ∧ z8_.2.1 < ((z4_.2.1 : Nat) : Int)) ∧ (∃ x9_ : Int, (∃ a10_, addrAdd z4_.1 (z8_.2.1.toNat * 1) = some a10_ ∧ V2.at a10_ (.int .u32 x9_)) ∧ (((decide (z8_.2.1 < ((z4_.2.2.2.2.1 : Nat) : Int))) = true → (z4_.2.2.2.1.isSome = true) ∧ (0 ≤ z8_.2.1 ∧ z8_.2.1 < ((z4_.2.2.2.2.1 : Nat) : Int)) ∧ (∃ x11_ : Int, (∃ a12_, addrAdd z4_.2.2.2.1 (z8_.2.1.toNat * 1) = some a12_ ∧ V2.at a12_ (.int .u32 x11_)) ∧ (0 ≤ z8_.2.1 ∧ z8_.2.1 < (((IntKind.i64.wrap (((z4_.2.1 : Nat) : Int) + (1 : Int))).toNat : Nat) : Int)) ∧ ((0 + (z8_.2.1.toNat * 1)) + 1 ≤ z8_.2.2.length) ∧ (0 ≤ (32 : Int)) ∧ (∃ z13_ : Int × Int × (List Value), m6_ z13_ < m6_ z8_ ∧ (((z4_.1 : Option Addr) = z4_.1) ∧ ((z4_.2.1 : Nat) = z4_.2.1) ∧ ((z4_.2.2.1 : Nat) = z4_.2.2.1) ∧ ((z4_.2.2.2.1 : Option Addr) = z4_.2.2.2.1) ∧ ((z4_.2.2.2.2.1 : Nat) = z4_.2.2.2.2.1) ∧ ((z4_.2.2.2.2.2 : Nat) = z4_.2.2.2.2.2) ∧ ((0 : Nat) = 0) ∧ (((IntKind.i64.wrap (((z4_.2.1 : Nat) : Int) + (1 : Int))).toNat : Nat) = (IntKind.i64.wrap (((z4_.2.1 : Nat) : Int) + (1 : Int))).toNat) ∧ (((IntKind.i64.wrap (((z4_.2.1 : Nat) : Int) + (1 : Int))).toNat : Nat) = (IntKind.i64.wrap (((z4_.2.1 : Nat) : Int) + (1 : Int))).toNat) ∧ ((z4_.1 : Option Addr) = z4_.1) ∧ ((z4_.2.1 : Nat) = z4_.2.1) ∧ ((z4_.2.2.1 : Nat) = z4_.2.2.1) ∧ (((z4_.2.1 : Nat) : Int) = ((z4_.2.1 : Nat) : Int)) ∧ (((IntKind.u64.wrap ((IntKind.u64.wrap (z8_.1 + (IntKind.u64.wrap x9_))) + (IntKind.u64.wrap x11_))).fdiv (2 ^ 32)) = z13_.1) ∧ ((IntKind.i64.wrap (z8_.2.1 + (1 : Int))) = z13_.2.1) ∧ ((z8_.2.2.set (0 + (z8_.2.1.toNat * 1)) (.int .u32 (IntKind.u32.wrap (IntKind.u64.wrap ((IntKind.u64.wrap (z8_.1 + (IntKind.u64.wrap x9_))) + (IntKind.u64.wrap x11_)))))) = z13_.2.2)) ∧ I5_ z13_ V2))) ∧ ((decide (z8_.2.1 < ((z4_.2.2.2.2.1 : Nat) : Int))) = false → (0 ≤ z8_.2.1 ∧ z8_.2.1 < (((IntKind.i64.wrap (((z4_.2.1 : Nat) : Int) + (1 : Int))).toNat : Nat) : Int)) ∧ ((0 + (z8_.2.1.toNat * 1)) + 1 ≤ z8_.2.2.length) ∧ (0 ≤ (32 : Int)) ∧ (∃ z14_ : Int × Int × (List Value), m6_ z14_ < m6_ z8_ ∧ (((z4_.1 : Option Addr) = z4_.1) ∧ ((z4_.2.1 : Nat) = z4_.2.1) ∧ ((z4_.2.2.1 : Nat) = z4_.2.2.1) ∧ ((z4_.2.2.2.1 : Option Addr) = z4_.2.2.2.1) ∧ ((z4_.2.2.2.2.1 : Nat) = z4_.2.2.2.2.1) ∧ ((z4_.2.2.2.2.2 : Nat) = z4_.2.2.2.2.2) ∧ ((0 : Nat) = 0) ∧ (((IntKind.i64.wrap (((z4_.2.1 : Nat) : Int) + (1 : Int))).toNat : Nat) = (IntKind.i64.wrap (((z4_.2.1 : Nat) : Int) + (1 : Int))).toNat) ∧ (((IntKind.i64.wrap (((z4_.2.1 : Nat) : Int) + (1 : Int))).toNat : Nat) = (IntKind.i64.wrap (((z4_.2.1 : Nat) : Int) + (1 : Int))).toNat) ∧ ((z4_.1 : Option Addr) = z4_.1) ∧ ((z4_.2.1 : Nat) = z4_.2.1) ∧ ((z4_.2.2.1 : Nat) = z4_.2.2.1) ∧ (((z4_.2.1 : Nat) : Int) = ((z4_.2.1 : Nat) : Int)) ∧ (((IntKind.u64.wrap (z8_.1 + (IntKind.u64.wrap x9_))).fdiv (2 ^ 32)) = z14_.1) ∧ ((IntKind.i64.wrap (z8_.2.1 + (1 : Int))) = z14_.2.1) ∧ ((z8_.2.2.set (0 + (z8_.2.1.toNat * 1)) (.int .u32 (IntKind.u32.wrap (IntKind.u64.wrap (z8_.1 + (IntKind.u64.wrap x9_)))))) = z14_.2.2)) ∧ I5_ z14_ V2))))) ∧ ((decide (z8_.2.1 < ((z4_.2.1 : Nat) : Int))) = false → (0 ≤ ((z4_.2.1 : Nat) : Int) ∧ ((z4_.2.1 : Nat) : Int) < (((IntKind.i64.wrap (((z4_.2.1 : Nat) : Int) + (1 : Int))).toNat : Nat) : Int)) ∧ ((0 + ((((z4_.2.1 : Nat) : Int).toNat) * 1)) + 1 ≤ z8_.2.2.length) ∧ (∀ V3 : View, V2.Le V3 → ∀ bk15_ : Nat, (V3.blk bk15_ (.cells (z8_.2.2.set (0 + ((((z4_.2.1 : Nat) : Int).toNat) * 1)) (.int .u32 (IntKind.u32.wrap (z8_.1)))).toArray 124 (0, 0))) → Acts prog 110 #[.slice (some ⟨bk15_, 0, none⟩) ((IntKind.i64.wrap (((z4_.2.1 : Nat) : Int) + (1 : Int))).toNat) ((IntKind.i64.wrap (((z4_.2.1 : Nat) : Int) + (1 : Int))).toNat)] V3 fun r3_ V4 => ∃ (p16_ : Option Addr) (n16_ c16_ : Nat), r3_ = .slice p16_ n16_ c16_ ∧ ∀ J17_ : C → Value, (∀ V5 : View, V4.Le V5 → R (.slice p16_ n16_ c16_) V5))))))))) :
    Acts prog 133 #[.slice ap an ac, .slice bp bn bc] V R :=
  fn_does (LF := [8, 20, 25, 46, 48, 52, 93, 24, 1000024]) (RF := [1000006]) (β0 := (fun _ => 0)) tab_ok mixed [(6, { τ := Int × Int × (List Value), keep := [0, 1, 5, 20, 21], keepB := [], slots := fun z => [(6, .c (.v (.int .u64 z.1))), (22, .c (.v (.int .i64 z.2.1)))], boxes := fun z => [(19, ⟨.row z.2.2, 124⟩)] })] [(2, { τ := (Option Addr) × Nat × Nat × (Option Addr) × Nat × Nat, keep := [], keepB := [], slots := fun z => [(0, .c (.v (.slice z.1 z.2.1 z.2.2.1))), (1, .c (.v (.slice z.2.2.2.1 z.2.2.2.2.1 z.2.2.2.2.2)))], boxes := fun z => [] })] func133 (by kernel_rfl)
    [(0, .c (.v (.slice ap an ac))), (1, .c (.v (.slice bp bn bc)))]
    [] (by kernel_rfl) trivial h (by kernel_rfl)

theorem vc_nat_less (ap : Option Addr) (an ac : Nat) (bp : Option Addr) (bn bc : Nat) (V : View) (R : Value → View → Prop)
    (h : (0 ≤ ((an : Nat) : Int)) ∧ (((an : Nat) : Int) ≤ ((an : Nat) : Int)) ∧ (((4 : Nat) : Int) * ((an : Nat) : Int) ≤ 140737488355328) ∧ (∃ (I1_ : (Int × Int × (List Value)) → View → Prop) (m2_ : (Int × Int × (List Value)) → Nat), (∃ z3_ : Int × Int × (List Value), (((bp : Option Addr) = bp) ∧ ((bn : Nat) = bn) ∧ ((bc : Nat) = bc) ∧ ((0 : Nat) = 0) ∧ ((((an : Nat) : Int).toNat : Nat) = ((an : Nat) : Int).toNat) ∧ ((((an : Nat) : Int).toNat : Nat) = ((an : Nat) : Int).toNat) ∧ ((ap : Option Addr) = ap) ∧ ((an : Nat) = an) ∧ ((ac : Nat) = ac) ∧ (((an : Nat) : Int) = ((an : Nat) : Int)) ∧ ((0 : Int) = z3_.1) ∧ ((0 : Int) = z3_.2.1) ∧ ((List.replicate (((an : Nat) : Int).toNat) (.int .u32 0)) = z3_.2.2)) ∧ I1_ z3_ V) ∧ ∀ (z4_ : Int × Int × (List Value)) (V1 : View), V.Le V1 → I1_ z4_ V1 → (true = true ∧ (((decide (z4_.2.1 < ((an : Nat) : Int))) = true → (ap.isSome = true) ∧ (0 ≤ z4_.2.1 ∧ z4_.2.1 < ((an : Nat) : Int)) ∧ (∃ x5_ : Int, (∃ a6_, addrAdd ap (z4_.2.1.toNat * 1) = some a6_ ∧ V1.at a6_ (.int .u32 x5_)) ∧ (∃ I7_ : Int → View → Prop, (((decide (z4_.2.1 < ((bn : Nat) : Int))) = true → (bp.isSome = true) ∧ (0 ≤ z4_.2.1 ∧ z4_.2.1 < ((bn : Nat) : Int)) ∧ (∃ x8_ : Int, (∃ a9_, addrAdd bp (z4_.2.1.toNat * 1) = some a9_ ∧ V1.at a9_ (.int .u32 x8_)) ∧ (∃ z10_ : Int, (((bp : Option Addr) = bp) ∧ ((bn : Nat) = bn) ∧ ((bc : Nat) = bc) ∧ ((0 : Nat) = 0) ∧ ((((an : Nat) : Int).toNat : Nat) = ((an : Nat) : Int).toNat) ∧ ((((an : Nat) : Int).toNat : Nat) = ((an : Nat) : Int).toNat) ∧ (z4_.2.1 = z4_.2.1) ∧ (x5_ = x5_) ∧ ((ap : Option Addr) = ap) ∧ ((an : Nat) = an) ∧ ((ac : Nat) = ac) ∧ (((an : Nat) : Int) = ((an : Nat) : Int)) ∧ (z4_.2.1 = z4_.2.1) ∧ ((IntKind.u64.wrap (z4_.1 + (IntKind.u64.wrap x8_))) = z10_) ∧ (z4_.2.2 = z4_.2.2)) ∧ I7_ z10_ V1))) ∧ ((decide (z4_.2.1 < ((bn : Nat) : Int))) = false → (∃ z11_ : Int, (((bp : Option Addr) = bp) ∧ ((bn : Nat) = bn) ∧ ((bc : Nat) = bc) ∧ ((0 : Nat) = 0) ∧ ((((an : Nat) : Int).toNat : Nat) = ((an : Nat) : Int).toNat) ∧ ((((an : Nat) : Int).toNat : Nat) = ((an : Nat) : Int).toNat) ∧ (z4_.2.1 = z4_.2.1) ∧ (x5_ = x5_) ∧ ((ap : Option Addr) = ap) ∧ ((an : Nat) = an) ∧ ((ac : Nat) = ac) ∧ (((an : Nat) : Int) = ((an : Nat) : Int)) ∧ (z4_.2.1 = z4_.2.1) ∧ (z4_.1 = z11_) ∧ (z4_.2.2 = z4_.2.2)) ∧ I7_ z11_ V1))) ∧ ∀ (z12_ : Int) (V2 : View), V1.Le V2 → I7_ z12_ V2 → (true = true ∧ (0 ≤ z4_.2.1 ∧ z4_.2.1 < ((((an : Nat) : Int).toNat : Nat) : Int)) ∧ ((0 + (z4_.2.1.toNat * 1)) + 1 ≤ z4_.2.2.length) ∧ (0 ≤ (63 : Int)) ∧ (∃ z13_ : Int × Int × (List Value), m2_ z13_ < m2_ z4_ ∧ (((bp : Option Addr) = bp) ∧ ((bn : Nat) = bn) ∧ ((bc : Nat) = bc) ∧ ((0 : Nat) = 0) ∧ ((((an : Nat) : Int).toNat : Nat) = ((an : Nat) : Int).toNat) ∧ ((((an : Nat) : Int).toNat : Nat) = ((an : Nat) : Int).toNat) ∧ ((ap : Option Addr) = ap) ∧ ((an : Nat) = an) ∧ ((ac : Nat) = ac) ∧ (((an : Nat) : Int) = ((an : Nat) : Int)) ∧ (((IntKind.u64.wrap ((IntKind.u64.wrap x5_) - z12_)).fdiv (2 ^ 63)) = z13_.1) ∧ ((IntKind.i64.wrap (z4_.2.1 + (1 : Int))) = z13_.2.1) ∧ ((z4_.2.2.set (0 + (z4_.2.1.toNat * 1)) (.int .u32 (IntKind.u32.wrap (IntKind.u64.wrap ((IntKind.u64.wrap x5_) - z12_))))) = z13_.2.2)) ∧ I1_ z13_ V2))))) ∧ ((decide (z4_.2.1 < ((an : Nat) : Int))) = false → (∀ V3 : View, V1.Le V3 → ∀ bk14_ : Nat, (V3.blk bk14_ (.cells z4_.2.2.toArray 124 (0, 0))) → Acts prog 110 #[.slice (some ⟨bk14_, 0, none⟩) (((an : Nat) : Int).toNat) (((an : Nat) : Int).toNat)] V3 fun r3_ V4 => ∃ (p15_ : Option Addr) (n15_ c15_ : Nat), r3_ = .slice p15_ n15_ c15_ ∧ ∀ J16_ : C → Value, (∀ V5 : View, V4.Le V5 → R (.slice p15_ n15_ c15_) V5))))))) :
    Acts prog 135 #[.slice ap an ac, .slice bp bn bc] V R :=
  fn_does (LF := [8, 20, 25, 46, 48, 52, 93, 24, 1000024]) (RF := [1000006]) (β0 := (fun _ => 0)) tab_ok mixed [(4, { τ := Int × Int × (List Value), keep := [1, 5, 14, 15], keepB := [], slots := fun z => [(6, .c (.v (.int .u64 z.1))), (16, .c (.v (.int .i64 z.2.1)))], boxes := fun z => [(13, ⟨.row z.2.2, 124⟩)] })] [(8, { τ := Int, keep := [1, 5, 7, 8, 14, 15, 16], keepB := [13], slots := fun z => [(9, .c (.v (.int .u64 z)))], boxes := fun z => [] })] func135 (by kernel_rfl)
    [(0, .c (.v (.slice ap an ac))), (1, .c (.v (.slice bp bn bc)))]
    [] (by kernel_rfl) trivial h (by kernel_rfl)

theorem vc_nat_Sub (ap : Option Addr) (an ac : Nat) (bp : Option Addr) (bn bc : Nat) (V : View) (R : Value → View → Prop)
    (h : (∀ V1 : View, V.Le V1 → Acts prog 117 #[.slice ap an ac, .slice bp bn bc] V1 fun r1_ V2 => ∃ x1_ : Int, r1_ = .int .i64 x1_ ∧ (((decide (x1_ < (0 : Int))) = true → (∀ V3 : View, V2.Le V3 → R (.tuple #[.slice none 0 0, .bool false]) V3)) ∧ ((decide (x1_ < (0 : Int))) = false → (∀ V4 : View, V2.Le V4 → Acts prog 110 #[.slice ap an ac] V4 fun r4_ V5 => ∃ (p2_ : Option Addr) (n2_ c2_ : Nat), r4_ = .slice p2_ n2_ c2_ ∧ (∀ V6 : View, V5.Le V6 → Acts prog 110 #[.slice bp bn bc] V6 fun r6_ V7 => ∃ (p3_ : Option Addr) (n3_ c3_ : Nat), r6_ = .slice p3_ n3_ c3_ ∧ (∀ V8 : View, V7.Le V8 → Acts prog 135 #[.slice p2_ n2_ c2_, .slice p3_ n3_ c3_] V8 fun r8_ V9 => ∃ (p4_ : Option Addr) (n4_ c4_ : Nat), r8_ = .slice p4_ n4_ c4_ ∧ (∀ V10 : View, V9.Le V10 → R (.tuple #[.slice p4_ n4_ c4_, .bool true]) V10)))))))) :
    Acts prog 134 #[.slice ap an ac, .slice bp bn bc] V R :=
  fn_does (LF := [8, 20, 25, 46, 48, 52, 93, 24, 1000024]) (RF := [1000006]) (β0 := (fun _ => 0)) tab_ok mixed [] [] func134 (by kernel_rfl)
    [(0, .c (.v (.slice ap an ac))), (1, .c (.v (.slice bp bn bc)))]
    [] (by kernel_rfl) trivial h (by kernel_rfl)

theorem vc_nat_Mul (ap : Option Addr) (an ac : Nat) (bp : Option Addr) (bn bc : Nat) (V : View) (R : Value → View → Prop)
    (h : (∀ V1 : View, V.Le V1 → Acts prog 110 #[.slice ap an ac] V1 fun r1_ V2 => ∃ (p1_ : Option Addr) (n1_ c1_ : Nat), r1_ = .slice p1_ n1_ c1_ ∧ (∀ V3 : View, V2.Le V3 → Acts prog 110 #[.slice bp bn bc] V3 fun r3_ V4 => ∃ (p2_ : Option Addr) (n2_ c2_ : Nat), r3_ = .slice p2_ n2_ c2_ ∧ (0 ≤ IntKind.i64.wrap (((n1_ : Nat) : Int) + ((n2_ : Nat) : Int))) ∧ (IntKind.i64.wrap (((n1_ : Nat) : Int) + ((n2_ : Nat) : Int)) ≤ IntKind.i64.wrap (((n1_ : Nat) : Int) + ((n2_ : Nat) : Int))) ∧ (((4 : Nat) : Int) * (IntKind.i64.wrap (((n1_ : Nat) : Int) + ((n2_ : Nat) : Int))) ≤ 140737488355328) ∧ (∃ (I3_ : (Int × (List Value)) → View → Prop) (m4_ : (Int × (List Value)) → Nat), (∃ z5_ : Int × (List Value), (((p2_ : Option Addr) = p2_) ∧ ((n2_ : Nat) = n2_) ∧ ((c2_ : Nat) = c2_) ∧ ((0 : Nat) = 0) ∧ (((IntKind.i64.wrap (((n1_ : Nat) : Int) + ((n2_ : Nat) : Int))).toNat : Nat) = (IntKind.i64.wrap (((n1_ : Nat) : Int) + ((n2_ : Nat) : Int))).toNat) ∧ (((IntKind.i64.wrap (((n1_ : Nat) : Int) + ((n2_ : Nat) : Int))).toNat : Nat) = (IntKind.i64.wrap (((n1_ : Nat) : Int) + ((n2_ : Nat) : Int))).toNat) ∧ ((p1_ : Option Addr) = p1_) ∧ ((n1_ : Nat) = n1_) ∧ ((c1_ : Nat) = c1_) ∧ (((n1_ : Nat) : Int) = ((n1_ : Nat) : Int)) ∧ ((0 : Int) = z5_.1) ∧ ((List.replicate ((IntKind.i64.wrap (((n1_ : Nat) : Int) + ((n2_ : Nat) : Int))).toNat) (.int .u32 0)) = z5_.2)) ∧ I3_ z5_ V4) ∧ ∀ (z6_ : Int × (List Value)) (V5 : View), V4.Le V5 → I3_ z6_ V5 → (true = true ∧ (((decide (z6_.1 < ((n1_ : Nat) : Int))) = true → (p1_.isSome = true) ∧ (0 ≤ z6_.1 ∧ z6_.1 < ((n1_ : Nat) : Int)) ∧ (∃ x7_ : Int, (∃ a8_, addrAdd p1_ (z6_.1.toNat * 1) = some a8_ ∧ V5.at a8_ (.int .u32 x7_)) ∧ (∃ (I9_ : (Int × Int × (List Value)) → View → Prop) (m10_ : (Int × Int × (List Value)) → Nat), (∃ z11_ : Int × Int × (List Value), (((p2_ : Option Addr) = p2_) ∧ ((n2_ : Nat) = n2_) ∧ ((c2_ : Nat) = c2_) ∧ ((0 : Nat) = 0) ∧ (((IntKind.i64.wrap (((n1_ : Nat) : Int) + ((n2_ : Nat) : Int))).toNat : Nat) = (IntKind.i64.wrap (((n1_ : Nat) : Int) + ((n2_ : Nat) : Int))).toNat) ∧ (((IntKind.i64.wrap (((n1_ : Nat) : Int) + ((n2_ : Nat) : Int))).toNat : Nat) = (IntKind.i64.wrap (((n1_ : Nat) : Int) + ((n2_ : Nat) : Int))).toNat) ∧ (z6_.1 = z6_.1) ∧ (x7_ = x7_) ∧ ((p1_ : Option Addr) = p1_) ∧ ((n1_ : Nat) = n1_) ∧ ((c1_ : Nat) = c1_) ∧ (((n1_ : Nat) : Int) = ((n1_ : Nat) : Int)) ∧ (z6_.1 = z6_.1) ∧ ((p2_ : Option Addr) = p2_) ∧ ((n2_ : Nat) = n2_) ∧ ((c2_ : Nat) = c2_) ∧ (((n2_ : Nat) : Int) = ((n2_ : Nat) : Int)) ∧ ((0 : Int) = z11_.1) ∧ ((0 : Int) = z11_.2.1) ∧ (z6_.2 = z11_.2.2)) ∧ I9_ z11_ V5) ∧ ∀ (z12_ : Int × Int × (List Value)) (V6 : View), V5.Le V6 → I9_ z12_ V6 → (true = true ∧ (((decide (z12_.2.1 < ((n2_ : Nat) : Int))) = true → (p2_.isSome = true) ∧ (0 ≤ z12_.2.1 ∧ z12_.2.1 < ((n2_ : Nat) : Int)) ∧ (∃ x13_ : Int, (∃ a14_, addrAdd p2_ (z12_.2.1.toNat * 1) = some a14_ ∧ V6.at a14_ (.int .u32 x13_)) ∧ (0 ≤ (IntKind.i64.wrap (z6_.1 + z12_.2.1)) ∧ (IntKind.i64.wrap (z6_.1 + z12_.2.1)) < (((IntKind.i64.wrap (((n1_ : Nat) : Int) + ((n2_ : Nat) : Int))).toNat : Nat) : Int)) ∧ (∃ x15_ : Int, z12_.2.2[0 + (((IntKind.i64.wrap (z6_.1 + z12_.2.1)).toNat) * 1)]? = some (.int .u32 x15_) ∧ (0 ≤ (IntKind.i64.wrap (z6_.1 + z12_.2.1)) ∧ (IntKind.i64.wrap (z6_.1 + z12_.2.1)) < (((IntKind.i64.wrap (((n1_ : Nat) : Int) + ((n2_ : Nat) : Int))).toNat : Nat) : Int)) ∧ ((0 + (((IntKind.i64.wrap (z6_.1 + z12_.2.1)).toNat) * 1)) + 1 ≤ z12_.2.2.length) ∧ (0 ≤ (32 : Int)) ∧ (∃ z16_ : Int × Int × (List Value), m10_ z16_ < m10_ z12_ ∧ (((p2_ : Option Addr) = p2_) ∧ ((n2_ : Nat) = n2_) ∧ ((c2_ : Nat) = c2_) ∧ ((0 : Nat) = 0) ∧ (((IntKind.i64.wrap (((n1_ : Nat) : Int) + ((n2_ : Nat) : Int))).toNat : Nat) = (IntKind.i64.wrap (((n1_ : Nat) : Int) + ((n2_ : Nat) : Int))).toNat) ∧ (((IntKind.i64.wrap (((n1_ : Nat) : Int) + ((n2_ : Nat) : Int))).toNat : Nat) = (IntKind.i64.wrap (((n1_ : Nat) : Int) + ((n2_ : Nat) : Int))).toNat) ∧ (z6_.1 = z6_.1) ∧ (x7_ = x7_) ∧ ((p1_ : Option Addr) = p1_) ∧ ((n1_ : Nat) = n1_) ∧ ((c1_ : Nat) = c1_) ∧ (((n1_ : Nat) : Int) = ((n1_ : Nat) : Int)) ∧ (z6_.1 = z6_.1) ∧ ((p2_ : Option Addr) = p2_) ∧ ((n2_ : Nat) = n2_) ∧ ((c2_ : Nat) = c2_) ∧ (((n2_ : Nat) : Int) = ((n2_ : Nat) : Int)) ∧ (((IntKind.u64.wrap (z12_.1 + (IntKind.u64.wrap ((IntKind.u64.wrap ((IntKind.u64.wrap x7_) * (IntKind.u64.wrap x13_))) + (IntKind.u64.wrap x15_))))).fdiv (2 ^ 32)) = z16_.1) ∧ ((IntKind.i64.wrap (z12_.2.1 + (1 : Int))) = z16_.2.1) ∧ ((z12_.2.2.set (0 + (((IntKind.i64.wrap (z6_.1 + z12_.2.1)).toNat) * 1)) (.int .u32 (IntKind.u32.wrap (IntKind.u64.wrap (z12_.1 + (IntKind.u64.wrap ((IntKind.u64.wrap ((IntKind.u64.wrap x7_) * (IntKind.u64.wrap x13_))) + (IntKind.u64.wrap x15_)))))))) = z16_.2.2)) ∧ I9_ z16_ V6)))) ∧ ((decide (z12_.2.1 < ((n2_ : Nat) : Int))) = false → (0 ≤ (IntKind.i64.wrap (z6_.1 + ((n2_ : Nat) : Int))) ∧ (IntKind.i64.wrap (z6_.1 + ((n2_ : Nat) : Int))) < (((IntKind.i64.wrap (((n1_ : Nat) : Int) + ((n2_ : Nat) : Int))).toNat : Nat) : Int)) ∧ ((0 + (((IntKind.i64.wrap (z6_.1 + ((n2_ : Nat) : Int))).toNat) * 1)) + 1 ≤ z12_.2.2.length) ∧ (∃ z17_ : Int × (List Value), m4_ z17_ < m4_ z6_ ∧ (((p2_ : Option Addr) = p2_) ∧ ((n2_ : Nat) = n2_) ∧ ((c2_ : Nat) = c2_) ∧ ((0 : Nat) = 0) ∧ (((IntKind.i64.wrap (((n1_ : Nat) : Int) + ((n2_ : Nat) : Int))).toNat : Nat) = (IntKind.i64.wrap (((n1_ : Nat) : Int) + ((n2_ : Nat) : Int))).toNat) ∧ (((IntKind.i64.wrap (((n1_ : Nat) : Int) + ((n2_ : Nat) : Int))).toNat : Nat) = (IntKind.i64.wrap (((n1_ : Nat) : Int) + ((n2_ : Nat) : Int))).toNat) ∧ ((p1_ : Option Addr) = p1_) ∧ ((n1_ : Nat) = n1_) ∧ ((c1_ : Nat) = c1_) ∧ (((n1_ : Nat) : Int) = ((n1_ : Nat) : Int)) ∧ ((IntKind.i64.wrap (z6_.1 + (1 : Int))) = z17_.1) ∧ ((z12_.2.2.set (0 + (((IntKind.i64.wrap (z6_.1 + ((n2_ : Nat) : Int))).toNat) * 1)) (.int .u32 (IntKind.u32.wrap (z12_.1)))) = z17_.2)) ∧ I3_ z17_ V6))))))) ∧ ((decide (z6_.1 < ((n1_ : Nat) : Int))) = false → (∀ V7 : View, V5.Le V7 → ∀ bk18_ : Nat, (V7.blk bk18_ (.cells z6_.2.toArray 124 (0, 0))) → Acts prog 110 #[.slice (some ⟨bk18_, 0, none⟩) ((IntKind.i64.wrap (((n1_ : Nat) : Int) + ((n2_ : Nat) : Int))).toNat) ((IntKind.i64.wrap (((n1_ : Nat) : Int) + ((n2_ : Nat) : Int))).toNat)] V7 fun r7_ V8 => ∃ (p19_ : Option Addr) (n19_ c19_ : Nat), r7_ = .slice p19_ n19_ c19_ ∧ ∀ J20_ : C → Value, (∀ V9 : View, V8.Le V9 → R (.slice p19_ n19_ c19_) V9))))))))) :
    Acts prog 88 #[.slice ap an ac, .slice bp bn bc] V R :=
  fn_does (LF := [8, 20, 25, 46, 48, 52, 93, 24, 1000024]) (RF := [1000006]) (β0 := (fun _ => 0)) tab_ok mixed [(4, { τ := Int × (List Value), keep := [1, 5, 21, 22], keepB := [], slots := fun z => [(23, .c (.v (.int .i64 z.1)))], boxes := fun z => [(20, ⟨.row z.2, 124⟩)] }), (8, { τ := Int × Int × (List Value), keep := [1, 5, 6, 7, 21, 22, 23, 28, 29], keepB := [], slots := fun z => [(8, .c (.v (.int .u64 z.1))), (30, .c (.v (.int .i64 z.2.1)))], boxes := fun z => [(20, ⟨.row z.2.2, 124⟩)] })] [] func88 (by kernel_rfl)
    [(0, .c (.v (.slice ap an ac))), (1, .c (.v (.slice bp bn bc)))]
    [] (by kernel_rfl) trivial h (by kernel_rfl)

theorem vc_nat_short (ap : Option Addr) (an ac : Nat) (d : Int) (V : View) (R : Value → View → Prop)
    (h : (0 ≤ ((an : Nat) : Int)) ∧ (((an : Nat) : Int) ≤ ((an : Nat) : Int)) ∧ (((4 : Nat) : Int) * ((an : Nat) : Int) ≤ 140737488355328) ∧ (∃ (I1_ : (Int × Int × (List Value)) → View → Prop) (m2_ : (Int × Int × (List Value)) → Nat), (∃ z3_ : Int × Int × (List Value), (((ap : Option Addr) = ap) ∧ ((an : Nat) = an) ∧ ((ac : Nat) = ac) ∧ (d = d) ∧ ((0 : Nat) = 0) ∧ ((((an : Nat) : Int).toNat : Nat) = ((an : Nat) : Int).toNat) ∧ ((((an : Nat) : Int).toNat : Nat) = ((an : Nat) : Int).toNat) ∧ ((0 : Int) = z3_.1) ∧ ((IntKind.i64.wrap (((an : Nat) : Int) - (1 : Int))) = z3_.2.1) ∧ ((List.replicate (((an : Nat) : Int).toNat) (.int .u32 0)) = z3_.2.2)) ∧ I1_ z3_ V) ∧ ∀ (z4_ : Int × Int × (List Value)) (V1 : View), V.Le V1 → I1_ z4_ V1 → (true = true ∧ (((decide (z4_.2.1 ≥ (0 : Int))) = true → (0 ≤ (32 : Int)) ∧ (ap.isSome = true) ∧ (0 ≤ z4_.2.1 ∧ z4_.2.1 < ((an : Nat) : Int)) ∧ (∃ x5_ : Int, (∃ a6_, addrAdd ap (z4_.2.1.toNat * 1) = some a6_ ∧ V1.at a6_ (.int .u32 x5_)) ∧ ((IntKind.u64.wrap d) ≠ 0) ∧ (0 ≤ z4_.2.1 ∧ z4_.2.1 < ((((an : Nat) : Int).toNat : Nat) : Int)) ∧ ((0 + (z4_.2.1.toNat * 1)) + 1 ≤ z4_.2.2.length) ∧ ((IntKind.u64.wrap d) ≠ 0) ∧ (∃ z7_ : Int × Int × (List Value), m2_ z7_ < m2_ z4_ ∧ (((ap : Option Addr) = ap) ∧ ((an : Nat) = an) ∧ ((ac : Nat) = ac) ∧ (d = d) ∧ ((0 : Nat) = 0) ∧ ((((an : Nat) : Int).toNat : Nat) = ((an : Nat) : Int).toNat) ∧ ((((an : Nat) : Int).toNat : Nat) = ((an : Nat) : Int).toNat) ∧ (((bitI .or .u64 (IntKind.u64.wrap (z4_.1 * 2 ^ 32)) (IntKind.u64.wrap x5_)).tmod (IntKind.u64.wrap d)) = z7_.1) ∧ ((IntKind.i64.wrap (z4_.2.1 - (1 : Int))) = z7_.2.1) ∧ ((z4_.2.2.set (0 + (z4_.2.1.toNat * 1)) (.int .u32 (IntKind.u32.wrap (IntKind.u64.wrap ((bitI .or .u64 (IntKind.u64.wrap (z4_.1 * 2 ^ 32)) (IntKind.u64.wrap x5_)).tdiv (IntKind.u64.wrap d)))))) = z7_.2.2)) ∧ I1_ z7_ V1))) ∧ ((decide (z4_.2.1 ≥ (0 : Int))) = false → (∀ V2 : View, V1.Le V2 → ∀ bk8_ : Nat, (V2.blk bk8_ (.cells z4_.2.2.toArray 124 (0, 0))) → Acts prog 110 #[.slice (some ⟨bk8_, 0, none⟩) (((an : Nat) : Int).toNat) (((an : Nat) : Int).toNat)] V2 fun r2_ V3 => ∃ (p9_ : Option Addr) (n9_ c9_ : Nat), r2_ = .slice p9_ n9_ c9_ ∧ ∀ J10_ : C → Value, (∀ V4 : View, V3.Le V4 → R (.tuple #[.slice p9_ n9_ c9_, .int .u32 (IntKind.u32.wrap (z4_.1))]) V4))))))) :
    Acts prog 119 #[.slice ap an ac, .int .u32 d] V R :=
  fn_does (LF := [8, 20, 25, 46, 48, 52, 93, 24, 1000024]) (RF := [1000006]) (β0 := (fun _ => 0)) tab_ok mixed [(4, { τ := Int × Int × (List Value), keep := [0, 1, 6], keepB := [], slots := fun z => [(7, .c (.v (.int .u64 z.1))), (8, .c (.v (.int .i64 z.2.1)))], boxes := fun z => [(12, ⟨.row z.2.2, 124⟩)] })] [] func119 (by kernel_rfl)
    [(0, .c (.v (.slice ap an ac))), (1, .c (.v (.int .u32 d)))]
    [] (by kernel_rfl) trivial h (by kernel_rfl)

theorem vc_nat_DivMod (ap : Option Addr) (an ac : Nat) (bp : Option Addr) (bn bc : Nat) (V : View) (R : Value → View → Prop)
    (h : (∀ V1 : View, V.Le V1 → Acts prog 110 #[.slice ap an ac] V1 fun r1_ V2 => ∃ (p1_ : Option Addr) (n1_ c1_ : Nat), r1_ = .slice p1_ n1_ c1_ ∧ (∀ V3 : View, V2.Le V3 → Acts prog 110 #[.slice bp bn bc] V3 fun r3_ V4 => ∃ (p2_ : Option Addr) (n2_ c2_ : Nat), r3_ = .slice p2_ n2_ c2_ ∧ (((((n2_ : Nat) : Int) == (0 : Int)) = true → (∀ V5 : View, V4.Le V5 → R (.tuple #[.slice none 0 0, .slice none 0 0, .bool false]) V5)) ∧ ((((n2_ : Nat) : Int) == (0 : Int)) = false → (∀ V6 : View, V4.Le V6 → Acts prog 117 #[.slice p1_ n1_ c1_, .slice p2_ n2_ c2_] V6 fun r6_ V7 => ∃ x3_ : Int, r6_ = .int .i64 x3_ ∧ (((decide (x3_ < (0 : Int))) = true → (∀ V8 : View, V7.Le V8 → Acts prog 118 #[.slice p1_ n1_ c1_] V8 fun r8_ V9 => ∃ (p4_ : Option Addr) (n4_ c4_ : Nat), r8_ = .slice p4_ n4_ c4_ ∧ (∀ V10 : View, V9.Le V10 → R (.tuple #[.slice none 0 0, .slice p4_ n4_ c4_, .bool true]) V10))) ∧ ((decide (x3_ < (0 : Int))) = false → (((((n2_ : Nat) : Int) == (1 : Int)) = true → (p2_.isSome = true) ∧ (0 ≤ (0 : Int) ∧ (0 : Int) < ((n2_ : Nat) : Int)) ∧ (∃ x5_ : Int, (∃ a6_, addrAdd p2_ 0 = some a6_ ∧ V7.at a6_ (.int .u32 x5_)) ∧ (∀ V11 : View, V7.Le V11 → Acts prog 119 #[.slice p1_ n1_ c1_, .int .u32 x5_] V11 fun r11_ V12 => ∃ (p7_ : Option Addr) (n7_ c7_ : Nat), ∃ x8_ : Int, r11_ = .tuple #[.slice p7_ n7_ c7_, .int .u32 x8_] ∧ (∀ V13 : View, V12.Le V13 → Acts prog 111 #[.int .u64 (IntKind.u64.wrap x8_)] V13 fun r13_ V14 => ∃ (p9_ : Option Addr) (n9_ c9_ : Nat), r13_ = .slice p9_ n9_ c9_ ∧ (∀ V15 : View, V14.Le V15 → R (.tuple #[.slice p7_ n7_ c7_, .slice p9_ n9_ c9_, .bool true]) V15))))) ∧ ((((n2_ : Nat) : Int) == (1 : Int)) = false → (∀ V16 : View, V7.Le V16 → Acts prog 120 #[.slice p1_ n1_ c1_, .slice p2_ n2_ c2_] V16 fun r16_ V17 => ∃ (p10_ : Option Addr) (n10_ c10_ : Nat), ∃ (p11_ : Option Addr) (n11_ c11_ : Nat), r16_ = .tuple #[.slice p10_ n10_ c10_, .slice p11_ n11_ c11_] ∧ (∀ V18 : View, V17.Le V18 → R (.tuple #[.slice p10_ n10_ c10_, .slice p11_ n11_ c11_, .bool true]) V18)))))))))))) :
    Acts prog 106 #[.slice ap an ac, .slice bp bn bc] V R :=
  fn_does (LF := [8, 20, 25, 46, 48, 52, 93, 24, 1000024]) (RF := [1000006]) (β0 := (fun _ => 0)) tab_ok mixed [] [] func106 (by kernel_rfl)
    [(0, .c (.v (.slice ap an ac))), (1, .c (.v (.slice bp bn bc)))]
    [] (by kernel_rfl) trivial h (by kernel_rfl)

theorem vc_nat_Shl (ap : Option Addr) (an ac : Nat) (k : Int) (V : View) (R : Value → View → Prop)
    (h : (∀ V1 : View, V.Le V1 → Acts prog 110 #[.slice ap an ac] V1 fun r1_ V2 => ∃ (p1_ : Option Addr) (n1_ c1_ : Nat), r1_ = .slice p1_ n1_ c1_ ∧ (((((n1_ : Nat) : Int) == (0 : Int)) = true → (∀ V3 : View, V2.Le V3 → R (.slice none 0 0) V3)) ∧ ((((n1_ : Nat) : Int) == (0 : Int)) = false → ((32 : Int) ≠ 0) ∧ ((32 : Int) ≠ 0) ∧ (0 ≤ IntKind.i64.wrap ((IntKind.i64.wrap (((n1_ : Nat) : Int) + (IntKind.i64.wrap (IntKind.u64.wrap ((minI k (1048576)).tdiv (32 : Int)))))) + (1 : Int))) ∧ (IntKind.i64.wrap ((IntKind.i64.wrap (((n1_ : Nat) : Int) + (IntKind.i64.wrap (IntKind.u64.wrap ((minI k (1048576)).tdiv (32 : Int)))))) + (1 : Int)) ≤ IntKind.i64.wrap ((IntKind.i64.wrap (((n1_ : Nat) : Int) + (IntKind.i64.wrap (IntKind.u64.wrap ((minI k (1048576)).tdiv (32 : Int)))))) + (1 : Int))) ∧ (((4 : Nat) : Int) * (IntKind.i64.wrap ((IntKind.i64.wrap (((n1_ : Nat) : Int) + (IntKind.i64.wrap (IntKind.u64.wrap ((minI k (1048576)).tdiv (32 : Int)))))) + (1 : Int))) ≤ 140737488355328) ∧ (∃ (I2_ : (Int × (List Value)) → View → Prop) (m3_ : (Int × (List Value)) → Nat), (∃ z4_ : Int × (List Value), (((IntKind.i64.wrap (IntKind.u64.wrap ((minI k (1048576)).tdiv (32 : Int)))) = (IntKind.i64.wrap (IntKind.u64.wrap ((minI k (1048576)).tdiv (32 : Int))))) ∧ (((minI k (1048576)).tmod (32 : Int)) = ((minI k (1048576)).tmod (32 : Int))) ∧ ((0 : Nat) = 0) ∧ (((IntKind.i64.wrap ((IntKind.i64.wrap (((n1_ : Nat) : Int) + (IntKind.i64.wrap (IntKind.u64.wrap ((minI k (1048576)).tdiv (32 : Int)))))) + (1 : Int))).toNat : Nat) = (IntKind.i64.wrap ((IntKind.i64.wrap (((n1_ : Nat) : Int) + (IntKind.i64.wrap (IntKind.u64.wrap ((minI k (1048576)).tdiv (32 : Int)))))) + (1 : Int))).toNat) ∧ (((IntKind.i64.wrap ((IntKind.i64.wrap (((n1_ : Nat) : Int) + (IntKind.i64.wrap (IntKind.u64.wrap ((minI k (1048576)).tdiv (32 : Int)))))) + (1 : Int))).toNat : Nat) = (IntKind.i64.wrap ((IntKind.i64.wrap (((n1_ : Nat) : Int) + (IntKind.i64.wrap (IntKind.u64.wrap ((minI k (1048576)).tdiv (32 : Int)))))) + (1 : Int))).toNat) ∧ ((p1_ : Option Addr) = p1_) ∧ ((n1_ : Nat) = n1_) ∧ ((c1_ : Nat) = c1_) ∧ (((n1_ : Nat) : Int) = ((n1_ : Nat) : Int)) ∧ ((0 : Int) = z4_.1) ∧ ((List.replicate ((IntKind.i64.wrap ((IntKind.i64.wrap (((n1_ : Nat) : Int) + (IntKind.i64.wrap (IntKind.u64.wrap ((minI k (1048576)).tdiv (32 : Int)))))) + (1 : Int))).toNat) (.int .u32 0)) = z4_.2)) ∧ I2_ z4_ V2) ∧ ∀ (z5_ : Int × (List Value)) (V4 : View), V2.Le V4 → I2_ z5_ V4 → (true = true ∧ (((decide (z5_.1 < ((n1_ : Nat) : Int))) = true → (p1_.isSome = true) ∧ (0 ≤ z5_.1 ∧ z5_.1 < ((n1_ : Nat) : Int)) ∧ (∃ x6_ : Int, (∃ a7_, addrAdd p1_ (z5_.1.toNat * 1) = some a7_ ∧ V4.at a7_ (.int .u32 x6_)) ∧ (0 ≤ ((minI k (1048576)).tmod (32 : Int))) ∧ (0 ≤ (IntKind.i64.wrap (z5_.1 + (IntKind.i64.wrap (IntKind.u64.wrap ((minI k (1048576)).tdiv (32 : Int)))))) ∧ (IntKind.i64.wrap (z5_.1 + (IntKind.i64.wrap (IntKind.u64.wrap ((minI k (1048576)).tdiv (32 : Int)))))) < (((IntKind.i64.wrap ((IntKind.i64.wrap (((n1_ : Nat) : Int) + (IntKind.i64.wrap (IntKind.u64.wrap ((minI k (1048576)).tdiv (32 : Int)))))) + (1 : Int))).toNat : Nat) : Int)) ∧ (∃ x8_ : Int, z5_.2[0 + (((IntKind.i64.wrap (z5_.1 + (IntKind.i64.wrap (IntKind.u64.wrap ((minI k (1048576)).tdiv (32 : Int)))))).toNat) * 1)]? = some (.int .u32 x8_) ∧ (0 ≤ (IntKind.i64.wrap (z5_.1 + (IntKind.i64.wrap (IntKind.u64.wrap ((minI k (1048576)).tdiv (32 : Int)))))) ∧ (IntKind.i64.wrap (z5_.1 + (IntKind.i64.wrap (IntKind.u64.wrap ((minI k (1048576)).tdiv (32 : Int)))))) < (((IntKind.i64.wrap ((IntKind.i64.wrap (((n1_ : Nat) : Int) + (IntKind.i64.wrap (IntKind.u64.wrap ((minI k (1048576)).tdiv (32 : Int)))))) + (1 : Int))).toNat : Nat) : Int)) ∧ ((0 + (((IntKind.i64.wrap (z5_.1 + (IntKind.i64.wrap (IntKind.u64.wrap ((minI k (1048576)).tdiv (32 : Int)))))).toNat) * 1)) + 1 ≤ z5_.2.length) ∧ (0 ≤ (32 : Int)) ∧ (0 ≤ (IntKind.i64.wrap ((IntKind.i64.wrap (z5_.1 + (IntKind.i64.wrap (IntKind.u64.wrap ((minI k (1048576)).tdiv (32 : Int)))))) + (1 : Int))) ∧ (IntKind.i64.wrap ((IntKind.i64.wrap (z5_.1 + (IntKind.i64.wrap (IntKind.u64.wrap ((minI k (1048576)).tdiv (32 : Int)))))) + (1 : Int))) < (((IntKind.i64.wrap ((IntKind.i64.wrap (((n1_ : Nat) : Int) + (IntKind.i64.wrap (IntKind.u64.wrap ((minI k (1048576)).tdiv (32 : Int)))))) + (1 : Int))).toNat : Nat) : Int)) ∧ ((0 + (((IntKind.i64.wrap ((IntKind.i64.wrap (z5_.1 + (IntKind.i64.wrap (IntKind.u64.wrap ((minI k (1048576)).tdiv (32 : Int)))))) + (1 : Int))).toNat) * 1)) + 1 ≤ (z5_.2.set (0 + (((IntKind.i64.wrap (z5_.1 + (IntKind.i64.wrap (IntKind.u64.wrap ((minI k (1048576)).tdiv (32 : Int)))))).toNat) * 1)) (.int .u32 (bitI .or .u32 x8_ (IntKind.u32.wrap (IntKind.u64.wrap ((IntKind.u64.wrap x6_) * 2 ^ (min ((minI k (1048576)).tmod (32 : Int)).toNat IntKind.u64.bits))))))).length) ∧ (∃ z9_ : Int × (List Value), m3_ z9_ < m3_ z5_ ∧ (((IntKind.i64.wrap (IntKind.u64.wrap ((minI k (1048576)).tdiv (32 : Int)))) = (IntKind.i64.wrap (IntKind.u64.wrap ((minI k (1048576)).tdiv (32 : Int))))) ∧ (((minI k (1048576)).tmod (32 : Int)) = ((minI k (1048576)).tmod (32 : Int))) ∧ ((0 : Nat) = 0) ∧ (((IntKind.i64.wrap ((IntKind.i64.wrap (((n1_ : Nat) : Int) + (IntKind.i64.wrap (IntKind.u64.wrap ((minI k (1048576)).tdiv (32 : Int)))))) + (1 : Int))).toNat : Nat) = (IntKind.i64.wrap ((IntKind.i64.wrap (((n1_ : Nat) : Int) + (IntKind.i64.wrap (IntKind.u64.wrap ((minI k (1048576)).tdiv (32 : Int)))))) + (1 : Int))).toNat) ∧ (((IntKind.i64.wrap ((IntKind.i64.wrap (((n1_ : Nat) : Int) + (IntKind.i64.wrap (IntKind.u64.wrap ((minI k (1048576)).tdiv (32 : Int)))))) + (1 : Int))).toNat : Nat) = (IntKind.i64.wrap ((IntKind.i64.wrap (((n1_ : Nat) : Int) + (IntKind.i64.wrap (IntKind.u64.wrap ((minI k (1048576)).tdiv (32 : Int)))))) + (1 : Int))).toNat) ∧ ((p1_ : Option Addr) = p1_) ∧ ((n1_ : Nat) = n1_) ∧ ((c1_ : Nat) = c1_) ∧ (((n1_ : Nat) : Int) = ((n1_ : Nat) : Int)) ∧ ((IntKind.i64.wrap (z5_.1 + (1 : Int))) = z9_.1) ∧ (((z5_.2.set (0 + (((IntKind.i64.wrap (z5_.1 + (IntKind.i64.wrap (IntKind.u64.wrap ((minI k (1048576)).tdiv (32 : Int)))))).toNat) * 1)) (.int .u32 (bitI .or .u32 x8_ (IntKind.u32.wrap (IntKind.u64.wrap ((IntKind.u64.wrap x6_) * 2 ^ (min ((minI k (1048576)).tmod (32 : Int)).toNat IntKind.u64.bits))))))).set (0 + (((IntKind.i64.wrap ((IntKind.i64.wrap (z5_.1 + (IntKind.i64.wrap (IntKind.u64.wrap ((minI k (1048576)).tdiv (32 : Int)))))) + (1 : Int))).toNat) * 1)) (.int .u32 (IntKind.u32.wrap ((IntKind.u64.wrap ((IntKind.u64.wrap x6_) * 2 ^ (min ((minI k (1048576)).tmod (32 : Int)).toNat IntKind.u64.bits))).fdiv (2 ^ 32))))) = z9_.2)) ∧ I2_ z9_ V4)))) ∧ ((decide (z5_.1 < ((n1_ : Nat) : Int))) = false → (∀ V5 : View, V4.Le V5 → ∀ bk10_ : Nat, (V5.blk bk10_ (.cells z5_.2.toArray 124 (0, 0))) → Acts prog 110 #[.slice (some ⟨bk10_, 0, none⟩) ((IntKind.i64.wrap ((IntKind.i64.wrap (((n1_ : Nat) : Int) + (IntKind.i64.wrap (IntKind.u64.wrap ((minI k (1048576)).tdiv (32 : Int)))))) + (1 : Int))).toNat) ((IntKind.i64.wrap ((IntKind.i64.wrap (((n1_ : Nat) : Int) + (IntKind.i64.wrap (IntKind.u64.wrap ((minI k (1048576)).tdiv (32 : Int)))))) + (1 : Int))).toNat)] V5 fun r5_ V6 => ∃ (p11_ : Option Addr) (n11_ c11_ : Nat), r5_ = .slice p11_ n11_ c11_ ∧ ∀ J12_ : C → Value, (∀ V7 : View, V6.Le V7 → R (.slice p11_ n11_ c11_) V7)))))))))) :
    Acts prog 124 #[.slice ap an ac, .int .u64 k] V R :=
  fn_does (LF := [8, 20, 25, 46, 48, 52, 93, 24, 1000024]) (RF := [1000006]) (β0 := (fun _ => 0)) tab_ok mixed [(7, { τ := Int × (List Value), keep := [5, 6, 7, 29, 30], keepB := [], slots := fun z => [(31, .c (.v (.int .i64 z.1)))], boxes := fun z => [(28, ⟨.row z.2, 124⟩)] })] [] func124 (by kernel_rfl)
    [(0, .c (.v (.slice ap an ac))), (1, .c (.v (.int .u64 k)))]
    [] (by kernel_rfl) trivial h (by kernel_rfl)

theorem vc_nat_Shr (ap : Option Addr) (an ac : Nat) (k : Int) (V : View) (R : Value → View → Prop)
    (h : (∀ V1 : View, V.Le V1 → Acts prog 110 #[.slice ap an ac] V1 fun r1_ V2 => ∃ (p1_ : Option Addr) (n1_ c1_ : Nat), r1_ = .slice p1_ n1_ c1_ ∧ ((32 : Int) ≠ 0) ∧ (((decide ((IntKind.u64.wrap (k.tdiv (32 : Int))) ≥ (IntKind.u64.wrap (((n1_ : Nat) : Int))))) = true → (∀ V3 : View, V2.Le V3 → R (.slice none 0 0) V3)) ∧ ((decide ((IntKind.u64.wrap (k.tdiv (32 : Int))) ≥ (IntKind.u64.wrap (((n1_ : Nat) : Int))))) = false → ((32 : Int) ≠ 0) ∧ ((32 : Int) ≠ 0) ∧ (0 ≤ IntKind.i64.wrap (((n1_ : Nat) : Int) - (IntKind.i64.wrap (IntKind.u64.wrap (k.tdiv (32 : Int)))))) ∧ (IntKind.i64.wrap (((n1_ : Nat) : Int) - (IntKind.i64.wrap (IntKind.u64.wrap (k.tdiv (32 : Int))))) ≤ IntKind.i64.wrap (((n1_ : Nat) : Int) - (IntKind.i64.wrap (IntKind.u64.wrap (k.tdiv (32 : Int)))))) ∧ (((4 : Nat) : Int) * (IntKind.i64.wrap (((n1_ : Nat) : Int) - (IntKind.i64.wrap (IntKind.u64.wrap (k.tdiv (32 : Int)))))) ≤ 140737488355328) ∧ (∃ (I2_ : (Int × (List Value)) → View → Prop) (m3_ : (Int × (List Value)) → Nat), (∃ z4_ : Int × (List Value), (((p1_ : Option Addr) = p1_) ∧ ((n1_ : Nat) = n1_) ∧ ((c1_ : Nat) = c1_) ∧ ((IntKind.i64.wrap (IntKind.u64.wrap (k.tdiv (32 : Int)))) = (IntKind.i64.wrap (IntKind.u64.wrap (k.tdiv (32 : Int))))) ∧ ((k.tmod (32 : Int)) = (k.tmod (32 : Int))) ∧ ((0 : Nat) = 0) ∧ (((IntKind.i64.wrap (((n1_ : Nat) : Int) - (IntKind.i64.wrap (IntKind.u64.wrap (k.tdiv (32 : Int)))))).toNat : Nat) = (IntKind.i64.wrap (((n1_ : Nat) : Int) - (IntKind.i64.wrap (IntKind.u64.wrap (k.tdiv (32 : Int)))))).toNat) ∧ (((IntKind.i64.wrap (((n1_ : Nat) : Int) - (IntKind.i64.wrap (IntKind.u64.wrap (k.tdiv (32 : Int)))))).toNat : Nat) = (IntKind.i64.wrap (((n1_ : Nat) : Int) - (IntKind.i64.wrap (IntKind.u64.wrap (k.tdiv (32 : Int)))))).toNat) ∧ ((((IntKind.i64.wrap (((n1_ : Nat) : Int) - (IntKind.i64.wrap (IntKind.u64.wrap (k.tdiv (32 : Int)))))).toNat : Nat) : Int) = (((IntKind.i64.wrap (((n1_ : Nat) : Int) - (IntKind.i64.wrap (IntKind.u64.wrap (k.tdiv (32 : Int)))))).toNat : Nat) : Int)) ∧ ((0 : Int) = z4_.1) ∧ ((List.replicate ((IntKind.i64.wrap (((n1_ : Nat) : Int) - (IntKind.i64.wrap (IntKind.u64.wrap (k.tdiv (32 : Int)))))).toNat) (.int .u32 0)) = z4_.2)) ∧ I2_ z4_ V2) ∧ ∀ (z5_ : Int × (List Value)) (V4 : View), V2.Le V4 → I2_ z5_ V4 → (true = true ∧ (((decide (z5_.1 < (((IntKind.i64.wrap (((n1_ : Nat) : Int) - (IntKind.i64.wrap (IntKind.u64.wrap (k.tdiv (32 : Int)))))).toNat : Nat) : Int))) = true → (p1_.isSome = true) ∧ (0 ≤ (IntKind.i64.wrap (z5_.1 + (IntKind.i64.wrap (IntKind.u64.wrap (k.tdiv (32 : Int)))))) ∧ (IntKind.i64.wrap (z5_.1 + (IntKind.i64.wrap (IntKind.u64.wrap (k.tdiv (32 : Int)))))) < ((n1_ : Nat) : Int)) ∧ (∃ x6_ : Int, (∃ a7_, addrAdd p1_ (((IntKind.i64.wrap (z5_.1 + (IntKind.i64.wrap (IntKind.u64.wrap (k.tdiv (32 : Int)))))).toNat) * 1) = some a7_ ∧ V4.at a7_ (.int .u32 x6_)) ∧ (((decide ((IntKind.i64.wrap ((IntKind.i64.wrap (z5_.1 + (IntKind.i64.wrap (IntKind.u64.wrap (k.tdiv (32 : Int)))))) + (1 : Int))) < ((n1_ : Nat) : Int))) = true → (p1_.isSome = true) ∧ (0 ≤ (IntKind.i64.wrap ((IntKind.i64.wrap (z5_.1 + (IntKind.i64.wrap (IntKind.u64.wrap (k.tdiv (32 : Int)))))) + (1 : Int))) ∧ (IntKind.i64.wrap ((IntKind.i64.wrap (z5_.1 + (IntKind.i64.wrap (IntKind.u64.wrap (k.tdiv (32 : Int)))))) + (1 : Int))) < ((n1_ : Nat) : Int)) ∧ (∃ x8_ : Int, (∃ a9_, addrAdd p1_ (((IntKind.i64.wrap ((IntKind.i64.wrap (z5_.1 + (IntKind.i64.wrap (IntKind.u64.wrap (k.tdiv (32 : Int)))))) + (1 : Int))).toNat) * 1) = some a9_ ∧ V4.at a9_ (.int .u32 x8_)) ∧ (0 ≤ (32 : Int)) ∧ (0 ≤ (k.tmod (32 : Int))) ∧ (0 ≤ z5_.1 ∧ z5_.1 < (((IntKind.i64.wrap (((n1_ : Nat) : Int) - (IntKind.i64.wrap (IntKind.u64.wrap (k.tdiv (32 : Int)))))).toNat : Nat) : Int)) ∧ ((0 + (z5_.1.toNat * 1)) + 1 ≤ z5_.2.length) ∧ (∃ z10_ : Int × (List Value), m3_ z10_ < m3_ z5_ ∧ (((p1_ : Option Addr) = p1_) ∧ ((n1_ : Nat) = n1_) ∧ ((c1_ : Nat) = c1_) ∧ ((IntKind.i64.wrap (IntKind.u64.wrap (k.tdiv (32 : Int)))) = (IntKind.i64.wrap (IntKind.u64.wrap (k.tdiv (32 : Int))))) ∧ ((k.tmod (32 : Int)) = (k.tmod (32 : Int))) ∧ ((0 : Nat) = 0) ∧ (((IntKind.i64.wrap (((n1_ : Nat) : Int) - (IntKind.i64.wrap (IntKind.u64.wrap (k.tdiv (32 : Int)))))).toNat : Nat) = (IntKind.i64.wrap (((n1_ : Nat) : Int) - (IntKind.i64.wrap (IntKind.u64.wrap (k.tdiv (32 : Int)))))).toNat) ∧ (((IntKind.i64.wrap (((n1_ : Nat) : Int) - (IntKind.i64.wrap (IntKind.u64.wrap (k.tdiv (32 : Int)))))).toNat : Nat) = (IntKind.i64.wrap (((n1_ : Nat) : Int) - (IntKind.i64.wrap (IntKind.u64.wrap (k.tdiv (32 : Int)))))).toNat) ∧ ((((IntKind.i64.wrap (((n1_ : Nat) : Int) - (IntKind.i64.wrap (IntKind.u64.wrap (k.tdiv (32 : Int)))))).toNat : Nat) : Int) = (((IntKind.i64.wrap (((n1_ : Nat) : Int) - (IntKind.i64.wrap (IntKind.u64.wrap (k.tdiv (32 : Int)))))).toNat : Nat) : Int)) ∧ ((IntKind.i64.wrap (z5_.1 + (1 : Int))) = z10_.1) ∧ ((z5_.2.set (0 + (z5_.1.toNat * 1)) (.int .u32 (IntKind.u32.wrap ((bitI .or .u64 (IntKind.u64.wrap x6_) (IntKind.u64.wrap ((IntKind.u64.wrap x8_) * 2 ^ 32))).fdiv (2 ^ (min (k.tmod (32 : Int)).toNat IntKind.u64.bits)))))) = z10_.2)) ∧ I2_ z10_ V4))) ∧ ((decide ((IntKind.i64.wrap ((IntKind.i64.wrap (z5_.1 + (IntKind.i64.wrap (IntKind.u64.wrap (k.tdiv (32 : Int)))))) + (1 : Int))) < ((n1_ : Nat) : Int))) = false → (0 ≤ (k.tmod (32 : Int))) ∧ (0 ≤ z5_.1 ∧ z5_.1 < (((IntKind.i64.wrap (((n1_ : Nat) : Int) - (IntKind.i64.wrap (IntKind.u64.wrap (k.tdiv (32 : Int)))))).toNat : Nat) : Int)) ∧ ((0 + (z5_.1.toNat * 1)) + 1 ≤ z5_.2.length) ∧ (∃ z11_ : Int × (List Value), m3_ z11_ < m3_ z5_ ∧ (((p1_ : Option Addr) = p1_) ∧ ((n1_ : Nat) = n1_) ∧ ((c1_ : Nat) = c1_) ∧ ((IntKind.i64.wrap (IntKind.u64.wrap (k.tdiv (32 : Int)))) = (IntKind.i64.wrap (IntKind.u64.wrap (k.tdiv (32 : Int))))) ∧ ((k.tmod (32 : Int)) = (k.tmod (32 : Int))) ∧ ((0 : Nat) = 0) ∧ (((IntKind.i64.wrap (((n1_ : Nat) : Int) - (IntKind.i64.wrap (IntKind.u64.wrap (k.tdiv (32 : Int)))))).toNat : Nat) = (IntKind.i64.wrap (((n1_ : Nat) : Int) - (IntKind.i64.wrap (IntKind.u64.wrap (k.tdiv (32 : Int)))))).toNat) ∧ (((IntKind.i64.wrap (((n1_ : Nat) : Int) - (IntKind.i64.wrap (IntKind.u64.wrap (k.tdiv (32 : Int)))))).toNat : Nat) = (IntKind.i64.wrap (((n1_ : Nat) : Int) - (IntKind.i64.wrap (IntKind.u64.wrap (k.tdiv (32 : Int)))))).toNat) ∧ ((((IntKind.i64.wrap (((n1_ : Nat) : Int) - (IntKind.i64.wrap (IntKind.u64.wrap (k.tdiv (32 : Int)))))).toNat : Nat) : Int) = (((IntKind.i64.wrap (((n1_ : Nat) : Int) - (IntKind.i64.wrap (IntKind.u64.wrap (k.tdiv (32 : Int)))))).toNat : Nat) : Int)) ∧ ((IntKind.i64.wrap (z5_.1 + (1 : Int))) = z11_.1) ∧ ((z5_.2.set (0 + (z5_.1.toNat * 1)) (.int .u32 (IntKind.u32.wrap ((IntKind.u64.wrap x6_).fdiv (2 ^ (min (k.tmod (32 : Int)).toNat IntKind.u64.bits)))))) = z11_.2)) ∧ I2_ z11_ V4))))) ∧ ((decide (z5_.1 < (((IntKind.i64.wrap (((n1_ : Nat) : Int) - (IntKind.i64.wrap (IntKind.u64.wrap (k.tdiv (32 : Int)))))).toNat : Nat) : Int))) = false → (∀ V5 : View, V4.Le V5 → ∀ bk12_ : Nat, (V5.blk bk12_ (.cells z5_.2.toArray 124 (0, 0))) → Acts prog 110 #[.slice (some ⟨bk12_, 0, none⟩) ((IntKind.i64.wrap (((n1_ : Nat) : Int) - (IntKind.i64.wrap (IntKind.u64.wrap (k.tdiv (32 : Int)))))).toNat) ((IntKind.i64.wrap (((n1_ : Nat) : Int) - (IntKind.i64.wrap (IntKind.u64.wrap (k.tdiv (32 : Int)))))).toNat)] V5 fun r5_ V6 => ∃ (p13_ : Option Addr) (n13_ c13_ : Nat), r5_ = .slice p13_ n13_ c13_ ∧ ∀ J14_ : C → Value, (∀ V7 : View, V6.Le V7 → R (.slice p13_ n13_ c13_) V7)))))))))) :
    Acts prog 125 #[.slice ap an ac, .int .u64 k] V R :=
  fn_does (LF := [8, 20, 25, 46, 48, 52, 93, 24, 1000024]) (RF := [1000006]) (β0 := (fun _ => 0)) tab_ok mixed [(7, { τ := Int × (List Value), keep := [0, 5, 6, 7, 29], keepB := [], slots := fun z => [(30, .c (.v (.int .i64 z.1)))], boxes := fun z => [(27, ⟨.row z.2, 124⟩)] })] [] func125 (by kernel_rfl)
    [(0, .c (.v (.slice ap an ac))), (1, .c (.v (.int .u64 k)))]
    [] (by kernel_rfl) trivial h (by kernel_rfl)

theorem vc_nat_Bits (ap : Option Addr) (an ac : Nat) (V : View) (R : Value → View → Prop)
    (h : (∀ V1 : View, V.Le V1 → Acts prog 110 #[.slice ap an ac] V1 fun r1_ V2 => ∃ (p1_ : Option Addr) (n1_ c1_ : Nat), r1_ = .slice p1_ n1_ c1_ ∧ (((((n1_ : Nat) : Int) == (0 : Int)) = true → (∀ V3 : View, V2.Le V3 → R (.int .i64 0) V3)) ∧ ((((n1_ : Nat) : Int) == (0 : Int)) = false → (p1_.isSome = true) ∧ (0 ≤ (IntKind.i64.wrap (((n1_ : Nat) : Int) - (1 : Int))) ∧ (IntKind.i64.wrap (((n1_ : Nat) : Int) - (1 : Int))) < ((n1_ : Nat) : Int)) ∧ (∃ x2_ : Int, (∃ a3_, addrAdd p1_ (((IntKind.i64.wrap (((n1_ : Nat) : Int) - (1 : Int))).toNat) * 1) = some a3_ ∧ V2.at a3_ (.int .u32 x2_)) ∧ (∀ V4 : View, V2.Le V4 → Acts prog 101 #[.int .u32 x2_] V4 fun r4_ V5 => ∃ x4_ : Int, r4_ = .int .i64 x4_ ∧ (∀ V6 : View, V5.Le V6 → R (.int .i64 (IntKind.i64.wrap ((IntKind.i64.wrap ((32 : Int) * ((n1_ : Nat) : Int))) - x4_))) V6))))))) :
    Acts prog 104 #[.slice ap an ac] V R :=
  fn_does (LF := [8, 20, 25, 46, 48, 52, 93, 24, 1000024]) (RF := [1000006]) (β0 := (fun _ => 0)) tab_ok mixed [] [] func104 (by kernel_rfl)
    [(0, .c (.v (.slice ap an ac)))]
    [] (by kernel_rfl) trivial h (by kernel_rfl)

theorem vc_nat_Gcd (ap : Option Addr) (an ac : Nat) (bp : Option Addr) (bn bc : Nat) (V : View) (R : Value → View → Prop)
    (h : (∀ V1 : View, V.Le V1 → Acts prog 109 #[.slice ap an ac] V1 fun r1_ V2 => ∃ (p1_ : Option Addr) (n1_ c1_ : Nat), r1_ = .slice p1_ n1_ c1_ ∧ (∀ V3 : View, V2.Le V3 → Acts prog 109 #[.slice bp bn bc] V3 fun r3_ V4 => ∃ (p2_ : Option Addr) (n2_ c2_ : Nat), r3_ = .slice p2_ n2_ c2_ ∧ (∃ I3_ : ((Option Addr) × Nat × Nat × (Option Addr) × Nat × Nat) → Nat → View → Prop, (∃ (z5_ : (Option Addr) × Nat × Nat × (Option Addr) × Nat × Nat) (k6_ : Nat), (((p1_ : Option Addr) = z5_.1) ∧ ((n1_ : Nat) = z5_.2.1) ∧ ((c1_ : Nat) = z5_.2.2.1) ∧ ((p2_ : Option Addr) = z5_.2.2.2.1) ∧ ((n2_ : Nat) = z5_.2.2.2.2.1) ∧ ((c2_ : Nat) = z5_.2.2.2.2.2)) ∧ I3_ z5_ k6_ V4) ∧ ∀ (z7_ : (Option Addr) × Nat × Nat × (Option Addr) × Nat × Nat) (k8_ : Nat) (V5 : View), V4.Le V5 → I3_ z7_ k8_ V5 → (true = true ∧ (((decide (((z7_.2.1 : Nat) : Int) > (2 : Int))) = true → (((((z7_.2.2.2.2.1 : Nat) : Int) == (0 : Int)) = true → (∀ V6 : View, V5.Le V6 → R (.slice z7_.1 z7_.2.1 z7_.2.2.1) V6)) ∧ ((((z7_.2.2.2.2.1 : Nat) : Int) == (0 : Int)) = false → (∀ V7 : View, V5.Le V7 → Acts prog 106 #[.slice z7_.1 z7_.2.1 z7_.2.2.1, .slice z7_.2.2.2.1 z7_.2.2.2.2.1 z7_.2.2.2.2.2] V7 fun r7_ V8 => ∃ (p9_ : Option Addr) (n9_ c9_ : Nat), ∃ (p10_ : Option Addr) (n10_ c10_ : Nat), ∃ b11_ : Bool, r7_ = .tuple #[.slice p9_ n9_ c9_, .slice p10_ n10_ c10_, .bool b11_] ∧ (∃ (z12_ : (Option Addr) × Nat × Nat × (Option Addr) × Nat × Nat) (k13_ : Nat), k13_ < k8_ ∧ (((z7_.2.2.2.1 : Option Addr) = z12_.1) ∧ ((z7_.2.2.2.2.1 : Nat) = z12_.2.1) ∧ ((z7_.2.2.2.2.2 : Nat) = z12_.2.2.1) ∧ ((p10_ : Option Addr) = z12_.2.2.2.1) ∧ ((n10_ : Nat) = z12_.2.2.2.2.1) ∧ ((c10_ : Nat) = z12_.2.2.2.2.2)) ∧ I3_ z12_ k13_ V8))))) ∧ ((decide (((z7_.2.1 : Nat) : Int) > (2 : Int))) = false → (((decide (((z7_.2.2.2.2.1 : Nat) : Int) > (2 : Int))) = true → (((((z7_.2.2.2.2.1 : Nat) : Int) == (0 : Int)) = true → (∀ V9 : View, V5.Le V9 → R (.slice z7_.1 z7_.2.1 z7_.2.2.1) V9)) ∧ ((((z7_.2.2.2.2.1 : Nat) : Int) == (0 : Int)) = false → (∀ V10 : View, V5.Le V10 → Acts prog 106 #[.slice z7_.1 z7_.2.1 z7_.2.2.1, .slice z7_.2.2.2.1 z7_.2.2.2.2.1 z7_.2.2.2.2.2] V10 fun r10_ V11 => ∃ (p14_ : Option Addr) (n14_ c14_ : Nat), ∃ (p15_ : Option Addr) (n15_ c15_ : Nat), ∃ b16_ : Bool, r10_ = .tuple #[.slice p14_ n14_ c14_, .slice p15_ n15_ c15_, .bool b16_] ∧ (∃ (z17_ : (Option Addr) × Nat × Nat × (Option Addr) × Nat × Nat) (k18_ : Nat), k18_ < k8_ ∧ (((z7_.2.2.2.1 : Option Addr) = z17_.1) ∧ ((z7_.2.2.2.2.1 : Nat) = z17_.2.1) ∧ ((z7_.2.2.2.2.2 : Nat) = z17_.2.2.1) ∧ ((p15_ : Option Addr) = z17_.2.2.2.1) ∧ ((n15_ : Nat) = z17_.2.2.2.2.1) ∧ ((c15_ : Nat) = z17_.2.2.2.2.2)) ∧ I3_ z17_ k18_ V11))))) ∧ ((decide (((z7_.2.2.2.2.1 : Nat) : Int) > (2 : Int))) = false → (∀ V12 : View, V5.Le V12 → Acts prog 108 #[.slice z7_.1 z7_.2.1 z7_.2.2.1] V12 fun r12_ V13 => ∃ x19_ : Int, ∃ b20_ : Bool, r12_ = .tuple #[.int .u64 x19_, .bool b20_] ∧ (∀ V14 : View, V13.Le V14 → Acts prog 108 #[.slice z7_.2.2.2.1 z7_.2.2.2.2.1 z7_.2.2.2.2.2] V14 fun r14_ V15 => ∃ x21_ : Int, ∃ b22_ : Bool, r14_ = .tuple #[.int .u64 x21_, .bool b22_] ∧ (∃ (I23_ : (Int × Int) → View → Prop) (m24_ : (Int × Int) → Nat), (∃ z25_ : Int × Int, ((x19_ = z25_.1) ∧ (x21_ = z25_.2)) ∧ I23_ z25_ V15) ∧ ∀ (z26_ : Int × Int) (V16 : View), V15.Le V16 → I23_ z26_ V16 → (true = true ∧ (((z26_.2 != (0 : Int)) = true → (z26_.2 ≠ 0) ∧ (∃ z27_ : Int × Int, m24_ z27_ < m24_ z26_ ∧ ((z26_.2 = z27_.1) ∧ ((z26_.1.tmod z26_.2) = z27_.2)) ∧ I23_ z27_ V16)) ∧ ((z26_.2 != (0 : Int)) = false → (∀ V17 : View, V16.Le V17 → Acts prog 111 #[.int .u64 z26_.1] V17 fun r17_ V18 => ∃ (p28_ : Option Addr) (n28_ c28_ : Nat), r17_ = .slice p28_ n28_ c28_ ∧ (∀ V19 : View, V18.Le V19 → R (.slice p28_ n28_ c28_) V19))))))))))))))))) :
    Acts prog 90 #[.slice ap an ac, .slice bp bn bc] V R :=
  fn_does (LF := [8, 20, 25, 46, 48, 52, 93, 24, 1000024]) (RF := [1000006]) (β0 := (fun _ => 0)) tab_ok mixed [(2, { τ := (Option Addr) × Nat × Nat × (Option Addr) × Nat × Nat, gh := true, keep := [], keepB := [], slots := fun z => [(0, .c (.v (.slice z.1 z.2.1 z.2.2.1))), (1, .c (.v (.slice z.2.2.2.1 z.2.2.2.2.1 z.2.2.2.2.2)))], boxes := fun z => [] }), (9, { τ := Int × Int, keep := [], keepB := [], slots := fun z => [(8, .c (.v (.int .u64 z.1))), (10, .c (.v (.int .u64 z.2)))], boxes := fun z => [] })] [] func90 (by kernel_rfl)
    [(0, .c (.v (.slice ap an ac))), (1, .c (.v (.slice bp bn bc)))]
    [] (by kernel_rfl) trivial h (by kernel_rfl)

theorem vc_slices_Clone (sp : Option Addr) (sn sc : Nat) (V : View) (R : Value → View → Prop)
    (h : ((sp.isNone = true → (∀ V1 : View, V.Le V1 → R (.slice none 0 0) V1)) ∧ (sp.isNone = false → (∃ xs1_ : List Value, V.sl sp xs1_ ∧ xs1_.length = sn * 1 ∧ ((0 + sn) * 4 ≤ 140737488355328 ∧ 0 ≤ 0 ∧ 0 * 1 ≤ ([] : List Value).length ∧ xs1_.length = sn * 1 ∧ (∀ v ∈ xs1_, v.oneCell' = true) ∧ ∀ (bk4_ : Nat) (J5_ : C → Value) (sp2_ : List Value) (c3_ : Nat), 0 + sn ≤ c3_ → c3_ * 1 ≤ (0 + sn) * 1 + sp2_.length → (∀ V2 : View, V.Le V2 → ∀ bk6_ : Nat, (V2.blk bk6_ (.cells (([] : List Value).take (0 * 1) ++ xs1_ ++ sp2_).toArray 124 (0, 0))) → R (.slice (some ⟨bk6_, 0, none⟩) (0 + sn) c3_) V2)))))) :
    Acts prog 118 #[.slice sp sn sc] V R :=
  fn_does (LF := [8, 20, 25, 46, 48, 52, 93, 24, 1000024]) (RF := [1000006]) (β0 := (fun _ => 0)) tab_ok mixed [] [] func118 (by kernel_rfl)
    [(0, .c (.v (.slice sp sn sc)))]
    [] (by kernel_rfl) trivial h (by kernel_rfl)

end Go.Proofs.Tryz
/- Contracts of package nat: trim, Cmp, Add. -/
namespace Go.Proofs.Tryz
open Go.Eng Go.Big

theorem c_nat_trim {V : View} {p : Option Addr} {n c : Nat} {ds : List Nat} (h : RD V p n c ds) (hm : ds.length ≤ 4611686018427387904) :
    Acts prog 110 #[.slice p n c] V fun r V' => ∃ k, r = .slice p k c ∧ RD V' p k c (trimD ds) := by
  refine vc_nat_trim p n c V _ ?_
  refine ⟨fun z V' => z.1 = p ∧ z.2.2 = c ∧ z.2.1 ≤ ds.length ∧ trimD (ds.take z.2.1) = trimD ds ∧ RD V' p z.2.1 c (ds.take z.2.1), fun z => z.2.1, ⟨(p, n, c), ⟨rfl, rfl, rfl⟩, rfl, rfl, ?_⟩, ?_⟩
  · have := h.len; subst this; simp; exact h
  · rintro ⟨q, k, c'⟩ V1 l1 ⟨rfl, rfl, hk, ht, hR⟩
    dsimp only at hk ht hR ⊢
    refine ⟨rfl, fun h0 => ?_, fun h0 => ?_⟩
    · have h0 : 0 < k := by simpa using h0
      simp (disch := omega) only [i64w]
      have hl : (ds.take k).length = k := by simp; omega
      have hs : ds.take k = ds.take (k - 1) ++ [ds[k - 1]] := by rw [← List.take_succ_eq_append_getElem (by omega), Nat.sub_add_cancel h0]
      refine hR.rd (k - 1) (by omega) (by omega) ⟨fun hz => ?_, fun hz => ?_⟩
      · have hz : ds[k - 1] = 0 := by simpa using hz
        refine ⟨⟨by omega, by have := hR.cap; omega⟩, (q, k - 1, c'), by dsimp only; omega, ⟨rfl, by dsimp only; omega, rfl⟩, rfl, rfl, by dsimp only; omega, ?_, ?_⟩
        · dsimp only
          rw [← ht, hs, hz, trimD_snoc_zero]
        · have := hR.take (k := k - 1) (by omega)
          dsimp only
          rwa [List.take_take, Nat.min_eq_left (by omega)] at this
      · have hz : ds[k - 1] ≠ 0 := by simpa using hz
        refine fun V2 l2 => ⟨k, rfl, ?_⟩
        rw [← ht, hs, trimD_snoc _ _ hz, ← hs]
        exact hR.le l2
    · have h0 : k = 0 := by simpa using h0
      subst h0
      refine fun V2 l2 => ⟨0, rfl, ?_⟩
      rw [← ht]
      exact hR.le l2
theorem c_slices_Clone {V : View} {p : Option Addr} {n c : Nat} {ds : List Nat} (h : RD V p n c ds) (hm : ds.length ≤ 1099511627776) :
    Acts prog 118 #[.slice p n c] V fun r V' => ∃ q k c', r = .slice q k c' ∧ RD V' q k c' ds := by
  have hl := h.len
  refine vc_slices_Clone p n c V _ ⟨fun h0 V1 l1 => ⟨_, _, _, rfl, ?_⟩, fun h0 => ⟨u32s ds, h.sl, by simp [hl], by omega, by omega, by simp, by simp [hl], ?_, ?_⟩⟩
  · have h0 : p = none := by simpa using h0
    subst h0
    have : ds = [] := by
      rcases Nat.eq_zero_or_pos ds.length with e | e
      · exact List.length_eq_zero_iff.1 e
      · obtain ⟨ad, e, -⟩ := h.sl 0 _ (u32s_get e)
        cases e
    subst this; exact RD.nil
  · intro v hv
    simp only [u32s, List.mem_map] at hv
    obtain ⟨d, -, rfl⟩ := hv
    rfl
  · intro bk J sp c' h1 h2 V1 l1 b hb
    refine ⟨_, _, _, rfl, ?_⟩
    simp only [Nat.zero_add, Nat.zero_mul, List.take_zero, List.nil_append] at hb h1 ⊢
    exact ⟨hl, h1, fun i v hv => ⟨_, rfl, by rw [add_zero']; exact blk_at hb (by rw [List.getElem?_append_left (by rcases Nat.lt_or_ge i (u32s ds).length with e | e; exact e; rw [List.getElem?_eq_none e] at hv; cases hv)]; exact hv)⟩, h.dig, fun e => nomatch e⟩

/-- A normal form's slice. -/
abbrev RN (V : View) (p : Option Addr) (n c : Nat) (x : Nat) : Prop := RD V p n c (digs x)

theorem c_nat_Norm {V : View} {p : Option Addr} {n c : Nat} {ds : List Nat} (h : RD V p n c ds) (hm : ds.length ≤ 1099511627776) :
    Acts prog 109 #[.slice p n c] V fun r V' => ∃ q k c', r = .slice q k c' ∧ RN V' q k c' (val ds) := by
  refine vc_nat_Norm p n c V _ fun V1 l1 => (c_nat_trim (h.le l1) (by omega)).mono ?_
  rintro r V2 l2 ⟨k, rfl, h2⟩
  refine ⟨_, _, _, rfl, fun V3 l3 => (c_slices_Clone (h2.le l3) (by have := trimD_len ds; omega)).mono ?_⟩
  rintro r V4 l4 ⟨q, k', c', rfl, h4⟩
  refine ⟨_, _, _, rfl, fun V5 l5 => ⟨_, _, _, rfl, ?_⟩⟩
  unfold RN
  rw [← trimD_eq h.dig]
  exact h4.le l5

theorem c_nat_Normal {V : View} {p : Option Addr} {n c : Nat} {ds : List Nat} (h : RD V p n c ds) (hm : ds.length ≤ 1099511627776) :
    Acts prog 84 #[.slice p n c] V fun r V' => r = .bool (decide (digs (val ds) = ds)) := by
  have hl := h.len
  refine vc_nat_Normal p n c V _ ⟨fun h0 V1 l1 => ?_, fun h0 => ?_⟩
  · have : ds = [] := List.length_eq_zero_iff.1 (by simp at h0; omega)
    subst this; rfl
  · have h0 : 0 < n := by simp at h0; omega
    simp (disch := omega) only [i64w]
    refine h.rd (n - 1) (by omega) (by omega) fun V1 l1 => ?_
    congr 1
    rw [Bool.eq_iff_iff]
    simp only [bne_iff_ne, ne_eq, decide_eq_true_eq]
    subst hl
    constructor
    · intro hz
      exact digs_val h.dig (nrm_of_last fun _ => by simpa using hz)
    · intro he hz
      have : Nrm ds := by rw [← he]; exact nrm_digs _
      exact this.last (by omega) (by simpa using hz)

theorem c_nat_FromUint {V : View} (u : Int) (h0 : 0 ≤ u) (h1 : u < 18446744073709551616) :
    Acts prog 111 #[.int .u64 u] V fun r V' => ∃ q k c', r = .slice q k c' ∧ RN V' q k c' u.toNat := by
  obtain ⟨u, rfl⟩ := Int.eq_ofNat_of_zero_le h0
  refine vc_nat_FromUint _ V _ ⟨by omega, fun V1 l1 bk hb => ?_⟩
  rw [shr32, u32m, u32w (by omega)] at hb
  have hb : V1.blk bk (.cells (u32s [u % 4294967296, u / 4294967296]).toArray 124 (0, 0)) := by
    simpa [u32s] using hb
  have hd : Dig [u % 4294967296, u / 4294967296] := by simp [Dig]; omega
  refine (c_nat_trim (RD.blk hb hd (n := 2) (c := 2) rfl (Nat.le_refl _)) (by simp)).mono ?_
  rintro r V2 l2 ⟨k, rfl, h2⟩
  refine ⟨_, _, _, rfl, fun _ V3 l3 => ⟨_, _, _, rfl, ?_⟩⟩
  rw [trimD_eq hd] at h2
  have : val [u % 4294967296, u / 4294967296] = (u : Int).toNat := by simp; omega
  rw [this] at h2
  exact h2.le l3
end Go.Proofs.Tryz
/- Contracts of package nat: Cmp, Add, Sub. -/
namespace Go.Proofs.Tryz
open Go.Eng Go.Big

theorem c_nat_Cmp {V : View} {p q : Option Addr} {n c m e : Nat} {xa xb : List Nat} (ha : RD V p n c xa) (hb : RD V q m e xb) (hm : xa.length ≤ 1099511627776) (hn : xb.length ≤ 1099511627776) :
    Acts prog 117 #[.slice p n c, .slice q m e] V fun r V' => r = .int .i64 (cmpN (val xa) (val xb)) := by
  have la := trimD_len xa
  have lb := trimD_len xb
  refine vc_nat_Cmp p n c q m e V _ fun V1 l1 => (c_nat_trim (ha.le l1) (by omega)).mono ?_
  rintro r V2 l2 ⟨n, rfl, h1⟩
  refine ⟨_, _, _, rfl, fun V3 l3 => (c_nat_trim (hb.le (l1.trans (l2.trans l3))) (by omega)).mono ?_⟩
  rintro r V4 l4 ⟨m, rfl, h2⟩
  refine ⟨_, _, _, rfl, ?_⟩
  replace h1 := h1.le (l3.trans l4)
  rw [trimD_eq ha.dig] at h1 la
  rw [trimD_eq hb.dig] at h2 lb
  generalize val xa = x at *
  generalize val xb = y at *
  have hl1 := h1.len
  have hl2 := h2.len
  refine ⟨fun h0 => ⟨fun h3 V5 l5 => ?_, fun h3 V5 l5 => ?_⟩, fun h0 => ?_⟩
  · have := lt_of_len (a := x) (b := y) (by simp at h3; omega)
    rw [cmpN, if_pos this]
  · have := lt_of_len (a := y) (b := x) (by simp at h0 h3; omega)
    rw [cmpN, if_neg (by omega), if_pos this]
  · have h0 : n = m := by simp at h0; omega
    subst h0
    simp (disch := omega) only [i64w]
    refine ⟨fun z V' => -1 ≤ z ∧ z < n ∧ (digs x).drop (z + 1).toNat = (digs y).drop (z + 1).toNat, fun z => (z + 1).toNat, ⟨_, by (try dsimp only); and_intros <;> trivial, by (try dsimp only); omega, by (try dsimp only); omega, ?_⟩, ?_⟩
    · (try dsimp only)
      rw [List.drop_of_length_le (by omega), List.drop_of_length_le (by omega)]
    · rintro i V7 l7 ⟨hi0, hi1, hd⟩
      dsimp only at hi0 hi1 hd ⊢
      refine ⟨by trivial, fun h3 => ?_, fun h3 V5 l5 => ?_⟩
      · have h3 : 0 ≤ i := by simpa using h3
        obtain ⟨i, rfl⟩ := Int.eq_ofNat_of_zero_le h3
        simp (disch := omega) only [i64w]
        have hd' : (digs x).drop (i + 1) = (digs y).drop (i + 1) := hd
        refine (h1.le l7).rd i rfl (by omega) ((h2.le l7).rd i rfl (by omega) ⟨fun h4 V8 l8 => ?_, fun h4 => ?_⟩)
        · have := lt_of_digit (dig_digs x) (by omega) (by omega) hd' (by simpa using h4)
          rw [val_digs, val_digs] at this
          rw [cmpN, if_pos this]
        · refine (h1.le l7).rd i rfl (by omega) ((h2.le l7).rd i rfl (by omega) ⟨fun h5 V8 l8 => ?_, fun h5 => ?_⟩)
          · have := lt_of_digit (dig_digs y) (by omega) (by omega) hd'.symm (by simpa using h5)
            rw [val_digs, val_digs] at this
            rw [cmpN, if_neg (by omega), if_pos this]
          · refine ⟨_, ?_, by (try dsimp only); and_intros <;> trivial, ?_, ?_, ?_⟩
            · (try dsimp only); omega
            · (try dsimp only); omega
            · (try dsimp only); omega
            · (try dsimp only)
              have : ((i : Int) - 1 + 1).toNat = i := by omega
              rw [this, List.drop_eq_getElem_cons (by omega), List.drop_eq_getElem_cons (l := digs y) (by omega), hd']
              congr 1
              simp at h4 h5
              omega
      · have h3 : i = -1 := by simp at h3; omega
        subst h3
        have : digs x = digs y := by simpa using hd
        have := digs_inj this
        subst this
        simp [cmpN]

/-- One step of an addition with a carry. -/
theorem add_step {E A B c d x y W : Nat} (h : E + W * c = A + B) (hd : d = c + x + y) : E + W * (d % 4294967296) + W * 4294967296 * (d / 4294967296) = A + W * x + (B + W * y) := by
  have h1 : W * (d % 4294967296) + W * 4294967296 * (d / 4294967296) = W * d := by
    rw [Nat.mul_assoc, ← Nat.mul_add, Nat.mod_add_div]
  rw [Nat.add_assoc, h1, hd, Nat.mul_add, Nat.mul_add]
  omega

theorem c_nat_Add {V : View} {p q : Option Addr} {n c m e : Nat} {xa xb : List Nat} (ha : RD V p n c xa) (hb : RD V q m e xb) (hm : xa.length ≤ 1099511627776) (hn : xb.length ≤ 1099511627776) :
    Acts prog 133 #[.slice p n c, .slice q m e] V fun r V' => ∃ p' n' c', r = .slice p' n' c' ∧ RN V' p' n' c' (val xa + val xb) := by
  have hla := ha.len
  have hlb := hb.len
  refine vc_nat_Add p n c q m e V _ ⟨fun z V' => ∃ xs ys, RD V' z.1 z.2.1 z.2.2.1 xs ∧ RD V' z.2.2.2.1 z.2.2.2.2.1 z.2.2.2.2.2 ys ∧ ys.length ≤ xs.length ∧ xs.length ≤ 1099511627776 ∧ val xs + val ys = val xa + val xb, ⟨fun h0 => ?_, fun h0 => ?_⟩, ?_⟩
  · exact ⟨(_, _, _, _, _, _), by (try dsimp only); and_intros <;> trivial, xb, xa, hb, ha, by simp at h0; omega, hn, by omega⟩
  · exact ⟨(_, _, _, _, _, _), by (try dsimp only); and_intros <;> trivial, xa, xb, ha, hb, by simp at h0; omega, hm, rfl⟩
  · rintro ⟨p, n, c, q, m, e⟩ V1 l1 ⟨xs, ys, hx, hy, hl, hm, hv⟩
    dsimp only at hx hy ⊢
    rw [← hv]
    clear hv ha hb hla hlb
    have hlx := hx.len
    have hly := hy.len
    simp (disch := omega) only [i64w, u32s_rep]
    have hn1 : ((n : Int) + 1).toNat = n + 1 := by omega
    rw [hn1]
    refine ⟨by trivial, by omega, by omega, by omega, fun z V' => 0 ≤ z.1 ∧ z.1 ≤ 1 ∧ 0 ≤ z.2.1 ∧ z.2.1 ≤ n ∧ ∃ es : List Nat, z.2.2 = u32s es ∧ es.length = n + 1 ∧ Dig es ∧
      val (es.take z.2.1.toNat) + 4294967296 ^ z.2.1.toNat * z.1.toNat = val (xs.take z.2.1.toNat) + val (ys.take z.2.1.toNat), fun z => n - z.2.1.toNat, ⟨(0, 0, u32s (List.replicate (n + 1) 0)), by (try dsimp only); and_intros <;> trivial, by (try dsimp only); omega, by (try dsimp only); omega, by (try dsimp only); omega, by (try dsimp only); omega, _, rfl, by simp, Dig.rep _, by simp⟩, ?_⟩
    rintro ⟨cy, i, vs⟩ V2 l2 ⟨hc0, hc1, hi0, hi1, es, rfl, hes, hde, hv⟩
    dsimp only at hc0 hc1 hi0 hi1 hv ⊢
    obtain ⟨i, rfl⟩ := Int.eq_ofNat_of_zero_le hi0
    obtain ⟨cy, rfl⟩ := Int.eq_ofNat_of_zero_le hc0
    simp only [Int.toNat_natCast] at hv
    refine ⟨by trivial, fun h3 => ?_, fun h3 => ?_⟩
    · have h3 : i < n := by simpa using h3
      refine (hx.le l2).rd i rfl (by omega) ?_
      have hdx := hx.dig.get (i := i) (by omega)
      have next : ∀ d : Nat, d < 8589934592 → val (es.take i) + 4294967296 ^ i * (d % 4294967296) + 4294967296 ^ i * 4294967296 * (d / 4294967296) = val (xs.take (i + 1)) + val (ys.take (i + 1)) →
          ∃ es' : List Nat, (u32s es).set i (.int .u32 ((d % 4294967296 : Nat) : Int)) = u32s es' ∧ es'.length = n + 1 ∧ Dig es' ∧
          val (es'.take (i + 1)) + 4294967296 ^ (i + 1) * (d / 4294967296) = val (xs.take (i + 1)) + val (ys.take (i + 1)) := by
        intro d hd he
        refine ⟨es.set i (d % 4294967296), u32s_set _ _ _, by simpa using hes, hde.set _ _ (by omega), ?_⟩
        rw [val_take_set _ _ _ (by omega), Nat.pow_succ]
        exact he
      refine ⟨fun h4 => ?_, fun h4 => ?_⟩
      · have h4 : i < m := by simpa using h4
        refine (hy.le l2).rd i rfl (by omega) ?_
        have hdy := hy.dig.get (i := i) (by omega)
        simp (disch := omega) only [u64w, i64w, u32m, shr32]
        refine ⟨⟨by omega, by omega⟩, by simp; omega, by omega, (_, _, _), ?_, by (try dsimp only); and_intros <;> trivial, ?_⟩
        · (try dsimp only); omega
        · (try dsimp only)
          have hi2 : ((i : Int) + 1).toNat = i + 1 := by omega
          obtain ⟨es', e1, e2, e3, e4⟩ := next (cy + xs[i] + ys[i]) (by omega) (by rw [val_take_succ _ _ (by omega), val_take_succ _ _ (by omega)]; exact add_step hv rfl)
          refine ⟨by omega, by omega, by omega, by omega, es', ?_, e2, e3, ?_⟩
          · rw [← e1]; simp
          · rw [hi2, ← e4]; congr 2
      · have h4 : m ≤ i := by simpa using h4
        simp (disch := omega) only [u64w, i64w, u32m, shr32]
        refine ⟨⟨by omega, by omega⟩, by simp; omega, by omega, (_, _, _), ?_, by (try dsimp only); and_intros <;> trivial, ?_⟩
        · (try dsimp only); omega
        · (try dsimp only)
          have hi2 : ((i : Int) + 1).toNat = i + 1 := by omega
          obtain ⟨es', e1, e2, e3, e4⟩ := next (cy + xs[i]) (by omega) (by
            rw [val_take_succ _ _ (by omega), val_take_of_le (ds := ys) (i := i + 1) (by omega)]
            have := add_step (y := 0) hv (d := cy + xs[i]) rfl
            rwa [val_take_of_le (ds := ys) (by omega), Nat.mul_zero, Nat.add_zero] at this)
          refine ⟨by omega, by omega, by omega, by omega, es', ?_, e2, e3, ?_⟩
          · rw [← e1]; simp
          · rw [hi2, ← e4]; congr 2
    · have h3 : i = n := by simp at h3; omega
      subst h3
      simp (disch := omega) only [u32w]
      refine ⟨⟨by omega, by omega⟩, by simp; omega, fun V3 l3 bk hb => ?_⟩
      have e1 : (u32s es).set (0 + ((i : Int).toNat) * 1) (.int .u32 (cy : Int)) = u32s (es.set i cy) := by rw [← u32s_set]; simp
      rw [e1] at hb
      have hd2 := hde.set i cy (by omega)
      refine (c_nat_trim (RD.blk hb hd2 (n := i + 1) (c := i + 1) (by simp; omega) (Nat.le_refl _)) (by simp; omega)).mono ?_
      rintro r V4 l4 ⟨k, rfl, h4⟩
      refine ⟨_, _, _, rfl, fun _ V5 l5 => ⟨_, _, _, rfl, ?_⟩⟩
      rw [trimD_eq hd2] at h4
      have e2 : val (es.set i cy) = val xs + val ys := by
        have := val_take_set es i cy (by omega)
        rw [val_take_of_le (by simp; omega)] at this
        rw [this, hv, val_take_of_le (by omega), val_take_of_le (by omega)]
      rw [e2] at h4
      exact h4.le l5
end Go.Proofs.Tryz
/- Contracts of package nat: Sub, Uint, Mul, short. -/
namespace Go.Proofs.Tryz
open Go.Eng Go.Big

/-- One step of a subtraction with a borrow. -/
theorem sub_step {E A B c x y W : Nat} (h : E + B = A + W * c) {v : Int} (hc : c ≤ 1) (hx : x < 4294967296) (hy : y < 4294967296) (hv : v = ((x : Int) - (c + y)) % 18446744073709551616) :
    0 ≤ v ∧ v / 9223372036854775808 ≤ 1 ∧ 0 ≤ v / 9223372036854775808 ∧ E + W * (v % 4294967296).toNat + (B + W * y) = A + W * x + W * 4294967296 * (v / 9223372036854775808).toNat := by
  rcases Nat.lt_or_ge x (c + y) with hl | hl
  · have e1 : v = 18446744073709551616 + (x : Int) - (c + y) := by omega
    have e2 : (v / 9223372036854775808).toNat = 1 := by omega
    have e3 : (v % 4294967296).toNat + (c + y) = x + 4294967296 := by omega
    refine ⟨by omega, by omega, by omega, ?_⟩
    rw [e2, Nat.mul_one]
    have := congrArg (W * ·) e3
    simp only [Nat.mul_add] at this
    omega
  · have e1 : v = (x : Int) - (c + y) := by omega
    have e2 : (v / 9223372036854775808).toNat = 0 := by omega
    have e3 : (v % 4294967296).toNat + (c + y) = x := by omega
    refine ⟨by omega, by omega, by omega, ?_⟩
    rw [e2, Nat.mul_zero, Nat.add_zero]
    have := congrArg (W * ·) e3
    simp only [Nat.mul_add] at this
    omega

theorem c_nat_less {V : View} {p q : Option Addr} {n c m e : Nat} {xs ys : List Nat} (hx : RD V p n c xs) (hy : RD V q m e ys) (hm : xs.length ≤ 1099511627776) (hl : ys.length ≤ xs.length) (hle : val ys ≤ val xs) :
    Acts prog 135 #[.slice p n c, .slice q m e] V fun r V' => ∃ p' n' c', r = .slice p' n' c' ∧ RN V' p' n' c' (val xs - val ys) := by
  have hlx := hx.len
  have hly := hy.len
  refine vc_nat_less p n c q m e V _ ⟨by omega, by omega, by omega, fun z V' => 0 ≤ z.1 ∧ z.1 ≤ 1 ∧ 0 ≤ z.2.1 ∧ z.2.1 ≤ n ∧ ∃ es : List Nat, z.2.2 = u32s es ∧ es.length = n ∧ Dig es ∧
      val (es.take z.2.1.toNat) + val (ys.take z.2.1.toNat) = val (xs.take z.2.1.toNat) + 4294967296 ^ z.2.1.toNat * z.1.toNat, fun z => n - z.2.1.toNat,
      ⟨(0, 0, List.replicate n (.int .u32 0)), by (try dsimp only); and_intros <;> trivial, by (try dsimp only); omega, by (try dsimp only); omega, by (try dsimp only); omega, by (try dsimp only); omega, List.replicate n 0, u32s_rep n, by simp, Dig.rep _, by simp⟩, ?_⟩
  rintro ⟨cy, i, vs⟩ V2 l2 ⟨hc0, hc1, hi0, hi1, es, rfl, hes, hde, hv⟩
  dsimp only at hc0 hc1 hi0 hi1 hv ⊢
  obtain ⟨i, rfl⟩ := Int.eq_ofNat_of_zero_le hi0
  obtain ⟨cy, rfl⟩ := Int.eq_ofNat_of_zero_le hc0
  simp only [Int.toNat_natCast] at hv
  refine ⟨by trivial, fun h3 => ?_, fun h3 => ?_⟩
  · have h3 : i < n := by simpa using h3
    refine (hx.le l2).rd i rfl (by omega) ?_
    have hdx := hx.dig.get (i := i) (by omega)
    refine ⟨fun z V' => ∃ y : Nat, z = cy + y ∧ y < 4294967296 ∧ val (ys.take (i + 1)) = val (ys.take i) + 4294967296 ^ i * y, ⟨fun h4 => ?_, fun h4 => ?_⟩, ?_⟩
    · have h4 : i < m := by simpa using h4
      refine (hy.le l2).rd i rfl (by omega) ?_
      have hdy := hy.dig.get (i := i) (by omega)
      simp (disch := omega) only [u64w]
      exact ⟨_, by (try dsimp only); and_intros <;> trivial, ys[i], rfl, hdy, val_take_succ _ _ (by omega)⟩
    · have h4 : m ≤ i := by simpa using h4
      exact ⟨_, by (try dsimp only); and_intros <;> trivial, 0, by simp, by omega, by rw [val_take_of_le (by omega), val_take_of_le (by omega)]; simp⟩
    · rintro t V3 l3 ⟨y, rfl, hdy, hy'⟩
      refine ⟨by trivial, ⟨by omega, by simpa using h3⟩, by simp; omega, by omega, ?_⟩
      simp (disch := omega) only [u64w, i64w, u64m, u32m, shr63]
      obtain ⟨v, hv'⟩ : ∃ v : Int, v = ((xs[i] : Int) - ((cy : Int) + (y : Int))) % 18446744073709551616 := ⟨_, rfl⟩
      obtain ⟨g1, g2, g3, g4⟩ := sub_step hv (by omega) hdx hdy hv'
      rw [← hv']
      refine ⟨(_, _, _), ?_, by (try dsimp only); and_intros <;> trivial, ?_⟩
      · (try dsimp only); omega
      · (try dsimp only)
        have hi2 : ((i : Int) + 1).toNat = i + 1 := by omega
        refine ⟨g3, g2, by omega, by omega, es.set i (v % 4294967296).toNat, ?_, by simpa using hes, hde.set _ _ (by omega), ?_⟩
        · rw [← u32s_set]
          congr 2
          · simp
          · omega
        · rw [hi2, val_take_set _ _ _ (by omega), hy', g4, val_take_succ _ _ (by omega), Nat.pow_succ]
  · have h3 : i = n := by simp at h3; omega
    subst h3
    intro V3 l3 bk hb
    refine (c_nat_trim (RD.blk hb hde (n := i) (c := i) hes.symm (Nat.le_refl _)) (by omega)).mono ?_
    rintro r V4 l4 ⟨k, rfl, h4⟩
    refine ⟨_, _, _, rfl, fun _ V5 l5 => ⟨_, _, _, rfl, ?_⟩⟩
    rw [trimD_eq hde] at h4
    rw [val_take_of_le (by omega), val_take_of_le (by omega), val_take_of_le (by omega)] at hv
    have e1 := val_lt hde
    rw [hes] at e1
    have e2 : cy = 0 := by
      rcases Nat.eq_zero_or_pos cy with h | h
      · exact h
      · have : 4294967296 ^ i * 1 ≤ 4294967296 ^ i * cy := Nat.mul_le_mul_left _ h
        omega
    subst e2
    rw [show val es = val xs - val ys from by omega] at h4
    exact h4.le l5

theorem cmpN_neg {a b : Nat} : cmpN a b < 0 ↔ a < b := by
  unfold cmpN
  split
  · simp; omega
  · split <;> simp <;> omega
theorem cmpN_zero {a b : Nat} : cmpN a b = 0 ↔ a = b := by
  unfold cmpN
  split
  · simp; omega
  · split
    · simp; omega
    · simp; omega

theorem c_nat_Sub {V : View} {p q : Option Addr} {n c m e : Nat} {xa xb : List Nat} (ha : RD V p n c xa) (hb : RD V q m e xb) (hm : xa.length ≤ 1099511627776) (hn : xb.length ≤ 1099511627776) :
    Acts prog 134 #[.slice p n c, .slice q m e] V fun r V' => ∃ p' n' c', r = .tuple #[.slice p' n' c', .bool (decide (val xb ≤ val xa))] ∧ RN V' p' n' c' (val xa - val xb) := by
  refine vc_nat_Sub p n c q m e V _ fun V1 l1 => (c_nat_Cmp (ha.le l1) (hb.le l1) hm hn).mono ?_
  rintro r V2 l2 rfl
  refine ⟨_, rfl, fun h0 V3 l3 => ?_, fun h0 V3 l3 => ?_⟩
  · have h0 : val xa < val xb := by simpa [cmpN_neg] using h0
    rw [Nat.sub_eq_zero_of_le (by omega), decide_eq_false (by omega)]
    exact ⟨_, _, _, rfl, RD.nil⟩
  · have h0 : val xb ≤ val xa := by simpa [← Int.not_lt, cmpN_neg] using h0
    rw [decide_eq_true h0]
    refine (c_nat_trim ((ha.le l1).le (l2.trans l3)) (by omega)).mono ?_
    rintro r V4 l4 ⟨n1, rfl, h1⟩
    refine ⟨_, _, _, rfl, fun V5 l5 => (c_nat_trim ((hb.le l1).le (l2.trans (l3.trans (l4.trans l5)))) (by omega)).mono ?_⟩
    rintro r V6 l6 ⟨n2, rfl, h2⟩
    rw [trimD_eq ha.dig] at h1
    rw [trimD_eq hb.dig] at h2
    have := digs_val_len ha.dig
    refine ⟨_, _, _, rfl, fun V7 l7 => (c_nat_less (h1.le (l5.trans (l6.trans l7))) (h2.le l7) (by omega) (digs_len_mono h0) (by rw [val_digs, val_digs]; exact h0)).mono ?_⟩
    rintro r V8 l8 ⟨p', n', c', rfl, h3⟩
    rw [val_digs, val_digs] at h3
    exact ⟨_, _, _, rfl, fun V9 l9 => ⟨_, _, _, rfl, h3.le l9⟩⟩
end Go.Proofs.Tryz
