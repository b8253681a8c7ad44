/- A part of the proof (joined by program from: Bits, BitsB, VNat, NatA, NatB, NatC). -/
import Derived.Test.YtcbcbdbheiopbaaGreatDoorL7
import Derived.Test.YtcbcbdbheiopbaaGreatDoorL5
set_option linter.unusedVariables false
open Go.IntKind (i64 u64 u32)
/- Contracts of package math/bits. -/
namespace Go.Big
/-- The number of binary digits. -/
def blen (n:Nat):Nat:=if n=0 then 0 else n.log2 + 1
theorem lt_blen (n:Nat):n < 2 ^ blen n:=by
 unfold blen; split
 ·subst_vars; decide
 ·exact Nat.lt_log2_self
theorem le_blen {n:Nat} (h:n≠0):2 ^ (blen n - 1)<=n:=by
 unfold blen; rw [if_neg h]; exact Nat.log2_self_le h
theorem blen_unique {n b:Nat} (h0:n < 2 ^ b) (h1:b=0 \/ 2 ^ (b - 1)<=n):blen n=b:=by
 rcases h1 with h1 | h1
 ·subst h1; have:n=0:=by simpa using h0
  subst this; rfl
 ·have hn:n≠0:=by have:=Nat.two_pow_pos (b - 1); omega
  have g0:=lt_blen n
  have g1:=le_blen hn
  have e1:¬ blen n < b:=fun h=>by have:=Nat.pow_le_pow_right (n:=2) (by omega) (show blen n<=b - 1 by omega); omega
  have e2:¬ b < blen n:=fun h=>by have:=Nat.pow_le_pow_right (n:=2) (by omega) (show b<=blen n - 1 by omega); omega
  omega
theorem blen_le {n b:Nat}:blen n<=b↔n < 2 ^ b:=by
 constructor
 ·intro h; exact Nat.lt_of_lt_of_le (lt_blen n) (Nat.pow_le_pow_right (by omega) h)
 ·intro h
  rcases Nat.lt_or_ge b (blen n) with h' | h'
  ·have hn:n≠0:=by intro e; subst e; simp [blen] at h'
   have:=le_blen hn
   have:=Nat.pow_le_pow_right (n:=2) (by omega) (show b<=blen n - 1 by omega)
   omega
  ·exact h'
theorem blen_shift {n k:Nat} (h:2 ^ k<=n):blen (n / 2 ^ k) + k=blen n:=by
 have hp:=Nat.two_pow_pos k
 have hq:n / 2 ^ k≠0:=by have:=Nat.div_pos h hp; omega
 have g0:=lt_blen (n / 2 ^ k)
 have g1:=le_blen hq
 refine (blen_unique ?_ (.inr ?_)).symm
 ·rw [Nat.pow_add]; exact (Nat.div_lt_iff_lt_mul hp).1 g0
 ·have hb:0 < blen (n / 2 ^ k):=by unfold blen; rw [if_neg hq]; omega
  rw [show blen (n / 2 ^ k) + k - 1=blen (n / 2 ^ k) - 1 + k from by omega,Nat.pow_add]
  exact (Nat.le_div_iff_mul_le hp).1 g1
end Go.Big
namespace Go.Proofs.Tryz
open Go.Eng Go.Big
theorem fdiv_nat (a k:Nat):((a:Nat):Int).fdiv (2 ^ k)=((a / 2 ^ k:Nat):Int):=by
 rw [Int.fdiv_eq_ediv_of_nonneg _ (by have:=Int.pow_pos (n:=2) (m:=k) (by omega); omega)]
 simp
def len8:ByteArray:=⟨#[0,1,2,2,3,3,3,3,4,4,4,4,4,4,4,4,5,5,5,5,5,5,5,5,5,5,5,5,5,5,5,5,6,6,6,6,6,6,6,6,6,6,6,6,6,6,6,6,6,6,6,6,6,6,6,6,6,6,6,6,6,6,6,6,7,7,7,7,7,7,7,7,7,7,7,7,7,7,7,7,7,7,7,7,7,7,7,7,7,7,7,7,7,7,7,7,7,7,7,7,7,7,7,7,7,7,7,7,7,7,7,7,7,7,7,7,7,7,7,7,7,7,7,7,7,7,7,7,8,8,8,8,8,8,8,8,8,8,8,8,8,8,8,8,8,8,8,8,8,8,8,8,8,8,8,8,8,8,8,8,8,8,8,8,8,8,8,8,8,8,8,8,8,8,8,8,8,8,8,8,8,8,8,8,8,8,8,8,8,8,8,8,8,8,8,8,8,8,8,8,8,8,8,8,8,8,8,8,8,8,8,8,8,8,8,8,8,8,8,8,8,8,8,8,8,8,8,8,8,8,8,8,8,8,8,8,8,8,8,8,8,8,8,8,8,8,8,8,8,8,8,8,8,8,8,8]⟩
set_option maxRecDepth 10000 in
theorem c_Len32 {V:View} (x:Nat) (hx:x < 4294967296) :
  Acts prog 307 #[.int .u32 (x:Int)] V fun r V'=>r=.int .i64 (blen x:Int):=by
 refine vc_math_bits_Len32 _ V _ ⟨fun z _=>∃y b:Nat,z=((y:Int),(b:Int))/\y < 65536/\b<=16/\blen x=blen y + b,⟨fun h0=>⟨by omega,?_⟩,fun h0=>?_⟩,?_⟩
 ·rw [fdiv_nat]
  have h0:2 ^ 16<=x:=by simp at h0; omega
  exact ⟨_,⟨rfl,rfl⟩,x / 2 ^ 16,16,rfl,by omega,by omega,(blen_shift h0).symm⟩
 ·exact ⟨_,⟨rfl,rfl⟩,x,0,rfl,by simp at h0; omega,by omega,rfl⟩
 ·rintro _ V1 l1 ⟨y,b,rfl,hy,hb,e⟩
  rw [e]; clear e
  refine ⟨by trivial,fun z _=>∃y' b':Nat,z=((y':Int),(b':Int))/\y' < 256/\b'<=24/\blen y + b=blen y' + b',⟨fun h0=>⟨by omega,?_⟩,fun h0=>?_⟩,?_⟩
  ·dsimp only at h0 ⊢
   rw [fdiv_nat]
   simp (disch:=omega) only [i64w]
   have h0:2 ^ 8<=y:=by simp at h0; omega
   exact ⟨(((y / 2 ^ 8:Nat):Int),(b:Int) + 8),⟨rfl,rfl⟩,y / 2 ^ 8,b + 8,by simp,by omega,by omega,by have:=blen_shift h0; omega⟩
  ·exact ⟨_,⟨rfl,rfl⟩,y,b,rfl,by simp at h0; omega,by omega,rfl⟩
  ·rintro _ V2 l2 ⟨y,b,rfl,hy,hb,e⟩
   rw [e]; clear e
   have hw:IntKind.u8.wrap (y:Int)=y:=IntWalk.u8_in _ (by omega)
   dsimp only
   rw [hw]
   have hsz:(len8.size:Int)=256:=rfl
   refine ⟨by trivial,⟨by omega,by show (y:Int) < (len8.size:Int); rw [hsz]; omega⟩,fun V3 l3=>?_⟩
   show Value.int .i64 (i64.wrap (b + i64.wrap ((len8.data.toList.getD (y:Int).toNat 0).toNat:Int)))=_
   congr 1
   have key:∀y:Nat,y < 256->(len8.data.toList.getD y 0).toNat=blen y:=by decide +kernel
   have hbl:blen y<=8:=blen_le.2 (by omega)
   have:=key y hy
   rw [Int.toNat_natCast,this]
   simp (disch:=omega) only [i64w]
   omega
theorem c_LeadingZeros32 {V:View} (x:Nat) (hx:x < 4294967296) :
  Acts prog 295 #[.int .u32 (x:Int)] V fun r V'=>r=.int .i64 (32 - (blen x:Int)):=by
 refine vc_math_bits_LeadingZeros32 _ V _ fun V1 l1=>(c_Len32 x hx).mono ?_
 rintro r V2 l2 rfl
 have hbl:blen x<=32:=blen_le.2 (by omega)
 refine ⟨_,rfl,fun V3 l3=>?_⟩
 simp (disch:=omega) only [i64w]
theorem and64 (a:Nat) (ha:a < 18446744073709551616):bitI .and .u64 (a:Int) 4294967295=((a % 4294967296:Nat):Int):=by
 rw [bitI,u64m]
 have h2:(BitVec.ofInt IntKind.u64.bits ((a:Nat):Int) &&& BitVec.ofInt IntKind.u64.bits 4294967295).toNat=a % 4294967296:=by
  show (BitVec.ofInt 64 ((a:Nat):Int) &&& BitVec.ofInt 64 ((4294967295:Nat):Int)).toNat=_
  rw [BitVec.ofInt_natCast,BitVec.ofInt_natCast,BitVec.toNat_and,BitVec.toNat_ofNat,BitVec.toNat_ofNat,Nat.mod_eq_of_lt (by omega),Nat.mod_eq_of_lt (by omega)]
  have:=Nat.and_two_pow_sub_one_eq_mod a 32
  exact this
 rw [h2]
 omega
theorem mul64_plain (a b c d:Nat) (ha:a < 4294967296) (hb:b < 4294967296) (hc:c < 4294967296) (hd:d < 4294967296) :
  a * c + (a * d + b * d / 4294967296) / 4294967296 + ((a * d + b * d / 4294967296) % 4294967296 + b * c) / 4294967296=(a * 4294967296 + b) * (c * 4294967296 + d) / 18446744073709551616 /\
  a * c<=18446744065119617025/\a * d<=18446744065119617025/\b * c<=18446744065119617025/\b * d<=18446744065119617025:=by
 have h1:a * c<=4294967295 * 4294967295:=Nat.mul_le_mul (by omega) (by omega)
 have h2:a * d<=4294967295 * 4294967295:=Nat.mul_le_mul (by omega) (by omega)
 have h3:b * c<=4294967295 * 4294967295:=Nat.mul_le_mul (by omega) (by omega)
 have h4:b * d<=4294967295 * 4294967295:=Nat.mul_le_mul (by omega) (by omega)
 have e:(a * 4294967296 + b) * (c * 4294967296 + d)=(a * c) * 18446744073709551616 + (a * d) * 4294967296 + (b * c) * 4294967296 + b * d:=by grind
 rw [e]
 generalize a * c=p at *
 generalize a * d=q at *
 generalize b * c=r at *
 generalize b * d=s at *
 refine ⟨by omega,by omega,by omega,by omega,by omega⟩
theorem c_Mul64 {V:View} (x y:Nat) (hx:x < 18446744073709551616) (hy:y < 18446744073709551616) :
  Acts prog 342 #[.int .u64 (x:Int),.int .u64 (y:Int)] V fun r V'=>r=.tuple #[.int .u64 ((x * y / 18446744073709551616:Nat):Int),.int .u64 ((x * y % 18446744073709551616:Nat):Int)]:=by
 refine vc_math_bits_Mul64 _ _ V _ ⟨by omega,by omega,by omega,by omega,by omega,fun V1 l1=>?_⟩
 have p:=mul64_plain (x / 4294967296) (x % 4294967296) (y / 4294967296) (y % 4294967296) (by omega) (by omega) (by omega) (by omega)
 rw [Nat.div_add_mod' x 4294967296,Nat.div_add_mod' y 4294967296] at p
 obtain ⟨p1,p2,p3,p4,p5⟩:=p
 have hlo:u64.wrap ((x:Int) * y)=((x * y % 18446744073709551616:Nat):Int):=by rw [u64m]; simp
 rw [hlo,and64 x hx,and64 y hy,shr32,shr32]
 rw [← p1]
 have hA:((x:Int) / 4294967296) * ((y:Int) / 4294967296)=((x / 4294967296 * (y / 4294967296):Nat):Int):=by simp
 have hB:((x:Int) / 4294967296) * ((y % 4294967296:Nat):Int)=((x / 4294967296 * (y % 4294967296):Nat):Int):=by simp
 have hC:((x % 4294967296:Nat):Int) * ((y:Int) / 4294967296)=((x % 4294967296 * (y / 4294967296):Nat):Int):=by simp
 have hD:((x % 4294967296:Nat):Int) * ((y % 4294967296:Nat):Int)=((x % 4294967296 * (y % 4294967296):Nat):Int):=by simp
 rw [hA,hB,hC,hD]
 generalize x / 4294967296 * (y / 4294967296)=a at *
 generalize x / 4294967296 * (y % 4294967296)=b at *
 generalize x % 4294967296 * (y / 4294967296)=c at *
 generalize x % 4294967296 * (y % 4294967296)=d at *
 simp only [shr32]
 have w1:u64.wrap (d:Int)=d:=u64w (by omega)
 have w2:u64.wrap (b:Int)=b:=u64w (by omega)
 have w3:u64.wrap (c:Int)=c:=u64w (by omega)
 have w4:u64.wrap (a:Int)=a:=u64w (by omega)
 rw [w1,w2,w3,w4]
 have w5:u64.wrap ((b:Int) + d / 4294967296)=((b + d / 4294967296:Nat):Int):=by rw [u64w (by omega)]; omega
 rw [w5,and64 _ (by omega)]
 have w6:u64.wrap (((b + d / 4294967296) % 4294967296:Nat) + (c:Int))=(((b + d / 4294967296) % 4294967296 + c:Nat):Int):=by rw [u64w (by omega)]; omega
 rw [w6]
 have hlt:x * y / 18446744073709551616 < 18446744073709551616:=by
  have:x * y < 18446744073709551616 * 18446744073709551616:=Nat.mul_lt_mul'' hx hy
  omega
 have w7:u64.wrap ((a:Int) + ((b + d / 4294967296:Nat):Int) / 4294967296)=((a + (b + d / 4294967296) / 4294967296:Nat):Int):=by
  rw [u64w (by omega)]; omega
 rw [w7]
 have w8:u64.wrap (((a + (b + d / 4294967296) / 4294967296:Nat):Int) + (((b + d / 4294967296) % 4294967296 + c:Nat):Int) / 4294967296)=((a + (b + d / 4294967296) / 4294967296 + ((b + d / 4294967296) % 4294967296 + c) / 4294967296:Nat):Int):=by
  rw [u64w (by omega)]; omega
 rw [w8]
theorem c_Add32 {V:View} (x y c:Nat) (hx:x < 4294967296) (hy:y < 4294967296) (hc:c < 4294967296) :
  Acts prog 248 #[.int .u32 (x:Int),.int .u32 (y:Int),.int .u32 (c:Int)] V fun r V'=>r=.tuple #[.int .u32 (((x + y + c) % 4294967296:Nat):Int),.int .u32 (((x + y + c) / 4294967296:Nat):Int)]:=by
 refine vc_math_bits_Add32 _ _ _ V _ ⟨by omega,fun V1 l1=>?_⟩
 simp (disch:=omega) only [u64w,u32m,shr32]
 have e1:((x:Int) + y + c) % 4294967296=(((x + y + c) % 4294967296:Nat):Int):=by omega
 have e2:((x:Int) + y + c) / 4294967296 % 4294967296=(((x + y + c) / 4294967296:Nat):Int):=by omega
 rw [e1,e2]
end Go.Proofs.Tryz
/- Contracts of package math/bits: Sub32, Div32. -/
namespace Go.Proofs.Tryz
open Go.Eng Go.Big
theorem and32 (a b:Nat) (ha:a < 4294967296) (hb:b < 4294967296):bitI .and .u32 (a:Int) (b:Int)=((a &&& b:Nat):Int):=by
 have h2:(BitVec.ofInt IntKind.u32.bits ((a:Nat):Int) &&& BitVec.ofInt IntKind.u32.bits ((b:Nat):Int)).toNat=a &&& b:=by
  show (BitVec.ofInt 32 ((a:Nat):Int) &&& BitVec.ofInt 32 ((b:Nat):Int)).toNat=_
  rw [BitVec.ofInt_natCast,BitVec.ofInt_natCast,BitVec.toNat_and,BitVec.toNat_ofNat,BitVec.toNat_ofNat,Nat.mod_eq_of_lt (by omega),Nat.mod_eq_of_lt (by omega)]
 have h3:a &&& b < 2 ^ 32:=Nat.and_lt_two_pow a (by omega)
 rw [bitI,u32m,h2]
 omega
theorem or32 (a b:Nat) (ha:a < 4294967296) (hb:b < 4294967296):bitI .or .u32 (a:Int) (b:Int)=((a ||| b:Nat):Int):=by
 have h2:(BitVec.ofInt IntKind.u32.bits ((a:Nat):Int) ||| BitVec.ofInt IntKind.u32.bits ((b:Nat):Int)).toNat=a ||| b:=by
  show (BitVec.ofInt 32 ((a:Nat):Int) ||| BitVec.ofInt 32 ((b:Nat):Int)).toNat=_
  rw [BitVec.ofInt_natCast,BitVec.ofInt_natCast,BitVec.toNat_or,BitVec.toNat_ofNat,BitVec.toNat_ofNat,Nat.mod_eq_of_lt (by omega),Nat.mod_eq_of_lt (by omega)]
 have h3:a ||| b < 2 ^ 32:=Nat.or_lt_two_pow (by omega) (by omega)
 rw [bitI,u32m,h2]
 omega
theorem xor32 (a b:Nat) (ha:a < 4294967296) (hb:b < 4294967296):bitI .xor .u32 (a:Int) (b:Int)=((a ^^^ b:Nat):Int):=by
 have h2:(BitVec.ofInt IntKind.u32.bits ((a:Nat):Int) ^^^ BitVec.ofInt IntKind.u32.bits ((b:Nat):Int)).toNat=a ^^^ b:=by
  show (BitVec.ofInt 32 ((a:Nat):Int) ^^^ BitVec.ofInt 32 ((b:Nat):Int)).toNat=_
  rw [BitVec.ofInt_natCast,BitVec.ofInt_natCast,BitVec.toNat_xor,BitVec.toNat_ofNat,BitVec.toNat_ofNat,Nat.mod_eq_of_lt (by omega),Nat.mod_eq_of_lt (by omega)]
 have h3:a ^^^ b < 2 ^ 32:=Nat.xor_lt_two_pow (by omega) (by omega)
 rw [bitI,u32m,h2]
 omega
theorem top32 {n:Nat} (h:n < 4294967296):n / 2147483648=if n.testBit 31 then 1 else 0:=by
 rw [Nat.testBit_eq_decide_div_mod_eq]
 have:(2:Nat) ^ 31=2147483648:=by decide
 rw [this]
 split
 ·rename_i h1; simp at h1; omega
 ·rename_i h1; simp at h1; omega
theorem bot32 {n:Nat} (h:n < 4294967296):n.testBit 31=decide (2147483648<=n):=by
 rw [Nat.testBit_eq_decide_div_mod_eq]
 have:(2:Nat) ^ 31=2147483648:=by decide
 rw [this]
 congr 1
 simp; omega
theorem borrow32 (x y c:Nat) (hx:x < 4294967296) (hy:y < 4294967296) (hc:c<=1) {d:Nat} (hd:(d:Int)=((x:Int) - y - c) % 4294967296) :
  (((4294967295 ^^^ x) &&& y) ||| ((4294967295 ^^^ (x ^^^ y)) &&& d)) / 2147483648=if x < y + c then 1 else 0:=by
 have h1:(4294967295 ^^^ x) < 2 ^ 32:=Nat.xor_lt_two_pow (by omega) (by omega)
 have h2:x ^^^ y < 2 ^ 32:=Nat.xor_lt_two_pow (by omega) (by omega)
 have h3:(4294967295 ^^^ (x ^^^ y)) < 2 ^ 32:=Nat.xor_lt_two_pow (by omega) h2
 have h4:(4294967295 ^^^ x) &&& y < 2 ^ 32:=Nat.and_lt_two_pow _ (by omega)
 have h5:(4294967295 ^^^ (x ^^^ y)) &&& d < 2 ^ 32:=Nat.and_lt_two_pow _ (by omega)
 have h6:=Nat.or_lt_two_pow h4 h5
 rw [top32 h6]
 have hd':d < 4294967296:=by omega
 rw [Nat.testBit_or,Nat.testBit_and,Nat.testBit_and,Nat.testBit_xor,Nat.testBit_xor,Nat.testBit_xor,bot32 hx,bot32 hy,bot32 hd',bot32 (n:=4294967295) (by omega)]
 by_cases a1:2147483648<=x <;> by_cases a2:2147483648<=y <;> by_cases a3:2147483648<=d <;> simp [a1,a2,a3] <;> omega
theorem c_Sub32 {V:View} (x y c:Nat) (hx:x < 4294967296) (hy:y < 4294967296) (hc:c<=1) :
  Acts prog 250 #[.int .u32 (x:Int),.int .u32 (y:Int),.int .u32 (c:Int)] V fun r V'=>∃d b:Nat,r=.tuple #[.int .u32 (d:Int),.int .u32 (b:Int)]/\d < 4294967296/\b<=1/\d + (y + c)=x + 4294967296 * b:=by
 refine vc_math_bits_Sub32 _ _ _ V _ ⟨by omega,fun V1 l1=>?_⟩
 obtain ⟨d,hd⟩:∃d:Nat,(d:Int)=((x:Int) - y - c) % 4294967296:=⟨(((x:Int) - y - c) % 4294967296).toNat,by omega⟩
 have hd':d < 4294967296:=by omega
 have w1:u32.wrap (u32.wrap ((x:Int) - y) - c)=(d:Int):=by rw [u32m,u32m]; omega
 have w2:IntKind.u32.max=((4294967295:Nat):Int):=rfl
 have h1:(4294967295 ^^^ x) < 2 ^ 32:=Nat.xor_lt_two_pow (by omega) (by omega)
 have h2:x ^^^ y < 2 ^ 32:=Nat.xor_lt_two_pow (by omega) (by omega)
 have h3:(4294967295 ^^^ (x ^^^ y)) < 2 ^ 32:=Nat.xor_lt_two_pow (by omega) h2
 have h4:(4294967295 ^^^ x) &&& y < 2 ^ 32:=Nat.and_lt_two_pow _ (by omega)
 have h5:(4294967295 ^^^ (x ^^^ y)) &&& d < 2 ^ 32:=Nat.and_lt_two_pow _ (by omega)
 rw [w1,w2,xor32 _ _ (by omega) hx,and32 _ _ h1 hy,xor32 _ _ hx hy,xor32 _ _ (by omega) h2,and32 _ _ h3 hd',or32 _ _ h4 h5,fdiv_nat]
 have e:(2:Nat) ^ 31=2147483648:=by decide
 rw [e,borrow32 x y c hx hy hc hd]
 refine ⟨d,_,rfl,hd',?_,?_⟩
 ·split <;> omega
 ·split <;> omega
theorem c_Div32 {V:View} (hi lo y:Nat) (hh:hi < y) (hl:lo < 4294967296) (hy:y < 4294967296) :
  Acts prog 246 #[.int .u32 (hi:Int),.int .u32 (lo:Int),.int .u32 (y:Int)] V fun r V'=>r=.tuple #[.int .u32 (((hi * 4294967296 + lo) / y:Nat):Int),.int .u32 (((hi * 4294967296 + lo) % y:Nat):Int)]:=by
 have key:∀V1:View,Value.tuple #[.int .u32 (u32.wrap (u64.wrap ((bitI .or .u64 (u64.wrap ((u64.wrap (hi:Int)) * 2 ^ 32)) (u64.wrap (lo:Int))).tdiv (u64.wrap (y:Int))))),.int .u32 (u32.wrap ((bitI .or .u64 (u64.wrap ((u64.wrap (hi:Int)) * 2 ^ 32)) (u64.wrap (lo:Int))).tmod (u64.wrap (y:Int))))]=.tuple #[.int .u32 (((hi * 4294967296 + lo) / y:Nat):Int),.int .u32 (((hi * 4294967296 + lo) % y:Nat):Int)]:=by
  intro _
  have e3:((2:Int) ^ 32)=4294967296:=by decide
  have e1:u64.wrap (hi:Int)=hi:=u64w (by omega)
  have e2:u64.wrap (lo:Int)=lo:=u64w (by omega)
  have e4:u64.wrap (y:Int)=y:=u64w (by omega)
  have e5:u64.wrap ((hi:Int) * 4294967296)=(hi:Int) * 4294967296:=u64w (by omega)
  rw [e1,e3,e5,e2,e4,or64 _ _ (by omega) hl]
  have e6:(hi:Int) * 4294967296 + lo=((hi * 4294967296 + lo:Nat):Int):=by omega
  rw [e6,← Int.ofNat_tdiv,← Int.ofNat_tmod]
  have hq:(hi * 4294967296 + lo) / y < 4294967296:=by
   rw [Nat.div_lt_iff_lt_mul (by omega)]
   have:(hi + 1) * 4294967296<=y * 4294967296:=Nat.mul_le_mul_right _ hh
   omega
  have hr:(hi * 4294967296 + lo) % y < y:=Nat.mod_lt _ (by omega)
  generalize (hi * 4294967296 + lo) / y=q at *
  generalize (hi * 4294967296 + lo) % y=r at *
  have e7:u64.wrap (q:Int)=q:=u64w (by omega)
  have e8:u32.wrap (q:Int)=q:=u32w (by omega)
  have e9:u32.wrap (r:Int)=r:=u32w (by omega)
  rw [e7,e8,e9]
 have e4:u64.wrap (y:Int)=y:=u64w (by omega)
 refine vc_math_bits_Div32 _ _ _ V _ ⟨fun _=>⟨fun h=>?_,fun _=>⟨by omega,by rw [e4]; omega,by rw [e4]; omega,fun V1 l1=>key V1⟩⟩,fun _=>⟨by omega,by rw [e4]; omega,by rw [e4]; omega,fun V1 l1=>key V1⟩⟩
 simp at h; omega
end Go.Proofs.Tryz
/- By program: the conditions of the functions, from their loaded code. -/
namespace Go.Proofs.Tryz
open Go.Eng
open Go.Value renaming int→I,pointer→P,slice→S,agg→A,bool→B,tuple→T
open Go.IntKind renaming i64→J,u64→U,u32→W
set_option maxRecDepth 100000
theorem vc_nat_trim (k:OA) (l m:Nat) (V:View) (R:VR) (h:(∃(g:((OA) × Nat × Nat)->VP) (n:((OA) × Nat × Nat)->Nat),(∃e:(OA) × Nat × Nat,(((k:OA)=e.1)/\((l:Nat)=e.2.1)/\((m:Nat)=e.2.2))/\g e V)/\∀(a:(OA) × Nat × Nat) (b:View),V.Le b->g a b->(true=true/\(((decide (((a.2.1:Nat):Int) > (0:Int)))=true->(a.1.isSome=true)/\(0<=(J.wrap (((a.2.1:Nat):Int)-1))/\(J.wrap (((a.2.1:Nat):Int)-1)) < ((a.2.1:Nat):Int))/\(∃i,(∃o,addrAdd a.1 (((J.wrap (((a.2.1:Nat):Int)-1)).toNat) * 1)=some o/\b.at o (I W i))/\(((i == (0:Int))=true->(0<=(J.wrap (((a.2.1:Nat):Int)-1))/\(J.wrap (((a.2.1:Nat):Int)-1))<=((a.2.2:Nat):Int))/\(∃d:(OA) × Nat × Nat,n d < n a/\(((a.1:OA)=d.1)/\(((J.wrap (((a.2.1:Nat):Int)-1)).toNat:Nat)=d.2.1)/\((a.2.2:Nat)=d.2.2))/\g d b))/\((i == (0:Int))=false->(Rt b R (S a.1 a.2.1 a.2.2))))))/\((decide (((a.2.1:Nat):Int) > (0:Int)))=false->(Rt b R (S a.1 a.2.1 a.2.2))))))):
 Acts prog 311 #[S k l m] V R:=
 fd (LF:=LF0) (RF:=[1000015]) [(1,⟨(OA) × Nat × Nat,false,[],[],fun f=>[(0,.c (.v (S f.1 f.2.1 f.2.2)))],fun f=>[]⟩)] [] func311 h
theorem vc_nat_Norm (a:OA) (b c:Nat) (V:View) (R:VR) (h:(Ca V 311 #[S a b c] fun m n=>∃d e f,m=S d e f/\(Ca n 339 #[S d e f] fun o p=>∃g i k,o=S g i k/\(Rt p R (S g i k))))):
 Acts prog 290 #[S a b c] V R:=
 fd (LF:=LF0) (RF:=[1000015]) [] [] func290 h
theorem vc_nat_Normal (b:OA) (a g:Nat) (V:View) (R:VR) (h:((((a:Int) == (0:Int))=true->(Rt V R (B true)))/\(((a:Int) == (0:Int))=false->(b.isSome=true)/\(0<=(J.wrap ((a:Int)-1))/\(J.wrap ((a:Int)-1)) < (a:Int))/\(∃d,(∃e,addrAdd b (((J.wrap ((a:Int)-1)).toNat) * 1)=some e/\V.at e (I W d))/\(Rt V R (B (d != (0:Int)))))))):
 Acts prog 260 #[S b a g] V R:=
 fd (LF:=LF0) (RF:=[1000015]) [] [] func260 h
theorem vc_nat_FromUint (a:Int) (V:View) (R:VR) (h:(0<=(32:Int))/\(∀b,V.Le b->∀c:Nat,(b.blk c (.cells #[I W (W.wrap a),I W (W.wrap (a.fdiv (2 ^ 32)))] 264 (0,0)))->Acts prog 311 #[S (some ⟨c,0,none⟩) 2 2] b fun i k=>∃d e f,i=S d e f/\∀l:C->Value,(Rt k R (S d e f)))):
 Acts prog 309 #[I U a] V R:=
 fd (LF:=LF0) (RF:=[1000015]) [] [] func309 h
theorem vc_nat_Uint (n:OA) (o p:Nat) (V:View) (R:VR) (h:(Ca V 311 #[S n o p] fun w g=>∃d b i,w=S d b i/\(((decide ((b:Int) > (2:Int)))=true->(Rt g R (T #[I U 0,B false])))/\((decide ((b:Int) > (2:Int)))=false->(∃(k:(Int × Int)->VP) (r:(Int × Int)->Nat),(∃l,(s4 d b i (b:Int) (((0:Int)=l.1)/\((0:Int)=l.2)))/\k l g)/\∀(a:Int × Int) (e:View),g.Le e->k a e->(true=true/\(((decide (a.2 < (b:Int)))=true->(d.isSome=true)/\(0<=a.2/\a.2 < (b:Int))/\(∃s,(∃t,addrAdd d (a.2.toNat * 1)=some t/\e.at t (I W s))/\(0<=(J.wrap ((32:Int) * a.2)))/\(∃f:Int × Int,r f < r a/\(s4 d b i (b:Int) (((bitI .or .u64 a.1 (U.wrap ((U.wrap s) * 2 ^ (min (J.wrap ((32:Int) * a.2)).toNat IntKind.u64.bits))))=f.1)/\((J.wrap (a.2 + (1:Int)))=f.2)))/\k f e)))/\((decide (a.2 < (b:Int)))=false->(Rt e R (T #[I U a.1,B true])))))))))):
 Acts prog 289 #[S n o p] V R:=
 fd (LF:=LF0) (RF:=[1000015]) [(6,⟨Int × Int,false,[12,13],[],fun m=>[(4,.c (.v (I U m.1))),(14,.c (.v (I J m.2)))],fun m=>[]⟩)] [] func289 h
theorem vc_nat_Cmp (s:OA) (t u:Nat) (w:OA) (x y:Nat) (V:View) (R:VR) (h:(Ca V 311 #[S s t u] fun b1 b2=>∃f b k,b1=S f b k/\(Ca b2 311 #[S w x y] fun b3 i=>∃g e l,b3=S g e l/\((((b:Int) != (e:Int))=true->(((decide ((b:Int) < (e:Int)))=true->(Rt i R (I J (-1))))/\((decide ((b:Int) < (e:Int)))=false->(Rt i R (I J 1)))))/\(((b:Int) != (e:Int))=false->(∃(m:Int->VP) (a1:Int->Nat),(∃a2:Int,(s6 f b k g e l (((J.wrap ((b:Int)-1))=a2)))/\m a2 i)/\∀(a:Int) (d:View),i.Le d->m a d->(true=true/\(((decide (a ≥ (0:Int)))=true->(f.isSome=true)/\(0<=a/\a < (b:Int))/\(∃n,(∃a3,addrAdd f (a.toNat * 1)=some a3/\d.at a3 (I W n))/\(g.isSome=true)/\(0<=a/\a < (e:Int))/\(∃o,(∃a4,addrAdd g (a.toNat * 1)=some a4/\d.at a4 (I W o))/\(((decide (n < o))=true->(Rt d R (I J (-1))))/\((decide (n < o))=false->(f.isSome=true)/\(0<=a/\a < (b:Int))/\(∃p,(∃a6,addrAdd f (a.toNat * 1)=some a6/\d.at a6 (I W p))/\(g.isSome=true)/\(0<=a/\a < (e:Int))/\(∃q,(∃a7,addrAdd g (a.toNat * 1)=some a7/\d.at a7 (I W q))/\(((decide (p > q))=true->(Rt d R (I J 1)))/\((decide (p > q))=false->(∃r:Int,a1 r < a1 a/\(s6 f b k g e l (((J.wrap (a - (1:Int)))=r)))/\m r d))))))))))/\((decide (a ≥ (0:Int)))=false->(Rt d R (I J 0))))))))))):
 Acts prog 338 #[S s t u,S w x y] V R:=
 fd (LF:=LF0) (RF:=[1000015]) [(7,⟨Int,false,[0,1],[],fun b0=>[(5,.c (.v (I J b0)))],fun b0=>[]⟩)] [] func338 h
theorem vc_nat_Add (s:OA) (i t:Nat) (u:OA) (k w:Nat) (V:View) (R:VR) (h:(∃x:((OA) × Nat × Nat × (OA) × Nat × Nat)->VP,(((decide ((i:Int) < (k:Int)))=true->(∃e:(OA) × Nat × Nat × (OA) × Nat × Nat,(((u:OA)=e.1)/\((k:Nat)=e.2.1)/\((w:Nat)=e.2.2.1)/\((s:OA)=e.2.2.2.1)/\((i:Nat)=e.2.2.2.2.1)/\((t:Nat)=e.2.2.2.2.2))/\x e V))/\((decide ((i:Int) < (k:Int)))=false->(∃f:(OA) × Nat × Nat × (OA) × Nat × Nat,(((s:OA)=f.1)/\((i:Nat)=f.2.1)/\((t:Nat)=f.2.2.1)/\((u:OA)=f.2.2.2.1)/\((k:Nat)=f.2.2.2.2.1)/\((w:Nat)=f.2.2.2.2.2))/\x f V)))/\∀(a:(OA) × Nat × Nat × (OA) × Nat × Nat) (o:View),V.Le o->x a o->(true=true/\(0<=J.wrap (((a.2.1:Nat):Int)+1))/\(J.wrap (((a.2.1:Nat):Int)+1)<=J.wrap (((a.2.1:Nat):Int)+1))/\((4:Int) * (J.wrap (((a.2.1:Nat):Int)+1))<=140737488355328)/\(∃(p:(Int × Int × (List Value))->VP) (q:(Int × Int × (List Value))->Nat),(∃r,(((a.1:OA)=a.1)/\((a.2.1:Nat)=a.2.1)/\((a.2.2.1:Nat)=a.2.2.1)/\((a.2.2.2.1:OA)=a.2.2.2.1)/\((a.2.2.2.2.1:Nat)=a.2.2.2.2.1)/\((a.2.2.2.2.2:Nat)=a.2.2.2.2.2)/\sm 0/\(((J.wrap (((a.2.1:Nat):Int)+1)).toNat:Nat)=(J.wrap (((a.2.1:Nat):Int)+1)).toNat)/\(((J.wrap (((a.2.1:Nat):Int)+1)).toNat:Nat)=(J.wrap (((a.2.1:Nat):Int)+1)).toNat)/\((a.1:OA)=a.1)/\((a.2.1:Nat)=a.2.1)/\((a.2.2.1:Nat)=a.2.2.1)/\(((a.2.1:Nat):Int)=((a.2.1:Nat):Int))/\((0:Int)=r.1)/\((0:Int)=r.2.1)/\((List.replicate ((J.wrap (((a.2.1:Nat):Int)+1)).toNat) (I W 0))=r.2.2))/\p r o)/\∀(b:Int × Int × (List Value)) (g:View),o.Le g->p b g->(true=true/\(((decide (b.2.1 < ((a.2.1:Nat):Int)))=true->(a.1.isSome=true)/\(0<=b.2.1/\b.2.1 < ((a.2.1:Nat):Int))/\(∃l,(∃a0,addrAdd a.1 (b.2.1.toNat * 1)=some a0/\g.at a0 (I W l))/\(((decide (b.2.1 < ((a.2.2.2.2.1:Nat):Int)))=true->(a.2.2.2.1.isSome=true)/\(0<=b.2.1/\b.2.1 < ((a.2.2.2.2.1:Nat):Int))/\(∃y,(∃a1,addrAdd a.2.2.2.1 (b.2.1.toNat * 1)=some a1/\g.at a1 (I W y))/\(0<=b.2.1/\b.2.1 < (((J.wrap (((a.2.1:Nat):Int)+1)).toNat:Nat):Int))/\((0 + (b.2.1.toNat * 1)) + 1<=b.2.2.length)/\(0<=(32:Int))/\(∃m:Int × Int × (List Value),q m < q b/\(((a.1:OA)=a.1)/\((a.2.1:Nat)=a.2.1)/\((a.2.2.1:Nat)=a.2.2.1)/\((a.2.2.2.1:OA)=a.2.2.2.1)/\((a.2.2.2.2.1:Nat)=a.2.2.2.2.1)/\((a.2.2.2.2.2:Nat)=a.2.2.2.2.2)/\sm 0/\(((J.wrap (((a.2.1:Nat):Int)+1)).toNat:Nat)=(J.wrap (((a.2.1:Nat):Int)+1)).toNat)/\(((J.wrap (((a.2.1:Nat):Int)+1)).toNat:Nat)=(J.wrap (((a.2.1:Nat):Int)+1)).toNat)/\((a.1:OA)=a.1)/\((a.2.1:Nat)=a.2.1)/\((a.2.2.1:Nat)=a.2.2.1)/\(((a.2.1:Nat):Int)=((a.2.1:Nat):Int))/\(((U.wrap ((U.wrap (b.1 + (U.wrap l))) + (U.wrap y))).fdiv (2 ^ 32))=m.1)/\((J.wrap (b.2.1 + (1:Int)))=m.2.1)/\((b.2.2.set (0 + (b.2.1.toNat * 1)) (I W (W.wrap (U.wrap ((U.wrap (b.1 + (U.wrap l))) + (U.wrap y))))))=m.2.2))/\p m g)))/\((decide (b.2.1 < ((a.2.2.2.2.1:Nat):Int)))=false->(0<=b.2.1/\b.2.1 < (((J.wrap (((a.2.1:Nat):Int)+1)).toNat:Nat):Int))/\((0 + (b.2.1.toNat * 1)) + 1<=b.2.2.length)/\(0<=(32:Int))/\(∃n:Int × Int × (List Value),q n < q b/\(((a.1:OA)=a.1)/\((a.2.1:Nat)=a.2.1)/\((a.2.2.1:Nat)=a.2.2.1)/\((a.2.2.2.1:OA)=a.2.2.2.1)/\((a.2.2.2.2.1:Nat)=a.2.2.2.2.1)/\((a.2.2.2.2.2:Nat)=a.2.2.2.2.2)/\sm 0/\(((J.wrap (((a.2.1:Nat):Int)+1)).toNat:Nat)=(J.wrap (((a.2.1:Nat):Int)+1)).toNat)/\(((J.wrap (((a.2.1:Nat):Int)+1)).toNat:Nat)=(J.wrap (((a.2.1:Nat):Int)+1)).toNat)/\((a.1:OA)=a.1)/\((a.2.1:Nat)=a.2.1)/\((a.2.2.1:Nat)=a.2.2.1)/\(((a.2.1:Nat):Int)=((a.2.1:Nat):Int))/\(((U.wrap (b.1 + (U.wrap l))).fdiv (2 ^ 32))=n.1)/\((J.wrap (b.2.1 + (1:Int)))=n.2.1)/\((b.2.2.set (0 + (b.2.1.toNat * 1)) (I W (W.wrap (U.wrap (b.1 + (U.wrap l))))))=n.2.2))/\p n g)))))/\((decide (b.2.1 < ((a.2.1:Nat):Int)))=false->(0<=((a.2.1:Nat):Int)/\((a.2.1:Nat):Int) < (((J.wrap (((a.2.1:Nat):Int)+1)).toNat:Nat):Int))/\((0 + ((((a.2.1:Nat):Int).toNat) * 1)) + 1<=b.2.2.length)/\(∀z,g.Le z->∀a2:Nat,(z.blk a2 (.cells (b.2.2.set (0 + ((((a.2.1:Nat):Int).toNat) * 1)) (I W (W.wrap (b.1)))).toArray 264 (0,0)))->Acts prog 311 #[S (some ⟨a2,0,none⟩) ((J.wrap (((a.2.1:Nat):Int)+1)).toNat) ((J.wrap (((a.2.1:Nat):Int)+1)).toNat)] z fun a7 a8=>∃a3 a4 a5,a7=S a3 a4 a5/\∀a9:C->Value,(Rt a8 R (S a3 a4 a5)))))))))):
 Acts prog 344 #[S s i t,S u k w] V R:=
 fd (LF:=LF0) (RF:=[1000015]) [(6,⟨Int × Int × (List Value),false,[0,1,5,20,21],[],fun d=>[(6,.c (.v (I U d.1))),(22,.c (.v (I J d.2.1)))],fun d=>[(19,⟨.row d.2.2,264⟩)]⟩)] [(2,⟨(OA) × Nat × Nat × (OA) × Nat × Nat,false,[],[],fun d=>[(0,.c (.v (S d.1 d.2.1 d.2.2.1))),(1,.c (.v (S d.2.2.2.1 d.2.2.2.2.1 d.2.2.2.2.2)))],fun d=>[]⟩)] func344 h
theorem vc_nat_less (f:OA) (a k:Nat) (g:OA) (d l:Nat) (V:View) (R:VR) (h:(0<=(a:Int))/\((a:Int)<=(a:Int))/\((4:Int) * (a:Int)<=140737488355328)/\(∃(p:(Int × Int × (List Value))->VP) (u:(Int × Int × (List Value))->Nat),(∃o,(s4 g d l 0 ((((a:Int).toNat:Nat)=(a:Int).toNat)/\(((a:Int).toNat:Nat)=(a:Int).toNat)/\s4 f a k (a:Int) (((0:Int)=o.1)/\((0:Int)=o.2.1)/\((List.replicate ((a:Int).toNat) (I W 0))=o.2.2))))/\p o V)/\∀(b:Int × Int × (List Value)) (e:View),V.Le e->p b e->(true=true/\(((decide (b.2.1 < (a:Int)))=true->(f.isSome=true)/\(0<=b.2.1/\b.2.1 < (a:Int))/\(∃m,(∃w,addrAdd f (b.2.1.toNat * 1)=some w/\e.at w (I W m))/\(∃q:Int->VP,(((decide (b.2.1 < (d:Int)))=true->(g.isSome=true)/\(0<=b.2.1/\b.2.1 < (d:Int))/\(∃x,(∃y,addrAdd g (b.2.1.toNat * 1)=some y/\e.at y (I W x))/\(∃z:Int,(s4 g d l 0 ((((a:Int).toNat:Nat)=(a:Int).toNat)/\(((a:Int).toNat:Nat)=(a:Int).toNat)/\s7 b.2.1 m f a k (a:Int) b.2.1 (((U.wrap (b.1 + (U.wrap x)))=z)/\sm b.2.2)))/\q z e)))/\((decide (b.2.1 < (d:Int)))=false->(∃a0:Int,(s4 g d l 0 ((((a:Int).toNat:Nat)=(a:Int).toNat)/\(((a:Int).toNat:Nat)=(a:Int).toNat)/\s7 b.2.1 m f a k (a:Int) b.2.1 ((b.1=a0)/\sm b.2.2)))/\q a0 e)))/\∀(r:Int) (s:View),e.Le s->q r s->(true=true/\(0<=b.2.1/\b.2.1 < (((a:Int).toNat:Nat):Int))/\((0 + (b.2.1.toNat * 1)) + 1<=b.2.2.length)/\(0<=(63:Int))/\(∃n:Int × Int × (List Value),u n < u b/\(s4 g d l 0 ((((a:Int).toNat:Nat)=(a:Int).toNat)/\(((a:Int).toNat:Nat)=(a:Int).toNat)/\s4 f a k (a:Int) ((((U.wrap ((U.wrap m) - r)).fdiv (2 ^ 63))=n.1)/\((J.wrap (b.2.1 + (1:Int)))=n.2.1)/\((b.2.2.set (0 + (b.2.1.toNat * 1)) (I W (W.wrap (U.wrap ((U.wrap m) - r)))))=n.2.2))))/\p n s)))))/\((decide (b.2.1 < (a:Int)))=false->(∀t,e.Le t->∀a1:Nat,(t.blk a1 (.cells b.2.2.toArray 264 (0,0)))->Acts prog 311 #[S (some ⟨a1,0,none⟩) ((a:Int).toNat) ((a:Int).toNat)] t fun a6 a7=>∃a2 a3 a4,a6=S a2 a3 a4/\∀a8:C->Value,(Rt a7 R (S a2 a3 a4)))))))):
 Acts prog 362 #[S f a k,S g d l] V R:=
 fd (LF:=LF0) (RF:=[1000015]) [(4,⟨Int × Int × (List Value),false,[1,5,14,15],[],fun i=>[(6,.c (.v (I U i.1))),(16,.c (.v (I J i.2.1)))],fun i=>[(13,⟨.row i.2.2,264⟩)]⟩)] [(8,⟨Int,false,[1,5,7,8,14,15,16],[13],fun i=>[(9,.c (.v (I U i)))],fun i=>[]⟩)] func362 h
theorem vc_nat_Sub (a:OA) (b c:Nat) (d:OA) (e f:Nat) (V:View) (R:VR) (h:(Ca V 338 #[S a b c,S d e f] fun w i=>∃g,w=I J g/\(((decide (g < (0:Int)))=true->(Rt i R (T #[S none 0 0,B false])))/\((decide (g < (0:Int)))=false->(Ca i 311 #[S a b c] fun x y=>∃l m n,x=S l m n/\(Ca y 311 #[S d e f] fun z a0=>∃o p q,z=S o p q/\(Ca a0 362 #[S l m n,S o p q] fun a1 a2=>∃r s t,a1=S r s t/\(Rt a2 R (T #[S r s t,B true]))))))))):
 Acts prog 345 #[S a b c,S d e f] V R:=
 fd (LF:=LF0) (RF:=[1000015]) [] [] func345 h
theorem vc_nat_Mul (z:OA) (a0 a1:Nat) (a2:OA) (a3 a4:Nat) (V:View) (R:VR) (h:(Ca V 311 #[S z a0 a1] fun b5 b6=>∃i b m,b5=S i b m/\(Ca b6 311 #[S a2 a3 a4] fun b7 a5=>∃f a k,b7=S f a k/\(0<=J.wrap ((b:Int) + (a:Int)))/\(J.wrap ((b:Int) + (a:Int))<=J.wrap ((b:Int) + (a:Int)))/\((4:Int) * (J.wrap ((b:Int) + (a:Int)))<=140737488355328)/\(∃(s:(Int × (List Value))->VP) (a6:(Int × (List Value))->Nat),(∃t,(s4 f a k 0 ((((J.wrap ((b:Int) + (a:Int))).toNat:Nat)=(J.wrap ((b:Int) + (a:Int))).toNat)/\(((J.wrap ((b:Int) + (a:Int))).toNat:Nat)=(J.wrap ((b:Int) + (a:Int))).toNat)/\s4 i b m (b:Int) (((0:Int)=t.1)/\((List.replicate ((J.wrap ((b:Int) + (a:Int))).toNat) (I W 0))=t.2))))/\s t a5)/\∀(d:Int × (List Value)) (l:View),a5.Le l->s d l->(true=true/\(((decide (d.1 < (b:Int)))=true->(i.isSome=true)/\(0<=d.1/\d.1 < (b:Int))/\(∃n,(∃a7,addrAdd i (d.1.toNat * 1)=some a7/\l.at a7 (I W n))/\(∃(u:(Int × Int × (List Value))->VP) (a8:(Int × Int × (List Value))->Nat),(∃q,(s4 f a k 0 ((((J.wrap ((b:Int) + (a:Int))).toNat:Nat)=(J.wrap ((b:Int) + (a:Int))).toNat)/\(((J.wrap ((b:Int) + (a:Int))).toNat:Nat)=(J.wrap ((b:Int) + (a:Int))).toNat)/\s11 d.1 n i b m (b:Int) d.1 f a k (a:Int) (((0:Int)=q.1)/\((0:Int)=q.2.1)/\(d.2=q.2.2))))/\u q l)/\∀(e:Int × Int × (List Value)) (o:View),l.Le o->u e o->(true=true/\(((decide (e.2.1 < (a:Int)))=true->(f.isSome=true)/\(0<=e.2.1/\e.2.1 < (a:Int))/\(∃w,(∃a9,addrAdd f (e.2.1.toNat * 1)=some a9/\o.at a9 (I W w))/\(0<=(J.wrap (d.1 + e.2.1))/\(J.wrap (d.1 + e.2.1)) < (((J.wrap ((b:Int) + (a:Int))).toNat:Nat):Int))/\(∃x,e.2.2[0 + (((J.wrap (d.1 + e.2.1)).toNat) * 1)]?=some (I W x)/\(0<=(J.wrap (d.1 + e.2.1))/\(J.wrap (d.1 + e.2.1)) < (((J.wrap ((b:Int) + (a:Int))).toNat:Nat):Int))/\((0 + (((J.wrap (d.1 + e.2.1)).toNat) * 1)) + 1<=e.2.2.length)/\(0<=(32:Int))/\(∃p:Int × Int × (List Value),a8 p < a8 e/\(s4 f a k 0 ((((J.wrap ((b:Int) + (a:Int))).toNat:Nat)=(J.wrap ((b:Int) + (a:Int))).toNat)/\(((J.wrap ((b:Int) + (a:Int))).toNat:Nat)=(J.wrap ((b:Int) + (a:Int))).toNat)/\s11 d.1 n i b m (b:Int) d.1 f a k (a:Int) ((((U.wrap (e.1 + (U.wrap ((U.wrap ((U.wrap n) * (U.wrap w))) + (U.wrap x))))).fdiv (2 ^ 32))=p.1)/\((J.wrap (e.2.1 + (1:Int)))=p.2.1)/\((e.2.2.set (0 + (((J.wrap (d.1 + e.2.1)).toNat) * 1)) (I W (W.wrap (U.wrap (e.1 + (U.wrap ((U.wrap ((U.wrap n) * (U.wrap w))) + (U.wrap x))))))))=p.2.2))))/\u p o))))/\((decide (e.2.1 < (a:Int)))=false->(0<=(J.wrap (d.1 + (a:Int)))/\(J.wrap (d.1 + (a:Int))) < (((J.wrap ((b:Int) + (a:Int))).toNat:Nat):Int))/\((0 + (((J.wrap (d.1 + (a:Int))).toNat) * 1)) + 1<=e.2.2.length)/\(∃r:Int × (List Value),a6 r < a6 d/\(s4 f a k 0 ((((J.wrap ((b:Int) + (a:Int))).toNat:Nat)=(J.wrap ((b:Int) + (a:Int))).toNat)/\(((J.wrap ((b:Int) + (a:Int))).toNat:Nat)=(J.wrap ((b:Int) + (a:Int))).toNat)/\s4 i b m (b:Int) (((J.wrap (d.1 + (1:Int)))=r.1)/\((e.2.2.set (0 + (((J.wrap (d.1 + (a:Int))).toNat) * 1)) (I W (W.wrap (e.1))))=r.2))))/\s r o)))))))/\((decide (d.1 < (b:Int)))=false->(∀y,l.Le y->∀b0:Nat,(y.blk b0 (.cells d.2.toArray 264 (0,0)))->Acts prog 311 #[S (some ⟨b0,0,none⟩) ((J.wrap ((b:Int) + (a:Int))).toNat) ((J.wrap ((b:Int) + (a:Int))).toNat)] y fun b8 b9=>∃b1 b2 b3,b8=S b1 b2 b3/\∀c0:C->Value,(Rt b9 R (S b1 b2 b3)))))))))):
 Acts prog 263 #[S z a0 a1,S a2 a3 a4] V R:=
 fd (LF:=LF0) (RF:=[1000015]) [(4,⟨Int × (List Value),false,[1,5,21,22],[],fun g=>[(23,.c (.v (I J g.1)))],fun g=>[(20,⟨.row g.2,264⟩)]⟩),(8,⟨Int × Int × (List Value),false,[1,5,6,7,21,22,23,28,29],[],fun g=>[(8,.c (.v (I U g.1))),(30,.c (.v (I J g.2.1)))],fun g=>[(20,⟨.row g.2.2,264⟩)]⟩)] [] func263 h
theorem vc_nat_short (e:OA) (a l:Nat) (d:Int) (V:View) (R:VR) (h:(0<=(a:Int))/\((a:Int)<=(a:Int))/\((4:Int) * (a:Int)<=140737488355328)/\(∃(m:(Int × Int × (List Value))->VP) (p:(Int × Int × (List Value))->Nat),(∃i,(s5 e a l d 0 ((((a:Int).toNat:Nat)=(a:Int).toNat)/\(((a:Int).toNat:Nat)=(a:Int).toNat)/\((0:Int)=i.1)/\((J.wrap ((a:Int)-1))=i.2.1)/\((List.replicate ((a:Int).toNat) (I W 0))=i.2.2)))/\m i V)/\∀(b:Int × Int × (List Value)) (f:View),V.Le f->m b f->(true=true/\(((decide (b.2.1 ≥ (0:Int)))=true->(0<=(32:Int))/\(e.isSome=true)/\(0<=b.2.1/\b.2.1 < (a:Int))/\(∃n,(∃q,addrAdd e (b.2.1.toNat * 1)=some q/\f.at q (I W n))/\((U.wrap d)≠0)/\(0<=b.2.1/\b.2.1 < (((a:Int).toNat:Nat):Int))/\((0 + (b.2.1.toNat * 1)) + 1<=b.2.2.length)/\((U.wrap d)≠0)/\(∃g:Int × Int × (List Value),p g < p b/\(s5 e a l d 0 ((((a:Int).toNat:Nat)=(a:Int).toNat)/\(((a:Int).toNat:Nat)=(a:Int).toNat)/\(((bitI .or .u64 (U.wrap (b.1 * 2 ^ 32)) (U.wrap n)).tmod (U.wrap d))=g.1)/\((J.wrap (b.2.1 - (1:Int)))=g.2.1)/\((b.2.2.set (0 + (b.2.1.toNat * 1)) (I W (W.wrap (U.wrap ((bitI .or .u64 (U.wrap (b.1 * 2 ^ 32)) (U.wrap n)).tdiv (U.wrap d))))))=g.2.2)))/\m g f)))/\((decide (b.2.1 ≥ (0:Int)))=false->(∀o,f.Le o->∀r:Nat,(o.blk r (.cells b.2.2.toArray 264 (0,0)))->Acts prog 311 #[S (some ⟨r,0,none⟩) ((a:Int).toNat) ((a:Int).toNat)] o fun x y=>∃s t u,x=S s t u/\∀z:C->Value,(Rt y R (T #[S s t u,I W (W.wrap (b.1))])))))))):
 Acts prog 340 #[S e a l,I W d] V R:=
 fd (LF:=LF0) (RF:=[1000015]) [(4,⟨Int × Int × (List Value),false,[0,1,6],[],fun k=>[(7,.c (.v (I U k.1))),(8,.c (.v (I J k.2.1)))],fun k=>[(12,⟨.row k.2.2,264⟩)]⟩)] [] func340 h
theorem vc_nat_DivMod (k:OA) (l m:Nat) (n:OA) (o p:Nat) (V:View) (R:VR) (h:(Ca V 311 #[S k l m] fun b4 b5=>∃b c d,b4=S b c d/\(Ca b5 311 #[S n o p] fun b6 q=>∃e a g,b6=S e a g/\((((a:Int) == (0:Int))=true->(Rt q R (T #[S none 0 0,S none 0 0,B false])))/\(((a:Int) == (0:Int))=false->(Ca q 338 #[S b c d,S e a g] fun b7 f=>∃i,b7=I J i/\(((decide (i < (0:Int)))=true->(Ca f 339 #[S b c d] fun b8 b9=>∃s t u,b8=S s t u/\(Rt b9 R (T #[S none 0 0,S s t u,B true]))))/\((decide (i < (0:Int)))=false->((((a:Int) == (1:Int))=true->(e.isSome=true)/\(0<=(0:Int)/\(0:Int) < (a:Int))/\(∃x,(∃y,addrAdd e 0=some y/\f.at y (I W x))/\(Ca f 340 #[S b c d,I W x] fun c0 c1=>∃z a0 a1,∃a2,c0=T #[S z a0 a1,I W a2]/\(Ca c1 309 #[I U (U.wrap a2)] fun c2 c3=>∃a3 a4 a5,c2=S a3 a4 a5/\(Rt c3 R (T #[S z a0 a1,S a3 a4 a5,B true]))))))/\(((a:Int) == (1:Int))=false->(Ca f 341 #[S b c d,S e a g] fun c4 c5=>∃a7 a8 a9,∃b0 b1 b2,c4=T #[S a7 a8 a9,S b0 b1 b2]/\(Rt c5 R (T #[S a7 a8 a9,S b0 b1 b2,B true]))))))))))))):
 Acts prog 287 #[S k l m,S n o p] V R:=
 fd (LF:=LF0) (RF:=[1000015]) [] [] func287 h
theorem vc_nat_Shl (r:OA) (s t:Nat) (a:Int) (V:View) (R:VR) (h:(Ca V 311 #[S r s t] fun a3 k=>∃e b l,a3=S e b l/\((((b:Int) == (0:Int))=true->(Rt k R (S none 0 0)))/\(((b:Int) == (0:Int))=false->((32:Int)≠0)/\((32:Int)≠0)/\(0<=J.wrap ((J.wrap ((b:Int) + (J.wrap (U.wrap ((minI a (1048576)).tdiv (32:Int))))))+1))/\(J.wrap ((J.wrap ((b:Int) + (J.wrap (U.wrap ((minI a (1048576)).tdiv (32:Int))))))+1)<=J.wrap ((J.wrap ((b:Int) + (J.wrap (U.wrap ((minI a (1048576)).tdiv (32:Int))))))+1))/\((4:Int) * (J.wrap ((J.wrap ((b:Int) + (J.wrap (U.wrap ((minI a (1048576)).tdiv (32:Int))))))+1))<=140737488355328)/\(∃(m:(Int × (List Value))->VP) (w:(Int × (List Value))->Nat),(∃n,(((J.wrap (U.wrap ((minI a (1048576)).tdiv (32:Int))))=(J.wrap (U.wrap ((minI a (1048576)).tdiv (32:Int)))))/\(((minI a (1048576)).tmod (32:Int))=((minI a (1048576)).tmod (32:Int)))/\sm 0/\(((J.wrap ((J.wrap ((b:Int) + (J.wrap (U.wrap ((minI a (1048576)).tdiv (32:Int))))))+1)).toNat:Nat)=(J.wrap ((J.wrap ((b:Int) + (J.wrap (U.wrap ((minI a (1048576)).tdiv (32:Int))))))+1)).toNat)/\(((J.wrap ((J.wrap ((b:Int) + (J.wrap (U.wrap ((minI a (1048576)).tdiv (32:Int))))))+1)).toNat:Nat)=(J.wrap ((J.wrap ((b:Int) + (J.wrap (U.wrap ((minI a (1048576)).tdiv (32:Int))))))+1)).toNat)/\s4 e b l (b:Int) (((0:Int)=n.1)/\((List.replicate ((J.wrap ((J.wrap ((b:Int) + (J.wrap (U.wrap ((minI a (1048576)).tdiv (32:Int))))))+1)).toNat) (I W 0))=n.2)))/\m n k)/\∀(d:Int × (List Value)) (f:View),k.Le f->m d f->(true=true/\(((decide (d.1 < (b:Int)))=true->(e.isSome=true)/\(0<=d.1/\d.1 < (b:Int))/\(∃g,(∃x,addrAdd e (d.1.toNat * 1)=some x/\f.at x (I W g))/\(0<=((minI a (1048576)).tmod (32:Int)))/\(0<=(J.wrap (d.1 + (J.wrap (U.wrap ((minI a (1048576)).tdiv (32:Int))))))/\(J.wrap (d.1 + (J.wrap (U.wrap ((minI a (1048576)).tdiv (32:Int)))))) < (((J.wrap ((J.wrap ((b:Int) + (J.wrap (U.wrap ((minI a (1048576)).tdiv (32:Int))))))+1)).toNat:Nat):Int))/\(∃o,d.2[0 + (((J.wrap (d.1 + (J.wrap (U.wrap ((minI a (1048576)).tdiv (32:Int)))))).toNat) * 1)]?=some (I W o)/\(0<=(J.wrap (d.1 + (J.wrap (U.wrap ((minI a (1048576)).tdiv (32:Int))))))/\(J.wrap (d.1 + (J.wrap (U.wrap ((minI a (1048576)).tdiv (32:Int)))))) < (((J.wrap ((J.wrap ((b:Int) + (J.wrap (U.wrap ((minI a (1048576)).tdiv (32:Int))))))+1)).toNat:Nat):Int))/\((0 + (((J.wrap (d.1 + (J.wrap (U.wrap ((minI a (1048576)).tdiv (32:Int)))))).toNat) * 1)) + 1<=d.2.length)/\(0<=(32:Int))/\(0<=(J.wrap ((J.wrap (d.1 + (J.wrap (U.wrap ((minI a (1048576)).tdiv (32:Int))))))+1))/\(J.wrap ((J.wrap (d.1 + (J.wrap (U.wrap ((minI a (1048576)).tdiv (32:Int))))))+1)) < (((J.wrap ((J.wrap ((b:Int) + (J.wrap (U.wrap ((minI a (1048576)).tdiv (32:Int))))))+1)).toNat:Nat):Int))/\((0 + (((J.wrap ((J.wrap (d.1 + (J.wrap (U.wrap ((minI a (1048576)).tdiv (32:Int))))))+1)).toNat) * 1)) + 1<=(d.2.set (0 + (((J.wrap (d.1 + (J.wrap (U.wrap ((minI a (1048576)).tdiv (32:Int)))))).toNat) * 1)) (I W (bitI .or .u32 o (W.wrap (U.wrap ((U.wrap g) * 2 ^ (min ((minI a (1048576)).tmod (32:Int)).toNat IntKind.u64.bits))))))).length)/\(∃i:Int × (List Value),w i < w d/\(((J.wrap (U.wrap ((minI a (1048576)).tdiv (32:Int))))=(J.wrap (U.wrap ((minI a (1048576)).tdiv (32:Int)))))/\(((minI a (1048576)).tmod (32:Int))=((minI a (1048576)).tmod (32:Int)))/\sm 0/\(((J.wrap ((J.wrap ((b:Int) + (J.wrap (U.wrap ((minI a (1048576)).tdiv (32:Int))))))+1)).toNat:Nat)=(J.wrap ((J.wrap ((b:Int) + (J.wrap (U.wrap ((minI a (1048576)).tdiv (32:Int))))))+1)).toNat)/\(((J.wrap ((J.wrap ((b:Int) + (J.wrap (U.wrap ((minI a (1048576)).tdiv (32:Int))))))+1)).toNat:Nat)=(J.wrap ((J.wrap ((b:Int) + (J.wrap (U.wrap ((minI a (1048576)).tdiv (32:Int))))))+1)).toNat)/\s4 e b l (b:Int) (((J.wrap (d.1 + (1:Int)))=i.1)/\(((d.2.set (0 + (((J.wrap (d.1 + (J.wrap (U.wrap ((minI a (1048576)).tdiv (32:Int)))))).toNat) * 1)) (I W (bitI .or .u32 o (W.wrap (U.wrap ((U.wrap g) * 2 ^ (min ((minI a (1048576)).tmod (32:Int)).toNat IntKind.u64.bits))))))).set (0 + (((J.wrap ((J.wrap (d.1 + (J.wrap (U.wrap ((minI a (1048576)).tdiv (32:Int))))))+1)).toNat) * 1)) (I W (W.wrap ((U.wrap ((U.wrap g) * 2 ^ (min ((minI a (1048576)).tmod (32:Int)).toNat IntKind.u64.bits))).fdiv (2 ^ 32)))))=i.2)))/\m i f))))/\((decide (d.1 < (b:Int)))=false->(∀p,f.Le p->∀y:Nat,(p.blk y (.cells d.2.toArray 264 (0,0)))->Acts prog 311 #[S (some ⟨y,0,none⟩) ((J.wrap ((J.wrap ((b:Int) + (J.wrap (U.wrap ((minI a (1048576)).tdiv (32:Int))))))+1)).toNat) ((J.wrap ((J.wrap ((b:Int) + (J.wrap (U.wrap ((minI a (1048576)).tdiv (32:Int))))))+1)).toNat)] p fun a4 a5=>∃z a0 a1,a4=S z a0 a1/\∀a6:C->Value,(Rt a5 R (S z a0 a1))))))))))):
 Acts prog 360 #[S r s t,I U a] V R:=
 fd (LF:=LF0) (RF:=[1000015]) [(7,⟨Int × (List Value),false,[5,6,7,29,30],[],fun q=>[(31,.c (.v (I J q.1)))],fun q=>[(28,⟨.row q.2,264⟩)]⟩)] [] func360 h
theorem vc_nat_Shr (s:OA) (t u:Nat) (a:Int) (V:View) (R:VR) (h:(Ca V 311 #[S s t u] fun a5 n=>∃e b g,a5=S e b g/\((32:Int)≠0)/\(((decide ((U.wrap (a.tdiv (32:Int))) ≥ (U.wrap ((b:Int)))))=true->(Rt n R (S none 0 0)))/\((decide ((U.wrap (a.tdiv (32:Int))) ≥ (U.wrap ((b:Int)))))=false->((32:Int)≠0)/\((32:Int)≠0)/\(0<=J.wrap ((b:Int) - (J.wrap (U.wrap (a.tdiv (32:Int))))))/\(J.wrap ((b:Int) - (J.wrap (U.wrap (a.tdiv (32:Int)))))<=J.wrap ((b:Int) - (J.wrap (U.wrap (a.tdiv (32:Int))))))/\((4:Int) * (J.wrap ((b:Int) - (J.wrap (U.wrap (a.tdiv (32:Int))))))<=140737488355328)/\(∃(i:(Int × (List Value))->VP) (k:(Int × (List Value))->Nat),(∃o,(s3 e b g (((J.wrap (U.wrap (a.tdiv (32:Int))))=(J.wrap (U.wrap (a.tdiv (32:Int)))))/\((a.tmod (32:Int))=(a.tmod (32:Int)))/\sm 0/\(((J.wrap ((b:Int) - (J.wrap (U.wrap (a.tdiv (32:Int)))))).toNat:Nat)=(J.wrap ((b:Int) - (J.wrap (U.wrap (a.tdiv (32:Int)))))).toNat)/\(((J.wrap ((b:Int) - (J.wrap (U.wrap (a.tdiv (32:Int)))))).toNat:Nat)=(J.wrap ((b:Int) - (J.wrap (U.wrap (a.tdiv (32:Int)))))).toNat)/\((((J.wrap ((b:Int) - (J.wrap (U.wrap (a.tdiv (32:Int)))))).toNat:Nat):Int)=(((J.wrap ((b:Int) - (J.wrap (U.wrap (a.tdiv (32:Int)))))).toNat:Nat):Int))/\((0:Int)=o.1)/\((List.replicate ((J.wrap ((b:Int) - (J.wrap (U.wrap (a.tdiv (32:Int)))))).toNat) (I W 0))=o.2)))/\i o n)/\∀(d:Int × (List Value)) (f:View),n.Le f->i d f->(true=true/\(((decide (d.1 < (((J.wrap ((b:Int) - (J.wrap (U.wrap (a.tdiv (32:Int)))))).toNat:Nat):Int)))=true->(e.isSome=true)/\(0<=(J.wrap (d.1 + (J.wrap (U.wrap (a.tdiv (32:Int))))))/\(J.wrap (d.1 + (J.wrap (U.wrap (a.tdiv (32:Int)))))) < (b:Int))/\(∃p,(∃x,addrAdd e (((J.wrap (d.1 + (J.wrap (U.wrap (a.tdiv (32:Int)))))).toNat) * 1)=some x/\f.at x (I W p))/\(((decide ((J.wrap ((J.wrap (d.1 + (J.wrap (U.wrap (a.tdiv (32:Int))))))+1)) < (b:Int)))=true->(e.isSome=true)/\(0<=(J.wrap ((J.wrap (d.1 + (J.wrap (U.wrap (a.tdiv (32:Int))))))+1))/\(J.wrap ((J.wrap (d.1 + (J.wrap (U.wrap (a.tdiv (32:Int))))))+1)) < (b:Int))/\(∃y,(∃z,addrAdd e (((J.wrap ((J.wrap (d.1 + (J.wrap (U.wrap (a.tdiv (32:Int))))))+1)).toNat) * 1)=some z/\f.at z (I W y))/\(0<=(32:Int))/\(0<=(a.tmod (32:Int)))/\(0<=d.1/\d.1 < (((J.wrap ((b:Int) - (J.wrap (U.wrap (a.tdiv (32:Int)))))).toNat:Nat):Int))/\((0 + (d.1.toNat * 1)) + 1<=d.2.length)/\(∃l:Int × (List Value),k l < k d/\(s3 e b g (((J.wrap (U.wrap (a.tdiv (32:Int))))=(J.wrap (U.wrap (a.tdiv (32:Int)))))/\((a.tmod (32:Int))=(a.tmod (32:Int)))/\sm 0/\(((J.wrap ((b:Int) - (J.wrap (U.wrap (a.tdiv (32:Int)))))).toNat:Nat)=(J.wrap ((b:Int) - (J.wrap (U.wrap (a.tdiv (32:Int)))))).toNat)/\(((J.wrap ((b:Int) - (J.wrap (U.wrap (a.tdiv (32:Int)))))).toNat:Nat)=(J.wrap ((b:Int) - (J.wrap (U.wrap (a.tdiv (32:Int)))))).toNat)/\((((J.wrap ((b:Int) - (J.wrap (U.wrap (a.tdiv (32:Int)))))).toNat:Nat):Int)=(((J.wrap ((b:Int) - (J.wrap (U.wrap (a.tdiv (32:Int)))))).toNat:Nat):Int))/\((J.wrap (d.1 + (1:Int)))=l.1)/\((d.2.set (0 + (d.1.toNat * 1)) (I W (W.wrap ((bitI .or .u64 (U.wrap p) (U.wrap ((U.wrap y) * 2 ^ 32))).fdiv (2 ^ (min (a.tmod (32:Int)).toNat IntKind.u64.bits))))))=l.2)))/\i l f)))/\((decide ((J.wrap ((J.wrap (d.1 + (J.wrap (U.wrap (a.tdiv (32:Int))))))+1)) < (b:Int)))=false->(0<=(a.tmod (32:Int)))/\(0<=d.1/\d.1 < (((J.wrap ((b:Int) - (J.wrap (U.wrap (a.tdiv (32:Int)))))).toNat:Nat):Int))/\((0 + (d.1.toNat * 1)) + 1<=d.2.length)/\(∃m:Int × (List Value),k m < k d/\(s3 e b g (((J.wrap (U.wrap (a.tdiv (32:Int))))=(J.wrap (U.wrap (a.tdiv (32:Int)))))/\((a.tmod (32:Int))=(a.tmod (32:Int)))/\sm 0/\(((J.wrap ((b:Int) - (J.wrap (U.wrap (a.tdiv (32:Int)))))).toNat:Nat)=(J.wrap ((b:Int) - (J.wrap (U.wrap (a.tdiv (32:Int)))))).toNat)/\(((J.wrap ((b:Int) - (J.wrap (U.wrap (a.tdiv (32:Int)))))).toNat:Nat)=(J.wrap ((b:Int) - (J.wrap (U.wrap (a.tdiv (32:Int)))))).toNat)/\((((J.wrap ((b:Int) - (J.wrap (U.wrap (a.tdiv (32:Int)))))).toNat:Nat):Int)=(((J.wrap ((b:Int) - (J.wrap (U.wrap (a.tdiv (32:Int)))))).toNat:Nat):Int))/\((J.wrap (d.1 + (1:Int)))=m.1)/\((d.2.set (0 + (d.1.toNat * 1)) (I W (W.wrap ((U.wrap p).fdiv (2 ^ (min (a.tmod (32:Int)).toNat IntKind.u64.bits))))))=m.2)))/\i m f)))))/\((decide (d.1 < (((J.wrap ((b:Int) - (J.wrap (U.wrap (a.tdiv (32:Int)))))).toNat:Nat):Int)))=false->(∀q,f.Le q->∀a0:Nat,(q.blk a0 (.cells d.2.toArray 264 (0,0)))->Acts prog 311 #[S (some ⟨a0,0,none⟩) ((J.wrap ((b:Int) - (J.wrap (U.wrap (a.tdiv (32:Int)))))).toNat) ((J.wrap ((b:Int) - (J.wrap (U.wrap (a.tdiv (32:Int)))))).toNat)] q fun a6 a7=>∃a1 a2 a3,a6=S a1 a2 a3/\∀a8:C->Value,(Rt a7 R (S a1 a2 a3))))))))))):
 Acts prog 361 #[S s t u,I U a] V R:=
 fd (LF:=LF0) (RF:=[1000015]) [(7,⟨Int × (List Value),false,[0,5,6,7,29],[],fun r=>[(30,.c (.v (I J r.1)))],fun r=>[(27,⟨.row r.2,264⟩)]⟩)] [] func361 h
theorem vc_nat_Bits (d:OA) (e f:Nat) (V:View) (R:VR) (h:(Ca V 311 #[S d e f] fun n b=>∃c a o,n=S c a o/\((((a:Int) == (0:Int))=true->(Rt b R (I J 0)))/\(((a:Int) == (0:Int))=false->(c.isSome=true)/\(0<=(J.wrap ((a:Int)-1))/\(J.wrap ((a:Int)-1)) < (a:Int))/\(∃i,(∃k,addrAdd c (((J.wrap ((a:Int)-1)).toNat) * 1)=some k/\b.at k (I W i))/\(Ca b 295 #[I W i] fun p q=>∃l,p=I J l/\(Rt q R (I J (J.wrap ((J.wrap ((32:Int) * (a:Int))) - l)))))))))):
 Acts prog 286 #[S d e f] V R:=
 fd (LF:=LF0) (RF:=[1000015]) [] [] func286 h
theorem vc_nat_Gcd (q:OA) (r s:Nat) (t:OA) (u w:Nat) (V:View) (R:VR) (h:(Ca V 290 #[S q r s] fun c2 c3=>∃x y z,c2=S x y z/\(Ca c3 290 #[S t u w] fun c4 a0=>∃a1 a2 a3,c4=S a1 a2 a3/\(∃k:((OA) × Nat × Nat × (OA) × Nat × Nat)->Nat->VP,(∃(e:(OA) × Nat × Nat × (OA) × Nat × Nat) (c5:Nat),(((x:OA)=e.1)/\((y:Nat)=e.2.1)/\((z:Nat)=e.2.2.1)/\((a1:OA)=e.2.2.2.1)/\((a2:Nat)=e.2.2.2.2.1)/\((a3:Nat)=e.2.2.2.2.2))/\k e c5 a0)/\∀(a:(OA) × Nat × Nat × (OA) × Nat × Nat) (n:Nat) (f:View),a0.Le f->k a n f->(true=true/\(((decide (((a.2.1:Nat):Int) > (2:Int)))=true->(((((a.2.2.2.2.1:Nat):Int) == (0:Int))=true->(Rt f R (S a.1 a.2.1 a.2.2.1)))/\((((a.2.2.2.2.1:Nat):Int) == (0:Int))=false->(Ca f 287 #[S a.1 a.2.1 a.2.2.1,S a.2.2.2.1 a.2.2.2.2.1 a.2.2.2.2.2] fun c6 c7=>∃c8 c9 d0,∃a5 a6 a7,∃d1,c6=T #[S c8 c9 d0,S a5 a6 a7,B d1]/\(∃(g:(OA) × Nat × Nat × (OA) × Nat × Nat) (a8:Nat),a8 < n/\(((a.2.2.2.1:OA)=g.1)/\((a.2.2.2.2.1:Nat)=g.2.1)/\((a.2.2.2.2.2:Nat)=g.2.2.1)/\((a5:OA)=g.2.2.2.1)/\((a6:Nat)=g.2.2.2.2.1)/\((a7:Nat)=g.2.2.2.2.2))/\k g a8 c7)))))/\((decide (((a.2.1:Nat):Int) > (2:Int)))=false->(((decide (((a.2.2.2.2.1:Nat):Int) > (2:Int)))=true->(((((a.2.2.2.2.1:Nat):Int) == (0:Int))=true->(Rt f R (S a.1 a.2.1 a.2.2.1)))/\((((a.2.2.2.2.1:Nat):Int) == (0:Int))=false->(Ca f 287 #[S a.1 a.2.1 a.2.2.1,S a.2.2.2.1 a.2.2.2.2.1 a.2.2.2.2.2] fun d2 d3=>∃d4 d5 d6,∃b0 b1 b2,∃d7,d2=T #[S d4 d5 d6,S b0 b1 b2,B d7]/\(∃(i:(OA) × Nat × Nat × (OA) × Nat × Nat) (b3:Nat),b3 < n/\(((a.2.2.2.1:OA)=i.1)/\((a.2.2.2.2.1:Nat)=i.2.1)/\((a.2.2.2.2.2:Nat)=i.2.2.1)/\((b0:OA)=i.2.2.2.1)/\((b1:Nat)=i.2.2.2.2.1)/\((b2:Nat)=i.2.2.2.2.2))/\k i b3 d3)))))/\((decide (((a.2.2.2.2.1:Nat):Int) > (2:Int)))=false->(Ca f 289 #[S a.1 a.2.1 a.2.2.1] fun d8 d9=>∃b4,∃e0,d8=T #[I U b4,B e0]/\(Ca d9 289 #[S a.2.2.2.1 a.2.2.2.2.1 a.2.2.2.2.2] fun e1 b5=>∃b6,∃e2,e1=T #[I U b6,B e2]/\(∃(o:(Int × Int)->VP) (b7:(Int × Int)->Nat),(∃p,((b4=p.1)/\(b6=p.2))/\o p b5)/\∀(d:Int × Int) (l:View),b5.Le l->o d l->(true=true/\(((d.2 != (0:Int))=true->(d.2≠0)/\(∃m:Int × Int,b7 m < b7 d/\((d.2=m.1)/\((d.1.tmod d.2)=m.2))/\o m l))/\((d.2 != (0:Int))=false->(Ca l 309 #[I U d.1] fun e3 e4=>∃b8 b9 c0,e3=S b8 b9 c0/\(Rt e4 R (S b8 b9 c0)))))))))))))))))):
 Acts prog 265 #[S q r s,S t u w] V R:=
 fd (LF:=LF0) (RF:=[1000015]) [(2,⟨(OA) × Nat × Nat × (OA) × Nat × Nat,true,[],[],fun b=>[(0,.c (.v (S b.1 b.2.1 b.2.2.1))),(1,.c (.v (S b.2.2.2.1 b.2.2.2.2.1 b.2.2.2.2.2)))],fun b=>[]⟩),(9,⟨Int × Int,false,[],[],fun b=>[(8,.c (.v (I U b.1))),(10,.c (.v (I U b.2)))],fun b=>[]⟩)] [] func265 h
theorem vc_slices_Clone (c:OA) (a k:Nat) (V:View) (R:VR) (h:((c.isNone=true->(Rt V R (S none 0 0)))/\(c.isNone=false->(∃b:List Value,V.sl c b/\b.length=a * 1/\((0 + a) * 4<=140737488355328/\0<=0/\0 * 1<=([]:List Value).length/\b.length=a * 1/\(∀l ∈ b,l.oneCell'=true)/\∀(m:Nat) (n:C->Value) (g:List Value) (d:Nat),0 + a<=d->d * 1<=(0 + a) * 1 + g.length->(∀e,V.Le e->∀i:Nat,(e.blk i (.cells (([]:List Value).take (0 * 1)++b++g).toArray 264 (0,0)))->R (S (some ⟨i,0,none⟩) (0 + a) d) e)))))):
 Acts prog 339 #[S c a k] V R:=
 fd (LF:=LF0) (RF:=[1000015]) [] [] func339 h
end Go.Proofs.Tryz
/- Contracts of package nat: trim, Cmp, Add. -/
namespace Go.Proofs.Tryz
open Go.Eng Go.Big
theorem c_nat_trim {V:View} {p:OA} {n c:Nat} {ds:List Nat} (h:RD V p n c ds) (hm:ds.length<=4611686018427387904) :
  Acts prog 311 #[.slice p n c] V fun r V'=>∃k,r=.slice p k c/\RD V' p k c (trimD ds):=by
 refine vc_nat_trim p n c V _ ?_
 refine ⟨fun z V'=>z.1=p/\z.2.2=c/\z.2.1<=ds.length/\trimD (ds.take z.2.1)=trimD ds/\RD V' p z.2.1 c (ds.take z.2.1),fun z=>z.2.1,⟨(p,n,c),⟨rfl,rfl,rfl⟩,rfl,rfl,?_⟩,?_⟩
 ·have:=h.len; subst this; simp; exact h
 ·rintro ⟨q,k,c'⟩ V1 l1 ⟨rfl,rfl,hk,ht,hR⟩
  dsimp only at hk ht hR ⊢
  refine ⟨rfl,fun h0=>?_,fun h0=>?_⟩
  ·have h0:0 < k:=by simpa using h0
   simp (disch:=omega) only [i64w]
   have hl:(ds.take k).length=k:=by simp; omega
   have hs:ds.take k=ds.take (k - 1)++[ds[k - 1]]:=by rw [← List.take_succ_eq_append_getElem (by omega),Nat.sub_add_cancel h0]
   refine hR.rd (k - 1) (by omega) (by omega) ⟨fun hz=>?_,fun hz=>?_⟩
   ·have hz:ds[k - 1]=0:=by simpa using hz
    refine ⟨⟨by omega,by have:=hR.cap; omega⟩,(q,k - 1,c'),by dsimp only; omega,⟨rfl,by dsimp only; omega,rfl⟩,rfl,rfl,by dsimp only; omega,?_,?_⟩
    ·dsimp only
     rw [← ht,hs,hz,trimD_snoc_zero]
    ·have:=hR.take (k:=k - 1) (by omega)
     dsimp only
     rwa [List.take_take,Nat.min_eq_left (by omega)] at this
   ·have hz:ds[k - 1]≠0:=by simpa using hz
    refine fun V2 l2=>⟨k,rfl,?_⟩
    rw [← ht,hs,trimD_snoc _ _ hz,← hs]
    exact hR.le l2
  ·have h0:k=0:=by simpa using h0
   subst h0
   refine fun V2 l2=>⟨0,rfl,?_⟩
   rw [← ht]
   exact hR.le l2
theorem c_slices_Clone {V:View} {p:OA} {n c:Nat} {ds:List Nat} (h:RD V p n c ds) (hm:ds.length<=1099511627776) :
  Acts prog 339 #[.slice p n c] V fun r V'=>∃q k c',r=.slice q k c'/\RD V' q k c' ds:=by
 have hl:=h.len
 refine vc_slices_Clone p n c V _ ⟨fun h0 V1 l1=>⟨_,_,_,rfl,?_⟩,fun h0=>⟨u32s ds,h.sl,by simp [hl],by omega,by omega,by simp,by simp [hl],?_,?_⟩⟩
 ·have h0:p=none:=by simpa using h0
  subst h0
  have:ds=[]:=by
   rcases Nat.eq_zero_or_pos ds.length with e | e
   ·exact List.length_eq_zero_iff.1 e
   ·obtain ⟨ad,e,-⟩:=h.sl 0 _ (u32s_get e)
    cases e
  subst this; exact RD.nil
 ·intro v hv
  simp only [u32s,List.mem_map] at hv
  obtain ⟨d,-,rfl⟩:=hv
  rfl
 ·intro bk J sp c' h1 h2 V1 l1 b hb
  refine ⟨_,_,_,rfl,?_⟩
  simp only [Nat.zero_add,Nat.zero_mul,List.take_zero,List.nil_append] at hb h1 ⊢
  exact ⟨hl,h1,fun i v hv=>⟨_,rfl,by rw [add_zero']; exact blk_at hb (by rw [List.getElem?_append_left (by rcases Nat.lt_or_ge i (u32s ds).length with e | e; exact e; rw [List.getElem?_eq_none e] at hv; cases hv)]; exact hv)⟩,h.dig,fun e=>nomatch e⟩
/-- A normal form's slice. -/
abbrev RN (V:View) (p:OA) (n c:Nat) (x:Nat):Prop:=RD V p n c (digs x)
theorem c_nat_Norm {V:View} {p:OA} {n c:Nat} {ds:List Nat} (h:RD V p n c ds) (hm:ds.length<=1099511627776) :
  Acts prog 290 #[.slice p n c] V fun r V'=>∃q k c',r=.slice q k c'/\RN V' q k c' (val ds):=by
 refine vc_nat_Norm p n c V _ fun V1 l1=>(c_nat_trim (h.le l1) (by omega)).mono ?_
 rintro r V2 l2 ⟨k,rfl,h2⟩
 refine ⟨_,_,_,rfl,fun V3 l3=>(c_slices_Clone (h2.le l3) (by have:=trimD_len ds; omega)).mono ?_⟩
 rintro r V4 l4 ⟨q,k',c',rfl,h4⟩
 refine ⟨_,_,_,rfl,fun V5 l5=>⟨_,_,_,rfl,?_⟩⟩
 unfold RN
 rw [← trimD_eq h.dig]
 exact h4.le l5
theorem c_nat_Normal {V:View} {p:OA} {n c:Nat} {ds:List Nat} (h:RD V p n c ds) (hm:ds.length<=1099511627776) :
  Acts prog 260 #[.slice p n c] V fun r V'=>r=.bool (decide (digs (val ds)=ds)):=by
 have hl:=h.len
 refine vc_nat_Normal p n c V _ ⟨fun h0 V1 l1=>?_,fun h0=>?_⟩
 ·have:ds=[]:=List.length_eq_zero_iff.1 (by simp at h0; omega)
  subst this; rfl
 ·have h0:0 < n:=by simp at h0; omega
  simp (disch:=omega) only [i64w]
  refine h.rd (n - 1) (by omega) (by omega) fun V1 l1=>?_
  congr 1
  rw [Bool.eq_iff_iff]
  simp only [bne_iff_ne,ne_eq,decide_eq_true_eq]
  subst hl
  constructor
  ·intro hz
   exact digs_val h.dig (nrm_of_last fun _=>by simpa using hz)
  ·intro he hz
   have:Nrm ds:=by rw [← he]; exact nrm_digs _
   exact this.last (by omega) (by simpa using hz)
theorem c_nat_FromUint {V:View} (u:Int) (h0:0<=u) (h1:u < 18446744073709551616) :
  Acts prog 309 #[.int .u64 u] V fun r V'=>∃q k c',r=.slice q k c'/\RN V' q k c' u.toNat:=by
 obtain ⟨u,rfl⟩:=Int.eq_ofNat_of_zero_le h0
 refine vc_nat_FromUint _ V _ ⟨by omega,fun V1 l1 bk hb=>?_⟩
 rw [shr32,u32m,u32w (by omega)] at hb
 have hb:V1.blk bk (.cells (u32s [u % 4294967296,u / 4294967296]).toArray 264 (0,0)):=by
  simpa [u32s] using hb
 have hd:Dig [u % 4294967296,u / 4294967296]:=by simp [Dig]; omega
 refine (c_nat_trim (RD.blk hb hd (n:=2) (c:=2) rfl (Nat.le_refl _)) (by simp)).mono ?_
 rintro r V2 l2 ⟨k,rfl,h2⟩
 refine ⟨_,_,_,rfl,fun _ V3 l3=>⟨_,_,_,rfl,?_⟩⟩
 rw [trimD_eq hd] at h2
 have:val [u % 4294967296,u / 4294967296]=(u:Int).toNat:=by simp; omega
 rw [this] at h2
 exact h2.le l3
end Go.Proofs.Tryz
/- Contracts of package nat: Cmp, Add, Sub. -/
namespace Go.Proofs.Tryz
open Go.Eng Go.Big
theorem c_nat_Cmp {V:View} {p q:OA} {n c m e:Nat} {xa xb:List Nat} (ha:RD V p n c xa) (hb:RD V q m e xb) (hm:xa.length<=1099511627776) (hn:xb.length<=1099511627776) :
  Acts prog 338 #[.slice p n c,.slice q m e] V fun r V'=>r=.int .i64 (cmpN (val xa) (val xb)):=by
 have la:=trimD_len xa
 have lb:=trimD_len xb
 refine vc_nat_Cmp p n c q m e V _ fun V1 l1=>(c_nat_trim (ha.le l1) (by omega)).mono ?_
 rintro r V2 l2 ⟨n,rfl,h1⟩
 refine ⟨_,_,_,rfl,fun V3 l3=>(c_nat_trim (hb.le (l1.trans (l2.trans l3))) (by omega)).mono ?_⟩
 rintro r V4 l4 ⟨m,rfl,h2⟩
 refine ⟨_,_,_,rfl,?_⟩
 replace h1:=h1.le (l3.trans l4)
 rw [trimD_eq ha.dig] at h1 la
 rw [trimD_eq hb.dig] at h2 lb
 generalize val xa=x at *
 generalize val xb=y at *
 have hl1:=h1.len
 have hl2:=h2.len
 refine ⟨fun h0=>⟨fun h3 V5 l5=>?_,fun h3 V5 l5=>?_⟩,fun h0=>?_⟩
 ·have:=lt_of_len (a:=x) (b:=y) (by simp at h3; omega)
  rw [cmpN,if_pos this]
 ·have:=lt_of_len (a:=y) (b:=x) (by simp at h0 h3; omega)
  rw [cmpN,if_neg (by omega),if_pos this]
 ·have h0:n=m:=by simp at h0; omega
  subst h0
  simp (disch:=omega) only [i64w]
  refine ⟨fun z V'=>-1<=z/\z < n/\(digs x).drop (z + 1).toNat=(digs y).drop (z + 1).toNat,fun z=>(z + 1).toNat,⟨_,by (try dsimp only); and_intros <;> trivial,by (try dsimp only); omega,by (try dsimp only); omega,?_⟩,?_⟩
  ·(try dsimp only)
   rw [List.drop_of_length_le (by omega),List.drop_of_length_le (by omega)]
  ·rintro i V7 l7 ⟨hi0,hi1,hd⟩
   dsimp only at hi0 hi1 hd ⊢
   refine ⟨by trivial,fun h3=>?_,fun h3 V5 l5=>?_⟩
   ·have h3:0<=i:=by simpa using h3
    obtain ⟨i,rfl⟩:=Int.eq_ofNat_of_zero_le h3
    simp (disch:=omega) only [i64w]
    have hd':(digs x).drop (i + 1)=(digs y).drop (i + 1):=hd
    refine (h1.le l7).rd i rfl (by omega) ((h2.le l7).rd i rfl (by omega) ⟨fun h4 V8 l8=>?_,fun h4=>?_⟩)
    ·have:=lt_of_digit (dig_digs x) (by omega) (by omega) hd' (by simpa using h4)
     rw [val_digs,val_digs] at this
     rw [cmpN,if_pos this]
    ·refine (h1.le l7).rd i rfl (by omega) ((h2.le l7).rd i rfl (by omega) ⟨fun h5 V8 l8=>?_,fun h5=>?_⟩)
     ·have:=lt_of_digit (dig_digs y) (by omega) (by omega) hd'.symm (by simpa using h5)
      rw [val_digs,val_digs] at this
      rw [cmpN,if_neg (by omega),if_pos this]
     ·refine ⟨_,?_,by (try dsimp only); and_intros <;> trivial,?_,?_,?_⟩
      ·(try dsimp only); omega
      ·(try dsimp only); omega
      ·(try dsimp only); omega
      ·(try dsimp only)
       have:((i:Int) - 1 + 1).toNat=i:=by omega
       rw [this,List.drop_eq_getElem_cons (by omega),List.drop_eq_getElem_cons (l:=digs y) (by omega),hd']
       congr 1
       simp at h4 h5
       omega
   ·have h3:i=-1:=by simp at h3; omega
    subst h3
    have:digs x=digs y:=by simpa using hd
    have:=digs_inj this
    subst this
    simp [cmpN]
/-- One step of an addition with a carry. -/
theorem add_step {E A B c d x y W:Nat} (h:E + W * c=A + B) (hd:d=c + x + y):E + W * (d % 4294967296) + W * 4294967296 * (d / 4294967296)=A + W * x + (B + W * y):=by
 have h1:W * (d % 4294967296) + W * 4294967296 * (d / 4294967296)=W * d:=by
  rw [Nat.mul_assoc,← Nat.mul_add,Nat.mod_add_div]
 rw [Nat.add_assoc,h1,hd,Nat.mul_add,Nat.mul_add]
 omega
theorem c_nat_Add {V:View} {p q:OA} {n c m e:Nat} {xa xb:List Nat} (ha:RD V p n c xa) (hb:RD V q m e xb) (hm:xa.length<=1099511627776) (hn:xb.length<=1099511627776) :
  Acts prog 344 #[.slice p n c,.slice q m e] V fun r V'=>∃p' n' c',r=.slice p' n' c'/\RN V' p' n' c' (val xa + val xb):=by
 have hla:=ha.len
 have hlb:=hb.len
 refine vc_nat_Add p n c q m e V _ ⟨fun z V'=>∃xs ys,RD V' z.1 z.2.1 z.2.2.1 xs/\RD V' z.2.2.2.1 z.2.2.2.2.1 z.2.2.2.2.2 ys/\ys.length<=xs.length/\xs.length<=1099511627776/\val xs + val ys=val xa + val xb,⟨fun h0=>?_,fun h0=>?_⟩,?_⟩
 ·exact ⟨(_,_,_,_,_,_),by (try dsimp only); and_intros <;> trivial,xb,xa,hb,ha,by simp at h0; omega,hn,by omega⟩
 ·exact ⟨(_,_,_,_,_,_),by (try dsimp only); and_intros <;> trivial,xa,xb,ha,hb,by simp at h0; omega,hm,rfl⟩
 ·rintro ⟨p,n,c,q,m,e⟩ V1 l1 ⟨xs,ys,hx,hy,hl,hm,hv⟩
  dsimp only at hx hy ⊢
  rw [← hv]
  clear hv ha hb hla hlb
  have hlx:=hx.len
  have hly:=hy.len
  simp (disch:=omega) only [i64w,u32s_rep]
  have hn1:((n:Int) + 1).toNat=n + 1:=by omega
  rw [hn1]
  refine ⟨by trivial,by omega,by omega,by omega,fun z V'=>0<=z.1/\z.1<=1/\0<=z.2.1/\z.2.1<=n/\∃es:List Nat,z.2.2=u32s es/\es.length=n + 1/\Dig es /\
   val (es.take z.2.1.toNat) + 4294967296 ^ z.2.1.toNat * z.1.toNat=val (xs.take z.2.1.toNat) + val (ys.take z.2.1.toNat),fun z=>n - z.2.1.toNat,⟨(0,0,u32s (List.replicate (n + 1) 0)),by (try dsimp only); and_intros <;> trivial,by (try dsimp only); omega,by (try dsimp only); omega,by (try dsimp only); omega,by (try dsimp only); omega,_,rfl,by simp,Dig.rep _,by simp⟩,?_⟩
  rintro ⟨cy,i,vs⟩ V2 l2 ⟨hc0,hc1,hi0,hi1,es,rfl,hes,hde,hv⟩
  dsimp only at hc0 hc1 hi0 hi1 hv ⊢
  obtain ⟨i,rfl⟩:=Int.eq_ofNat_of_zero_le hi0
  obtain ⟨cy,rfl⟩:=Int.eq_ofNat_of_zero_le hc0
  simp only [Int.toNat_natCast] at hv
  refine ⟨by trivial,fun h3=>?_,fun h3=>?_⟩
  ·have h3:i < n:=by simpa using h3
   refine (hx.le l2).rd i rfl (by omega) ?_
   have hdx:=hx.dig.get (i:=i) (by omega)
   have next:∀d:Nat,d < 8589934592->val (es.take i) + 4294967296 ^ i * (d % 4294967296) + 4294967296 ^ i * 4294967296 * (d / 4294967296)=val (xs.take (i + 1)) + val (ys.take (i + 1)) ->
     ∃es':List Nat,(u32s es).set i (.int .u32 ((d % 4294967296:Nat):Int))=u32s es'/\es'.length=n + 1/\Dig es' /\
     val (es'.take (i + 1)) + 4294967296 ^ (i + 1) * (d / 4294967296)=val (xs.take (i + 1)) + val (ys.take (i + 1)):=by
    intro d hd he
    refine ⟨es.set i (d % 4294967296),u32s_set _ _ _,by simpa using hes,hde.set _ _ (by omega),?_⟩
    rw [val_take_set _ _ _ (by omega),Nat.pow_succ]
    exact he
   refine ⟨fun h4=>?_,fun h4=>?_⟩
   ·have h4:i < m:=by simpa using h4
    refine (hy.le l2).rd i rfl (by omega) ?_
    have hdy:=hy.dig.get (i:=i) (by omega)
    simp (disch:=omega) only [u64w,i64w,u32m,shr32]
    refine ⟨⟨by omega,by omega⟩,by simp; omega,by omega,(_,_,_),?_,by (try dsimp only); and_intros <;> trivial,?_⟩
    ·(try dsimp only); omega
    ·(try dsimp only)
     have hi2:((i:Int) + 1).toNat=i + 1:=by omega
     obtain ⟨es',e1,e2,e3,e4⟩:=next (cy + xs[i] + ys[i]) (by omega) (by rw [val_take_succ _ _ (by omega),val_take_succ _ _ (by omega)]; exact add_step hv rfl)
     refine ⟨by omega,by omega,by omega,by omega,es',?_,e2,e3,?_⟩
     ·rw [← e1]; simp
     ·rw [hi2,← e4]; congr 2
   ·have h4:m<=i:=by simpa using h4
    simp (disch:=omega) only [u64w,i64w,u32m,shr32]
    refine ⟨⟨by omega,by omega⟩,by simp; omega,by omega,(_,_,_),?_,by (try dsimp only); and_intros <;> trivial,?_⟩
    ·(try dsimp only); omega
    ·(try dsimp only)
     have hi2:((i:Int) + 1).toNat=i + 1:=by omega
     obtain ⟨es',e1,e2,e3,e4⟩:=next (cy + xs[i]) (by omega) (by
      rw [val_take_succ _ _ (by omega),val_take_of_le (ds:=ys) (i:=i + 1) (by omega)]
      have:=add_step (y:=0) hv (d:=cy + xs[i]) rfl
      rwa [val_take_of_le (ds:=ys) (by omega),Nat.mul_zero,Nat.add_zero] at this)
     refine ⟨by omega,by omega,by omega,by omega,es',?_,e2,e3,?_⟩
     ·rw [← e1]; simp
     ·rw [hi2,← e4]; congr 2
  ·have h3:i=n:=by simp at h3; omega
   subst h3
   simp (disch:=omega) only [u32w]
   refine ⟨⟨by omega,by omega⟩,by simp; omega,fun V3 l3 bk hb=>?_⟩
   have e1:(u32s es).set (0 + ((i:Int).toNat) * 1) (.int .u32 (cy:Int))=u32s (es.set i cy):=by rw [← u32s_set]; simp
   rw [e1] at hb
   have hd2:=hde.set i cy (by omega)
   refine (c_nat_trim (RD.blk hb hd2 (n:=i + 1) (c:=i + 1) (by simp; omega) (Nat.le_refl _)) (by simp; omega)).mono ?_
   rintro r V4 l4 ⟨k,rfl,h4⟩
   refine ⟨_,_,_,rfl,fun _ V5 l5=>⟨_,_,_,rfl,?_⟩⟩
   rw [trimD_eq hd2] at h4
   have e2:val (es.set i cy)=val xs + val ys:=by
    have:=val_take_set es i cy (by omega)
    rw [val_take_of_le (by simp; omega)] at this
    rw [this,hv,val_take_of_le (by omega),val_take_of_le (by omega)]
   rw [e2] at h4
   exact h4.le l5
end Go.Proofs.Tryz
/- Contracts of package nat: Sub, Uint, Mul, short. -/
namespace Go.Proofs.Tryz
open Go.Eng Go.Big
/-- One step of a subtraction with a borrow. -/
theorem sub_step {E A B c x y W:Nat} (h:E + B=A + W * c) {v:Int} (hc:c<=1) (hx:x < 4294967296) (hy:y < 4294967296) (hv:v=((x:Int) - (c + y)) % 18446744073709551616) :
  0<=v/\v / 9223372036854775808<=1/\0<=v / 9223372036854775808/\E + W * (v % 4294967296).toNat + (B + W * y)=A + W * x + W * 4294967296 * (v / 9223372036854775808).toNat:=by
 rcases Nat.lt_or_ge x (c + y) with hl | hl
 ·have e1:v=18446744073709551616 + (x:Int) - (c + y):=by omega
  have e2:(v / 9223372036854775808).toNat=1:=by omega
  have e3:(v % 4294967296).toNat + (c + y)=x + 4294967296:=by omega
  refine ⟨by omega,by omega,by omega,?_⟩
  rw [e2,Nat.mul_one]
  have:=congrArg (W * ·) e3
  simp only [Nat.mul_add] at this
  omega
 ·have e1:v=(x:Int) - (c + y):=by omega
  have e2:(v / 9223372036854775808).toNat=0:=by omega
  have e3:(v % 4294967296).toNat + (c + y)=x:=by omega
  refine ⟨by omega,by omega,by omega,?_⟩
  rw [e2,Nat.mul_zero,Nat.add_zero]
  have:=congrArg (W * ·) e3
  simp only [Nat.mul_add] at this
  omega
theorem c_nat_less {V:View} {p q:OA} {n c m e:Nat} {xs ys:List Nat} (hx:RD V p n c xs) (hy:RD V q m e ys) (hm:xs.length<=1099511627776) (hl:ys.length<=xs.length) (hle:val ys<=val xs) :
  Acts prog 362 #[.slice p n c,.slice q m e] V fun r V'=>∃p' n' c',r=.slice p' n' c'/\RN V' p' n' c' (val xs - val ys):=by
 have hlx:=hx.len
 have hly:=hy.len
 refine vc_nat_less p n c q m e V _ ⟨by omega,by omega,by omega,fun z V'=>0<=z.1/\z.1<=1/\0<=z.2.1/\z.2.1<=n/\∃es:List Nat,z.2.2=u32s es/\es.length=n/\Dig es /\
   val (es.take z.2.1.toNat) + val (ys.take z.2.1.toNat)=val (xs.take z.2.1.toNat) + 4294967296 ^ z.2.1.toNat * z.1.toNat,fun z=>n - z.2.1.toNat,
   ⟨(0,0,List.replicate n (.int .u32 0)),by (try dsimp only); and_intros <;> trivial,by (try dsimp only); omega,by (try dsimp only); omega,by (try dsimp only); omega,by (try dsimp only); omega,List.replicate n 0,u32s_rep n,by simp,Dig.rep _,by simp⟩,?_⟩
 rintro ⟨cy,i,vs⟩ V2 l2 ⟨hc0,hc1,hi0,hi1,es,rfl,hes,hde,hv⟩
 dsimp only at hc0 hc1 hi0 hi1 hv ⊢
 obtain ⟨i,rfl⟩:=Int.eq_ofNat_of_zero_le hi0
 obtain ⟨cy,rfl⟩:=Int.eq_ofNat_of_zero_le hc0
 simp only [Int.toNat_natCast] at hv
 refine ⟨by trivial,fun h3=>?_,fun h3=>?_⟩
 ·have h3:i < n:=by simpa using h3
  refine (hx.le l2).rd i rfl (by omega) ?_
  have hdx:=hx.dig.get (i:=i) (by omega)
  refine ⟨fun z V'=>∃y:Nat,z=cy + y/\y < 4294967296/\val (ys.take (i + 1))=val (ys.take i) + 4294967296 ^ i * y,⟨fun h4=>?_,fun h4=>?_⟩,?_⟩
  ·have h4:i < m:=by simpa using h4
   refine (hy.le l2).rd i rfl (by omega) ?_
   have hdy:=hy.dig.get (i:=i) (by omega)
   simp (disch:=omega) only [u64w]
   exact ⟨_,by (try dsimp only); and_intros <;> trivial,ys[i],rfl,hdy,val_take_succ _ _ (by omega)⟩
  ·have h4:m<=i:=by simpa using h4
   exact ⟨_,by (try dsimp only); and_intros <;> trivial,0,by simp,by omega,by rw [val_take_of_le (by omega),val_take_of_le (by omega)]; simp⟩
  ·rintro t V3 l3 ⟨y,rfl,hdy,hy'⟩
   refine ⟨by trivial,⟨by omega,by simpa using h3⟩,by simp; omega,by omega,?_⟩
   simp (disch:=omega) only [u64w,i64w,u64m,u32m,shr63]
   obtain ⟨v,hv'⟩:∃v:Int,v=((xs[i]:Int) - ((cy:Int) + (y:Int))) % 18446744073709551616:=⟨_,rfl⟩
   obtain ⟨g1,g2,g3,g4⟩:=sub_step hv (by omega) hdx hdy hv'
   rw [← hv']
   refine ⟨(_,_,_),?_,by (try dsimp only); and_intros <;> trivial,?_⟩
   ·(try dsimp only); omega
   ·(try dsimp only)
    have hi2:((i:Int) + 1).toNat=i + 1:=by omega
    refine ⟨g3,g2,by omega,by omega,es.set i (v % 4294967296).toNat,?_,by simpa using hes,hde.set _ _ (by omega),?_⟩
    ·rw [← u32s_set]
     congr 2
     ·simp
     ·omega
    ·rw [hi2,val_take_set _ _ _ (by omega),hy',g4,val_take_succ _ _ (by omega),Nat.pow_succ]
 ·have h3:i=n:=by simp at h3; omega
  subst h3
  intro V3 l3 bk hb
  refine (c_nat_trim (RD.blk hb hde (n:=i) (c:=i) hes.symm (Nat.le_refl _)) (by omega)).mono ?_
  rintro r V4 l4 ⟨k,rfl,h4⟩
  refine ⟨_,_,_,rfl,fun _ V5 l5=>⟨_,_,_,rfl,?_⟩⟩
  rw [trimD_eq hde] at h4
  rw [val_take_of_le (by omega),val_take_of_le (by omega),val_take_of_le (by omega)] at hv
  have e1:=val_lt hde
  rw [hes] at e1
  have e2:cy=0:=by
   rcases Nat.eq_zero_or_pos cy with h | h
   ·exact h
   ·have:4294967296 ^ i * 1<=4294967296 ^ i * cy:=Nat.mul_le_mul_left _ h
    omega
  subst e2
  rw [show val es=val xs - val ys from by omega] at h4
  exact h4.le l5
theorem cmpN_neg {a b:Nat}:cmpN a b < 0↔a < b:=by
 unfold cmpN
 split
 ·simp; omega
 ·split <;> simp <;> omega
theorem cmpN_zero {a b:Nat}:cmpN a b=0↔a=b:=by
 unfold cmpN
 split
 ·simp; omega
 ·split
  ·simp; omega
  ·simp; omega
theorem c_nat_Sub {V:View} {p q:OA} {n c m e:Nat} {xa xb:List Nat} (ha:RD V p n c xa) (hb:RD V q m e xb) (hm:xa.length<=1099511627776) (hn:xb.length<=1099511627776) :
  Acts prog 345 #[.slice p n c,.slice q m e] V fun r V'=>∃p' n' c',r=.tuple #[.slice p' n' c',.bool (decide (val xb<=val xa))]/\RN V' p' n' c' (val xa - val xb):=by
 refine vc_nat_Sub p n c q m e V _ fun V1 l1=>(c_nat_Cmp (ha.le l1) (hb.le l1) hm hn).mono ?_
 rintro r V2 l2 rfl
 refine ⟨_,rfl,fun h0 V3 l3=>?_,fun h0 V3 l3=>?_⟩
 ·have h0:val xa < val xb:=by simpa [cmpN_neg] using h0
  rw [Nat.sub_eq_zero_of_le (by omega),decide_eq_false (by omega)]
  exact ⟨_,_,_,rfl,RD.nil⟩
 ·have h0:val xb<=val xa:=by simpa [← Int.not_lt,cmpN_neg] using h0
  rw [decide_eq_true h0]
  refine (c_nat_trim ((ha.le l1).le (l2.trans l3)) (by omega)).mono ?_
  rintro r V4 l4 ⟨n1,rfl,h1⟩
  refine ⟨_,_,_,rfl,fun V5 l5=>(c_nat_trim ((hb.le l1).le (l2.trans (l3.trans (l4.trans l5)))) (by omega)).mono ?_⟩
  rintro r V6 l6 ⟨n2,rfl,h2⟩
  rw [trimD_eq ha.dig] at h1
  rw [trimD_eq hb.dig] at h2
  have:=digs_val_len ha.dig
  refine ⟨_,_,_,rfl,fun V7 l7=>(c_nat_less (h1.le (l5.trans (l6.trans l7))) (h2.le l7) (by omega) (digs_len_mono h0) (by rw [val_digs,val_digs]; exact h0)).mono ?_⟩
  rintro r V8 l8 ⟨p',n',c',rfl,h3⟩
  rw [val_digs,val_digs] at h3
  exact ⟨_,_,_,rfl,fun V9 l9=>⟨_,_,_,rfl,h3.le l9⟩⟩
end Go.Proofs.Tryz
