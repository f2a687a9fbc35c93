/- Bit operations that the walk meets, as plain arithmetic. No program in sight; no condition. -/
import Derived.WalkKit
namespace Go.Proofs.YtoflafbhfoncmaaDoor.Bits
open Go Go.RowKit
theorem nat_high (u : Nat) (hu : u < 18446744073709551616) : u &&& 18446744073709486080 = u - u % 65536 := by
  have e1 : 18446744073709486080 = (2 ^ 48 - 1) <<< 16 := by decide
  have e2 : u - u % 65536 = (u / 65536) <<< 16 := by rw [Nat.shiftLeft_eq]; omega
  rw [e1, e2]
  apply Nat.eq_of_testBit_eq
  intro i
  rw [Nat.testBit_and, Nat.testBit_shiftLeft, Nat.testBit_shiftLeft, Nat.testBit_two_pow_sub_one]
  rw [show (65536 : Nat) = 2 ^ 16 by decide, Nat.testBit_div_two_pow]
  by_cases h : 16 ≤ i
  · simp only [h, decide_true, Bool.true_and]
    rw [show i - 16 + 16 = i by omega]
    by_cases h2 : i < 64
    · simp [show i - 16 < 48 by omega]
    · rw [Nat.testBit_lt_two_pow (show u < 2 ^ i from Nat.lt_of_lt_of_le hu (by
        have := Nat.pow_le_pow_right (n := 2) (by decide) (show 64 ≤ i by omega)
        simpa using this))]
      simp
  · simp [h]
theorem i64_andNot16 (x : Int) (h1 : -9223372036854775808 ≤ x) (h2 : x ≤ 9223372036854775807) : bits .andNot .i64 x 65535 = x - x % 65536 := by
  show IntKind.i64.wrap ((BitVec.ofInt 64 x &&& ~~~BitVec.ofInt 64 65535).toNat : Int) = _
  rw [BitVec.toNat_and, BitVec.toNat_not]
  have e2 : (BitVec.ofInt 64 65535).toNat = 65535 := by decide
  have e3 : 2 ^ 64 - 1 - 65535 = 18446744073709486080 := by decide
  rw [e2, e3]
  have hx : (BitVec.ofInt 64 x).toNat = (x % 18446744073709551616).toNat := by
    rw [BitVec.toNat_ofInt]; rfl
  rw [nat_high _ (by rw [hx]; omega), hx, IntKind.wrap_i64]
  omega
end Go.Proofs.YtoflafbhfoncmaaDoor.Bits
