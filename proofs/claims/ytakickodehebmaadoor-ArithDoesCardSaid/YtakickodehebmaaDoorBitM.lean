/- And, or, xor of whole numbers of 32 bits, whole and bit by bit. No program in sight; no condition. -/
import Derived.WalkKit
namespace Go.Proofs.YtakickodehebmaaDoor.BitM
open Go Go.RowKit

def low (a : Int) : BitVec 32 := BitVec.ofInt 32 a
def bitB (a : Int) (i : Nat) : Bool := decide (a / 2 ^ i % 2 = 1)
theorem bit_low (a : Int) (i : Nat) (h : i < 32) : (low a).getLsbD i = bitB a i := by
  unfold low bitB BitVec.getLsbD
  rw [BitVec.toNat_ofInt, Nat.testBit_eq_decide_div_mod_eq]
  have e32 : (((2 ^ 32 : Nat) : Int)) = 4294967296 := by decide
  rw [e32]
  have hp : (0 : Int) < 2 ^ i := Int.pow_pos (by decide)
  have e : (4294967296 : Int) = 2 ^ i * (2 * 2 ^ (31 - i)) := by
    rw [show (2 : Int) * 2 ^ (31 - i) = 2 ^ (32 - i) by rw [← Int.pow_succ']; congr 1; omega, ← Int.pow_add, show i + (32 - i) = 32 by omega]
    decide
  have h1 : a / 2 ^ i = (a % 4294967296) / 2 ^ i + 2 * (2 ^ (31 - i) * (a / 4294967296)) := by
    have h2 : a = a % 4294967296 + 2 ^ i * (2 * (2 ^ (31 - i) * (a / 4294967296))) := by
      have h3 := Int.emod_add_mul_ediv a 4294967296
      rw [← Int.mul_assoc 2, ← Int.mul_assoc (2 ^ i), ← e]
      omega
    conv => lhs; rw [h2]
    rw [Int.add_mul_ediv_left _ _ (by omega)]
  have h0 : 0 ≤ a % 4294967296 := by omega
  have h4 : (((a % 4294967296).toNat / 2 ^ i : Nat) : Int) = (a % 4294967296) / 2 ^ i := by
    rw [Int.natCast_ediv, Int.toNat_of_nonneg h0]
    simp
  congr 1
  rw [h1]
  refine propext ?_
  omega

/-- 0 and, 1 or, else xor -/
def bop (c : Nat) (x y : Bool) : Bool := match c with | 0 => x && y | 1 => x || y | _ => x != y
def bv (c : Nat) (a b : Int) : BitVec 32 := match c with | 0 => low a &&& low b | 1 => low a ||| low b | _ => low a ^^^ low b
theorem bv_bit (c : Nat) (a b : Int) (i : Nat) (h : i < 32) : (bv c a b).getLsbD i = bop c (bitB a i) (bitB b i) := by
  rw [← bit_low a i h, ← bit_low b i h]
  match c with
  | 0 => simp [bv, bop]
  | 1 => simp [bv, bop]
  | _ + 2 => simp [bv, bop]
def part (c : Nat) (a b : Int) (k : Nat) : Int := (((bv c a b).toNat % 2 ^ k : Nat) : Int)
theorem part_zero (c : Nat) (a b : Int) : part c a b 0 = 0 := by simp [part, Nat.mod_one]
theorem part_step (c : Nat) (a b : Int) (k : Nat) (h : k < 32) : part c a b (k + 1) = if bop c (bitB a k) (bitB b k) then part c a b k + 2 ^ k else part c a b k := by
  rw [← bv_bit c a b k h]
  unfold part BitVec.getLsbD
  rw [Nat.mod_pow_succ, Nat.testBit_eq_decide_div_mod_eq]
  have : (bv c a b).toNat / 2 ^ k % 2 < 2 := Nat.mod_lt _ (by decide)
  rcases (show (bv c a b).toNat / 2 ^ k % 2 = 0 ∨ (bv c a b).toNat / 2 ^ k % 2 = 1 by omega) with e | e
  · rw [e]; simp
  · rw [e]; simp
theorem part_bound (c : Nat) (a b : Int) (k : Nat) : 0 ≤ part c a b k ∧ part c a b k < 2 ^ k := by
  unfold part
  refine ⟨by omega, ?_⟩
  have : (bv c a b).toNat % 2 ^ k < 2 ^ k := Nat.mod_lt _ (Nat.pow_pos (by decide))
  exact_mod_cast this
/-- what the operator gives -/
def res (c : Nat) (a b : Int) : Int := (bv c a b).toInt
theorem res_part (c : Nat) (a b : Int) : res c a b = if 2147483648 ≤ part c a b 32 then part c a b 32 - 4294967296 else part c a b 32 := by
  unfold res part
  rw [BitVec.toInt_eq_toNat_cond, Nat.mod_eq_of_lt (bv c a b).isLt]
  have := (bv c a b).isLt
  split <;> split <;> omega
theorem res_bound (c : Nat) (a b : Int) : -2147483648 ≤ res c a b ∧ res c a b ≤ 2147483647 := by
  rw [res_part]
  have := part_bound c a b 32
  have e : (2 : Int) ^ 32 = 4294967296 := by decide
  rw [e] at this
  split <;> omega

theorem ext_low {a : Int} (h1 : -2147483648 ≤ a) (h2 : a ≤ 2147483647) : BitVec.ofInt 64 a = (low a).signExtend 64 := by
  apply BitVec.eq_of_toInt_eq
  rw [BitVec.toInt_signExtend_of_le (by decide)]
  unfold low
  rw [BitVec.toInt_ofInt, BitVec.toInt_ofInt, Int.bmod_def, Int.bmod_def]
  omega
theorem wrap_toInt (x : BitVec 64) : IntKind.i64.wrap (x.toNat : Int) = x.toInt := by
  rw [BitVec.toInt_eq_toNat_cond, IntKind.wrap_i64]
  have := x.isLt
  split <;> omega
theorem bits_and {a b : Int} (h1 : -2147483648 ≤ a) (h2 : a ≤ 2147483647) (h3 : -2147483648 ≤ b) (h4 : b ≤ 2147483647) : bits .and .i64 a b = res 0 a b := by
  show IntKind.i64.wrap ((BitVec.ofInt 64 a &&& BitVec.ofInt 64 b).toNat : Int) = (low a &&& low b).toInt
  rw [ext_low h1 h2, ext_low h3 h4, ← BitVec.signExtend_and, wrap_toInt, BitVec.toInt_signExtend_of_le (by decide)]
theorem bits_or {a b : Int} (h1 : -2147483648 ≤ a) (h2 : a ≤ 2147483647) (h3 : -2147483648 ≤ b) (h4 : b ≤ 2147483647) : bits .or .i64 a b = res 1 a b := by
  show IntKind.i64.wrap ((BitVec.ofInt 64 a ||| BitVec.ofInt 64 b).toNat : Int) = (low a ||| low b).toInt
  rw [ext_low h1 h2, ext_low h3 h4, ← BitVec.signExtend_or, wrap_toInt, BitVec.toInt_signExtend_of_le (by decide)]
theorem bits_xor {a b : Int} (h1 : -2147483648 ≤ a) (h2 : a ≤ 2147483647) (h3 : -2147483648 ≤ b) (h4 : b ≤ 2147483647) : bits .xor .i64 a b = res 2 a b := by
  show IntKind.i64.wrap ((BitVec.ofInt 64 a ^^^ BitVec.ofInt 64 b).toNat : Int) = (low a ^^^ low b).toInt
  rw [ext_low h1 h2, ext_low h3 h4, ← BitVec.signExtend_xor, wrap_toInt, BitVec.toInt_signExtend_of_le (by decide)]
/-- or less and is xor, as sets have it -/
theorem or_sub_and (a b : Int) : res 1 a b - res 0 a b = res 2 a b := by
  show (low a ||| low b).toInt - (low a &&& low b).toInt = (low a ^^^ low b).toInt
  generalize low a = x
  generalize low b = y
  have h : (x &&& y) + (x ^^^ y) = x ||| y := by
    rw [BitVec.add_eq_or_of_and_eq_zero]
    · apply BitVec.eq_of_getLsbD_eq
      intro i hi
      simp only [BitVec.getLsbD_or, BitVec.getLsbD_and, BitVec.getLsbD_xor]
      cases x.getLsbD i <;> cases y.getLsbD i <;> rfl
    · apply BitVec.eq_of_getLsbD_eq
      intro j hj
      simp only [BitVec.getLsbD_and, BitVec.getLsbD_xor]
      cases x.getLsbD j <;> cases y.getLsbD j <;> simp
  have e : (x ||| y).toInt = ((x &&& y).toInt + (x ^^^ y).toInt).bmod (2 ^ 32) := by rw [← h, BitVec.toInt_add]
  have m1 := BitVec.msb_eq_toInt (x := x &&& y)
  have m2 := BitVec.msb_eq_toInt (x := x ^^^ y)
  have m3 := BitVec.msb_eq_toInt (x := x ||| y)
  rw [BitVec.msb_and] at m1
  rw [BitVec.msb_xor] at m2
  rw [BitVec.msb_or] at m3
  have b1 := BitVec.le_toInt (x := x &&& y)
  have b2 := BitVec.toInt_lt (x := x &&& y)
  have b3 := BitVec.le_toInt (x := x ^^^ y)
  have b4 := BitVec.toInt_lt (x := x ^^^ y)
  have b5 := BitVec.le_toInt (x := x ||| y)
  have b6 := BitVec.toInt_lt (x := x ||| y)
  rw [Int.bmod_def] at e
  generalize (x &&& y).toInt = p at *
  generalize (x ^^^ y).toInt = q at *
  generalize (x ||| y).toInt = r at *
  have e32 : ((2 ^ 32 : Nat) : Int) = 4294967296 := by decide
  rw [e32] at e
  have e31 : (2 : Int) ^ (32 - 1) = 2147483648 := by decide
  rw [e31] at b1 b2 b3 b4 b5 b6
  cases hx : x.msb <;> cases hy : y.msb <;> simp [hx, hy] at m1 m2 m3 <;> omega

end Go.Proofs.YtakickodehebmaaDoor.BitM
