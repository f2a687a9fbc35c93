/- strconv.Itoa and the digits of package dec are the same. Its condition: the library's table as laid. -/
import Derived.Test.YtaafelkdhahaoaaDoorPobNm
namespace Go.Proofs.YtaafelkdhahaoaaDoor.Pob
open Go.ChangeShapes Go.WideShapes Go.RowKit Go.Shelf
set_option linter.unusedVariables false
set_option linter.unusedSimpArgs false

theorem decL_eq (n : Nat) : Lib.decDigits n = decL n := by
  induction n using Nat.strongRecOn with
  | ind n ih =>
    by_cases h : n < 10
    · rw [decL_small h, Lib.decDigits, dif_pos h]
    · rw [decL_big h, Lib.decDigits, dif_neg h, ih (n / 10) (by omega)]
/-- a number's decimal numeral -/
def intL (n : Int) : List UInt8 := if n < 0 then 45 :: decL n.natAbs else decL n.natAbs
theorem itoa_eq (n : Int) : Lib.itoa n = intL n := by
  unfold Lib.itoa intL
  split
  · rw [decL_eq]
  · rw [decL_eq, show n.toNat = n.natAbs by omega]
theorem intL_len (n : Int) (h1 : -2147483648 ≤ n) (h2 : n ≤ 2147483647) : (intL n).length ≤ 101 := by
  unfold intL
  have := decL_len n.natAbs (by omega)
  split
  · rw [List.length_cons]; omega
  · omega
/-- the reference's Dec of any number that fits -/
theorem rdec_calls (n : Int) (h1 : -2147483648 ≤ n) (h2 : n ≤ 2147483647) (w : World) : Calls Tryd.prog 20 #[.int .i64 n] w fun e w' => e = .returned (.string ⟨(intL n).toArray⟩) ∧ Up w w' := by
  by_cases hn : n < 0
  · have e : n = -((n.natAbs : Nat) : Int) := by omega
    have e2 : intL n = 45 :: decL n.natAbs := by unfold intL; rw [if_pos hn]
    rw [e2]
    have := dec_neg n.natAbs (by omega) (by omega) w
    rw [← e] at this
    exact this
  · have e : n = ((n.natAbs : Nat) : Int) := by omega
    have e2 : intL n = decL n.natAbs := by unfold intL; rw [if_neg hn]
    rw [e2]
    have := dec_nat n.natAbs (by omega) w
    rw [← e] at this
    exact this
end Go.Proofs.YtaafelkdhahaoaaDoor.Pob
