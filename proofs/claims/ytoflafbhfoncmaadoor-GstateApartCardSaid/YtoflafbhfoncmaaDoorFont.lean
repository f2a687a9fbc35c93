/- What the functions of package font return, and the reference's, each over all numbers and letters. No condition. -/
import Derived.Test.YtoflafbhfoncmaaDoorRows
import Derived.Test.YtoflafbhfoncmaaDoorBase
import Derived.Test.YtoflafbhfoncmaaDoorFontM
import Derived.Test.YtoflafbhfoncmaaDoorStr
import Derived.BigQuiet
import Derived.Deep.QuietTactic
import Derived.Handy
namespace Go.Proofs.YtoflafbhfoncmaaDoor.Font
open Go.ChangeShapes Go.WideShapes Go.ChangeAt Go.RowKit
open Go.Proofs.YtoflafbhfoncmaaDoor.FontM


theorem inside_no {i c : Int} (h : inside i c = false) : decide (i < 0) = true ∨ (decide (i < 0) = false ∧ decide (14 ≤ i) = true ∧ decide (13 < i) = true) ∨ (decide (i < 0) = false ∧ decide (14 ≤ i) = false ∧ decide (13 < i) = false ∧ decide (c < 32) = true) ∨ (decide (i < 0) = false ∧ decide (14 ≤ i) = false ∧ decide (13 < i) = false ∧ decide (c < 32) = false ∧ decide (126 < c) = true) := by
  simp only [inside, Bool.and_eq_false_iff, decide_eq_false_iff_not, decide_eq_true_eq] at *
  omega
theorem inside_yes {i c : Int} (h : inside i c = true) : decide (i < 0) = false ∧ decide (14 ≤ i) = false ∧ decide (13 < i) = false ∧ decide (c < 32) = false ∧ decide (126 < c) = false ∧ 0 ≤ i ∧ i ≤ 13 ∧ 32 ≤ c ∧ c ≤ 126 := by
  simp only [inside, Bool.and_eq_true, decide_eq_false_iff_not, decide_eq_true_eq] at *
  omega

end Go.Proofs.YtoflafbhfoncmaaDoor.Font
