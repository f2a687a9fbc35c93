/- What the functions of package fix on whole numbers and roots return, each over all numbers. No condition. -/
import Derived.Test.YtoflafbhfoncmaaDoorFix
import Derived.Test.YtoflafbhfoncmaaDoorBits
namespace Go.Proofs.YtoflafbhfoncmaaDoor.Fix
open Go.ChangeShapes Go.WideShapes Go.ChangeAt Go.RowKit
open Go.Proofs.YtoflafbhfoncmaaDoor.FixM (fits within rnd rndp add sub mul div floor ceiling round truncate fromInt sqrt sqF root near Root)

/-- the bit that a round of 'Sqrt' tries, k rounds ahead of the end -/
def bitAt : Nat → Int
  | 0 => 0
  | k + 1 => 2 ^ k
theorem bitAt_half (k : Nat) : (2 : Int) ^ k / 2 = bitAt k := by
  cases k with
  | zero => decide
  | succ k => simp only [bitAt, Int.pow_succ]; omega

end Go.Proofs.YtoflafbhfoncmaaDoor.Fix
