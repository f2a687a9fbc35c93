/- What the reference's functions on whole numbers and roots return, each over all numbers. No condition. -/
import Derived.Test.YtjdbefpfjhdmoaaDoorFix
import Derived.Test.YtjdbefpfjhdmoaaDoorRfix
import Derived.Test.YtjdbefpfjhdmoaaDoorBits
namespace Go.Proofs.YtjdbefpfjhdmoaaDoor.Rfix
open Go.ChangeShapes Go.WideShapes Go.ChangeAt Go.RowKit
open Go.Proofs.YtjdbefpfjhdmoaaDoor.FixM (fits within rnd rndp add sub mul div floor ceiling round truncate fromInt sqrt sqF root near Root)

/-- the reference's two ways round the last unit -/
theorem near_ref (n r : Int) : near n r = if (r + 1) * (r + 1) - n < n - r * r then r + 1 else r := by
  have e : (r + 1) * (r + 1) = r * r + 2 * r + 1 := by
    rw [Int.add_mul, Int.mul_add]; omega
  rw [e, near]
  split <;> split <;> omega

end Go.Proofs.YtjdbefpfjhdmoaaDoor.Rfix
