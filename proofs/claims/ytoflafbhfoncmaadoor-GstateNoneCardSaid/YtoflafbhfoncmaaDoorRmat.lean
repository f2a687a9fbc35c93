/- What the reference's functions on matrices return, each over all numbers. No condition. -/
import Derived.Test.YtoflafbhfoncmaaDoorMat
import Derived.Test.YtoflafbhfoncmaaDoorRfix2
namespace Go.Proofs.YtoflafbhfoncmaaDoor.Rmat
open Go.ChangeShapes Go.WideShapes Go.ChangeAt Go.RowKit
open Go.Proofs.YtoflafbhfoncmaaDoor.FixM (fits mul div sub add sum)
open Go.Proofs.YtoflafbhfoncmaaDoor.MatM
set_option linter.unusedVariables false
set_option linter.unusedSimpArgs false

end Go.Proofs.YtoflafbhfoncmaaDoor.Rmat
