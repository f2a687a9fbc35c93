/- What the reference's functions on matrices return, each over all numbers. No condition. -/
import Derived.Test.YtonmakmnencihaaDoorMat
import Derived.Test.YtonmakmnencihaaDoorRfix2
namespace Go.Proofs.YtonmakmnencihaaDoor.Rmat
open Go.ChangeShapes Go.WideShapes Go.ChangeAt Go.RowKit
open Go.Proofs.YtonmakmnencihaaDoor.FixM (fits mul div sub add sum)
open Go.Proofs.YtonmakmnencihaaDoor.MatM
set_option linter.unusedVariables false
set_option linter.unusedSimpArgs false

end Go.Proofs.YtonmakmnencihaaDoor.Rmat
