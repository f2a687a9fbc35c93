/- What the functions that join and invert matrices return, in package mat and in its reference, each over all numbers. No condition. -/
import Derived.Test.YtonmakmnencihaaDoorMat
import Derived.Test.YtonmakmnencihaaDoorRmat
import Derived.Test.YtonmakmnencihaaDoorMatM2
namespace Go.Proofs.YtonmakmnencihaaDoor.Mat2
open Go.ChangeShapes Go.WideShapes Go.ChangeAt Go.RowKit
open Go.Proofs.YtonmakmnencihaaDoor.FixM (fits mul div sub add sum sqrt)
open Go.Proofs.YtonmakmnencihaaDoor.MatM
set_option linter.unusedVariables false
set_option linter.unusedSimpArgs false

theorem rinfo6 : (Tryd.prog.info? 22).map (·.size) = some 6 := by kernel_rfl

end Go.Proofs.YtonmakmnencihaaDoor.Mat2
