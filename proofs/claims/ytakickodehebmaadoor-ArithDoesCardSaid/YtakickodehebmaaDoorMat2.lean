/- What the functions that join and invert matrices return, in package mat and in its reference, each over all numbers. No condition. -/
import Derived.Test.YtakickodehebmaaDoorMat
import Derived.Test.YtakickodehebmaaDoorRmat
import Derived.Test.YtakickodehebmaaDoorMatM2
namespace Go.Proofs.YtakickodehebmaaDoor.Mat2
open Go.ChangeShapes Go.WideShapes Go.ChangeAt Go.RowKit
open Go.Proofs.YtakickodehebmaaDoor.FixM (fits mul div sub add sum sqrt)
open Go.Proofs.YtakickodehebmaaDoor.MatM
set_option linter.unusedVariables false
set_option linter.unusedSimpArgs false

theorem info6 : (Tryd.prog.info? 76).map (·.size) = some 6 := by kernel_rfl

end Go.Proofs.YtakickodehebmaaDoor.Mat2
