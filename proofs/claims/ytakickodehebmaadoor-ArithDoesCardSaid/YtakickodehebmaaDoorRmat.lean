/- What the reference's functions on matrices return, each over all numbers. No condition. -/
import Derived.Test.YtakickodehebmaaDoorMat
import Derived.Test.YtakickodehebmaaDoorRfix2
namespace Go.Proofs.YtakickodehebmaaDoor.Rmat
open Go.ChangeShapes Go.WideShapes Go.ChangeAt Go.RowKit
open Go.Proofs.YtakickodehebmaaDoor.FixM (fits mul div sub add sum)
open Go.Proofs.YtakickodehebmaaDoor.MatM
set_option linter.unusedVariables false
set_option linter.unusedSimpArgs false

end Go.Proofs.YtakickodehebmaaDoor.Rmat
