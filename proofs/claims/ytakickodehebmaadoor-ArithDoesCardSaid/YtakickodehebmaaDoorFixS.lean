/- Sum of package fix: of every list. No condition. -/
import Derived.Test.YtakickodehebmaaDoorFix
import Derived.Test.YtakickodehebmaaDoorSumM
import Derived.Test.YtakickodehebmaaDoorSl
namespace Go.Proofs.YtakickodehebmaaDoor.Fix
open Go.ChangeShapes Go.WideShapes Go.ChangeAt Go.RowKit
open Go.Proofs.YtakickodehebmaaDoor.FixM (fits within rnd rndp add sub mul div sum sumF)
set_option linter.unusedVariables false



end Go.Proofs.YtakickodehebmaaDoor.Fix
