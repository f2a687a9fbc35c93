/- A path is drawn on. -/
import Derived.Test.YtjdbefpfjhdmoaaDoorPathW3
import Derived.Deep.RegionHeld3
namespace Go.Proofs.YtjdbefpfjhdmoaaDoor.Path
open Go.ChangeShapes Go.WideShapes Go.ChangeAt Go.RowKit
open Go.Proofs.YtjdbefpfjhdmoaaDoor.FixM (fits)
open Go.Proofs.YtjdbefpfjhdmoaaDoor.PathM
set_option linter.unusedVariables false
set_option linter.unusedSimpArgs false

end Go.Proofs.YtjdbefpfjhdmoaaDoor.Path
