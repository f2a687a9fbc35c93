/- A path is drawn on. -/
import Derived.Test.YteddlahklilncaaDoorPathW3
import Derived.Deep.RegionHeld3
namespace Go.Proofs.YteddlahklilncaaDoor.Path
open Go.ChangeShapes Go.WideShapes Go.ChangeAt Go.RowKit
open Go.Proofs.YteddlahklilncaaDoor.FixM (fits)
open Go.Proofs.YteddlahklilncaaDoor.PathM
set_option linter.unusedVariables false
set_option linter.unusedSimpArgs false

end Go.Proofs.YteddlahklilncaaDoor.Path
